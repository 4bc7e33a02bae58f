/- A part of the proof that PairChecks returns true for every input; no condition of its own. -/
import Derived.Test.YtblnjkjjedanaaaGreatDoorTam
set_option linter.all false
set_option maxHeartbeats 100000000
set_option maxRecDepth 100000
open List renaming not_mem_nil->aS7,mem_cons->aMc
namespace Go.Proofs.YtblnjkjjedanaaaGreatDoor
open Go Dv Dv.b7
open Go.Proofs.kY
variable{E:Env}[C:Ctx E]
theorem ux{k d:Int}{cl:Bool}{a0 a1 a2 b0 b1 b2 h:List UInt8}(hk:0<=k/\k<=8)(hd:k≠8->d=BS k)(hd8:k=8->2<=d/\d<=5)(h7:k=7->cl=true)(hF:su (Rv k) (TC k) (Zj k) a0 a1 a2 b0 b1 b2 h=0):qS k d cl a0 a1 a2 b0 b1 b2 h=0:=by
 unfold qS;rw[if_neg (by simpa using hk),if_neg,if_neg]
 ·exact hF
 ·rintro⟨e,h2⟩;rw[h7 e]at h2;cases h2
 ·rintro(⟨e,h2⟩|⟨e,h2⟩)
  ·exact h2 (hd e)
  ·have:=hd8 e;omega
theorem ZC{a:V3}{k:Nat}(ba:BV k a)(hk:k<=98000)(dY:a≠v0)(hl:eM a=a):su true false false (dh a.x) (dh a.y) (dh a.z) [] [] [] []=0:=by obtain⟨h1,h2⟩:=FT ba hk;unfold su dM cU;simp only[if_true,h1,h2];rw[if_neg (by simp),if_neg (by rintro⟨-,h|h⟩;exact dY h;exact h hl)];rfl
theorem agw{p:V3}{k:Nat}(bp:BV k p)(hk:k<=98000):su false true false [] [] [] (dh p.x) (dh p.y) (dh p.z) []=0:=by obtain⟨h1,h2⟩:=FT bp hk;unfold su dM cU;simp only[if_true,h1,h2];rfl
theorem Jy{a p:V3}{k:Nat}(ba:BV k a)(bp:BV k p)(hk:k<=98000)(dY:a≠v0)(hl:eM a=a)(aAh:mu a p=0){pi:Bool}{h:List UInt8}(hp:jB pi h=0):su true true pi (dh a.x) (dh a.y) (dh a.z) (dh p.x) (dh p.y) (dh p.z) h=0:=by obtain⟨h1,h2⟩:=FT ba hk;obtain⟨h3,h4⟩:=FT bp hk;unfold su dM cU;simp only[if_true,h1,h2,h3,h4];rw[if_neg (by simp),if_neg (by rintro⟨-,h|h⟩;exact dY h;exact h hl),if_neg (by simp),if_neg (by rintro⟨-,-,h⟩;exact h aAh)];exact hp
theorem A9{a:V3}{c:Rat}(dY:a≠v0)(hc:c≠0)(h:eM a=dW c a):eM a≠v0:=by
 intro e;rw[h]at e;apply dY;obtain⟨x,y,z⟩:=a;unfold dW v0 at e;simp only[V3.mk.injEq]at e;obtain⟨e1,e2,e3⟩:=e;have hz:∀q:Rat,c*q=0->q=0:=fun q hq=>by
  rcases Rat.mul_eq_zero.1 hq with h|h
  ·exact absurd h hc
  ·exact h
 rw[hz x e1,hz y e2,hz z e3];rfl
theorem GC{t:Tw}{c:Rat}(h:eM t.a=dW c t.a):mu (eM t.a) (om t)=0:=by
 rw[h];unfold om;obtain⟨⟨ax,ay,az⟩,lx,ly,lz⟩:=t;generalize((1:Int):Rat)/_=r;unfold mu dW dH;simp only
 grind
def YI(r:AV)(free:Prop):Prop:=∃k d a0 a1 a2 b0 b1 b2 h,r=bO k d true a0 a1 a2 b0 b1 b2 h/\(∀s∈[a0,a1,a2,b0,b1,b2,h],s.length<=65536)/\(k=7->free)/\∀cl,(k=7->cl=true)->qS k d cl a0 a1 a2 b0 b1 b2 h=0
theorem ZI{G:List (List Rat)}{r:AV}{P:Nat->Nat}{B:Nat}(h:Jx G r)(hw:nJ G 6)(hE:rN 6 G.length (fun i=>iN G i) P (gy (SR G.length (rf G))))(Oz:CB B G.length (rf G))(hB:G.length<=3->B<=7500):YI r (G.length=6):=by
 have TW:∀s∈[([]:List UInt8),[],[],[],[],[],[]],s.length<=65536:=by
  intro s hs;simp only[aMc,aS7,or_false]at hs;rcases hs with rfl|rfl|rfl|rfl|rfl|rfl|rfl<;>exact Nat.zero_le _
 rcases h with⟨h0,rfl⟩|⟨h0,rfl⟩|⟨h0,h1,rfl⟩|⟨h0,k,a0,a1,a2,b0,b1,b2,h,hj,rfl⟩|⟨h0,hz,k,a0,a1,a2,b0,b1,b2,h,hj,rfl⟩|⟨h0,hz,k,a0,a1,a2,b0,b1,b2,h,hj,rfl⟩
 ·exact⟨0,0,[],[],[],[],[],[],[],rfl,TW,fun e=>absurd e (by decide),fun cl _=>ux (by decide) (fun _=>rfl) (fun e=>absurd e (by decide)) (fun e=>absurd e (by decide)) rfl⟩
 ·exact⟨7,6,[],[],[],[],[],[],[],rfl,TW,fun _=>h0,fun cl hc=>ux (by decide) (fun _=>rfl) (fun e=>absurd e (by decide)) hc rfl⟩
 ·exact⟨8,G.length,[],[],[],[],[],[],[],rfl,TW,fun e=>absurd e (by decide),fun cl _=>ux (by decide) (fun e=>absurd rfl e) (fun _=>by omega) (fun e=>absurd e (by decide)) rfl⟩
 ·have hBB:=hB (by omega);have dY:=YJ hE (by omega);obtain⟨D,n0,n1,n2,m0,m1,m2,fa,fl,bD,G6,Hg,GB,G3,Hb,E7⟩:=I3 (Oz.row (i:=0) (by omega));unfold sZ at hj;by_cases hz:(dS (row G 0)).a=v0
  ·rw[if_pos hz]at hj;have hlz:(dS (row G 0)).l≠v0:=fun e=>dY ⟨hz,e⟩
   obtain⟨u0,u1,u2,hi,e0,e1,e2,⟨c,hc,rm⟩,hid⟩:=tM fl hlz;have bu:=vS (B:=B) (u0:=u0) (u1:=u1) (u2:=u2) (by omega) (by omega) (by omega);rw[<-hi.e]at bu;unfold bO at hj;simp only[AV.agg.injEq,List.cons.injEq,AV.int.injEq,AV.str.injEq,true_and,and_true]at hj;obtain⟨rfl,rfl,rfl,rfl,rfl,rfl,rfl,rfl⟩:=hj;refine⟨2,1,_,_,_,[],[],[],[],rfl,?_,fun e=>absurd e (by decide),fun cl _=>ux (by decide) (fun _=>rfl) (fun e=>absurd e (by decide)) (fun e=>absurd e (by decide)) (ZC bu (by omega) (A9 hlz hc rm) hid)⟩;simp only[aMc,aS7,or_false,forall_eq_or_imp,forall_eq];exact⟨cI bu.1 (by omega),cI bu.2.1 (by omega),cI bu.2.2 (by omega),by simp,by simp,by simp,by simp⟩
  ·rw[if_neg hz]at hj;obtain⟨u0,u1,u2,N,p0,p1,p2,q,hu,Ly,NY,NC,hN,bN,hp,hh,bp0,bp1,bp2,bq,⟨c,hc,rm⟩,hid⟩:=Eo fa fl G6 Hg GB G3 Hb E7 hz;have bu:=vS Ly NY NC;have bp:=x5 (B:=B) hN bN (p0:=p0) (p1:=p1) (p2:=p2) (by omega) (by omega) (by omega);have bh:Bq (2*B+3) ((q:Rat)/N):=(x5 (B:=B) hN bN (p0:=q) (p1:=q) (p2:=q) bq bq bq).1;rw[<-hu]at bu;rw[<-hp]at bp;rw[<-hh]at bh;have bu':BV (2*B+3) (eM (dS (row G 0)).a):=bu.mono (by omega);by_cases pY:oh (dS (row G 0))=0
   ·rw[if_pos pY]at hj;unfold bO at hj;simp only[AV.agg.injEq,List.cons.injEq,AV.int.injEq,AV.str.injEq,true_and,and_true]at hj;obtain⟨rfl,rfl,rfl,rfl,rfl,rfl,rfl,rfl⟩:=hj;refine⟨1,1,_,_,_,_,_,_,[],rfl,?_,fun e=>absurd e (by decide),fun cl _=>ux (by decide) (fun _=>rfl) (fun e=>absurd e (by decide)) (fun e=>absurd e (by decide)) (Jy bu' bp (by omega) (A9 hz hc rm) hid (GC rm) rfl)⟩;simp only[aMc,aS7,or_false,forall_eq_or_imp,forall_eq];exact⟨cI bu.1 (by omega),cI bu.2.1 (by omega),cI bu.2.2 (by omega),cI bp.1 (by omega),cI bp.2.1 (by omega),cI bp.2.2 (by omega),by simp⟩
   ·rw[if_neg pY]at hj;unfold bO at hj;simp only[AV.agg.injEq,List.cons.injEq,AV.int.injEq,AV.str.injEq,true_and,and_true]at hj;obtain⟨rfl,rfl,rfl,rfl,rfl,rfl,rfl,rfl⟩:=hj;have pX:cN 65536 (dh (oh (dS (row G 0))))=0:=oG bh (by omega);refine⟨3,1,_,_,_,_,_,_,_,rfl,?_,fun e=>absurd e (by decide),fun cl _=>ux (by decide) (fun _=>rfl) (fun e=>absurd e (by decide)) (fun e=>absurd e (by decide)) (Jy bu' bp (by omega) (A9 hz hc rm) hid (GC rm) ?_)⟩
    ·simp only[aMc,aS7,or_false,forall_eq_or_imp,forall_eq];exact⟨cI bu.1 (by omega),cI bu.2.1 (by omega),cI bu.2.2 (by omega),cI bp.1 (by omega),cI bp.2.1 (by omega),cI bp.2.2 (by omega),cI bh (by omega)⟩
    ·show jB true _=0
     unfold jB;simp only[pX,rh];simp[pY]
 ·have hBB:=hB (by omega);obtain⟨D,n0,n1,n2,m0,m1,m2,fa,fl,bD,G6,Hg,GB,G3,Hb,E7⟩:=I3 (Oz.row (i:=0) (by omega));obtain⟨u0,u1,u2,N,p0,p1,p2,q,hu,Ly,NY,NC,hN,bN,hp,hh,bp0,bp1,bp2,bq,⟨c,hc,rm⟩,hid⟩:=Eo fa fl G6 Hg GB G3 Hb E7 hz;have bu:=vS Ly NY NC;have bp:=x5 (B:=B) hN bN (p0:=p0) (p1:=p1) (p2:=p2) (by omega) (by omega) (by omega);rw[<-hu]at bu;rw[<-hp]at bp;have bu':BV (2*B+3) (eM (dS (row G 0)).a):=bu.mono (by omega);unfold Cp bO at hj;simp only[AV.agg.injEq,List.cons.injEq,AV.int.injEq,AV.str.injEq,true_and,and_true]at hj;obtain⟨rfl,rfl,rfl,rfl,rfl,rfl,rfl,rfl⟩:=hj;refine⟨4,2,_,_,_,_,_,_,[],rfl,?_,fun e=>absurd e (by decide),fun cl _=>ux (by decide) (fun _=>rfl) (fun e=>absurd e (by decide)) (fun e=>absurd e (by decide)) (Jy bu' bp (by omega) (A9 hz hc rm) hid (GC rm) rfl)⟩;simp only[aMc,aS7,or_false,forall_eq_or_imp,forall_eq];exact⟨cI bu.1 (by omega),cI bu.2.1 (by omega),cI bu.2.2 (by omega),cI bp.1 (by omega),cI bp.2.1 (by omega),cI bp.2.2 (by omega),by simp⟩
 ·have hBB:=hB (by omega);rcases hj with hj|hj
  ·obtain⟨D,A,d0,d1,d2⟩:=Oz;have e1:=d2 1 (by omega) 5;have e2:=d2 2 (by omega) 3;have e3:=d2 0 (by omega) 4;have hx:(dS (row G 1)).l.z=(A 1 5:Rat)/D:=e1.1;have hy:(dS (row G 2)).l.x=(A 2 3:Rat)/D:=e2.1;have HK:(dS (row G 0)).l.y=(A 0 4:Rat)/D:=e3.1;have bp:BV (B+1) ⟨(A 1 5:Rat)/D,(A 2 3:Rat)/D,(A 0 4:Rat)/D⟩:=⟨fO d0 e1.2 d1,fO d0 e2.2 d1,fO d0 e3.2 d1⟩;unfold FP bO at hj;rw[hx,hy,HK]at hj;simp only[AV.agg.injEq,List.cons.injEq,AV.int.injEq,AV.str.injEq,true_and,and_true]at hj;obtain⟨rfl,rfl,rfl,rfl,rfl,rfl,rfl,rfl⟩:=hj;refine⟨5,3,[],[],[],_,_,_,[],rfl,?_,fun e=>absurd e (by decide),fun cl _=>ux (by decide) (fun _=>rfl) (fun e=>absurd e (by decide)) (fun e=>absurd e (by decide)) (agw bp (by omega))⟩;simp only[aMc,aS7,or_false,forall_eq_or_imp,forall_eq];exact⟨by simp,by simp,by simp,cI bp.1 (by omega),cI bp.2.1 (by omega),cI bp.2.2 (by omega),by simp⟩
  ·obtain⟨D,n0,n1,n2,m0,m1,m2,fa,fl,bD,G6,Hg,GB,G3,Hb,E7⟩:=I3 (Oz.row (i:=0) (by omega));obtain⟨u0,u1,u2,hi,e0,e1,e2,⟨c,hc,rm⟩,hid⟩:=tM fa hz;have bu:=vS (B:=B) (u0:=u0) (u1:=u1) (u2:=u2) (by omega) (by omega) (by omega);rw[<-hi.e]at bu;unfold zE bO at hj;simp only[AV.agg.injEq,List.cons.injEq,AV.int.injEq,AV.str.injEq,true_and,and_true]at hj;obtain⟨rfl,rfl,rfl,rfl,rfl,rfl,rfl,rfl⟩:=hj;refine⟨6,3,_,_,_,[],[],[],[],rfl,?_,fun e=>absurd e (by decide),fun cl _=>ux (by decide) (fun _=>rfl) (fun e=>absurd e (by decide)) (fun e=>absurd e (by decide)) (ZC bu (by omega) (A9 hz hc rm) hid)⟩;simp only[aMc,aS7,or_false,forall_eq_or_imp,forall_eq];exact⟨cI bu.1 (by omega),cI bu.2.1 (by omega),cI bu.2.2 (by omega),by simp,by simp,by simp,by simp⟩
end Go.Proofs.YtblnjkjjedanaaaGreatDoor
namespace Go.Proofs.YtblnjkjjedanaaaGreatDoor
namespace X1
open Go Dv
def R6:List Nat:=(List.range 300).filter fun f=>f !=4&&f !=13&&f !=40
noncomputable def EX:Env:={E0 with fn:=Qm Tryz.prog [40] [] R6,ov:=fun f l=>if f=4∨f=13∨f=40 then none else aP E0 f l}
theorem aeX:EX.ty=E0.ty:=by simp only[EX]
theorem W1:EX.pairs=E0.pairs:=by simp only[EX]
theorem afL:EX.fn=Qm Tryz.prog [40] [] R6:=by simp only[EX]
theorem WT:EX.sj=fun _ _ _=>none:=by simp only[EX,E0]
theorem Z7:EX.ov=fun f l=>if f=4∨f=13∨f=40 then none else aP E0 f l:=by simp only[EX]
attribute [irreducible] R6
class ou(E:Env):Prop where
 e:E=EX
section
variable{E:Env}
theorem ou.ty(C:ou E):E.ty=E0.ty:=by rw[C.e,aeX]
theorem ou.pairs(C:ou E):E.pairs=E0.pairs:=by rw[C.e,W1]
theorem ou.fn(C:ou E):E.fn=EX.fn:=by rw[C.e]
theorem ou.sj(C:ou E):E.sj=fun _ _ _=>none:=by rw[C.e,WT]
theorem ou.ov(C:ou E){f:Nat}{l:List AV}(h:f=4∨f=13∨f=40):E.ov f l=none:=by rw[C.e,Z7];exact if_pos h
theorem tr [C:ou E]{f:Nat}{l:List AV}{r:AV}(hf:(f !=4&&f !=13&&f !=40)=true)(h:aP E0 f l=some r):aP E f l=some r:=by
 have hf':¬(f=4∨f=13∨f=40):=by simp only[Bool.and_eq_true,bne_iff_ne,ne_eq]at hf;omega
 have ho:E.ov f l=some r:=by rw[C.e,Z7];exact(if_neg hf').trans h
 refine eh ⟨fun fi mI=>?_,0,?_⟩
 ·rw[C.e]at mI;rw[afL]at mI;unfold Qm at mI;split at mI
  ·cases mI
  ·split at mI
   ·split at mI
    ·simp only[Option.some.injEq]at mI;rw[<-mI]
     have:([40]:List Nat).contains f=false:=by
      simp only[List.contains_cons,List.contains_nil,Bool.or_false,beq_eq_false_iff_ne];exact fun h=>hf' (.inr (.inr h))
     show(!([40]:List Nat).contains f)=true
     rw[this];rfl
    ·cases mI
   ·cases mI
 ·show call E 0 f l=some r
  unfold call pK;rw[ho]
theorem Bg(C:ou E){t:Nat}{x}(h:sG E0 t=some x):sG E t=some x:=by unfold sG at h⊢;rw[C.ty];exact h
theorem sw(C:ou E){t:Nat}{v:AV}(h:fR E0 t=some v):fR E t=some v:=by unfold fR at h⊢;rw[C.ty];exact h
theorem jJ(C:ou E){t:Nat}{x}(h:ek E0 t=some x):ek E t=some x:=by unfold ek at h⊢;rw[C.ty];exact h
theorem lA(C:ou E){t f:Nat}{x}(h:fE E0 t f=some x):fE E t f=some x:=by unfold fE at h⊢;rw[C.ty];exact h
theorem Ak(C:ou E){t:Nat}{x}(h:gv E0 t=some x):gv E t=some x:=by unfold gv at h⊢;rw[C.ty];exact h
theorem zC(C:ou E){t:Nat}{x}(h:eu E0 t=some x):eu E t=some x:=by unfold eu at h⊢;rw[C.ty];exact h
theorem v8(C:ou E){t:Nat}{x}(h:vX E0 t=some x):vX E t=some x:=by unfold vX at h⊢;rw[C.ty];exact h
theorem MC(C:ou E){t:Nat}(h:ll E0 t=true):ll E t=true:=by unfold ll at h⊢;rw[C.ty];exact h
theorem K0(C:ou E){t:Nat}(h:isBool E0 t=true):isBool E t=true:=by unfold isBool at h⊢;rw[C.ty];exact h
theorem Eh(C:ou E){t:Nat}{x}(h:iI E0 t=some x):iI E t=some x:=by unfold iI at h⊢;rw[C.ty];exact h
theorem bS(C:ou E){f:Nat}{b:Bool}(h:bQ EX f=b):bQ E f=b:=by unfold bQ at h⊢;rw[C.fn];exact h
theorem zU(C:ou E){f:Nat}{b:Bool}(h:ku EX f=b):ku E f=b:=by unfold ku at h⊢;rw[C.fn];exact h
theorem eR(C:ou E){i n:Nat}{l:List (Nat×Nat)}(h:Ra i n=l):E.pairs i n=l:=by rw[C.pairs];exact h
end
end X1
end Go.Proofs.YtblnjkjjedanaaaGreatDoor
