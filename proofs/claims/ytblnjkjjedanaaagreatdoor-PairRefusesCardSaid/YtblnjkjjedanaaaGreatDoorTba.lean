/- A part of the proof that PairRefuses returns true for every input; no condition of its own. -/
import Derived.Test.YtblnjkjjedanaaaGreatDoorTaz
set_option linter.all false
set_option maxHeartbeats 100000000
set_option maxRecDepth 100000
open List renaming length_append->aMk,getElem?_eq_getElem->aMh,getD_eq_getElem?_getD->aSW,length_map->aOT,eq_nil_of_length_eq_zero->aVC,append_assoc->aS1,length_singleton->aWX,getElem?_eq_none->aLB,length_cons->aMn,getElem?_append_left->aOB,take_length->aR7,flatMap_cons->aNs,drop_zero->aQh,getElem?_map->aNe,ext_getElem?->aOg,cons_append->aP4
open Rat renaming mul_eq_zero->aYs
open Nat renaming add_assoc->aLt,reduceLT->aa,reduceEqDiff->ae,reduceAdd->ah,reduceLeDiff->ai,reduceBEq->aj,reduceMul->ak
open Option renaming some->aLv
open Int renaming reduceLE->an,reduceLT->ao,reduceToNat->aq,reduceAdd->aA,reduceBEq->aD,reduceBNe->aE
namespace Go.Proofs.YtblnjkjjedanaaaGreatDoor
open Go Dv Dv.bV
open Go.Proofs.dN
variable{E:Env}[C:Ctx E]
set_option maxRecDepth 100000
theorem OX{i:Nat}(hi:i<3):∃r,aO E 113 [.int .i64 (i:Int)]=some r/\fS r (eV i):=by
 obtain e|e|e:i=0∨i=1∨i=2:=by omega
 ·subst e;obtain⟨a,ha,ia⟩:=FC (E:=E) (x:=1) (y:=0) (z:=0) (by omega) (by omega) (by omega) (by omega) (by omega) (by omega);obtain⟨kH,kr,kI,ku,me,lO,mf,lP,mh,lQ,mi,lR,rfl,-,-,-,P,O⟩:=cD ia;refine mO VD ?_;intro ts hl g0;unfold ZT;simp only[↓aQ,aR,↓aT,aK,↓reduceIte,aa,ah,ae,an,ao,aq,Tryz.f113,ai,hl,g0,ha,P,O];exact ia
 ·subst e;obtain⟨a,ha,ia⟩:=FC (E:=E) (x:=0) (y:=1) (z:=0) (by omega) (by omega) (by omega) (by omega) (by omega) (by omega);obtain⟨kH,kr,kI,ku,me,lO,mf,lP,mh,lQ,mi,lR,rfl,-,-,-,P,O⟩:=cD ia;refine mO VD ?_;intro ts hl g0;unfold ZT;simp only[↓aQ,aR,↓aT,aK,↓reduceIte,aa,ah,ae,an,ao,aq,Tryz.f113,ai,hl,g0,ha,P,O];exact ia
 ·subst e;obtain⟨a,ha,ia⟩:=FC (E:=E) (x:=0) (y:=0) (z:=1) (by omega) (by omega) (by omega) (by omega) (by omega) (by omega);obtain⟨kH,kr,kI,ku,me,lO,mf,lP,mh,lQ,mi,lR,rfl,-,-,-,P,O⟩:=cD ia;refine mO VD ?_;intro ts hl g0;unfold ZT;simp only[↓aQ,aR,↓aT,aK,↓reduceIte,aa,ah,ae,an,ao,aq,Tryz.f113,hl,g0,ha,P,O];exact ia
theorem Te{x:Rat}(h:x*x=0):x=0:=by
 rcases aYs.1 h with h|h<;>exact h
theorem cr0(D:V3):bX D (eV 0)=⟨0,D.z,-D.y⟩:=by
 unfold bX eV e0V;simp only;congr 1<;>grind
theorem Z1(D:V3):bX D (eV 1)=⟨-D.z,0,D.x⟩:=by
 unfold bX eV e1V;simp only;congr 1<;>grind
theorem agx(D:V3):bX D (eV 2)=⟨D.y,-D.x,0⟩:=by
 unfold bX eV e2V;simp only;congr 1<;>grind
theorem Pg{D:V3}(h:∀j,j<3->bX D (eV j)=v0):D=v0:=by
 have h0:=h 0 (by omega);have h1:=h 1 (by omega);rw[cr0]at h0;rw[Z1]at h1;unfold v0 at*;simp only[V3.mk.injEq]at h0 h1;obtain⟨x,y,z⟩:=D;simp only at h0 h1;simp only[V3.mk.injEq];exact⟨h1.2.2,by have:=h0.2.2;grind,h0.2.1⟩
theorem S5{D:V3}{m:Nat}(hm:m<3)(dM:bX D (eV m)≠v0)(h:∀j,j<3->bX (bX D (eV j)) (bX D (eV m))=v0):False:=by
 obtain⟨x,y,z⟩:=D;have h0:=h 0 (by omega);have h1:=h 1 (by omega);have h2:=h 2 (by omega);rw[cr0]at h0;rw[Z1]at h1;rw[agx]at h2;obtain e|e|e:m=0∨m=1∨m=2:=by omega
 ·subst e;rw[cr0]at dM h1 h2;unfold bX v0 at*;simp only[V3.mk.injEq]at*;have a:z=0:=Te (by grind);have b:y=0:=Te (by grind);exact dM (by subst a b;congr 1<;>grind)
 ·subst e;rw[Z1]at dM h0 h2;unfold bX v0 at*;simp only[V3.mk.injEq]at*;have a:z=0:=Te (by grind);have b:x=0:=Te (by grind);exact dM (by subst a b;congr 1<;>grind)
 ·subst e;rw[agx]at dM h0 h1;unfold bX v0 at*;simp only[V3.mk.injEq]at*;have a:y=0:=Te (by grind);have b:x=0:=Te (by grind);exact dM (by subst a b;congr 1<;>grind)
theorem Ib(a:V3):bX v0 a=v0:=by
 unfold bX v0;simp only;congr 1<;>grind
def AG(D:V3)(ts:List Tw):Prop:=∃i j,i<3/\j<3/\ts=[gd D v0,gI (bX D (eV i)),gI (bX D (eV j))]/\bX D (eV i)≠v0/\bX D (eV j)≠v0/\bX (bX D (eV j)) (bX D (eV i))≠v0
def Rv(D:V3)(i:Nat)(rest:List Tw):Prop:=(rest=[]/\∀j,j<i->bX D (eV j)=v0)∨(∃m,m<i/\rest=[gI (bX D (eV m))]/\bX D (eV m)≠v0/\∀j,j<i->bX (bX D (eV j)) (bX D (eV m))=v0)∨∃m j,m<i/\j<i/\rest=[gI (bX D (eV m)),gI (bX D (eV j))]/\bX D (eV m)≠v0/\bX D (eV j)≠v0/\bX (bX D (eV j)) (bX D (eV m))≠v0
theorem Rv.done{D:V3}{i:Nat}{rest:List Tw}(h:Rv D i rest)(hD:D≠v0)(hi:i<=3)(he:i=3∨2<=rest.length):AG D (gd D v0::rest):=by
 rcases h with⟨rfl,h⟩|⟨m,h1,rfl,h2,h3⟩|⟨m,j,h1,h2,rfl,h3,h4,h5⟩
 ·rcases he with rfl|he
  ·exact absurd (Pg h) hD
  ·simp at he
 ·rcases he with rfl|he
  ·exact(S5 h1 h2 h3).elim
  ·simp at he
 ·exact⟨m,j,by omega,by omega,rfl,h3,h4,h5⟩
theorem Rv.zero{D:V3}{i:Nat}{rest:List Tw}(h:Rv D i rest)(hz:bX D (eV i)=v0):Rv D (i+1) rest:=by
 rcases h with⟨rfl,h⟩|⟨m,h1,rfl,h2,h3⟩|⟨m,j,h1,h2,h6⟩
 ·exact .inl ⟨rfl,fun j hj=>if e:j=i then e▸hz else h j (by omega)⟩
 ·exact .inr (.inl ⟨m,by omega,rfl,h2,fun j hj=>if e:j=i then by rw[e,hz,Ib]else h3 j (by omega)⟩)
 ·exact .inr (.inr ⟨m,j,by omega,by omega,h6⟩)
theorem LB{d:Int}{cl:Bool}{a0 a1 a2 b0 b1 b2 h:List UInt8}(la0:a0.length<=65536)(la1:a1.length<=65536)(la2:a2.length<=65536)(lb0:b0.length<=65536)(lb1:b1.length<=65536)(lb2:b2.length<=65536)(lh:h.length<=65536){k:Nat}(bd:BV k (fN 65536 a0 a1 a2))(Ol:k<=10000000)(hD0:fN 65536 a0 a1 a2≠v0):
  ∃u tws,aO E 71 [cw 6 d cl a0 a1 a2 b0 b1 b2 h]=some u/\yE u tws/\AG (fN 65536 a0 a1 a2) tws:=by
 suffices hh:∃u,aO E 71 [cw 6 d cl a0 a1 a2 b0 b1 b2 h]=some u/\∃tws,yE u tws/\AG (fN 65536 a0 a1 a2) tws by
  obtain⟨u,h1,tws,h2⟩:=hh;exact⟨u,tws,h1,h2⟩
 obtain⟨x,hx,ix⟩:=eu (E:=E) (s0:=a0) (s1:=a1) (s2:=a2) (by omega) (by omega) (by omega);obtain⟨y,hy,iy⟩:=eu (E:=E) (s0:=b0) (s1:=b1) (s2:=b2) (by omega) (by omega) (by omega);obtain⟨w,hw,iw⟩:=kn (E:=E) (s:=h) (by omega);obtain⟨D,hD⟩:∃D,D=fN 65536 a0 a1 a2:=⟨_,rfl⟩;rw[<-hD]at ix bd hD0⊢;have bz:BV 1 v0:=⟨yk,yk,yk⟩;obtain⟨t0,ht0,it0⟩:=lk (E:=E) ix CW bd bz (by omega);obtain⟨c0,rfl,aob,aFT,aFU⟩:=oD it0;obtain⟨kH,kr,kI,ku,me,lO,mf,lP,mh,lQ,mi,lR,rfl,-,-,-,P,O⟩:=cD ix;obtain⟨nk,nh,nu,nj,nS,nO,nT,nP,nU,nQ,nV,nR,rfl,-,-,-,P1,O1⟩:=cD iy;obtain⟨Y1,YZ,Y2,Y0,_,_,rfl,-,-,-,-⟩:=bR iw;have W:=aU _ iw;have awC:∀aM,aW E aM 70 1 [(0,AV.agg c0)]=some (.aI aM 0 1 24 1,[(aM,.cells .live c0)]):=fun aM=>gE uo rfl (by decide) (by decide) aob
 have jr:=fun(tws:List Tw) (bT:TT (2*(k+1)+k+5) tws) (h6:tws.length<=6) (HC:Hp) v cs hs hT (G:AV->Prop) hG (ts:List AV) hl g9=>oV (E:=E) (tws:=tws) (lo:=0) bT (by omega) h6 (HC:=HC) (v:=v) (cs:=cs) hs hT (G:=G) hG (ts:=ts) hl g9
 refine mO RX ?_;intro ts hl g0;rw[re];generalize uP=TL at jr⊢
 dsimp only[qH,sb,MV,Tryz.f71]
 unfold cw at*;simp only[↓aQ,aR,↓aT,aK,↓reduceIte,aa,ah,ae,ai,aD,hl,g0,hx,hy,hw,P,O,O1,W,ht0,awC];refine fh (fun k_ ts H=>∃i v HC m cs rest,k_=3-i/\ts.length=155/\gt ts 3=.b6 1 0/\gt ts 9=v/\gt ts 10=.int .i64 (i:Int)/\H=HC/\(i<=3)/\(4<=HC.length)/\(HC[1]?=some (.cells .live [.bool kH,kr,.bool kI,ku,.bool me,lO,.bool mf,lP,.bool mh,lQ,.bool mi,lR]))/\(u7 24 4 v HC m cs)/\(m=rest.length+1/\rest.length<=2)/\(ve cs (gd D v0::rest))/\(Rv D i rest)) (3) ?_ ?_
 rotate_left
 ·refine⟨0,(.aI 4 0 1 24 1),[.cells .live [.int .i64 6,.int .i64 d,.bool cl,.str a0,.str a1,.str a2,.str b0,.str b1,.str b2,.str h],.cells .live [.bool kH,kr,.bool kI,ku,.bool me,lO,.bool mf,lP,.bool mh,lQ,.bool mi,lR],.cells .live [.bool nk,nh,.bool nu,nj,.bool nS,nO,.bool nT,nP,.bool nU,nQ,.bool nV,nR],.cells .live [.bool Y1,YZ,.bool Y2,Y0],.cells .live c0],1,c0,[],(by first|omega|rfl|(simp;done)),(by simp only[cK,hl]),?_⟩;simp only[cM,hl,aa,ae]
  iterate 4 refine⟨by first|trivial|rfl|(congr 1;omega)|(simp;done)|(simp;omega),?_⟩
  refine⟨?_,?_,?_,?_,?_,?_,?_⟩
  ·omega
  ·simp
  ·rfl
  ·exact .inr ⟨by omega,4,by omega,by simp,rfl,rfl⟩
  ·exact⟨rfl,by simp⟩
  ·exact ve.one it0 aob
  ·exact .inl ⟨rfl,fun j hj=>absurd hj (by omega)⟩
 clear hl g0 ts;rintro k_ ts H ⟨i,v,HC,m,cs,rest,rfl,hl,g3,g9,g10,rfl,hi,hCl,Zk,vL,hm,hT,fK⟩;refine VS ?_;have aL1:=fun n l o=>rN (T:=H) (n:=n) (l:=l) (o:=o) (show 1<H.length by omega)
 have aL2:=fun n o=>jL (n:=n) (o:=o) Zk (by decide)
 have h1H:((1:Nat)==H.length)=false:=by simpa using(by omega:(1:Nat)≠H.length)
 obtain⟨xN,FG⟩:=hm;have zN:jP v=some (m:Int):=by rcases vL with⟨h0,-,-⟩|⟨-,b,-,-,rfl,-⟩;omega;rfl
 have pv:aN v=false/\v≠ .aH:=by rcases vL with⟨h0,-,-⟩|⟨-,b,-,-,rfl,-⟩;omega;exact⟨rfl,by simp⟩
 have fin:(i=3∨2<=rest.length)->∀(ts:List AV),ts.length=155->gt ts 9=v->V E TL ts H (mS E [.tmp 2] fun u=>∃tws,yE u tws/\AG D tws):=by
  intro he ts hl g9;have uy:=fK.done hD0 hi he;refine jr (gd D v0::rest) ?_ (by rw[aMn];omega) H v cs (by rw[aMn,<-xN];exact zh vL) hT _ (fun u hu=>⟨_,hu,uy⟩) ts hl g9;obtain⟨a,b,ha,hb,e,-⟩:=uy;rw[e];intro t ht;have hx:=fun j=>jb bd (aad j)
  simp only[List.mem_cons,List.not_mem_nil,or_false]at ht;rcases ht with rfl|rfl|rfl
  ·exact⟨bd.mono (by omega),(jb bz bd).mono (by omega)⟩
  ·exact⟨(UR 0).mono (by omega),(hx a).mono (by omega)⟩
  ·exact⟨(UR 0).mono (by omega),(hx b).mono (by omega)⟩
 by_cases hd:i<3
 ·have dc:decide ((i:Int)<3)=true:=cF (by omega);have w1:aV .i64 ((i:Int)+1)=((i+1:Nat):Int):=by rw[wrap_i64 (by omega) (by omega)];omega
  by_cases J1:m<3
  rotate_left
  ·have d3:decide ((m:Int)<3)=false:=cH (by omega);simp only[↓aQ,aR,aK,↓reduceIte,aa,ae,hl,g9,g10,dc,zN,d3];refine fin (.inr (by omega)) _ (by simp only[cK,hl]) ?_;simp only[cM,ae,g9]
  have d3:decide ((m:Int)<3)=true:=cF (by omega);obtain⟨z,hun,iz⟩:=OX (E:=E) hd;obtain⟨zn0,zm0,zn1,zm1,zn2,zm2,zn3,zm3,zn4,zm4,zn5,zm5,rfl,-,-,-,PZ,OZ⟩:=cD iz;have Z:=dQ iz;obtain⟨q,hq,iq⟩:=rS (E:=E) ix iz bd (aad i) (by omega);have bq:=jb bd (aad i);have hzq:=iP (E:=E) iq bq (by omega);obtain⟨t,ht,it⟩:=ji (E:=E) iq;obtain⟨c,rfl,iE,C7,B6⟩:=oD it;obtain⟨FJ,FH,FK,FI,qn2,qm2,qn3,qm3,qn4,qm4,qn5,qm5,rfl,-,-,-,PQ,OQ⟩:=cD iq;have Q:=dQ iq;have hK1:4<=(H++[cG.cells iH.live [.bool FJ,FH,.bool FK,FI,.bool qn2,qm2,.bool qn3,qm3,.bool qn4,qm4,.bool qn5,qm5]]).length:=by rw[aMk];omega
  have hK2:(H++[cG.cells iH.live [.bool FJ,FH,.bool FK,FI,.bool qn2,qm2,.bool qn3,qm3,.bool qn4,qm4,.bool qn5,qm5]])[1]?=some (.cells .live [.bool kH,kr,.bool kI,ku,.bool me,lO,.bool mf,lP,.bool mh,lQ,.bool mi,lR]):=by rw[aOB (by omega)];exact Zk
  have hK3:u7 24 4 v (H++[cG.cells iH.live [.bool FJ,FH,.bool FK,FI,.bool qn2,qm2,.bool qn3,qm3,.bool qn4,qm4,.bool qn5,qm5]]) m cs:=xu vL;by_cases AD:bX D (eV i)=v0
  ·rw[cF AD]at hzq;simp only[↓aQ,aR,↓aT,aK,dt,↓reduceIte,aa,ah,ae,hl,g3,g9,g10,dc,w1,hun,PZ,Q,P,hq,aL1,aL2,h1H,zN,d3,hzq];refine dO ?_;refine⟨_,?_,i+1,v,(H++[cG.cells iH.live [.bool FJ,FH,.bool FK,FI,.bool qn2,qm2,.bool qn3,qm3,.bool qn4,qm4,.bool qn5,qm5]]),m,cs,rest,rfl,(by simp only[cK,hl]),?_⟩
   ·first|omega|(simp;omega)
   simp only[cM,hl,aa,ae,g3,g9]
   iterate 4 refine⟨by first|trivial|rfl|(congr 1;omega)|(simp;done)|(simp;omega),?_⟩
   refine⟨?_,?_,?_,?_,?_,?_,?_⟩
   ·omega
   ·exact hK1
   ·exact hK2
   ·exact hK3
   ·exact⟨xN,FG⟩
   ·exact hT
   ·exact fK.zero AD
  rw[cH AD]at hzq;have Wm:(H++[cG.cells iH.live [.bool FJ,FH,.bool FK,FI,.bool qn2,qm2,.bool qn3,qm3,.bool qn4,qm4,.bool qn5,qm5]]).length=H.length+1:=by rw[aMk];rfl
  have hTl:=hT.len;obtain⟨bM,H2,gT,uJ,t1,t2,t3⟩:=jR (E:=E) (x:=c) uo (by decide) (zh hK3) (by rw[hTl,aMn,xN]) iE C7 (by unfold gq;omega) (by omega);rw[Wm]at gT t1 t2 t3;simp only[aS1,aP4,List.nil_append,aMk,aMn,List.length_nil,Nat.zero_add,ah]at gT uJ;have pS:∀aM,aW E aM 70 1 [(0,AV.agg c)]=some (.aI aM 0 1 24 1,[(aM,.cells .live c)]):=fun aM=>gE uo rfl (by decide) (by decide) iE
  by_cases hme:m=1
  ·have e1:((m:Int)==1)=true:=by rw[hme];rfl
   have G5:rest=[]:=aVC (by omega);simp only[↓aQ,aR,↓aT,aK,dt,↓reduceIte,aa,ah,ae,hl,g3,g9,g10,dc,w1,hun,PZ,Q,P,hq,aL1,aL2,h1H,zN,d3,hzq,e1,ht,pS,gT,uJ,aLt,aS1,aMk];refine dO ?_;refine⟨_,?_,i+1,(.aI (H.length+2) 0 (m+1) 24 (m+1)),H2,(m+1),(cs++c),(rest++[gI (bX D (eV i))]),rfl,(by simp only[cK,hl]),?_⟩
   ·first|omega|(simp;omega)
   simp only[cM,hl,aa,ae,g3]
   iterate 4 refine⟨by first|trivial|rfl|(congr 1;omega)|(simp;done)|(simp;omega),?_⟩
   refine⟨?_,?_,?_,?_,?_,?_,?_⟩
   ·omega
   ·omega
   ·rw[t3 1 (by omega) (uB hK3 (by omega))];exact hK2
   ·exact .inr ⟨by omega,H.length+2,by omega,by omega,rfl,t1⟩
   ·exact⟨by rw[aMk,aWX];omega,by rw[aMk,aWX];omega⟩
   ·exact hT.app it iE
   ·subst G5;rcases fK with⟨-,h9⟩|⟨m',-,e,-⟩|⟨m',j',-,-,e,-⟩
    ·refine .inr (.inl ⟨i,by omega,rfl,AD,fun j hj=>?_⟩);by_cases e:j=i
     ·subst e;unfold bX v0;simp only;congr 1<;>grind
     ·rw[h9 j (by omega),Ib]
    ·cases e
    ·cases e
  ·have axb:m=2:=by omega
   have e1:((m:Int)==1)=false:=by rw[axb];rfl
   obtain⟨b,sG,tz,hve,zK⟩:∃b,4<=b/\b<H.length/\v=.aI b 0 m 24 m/\H[b]?=some (.cells .live cs):=by
    rcases vL with⟨h0,-,-⟩|⟨-,b,f1,f2,f3,f4⟩
    ·omega
    ·exact⟨b,f1,f2,f3,f4⟩
   obtain⟨mm,T8,G5,hmz,ao3⟩:∃mm,mm<i/\rest=[gI (bX D (eV mm))]/\bX D (eV mm)≠v0/\∀j,j<i->bX (bX D (eV j)) (bX D (eV mm))=v0:=by
    rcases fK with⟨e,-⟩|h9|⟨m',j',-,-,e,-⟩
    ·rw[e]at xN;simp at xN;omega
    ·exact h9
    ·rw[e]at xN;simp at xN;omega
   obtain⟨rn0,rm0,rn1,rm1,rn2,rm2,rn3,rm3,rn4,rm4,rn5,rm5,wJ,ir,aB7⟩:=aj0 (G5▸hT);have br:BV (2*(k+1)+1) (gI (bX D (eV mm))).l:=jb bd (aad mm);have R:=dQ ir;have Se:=Gd (E:=E) iq ir bq br (by omega);have b1:=fun n l o=>rN (T:=H) (n:=n) (l:=l) (o:=o) tz
   have b2:=fun n o=>jL (n:=n) (o:=o) zK (by decide)
   have h48:(48<=cs.length)=True:=eq_true (by omega);have aoJ:((1:Int)<(m:Int))=True:=eq_true (by omega);rw[hve]at g9;have axY:=hve;subst axY;by_cases Sg:bX (bX D (eV i)) (bX D (eV mm))=v0
   ·have ah9:(bX D (eV i)≠v0/\(gI (bX D (eV mm))).l≠v0/\bX (bX D (eV i)) (gI (bX D (eV mm))).l=v0):=⟨AD,hmz,Sg⟩;rw[cF ah9]at Se;simp only[↓aQ,aR,↓aT,aK,dt,↓reduceIte,aa,ah,ak,ae,an,aq,hl,g3,g9,g10,dc,w1,hun,PZ,Q,P,hq,aL1,aL2,h1H,zN,d3,hzq,e1,b1,b2,h48,aoJ,wJ,R,Se,aMk];refine dO ?_;refine⟨_,?_,i+1,(.aI b 0 m 24 m),(H++[cG.cells iH.live [.bool FJ,FH,.bool FK,FI,.bool qn2,qm2,.bool qn3,qm3,.bool qn4,qm4,.bool qn5,qm5]]),m,cs,rest,rfl,(by simp only[cK,hl]),?_⟩
    ·first|omega|(simp;omega)
    simp only[cM,hl,aa,ae,g3,g9]
    iterate 4 refine⟨by first|trivial|rfl|(congr 1;omega)|(simp;done)|(simp;omega),?_⟩
    refine⟨?_,?_,?_,?_,?_,?_,?_⟩
    ·omega
    ·exact hK1
    ·exact hK2
    ·exact hK3
    ·exact⟨xN,FG⟩
    ·exact hT
    ·exact .inr (.inl ⟨mm,by omega,G5,hmz,fun j hj=>if e:j=i then e▸Sg else ao3 j (by omega)⟩)
   ·have ah9:¬(bX D (eV i)≠v0/\(gI (bX D (eV mm))).l≠v0/\bX (bX D (eV i)) (gI (bX D (eV mm))).l=v0):=fun h=>Sg h.2.2
    rw[cH ah9]at Se;simp only[↓aQ,aR,↓aT,aK,dt,↓reduceIte,aa,ah,ak,ae,an,aq,hl,g3,g9,g10,dc,w1,hun,PZ,Q,P,hq,aL1,aL2,h1H,zN,d3,hzq,e1,b1,b2,h48,aoJ,wJ,R,Se,ht,pS,gT,uJ,aLt,aS1,aMk];refine dO ?_;refine⟨_,?_,i+1,(.aI (H.length+2) 0 (m+1) 24 (m+1)),H2,(m+1),(cs++c),(rest++[gI (bX D (eV i))]),rfl,(by simp only[cK,hl]),?_⟩
    ·first|omega|(simp;omega)
    simp only[cM,hl,aa,ae,g3]
    iterate 4 refine⟨by first|trivial|rfl|(congr 1;omega)|(simp;done)|(simp;omega),?_⟩
    refine⟨?_,?_,?_,?_,?_,?_,?_⟩
    ·omega
    ·omega
    ·rw[t3 1 (by omega) (uB hK3 (by omega))];exact hK2
    ·exact .inr ⟨by omega,H.length+2,by omega,by omega,rfl,t1⟩
    ·exact⟨by rw[aMk,aWX];omega,by rw[aMk,aWX];omega⟩
    ·exact hT.app it iE
    ·rw[G5];exact .inr (.inr ⟨mm,i,by omega,by omega,rfl,hmz,AD,Sg⟩)
 ·have dc:decide ((i:Int)<3)=false:=cH (by omega);simp only[↓aQ,aR,↓reduceIte,aa,ae,hl,g10,dc];refine fin (.inl (by omega)) _ (by simp only[cK,hl]) ?_;simp only[cM,ae,g9]
set_option maxRecDepth 100000
theorem ac6{E:Env}{t len n:Nat}{ag:Bool}(h:ja E t=some (len,ag,n)){H:Hp}{o:Nat}{cs:List AV}(hl:o+len*n<=cs.length)(h0:0<len)(h1:0<n):AE E H t (.eU cs o) none none=some (.aJ ((cs.drop o).take (len*n)) len):=by
 unfold ja at h;cases hi:E.ty t with
 |none=>rw[hi]at h;cases h
 |some i=>
  rw[hi]at h;obtain⟨cS,isAgg,size,bytes,zero,eQ⟩:=i;cases cS<;>first|(cases h;done)|skip
  rename_i ln e;simp only at h;cases he:E.ty e with
  |none=>rw[he]at h;cases h
  |some ei=>
   rw[he]at h;simp only[aLv.injEq,Prod.mk.injEq]at h;obtain⟨e1,e2,e3⟩:=h;subst e1;subst e2;subst e3
   have hp:0<ln*ei.size:=Nat.mul_pos h0 h1;have AA:¬ln=0:=by omega
   simp[AE,hi,jw,he,gG,hiE,loE]
   try omega
theorem YK{tws:List Tw}:∀{i:Nat},i<tws.length->((CU tws).drop (i*6)).take 6=(tws.getD i ⟨v0,v0⟩).qs.map fun q=>AV.str (bC q):=by
 unfold CU;induction tws with
 |nil=>intro i h;simp at h
 |cons t tws ih=>
  intro i h;have hl:(t.qs.map fun q=>AV.str (bC q)).length=6:=by rw[aOT];rfl
  cases i with
  |zero=>
   rw[aNs,Nat.zero_mul,aQh,List.take_append_of_le_length (by omega),<-hl,aR7];rfl
  |succ i=>
   rw[aNs,show(i+1)*6=(t.qs.map fun q=>AV.str (bC q)).length+i*6 by rw[hl];omega,List.drop_length_add_append,ih (by simpa using h)];rfl
theorem yE.len{u:AV}{tws:List Tw}(h:yE u tws):jP u=some (tws.length:Int):=by
 rcases h with⟨rfl,rfl⟩|⟨-,rfl⟩<;>rfl
theorem yE.lY{u:AV}{tws:List Tw}(h:yE u tws):aN u=true/\b7 u=true/\u.cells=[u]:=by
 rcases h with⟨rfl,rfl⟩|⟨-,rfl⟩<;>exact⟨rfl,rfl,rfl⟩
theorem Dw.av0{len s:Nat}{Q:Nat->List AV->Prop}{H:Hp}{v:AV}{i:Nat}(h:Dw len s Q H v i)(hq:∀j cs,Q j cs->cs.length=len*s/\∀v∈cs,Flat v):∃o bs,Dv.fz H 40 v=some (o,bs)/\((i=0/\o=.aH)∨(0<i/\∃vs,o=.aJ vs i/\vs.length=i/\∀j,j<i->∃cs,vs.getD j aX=.aJ cs len/\Q j cs))/\∀x∈bs,(∃m,v=.aI x 0 m 1 m)∨∃cs,H[x]?=some (.cells .live cs)/\cs.length=len*s:=by
 rcases h with⟨h0,e⟩|⟨h0,b,hs,e1,h2,h3,h4,h5⟩
 ·subst e;exact⟨_,_,rfl,.inl ⟨h0,rfl⟩,by simp⟩
 ·have key:∀l:List AV,(∀x∈l,∃c cs,x=.aI c 0 len s len/\H[c]?=some (.cells .live cs)/\cs.length=len*s/\∀u∈cs,Flat u)->∃r,dh (Dv.fz H 39) l=some r/\r.length=l.length/\(∀j,j<l.length->∃c cs,l.getD j aX=.aI c 0 len s len/\H[c]?=some (.cells .live cs)/\(r.map (·.1)).getD j aX=.aJ cs len)/\∀x∈r.flatMap (·.2),∃cs,H[x]?=some (.cells .live cs)/\cs.length=len*s:=by
   intro l;induction l with
   |nil=>intro _;exact⟨[],rfl,rfl,by simp,by simp⟩
   |cons x l ih=>
    intro hx;obtain⟨r,wJ,yp,Bb,Wx⟩:=ih fun y hy=>hx y (by simp[hy])
    obtain⟨c,cs,e,hc,iE,hf⟩:=hx x (by simp);have h6:=kD (n:=38) (off:=0) (len:=len) (esz:=s) (k:=len) hc (by decide) (by omega) (by rw[aQh,<-iE,aR7];exact fj hf);rw[gn,dH]at h6;subst e;refine⟨(.aJ cs len,[c])::r,?_,by simp[yp],?_,?_⟩
    ·unfold dh;rw[h6,wJ]
    ·intro j hj;cases j with
     |zero=>exact⟨c,cs,rfl,hc,rfl⟩
     |succ j=>
      obtain⟨c',tL,a1,a2,a3⟩:=Bb j (by simpa using hj);exact⟨c',tL,by simpa using a1,a2,by simpa using a3⟩
    ·intro x hx;rw[aNs,List.mem_append]at hx;rcases hx with hx|hx
     ·rw[List.mem_singleton]at hx;subst hx;exact⟨cs,hc,iE⟩
     ·exact Wx x hx
  obtain⟨r,wJ,yp,Bb,Wx⟩:=key hs (by
   intro x hx;obtain⟨j,hj,e⟩:=List.getElem_of_mem hx;obtain⟨c,cs,a1,-,-,a4,a5⟩:=h5 j (by omega);rw[aSW,aMh hj,Option.getD_some,e]at a1;obtain⟨q1,q2⟩:=hq j cs a5;exact⟨c,cs,a1,a4,q1,q2⟩)
  have h6:=kD (n:=39) (off:=0) (len:=i) (esz:=1) (k:=i) h3 (by decide) (by omega) (by rw[aQh,Nat.mul_one,<-h4,aR7];exact wJ);subst e1;refine⟨_,_,h6,.inr ⟨h0,_,rfl,by rw[aOT,yp,h4],fun j hj=>?_⟩,fun x hx=>?_⟩
  ·obtain⟨c,cs,a1,a2,a3⟩:=Bb j (by omega);obtain⟨c',tL,b1,-,-,b4,b5⟩:=h5 j hj;rw[a1]at b1;simp only[AV.aI.injEq,and_true]at b1;obtain rfl:=b1;rw[a2]at b4;simp only[aLv.injEq,cG.cells.injEq,true_and]at b4;subst b4;exact⟨cs,a3,b5⟩
  ·rcases List.mem_cons.1 hx with rfl|hx
   ·exact .inl ⟨i,rfl⟩
   ·exact .inr (Wx x hx)
theorem EH{E:Env} [C:lS E]{u:AV}{tws:List Tw}(hT:yE u tws){b:Nat}(hb:CR b (eI tws))(zK:b<=300)(Sa:tws.length<=6):
  ∃o K P,aO E 70 [u,.aH]=some (.tuple [.agg [.int .i64 6,o,.aH],.int .i64 0])/\mz o K/\iX K 6/\kU 6 K.length (fun i=>dW K i) P (eK (SR tws.length (rf (eI tws)))):=by
 have Db:(eI tws).length=tws.length:=by unfold eI;rw[aOT]
 have yf:=sz6 (b:=b) zK (by rw[Db];exact Sa) rz hb
 suffices hh:∃r,aO E 70 [u,.aH]=some r/\∃o K P,r=.tuple [.agg [.int .i64 6,o,.aH],.int .i64 0]/\mz o K/\iX K 6/\kU 6 K.length (fun i=>dW K i) P (eK (SR tws.length (rf (eI tws))))by
  obtain⟨r,h1,o,K,P,rfl,h2⟩:=hh;exact⟨o,K,P,h1,h2⟩
 have zN:=hT.len;have vm:=hT.lY;refine tS avG ?_;intro ts hl g0 g1;unfold c70;simp only[↓aQ,aR,aK,Tryz.f70];refine fh (fun k_ ts H=>∃i w HC,k_=tws.length-i/\ts.length=48/\gt ts 0=u/\gt ts 1=.aH/\gt ts 4=.b6 0 0/\gt ts 5=.int .i64 0/\gt ts 6=w/\gt ts 7=.aH/\gt ts 8=.int .i64 (i:Int)/\H=HC/\(i<=tws.length)/\(1<=HC.length)/\(HC[0]?=some (.cells .live [.int .i64 0,.aH,.aH]))/\(∀m,w≠ .aI 0 0 m 1 m)/\(Dw 6 1 (fun j cs=>cs=(row (eI tws) j).map (fun q=>AV.str (bC q))/\j<tws.length) HC w i)) (tws.length) ?_ ?_
 rotate_left
 ·refine⟨0,.aH,[.cells .live [.int .i64 0,.aH,.aH]],(by first|omega|rfl|(simp;done)),(by simp only[cK,hl]),?_⟩;simp only[cM,hl,aa,ae,g0,g1]
  iterate 8 refine⟨by first|trivial|rfl|(congr 1;omega)|(simp;done)|(simp;omega),?_⟩
  refine⟨?_,?_,?_,?_,?_⟩
  ·omega
  ·simp
  ·rfl
  ·intro m e;cases e
  ·exact .inl ⟨rfl,rfl⟩
 clear hl g0 g1 ts;rintro k_ ts H ⟨i,w,HC,rfl,hl,g0,g1,g4,g5,g6,g7,g8,rfl,hi,MW,hH0,hw0,hsa⟩;refine VS ?_;by_cases hd:i<tws.length
 ·have dc:decide ((i:Int)<(tws.length:Int))=true:=cF (by omega);have oF:((i:Int)<(tws.length:Int))=True:=eq_true (by omega);have w1:aV .i64 ((i:Int)+1)=((i+1:Nat):Int):=by rw[wrap_i64 (by omega) (by omega)];omega
  obtain⟨-,rfl⟩:=hT.resolve_left (fun h=>by rw[h.1]at hd;exact absurd hd (by simp));have Uc:row (eI tws) i=(tws.getD i ⟨v0,v0⟩).qs:=by unfold row eI;rw[aSW,aNe,aSW,aMh hd];rfl
  have uL:=YK hd;have htl:=MK tws;obtain⟨ct,KU⟩:∃ct,ct=(tws.getD i ⟨v0,v0⟩).qs.map (fun q=>AV.str (bC q)):=⟨_,rfl⟩;rw[<-KU]at uL;have R5:ct.length=6:=by rw[KU,aOT];rfl
  have Wc:ct.all b7=true:=by rw[List.all_eq_true];intro x hx;rw[KU,List.mem_map]at hx;obtain⟨q,-,rfl⟩:=hx;rfl
  have aif:∀H,AE E H 78 (.eU (CU tws) (i*6)) none none=some (.aJ ct 6):=fun H=>by rw[ac6 Uv (by omega) (by decide) (by decide),show 6*1=6 from rfl,uL]
  have hbe:∀aM,aW E aM 25 0 []=some (.aI aM 0 0 1 0,[(aM,.cells .live [])]):=fun aM=>vX JD rfl (by decide)
  have hac:=DC (E:=E) (H:=H) JD (by decide) (cs:=ct) (n:=6) (by omega) Wc (by decide) (by decide) (by decide);have hch:=AT (H:=H) (cs:=ct);obtain⟨vh,lJ,R8⟩:=hsa.sl;have pS:∀aM,aW E aM 24 1 [(0,.aI (H.length+1) 0 6 1 6)]=some (.aI aM 0 1 1 1,[(aM,.cells .live [.aI (H.length+1) 0 6 1 6])]):=fun aM=>gE Ak rfl (by decide) (by decide) rfl
  obtain⟨bM,H2,gT,uJ,t1,t2,t3⟩:=jR (E:=E) (H:=H++[.cells .dead [],.cells .live ct]) (x:=[.aI (H.length+1) 0 6 1 6]) Ak (by decide) (xu (l:=[.cells .dead [],.cells .live ct]) lJ) (by omega) rfl rfl (by unfold gq;omega) (by omega);have Wm:(H++[cG.cells iH.dead [],cG.cells iH.live ct]).length=H.length+2:=by rw[aMk];rfl
  rw[Wm]at gT t1 t2 t3;simp only[aS1,aP4,List.nil_append,aMk,aMn,List.length_nil,Nat.zero_add,ah]at gT uJ hac;simp only[↓aQ,aR,aK,dt,↓reduceIte,aa,ah,ae,hl,g0,g6,g8,zN,oF,w1,aif,hbe,hac,hch,pS,gT,uJ,aLt,aS1,aMk];refine dO ?_;refine⟨_,?_,i+1,(.aI (H.length+3) 0 (i+1) 1 (i+1)),H2,rfl,(by simp only[cK,hl]),?_⟩
  ·first|omega|(simp;omega)
  simp only[cM,hl,aa,ae,g0,g1,g4,g5,g7]
  iterate 8 refine⟨by first|trivial|rfl|(congr 1;omega)|(simp;done)|(simp;omega),?_⟩
  refine⟨?_,?_,?_,?_,?_⟩
  ·omega
  ·omega
  ·rw[t3 0 (by omega) hw0,aOB (by omega)];exact hH0
  ·intro m e;simp only[AV.aI.injEq]at e;omega
  ·refine hsa.step lJ R8 (r:=H.length+1) (cs:=ct) (by omega) (by omega) (by omega) t1 ?_ ⟨by rw[Uc];exact KU,hd⟩ (fun q hq Ou=>?_)
   ·rw[t3 _ (by omega) ?_,lL rfl]
    ·rfl
    ·intro m e;rcases lJ with⟨-,-,e2⟩|⟨-,b,-,hb,e2,-⟩
     ·rw[e2]at e;simp at e
     ·rw[e2]at e;simp only[AV.aI.injEq]at e;omega
   ·rw[t3 q (by omega) Ou,aOB hq]
 ·have dc:decide ((i:Int)<(tws.length:Int))=false:=cH (by omega);obtain rfl:i=tws.length:=by omega
  obtain⟨o,bs,hfo,ho,hbx⟩:=hsa.av0 (by
   rintro j cs ⟨rfl,hj⟩;refine⟨by rw[aOT,rz j (by omega)],fun x hx=>?_⟩;rw[List.mem_map]at hx;obtain⟨q,-,rfl⟩:=hx;exact fun _ _=>rfl)
  have hot:mz o (eI tws):=by
   rcases ho with⟨h1,h2⟩|⟨h1,vs,h2,h3,h4⟩
   ·exact .inl ⟨aVC (by omega),h2⟩
   ·refine .inr ⟨fun e=>by rw[e]at Db;simp at Db;omega,?_⟩;rw[h2,Db];congr 1;refine rU (d:=aX) (by rw[aOT];omega) (fun j hj=>?_);obtain⟨cs,f1,f2,f3⟩:=h4 j (by omega);rw[f1,sX (by omega),f2];unfold dS;rw[rz j (by omega)]
  have hF:Uk H w (eI tws) bs/\0∉bs:=by
   refine⟨?_,fun h0=>?_⟩
   ·rcases hsa with⟨h1,h2⟩|⟨h1,b,hs,h2,h3,h4,h5,h6⟩
    ·subst h2;simp only[Dv.fz]at hfo;cases hfo;exact .inl ⟨aVC (by omega),rfl,rfl⟩
    ·refine .inr ⟨by rw[h2];rfl,o,hfo,hot,fun x hx=>?_⟩;exact tQ hfo x hx
   ·rcases hbx 0 h0 with⟨m,h1⟩|⟨cs,h1,h2⟩
    ·exact hw0 m h1
    ·rw[hH0]at h1;simp only[aLv.injEq,cG.cells.injEq,true_and]at h1;rw[<-h1]at h2;exact absurd h2 (by decide)
  obtain⟨r,H2,hg,qY,wI,v2,rv2,G,rays,rfl,r9,td,yU,⟨P,hE⟩,Ow⟩:=pt (E:=E) (n:=6) hF.1 (rv:=.aH) (jZ:=none) (.inl ⟨rfl,rfl,rfl⟩) yf;have Ba:rays=[]:=by
   rcases Ow with h|⟨r,s,w,e,-⟩
   ·exact h
   ·cases e
  subst Ba;have qP:rv2=.aH:=by
   rcases td with⟨-,e⟩|⟨h0,-⟩
   ·exact e
   ·exact absurd h0 (by simp)
  subst qP;have m1:=r9.one;rw[show((6:Nat):Int)=6 from rfl]at hg;have h20:H2[0]?=some (.cells .live [.int .i64 0,.aH,.aH]):=by rw[qY 0 (by omega) hF.2 (by simp)];exact hH0
  have s2:=fun xs o=>kG (n:=3) (xs:=xs) (o:=o) h20
  obtain⟨H5,oN⟩:∃H5,H5=H2.set 0 (.cells .live [.int .i64 6,v2,.aH]):=⟨_,rfl⟩;have p2:dP H2 0 (.cells .live [.int .i64 6,v2,.aH])=H5:=by rw[oN];exact eY (by omega)
  have h05:H5[0]?=some (.cells .live [.int .i64 6,v2,.aH]):=by rw[oN,List.getElem?_set_self (by omega)]
  have a5:=fun m o=>jL (n:=m) (o:=o) h05 (by decide)
  have hT5:=r9.r.mono (B:=0) (by omega) (nK.set (.cells .live [.int .i64 6,v2,.aH]));rw[<-oN]at hT5;obtain⟨o2,ro2,CF,ho2,axC,-,gf⟩:=Qz (H:=H5) hT5 (.inl ⟨rfl,rfl⟩);have gf:=fun k z k' z'=>gf [] k z k' z'
  rw[List.append_nil,show aN AV.aH=true from rfl,Bool.and_true]at gf;have G5:ro2=.aH:=by
   rcases axC with⟨-,e⟩|⟨h,-⟩
   ·exact e
   ·exact absurd rfl h
  subst G5;simp only[↓aQ,aR,aK,↓reduceIte,aa,ae,hl,g0,g8,zN,dc];refine gb 1 ?_;simp only[↓aQ,aR,↓aT,aK,dt,↓reduceIte,aa,ah,ae,ao,hl,g1,g4,g6,g7,hg,m1,s2,p2,a5,gf];exact⟨o2,G,P,rfl,ho2,yU,by rw[<-Db];exact hE⟩
set_option maxRecDepth 100000
theorem acW{K G:List (List Rat)}(hl:K.length=G.length)(hw:iX K 6)(hw':iX G 6)(h:∀i,i<K.length->∀j,j<6->bC ((row K i).getD j 0)=bC ((row G i).getD j 0)):K=G:=by
 refine aOg fun i=>?_
 by_cases hi:i<K.length
 ·have e1:∀L:List (List Rat),i<L.length->L[i]?=some (row L i):=fun L hL=>by unfold row;rw[aSW,aMh hL];rfl
  rw[e1 K hi,e1 G (by omega)];congr 1;have l1:=hw i hi;have l2:=hw' i (by omega);refine aOg fun j=>?_
  by_cases hj:j<6
  ·have:=LR (h i hi j hj)
   rw[aSW,aSW,aMh (by omega),aMh (by omega)]at this;rw[aMh (by omega),aMh (by omega)];exact congrArg some this
  ·rw[aLB (by omega),aLB (by omega)]
 ·rw[aLB (by omega),aLB (by omega)]
theorem nH{E:Env} [C:lS E]{k d:Int}{cl:Bool}{a0 a1 a2 b0 b1 b2 h:List UInt8}{u o rv:AV}{tws:List Tw}{G:List (List Rat)}{b:Nat}(hv:aO E 71 [cw k d cl a0 a1 a2 b0 b1 b2 h]=some u)(hT:yE u tws)(hb:CR b (eI tws))(zK:b<=300)(Sa:tws.length<=6)(ho:mz o G)(hw:iX G 6)(yI:G.length<=8)(Fg:aN rv=true/\b7 rv=true/\rv.cells=[rv]):
  ∃K P,aO E 33 [.agg [.int .i64 6,o,rv],cw k d cl a0 a1 a2 b0 b1 b2 h]=some (.bool (decide (K=G)))/\iX K 6/\kU 6 K.length (fun i=>dW K i) P (eK (SR tws.length (rf (eI tws)))):=by
 obtain⟨ok,K,P,hg,hk,CL,KR⟩:=EH (E:=E) hT hb zK Sa;refine⟨K,P,?_,CL,KR⟩;refine ep ?_;have jN:=ho.len;have QJ:=hk.len;have mo:=ho.lY;have mk:=hk.lY;have mu:=hT.lY;have hK6:K.length<=6:=by
  rcases Nat.eq_zero_or_pos K.length with h|h
  ·omega
  ·have:∀i,i<K.length->i<=P i:=by
    intro i;induction i with
    |zero=>intro _;omega
    |succ i ih=>
     intro hi;have h1:=ih (by omega);have h2:=KR.mono i (i+1) (by omega) hi;omega
   have h1:=this (K.length-1) (by omega);have h2:=KR.lt (K.length-1) (by omega);omega
 refine tS avc ?_;intro ts hl g0 g1;unfold c33;unfold cw at*;by_cases hlen:K.length=G.length
 rotate_left
 ·have dM:((K.length:Int)!=(G.length:Int))=true:=by simpa using(by omega:(K.length:Int)≠(G.length:Int))
  simp only[↓aQ,aR,↓aT,aK,↓reduceIte,aa,ah,ae,Tryz.f33,aE,hl,g0,g1,hv,hg,jN,QJ,mk,mu,dM];rw[cH (fun e=>hlen (by rw[e]))]
 have dM:((K.length:Int)!=(G.length:Int))=false:=by rw[hlen];simp
 simp only[↓aQ,aR,↓aT,aK,↓reduceIte,aa,ah,ae,Tryz.f33,aE,hl,g0,g1,hv,hg,jN,QJ,mk,mu,dM];refine fh (fun k_ ts H=>∃i,k_=K.length-i/\ts.length=54/\gt ts 2=.b6 0 0/\gt ts 3=.b6 1 0/\gt ts 4=.bool false/\gt ts 5=.b6 2 0/\gt ts 7=.int .i64 (i:Int)/\H=[.cells .live [.int .i64 6,o,rv],.cells .live [.int .i64 k,.int .i64 d,.bool cl,.str a0,.str a1,.str a2,.str b0,.str b1,.str b2,.str h],.cells .live [.int .i64 6,ok,.aH]]/\(i<=K.length)/\(∀p,p<i->∀j,j<6->bC ((row K p).getD j 0)=bC ((row G p).getD j 0))) (K.length) ?_ ?_
 rotate_left
 ·refine⟨0,(by first|omega|rfl|(simp;done)),(by simp only[cK,hl]),?_⟩;simp only[cM,hl,aa,ae]
  iterate 6 refine⟨by first|trivial|rfl|(congr 1;omega)|(simp;done)|(simp;omega),?_⟩
  refine⟨?_,?_⟩
  ·omega
  ·intro p hp;omega
 clear hl g0 g1 ts;rintro k_ ts H ⟨i,rfl,hl,g2,g3,g4,g5,g7,rfl,hi,hq⟩;refine VS ?_;by_cases hd:i<K.length
 ·have dc:decide ((i:Int)<(K.length:Int))=true:=cF (by omega);obtain⟨-,Wr⟩:=hk.resolve_left (fun h=>by rw[h.1]at hd;exact absurd hd (by simp));obtain⟨-,hog⟩:=ho.resolve_left (fun h=>by rw[h.1]at hlen;rw[hlen]at hd;exact absurd hd (by simp));subst Wr hog;simp only[↓aQ,aR,aK,aa,ah,ae,hl,g5,g7,dc,QJ];refine fh (fun k_ ts H=>∃j,k_=6-j/\ts.length=54/\gt ts 2=.b6 0 0/\gt ts 3=.b6 1 0/\gt ts 4=.bool false/\gt ts 5=.b6 2 0/\gt ts 7=.int .i64 (i:Int)/\gt ts 8=.int .i64 (j:Int)/\H=[.cells .live [.int .i64 6,.aJ (G.map dS) G.length,rv],.cells .live [.int .i64 k,.int .i64 d,.bool cl,.str a0,.str a1,.str a2,.str b0,.str b1,.str b2,.str h],.cells .live [.int .i64 6,.aJ (K.map dS) K.length,.aH]]/\(j<=6)/\(∀p,p<j->bC ((row K i).getD p 0)=bC ((row G i).getD p 0))) (6) ?_ ?_
  rotate_left
  ·refine⟨0,(by first|omega|rfl|(simp;done)),(by simp only[cK,hl]),?_⟩;simp only[cM,hl,aa,ae,g2,g3,g4,g5,g7]
   iterate 7 refine⟨by first|trivial|rfl|(congr 1;omega)|(simp;done)|(simp;omega),?_⟩
   refine⟨?_,?_⟩
   ·omega
   ·intro p hp;omega
  clear hl g2 g3 g4 g5 g7 ts;rintro k_ ts H ⟨j,rfl,hl,g2,g3,g4,g5,g7,g8,rfl,hj,hqj⟩;refine VS ?_;by_cases hj6:j<6
  ·have dj:decide ((j:Int)<6)=true:=cF (by omega);have ci1:((i:Int)<(K.length:Int))=True:=eq_true (by omega);have ci2:((i:Int)<(G.length:Int))=True:=eq_true (by omega);have cj1:((j:Int)<((row K i).length:Int))=True:=eq_true (by rw[CL i hd];omega);have cj2:((j:Int)<((row G i).length:Int))=True:=eq_true (by rw[hw i (by omega)];omega);have p1:=dL (vs:=K.map dS) (i:=i) (by rw[aOT];exact hd);have p2:=dL (vs:=G.map dS) (i:=i) (by rw[aOT];omega);rw[sX hd]at p1;rw[sX (by omega)]at p2;have p3:=dL (vs:=(row K i).map fun q=>AV.str (bC q)) (i:=j) (by rw[aOT,CL i hd];exact hj6);have p4:=dL (vs:=(row G i).map fun q=>AV.str (bC q)) (i:=j) (by rw[aOT,hw i (by omega)];exact hj6);have gg:∀L:List Rat,j<L.length->(L.map fun q=>AV.str (bC q)).getD j aX=.str (bC (L.getD j 0)):=fun L hL=>by
    rw[aSW,aNe,aMh hL,aSW,aMh hL];rfl
   rw[gg _ (by rw[CL i hd];exact hj6)]at p3;rw[gg _ (by rw[hw i (by omega)];exact hj6)]at p4;have w1:aV .i64 ((j:Int)+1)=((j+1:Nat):Int):=by rw[wrap_i64 (by omega) (by omega)];omega
   rw[lH]at p1 p2 p3 p4;have p1:(K.map dS)[i]?=some (.aJ ((row K i).map fun q=>.str (bC q)) (row K i).length):=p1;have p2:(G.map dS)[i]?=some (.aJ ((row G i).map fun q=>.str (bC q)) (row G i).length):=p2;by_cases he:bC ((row K i).getD j 0)=bC ((row G i).getD j 0)
   ·have hb:(!(bC ((row K i).getD j 0)==bC ((row G i).getD j 0)))=false:=by rw[he];simp
    simp only[↓aQ,aR,aK,↓reduceIte,aa,ah,ae,hl,g2,g5,g7,g8,dj,ci1,ci2,cj1,cj2,p1,p2,p3,p4,w1,C2,hb];refine dO ?_;refine⟨_,?_,j+1,rfl,(by simp only[cK,hl]),?_⟩
    ·first|omega|(simp;omega)
    simp only[cM,hl,aa,ae,g2,g3,g4,g5,g7]
    iterate 7 refine⟨by first|trivial|rfl|(congr 1;omega)|(simp;done)|(simp;omega),?_⟩
    refine⟨?_,?_⟩
    ·omega
    ·intro p hp;by_cases e:p=j
     ·rw[e];exact he
     ·exact hqj p (by omega)
   ·have hb:(!(bC ((row K i).getD j 0)==bC ((row G i).getD j 0)))=true:=by simpa using he
    simp only[↓aQ,aR,aK,↓reduceIte,aa,ah,ae,hl,g2,g5,g7,g8,dj,ci1,ci2,cj1,cj2,p1,p2,p3,p4,C2,hb];rw[cH (fun e=>he (by rw[e]))]
  ·have dj:decide ((j:Int)<6)=false:=cH (by omega);have w1:aV .i64 ((i:Int)+1)=((i+1:Nat):Int):=by rw[wrap_i64 (by omega) (by omega)];omega
   simp only[↓aQ,aR,↓reduceIte,aa,ae,hl,g7,g8,dj,w1];refine dO ?_;refine⟨_,?_,i+1,rfl,(by simp only[cK,hl]),?_⟩
   ·first|omega|(simp;omega)
   simp only[cM,hl,aa,ae,g2,g3,g4,g5]
   iterate 6 refine⟨by first|trivial|rfl|(congr 1;omega)|(simp;done)|(simp;omega),?_⟩
   refine⟨?_,?_⟩
   ·omega
   ·intro p hp;by_cases e:p=i
    ·rw[e];exact fun q hq=>hqj q (by omega)
    ·exact hq p (by omega)
 ·have dc:decide ((i:Int)<(K.length:Int))=false:=cH (by omega);obtain rfl:i=K.length:=by omega
  simp only[↓aQ,aR,aK,↓reduceIte,aa,ah,ae,hl,g5,g7,dc,QJ];rw[cF (acW hlen CL hw hq)]
set_option maxRecDepth 100000
noncomputable def TW(t:Tw):V3:=by classical exact if t.a=v0 then mW t.l else mW t.a
noncomputable def Zf(t:Tw):V3:=by classical exact if t.a=v0 then v0 else j8 t
noncomputable def axH(t:Tw):Rat:=by classical exact if t.a=v0 then 0 else lM t
theorem Kj{v:AV}{t:Tw}(h:AL v t){k:Nat}(bt:BT k t)(hk:k<=100000000)(dM:¬(t.a=v0/\t.l=v0)):∃kd kH kr kI ku me lO mf lP mh lQ mi lR nk nh nu nj nS nO nT nP nU nQ nV nR Ew Ev Wp xN,aO E 30 [v]=some (.agg [.int .i64 kd,.bool kH,kr,.bool kI,ku,.bool me,lO,.bool mf,lP,.bool mh,lQ,.bool mi,lR,.bool nk,nh,.bool nu,nj,.bool nS,nO,.bool nT,nP,.bool nU,nQ,.bool nV,nR,.bool Ew,Ev,.bool Wp,xN])/\fS (.agg [.bool kH,kr,.bool kI,ku,.bool me,lO,.bool mf,lP,.bool mh,lQ,.bool mi,lR]) (TW t)/\fS (.agg [.bool nk,nh,.bool nu,nj,.bool nS,nO,.bool nT,nP,.bool nU,nQ,.bool nV,nR]) (Zf t)/\cX (.agg [.bool Ew,Ev,.bool Wp,xN]) (axH t):=by
 suffices hh:∃u,aO E 30 [v]=some u/\∃kd kH kr kI ku me lO mf lP mh lQ mi lR nk nh nu nj nS nO nT nP nU nQ nV nR Ew Ev Wp xN,u=.agg [.int .i64 kd,.bool kH,kr,.bool kI,ku,.bool me,lO,.bool mf,lP,.bool mh,lQ,.bool mi,lR,.bool nk,nh,.bool nu,nj,.bool nS,nO,.bool nT,nP,.bool nU,nQ,.bool nV,nR,.bool Ew,Ev,.bool Wp,xN]/\fS (.agg [.bool kH,kr,.bool kI,ku,.bool me,lO,.bool mf,lP,.bool mh,lQ,.bool mi,lR]) (TW t)/\fS (.agg [.bool nk,nh,.bool nu,nj,.bool nS,nO,.bool nT,nP,.bool nU,nQ,.bool nV,nR]) (Zf t)/\cX (.agg [.bool Ew,Ev,.bool Wp,xN]) (axH t)by
  obtain⟨u,h1,kd,kH,kr,kI,ku,me,lO,mf,lP,mh,lQ,mi,lR,nk,nh,nu,nj,nS,nO,nT,nP,nU,nQ,nV,nR,Ew,Ev,Wp,xN,rfl,h2⟩:=hh;exact⟨kd,kH,kr,kI,ku,me,lO,mf,lP,mh,lQ,mi,lR,nk,nh,nu,nj,nS,nO,nT,nP,nU,nQ,nV,nR,Ew,Ev,Wp,xN,h1,h2⟩
 have hz:=MH (E:=E) h bt (by omega);rw[cH dM]at hz;obtain⟨Kh,Kf,Ki,Kg,Nt,Np,Nu,Nq,Nv,Nr,Nw,Ns,Ko,Kl,Kp,Km,Kq,Kn,UK,UH,UL,UI,UM,UJ,rfl,ha,hb⟩:=h;have A:=dQ ha;have B:=dQ hb;have hza:=iP (E:=E) ha bt.1 (by omega);by_cases h0:t.a=v0
 ·have hl:t.l≠v0:=fun e=>dM ⟨h0,e⟩
  rw[cF h0]at hza;obtain⟨p,hp,ip⟩:=ot (E:=E) hb bt.2 (by omega) hl;obtain⟨Q9,Q7,Ra,Q8,pn2,pm2,pn3,pm3,pn4,pm4,pn5,pm5,rfl,-,-,-,P,O⟩:=cD ip;have e1:TW t=mW t.l:=if_pos h0;have e2:Zf t=v0:=if_pos h0;have e3:axH t=0:=if_pos h0;rw[e1,e2,e3];refine mO anq ?_;intro ts hl g0;unfold c30
  simp(maxSteps:=2000000)only[↓aQ,aR,↓aT,aK,↓reduceIte,aa,ah,ae,Tryz.f30,ai,hl,g0,A,B,P,O,hz,hza,hp]
  exact⟨_,_,_,_,_,_,_,_,_,_,_,_,_,_,_,_,_,_,_,_,_,_,_,_,_,_,_,_,_,rfl,ip,CW,qC⟩
 ·rw[cH h0]at hza;have Oj:qV t.a t.a≠0:=o9 h0;obtain⟨x,hx,ix⟩:=ot (E:=E) ha bt.1 (by omega) h0;obtain⟨o,ho,io⟩:=jJ (E:=E) (n:=1) (by omega) (by omega);have bo:Bq 1 ((1:Int):Rat):=⟨by decide,by decide⟩;obtain⟨d,hd,CN⟩:=zy (E:=E) ha ha bt.1 bt.1 (by omega);have bd:=tM bt.1 bt.1;obtain⟨q,hq,iq⟩:=xU (E:=E) io CN bo bd (by omega) Oj;have bq:=bo.div bd Oj;obtain⟨c,hc,ic⟩:=rS (E:=E) ha hb bt.1 bt.2 (by omega);have bc:=jb bt.1 bt.2;obtain⟨p,hp,ip⟩:=nJ (E:=E) ic iq bc bq (by omega);obtain⟨f,hf,if'⟩:=zy (E:=E) ha hb bt.1 bt.2 (by omega);have bf:=tM bt.1 bt.2;obtain⟨g,hg,ig⟩:=gv (E:=E) if' iq bf bq (by omega);have hs:=jh (E:=E) ig;have po:=jm io;have pd:=jm CN;have pc:=qe ic;have pf:=jm if';obtain⟨FJ,FH,FK,FI,_,_,rfl,-,-,-,-⟩:=bR iq;obtain⟨gn0,gm0,gn1,gm1,_,_,rfl,-,-,-,-⟩:=bR ig;obtain⟨Q9,Q7,Ra,Q8,pn2,pm2,pn3,pm3,pn4,pm4,pn5,pm5,rfl,-,-,-,P,O⟩:=cD ip;obtain⟨kH,kr,kI,ku,me,lO,mf,lP,mh,lQ,mi,lR,rfl,-,-,-,P1,O1⟩:=cD ix;have QM:=aU _ iq;have GM:=aU _ ig;have e1:TW t=mW t.a:=if_neg h0;have e2:Zf t=j8 t:=if_neg h0;have e3:axH t=lM t:=if_neg h0;rw[e1,e2,e3];refine mO anq ?_;intro ts hl g0;unfold c30;by_cases hz2:xd (qV t.a t.l*((1:Int)/qV t.a t.a)).num=0
  ·have hn:(xd (qV t.a t.l*((1:Int)/qV t.a t.a)).num !=0)=false:=by rw[hz2];rfl
   simp(maxSteps:=2000000)only[↓aQ,aR,↓aT,aK,↓reduceIte,aa,ah,ae,Tryz.f30,ai,aj,aj,hl,g0,A,B,P,O,P1,O1,QM,GM,po,pd,pc,pf,hz,hza,hx,ho,hd,hq,hc,hp,hf,hg,hs,hn]
   exact⟨_,_,_,_,_,_,_,_,_,_,_,_,_,_,_,_,_,_,_,_,_,_,_,_,_,_,_,_,_,rfl,ix,ip,ig⟩
  ·have hn:(xd (qV t.a t.l*((1:Int)/qV t.a t.a)).num !=0)=true:=by simpa using hz2
   simp(maxSteps:=2000000)only[↓aQ,aR,↓aT,aK,↓reduceIte,aa,ah,ae,Tryz.f30,ai,aj,aj,hl,g0,A,B,P,O,P1,O1,QM,GM,po,pd,pc,pf,hz,hza,hx,ho,hd,hq,hc,hp,hf,hg,hs,hn]
   exact⟨_,_,_,_,_,_,_,_,_,_,_,_,_,_,_,_,_,_,_,_,_,_,_,_,_,_,_,_,_,rfl,ix,ip,ig⟩
end Go.Proofs.YtblnjkjjedanaaaGreatDoor
namespace Go.Proofs.YtblnjkjjedanaaaGreatDoor
open Go Dv Dv.bV
variable{E:Env}[C:Ctx E]
theorem RB{v:AV}{a:V3}(h:fS v a){k:Nat}(ba:BV k a)(hk:k<=1000000000)(dM:a≠v0):
  ∃r,aO E 31 [v]=some r/\fS r (dX a):=by
 obtain⟨p,hp,ip⟩:=ot (E:=E) h ba hk dM;have bp:=ue ba dM;have hc:=tv (E:=E) ip CW bp bv0 (by omega);obtain⟨n,hn,in'⟩:=Ig (E:=E) ip bp (by omega);obtain⟨Kh,Kf,Ki,Kg,Nt,Np,Nu,Nq,Nv,Nr,Nw,Ns,rfl,-,-,-,P,O⟩:=cD h;obtain⟨Q9,Q7,Ra,Q8,pn2,pm2,pn3,pm3,pn4,pm4,pn5,pm5,rfl,-,-,-,P1,O1⟩:=cD ip;obtain⟨FJ,FH,FK,FI,qn2,qm2,qn3,qm3,qn4,qm4,qn5,qm5,rfl,-,-,-,P2,O2⟩:=cD in';refine mO ava ?_;intro ts hl g0;unfold c31 dX;by_cases hs:yj (mW a) v0<0
 ·have hd:decide (yj (mW a) v0<0)=true:=cF hs;rw[if_pos hs];simp only[↓aQ,aR,↓aT,aK,↓reduceIte,aa,ah,ae,Tryz.f31,aE,hl,g0,P,P1,O1,P2,O2,hp,hc,hn,hd];exact in'
 ·have hd:decide (yj (mW a) v0<0)=false:=cH hs;rw[if_neg hs];simp only[↓aQ,aR,↓aT,aK,↓reduceIte,aa,ah,ae,Tryz.f31,aE,hl,g0,P,P1,O1,hp,hc,hd];exact ip
end Go.Proofs.YtblnjkjjedanaaaGreatDoor
namespace Dv
open Go Go.RowKit
variable{E:Env}{dr tr:Bool}{ops:List (Option Nat)}{rest:List Oper}{aM:Nat}{ts:List AV}{H:Hp}{l:List Rw}{q:List AV->Hp->List Rw->Prop}{d:Option Nat}{t:Nat}{p:String}{af:Array Edge}
theorem ajS{args:Array Operand}{eg:Array Nat}{s:List (Nat×cG)}:bI E ts ⟨d,.call {callee:=.builtin .copy,args:=args,argTypes:=eg},t,p,af,none⟩ (.bM s)=(Gj ts args.toList,s.map (·.1)):=by
 unfold bI;simp only[jG,lf,Op.operands,Call.operands,Gj]
 simp
 rfl
theorem aj8{args:Array Operand}{eg:Array Nat}{g:Option (Nat×Bool)}:ck E ⟨d,.call {callee:=.builtin .copy,args:=args,argTypes:=eg},t,p,af,g⟩=false:=rfl
end Dv
namespace Go.Proofs.YtblnjkjjedanaaaGreatDoor
open Go Dv Dv.bV
open Go.Proofs.dN
variable{E:Env}[C:Ctx E]
set_option maxRecDepth 100000
theorem at6{aM:Nat}{d0 d1 d2 p0 p1 p2 h:List UInt8}:aW E aM 84 5 [(0,cw 1 0 false d0 d1 d2 p0 p1 p2 []),(1,cw 2 0 false d0 d1 d2 [] [] [] []),(2,cw 3 0 false d0 d1 d2 p0 p1 p2 h),(3,cw 4 0 false d0 d1 d2 p0 p1 p2 []),(4,cw 6 0 false d0 d1 d2 [] [] [] [])]=some (.aI aM 0 5 10 5,[(aM,.cells .live [.int .i64 1,.int .i64 0,.bool false,.str d0,.str d1,.str d2,.str p0,.str p1,.str p2,.str [],.int .i64 2,.int .i64 0,.bool false,.str d0,.str d1,.str d2,.str [],.str [],.str [],.str [],.int .i64 3,.int .i64 0,.bool false,.str d0,.str d1,.str d2,.str p0,.str p1,.str p2,.str h,.int .i64 4,.int .i64 0,.bool false,.str d0,.str d1,.str d2,.str p0,.str p1,.str p2,.str [],.int .i64 6,.int .i64 0,.bool false,.str d0,.str d1,.str d2,.str [],.str [],.str [],.str []])]):=by
 obtain⟨o,rfl⟩:=fT C
 kernel_rfl
theorem auA{H:Hp}{aM b:Nat}{c0 c1 c2 c3 c4 c5 e0 e1 e2 e3 e4 e5:List UInt8}(hb:H[b]?=some (.cells .live [.str e0,.str e1,.str e2,.str e3,.str e4,.str e5])):aZ E H aM .copy [25,25] [.aI b 0 6 1 6,.aJ [.str c0,.str c1,.str c2,.str c3,.str c4,.str c5] 6]=some (.int .i64 6,[(b,.cells .live [.str c0,.str c1,.str c2,.str c3,.str c4,.str c5])]):=by
 obtain⟨i,e,ei,h1,h2,h3,h4,h5,h6,h7⟩:=iB (JD (E:=E));obtain⟨cS,isAgg,size,bytes,zero,eQ⟩:=i;simp only at h2;subst h2;have tY:sJ H ei.size (.aJ [.str c0,.str c1,.str c2,.str c3,.str c4,.str c5] 6)=some [.str c0,.str c1,.str c2,.str c3,.str c4,.str c5]:=by rw[h5];rfl
 have hc:aZ E H aM .copy [25,25] [.aI b 0 6 1 6,.aJ [.str c0,.str c1,.str c2,.str c3,.str c4,.str c5] 6]=v7 E H 25 (.aI b 0 6 1 6) (.aJ [.str c0,.str c1,.str c2,.str c3,.str c4,.str c5] 6):=rfl;rw[hc];unfold v7;simp only[h1,h3,pV,hb,h5];rfl
theorem Tu{ts:List AV}{d:Option Nat}{t:Nat}{p:String}{af:Array Edge}{x:Operand}{s:List (Nat×cG)}:bI E ts ⟨d,.slice 78 x none none none,t,p,af,none⟩ (.bM s)=(Gj ts [x],s.map (·.1)):=by
 obtain⟨o,rfl⟩:=fT C;have h:jG (EN o) ⟨d,.slice 78 x none none none,t,p,af,none⟩=.r:=by kernel_rfl
 unfold bI;rw[h];simp[lf,Op.operands,Gj]
 try rfl
def ap9(n:Int)(cl:Bool)(d0 d1 d2 p0 p1 p2 h:List UInt8)(s1 s2 s3 s4 s5:Bool):AV:=
 if s1=true then cw 1 n cl d0 d1 d2 p0 p1 p2 []else if s2=true then cw 2 n cl d0 d1 d2 [] [] [] []else if s3=true then cw 3 n cl d0 d1 d2 p0 p1 p2 h else if s4=true then cw 4 n cl d0 d1 d2 p0 p1 p2 []else if s5=true then cw 6 n cl d0 d1 d2 [] [] [] []else eJ 8 n cl
theorem yq{E:Env} [C:lS E]{o rv:AV}{G rays:List (List Rat)}{k:Nat}(ho:mz o G)(qP:mz rv rays)(hw:iX G 6)(hb:mR k G)(hk:k<=98000)(Az:0<G.length)(hG2:G.length<=2)(dM:¬((cV (row G 0)).a=v0/\(cV (row G 0)).l=v0))(hxd:TW (cV (row G 0))≠v0)
  {d0 d1 d2 p0 p1 p2 h:List UInt8} (Oj:d0=bC (dX (TW (cV (row G 0)))).x) (uK:d1=bC (dX (TW (cV (row G 0)))).y) (xL:d2=bC (dX (TW (cV (row G 0)))).z) (hp0:p0=bC (Zf (cV (row G 0))).x) (Sd:p1=bC (Zf (cV (row G 0))).y) (hp2:p2=bC (Zf (cV (row G 0))).z) (hh:h=bC (axH (cV (row G 0))))
  {l:Nat} (bD:BV l (TW (cV (row G 0)))) (bP:BV l (Zf (cV (row G 0)))) (bH:Bq l (axH (cV (row G 0)))) (bL:BV l (dX (TW (cV (row G 0))))) (hl9:l<=100000000)
  {s1 s2 s3 s4 s5:Bool} (M5:aO E 33 [.agg [.int .i64 6,o,rv],cw 1 0 false d0 d1 d2 p0 p1 p2 []]=some (.bool s1)) (I7:aO E 33 [.agg [.int .i64 6,o,rv],cw 2 0 false d0 d1 d2 [] [] [] []]=some (.bool s2)) (hs3:aO E 33 [.agg [.int .i64 6,o,rv],cw 3 0 false d0 d1 d2 p0 p1 p2 h]=some (.bool s3)) (hs4:aO E 33 [.agg [.int .i64 6,o,rv],cw 4 0 false d0 d1 d2 p0 p1 p2 []]=some (.bool s4)) (hs5:aO E 33 [.agg [.int .i64 6,o,rv],cw 6 0 false d0 d1 d2 [] [] [] []]=some (.bool s5)):
  aO E 10 [.agg [.int .i64 6,o,rv]]=some (ap9 (G.length:Int) ((rays.length:Int)==0) d0 d1 d2 p0 p1 p2 h s1 s2 s3 s4 s5):=by
 suffices hq:∃u,aO E 10 [.agg [.int .i64 6,o,rv]]=some u/\u=ap9 (G.length:Int) ((rays.length:Int)==0) d0 d1 d2 p0 p1 p2 h s1 s2 s3 s4 s5 by
  obtain⟨u,h1,rfl⟩:=hq;exact h1
 have Sh:=hw 0 Az;obtain⟨tw,htw,it⟩:=Cw (E:=E) Sh (hb 0 Az) hk;have bt:=xZ Sh (hb 0 Az);obtain⟨kd,kH,kr,kI,ku,me,lO,mf,lP,mh,lQ,mi,lR,nk,nh,nu,nj,nS,nO,nT,nP,nU,nQ,nV,nR,zn0,zm0,zn1,zm1,hax,ix,iy,iz⟩:=Kj (E:=E) it bt (by omega) dM;obtain⟨ax,aww,iax⟩:=RB (E:=E) ix bD (by omega) hxd;have hpt:=mV (E:=E) iax bL (by omega);have ao9:=mV (E:=E) iy bP (by omega);have hnm:=iQ (E:=E) iz bH (by omega);rw[<-Oj,<-uK,<-xL]at hpt;rw[<-hp0,<-Sd,<-hp2]at ao9;rw[<-hh]at hnm;have yJ:(row G 0).map (fun q=>AV.str (bC q))=[.str (bC ((row G 0).getD 0 0)),.str (bC ((row G 0).getD 1 0)),.str (bC ((row G 0).getD 2 0)),.str (bC ((row G 0).getD 3 0)),.str (bC ((row G 0).getD 4 0)),.str (bC ((row G 0).getD 5 0))]:=by
  conv=>lhs;rw[WX Sh]
  rfl
 obtain⟨c0,JY⟩:∃c,c=bC ((row G 0).getD 0 0):=⟨_,rfl⟩;obtain⟨c1,G0⟩:∃c,c=bC ((row G 0).getD 1 0):=⟨_,rfl⟩;obtain⟨c2,JZ⟩:∃c,c=bC ((row G 0).getD 2 0):=⟨_,rfl⟩;obtain⟨c3,hc3⟩:∃c,c=bC ((row G 0).getD 3 0):=⟨_,rfl⟩;obtain⟨c4,hc4⟩:∃c,c=bC ((row G 0).getD 4 0):=⟨_,rfl⟩;obtain⟨c5,hc5⟩:∃c,c=bC ((row G 0).getD 5 0):=⟨_,rfl⟩;rw[<-JY,<-G0,<-JZ,<-hc3,<-hc4,<-hc5]at yJ;rw[yJ]at htw;clear Oj uK xL hp0 Sd hp2 hh JY G0 JZ hc3 hc4 hc5;obtain⟨-,hog⟩:=ho.resolve_left (fun h=>by rw[h.1]at Az;exact absurd Az (by simp));have q1:=dL (vs:=G.map dS) (i:=0) (by rw[aOT];exact Az);rw[sX Az,lH]at q1;have q1:(G.map dS)[0]?=some (.aJ [.str c0,.str c1,.str c2,.str c3,.str c4,.str c5] 6):=by rw[q1];unfold dS;rw[yJ,Sh]
 subst hog;obtain⟨ag,rfl,anV,awp,awq⟩:=oD it;obtain⟨Y1,YZ,Y2,Y0,wn2,wm2,wn3,wm3,wn4,wm4,wn5,wm5,rfl,-,-,-,P,O⟩:=cD iax;have X:=dQ ix;have Y:=dQ iy;have Z:=aU _ iz;have e0:((G.length:Int)==0)=false:=by simpa using(by omega:(G.length:Int)≠0)
 have e6:((G.length:Int)==6)=false:=by simpa using(by omega:(G.length:Int)≠6)
 have e3:((G.length:Int)==3)=false:=by simpa using(by omega:(G.length:Int)≠3)
 have ci1:((0:Int)<(G.length:Int))=True:=eq_true (by omega);have Db:=qP.len;have mr:=qP.lY;have Sl:List.take 24 ag=ag:=by rw[<-anV,aR7]
 have pS:=fun aM=>at6 (E:=E) (aM:=aM) (d0:=d0) (d1:=d1) (d2:=d2) (p0:=p0) (p1:=p1) (p2:=p2) (h:=h)
 obtain⟨clv,iE⟩:∃c,c=((rays.length:Int)==0):=⟨_,rfl⟩;rw[<-iE];have lJ:∀H:Hp,H[3]?=some (.cells .live [.str [],.str [],.str [],.str [],.str [],.str []])->AE E H 78 (.b6 3 0) none none=some (.aI 3 0 6 1 6):=fun H hH=>Ao Uv hH (by decide) (by rfl) (by decide) (by decide)
 have B6:=fun(H:Hp) aM hH=>auA (E:=E) (H:=H) (aM:=aM) (b:=3) (c0:=c0) (c1:=c1) (c2:=c2) (c3:=c3) (c4:=c4) (c5:=c5) (e0:=[]) (e1:=[]) (e2:=[]) (e3:=[]) (e4:=[]) (e5:=[]) hH
 refine mO amC ?_;intro ts hl g0;unfold c10;unfold cw at M5 I7 hs3 hs4 hs5 pS;simp only[↓aQ,aR,↓aT,aK,↓reduceIte,aa,ah,ae,an,aq,Tryz.f10,ai,hl,g0,e0,e6,e3,ci1,Db,q1,lJ,B6,agB,ajS,aj8,Tu,htw,awq,anV,awp,Sl,hax,aww,hpt,ao9,hnm,X,Y,Z,P,pS,<-iE];refine gb 6 ?_;have AF:aV .i64 1=1:=by decide
 have MP:aV .i64 2=2:=by decide
 have Rt:aV .i64 3=3:=by decide
 have wk4:aV .i64 4=4:=by decide
 have wk5:aV .i64 5=5:=by decide
 cases s1 with
 |true=>
  simp only[↓aQ,aR,↓aT,aK,↓reduceIte,aa,ah,ak,ae,an,ao,aq,ai,aj,aj,hl,mr,M5,ao,an];rfl
 |false=>
  cases s2 with
  |true=>
   simp only[↓aQ,aR,↓aT,aK,↓reduceIte,aa,ah,ak,ae,an,ao,aq,ai,aj,aA,aj,hl,mr,M5,I7,ao,an,aA,AF];rfl
  |false=>
   cases s3 with
   |true=>
    simp only[↓aQ,aR,↓aT,aK,↓reduceIte,aa,ah,ak,ae,an,ao,aq,ai,aj,aA,aj,hl,mr,M5,I7,hs3,ao,an,aA,AF,MP];rfl
   |false=>
    cases s4 with
    |true=>
     simp only[↓aQ,aR,↓aT,aK,↓reduceIte,aa,ah,ak,ae,an,ao,aq,ai,aj,aA,aj,hl,mr,M5,I7,hs3,hs4,ao,an,aA,AF,MP,Rt];rfl
    |false=>
     cases s5 with
     |true=>
      simp only[↓aQ,aR,↓aT,aK,↓reduceIte,aa,ah,ak,ae,an,ao,aq,ai,aj,aA,aj,hl,mr,M5,I7,hs3,hs4,hs5,ao,an,aA,AF,MP,Rt,wk4];rfl
     |false=>
      simp only[↓aQ,aR,↓aT,aK,↓reduceIte,aa,ah,ak,ae,an,ao,aq,ai,aA,hl,mr,M5,I7,hs3,hs4,hs5,ao,an,aA,AF,MP,Rt,wk4,wk5];rfl
set_option maxRecDepth 100000
theorem Lp{E:Env} [C:lS E]{o rv:AV}{rays:List (List Rat)}(ho:mz o [])(qP:mz rv rays):
  aO E 10 [.agg [.int .i64 6,o,rv]]=some (eJ 0 0 ((rays.length:Int)==0)):=by
 suffices hq:∃u,aO E 10 [.agg [.int .i64 6,o,rv]]=some u/\u=eJ 0 0 ((rays.length:Int)==0)by
  obtain⟨u,h1,rfl⟩:=hq;exact h1
 have mr:=qP.lY;have Db:=qP.len;obtain⟨u,hu,hT⟩:=Lt (E:=E) (d:=0) (cl:=false) (a0:=[]) (a1:=[]) (a2:=[]) (b0:=[]) (b1:=[]) (b2:=[]) (h:=[]) (by decide) (by decide) (by decide) (by decide) (by decide) (by decide) (by decide);obtain⟨K,P,hs,CL,KR⟩:=nH (E:=E) hu hT (b:=0) (fun i hi=>absurd hi (by simp[eI])) (by omega) (by simp) ho (G:=[]) (fun i hi=>absurd hi (by simp)) (by simp) mr;have hK:K=[]:=IP (L:=[]) (ps:=[]) KR CL (by rfl) (by rfl);rw[cF hK]at hs;obtain rfl:o=.aH:=by
  rcases ho with⟨-,h⟩|⟨h,-⟩
  ·exact h
  ·exact absurd rfl h
 obtain⟨clv,iE⟩:∃c,c=((rays.length:Int)==0):=⟨_,rfl⟩;rw[<-iE];have pS:∀aM,aW E aM 84 1 [(0,cw 0 0 false [] [] [] [] [] [] [])]=some (.aI aM 0 1 10 1,[(aM,.cells .live [.int .i64 0,.int .i64 0,.bool false,.str [],.str [],.str [],.str [],.str [],.str [],.str []])]):=fun aM=>gE ajL rfl (by decide) (by decide) rfl
 refine mO amC ?_;intro ts hl g0;unfold c10;unfold cw at hs pS;simp only[↓aQ,aR,aK,↓reduceIte,aa,ah,ae,Tryz.f10,ai,hl,g0,Db,pS,<-iE];refine gb 2 ?_;simp only[↓aQ,aR,↓aT,aK,↓reduceIte,aa,ah,ak,ae,an,ao,aq,ai,aj,aj,hl,mr,hs,ao,an];rfl
set_option maxRecDepth 100000
theorem BF{c:Rat}{a:V3}(hc:c≠0)(ha:a≠v0):eE c a≠v0:=by
 intro e;apply ha;obtain⟨x,y,z⟩:=a;unfold eE v0 at*;simp only[V3.mk.injEq]at e⊢;obtain⟨e1,e2,e3⟩:=e;refine⟨?_,?_,?_⟩
 ·rcases aYs.1 e1 with h|h;exact absurd h hc;exact h
 ·rcases aYs.1 e2 with h|h;exact absurd h hc;exact h
 ·rcases aYs.1 e3 with h|h;exact absurd h hc;exact h
theorem EI{a:V3}{D n0 n1 n2:Int}(h:ZD a D n0 n1 n2)(dM:a≠v0):dX (mW a)=dX a/\mW a≠v0:=by obtain⟨m0,m1,m2,hi,-,-,-,c,hc,e⟩:=LW h dM;refine⟨?_,by rw[e];exact BF hc dM⟩;unfold dX;rw[hi.mW]
theorem arv{G:List (List Rat)}:(cV (row G 0)).a=⟨dW G 0 0,dW G 0 1,dW G 0 2⟩:=rfl
theorem IQ{G:List (List Rat)}{P:Nat->Nat}{W:FV->Prop}(hE:kU 6 G.length (fun i=>dW G i) P W)(hG:0<G.length):(cV (row G 0)).a=v0↔3<=P 0:=by
 rw[arv];unfold v0;simp only[V3.mk.injEq];constructor
 ·rintro⟨h0,h1,h2⟩;have h:=hE.one 0 0 hG hG;rw[if_pos rfl]at h
  match hp:P 0 with
  |0=>rw[hp,h0]at h;exact absurd h (by decide)
  |1=>rw[hp,h1]at h;exact absurd h (by decide)
  |2=>rw[hp,h2]at h;exact absurd h (by decide)
  |n+3=>omega
 ·intro h;exact⟨hE.low 0 0 hG (by omega),hE.low 0 1 hG (by omega),hE.low 0 2 hG (by omega)⟩
theorem aai{n m:Nat}{f:Nat->FV}{P:Nat->Nat}{W:FV->Prop}(hE:kU n m f P W){i:Nat}(hi:i<m):P 0<=P i:=by
 by_cases h:i=0
 ·subst h;omega
 ·have:=hE.mono 0 i (by omega) hi;omega
theorem aiM{G:List (List Rat)}{P:Nat->Nat}{W:FV->Prop}(hE:kU 6 G.length (fun i=>dW G i) P W)(hW:Lsp W)(hG:0<G.length)(ha:(cV (row G 0)).a=v0){x:FV}(hx:W x){c:Nat}(hc:c<3):x c=0:=by
 have hp:=(IQ hE hG).1 ha;rw[hE.comb hW hx c];refine gw fun i hi=>?_
 have:=aai hE hi
 have h0:dW G i c=0:=hE.low i c hi (by omega);show x (P i)*dW G i c=0
 rw[h0,Rat.mul_zero]
theorem XQ{tws:List Tw}{i:Nat}(h:i<tws.length):rf (eI tws) i=fv (tws.getD i ⟨v0,v0⟩).qs:=by
 show fv (row (eI tws) i)=_
 rw[HE h]
theorem zT{K G:List (List Rat)}{P:Nat->Nat}{tws:List Tw}(hG:0<G.length)(ha:(cV (row G 0)).a=v0)(hK:kU 6 K.length (fun i=>dW K i) P (eK (SR tws.length (rf (eI tws)))))(h0:0<tws.length)(hu:(tws.getD 0 ⟨v0,v0⟩).a≠v0):K≠G:=by
 intro e;subst e;have hx:=eK.of (SR.get (f:=rf (eI tws)) h0);have hz:=fun c hc=>aiM hK (jn _) hG ha hx (c:=c) hc
 rw[XQ h0]at hz;apply hu;have e0:=hz 0 (by omega);have e1:=hz 1 (by omega);have e2:=hz 2 (by omega);generalize tws.getD 0 ⟨v0,v0⟩=t at*;obtain⟨⟨a0,a1,a2⟩,l⟩:=t;have e0:a0=0:=e0;have e1:a1=0:=e1;have e2:a2=0:=e2;subst e0 e1 e2;rfl
theorem aab{K:List (List Rat)}{P:Nat->Nat}{f:Nat->FV}(hK:kU 6 K.length (fun i=>dW K i) P (eK (SR 1 f))):K.length<=1:=by
 refine Nat.le_of_not_lt fun h=>?_
 obtain⟨q0,h0⟩:=uW (hK.mem 0 (by omega));obtain⟨q1,h1⟩:=uW (hK.mem 1 (by omega));have a:=hK.one 0 0 (by omega) (by omega);have b:=hK.one 1 0 (by omega) (by omega);have c:=hK.one 1 1 (by omega) (by omega);rw[if_pos rfl]at a c;rw[if_neg (by omega)]at b;have s:∀(q:Nat->Rat) c,jo (fun i=>q i*f i c) 1=q 0*f 0 c:=fun q c=>by
  show jo (fun i=>q i*f i c) 0+q 0*f 0 c=_
  show(0:Rat)+q 0*f 0 c=_
  grind
 rw[h0,s]at a;rw[h1,s]at b c;have hf:f 0 (P 0)≠0:=fun e=>by rw[e,Rat.mul_zero]at a;exact absurd a (by decide)
 have hq:q1 0=0:=by
  rcases aYs.1 b with h|h
  ·exact h
  ·exact absurd h hf
 rw[hq,Rat.zero_mul]at c;exact absurd c (by decide)
theorem Q1{G:List (List Rat)}{P:Nat->Nat}{W:FV->Prop}(hE:kU 6 G.length (fun i=>dW G i) P W)(hW:Lsp W)(hG:G.length=1){x:FV}(hx:W x)(c:Nat):x c=x (P 0)*dW G 0 c:=by
 rw[hE.comb hW hx c,hG];show(0:Rat)+x (P 0)*dW G 0 c=_
 grind
theorem YI{G:List (List Rat)}{P:Nat->Nat}{W:FV->Prop}(hE:kU 6 G.length (fun i=>dW G i) P W)(hW:Lsp W)(hG:G.length=2){x:FV}(hx:W x)(c:Nat):x c=x (P 0)*dW G 0 c+x (P 1)*dW G 1 c:=by
 rw[hE.comb hW hx c,hG];show(0:Rat)+x (P 0)*dW G 0 c+x (P 1)*dW G 1 c=_
 grind
theorem abw{K G:List (List Rat)}{P:Nat->Nat}{u:V3}(hG:G.length=1)(ha:(cV (row G 0)).a≠v0)(hK:kU 6 K.length (fun i=>dW K i) P (eK (SR 1 (rf (eI [gI u])))))(hu:u≠v0):K≠G:=by
 intro e;subst e;have hp:¬3<=P 0:=fun h=>ha ((IQ hK (by omega)).2 h)
 have hx:=eK.of (SR.get (f:=rf (eI [gI u])) (i:=0) (m:=1) (by omega));have h1:=fun c=>Q1 hK (jn _) hG hx c
 have e0:rf (eI [gI u]) 0=fv (gI u).qs:=rfl;rw[e0]at h1;have hz:fv (gI u).qs (P 0)=0:=by
  match hq:P 0 with
  |0=>rfl
  |1=>rfl
  |2=>rfl
  |n+3=>omega
 rw[hz]at h1;apply hu;obtain⟨x,y,z⟩:=u;have a:x=0*dW K 0 3:=h1 3;have b:y=0*dW K 0 4:=h1 4;have c:z=0*dW K 0 5:=h1 5;rw[Rat.zero_mul]at a b c;subst a b c;rfl
theorem WR{K G:List (List Rat)}{P:Nat->Nat}{u p:V3}{c h:Rat}(hG:G.length=1)(ha:(cV (row G 0)).a≠v0)(hc:u=eE c (cV (row G 0)).a)(hm:Av (bX p u) (eE h u)=eE c (cV (row G 0)).l)(hh:h≠0)(hu:u≠v0)(hK:kU 6 K.length (fun i=>dW K i) P (eK (SR 1 (rf (eI [gd u p]))))):K≠G:=by
 intro e;subst e;have hx:=eK.of (SR.get (f:=rf (eI [gd u p])) (i:=0) (m:=1) (by omega));have h1:=fun i=>Q1 hK (jn _) hG hx i
 have e0:rf (eI [gd u p]) 0=fv (gd u p).qs:=rfl;rw[e0]at h1;generalize fv (gd u p).qs (P 0)=β at h1;have g0:=h1 0;have g1:=h1 1;have g2:=h1 2;have g3:=h1 3;have g4:=h1 4;have g5:=h1 5;clear h1 hx hK e0;have yJ:cV (row K 0)=⟨⟨dW K 0 0,dW K 0 1,dW K 0 2⟩,⟨dW K 0 3,dW K 0 4,dW K 0 5⟩⟩:=rfl;rw[yJ]at ha hc hm;generalize dW K 0 0=r0 at*;generalize dW K 0 1=r1 at*;generalize dW K 0 2=r2 at*;generalize dW K 0 3=r3 at*;generalize dW K 0 4=r4 at*;generalize dW K 0 5=r5 at*;have g0:u.x=β*r0:=g0;have g1:u.y=β*r1:=g1;have g2:u.z=β*r2:=g2;have g3:(bX p u).x=β*r3:=g3;have g4:(bX p u).y=β*r4:=g4;have g5:(bX p u).z=β*r5:=g5;have k0:u.x=c*r0:=by rw[hc];rfl
 have k1:u.y=c*r1:=by rw[hc];rfl
 have k2:u.z=c*r2:=by rw[hc];rfl
 have hbc:β=c:=by
  refine Classical.byContradiction fun dM=>ha ?_
  have z:∀r:Rat,β*r=c*r->r=0:=fun r e=>by
   have:(β-c)*r=0:=by grind
   rcases aYs.1 this with h|h
   ·exact absurd (by grind:β=c) dM
   ·exact h
  have z0:=z r0 (g0.symm.trans k0);have z1:=z r1 (g1.symm.trans k1);have z2:=z r2 (g2.symm.trans k2);subst z0 z1 z2;rfl
 subst hbc;apply hu;have m0:(bX p u).x+h*u.x=β*r3:=congrArg V3.x hm;have m1:(bX p u).y+h*u.y=β*r4:=congrArg V3.y hm;have m2:(bX p u).z+h*u.z=β*r5:=congrArg V3.z hm;have w:∀r:Rat,h*r=0->r=0:=fun r e=>by
  rcases aYs.1 e with h'|h'
  ·exact absurd h' hh
  ·exact h'
 have w0:u.x=0:=w _ (by grind);have w1:u.y=0:=w _ (by grind);have w2:u.z=0:=w _ (by grind);obtain⟨x,y,z⟩:=u;simp only at w0 w1 w2;subst w0 w1 w2;rfl
theorem OO{K G:List (List Rat)}{P:Nat->Nat}{u:V3}{tws:List Tw}(hG:G.length=2)(ha:(cV (row G 0)).a≠v0)(hP:AG u tws)(hK:kU 6 K.length (fun i=>dW K i) P (eK (SR tws.length (rf (eI tws))))):K≠G:=by
 intro e;subst e;obtain⟨i,j,hi,hj,rfl,h1,h2,h3⟩:=hP;have hp:¬3<=P 0:=fun h=>ha ((IQ hK (by omega)).2 h)
 have tr:∀(c:V3) (q:Nat),q<3->rf (eI [gd u v0,gI (bX u (eV i)),gI (bX u (eV j))]) q=fv (gI c).qs->∃β:Rat,c=⟨β*dW K 1 3,β*dW K 1 4,β*dW K 1 5⟩:=by
  intro c q hq e0;have hx:=eK.of (SR.get (f:=rf (eI [gd u v0,gI (bX u (eV i)),gI (bX u (eV j))])) (i:=q) (m:=3) hq);have h1:=fun i=>YI hK (jn _) hG hx i
  rw[e0]at h1;have hz:fv (gI c).qs (P 0)=0:=by
   match hq:P 0 with
   |0=>rfl
   |1=>rfl
   |2=>rfl
   |n+3=>omega
  rw[hz]at h1;refine⟨fv (gI c).qs (P 1),?_⟩;generalize fv (gI c).qs (P 1)=β at h1;have g3:=h1 3;have g4:=h1 4;have g5:=h1 5;obtain⟨x,y,z⟩:=c;have k3:x=0*dW K 0 3+β*dW K 1 3:=g3;have k4:y=0*dW K 0 4+β*dW K 1 4:=g4;have k5:z=0*dW K 0 5+β*dW K 1 5:=g5;clear g3 g4 g5 h1 hz hx e0;congr 1<;>grind
 obtain⟨β,eβ⟩:=tr (bX u (eV i)) 1 (by omega) rfl;obtain⟨γ,eγ⟩:=tr (bX u (eV j)) 2 (by omega) rfl;apply h3;rw[eβ,eγ];unfold bX v0;simp only;congr 1<;>grind
end Go.Proofs.YtblnjkjjedanaaaGreatDoor
