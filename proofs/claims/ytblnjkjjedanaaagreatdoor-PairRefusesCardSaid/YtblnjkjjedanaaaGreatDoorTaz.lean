/- A part of the proof that PairRefuses returns true for every input; no condition of its own. -/
import Derived.Test.YtblnjkjjedanaaaGreatDoorTay
set_option linter.all false
set_option maxHeartbeats 100000000
set_option maxRecDepth 100000
open List renaming mem_singleton->aNq,length_append->aMk,getD_eq_getElem?_getD->aSW,getElem?_append_left->aOB,getElem?_eq_getElem->aMh,not_mem_nil->aUn,mem_cons->aNn,map_cons->aNf,length_map->aOT,all_eq_true->aMa,mem_range->aYg,set_append_right->aYh,range->aYi,mem_map->aNp,flatMap_cons->aNs,take_length->aR7,length_cons->aMn
open Nat renaming le_refl->aLr,one_le_two_pow->aYj,reduceLT->aa,reduceEqDiff->ae,reduceAdd->ah,reduceLeDiff->ai
open Int renaming reduceLE->an,reduceToNat->aq,reduceNeg->aB,reduceBEq->aD,reduceBNe->aE
namespace Go.Proofs.YtblnjkjjedanaaaGreatDoor
open Go Dv Dv.bV
open Go.Proofs.dN
variable{E:Env}[C:Ctx E]
theorem HO{f g:Nat->FV}{c:Rat}(hc:c≠0)(h:∀i,f 0 i=c*g 0 i)(x:FV):eK (SR 1 f) x↔eK (SR 1 g) x:=by
 refine⟨eK.trans ?_,eK.trans ?_⟩
 ·rintro a ⟨i,hi,e⟩
  have:i=0:=by omega
  subst this;exact eK.pO (x:=fun _=>0) c (.zero fun _=>rfl) (eK.of (SR.get (f:=g) (i:=0) (by omega))) (fun j=>by rw[e,h];grind)
 ·rintro a ⟨i,hi,e⟩
  have:i=0:=by omega
  subst this;exact eK.pO (x:=fun _=>0) (1/c) (.zero fun _=>rfl) (eK.of (SR.get (f:=f) (i:=0) (by omega))) (fun j=>by rw[e,h];grind)
theorem acv{b:Nat}{t:Tw}(h:CV b (fv t.qs)):BT (b+1) t:=by
 have:=mj h
 unfold Tw.qs at this;exact⟨⟨this _ (by simp),this _ (by simp),this _ (by simp)⟩,⟨this _ (by simp),this _ (by simp),this _ (by simp)⟩⟩
theorem HE{ts:List Tw}{i:Nat}(h:i<ts.length):row (eI ts) i=(ts.getD i ⟨v0,v0⟩).qs:=by unfold row eI;rw[aSW,List.getElem?_map,aSW,aMh h];rfl
theorem uj{b:Nat}{ts:List Tw}(h:∀t∈ts,CV b (fv t.qs)):CR b (eI ts)/\TT (b+1) ts:=by
 refine⟨fun i hi=>?_,fun t ht=>acv (h t ht)⟩;have zL:i<ts.length:=by unfold eI at hi;rwa[aOT]at hi
 rw[HE zL];refine h _ ?_;rw[aSW,aMh zL];exact List.getElem_mem zL
theorem RE{x:Int}{X:Nat}(hx:x.natAbs<=3*X):x.natAbs<=8*X:=by omega
theorem agk{x y z:Int}{X:Nat}(hx:x.natAbs<=2*X)(hy:y.natAbs<=2*X)(hz:z.natAbs<=3*X):(x-y+z).natAbs<=8*X:=by omega
theorem agl{x y:Int}{X:Nat}(hx:x.natAbs<=2*X)(hy:y.natAbs<=2*X):(x-y).natAbs<=8*X:=by omega
theorem Am{B:Nat}{u0 u1 u2 N p0 p1 p2 q:Int}(hN:N≠0)(FQ:u0.natAbs<=2^B)(FR:u1.natAbs<=2^B)(FT:u2.natAbs<=2^B)(bN:N.natAbs<=3*(2^B*2^B))(Zg:p0.natAbs<=2*(2^B*2^B))(Zh:p1.natAbs<=2*(2^B*2^B))(Zi:p2.natAbs<=2*(2^B*2^B))(bq:q.natAbs<=3*(2^B*2^B)):
  CV (3*B+3) (fv (yA (gd ⟨u0,u1,u2⟩ ⟨(p0:Rat)/N,(p1:Rat)/N,(p2:Rat)/N⟩) (gI (eE ((q:Rat)/N) ⟨u0,u1,u2⟩))).qs)/\CV (3*B+3) (fv (gd ⟨u0,u1,u2⟩ ⟨(p0:Rat)/N,(p1:Rat)/N,(p2:Rat)/N⟩).qs):=by
 have hNq:=iK hN;have h3:=ayR B;have hNB:N.natAbs<=2^(3*B+3):=by
  rw[h3]
  have:2^B*2^B*1<=2^B*2^B*2^B:=Nat.mul_le_mul_left _ aYj
  omega
 have l3:∀{a b:Int} {k:Nat},a.natAbs<=k*(2^B*2^B)->b.natAbs<=2^B->(a*b).natAbs<=k*(2^B*2^B*2^B):=by intro a b k ha hb;rw[<-Nat.mul_assoc,Int.natAbs_mul];exact Nat.mul_le_mul ha hb
 have a0:=l3 bN FQ;have a1:=l3 bN FR;have a2:=l3 bN FT;have b12:=l3 Zh FT;have b21:=l3 Zi FR;have b20:=l3 Zi FQ;have b02:=l3 Zg FT;have b01:=l3 Zg FR;have b10:=l3 Zh FQ;have q0:=l3 bq FQ;have q1:=l3 bq FR;have q2:=l3 bq FT;generalize hX:2^B*2^B*2^B=X at*;constructor
 ·have e:(yA (gd ⟨(u0:Rat),u1,u2⟩ ⟨(p0:Rat)/N,(p1:Rat)/N,(p2:Rat)/N⟩) (gI (eE ((q:Rat)/N) ⟨u0,u1,u2⟩))).qs=[((N*u0:Int):Rat)/N,((N*u1:Int):Rat)/N,((N*u2:Int):Rat)/N,((p1*u2-p2*u1+q*u0:Int):Rat)/N,((p2*u0-p0*u2+q*u1:Int):Rat)/N,((p0*u1-p1*u0+q*u2:Int):Rat)/N]:=by
   unfold yA gd gI Tw.qs Av bX eE v0;simp only[Rat.intCast_add,Rat.intCast_sub,Rat.intCast_mul,List.cons.injEq,and_true];refine⟨?_,?_,?_,?_,?_,?_⟩<;>grind
  rw[e];refine CX hN hNB ?_;rw[h3];simp only[aNn,aUn,or_false,forall_eq_or_imp,forall_eq];exact⟨RE a0,RE a1,RE a2,agk b12 b21 q0,agk b20 b02 q1,agk b01 b10 q2⟩
 ·have e:(gd ⟨(u0:Rat),u1,u2⟩ ⟨(p0:Rat)/N,(p1:Rat)/N,(p2:Rat)/N⟩).qs=[((N*u0:Int):Rat)/N,((N*u1:Int):Rat)/N,((N*u2:Int):Rat)/N,((p1*u2-p2*u1:Int):Rat)/N,((p2*u0-p0*u2:Int):Rat)/N,((p0*u1-p1*u0:Int):Rat)/N]:=by
   unfold gd Tw.qs bX;simp only[Rat.intCast_sub,Rat.intCast_mul,List.cons.injEq,and_true];refine⟨?_,?_,?_,?_,?_,?_⟩<;>grind
  rw[e];refine CX hN hNB ?_;rw[h3];simp only[aNn,aUn,or_false,forall_eq_or_imp,forall_eq];exact⟨RE a0,RE a1,RE a2,agl b12 b21,agl b20 b02,agl b01 b10⟩
theorem HY{B:Nat}{u0 u1 u2:Int}(b0:u0.natAbs<=2^B)(b1:u1.natAbs<=2^B)(b2:u2.natAbs<=2^B):CV B (fv (gI ⟨u0,u1,u2⟩).qs):=by
 have e:(gI ⟨(u0:Rat),u1,u2⟩).qs=[((0:Int):Rat)/((1:Int):Rat),((0:Int):Rat)/((1:Int):Rat),((0:Int):Rat)/((1:Int):Rat),(u0:Rat)/((1:Int):Rat),(u1:Rat)/((1:Int):Rat),(u2:Rat)/((1:Int):Rat)]:=by
  have h0:((0:Int):Rat)=0:=rfl;have h1:((1:Int):Rat)=1:=rfl;unfold gI Tw.qs v0;rw[h0,h1];simp only[List.cons.injEq,and_true];refine⟨?_,?_,?_,?_,?_,?_⟩<;>grind
 rw[e];refine CX (by decide) aYj ?_;intro z hz;simp only[aNn,aUn,or_false]at hz;rcases hz with rfl|rfl|rfl|rfl|rfl|rfl<;>first|assumption|exact Nat.zero_le _
theorem dD{q:Rat}{k:Nat}(h:Bq k q)(hk:k<=98000):(bC q).length<=65536:=by have:=rm h;omega
theorem BG{a:V3}{k:Nat}(h:BV k a)(hk:k<=98000):yB 65536 (bC a.x) (bC a.y) (bC a.z)=0/\fN 65536 (bC a.x) (bC a.y) (bC a.z)=a:=by
 have h1:=oY h.1 hk;have h2:=oY h.2.1 hk;have h3:=oY h.2.2 hk;have hc:yB 65536 (bC a.x) (bC a.y) (bC a.z)=0:=by unfold yB;rw[h1,h2,h3];rfl
 refine⟨hc,?_⟩;unfold fN;rw[if_pos hc,om,om,om]
theorem I8{B:Nat}{u0 u1 u2:Int}(b0:u0.natAbs<=2^B)(b1:u1.natAbs<=2^B)(b2:u2.natAbs<=2^B):BV (B+1) ⟨(u0:Rat),u1,u2⟩:=by have hp:2^B<2^(B+1):=Nat.pow_lt_pow_right (by omega) (by omega);exact⟨Bq.int (by omega) (by omega),Bq.int (by omega) (by omega),Bq.int (by omega) (by omega)⟩
theorem zG{B:Nat}{N p0 p1 p2:Int}(hN:N≠0)(bN:N.natAbs<=3*(2^B*2^B))(b0:p0.natAbs<=3*(2^B*2^B))(b1:p1.natAbs<=3*(2^B*2^B))(b2:p2.natAbs<=3*(2^B*2^B)):BV (2*B+3) ⟨(p0:Rat)/N,(p1:Rat)/N,(p2:Rat)/N⟩:=by have h:=ayQ B;exact⟨uz hN (by omega) (by omega),uz hN (by omega) (by omega),uz hN (by omega) (by omega)⟩
theorem ald{k d:Int}{cl:Bool}{a0 a1 a2 b0 b1 b2 h:List UInt8}:∃cs,cw k d cl a0 a1 a2 b0 b1 b2 h=.agg cs/\cs.length=10/\cs.all b7=true:=⟨_,rfl,rfl,rfl⟩
theorem Fu(ax ay az lx ly lz c r S:Rat)(hS:S=0+ax*ax+ay*ay+az*az)(hr:r*S=1):r*(az*lx-ax*lz)*(c*az)-r*(ax*ly-ay*lx)*(c*ay)+(0+ax*lx+ay*ly+az*lz)*r*(c*ax)=c*lx:=by
 have:r*(az*lx-ax*lz)*(c*az)-r*(ax*ly-ay*lx)*(c*ay)+(0+ax*lx+ay*ly+az*lz)*r*(c*ax)=c*lx*(r*S):=by rw[hS];grind
 rw[this,hr,Rat.mul_one]
theorem HJ{t:Tw}{c:Rat}(dM:t.a≠v0)(hc:dX t.a=eE c t.a):Av (bX (j8 t) (dX t.a)) (eE (lM t) (dX t.a))=eE c t.l:=by
 have hS:=o9 dM;have hr:(((1:Int):Rat)/qV t.a t.a)*qV t.a t.a=1:=by
  have h1:((1:Int):Rat)=1:=rfl;rw[h1]
  grind
 rw[hc];unfold j8 lM;obtain⟨r,G5⟩:∃r,r=((1:Int):Rat)/qV t.a t.a:=⟨_,rfl⟩;rw[<-G5]at hr⊢;obtain⟨⟨ax,ay,az⟩,lx,ly,lz⟩:=t;have h1:=Fu ax ay az lx ly lz c r _ rfl hr;have h2:=Fu ay az ax ly lz lx c r (0+ax*ax+ay*ay+az*az) (by grind) hr;have h3:=Fu az ax ay lz lx ly c r (0+ax*ax+ay*ay+az*az) (by grind) hr;unfold Av bX eE qV;simp only;congr 1
 ·rw[<-h2];grind
 ·rw[<-h3];grind
theorem Cu{E:Env} [C:lS E]{k d:Int}{cl:Bool}{a0 a1 a2 b0 b1 b2 h:List UInt8}{v o:AV}{tws:List Tw}{G:List (List Rat)}{b:Nat}(hv:aO E 40 [cw k d cl a0 a1 a2 b0 b1 b2 h]=some v)(hT:CD v tws)(KV:∀t∈tws,CV b (fv t.qs))(hb:b<=300)(hm:tws.length<=3)(ho:mz o G)(hw:iX G 6)(yI:G.length<=6):
  ∃K P,aO E 29 [cw k d cl a0 a1 a2 b0 b1 b2 h,o]=some (.bool (decide (K=G)))/\iX K 6/\kU 6 K.length (fun i=>dW K i) P (eK (SR tws.length (rf (eI tws)))):=by
 obtain⟨h1,h2⟩:=uj KV;exact PD (E:=E) rfl ald hv hT h2 (by omega) h1 hb (by omega) ho hw yI
theorem yQ{E:Env} [C:lS E]{k d:Int}{cl:Bool}{a0 a1 a2 b0 b1 b2 h:List UInt8}{v o:AV}{t:Tw}{G:List (List Rat)}{b:Nat}{P:Nat->Nat}{c:Rat}(hv:aO E 40 [cw k d cl a0 a1 a2 b0 b1 b2 h]=some v)(hT:CD v [t])(KV:CV b (fv t.qs))(hb:b<=300)(ho:mz o G)(hw:iX G 6)(Az:G.length=1)(hE:kU 6 G.length (fun i=>dW G i) P (eK (SR G.length (rf G))))(hc:c≠0)(ht:∀i,fv t.qs i=c*fv (row G 0) i):
  aO E 29 [cw k d cl a0 a1 a2 b0 b1 b2 h,o]=some (.bool true):=by
 obtain⟨K,P',yK,CL,KR⟩:=Cu (E:=E) hv hT (by intro x hx;rw[aNq]at hx;subst hx;exact KV) hb (by simp) ho hw (by omega);have hKG:K=G:=by
  refine we (jn _) (KR.congr (V:=eK (SR G.length (rf G))) (fun x=>?_)) hE CL hw;rw[Az];refine HO (f:=rf (eI [t])) (g:=rf G) hc (fun i=>?_) x;show fv (row (eI [t]) 0) i=c*fv (row G 0) i
  rw[<-ht i];rfl
 rw[cF hKG]at yK;exact yK
theorem xW{r:List Rat}(h:r.length=6){t:Tw}{c:Rat}(ha:t.a=eE c (cV r).a)(hl:t.l=eE c (cV r).l)(i:Nat):fv t.qs i=c*fv r i:=by
 obtain⟨⟨a0,a1,a2⟩,⟨l0,l1,l2⟩⟩:=t;unfold eE cV at ha hl;simp only[V3.mk.injEq]at ha hl;obtain⟨rfl,rfl,rfl⟩:=ha;obtain⟨rfl,rfl,rfl⟩:=hl
 match i with
 |0=>rfl
 |1=>rfl
 |2=>rfl
 |3=>rfl
 |4=>rfl
 |5=>rfl
 |i+6=>
  have:fv r (i+6)=0:=sQ h (by omega)
  rw[this];show(0:Rat)=_
  grind
theorem uu(a:V3):Av a v0=a:=by
 obtain⟨x,y,z⟩:=a;unfold Av v0;simp only;congr 1<;>grind
theorem Cy(a:V3):eE 0 a=v0:=by
 obtain⟨x,y,z⟩:=a;unfold eE v0;simp only;congr 1<;>grind
theorem Ih(c:Rat):eE c v0=v0:=by
 unfold eE v0;simp only;congr 1<;>grind
theorem XO{G:List (List Rat)}{P:Nat->Nat}{W:FV->Prop}(hE:kU 6 G.length (fun i=>dW G i) P W)(h:0<G.length):¬((cV (row G 0)).a=v0/\(cV (row G 0)).l=v0):=by
 rintro⟨ha,hl⟩;have h1:=hE.one 0 0 h h;have h2:=hE.lt 0 h;rw[if_pos rfl]at h1;unfold cV v0 at ha hl;simp only[V3.mk.injEq]at ha hl;have h3:∀i,i<6->(row G 0).getD i 0=0:=by
  intro i hi
  match i,hi with
  |0,_=>exact ha.1
  |1,_=>exact ha.2.1
  |2,_=>exact ha.2.2
  |3,_=>exact hl.1
  |4,_=>exact hl.2.1
  |5,_=>exact hl.2.2
 have h4:=h3 (P 0) h2;have h5:(row G 0).getD (P 0) 0=1:=h1;rw[h4]at h5;exact absurd h5 (by decide)
theorem VX{E:Env} [C:lS E]{o:AV}{G:List (List Rat)}{P:Nat->Nat}{B:Nat}(ho:mz o G)(hw:iX G 6)(Az:G.length=1)(hE:kU 6 G.length (fun i=>dW G i) P (eK (SR G.length (rf G))))(T0:CV B (fv (row G 0)))(hB:B<=90)(k:Int)(a0 a1 a2 b0 b1 b2 h:List UInt8)(hj:rO (cV (row G 0)) 0=cw k 0 false a0 a1 a2 b0 b1 b2 h):
  aO E 29 [cw k 1 false a0 a1 a2 b0 b1 b2 h,o]=some (.bool true)/\¬((cV (row G 0)).a=v0/\(cV (row G 0)).l=v0):=by
 have dM:=XO hE (by omega);refine⟨?_,dM⟩;have Sh:=hw 0 (by omega);obtain⟨D,n0,n1,n2,m0,m1,m2,fa,fl,bD,Ko,Kp,Kq,Kl,Km,Kn⟩:=YG T0;unfold rO at hj;by_cases hz:(cV (row G 0)).a=v0
 ·rw[if_pos hz]at hj;have hlz:(cV (row G 0)).l≠v0:=fun e=>dM ⟨hz,e⟩
  obtain⟨u0,u1,u2,hi,e0,e1,e2,⟨c,hc,G3⟩,-⟩:=EJ fl hlz;have bu:=I8 (B:=B) (u0:=u0) (u1:=u1) (u2:=u2) (by omega) (by omega) (by omega);rw[<-hi.e]at bu;obtain⟨-,hvv⟩:=BG bu (by omega);unfold cw at hj;simp only[AV.agg.injEq,List.cons.injEq,AV.int.injEq,AV.str.injEq,true_and,and_true]at hj;obtain⟨rfl,rfl,rfl,rfl,rfl,rfl,rfl,rfl⟩:=hj;have l0:=dD bu.1 (by omega);have l1:=dD bu.2.1 (by omega);have l2:=dD bu.2.2 (by omega);obtain⟨v,hv,hT⟩:=JQ (E:=E) (d:=1) (cl:=false) (b0:=[]) (b1:=[]) (b2:=[]) (h:=[]) l0 l1 l2 (by simp) (by simp) (by simp) (k:=B+1) (l:=1) (by rw[hvv];exact bu) (by
   have:fN 65536 [] [] []=v0:=rfl
   rw[this];exact⟨yk,yk,yk⟩) (by omega)
  rw[hvv]at hT;refine yQ (E:=E) hv hT (b:=B) ?_ (by omega) ho hw Az hE hc (xW Sh ?_ ?_)
  ·rw[hi.e];exact HY (by omega) (by omega) (by omega)
  ·rw[hz,Ih];rfl
  ·exact G3
 ·rw[if_neg hz]at hj;obtain⟨u0,u1,u2,N,p0,p1,p2,q,hu,FQ,FR,FT,hN,bN,hp,hh,Zg,Zh,Zi,bq,⟨c,hc,G3⟩,-⟩:=Iw fa fl Ko Kp Kq Kl Km Kn hz;have bu:=I8 FQ FR FT;have bp:=zG (B:=B) hN bN (p0:=p0) (p1:=p1) (p2:=p2) (by omega) (by omega) (by omega);have bh:Bq (2*B+3) ((q:Rat)/N):=(zG (B:=B) hN bN (p0:=q) (p1:=q) (p2:=q) bq bq bq).1;obtain⟨sc1,sc2⟩:=Am hN FQ FR FT bN Zg Zh Zi bq;have hmul:=HJ hz G3;rw[<-hu]at bu sc1 sc2;rw[<-hp]at bp sc1 sc2;rw[<-hh]at bh sc1;obtain⟨-,EA⟩:=BG bu (by omega);obtain⟨-,J5⟩:=BG bp (by omega);have lu0:=dD bu.1 (by omega);have lu1:=dD bu.2.1 (by omega);have lu2:=dD bu.2.2 (by omega);have lp0:=dD bp.1 (by omega);have lp1:=dD bp.2.1 (by omega);have lp2:=dD bp.2.2 (by omega);have lh:=dD bh (by omega);by_cases hh0:lM (cV (row G 0))=0
  ·rw[if_pos hh0]at hj;unfold cw at hj;simp only[AV.agg.injEq,List.cons.injEq,AV.int.injEq,AV.str.injEq,true_and,and_true]at hj;obtain⟨rfl,rfl,rfl,rfl,rfl,rfl,rfl,rfl⟩:=hj;obtain⟨v,hv,hT⟩:=JP (E:=E) (d:=1) (cl:=false) (h:=[]) lu0 lu1 lu2 lp0 lp1 lp2 (k:=B+1) (l:=2*B+3) (by rw[EA];exact bu) (by rw[J5];exact bp) (by omega);rw[EA,J5]at hT;refine yQ (E:=E) hv hT sc2 (by omega) ho hw Az hE hc (xW Sh G3 ?_);rw[<-hmul,hh0,Cy,uu];rfl
  ·rw[if_neg hh0]at hj;unfold cw at hj;simp only[AV.agg.injEq,List.cons.injEq,AV.int.injEq,AV.str.injEq,true_and,and_true]at hj;obtain⟨rfl,rfl,rfl,rfl,rfl,rfl,rfl,rfl⟩:=hj;have hrc:dY 65536 (bC (lM (cV (row G 0))))=0:=oY bh (by omega);have qP:(if dY 65536 (bC (lM (cV (row G 0))))=0 then gY (bC (lM (cV (row G 0))))else 0)=lM (cV (row G 0)):=by rw[if_pos hrc,om]
   obtain⟨v,hv,hT⟩:=JR (E:=E) (d:=1) (cl:=false) lu0 lu1 lu2 lp0 lp1 lp2 lh (k:=B+1) (l:=2*B+3) (q:=2*B+3) (by rw[qP];exact bh) (by rw[EA];exact bu) (by rw[J5];exact bp) (by omega) (by omega);rw[EA,J5,qP]at hT;refine yQ (E:=E) hv hT sc1 (by omega) ho hw Az hE hc (xW Sh ?_ ?_)
   ·show Av (dX (cV (row G 0)).a) v0=_
    rw[uu];exact G3
   ·exact hmul
theorem VY{E:Env} [C:lS E]{o:AV}{G:List (List Rat)}{B:Nat}(ho:mz o G)(hw:iX G 6)(yI:G.length<=6)(T0:CV B (fv (row G 0)))(hB:B<=90)(hz:(cV (row G 0)).a≠v0):∃K P,aO E 29 [NS (cV (row G 0)) 2,o]=some (.bool (decide (K=G)))/\iX K 6/\kU 6 K.length (fun i=>dW K i) P (eK (SR 2 (rf (eI [gd (dX (cV (row G 0)).a) (j8 (cV (row G 0))),gI (dX (cV (row G 0)).a)])))):=by
 obtain⟨D,n0,n1,n2,m0,m1,m2,fa,fl,bD,Ko,Kp,Kq,Kl,Km,Kn⟩:=YG T0;obtain⟨u0,u1,u2,N,p0,p1,p2,q,hu,FQ,FR,FT,hN,bN,hp,hh,Zg,Zh,Zi,bq,⟨c,hc,G3⟩,-⟩:=Iw fa fl Ko Kp Kq Kl Km Kn hz;have bu:=I8 FQ FR FT;have bp:=zG (B:=B) hN bN (p0:=p0) (p1:=p1) (p2:=p2) (by omega) (by omega) (by omega);obtain⟨-,sc2⟩:=Am hN FQ FR FT bN Zg Zh Zi bq;have st:=HY FQ FR FT;rw[<-hu]at bu sc2 st;rw[<-hp]at bp sc2;obtain⟨-,EA⟩:=BG bu (by omega);obtain⟨-,J5⟩:=BG bp (by omega);obtain⟨v,hv,hT⟩:=JS (E:=E) (d:=2) (cl:=false) (h:=[]) (dD bu.1 (by omega)) (dD bu.2.1 (by omega)) (dD bu.2.2 (by omega)) (dD bp.1 (by omega)) (dD bp.2.1 (by omega)) (dD bp.2.2 (by omega)) (k:=B+1) (l:=2*B+3) (by rw[EA];exact bu) (by rw[J5];exact bp) (by omega);rw[EA,J5]at hT;exact Cu (E:=E) hv hT (b:=3*B+3) (by
  intro t ht;simp only[aNn,aUn,or_false]at ht;rcases ht with rfl|rfl
  ·exact sc2
  ·exact st.mono (by omega)) (by omega) (by simp) ho hw yI
def RS(L:List (List Rat))(ps:List Nat):Bool:=(aYi L.length).all fun i=>decide (ps.getD i 0<6)&&((aYi L.length).all fun j=>(!decide (i<j)||decide (ps.getD i 0<ps.getD j 0))&&decide (dW L i (ps.getD j 0)=if i=j then 1 else 0))&&(aYi (ps.getD i 0)).all fun c=>decide (dW L i c=0)
theorem D4{L:List (List Rat)}{ps:List Nat}(h:RS L ps=true):kU 6 L.length (fun i=>dW L i) (fun i=>ps.getD i 0) (eK (SR L.length (rf L))):=by
 unfold RS at h;have h1:∀i,i<L.length->ps.getD i 0<6/\(∀j,j<L.length->(i<j->ps.getD i 0<ps.getD j 0)/\dW L i (ps.getD j 0)=if i=j then 1 else 0)/\∀c,c<ps.getD i 0->dW L i c=0:=by
  intro i hi;have h2:=aMa.1 h i (aYg.2 hi);simp only[Bool.and_eq_true,decide_eq_true_eq,aMa,aYg,Bool.or_eq_true,Bool.not_eq_true',decide_eq_false_iff_not]at h2;obtain⟨⟨h3,h4⟩,h5⟩:=h2;refine⟨h3,fun j hj=>⟨fun FE=>?_,(h4 j hj).2⟩,h5⟩;rcases(h4 j hj).1 with h6|h6
  ·exact absurd FE h6
  ·exact h6
 have fK:St 6 L.length 6 L.length (fun t=>t) (rf L) (fun i=>ps.getD i 0) (eK (SR L.length (rf L))):=by refine⟨aLr _,fun i hi=>(h1 i hi).1,fun i j FE hj=>((h1 i (by omega)).2.1 j hj).1 FE,fun i j hi hj=>((h1 i hi).2.1 j hj).2,fun i t hi ht=>(h1 i hi).2.2 t ht,fun i t h2 h3=>absurd h3 (by omega),fun x=>Iff.rfl⟩
 exact fK.ech (aLr 6) (fun i h2 h3=>absurd h3 (by omega))
def YY(L:List (List Rat)):Bool:=(aYi L.length).all fun i=>(row L i).length==6
theorem sy{L:List (List Rat)}(h:YY L=true):iX L 6:=by
 intro i hi
 have:=aMa.1 h i (aYg.2 hi)
 simpa using this
def K9(l:List Int):List Rat:=l.map fun z:Int=>(z:Rat)
theorem Dc{z0 z1 z2 z3 z4 z5:Int}(h:∀z∈[z0,z1,z2,z3,z4,z5],z.natAbs<=1):CV 1 (fv (K9 [z0,z1,z2,z3,z4,z5])):=by
 have e:K9 [z0,z1,z2,z3,z4,z5]=[(z0:Rat)/((1:Int):Rat),(z1:Rat)/((1:Int):Rat),(z2:Rat)/((1:Int):Rat),(z3:Rat)/((1:Int):Rat),(z4:Rat)/((1:Int):Rat),(z5:Rat)/((1:Int):Rat)]:=by
  have h1:((1:Int):Rat)=1:=rfl;unfold K9;rw[h1];simp only[aNf,List.map_nil,List.cons.injEq,and_true];refine⟨?_,?_,?_,?_,?_,?_⟩<;>grind
 rw[e];refine CX (by decide) (by decide) (fun z hz=>?_)
 have:=h z hz
 omega
theorem IP{R L:List (List Rat)}{P:Nat->Nat}{ps:List Nat}(hE:kU 6 R.length (fun i=>dW R i) P (eK (SR L.length (rf L))))(hw:iX R 6)(hL:RS L ps=true)(Ue:YY L=true):R=L:=
 we (jn _) hE (D4 hL) hw (sy Ue)
theorem UW{L:List (List Rat)}{ps:List Nat}(F2:CR 1 L)(hl:L.length<=2)(hL:RS L ps=true)(Ue:YY L=true):rK 6 L []:=
 ⟨⟨L,none,⟨by omega,by omega,sy Ue,hl,F2.mono (by omega),fun r h=>(by cases h)⟩,⟨_,D4 hL⟩,.inl rfl⟩,sy Ue⟩
theorem N8{E:Env} [C:lS E]{H0:Hp}{b:Nat}{L:List (List Rat)}{ps:List Nat}(hb:H0[b]?=some (.cells .live (L.map dS)))(h1:0<L.length)(F2:CR 1 L)(hl:L.length<=2)(hL:RS L ps=true)(Ue:YY L=true):
  ∃H' v,cL E 7 [.int .i64 6,.aI b 0 L.length 1 L.length,.aH] H0=some (.tuple [.agg [.int .i64 6,v,.aH],.int .i64 0],H')/\(∀k,k<H0.length->k≠b->H'[k]?=H0[k]?)/\H0.length<=H'.length/\qf H' H0.length v L/\aN v=false/\b7 v=true/\v.cells=[v]:=by
 have aol:∀v∈L.map dS,Flat v:=by
  intro v hv;obtain⟨q,_,rfl⟩:=aNp.1 hv;exact fun _ _=>rfl
 have h6:=kD (n:=39) (off:=0) (len:=L.length) (esz:=1) (k:=L.length) hb (by decide) (by rw[aOT];omega) (by rw[List.drop_zero,Nat.mul_one,show List.take L.length (L.map dS)=L.map dS by rw[<-aOT (f:=dS),aR7]];exact fj aol);rw[gn,dH]at h6;have dM:L≠[]:=fun e=>by rw[e]at h1;exact absurd h1 (by simp)
 have hF:Uk H0 (.aI b 0 L.length 1 L.length) L [b]:=.inr ⟨rfl,_,h6,.inr ⟨dM,rfl⟩,fun x hx=>by rw[aNq]at hx;subst hx;exact(List.getElem?_eq_some_iff.1 hb).1⟩;obtain⟨r,H',hg,hk,hle,v,rv,G,rays,rfl,r9,td,yU,⟨P,hE⟩,Ow⟩:=pt (E:=E) (n:=6) hF (rv:=.aH) (jZ:=none) (.inl ⟨rfl,rfl,rfl⟩) (sz6 (b:=1) (by omega) (by omega) (sy Ue) F2);have Ba:rays=[]:=by
  rcases Ow with h|⟨r,s,w,e,-⟩
  ·exact h
  ·cases e
 obtain rfl:=IP hE yU hL Ue;have qP:rv=.aH:=by
  rcases td with⟨-,e⟩|⟨h0,-⟩
  ·exact e
  ·rw[Ba]at h0;exact absurd h0 (by simp)
 subst qP;have m1:=r9.one;refine⟨H',v,hg,fun k Es qY=>hk k Es (by simpa using qY) (by simp),hle,r9,?_,m1.2,m1.1⟩;rcases r9.r.pure with⟨-,-,e⟩|e
 ·exact absurd e dM
 ·exact e
theorem NM{E:Env} [C:lS E]{o:AV}{L:List (List Rat)}{ps:List Nat}(ho:mz o L)(F2:CR 1 L)(hl:L.length<=2)(hL:RS L ps=true)(Ue:YY L=true):
  aO E 8 [.agg [.int .i64 6,o,.aH]]=some (.int .i64 0):=by
 obtain⟨e,he,h0⟩:=BP (E:=E) (n:=6) ho (rv:=.aH) (rays:=[]) (.inl ⟨rfl,rfl⟩) (UW F2 hl hL Ue);rw[h0 rfl]at he;exact he
def rA:List Rat:=K9 [0,0,1,0,-1,0]
def rB:List Rat:=K9 [0,0,0,0,0,1]
def rC:List Rat:=K9 [1,0,0,0,0,0]
def rD:List Rat:=K9 [0,1,0,0,0,0]
def rF:List Rat:=K9 [0,0,0,1,0,0]
theorem cvA:CV 1 (fv rA):=Dc (by decide)
theorem cvB:CV 1 (fv rB):=Dc (by decide)
theorem cvC:CV 1 (fv rC):=Dc (by decide)
theorem cvD:CV 1 (fv rD):=Dc (by decide)
theorem cr1{a:List Rat}(h:CV 1 (fv a)):CR 1 [a]:=by
 intro i hi
 match i,hi with
 |0,_=>exact h
theorem cr2{a b:List Rat}(h:CV 1 (fv a))(h':CV 1 (fv b)):CR 1 [a,b]:=by
 intro i hi
 match i,hi with
 |0,_=>exact h
 |1,_=>exact h'
section
variable{E:Env} [C:lS E]
def iV(l:List Int):AV:=.aJ (l.map fun z=>.int .i64 z) 6
theorem ayD:aO E 17 [iV [0,0,1,0,-1,0]]=some (dS rA):=nE (n:=400) (by kernel_rfl) (fun o=>by kernel_rfl)
theorem ayE:aO E 17 [iV [0,0,0,0,0,1]]=some (dS rB):=nE (n:=400) (by kernel_rfl) (fun o=>by kernel_rfl)
theorem ayF:aO E 17 [iV [1,0,0,0,0,0]]=some (dS rC):=nE (n:=400) (by kernel_rfl) (fun o=>by kernel_rfl)
theorem ayG:aO E 17 [iV [0,1,0,0,0,0]]=some (dS rD):=nE (n:=400) (by kernel_rfl) (fun o=>by kernel_rfl)
theorem auw{o:AV}(ho:mz o [rA]):aO E 9 [.agg [.int .i64 6,o,.aH]]=some (.tuple [cw 1 1 true [48] [48] [49] [49] [48] [48] [],.int .i64 0]):=by
 have hw:iX [rA] 6:=sy (by kernel_rfl);have wH:=NM (E:=E) (ps:=[2]) ho (cr1 cvA) (by decide) (by kernel_rfl) (by kernel_rfl);obtain⟨r,hr,hc⟩:=kh (E:=E) (bb:=true) ho (rv:=.aH) (rays:=[]) (.inl ⟨rfl,rfl⟩) hw (cr1 cvA).yd (by omega) (by decide) wH (fun k a0 a1 a2 b0 b1 b2 h _ hj=>VX (E:=E) ho hw rfl (D4 (ps:=[2]) (by kernel_rfl)) cvA (by omega) k a0 a1 a2 b0 b1 b2 h hj) (fun h=>absurd h (by decide));rcases hc with⟨h0,-⟩|⟨-,k,a0,a1,a2,b0,b1,b2,h,e,rfl⟩|⟨h0,-⟩|⟨h0,-⟩|⟨h0,-⟩
 ·exact absurd h0 (by decide)
 ·have e2:rO (cV (row [rA] 0)) 0=cw 1 0 false [48] [48] [49] [49] [48] [48] []:=by kernel_rfl
  rw[e2]at e;unfold cw at e;simp only[AV.agg.injEq,List.cons.injEq,AV.int.injEq,AV.str.injEq,true_and,and_true]at e;obtain⟨rfl,rfl,rfl,rfl,rfl,rfl,rfl,rfl⟩:=e;exact hr
 ·exact absurd h0 (by decide)
 ·exact absurd h0 (by decide)
 ·exact absurd h0 (by decide)
theorem auy{o:AV}(ho:mz o [rA,rB]):aO E 9 [.agg [.int .i64 6,o,.aH]]=some (.tuple [cw 4 2 true [48] [48] [49] [49] [48] [48] [],.int .i64 0]):=by
 have hw:iX [rA,rB] 6:=sy (by kernel_rfl);have wH:=NM (E:=E) (ps:=[2,5]) ho (cr2 cvA cvB) (by decide) (by kernel_rfl) (by kernel_rfl);have ha:(cV (row [rA,rB] 0)).a=⟨0,0,1⟩:=by kernel_rfl
 have hz:(cV (row [rA,rB] 0)).a≠v0:=by
  rw[ha];intro e;exact absurd e (by unfold v0;simp)
 obtain⟨K,P,yK,CL,KR⟩:=VY (E:=E) (B:=1) ho hw (by decide) cvA (by omega) hz;have hrt:eI [gd (dX (cV (row [rA,rB] 0)).a) (j8 (cV (row [rA,rB] 0))),gI (dX (cV (row [rA,rB] 0)).a)]=[rA,rB]:=by kernel_rfl
 rw[hrt]at KR;have hKG:K=[rA,rB]:=IP (L:=[rA,rB]) (ps:=[2,5]) KR CL (by kernel_rfl) (by kernel_rfl);rw[cF hKG]at yK;obtain⟨r,hr,hc⟩:=kh (E:=E) (bb:=true) ho (rv:=.aH) (rays:=[]) (.inl ⟨rfl,rfl⟩) hw (cr2 cvA cvB).yd (by omega) (by decide) wH (fun k a0 a1 a2 b0 b1 b2 h h1=>absurd h1 (by decide)) (fun _ _=>yK);rcases hc with⟨h0,-⟩|⟨h0,-⟩|⟨-,h0,-⟩|⟨-,-,-,k,a0,a1,a2,b0,b1,b2,h,e,rfl⟩|⟨-,-,h0,-⟩
 ·exact absurd h0 (by decide)
 ·exact absurd h0 (by decide)
 ·exact absurd h0 hz
 ·have e0:NS (cV (row [rA,rB] 0)) 0=cw 4 0 false [48] [48] [49] [49] [48] [48] []:=by kernel_rfl
  rw[e0]at e;unfold cw at e;simp only[AV.agg.injEq,List.cons.injEq,AV.int.injEq,AV.str.injEq,true_and,and_true]at e;obtain⟨rfl,rfl,rfl,rfl,rfl,rfl,rfl,rfl⟩:=e;exact hr
 ·cases h0
theorem auz{o:AV}(ho:mz o [rC,rD]):aO E 9 [.agg [.int .i64 6,o,.aH]]=some (.tuple [eJ 8 2 true,.int .i64 0]):=by
 have hw:iX [rC,rD] 6:=sy (by kernel_rfl);have wH:=NM (E:=E) (ps:=[0,1]) ho (cr2 cvC cvD) (by decide) (by kernel_rfl) (by kernel_rfl);have ha:(cV (row [rC,rD] 0)).a=⟨1,0,0⟩:=by kernel_rfl
 have hz:(cV (row [rC,rD] 0)).a≠v0:=by
  rw[ha];intro e;exact absurd e (by unfold v0;simp)
 obtain⟨K,P,yK,CL,KR⟩:=VY (E:=E) (B:=1) ho hw (by decide) cvC (by omega) hz;have hrt:eI [gd (dX (cV (row [rC,rD] 0)).a) (j8 (cV (row [rC,rD] 0))),gI (dX (cV (row [rC,rD] 0)).a)]=[rC,rF]:=by kernel_rfl
 rw[hrt]at KR;have hKG:K=[rC,rF]:=IP (L:=[rC,rF]) (ps:=[0,3]) KR CL (by kernel_rfl) (by kernel_rfl);have dM:¬K=[rC,rD]:=by
  rw[hKG];intro e;simp only[List.cons.injEq,true_and,and_true]at e
  have:=congrArg (fun l=>l.getD 1 0) e
  have h1:rF.getD 1 0=0:=by kernel_rfl
  have h2:rD.getD 1 0=1:=by kernel_rfl
  simp only[h1,h2]at this;exact absurd this (by decide)
 rw[cH dM]at yK;obtain⟨r,hr,hc⟩:=kh (E:=E) (bb:=false) ho (rv:=.aH) (rays:=[]) (.inl ⟨rfl,rfl⟩) hw (cr2 cvC cvD).yd (by omega) (by decide) wH (fun k a0 a1 a2 b0 b1 b2 h h1=>absurd h1 (by decide)) (fun _ _=>yK);rcases hc with⟨h0,-⟩|⟨h0,-⟩|⟨-,h0,-⟩|⟨-,-,h0,-⟩|⟨-,-,-,rfl⟩
 ·exact absurd h0 (by decide)
 ·exact absurd h0 (by decide)
 ·exact absurd h0 hz
 ·cases h0
 ·exact hr
end
section
variable{E:Env} [C:Ctx E]
theorem at7{aM:Nat}{z0 z1 z2 z3 z4 z5:Int}:aW E aM 91 6 [(0,.int .i64 z0),(1,.int .i64 z1),(2,.int .i64 z2),(3,.int .i64 z3),(4,.int .i64 z4),(5,.int .i64 z5)]=some (.aI aM 0 6 1 6,[(aM,.cells .live [.int .i64 z0,.int .i64 z1,.int .i64 z2,.int .i64 z3,.int .i64 z4,.int .i64 z5])]):=by
 obtain⟨o,rfl⟩:=fT C
 kernel_rfl
theorem agq{aM n:Nat}{a:List AV}:aW E aM 24 1 [(0,.aJ a n)]=some (.aI aM 0 1 1 1,[(aM,.cells .live [.aJ a n])]):=by
 obtain⟨o,rfl⟩:=fT C
 kernel_rfl
theorem ags{aM n m:Nat}{a b:List AV}:aW E aM 24 2 [(0,.aJ a n),(1,.aJ b m)]=some (.aI aM 0 2 1 2,[(aM,.cells .live [.aJ a n,.aJ b m])]):=by
 obtain⟨o,rfl⟩:=fT C
 kernel_rfl
end
theorem QT{T ys l:Hp}{zs:List AV}{L:Nat}(h:T.length+ys.length=L):(cJ.marks [L]).app (T++(ys++ .cells .live zs::l))=T++(ys++ .cells .ro zs::l):=by
 subst h;have hs:T++(ys++ .cells .ro zs::l)=(T++(ys++cG.cells .live zs::l)).set (T.length+ys.length) (.cells .ro zs):=by have e1:(T++(ys++cG.cells .live zs::l)).set (T.length+ys.length) (.cells .ro zs)=T++(ys++cG.cells .live zs::l).set (T.length+ys.length-T.length) (.cells .ro zs):=aYh _ _ (by omega);have e2:(ys++cG.cells .live zs::l).set ys.length (.cells .ro zs)=ys++(cG.cells .live zs::l).set (ys.length-ys.length) (.cells .ro zs):=aYh _ _ (by omega);rw[e1,Nat.add_sub_cancel_left,e2,Nat.sub_self];rfl
 rw[hs];refine List.ext_getElem? fun k=>?_
 show(Dv.mark _ _)[k]?=_
 rw[iF];by_cases hk:k=T.length+ys.length
 ·subst hk;rw[if_pos (by simp),lL rfl,List.getElem?_append_right (aLr _),Nat.sub_self,List.getElem?_set_self (by simp)];rfl
 ·rw[if_neg (by simpa using hk),List.getElem?_set_ne (by omega)]
theorem VP{H:Hp}{b:Nat}{z0 z1 z2 z3 z4 z5:Int}(h:H[b]?=some (.cells .live [.int .i64 z0,.int .i64 z1,.int .i64 z2,.int .i64 z3,.int .i64 z4,.int .i64 z5])):oG false H [.aI b 0 6 1 6]=some ([.aJ [.int .i64 z0,.int .i64 z1,.int .i64 z2,.int .i64 z3,.int .i64 z4,.int .i64 z5] 6],[b]):=
 jQ (st:=.live) (m:=6) (s:=1) h (by decide) (by simp) (by
  intro v hv;simp only[aNn,aUn,or_false]at hv;rcases hv with rfl|rfl|rfl|rfl|rfl|rfl<;>exact fun _ _=>rfl)
theorem IW{H:Hp}{lo:Nat}{v:AV}{G:List (List Rat)}(h1:Kd H lo v G)(hp:aN v=false):∃o bs,mz o G/\∀l k z,oG false (H++l) [.agg [.int k z,v,.aH]]=some ([.agg [.int k z,o,.aH]],bs):=by
 obtain⟨o,bs,f1,f2,f3⟩:=h1.fz 36;refine⟨o,bs++[],f2,fun l k z=>?_⟩;have g1:=lU f1 (fun b hb=>(f3 b hb).2) l;have g3:=zI (k:=k) (z:=z) g1 (show Dv.fz (H++l) 39 .aH=some (.aH,[])from rfl) (by omega);rw[kV];unfold bW;rw[if_neg (by simp[bE,aN,hp])];simp only[dh,g3]
 simp
theorem qf.pre{H H2:Hp}{lo:Nat}{v:AV}{G:List (List Rat)}(h:qf H lo v G)(hl:H.length<=H2.length)(hk:∀k,lo<=k->k<H.length->H2[k]?=H[k]?):qf H2 lo v G:=h.mono (aLr _) hl hk
theorem OP{E:Env} [C:lS E]:aO E 5 []=some (.bool true):=by
 refine ep ?_;have nA:=ayD (E:=E);have nB:=ayE (E:=E);have nC:=ayF (E:=E);have nD:=ayG (E:=E);obtain⟨tA,hA⟩:∃tA,tA=rA.map fun x=>AV.str (bC x):=⟨_,rfl⟩
 obtain⟨tB,hB⟩:∃tA,tA=rB.map fun x=>AV.str (bC x):=⟨_,rfl⟩
 obtain⟨tC,hC⟩:∃tA,tA=rC.map fun x=>AV.str (bC x):=⟨_,rfl⟩
 obtain⟨tD,hD⟩:∃tA,tA=rD.map fun x=>AV.str (bC x):=⟨_,rfl⟩
 have eA:dS rA=.aJ tA 6:=by rw[hA];rfl
 have eB:dS rB=.aJ tB 6:=by rw[hB];rfl
 have eC:dS rC=.aJ tC 6:=by rw[hC];rfl
 have eD:dS rD=.aJ tD 6:=by rw[hD];rfl
 rw[eA]at nA;rw[eB]at nB;rw[eC]at nC;rw[eD]at nD;unfold iV at nA nB nC nD;simp only[aNf,List.map_nil]at nA nB nC nD;clear hA hB hC hD;obtain⟨H1,vA,gA,kA,lA,TA,pA,oA,cA⟩:=N8 (E:=E) (H0:=[.cells .ro [.int .i64 0,.int .i64 0,.int .i64 1,.int .i64 0,.int .i64 (-1),.int .i64 0],.cells .live [.aJ tA 6]]) (b:=1) (L:=[rA]) (ps:=[2]) (by rw[<-eA];rfl) (by decide) (cr1 cvA) (by decide) (by kernel_rfl) (by kernel_rfl);rw[show([rA]:List (List Rat)).length=1 from rfl]at gA;rw[show([.cells .ro [.int .i64 0,.int .i64 0,.int .i64 1,.int .i64 0,.int .i64 (-1),.int .i64 0],.cells .live [.aJ tA 6]]:Hp).length=2 from rfl]at lA TA kA;obtain⟨X2,hX2⟩:∃X2,X2=H1++[.cells .live [.int .i64 6,vA,.aH],.cells .ro [.int .i64 0,.int .i64 0,.int .i64 1,.int .i64 0,.int .i64 (-1),.int .i64 0],.cells .ro [.int .i64 0,.int .i64 0,.int .i64 0,.int .i64 0,.int .i64 0,.int .i64 1],.cells .live [.aJ tA 6,.aJ tB 6]]:=⟨_,rfl⟩;have awk:X2.length=H1.length+4:=by rw[hX2,aMk];rfl
 obtain⟨H2,vB,gB,kB,lB',TB,pB,oB,cB⟩:=N8 (E:=E) (H0:=X2) (b:=H1.length+3) (L:=[rA,rB]) (ps:=[2,5]) (by rw[hX2,lL rfl,aNf,aNf,eA,eB];rfl) (by decide) (cr2 cvA cvB) (by decide) (by kernel_rfl) (by kernel_rfl);rw[show([rA,rB]:List (List Rat)).length=2 from rfl]at gB;rw[awk]at lB' TB kB;obtain⟨X3,hX3⟩:∃X3,X3=H2++[.cells .live [.int .i64 6,vB,.aH],.cells .ro [.int .i64 1,.int .i64 0,.int .i64 0,.int .i64 0,.int .i64 0,.int .i64 0],.cells .ro [.int .i64 0,.int .i64 1,.int .i64 0,.int .i64 0,.int .i64 0,.int .i64 0],.cells .live [.aJ tC 6,.aJ tD 6]]:=⟨_,rfl⟩;have awl:X3.length=H2.length+4:=by rw[hX3,aMk];rfl
 obtain⟨H3,vC,gC,kC,lC,TC,pC,oC,cC⟩:=N8 (E:=E) (H0:=X3) (b:=H2.length+3) (L:=[rC,rD]) (ps:=[0,1]) (by rw[hX3,lL rfl,aNf,aNf,eC,eD];rfl) (by decide) (cr2 cvC cvD) (by decide) (by kernel_rfl) (by kernel_rfl);rw[show([rC,rD]:List (List Rat)).length=2 from rfl]at gC;rw[awl]at lC TC kC;clear eA eB eC eD;have TA2:qf H2 2 vA [rA]:=TA.pre (by omega) (fun k Es qY=>by rw[kB k (by omega) (by omega),hX2,aOB qY]);have TA3:qf H3 2 vA [rA]:=TA2.pre (by omega) (fun k Es qY=>by rw[kC k (by omega) (by omega),hX3,aOB qY]);have TB3:qf H3 (H1.length+4) vB [rA,rB]:=TB.pre (by omega) (fun k Es qY=>by rw[kC k (by omega) (by omega),hX3,aOB qY]);have bA:H3[H1.length]?=some (.cells .live [.int .i64 6,vA,.aH]):=by rw[kC _ (by omega) (by omega),hX3,aOB (by omega),kB _ (by omega) (by omega),hX2,gk rfl];rfl
 have bB:H3[H2.length]?=some (.cells .live [.int .i64 6,vB,.aH]):=by rw[kC _ (by omega) (by omega),hX3,gk rfl];rfl
 obtain⟨wA,_,xA,fA⟩:=IW TA3.r pA;obtain⟨wB,_,xB,fB⟩:=IW TB3.r pB;obtain⟨wC,_,xC,fC⟩:=IW TC.r pC;have dA:=auw (E:=E) xA;have dB:=auy (E:=E) xB;have dC:=auz (E:=E) xC;have mA:=xA.lY;have mB:=xB.lY;have mC:=xC.lY;have rfv:∀(a:List AV) (n:Nat),bJ (.aJ a n)=false:=fun _ _=>rfl
 have rft:∀(a:List AV) (n:Nat),bJ (.tuple [.agg [.int .i64 6,.aJ a n,.aH],.int .i64 0])=false:=fun _ _=>rfl
 have rfj:∀(k d:Int) (cl:Bool) (a0 a1 a2 b0 b1 b2 h:List UInt8),bJ (.tuple [.agg [.int .i64 k,.int .i64 d,.bool cl,.str a0,.str a1,.str a2,.str b0,.str b1,.str b2,.str h],.int .i64 0])=true:=fun _ _ _ _ _ _ _ _ _ _=>rfl
 have q1:∀c,dy E c .eql 39 (.agg [.int .i64 1,.int .i64 1,.bool true,.str [48],.str [48],.str [49],.str [49],.str [48],.str [48],.str []]) (.agg [.int .i64 1,.int .i64 1,.bool true,.str [48],.str [48],.str [49],.str [49],.str [48],.str [48],.str []])=some (.bool true):=by obtain⟨o,rfl⟩:=fT C.toCtx;intro c;kernel_rfl
 have q2:∀c,dy E c .eql 37 (.agg [.str [49],.str [48],.str [48]]) (.agg [.str [49],.str [48],.str [48]])=some (.bool true):=by obtain⟨o,rfl⟩:=fT C.toCtx;intro c;kernel_rfl
 have q3:∀c,dy E c .eql 39 (.agg [.int .i64 8,.int .i64 2,.bool true,.str [],.str [],.str [],.str [],.str [],.str [],.str []]) (.agg [.int .i64 8,.int .i64 2,.bool true,.str [],.str [],.str [],.str [],.str [],.str [],.str []])=some (.bool true):=by obtain⟨o,rfl⟩:=fT C.toCtx;intro c;kernel_rfl
 have q4:∀c,dy E c .eql 9 (.str (nameOf 3)) (.str [104,101,108,105,99,97,108])=some (.bool true):=by obtain⟨o,rfl⟩:=fT C.toCtx;intro c;kernel_rfl
 have hn:=SN (E:=E) (z:=3);have f0:∀(z0 z1 z2 z3 z4 z5:Int),oG false [.cells .live [.int .i64 z0,.int .i64 z1,.int .i64 z2,.int .i64 z3,.int .i64 z4,.int .i64 z5]] [.aI 0 0 6 1 6]=some ([.aJ [.int .i64 z0,.int .i64 z1,.int .i64 z2,.int .i64 z3,.int .i64 z4,.int .i64 z5] 6],[0]):=by intros;rfl
 have f1:∀(T:Hp) (y:cG) (z0 z1 z2 z3 z4 z5:Int),oG false (T++[y,.cells .live [.int .i64 z0,.int .i64 z1,.int .i64 z2,.int .i64 z3,.int .i64 z4,.int .i64 z5]]) [.aI (T.length+1) 0 6 1 6]=some ([.aJ [.int .i64 z0,.int .i64 z1,.int .i64 z2,.int .i64 z3,.int .i64 z4,.int .i64 z5] 6],[T.length+1]):=fun T y z0 z1 z2 z3 z4 z5=>VP (by rw[lL rfl];rfl)
 have f2:∀(T:Hp) (y y':cG) (z0 z1 z2 z3 z4 z5:Int),oG false (T++[y,y',.cells .live [.int .i64 z0,.int .i64 z1,.int .i64 z2,.int .i64 z3,.int .i64 z4,.int .i64 z5]]) [.aI (T.length+2) 0 6 1 6]=some ([.aJ [.int .i64 z0,.int .i64 z1,.int .i64 z2,.int .i64 z3,.int .i64 z4,.int .i64 z5] 6],[T.length+2]):=fun T y y' z0 z1 z2 z3 z4 z5=>VP (by rw[lL rfl];rfl)
 have m1:∀(T:Hp) (y:cG) (zs:List AV),(cJ.marks [T.length+1]).app (T++[y,.cells .live zs])=T++[y,.cells .ro zs]:=fun T y zs=>QT (ys:=[y]) (l:=[]) rfl
 have m2:∀(T:Hp) (y y':cG) (zs:List AV),(cJ.marks [T.length+2]).app (T++[y,y',.cells .live zs])=T++[y,y',.cells .ro zs]:=fun T y y' zs=>QT (ys:=[y,y']) (l:=[]) rfl
 have a1:=fun m l o=>rN (T:=H3) (n:=m) (l:=l) (o:=o) (show H1.length<H3.length by omega)
 have a2:=fun m o=>jL (n:=m) (o:=o) bA (by decide)
 have a3:=fun m l o=>rN (T:=H3) (n:=m) (l:=l) (o:=o) (show H2.length<H3.length by omega)
 have a4:=fun m o=>jL (n:=m) (o:=o) bB (by decide)
 rw[hX2]at gB;rw[hX3]at gC;refine gw0 fn5 ?_;intro ts hl;unfold c5;unfold eJ cw at*;simp only[↓aQ,aR,↓aT,aK,dt,↓reduceIte,aa,ah,ae,an,Tryz.f5,ai,aB,hl,at7,agq,ags,nA,nB,nC,nD,gA,gB,gC,dA,dB,dC,pA,oA,pB,oB,pC,oC,hn,q1,q2,q3,q4,rfv,rfj,f0,f1,f2,m1,m2,fA,fB,fC,a1,a2,a3,a4,Nat.add_assoc,List.append_assoc,aMk]
theorem GI{n m most:Nat}{xs:List AV}{ss:List (List UInt8)}{e:Int}(hm:m<=most)(hp:0<m)(hx:xs.length+1=m)(Wo:most<=256)(hs:∀s∈ss,s.length<=4611686018427387904)(hl9:ss.length<=1000)
  (he:ss.length≠n/\e=13∨ss.length=n/\fJ 65536 ss=e/\e≠0):
  aO E 20 [.int .i64 (n:Int),.aJ (.aJ (ss.map AV.str) ss.length::xs) m,.int .i64 (most:Int)]=some (.tuple [.aH,.int .i64 e]):=by
 refine ep ?_;have hgt:decide ((m:Int)>(most:Int))=false:=cH (by omega);obtain⟨v,hv⟩:∃v,v=AV.aJ (.aJ (ss.map AV.str) ss.length::xs) m:=⟨_,rfl⟩;have zN:jP v=some (m:Int):=by rw[hv];rfl
 have pv:aN v=true/\b7 v=true/\v.cells=[v]:=by rw[hv];exact⟨rfl,rfl,rfl⟩
 rw[<-hv];refine Zj anj ?_;intro ts hl g0 g1 g2;unfold c20;simp only[↓aQ,aR,aK,aa,ae,Tryz.f20,hl,g1,g2,zN,hgt];refine fh (fun k_ ts H=>∃i w HC,k_=1-i/\ts.length=41/\gt ts 0=.int .i64 (n:Int)/\gt ts 8=w/\gt ts 17=v/\gt ts 18=.int .i64 (m:Int)/\gt ts 19=.int .i64 (i:Int)/\H=HC/\(i=0)) (1) ?_ ?_
 rotate_left
 ·refine⟨0,.aH,[],(by first|omega|rfl|(simp;done)),(by simp only[cK,hl]),?_⟩;simp only[cM,hl,aa,ae,g0]
  iterate 6 refine⟨by first|trivial|rfl|(congr 1;omega)|(simp;done)|(simp;omega),?_⟩
  first|trivial|omega|(simp;done)
 clear hl g0 g1 g2 ts;rintro k_ ts H ⟨i,w,HC,rfl,hl,g0,g8,g17,g18,g19,rfl,hi⟩;refine VS ?_;subst hi;subst hv;have dc:decide ((0:Int)<(m:Int))=true:=cF (by omega);have oF:((0:Int)<(m:Int))=True:=eq_true (by omega);have p1:=dL (vs:=(.aJ (ss.map AV.str) ss.length::xs)) (i:=0) (by simp);rw[List.getD_cons_zero]at p1;obtain⟨r,hr,-,ir⟩:=yN (E:=E) hs hl9;rcases he with⟨h1,rfl⟩|⟨h1,h2,h3⟩
 ·have hnn:((ss.length:Int)!=(n:Int))=true:=by simpa using(by omega:(ss.length:Int)≠n)
  simp only[↓aQ,aR,aK,↓reduceIte,aa,ae,an,aq,hl,g0,g17,g18,g19,oF,p1,hnn]
 ·have hnn:((ss.length:Int)!=(n:Int))=false:=by rw[h1];simp
  rw[h2]at hr ir;obtain rfl:=ir h3;have he':(e !=0)=true:=by simpa using h3
  simp only[↓aQ,aR,↓aT,aK,↓reduceIte,aa,ae,an,aq,hl,g0,g17,g18,g19,oF,p1,hnn,hr,he']
set_option maxRecDepth 100000
section
variable{E:Env} [C:lS E]{n:Int}{v rv r1:AV}{e e2:Int}
theorem FW(hn:8<n)(pv:aN v=true/\b7 v=true/\v.cells=[v])(Fg:aN rv=true/\b7 rv=true/\rv.cells=[rv]):
  aO E 22 [.agg [.int .i64 n,v,rv]]=some (.tuple [.agg [.int .i64 0,.aH,.aH],.int .i64 2]):=by
 refine ep ?_;refine mO aaA ?_;intro ts hl g0;unfold c22;have d1:decide (n<1)=false:=cH (by omega);have d2:decide (n>8)=true:=cF (by omega);simp only[↓aQ,aR,aK,dt,↓reduceIte,aa,ah,ae,Tryz.f22,hl,g0,d1,d2]
theorem zt(hn:1<=n/\n<=8)(pv:aN v=true/\b7 v=true/\v.cells=[v])(Fg:aN rv=true/\b7 rv=true/\rv.cells=[rv])
  (h1:aO E 20 [.int .i64 n,v,.int .i64 8]=some (.tuple [.aH,.int .i64 e])) (he:e≠0):
  aO E 22 [.agg [.int .i64 n,v,rv]]=some (.tuple [.agg [.int .i64 0,.aH,.aH],.int .i64 e]):=by
 refine ep ?_;refine mO aaA ?_;intro ts hl g0;unfold c22;have d1:decide (n<1)=false:=cH (by omega);have d2:decide (n>8)=false:=cH (by omega);have he':(e !=0)=true:=by simpa using he
 simp only[↓aQ,aR,↓aT,aK,dt,↓reduceIte,aa,ah,ae,Tryz.f22,hl,g0,d1,d2,pv,h1,he']
theorem IG(hn:1<=n/\n<=8)(pv:aN v=true/\b7 v=true/\v.cells=[v])(Fg:aN rv=true/\b7 rv=true/\rv.cells=[rv])
  (h1:aO E 20 [.int .i64 n,v,.int .i64 8]=some (.tuple [r1,.int .i64 0])) (pr:aN r1=true/\b7 r1=true/\r1.cells=[r1]) (h2:aO E 20 [.int .i64 n,rv,.int .i64 256]=some (.tuple [.aH,.int .i64 e])) (he:e≠0):
  aO E 22 [.agg [.int .i64 n,v,rv]]=some (.tuple [.agg [.int .i64 0,.aH,.aH],.int .i64 e]):=by
 refine ep ?_;refine mO aaA ?_;intro ts hl g0;unfold c22;have d1:decide (n<1)=false:=cH (by omega);have d2:decide (n>8)=false:=cH (by omega);have he':(e !=0)=true:=by simpa using he
 simp only[↓aQ,aR,↓aT,aK,dt,↓reduceIte,aa,ah,ae,Tryz.f22,aE,hl,g0,d1,d2,pv,Fg,h1,h2,he']
theorem RN(pv:aN v=true/\b7 v=true/\v.cells=[v])(Fg:aN rv=true/\b7 rv=true/\rv.cells=[rv])(h:aO E 22 [.agg [.int .i64 n,v,rv]]=some (.tuple [.agg [.int .i64 0,.aH,.aH],.int .i64 e])):
  aO E 8 [.agg [.int .i64 n,v,rv]]=some (.int .i64 e):=by
 refine ep ?_;refine mO fn8 ?_;intro ts hl g0;unfold c8;simp only[↓aQ,aR,↓aT,aK,↓reduceIte,aa,ah,ae,Tryz.f8,hl,g0,h,pv,Fg]
theorem zu(pv:aN v=true/\b7 v=true/\v.cells=[v])(Fg:aN rv=true/\b7 rv=true/\rv.cells=[rv])(h:aO E 8 [.agg [.int .i64 n,v,rv]]=some (.int .i64 e))(he:e≠0):
  aO E 9 [.agg [.int .i64 n,v,rv]]=some (.tuple [eJ 0 0 false,.int .i64 e]):=by
 refine ep ?_;refine mO fn9 ?_;intro ts hl g0;unfold c9;have he':(e !=0)=true:=by simpa using he
 simp only[↓aQ,aR,↓aT,aK,dt,↓reduceIte,aa,ah,ae,Tryz.f9,hl,g0,h,he',pv,Fg];rfl
theorem II(pv:aN v=true/\b7 v=true/\v.cells=[v])(Fg:aN rv=true/\b7 rv=true/\rv.cells=[rv])(h:aO E 8 [.agg [.int .i64 n,v,rv]]=some (.int .i64 0))(hn:n≠6):
  aO E 9 [.agg [.int .i64 n,v,rv]]=some (.tuple [eJ 0 0 false,.int .i64 13]):=by
 refine ep ?_;refine mO fn9 ?_;intro ts hl g0;unfold c9;have he':(n !=6)=true:=by simpa using hn
 simp only[↓aQ,aR,↓aT,aK,dt,↓reduceIte,aa,ah,ae,Tryz.f9,aE,hl,g0,h,he',pv,Fg];rfl
end
noncomputable def uP:Code:=qH 6 MV
theorem re:MV=.seq (sb MV) (.seq (sb (qH 1 MV)) (.seq (sb (qH 2 MV)) (.seq (sb (qH 3 MV)) (.seq (sb (qH 4 MV)) (.seq (sb (qH 5 MV)) uP))))):=by kernel_rfl
def CU(tws:List Tw):List AV:=tws.flatMap fun t=>t.qs.map fun q=>AV.str (bC q)
def yE(u:AV)(tws:List Tw):Prop:=(tws=[]/\u=.aH)∨(tws≠[]/\u=.aJ (CU tws) tws.length)
theorem MK(tws:List Tw):(CU tws).length=tws.length*6:=by
 unfold CU;induction tws with
 |nil=>rfl
 |cons t tws ih=>rw[aNs,aMk,ih,aOT,aMn,show t.qs.length=6 from rfl];omega
theorem YJ(a:List Tw)(t:Tw):CU (a++[t])=CU a++t.qs.map fun q=>AV.str (bC q):=by unfold CU;rw[List.flatMap_append,aNs,List.flatMap_nil,List.append_nil]
theorem YL{tws:List Tw}{x:AV}(h:x∈CU tws):∃q,x=.str (bC q):=by unfold CU at h;obtain⟨t,-,ht⟩:=List.mem_flatMap.1 h;obtain⟨q,-,rfl⟩:=aNp.1 ht;exact⟨q,rfl⟩
theorem oV{tws:List Tw}{k lo:Nat}(bT:TT k tws)(hk:k<=1000000000)(h6:tws.length<=6){HC:Hp}{v:AV}{cs:List AV}(hs:u7 24 lo v HC tws.length cs)(hT:ve cs tws){G:AV->Prop}(hG:∀u,yE u tws->G u){ts:List AV}(hl:ts.length=155)(g9:gt ts 9=v):
  V E uP ts HC (mS E [.tmp 2] G):=by
 refine VS ?_;have zN:=Qc hs;unfold uP
 dsimp only[qH,sb,MV,Tryz.f71]
 simp only[↓aQ,aR];refine fh (fun k_ ts H=>∃i w HH out,k_=tws.length-i/\ts.length=155/\gt ts 9=v/\gt ts 13=w/\gt ts 14=.int .i64 (i:Int)/\H=HH/\(i<=tws.length)/\(HC.length<=HH.length)/\(∀q,q<HC.length->HH[q]?=HC[q]?)/\(u7 6 HC.length w HH i out)/\(out=CU (tws.take i))) (tws.length) ?_ ?_
 rotate_left
 ·refine⟨0,.aH,HC,[],(by first|omega|rfl|(simp;done)),(by simp only[cK,hl]),?_⟩;simp only[cM,hl,aa,ae,g9]
  iterate 4 refine⟨by first|trivial|rfl|(congr 1;omega)|(simp;done)|(simp;omega),?_⟩
  refine⟨?_,?_,?_,?_,?_⟩
  ·omega
  ·omega
  ·intro q hq;trivial
  ·exact .inl ⟨rfl,rfl,rfl⟩
  ·rfl
 clear hl g9 ts;rintro k_ ts H ⟨i,w,HH,out,rfl,hl,g9,g13,g14,rfl,hi,hHl,R3,hsw,tX⟩;refine VS ?_;have hol:out.length=i*6:=by rw[tX,MK,List.length_take,Nat.min_eq_left hi]
 by_cases hd:i<tws.length
 ·have dc:decide ((i:Int)<(tws.length:Int))=true:=cF (by omega);have oF:((i:Int)<(tws.length:Int))=True:=eq_true (by omega);have w1:aV .i64 ((i:Int)+1)=((i+1:Nat):Int):=by rw[wrap_i64 (by omega) (by omega)];omega
  obtain⟨b,sG,tz,hve,zK⟩:∃b,lo<=b/\b<HC.length/\v=.aI b 0 tws.length 24 tws.length/\HC[b]?=some (.cells .live cs):=by
   rcases hs with⟨h0,-,-⟩|⟨-,b,f1,f2,f3,f4⟩
   ·omega
   ·exact⟨b,f1,f2,f3,f4⟩
  subst hve;have hHb:H[b]?=some (.cells .live cs):=by rw[R3 b tz];exact zK
  have hTl:=hT.len;obtain⟨c,e1,ic⟩:=hT.get hd;have a2:=fun o=>jL (n:=24) (o:=o) hHb (by decide)
  have h24:(i*24+24<=cs.length)=True:=eq_true (by omega);have vI:=xi (E:=E) ic (bT.get hd) (by omega);obtain⟨ct,KU⟩:∃ct,ct=(tws.getD i ⟨v0,v0⟩).qs.map (fun q=>AV.str (bC q)):=⟨_,rfl⟩;rw[<-KU]at vI;have R5:ct.length=6:=by rw[KU,aOT];rfl
  have Wc:ct.all b7=true:=by rw[aMa];intro x hx;rw[KU,aNp]at hx;obtain⟨q,-,rfl⟩:=hx;rfl
  have B6:=At ic;have pS:∀aM,aW E aM 48 1 [(0,.agg ct)]=some (.aI aM 0 1 6 1,[(aM,.cells .live ct)]):=fun aM=>gE ac0 rfl (by decide) (by decide) R5
  obtain⟨bM,H2,gT,uJ,t1,t2,t3⟩:=jR (E:=E) (H:=H) (x:=ct) ac0 (by decide) (zh hsw) hol R5 Wc (by unfold gq;omega) (by omega);simp only[aMk,aMn,List.length_nil,Nat.zero_add]at gT uJ;simp only[↓aQ,aR,↓aT,aK,dt,↓reduceIte,aa,ae,hl,g9,g13,g14,zN,oF,w1,a2,h24,e1,vI,B6,pS,gT,uJ,aMk];refine dO ?_;refine⟨_,?_,i+1,(.aI (H.length+1) 0 (i+1) 6 (i+1)),H2,(out++ct),rfl,(by simp only[cK,hl]),?_⟩
  ·first|omega|(simp;omega)
  simp only[cM,hl,aa,ae,g9]
  iterate 4 refine⟨by first|trivial|rfl|(congr 1;omega)|(simp;done)|(simp;omega),?_⟩
  refine⟨?_,?_,?_,?_,?_⟩
  ·omega
  ·omega
  ·intro q hq;rw[t3 q (by omega) (uB hsw hq),R3 q hq]
  ·exact .inr ⟨by omega,H.length+1,by omega,by omega,rfl,t1⟩
  ·rw[tX,KU,List.take_succ,aMh hd,Option.toList_some,YJ,aSW,aMh hd,Option.getD_some]
 ·have dc:decide ((i:Int)<(tws.length:Int))=false:=cH (by omega);obtain rfl:i=tws.length:=by omega
  rw[aR7]at tX;rcases hsw with⟨h0,h1,h2⟩|⟨h0,b,h1,h2,h3,h4⟩
  ·subst h2;simp only[↓aQ,aR,aK,↓reduceIte,aa,ae,hl,g9,g13,g14,zN,dc];exact hG _ (.inl ⟨List.eq_nil_of_length_eq_zero h0,rfl⟩)
  ·have gf:=jQ (st:=.live) h4 (by decide) hol (by
    intro x hx;rw[tX]at hx;obtain⟨q,rfl⟩:=YL hx;exact fun _ _=>rfl)
   subst h3;simp only[↓aQ,aR,aK,↓reduceIte,aa,ae,hl,g9,g13,g14,zN,dc,gf];refine hG _ (.inr ⟨fun e=>by rw[e]at h0;simp at h0,?_⟩);rw[tX]
set_option maxRecDepth 100000
theorem ad7{k l:Nat}{a b:V3}(h:BV k a)(h':BV l b):BV (k+l+1) (Av a b):=⟨h.1.add h'.1,h.2.1.add h'.2.1,h.2.2.add h'.2.2⟩
theorem UR(k:Nat):BV (k+1) v0:=⟨yk.mono (by omega),yk.mono (by omega),yk.mono (by omega)⟩
theorem Mf{d p:V3}{k l:Nat}(bd:BV k d)(bp:BV l p):BT (k+(2*(l+k)+1)) (gd d p):=⟨bd.mono (by omega),(jb bp bd).mono (by omega)⟩
theorem JN{d:V3}{k:Nat}(bd:BV k d):BT (k+1) (gI d):=⟨UR k,bd.mono (by omega)⟩
theorem Lt{d:Int}{cl:Bool}{a0 a1 a2 b0 b1 b2 h:List UInt8}(la0:a0.length<=65536)(la1:a1.length<=65536)(la2:a2.length<=65536)(lb0:b0.length<=65536)(lb1:b1.length<=65536)(lb2:b2.length<=65536)(lh:h.length<=65536):
  ∃u,aO E 71 [cw 0 d cl a0 a1 a2 b0 b1 b2 h]=some u/\yE u []:=by
 obtain⟨x,hx,ix⟩:=eu (E:=E) (s0:=a0) (s1:=a1) (s2:=a2) (by omega) (by omega) (by omega);obtain⟨y,hy,iy⟩:=eu (E:=E) (s0:=b0) (s1:=b1) (s2:=b2) (by omega) (by omega) (by omega);obtain⟨w,hw,iw⟩:=kn (E:=E) (s:=h) (by omega);have bT:TT 1 []:=fun t ht=>absurd ht (by simp)
 obtain⟨kH,kr,kI,ku,me,lO,mf,lP,mh,lQ,mi,lR,rfl,-,-,-,P,O⟩:=cD ix;obtain⟨nk,nh,nu,nj,nS,nO,nT,nP,nU,nQ,nV,nR,rfl,-,-,-,P1,O1⟩:=cD iy;obtain⟨Y1,YZ,Y2,Y0,_,_,rfl,-,-,-,-⟩:=bR iw;have W:=aU _ iw;have jr:=fun(HC:Hp) v cs hs hT (G:AV->Prop) hG (ts:List AV) hl g9=>oV (E:=E) (tws:=[]) (k:=1) (lo:=0) bT (by omega) (by simp) (HC:=HC) (v:=v) (cs:=cs) hs hT (G:=G) hG (ts:=ts) hl g9
 refine mO RX ?_;intro ts hl g0;rw[re];generalize uP=D at jr⊢
 dsimp only[qH,sb,MV,Tryz.f71]
 unfold cw at*;simp only[↓aQ,aR,↓aT,aK,↓reduceIte,aa,ah,ae,ai,aD,hl,g0,hx,hy,hw,O,O1,W];refine jr _ .aH [] (.inl ⟨rfl,rfl,rfl⟩) .nil _ (fun u hu=>hu) _ (by simp only[cK,hl]) ?_
 all_goals simp only[cM,hl,aa,ae]
theorem Lu{d:Int}{cl:Bool}{a0 a1 a2 b0 b1 b2 h:List UInt8}(la0:a0.length<=65536)(la1:a1.length<=65536)(la2:a2.length<=65536)(lb0:b0.length<=65536)(lb1:b1.length<=65536)(lb2:b2.length<=65536)(lh:h.length<=65536){k l:Nat}(bd:BV k (fN 65536 a0 a1 a2))(bp:BV l (fN 65536 b0 b1 b2))(Ol:k+l<=10000000):
  ∃u,aO E 71 [cw 1 d cl a0 a1 a2 b0 b1 b2 h]=some u/\yE u [gd (fN 65536 a0 a1 a2) (fN 65536 b0 b1 b2)]:=by
 obtain⟨x,hx,ix⟩:=eu (E:=E) (s0:=a0) (s1:=a1) (s2:=a2) (by omega) (by omega) (by omega);obtain⟨y,hy,iy⟩:=eu (E:=E) (s0:=b0) (s1:=b1) (s2:=b2) (by omega) (by omega) (by omega);obtain⟨w,hw,iw⟩:=kn (E:=E) (s:=h) (by omega);obtain⟨t,ht,it⟩:=lk (E:=E) ix iy bd bp (by omega);obtain⟨c,rfl,iE,C7,B6⟩:=oD it;have bT:TT (k+(2*(l+k)+1)) [gd (fN 65536 a0 a1 a2) (fN 65536 b0 b1 b2)]:=fun t ht=>by rw[aNq]at ht;subst ht;exact Mf bd bp
 have pS:∀aM,aW E aM 70 1 [(0,AV.agg c)]=some (.aI aM 0 1 24 1,[(aM,.cells .live c)]):=fun aM=>gE uo rfl (by decide) (by decide) (by exact iE)
 obtain⟨kH,kr,kI,ku,me,lO,mf,lP,mh,lQ,mi,lR,rfl,-,-,-,P,O⟩:=cD ix;obtain⟨nk,nh,nu,nj,nS,nO,nT,nP,nU,nQ,nV,nR,rfl,-,-,-,P1,O1⟩:=cD iy;obtain⟨Y1,YZ,Y2,Y0,_,_,rfl,-,-,-,-⟩:=bR iw;have W:=aU _ iw;have jr:=fun(HC:Hp) v cs hs hT (G:AV->Prop) hG (ts:List AV) hl g9=>oV (E:=E) (tws:=[gd (fN 65536 a0 a1 a2) (fN 65536 b0 b1 b2)]) (k:=_) (lo:=0) bT (by omega) (by simp) (HC:=HC) (v:=v) (cs:=cs) hs hT (G:=G) hG (ts:=ts) hl g9
 refine mO RX ?_;intro ts hl g0;rw[re];generalize uP=D at jr⊢
 dsimp only[qH,sb,MV,Tryz.f71]
 unfold cw at*;simp only[↓aQ,aR,↓aT,aK,↓reduceIte,aa,ah,ae,ai,hl,g0,hx,hy,hw,P,O,P1,O1,W,ht,pS];refine jr _ (.aI 4 0 1 24 1) c (.inr ⟨by simp,4,by simp,by simp,rfl,rfl⟩) (ve.one it iE) _ (fun u hu=>hu) _ (by simp only[cK,hl]) ?_
 all_goals simp only[cM,hl,aa]
theorem Ly{d:Int}{cl:Bool}{a0 a1 a2 b0 b1 b2 h:List UInt8}(la0:a0.length<=65536)(la1:a1.length<=65536)(la2:a2.length<=65536)(lb0:b0.length<=65536)(lb1:b1.length<=65536)(lb2:b2.length<=65536)(lh:h.length<=65536){k l:Nat}(bd:BV k (fN 65536 a0 a1 a2))(bp:BV l (fN 65536 b0 b1 b2))(Ol:k+l<=10000000):
  ∃u,aO E 71 [cw 2 d cl a0 a1 a2 b0 b1 b2 h]=some u/\yE u [gI (fN 65536 a0 a1 a2)]:=by
 obtain⟨x,hx,ix⟩:=eu (E:=E) (s0:=a0) (s1:=a1) (s2:=a2) (by omega) (by omega) (by omega);obtain⟨y,hy,iy⟩:=eu (E:=E) (s0:=b0) (s1:=b1) (s2:=b2) (by omega) (by omega) (by omega);obtain⟨w,hw,iw⟩:=kn (E:=E) (s:=h) (by omega);obtain⟨t,ht,it⟩:=ji (E:=E) ix;obtain⟨c,rfl,iE,C7,B6⟩:=oD it;have bT:TT (k+1) [gI (fN 65536 a0 a1 a2)]:=fun t ht=>by rw[aNq]at ht;subst ht;exact JN bd
 have pS:∀aM,aW E aM 70 1 [(0,AV.agg c)]=some (.aI aM 0 1 24 1,[(aM,.cells .live c)]):=fun aM=>gE uo rfl (by decide) (by decide) (by exact iE)
 obtain⟨kH,kr,kI,ku,me,lO,mf,lP,mh,lQ,mi,lR,rfl,-,-,-,P,O⟩:=cD ix;obtain⟨nk,nh,nu,nj,nS,nO,nT,nP,nU,nQ,nV,nR,rfl,-,-,-,P1,O1⟩:=cD iy;obtain⟨Y1,YZ,Y2,Y0,_,_,rfl,-,-,-,-⟩:=bR iw;have W:=aU _ iw;have jr:=fun(HC:Hp) v cs hs hT (G:AV->Prop) hG (ts:List AV) hl g9=>oV (E:=E) (tws:=[gI (fN 65536 a0 a1 a2)]) (k:=_) (lo:=0) bT (by omega) (by simp) (HC:=HC) (v:=v) (cs:=cs) hs hT (G:=G) hG (ts:=ts) hl g9
 refine mO RX ?_;intro ts hl g0;rw[re];generalize uP=D at jr⊢
 dsimp only[qH,sb,MV,Tryz.f71]
 unfold cw at*;simp only[↓aQ,aR,↓aT,aK,↓reduceIte,aa,ah,ae,ai,aD,hl,g0,hx,hy,hw,P,O,O1,W,ht,pS];refine jr _ (.aI 4 0 1 24 1) c (.inr ⟨by simp,4,by simp,by simp,rfl,rfl⟩) (ve.one it iE) _ (fun u hu=>hu) _ (by simp only[cK,hl]) ?_
 all_goals simp only[cM,hl,aa]
theorem Lz{d:Int}{cl:Bool}{a0 a1 a2 b0 b1 b2 h:List UInt8}(la0:a0.length<=65536)(la1:a1.length<=65536)(la2:a2.length<=65536)(lb0:b0.length<=65536)(lb1:b1.length<=65536)(lb2:b2.length<=65536)(lh:h.length<=65536){k l q:Nat}(bd:BV k (fN 65536 a0 a1 a2))(bp:BV l (fN 65536 b0 b1 b2))(Ol:k+l<=10000000)(bq:Bq q (if dY 65536 h=0 then gY h else 0))(hq:q<=10000000):
  ∃u,aO E 71 [cw 3 d cl a0 a1 a2 b0 b1 b2 h]=some u/\yE u [yA (gd (fN 65536 a0 a1 a2) (fN 65536 b0 b1 b2)) (gI (eE (if dY 65536 h=0 then gY h else 0) (fN 65536 a0 a1 a2)))]:=by
 obtain⟨x,hx,ix⟩:=eu (E:=E) (s0:=a0) (s1:=a1) (s2:=a2) (by omega) (by omega) (by omega);obtain⟨y,hy,iy⟩:=eu (E:=E) (s0:=b0) (s1:=b1) (s2:=b2) (by omega) (by omega) (by omega);obtain⟨w,hw,iw⟩:=kn (E:=E) (s:=h) (by omega);obtain⟨t1,M6,it1⟩:=lk (E:=E) ix iy bd bp (by omega);obtain⟨s,hs,is⟩:=nJ (E:=E) ix iw bd bq (by omega);obtain⟨t2,J4,it2⟩:=ji (E:=E) is;have bc:=jb bp bd;have bz:BV (q+k) v0:=⟨yk.mono (by have:=bd.1.pos;omega),yk.mono (by have:=bd.1.pos;omega),yk.mono (by have:=bd.1.pos;omega)⟩;obtain⟨t,ht,it⟩:=FA (E:=E) it1 it2 (k:=2*(l+k)+1) (l:=q+k) (bd.mono (by omega)) bc bz (BV.scale bq bd) (by omega);have pt1:=Au it1;have pt2:=Au it2;have ps:=qe is;obtain⟨c,rfl,iE,C7,B6⟩:=oD it;have bT:TT (2*(l+k)+1+(q+k)+1) [yA (gd (fN 65536 a0 a1 a2) (fN 65536 b0 b1 b2)) (gI (eE (if dY 65536 h=0 then gY h else 0) (fN 65536 a0 a1 a2)))]:=fun t ht=>by rw[aNq]at ht;subst ht;exact⟨ad7 (BV.mono (l:=2*(l+k)+1) bd (by omega)) bz,ad7 bc (BV.scale bq bd)⟩
 have pS:∀aM,aW E aM 70 1 [(0,AV.agg c)]=some (.aI aM 0 1 24 1,[(aM,.cells .live c)]):=fun aM=>gE uo rfl (by decide) (by decide) (by exact iE)
 obtain⟨kH,kr,kI,ku,me,lO,mf,lP,mh,lQ,mi,lR,rfl,-,-,-,P,O⟩:=cD ix;obtain⟨nk,nh,nu,nj,nS,nO,nT,nP,nU,nQ,nV,nR,rfl,-,-,-,P1,O1⟩:=cD iy;obtain⟨Y1,YZ,Y2,Y0,_,_,rfl,-,-,-,-⟩:=bR iw;have W:=aU _ iw;have jr:=fun(HC:Hp) v cs hs hT (G:AV->Prop) hG (ts:List AV) hl g9=>oV (E:=E) (tws:=[yA (gd (fN 65536 a0 a1 a2) (fN 65536 b0 b1 b2)) (gI (eE (if dY 65536 h=0 then gY h else 0) (fN 65536 a0 a1 a2)))]) (k:=_) (lo:=0) bT (by omega) (by simp) (HC:=HC) (v:=v) (cs:=cs) hs hT (G:=G) hG (ts:=ts) hl g9
 refine mO RX ?_;intro ts hl g0;rw[re];generalize uP=D at jr⊢
 dsimp only[qH,sb,MV,Tryz.f71]
 unfold cw at*;simp only[↓aQ,aR,↓aT,aK,↓reduceIte,aa,ah,ae,ai,aD,hl,g0,hx,hy,hw,P,O,P1,O1,W,M6,hs,J4,pt1,pt2,ps,ht,pS];refine jr _ (.aI 4 0 1 24 1) c (.inr ⟨by simp,4,by simp,by simp,rfl,rfl⟩) (ve.one it iE) _ (fun u hu=>hu) _ (by simp only[cK,hl]) ?_
 all_goals simp only[cM,hl,aa]
theorem LA{d:Int}{cl:Bool}{a0 a1 a2 b0 b1 b2 h:List UInt8}(la0:a0.length<=65536)(la1:a1.length<=65536)(la2:a2.length<=65536)(lb0:b0.length<=65536)(lb1:b1.length<=65536)(lb2:b2.length<=65536)(lh:h.length<=65536){k l:Nat}(bd:BV k (fN 65536 a0 a1 a2))(bp:BV l (fN 65536 b0 b1 b2))(Ol:k+l<=10000000):
  ∃u,aO E 71 [cw 4 d cl a0 a1 a2 b0 b1 b2 h]=some u/\yE u [gd (fN 65536 a0 a1 a2) (fN 65536 b0 b1 b2),gI (fN 65536 a0 a1 a2)]:=by
 obtain⟨x,hx,ix⟩:=eu (E:=E) (s0:=a0) (s1:=a1) (s2:=a2) (by omega) (by omega) (by omega);obtain⟨y,hy,iy⟩:=eu (E:=E) (s0:=b0) (s1:=b1) (s2:=b2) (by omega) (by omega) (by omega);obtain⟨w,hw,iw⟩:=kn (E:=E) (s:=h) (by omega);obtain⟨t,ht,it⟩:=lk (E:=E) ix iy bd bp (by omega);obtain⟨c,rfl,iE,C7,B6⟩:=oD it;obtain⟨u,hu,iu⟩:=ji (E:=E) ix;obtain⟨c',rfl,Oi,aoc,awK⟩:=oD iu;have bT:TT (k+(2*(l+k)+1)) [gd (fN 65536 a0 a1 a2) (fN 65536 b0 b1 b2),gI (fN 65536 a0 a1 a2)]:=by
  intro t ht;rcases aNn.1 ht with rfl|ht
  ·exact Mf bd bp
  ·rw[aNq]at ht;subst ht;exact⟨(JN bd).1.mono (by have:=bd.1.pos;omega),(JN bd).2.mono (by have:=bd.1.pos;omega)⟩
 have pS:∀aM,aW E aM 70 2 [(0,AV.agg c),(1,AV.agg c')]=some (.aI aM 0 2 24 2,[(aM,.cells .live (c++c'))]):=fun aM=>UO uo rfl (by decide) (by decide) iE Oi
 obtain⟨kH,kr,kI,ku,me,lO,mf,lP,mh,lQ,mi,lR,rfl,-,-,-,P,O⟩:=cD ix;obtain⟨nk,nh,nu,nj,nS,nO,nT,nP,nU,nQ,nV,nR,rfl,-,-,-,P1,O1⟩:=cD iy;obtain⟨Y1,YZ,Y2,Y0,_,_,rfl,-,-,-,-⟩:=bR iw;have W:=aU _ iw;have jr:=fun(HC:Hp) v cs hs hT (G:AV->Prop) hG (ts:List AV) hl g9=>oV (E:=E) (tws:=[gd (fN 65536 a0 a1 a2) (fN 65536 b0 b1 b2),gI (fN 65536 a0 a1 a2)]) (k:=_) (lo:=0) bT (by omega) (by simp) (HC:=HC) (v:=v) (cs:=cs) hs hT (G:=G) hG (ts:=ts) hl g9
 refine mO RX ?_;intro ts hl g0;rw[re];generalize uP=D at jr⊢
 dsimp only[qH,sb,MV,Tryz.f71]
 unfold cw at*;simp only[↓aQ,aR,↓aT,aK,↓reduceIte,aa,ah,ae,ai,aD,hl,g0,hx,hy,hw,P,O,P1,O1,W,ht,hu,pS];refine jr _ (.aI 4 0 2 24 2) (c++c') (.inr ⟨by simp,4,by simp,by simp,rfl,rfl⟩) (ve.cons it iE (ve.one iu Oi)) _ (fun u hu=>hu) _ (by simp only[cK,hl]) ?_
 all_goals simp only[cM,hl,aa]
end Go.Proofs.YtblnjkjjedanaaaGreatDoor
