/- A part of the proof that PairRefuses returns true for every input; no condition of its own. -/
import Derived.Test.YtblnjkjjedanaaaGreatDoorTba
set_option linter.all false
set_option maxHeartbeats 100000000
set_option maxRecDepth 100000
open List renaming length_map->aOT,length_append->aMk,getD_eq_getElem?_getD->aSW,getElem?_eq_getElem->aMh,eq_nil_of_length_eq_zero->aVC,mem_singleton->aNq,set->aYx,getElem?_append_left->aOB,not_mem_nil->aUn,mem_map->aNp,length_take->aMp,length_cons->aMn,length_set->aPp,length_nil->aP3,length_singleton->aWX,mem_of_mem_take->aQj,mem_cons->aNn,getElem?_range->aYz,getElem?_map->aNe,take_length->aR7
open Nat renaming zero_le->aXy,two_pow_pos->aRW,le_refl->aLr,zero_add->aMg,reduceLT->aa,reduceEqDiff->ae,reduceAdd->ah,reduceLeDiff->ai
open Option renaming getD_some->aNt,some->aLv
open Rat renaming intCast_neg->aYy
open Int renaming reduceLE->an,reduceToNat->aq,reduceAdd->aA,reduceBNe->aE
namespace Go.Proofs.YtblnjkjjedanaaaGreatDoor
open Go Dv Dv.bV
open Go.Proofs.dN
variable{E:Env}[C:Ctx E]
set_option maxRecDepth 100000
structure Dat(B:Nat)(u p:V3)(h:Rat):Prop where
 le:B<=90
 bu:BV (B+1) u
 bp:BV (2*B+3) p
 bh:Bq (2*B+3) h
 ne:u≠v0
 c1:CV (3*B+3) (fv (gd u p).qs)
 c2:CV (3*B+3) (fv (gI u).qs)
 c3:CV (3*B+3) (fv (yA (gd u p) (gI (eE h u))).qs)
 c6:CV (3*B+3) (fv (gd u v0).qs)
 c7:∀i,i<3->CV (3*B+3) (fv (gI (bX u (eV i))).qs)
theorem YA{B:Nat}{u0 u1 u2:Int}(b0:u0.natAbs<=2^B)(b1:u1.natAbs<=2^B)(b2:u2.natAbs<=2^B)(i:Nat)(hi:i<3):CV (3*B+3) (fv (gI (bX ⟨(u0:Rat),u1,u2⟩ (eV i))).qs):=by
 have z0:((0:Int):Rat)=0:=rfl;have zz:(0:Int).natAbs<=2^B:=aXy _;obtain e|e|e:i=0∨i=1∨i=2:=by omega
 ·subst e;rw[cr0,show(⟨0,(u2:Rat),-(u1:Rat)⟩:V3)=⟨((0:Int):Rat),((u2:Int):Rat),((-u1:Int):Rat)⟩by rw[z0,aYy]];exact(HY zz b2 (by omega)).mono (by omega)
 ·subst e;rw[Z1,show(⟨-(u2:Rat),0,(u0:Rat)⟩:V3)=⟨((-u2:Int):Rat),((0:Int):Rat),((u0:Int):Rat)⟩by rw[z0,aYy]];exact(HY (by omega) zz b0).mono (by omega)
 ·subst e;rw[agx,show(⟨(u1:Rat),-(u0:Rat),0⟩:V3)=⟨((u1:Int):Rat),((-u0:Int):Rat),((0:Int):Rat)⟩by rw[z0,aYy]];exact(HY b1 (by omega) zz).mono (by omega)
theorem Vb{B:Nat}{u p:V3}{h:Rat}{u0 u1 u2 N p0 p1 p2 q:Int}(hB:B<=90)(hu:u=⟨u0,u1,u2⟩)(FQ:u0.natAbs<=2^B)(FR:u1.natAbs<=2^B)(FT:u2.natAbs<=2^B)(hN:N≠0)(bN:N.natAbs<=3*(2^B*2^B))(hp:p=⟨(p0:Rat)/N,(p1:Rat)/N,(p2:Rat)/N⟩)(hh:h=(q:Rat)/N)(Zg:p0.natAbs<=2*(2^B*2^B))(Zh:p1.natAbs<=2*(2^B*2^B))(Zi:p2.natAbs<=2*(2^B*2^B))(bq:q.natAbs<=3*(2^B*2^B))(dM:u≠v0):Dat B u p h:=by
 obtain⟨sc1,sc2⟩:=Am hN FQ FR FT bN Zg Zh Zi bq;have hX:1<=2^B*2^B:=Nat.mul_pos (aRW B) (aRW B);have z:v0=⟨((0:Int):Rat)/((1:Int):Rat),((0:Int):Rat)/((1:Int):Rat),((0:Int):Rat)/((1:Int):Rat)⟩:=by
  have:((0:Int):Rat)/((1:Int):Rat)=0:=by
   have a:((0:Int):Rat)=0:=rfl;have b:((1:Int):Rat)=1:=rfl;rw[a,b];grind
  rw[this];rfl
 obtain⟨-,sc3⟩:=Am (N:=1) (p0:=0) (p1:=0) (p2:=0) (q:=0) (by decide) FQ FR FT (by show 1<=_;omega) (aXy _) (aXy _) (aXy _) (aXy _);rw[<-z]at sc3;refine⟨hB,?_,?_,?_,dM,?_,?_,?_,?_,?_⟩
 ·rw[hu];exact I8 FQ FR FT
 ·rw[hp];exact zG (B:=B) hN bN (by omega) (by omega) (by omega)
 ·rw[hh];exact(zG (B:=B) hN bN (p0:=q) (p1:=q) (p2:=q) bq bq bq).1
 ·rw[hu,hp];exact sc2
 ·rw[hu];exact(HY FQ FR FT).mono (by omega)
 ·rw[hu,hp,hh];exact sc1
 ·rw[hu];exact sc3
 ·rw[hu];exact YA FQ FR FT
def Uu(E:Env)(o rv:AV)(G:List (List Rat))(j:AV)(tws:List Tw):Prop:=∃K P,aO E 33 [.agg [.int .i64 6,o,rv],j]=some (.bool (decide (K=G)))/\iX K 6/\kU 6 K.length (fun i=>dW K i) P (eK (SR tws.length (rf (eI tws))))
section
variable{E:Env} [C:lS E]{B:Nat}{u p:V3}{h:Rat}{o rv:AV}{G:List (List Rat)}
theorem sp1(D:Dat B u p h)(ho:mz o G)(hw:iX G 6)(yI:G.length<=8)(Fg:aN rv=true/\b7 rv=true/\rv.cells=[rv]):Uu E o rv G (cw 1 0 false (bC u.x) (bC u.y) (bC u.z) (bC p.x) (bC p.y) (bC p.z) []) [gd u p]:=by
 have hB:=D.le;obtain⟨-,EA⟩:=BG D.bu (by omega);obtain⟨-,J5⟩:=BG D.bp (by omega);obtain⟨v,hv,hT⟩:=Lu (E:=E) (d:=0) (cl:=false) (h:=[]) (dD D.bu.1 (by omega)) (dD D.bu.2.1 (by omega)) (dD D.bu.2.2 (by omega)) (dD D.bp.1 (by omega)) (dD D.bp.2.1 (by omega)) (dD D.bp.2.2 (by omega)) (by decide) (k:=B+1) (l:=2*B+3) (by rw[EA];exact D.bu) (by rw[J5];exact D.bp) (by omega);rw[EA,J5]at hT;exact nH (E:=E) hv hT (b:=3*B+3) (uj (fun t ht=>by rw[aNq]at ht;subst ht;exact D.c1)).1 (by omega) (by simp) ho hw yI Fg
theorem sp2(D:Dat B u p h)(ho:mz o G)(hw:iX G 6)(yI:G.length<=8)(Fg:aN rv=true/\b7 rv=true/\rv.cells=[rv]):Uu E o rv G (cw 2 0 false (bC u.x) (bC u.y) (bC u.z) [] [] [] []) [gI u]:=by
 have hB:=D.le;obtain⟨-,EA⟩:=BG D.bu (by omega);obtain⟨v,hv,hT⟩:=Ly (E:=E) (d:=0) (cl:=false) (b0:=[]) (b1:=[]) (b2:=[]) (h:=[]) (dD D.bu.1 (by omega)) (dD D.bu.2.1 (by omega)) (dD D.bu.2.2 (by omega)) (by decide) (by decide) (by decide) (by decide) (k:=B+1) (l:=1) (by rw[EA];exact D.bu) (by
   have:fN 65536 [] [] []=v0:=rfl
   rw[this];exact⟨yk,yk,yk⟩) (by omega)
 rw[EA]at hT;exact nH (E:=E) hv hT (b:=3*B+3) (uj (fun t ht=>by rw[aNq]at ht;subst ht;exact D.c2)).1 (by omega) (by simp) ho hw yI Fg
theorem sp3(D:Dat B u p h)(ho:mz o G)(hw:iX G 6)(yI:G.length<=8)(Fg:aN rv=true/\b7 rv=true/\rv.cells=[rv]):Uu E o rv G (cw 3 0 false (bC u.x) (bC u.y) (bC u.z) (bC p.x) (bC p.y) (bC p.z) (bC h)) [yA (gd u p) (gI (eE h u))]:=by
 have hB:=D.le;obtain⟨-,EA⟩:=BG D.bu (by omega);obtain⟨-,J5⟩:=BG D.bp (by omega);have hrc:dY 65536 (bC h)=0:=oY D.bh (by omega);have qP:(if dY 65536 (bC h)=0 then gY (bC h)else 0)=h:=by rw[if_pos hrc,om]
 obtain⟨v,hv,hT⟩:=Lz (E:=E) (d:=0) (cl:=false) (dD D.bu.1 (by omega)) (dD D.bu.2.1 (by omega)) (dD D.bu.2.2 (by omega)) (dD D.bp.1 (by omega)) (dD D.bp.2.1 (by omega)) (dD D.bp.2.2 (by omega)) (dD D.bh (by omega)) (k:=B+1) (l:=2*B+3) (q:=2*B+3) (by rw[EA];exact D.bu) (by rw[J5];exact D.bp) (by omega) (by rw[qP];exact D.bh) (by omega);rw[EA,J5,qP]at hT;exact nH (E:=E) hv hT (b:=3*B+3) (uj (fun t ht=>by rw[aNq]at ht;subst ht;exact D.c3)).1 (by omega) (by simp) ho hw yI Fg
theorem sp4(D:Dat B u p h)(ho:mz o G)(hw:iX G 6)(yI:G.length<=8)(Fg:aN rv=true/\b7 rv=true/\rv.cells=[rv]):Uu E o rv G (cw 4 0 false (bC u.x) (bC u.y) (bC u.z) (bC p.x) (bC p.y) (bC p.z) []) [gd u p,gI u]:=by
 have hB:=D.le;obtain⟨-,EA⟩:=BG D.bu (by omega);obtain⟨-,J5⟩:=BG D.bp (by omega);obtain⟨v,hv,hT⟩:=LA (E:=E) (d:=0) (cl:=false) (h:=[]) (dD D.bu.1 (by omega)) (dD D.bu.2.1 (by omega)) (dD D.bu.2.2 (by omega)) (dD D.bp.1 (by omega)) (dD D.bp.2.1 (by omega)) (dD D.bp.2.2 (by omega)) (by decide) (k:=B+1) (l:=2*B+3) (by rw[EA];exact D.bu) (by rw[J5];exact D.bp) (by omega);rw[EA,J5]at hT;exact nH (E:=E) hv hT (b:=3*B+3) (uj (fun t ht=>by
  simp only[aNn,aUn,or_false]at ht;rcases ht with rfl|rfl
  ·exact D.c1
  ·exact D.c2)).1 (by omega) (by simp) ho hw yI Fg
theorem sp5(D:Dat B u p h)(ho:mz o G)(hw:iX G 6)(yI:G.length<=8)(Fg:aN rv=true/\b7 rv=true/\rv.cells=[rv]):∃tws,AG u tws/\Uu E o rv G (cw 6 0 false (bC u.x) (bC u.y) (bC u.z) [] [] [] []) tws:=by
 have hB:=D.le;obtain⟨-,EA⟩:=BG D.bu (by omega);obtain⟨v,tws,hv,hT,hP⟩:=LB (E:=E) (d:=0) (cl:=false) (b0:=[]) (b1:=[]) (b2:=[]) (h:=[]) (dD D.bu.1 (by omega)) (dD D.bu.2.1 (by omega)) (dD D.bu.2.2 (by omega)) (by decide) (by decide) (by decide) (by decide) (k:=B+1) (by rw[EA];exact D.bu) (by omega) (by rw[EA];exact D.ne);rw[EA]at hP;refine⟨tws,hP,?_⟩;obtain⟨i,j,hi,hj,e,-⟩:=hP;subst e;exact nH (E:=E) hv hT (b:=3*B+3) (uj (fun t ht=>by
  simp only[aNn,aUn,or_false]at ht;rcases ht with rfl|rfl|rfl
  ·exact D.c6
  ·exact D.c7 i hi
  ·exact D.c7 j hj)).1 (by omega) (by simp) ho hw yI Fg
end
set_option maxRecDepth 100000
def ak3(E:Env)(o rv:AV):Prop:=∃k d cl a0 a1 a2 b0 b1 b2 h,aO E 9 [.agg [.int .i64 6,o,rv]]=some (.tuple [cw k d cl a0 a1 a2 b0 b1 b2 h,.int .i64 0])/\aO E 10 [.agg [.int .i64 6,o,rv]]=some (cw k d cl a0 a1 a2 b0 b1 b2 h)
theorem Uu.VC{E:Env}{o rv:AV}{G:List (List Rat)}{j:AV}{tws:List Tw}(h:Uu E o rv G j tws)(hk:∀K P,kU 6 K.length (fun i=>dW K i) P (eK (SR tws.length (rf (eI tws))))->K≠G):aO E 33 [.agg [.int .i64 6,o,rv],j]=some (.bool false):=by obtain⟨K,P,h1,-,h3⟩:=h;rw[cH (hk K P h3)]at h1;exact h1
theorem Uu.tru{E:Env}{o rv:AV}{G:List (List Rat)}{j:AV}{t:Tw}(h:Uu E o rv G j [t]){P:Nat->Nat}{c:Rat}(hw:iX G 6)(Az:G.length=1)(hE:kU 6 G.length (fun i=>dW G i) P (eK (SR G.length (rf G))))(hc:c≠0)(ht:∀i,fv t.qs i=c*fv (row G 0) i):aO E 33 [.agg [.int .i64 6,o,rv],j]=some (.bool true):=by
 obtain⟨K,P',h1,CL,KR⟩:=h;have hKG:K=G:=by
  refine we (jn _) (KR.congr (V:=eK (SR G.length (rf G))) (fun x=>?_)) hE CL hw;rw[Az];refine HO (f:=rf (eI [t])) (g:=rf G) hc (fun i=>?_) x;show fv (row (eI [t]) 0) i=c*fv (row G 0) i
  rw[<-ht i];rfl
 rw[cF hKG]at h1;exact h1
theorem Uu.ex{E:Env}{o rv:AV}{G:List (List Rat)}{j:AV}{tws:List Tw}(h:Uu E o rv G j tws):∃s,aO E 33 [.agg [.int .i64 6,o,rv],j]=some (.bool s):=by obtain⟨K,P,h1,-⟩:=h;exact⟨_,h1⟩
theorem FP{E:Env} [C:lS E]{o rv:AV}{G rays:List (List Rat)}{P:Nat->Nat}{B:Nat}(ho:mz o G)(qP:mz rv rays)(hw:iX G 6)(hE:kU 6 G.length (fun i=>dW G i) P (eK (SR G.length (rf G))))(F2:CR B G)(hB:B<=90)(yI:G.length<=2)(wH:aO E 8 [.agg [.int .i64 6,o,rv]]=some (.int .i64 0)):ak3 E o rv:=by
 have mr:=qP.lY;have Wa:=F2.yd;by_cases hG0:G.length=0
 ·obtain rfl:=aVC hG0;obtain⟨r,hr,hc⟩:=kh (E:=E) (bb:=true) ho qP hw Wa (by omega) yI wH (fun k a0 a1 a2 b0 b1 b2 h h1=>absurd h1 (by simp)) (fun h=>absurd h (by simp));rcases hc with⟨-,rfl⟩|⟨h0,-⟩|⟨h0,-⟩|⟨h0,-⟩|⟨h0,-⟩
  ·exact⟨_,_,_,_,_,_,_,_,_,_,hr,Lp (E:=E) ho qP⟩
  ·exact absurd h0 (by simp)
  ·exact absurd h0 (by simp)
  ·exact absurd h0 (by simp)
  ·exact absurd h0 (by simp)
 have Az:0<G.length:=by omega
 have dM:=XO hE Az;have Sh:=hw 0 Az;have T0:=F2 0 Az;have bt:=xZ Sh (Wa 0 Az);obtain⟨D,n0,n1,n2,m0,m1,m2,fa,fl,bD,Ko,Kp,Kq,Kl,Km,Kn⟩:=YG T0;by_cases hz:(cV (row G 0)).a=v0
 ·have hlz:(cV (row G 0)).l≠v0:=fun e=>dM ⟨hz,e⟩
  obtain⟨u0,u1,u2,hi,e0,e1,e2,⟨c,hc,G3⟩,-⟩:=EJ fl hlz;obtain⟨Et,hpz⟩:=EI fl hlz;have hu:dX (cV (row G 0)).l≠v0:=by rw[G3];exact BF hc hlz
  have x1:TW (cV (row G 0))=mW (cV (row G 0)).l:=if_pos hz;have x2:Zf (cV (row G 0))=v0:=if_pos hz;have x3:axH (cV (row G 0))=0:=if_pos hz;have z:v0=⟨((0:Int):Rat)/((1:Int):Rat),((0:Int):Rat)/((1:Int):Rat),((0:Int):Rat)/((1:Int):Rat)⟩:=by
   have:((0:Int):Rat)/((1:Int):Rat)=0:=by
    have a:((0:Int):Rat)=0:=rfl;have b:((1:Int):Rat)=1:=rfl;rw[a,b];grind
   rw[this];rfl
  have hX:1<=2^B*2^B:=Nat.mul_pos (aRW B) (aRW B);have Dt:Dat B (dX (cV (row G 0)).l) v0 0:=Vb (N:=1) (p0:=0) (p1:=0) (p2:=0) (q:=0) hB hi.e (by omega) (by omega) (by omega) (by decide) (by show 1<=_;omega) z (by
   have a:((0:Int):Rat)=0:=rfl;have b:((1:Int):Rat)=1:=rfl;rw[a,b];grind) (aXy _) (aXy _) (aXy _) (aXy _) hu
  have s1:=(sp1 (E:=E) Dt ho hw (by omega) mr).VC (fun K P' hK=>zT Az hz hK (by simp) hu);have s3:=(sp3 (E:=E) Dt ho hw (by omega) mr).VC (fun K P' hK=>zT Az hz hK (by simp) (by
   show Av (dX (cV (row G 0)).l) v0≠v0
   rw[uu];exact hu))
  have s4:=(sp4 (E:=E) Dt ho hw (by omega) mr).VC (fun K P' hK=>zT Az hz hK (by simp) hu);obtain⟨tws,hP,hs5⟩:=sp5 (E:=E) Dt ho hw (by omega) mr;have s5:=hs5.VC (fun K P' hK=>by
   obtain⟨i,j,-,-,rfl,-⟩:=hP;exact zT Az hz hK (by simp) hu)
  have I7:=sp2 (E:=E) Dt ho hw (by omega) mr;have pY:=fun s2 h2=>yq (E:=E) ho qP hw Wa (by omega) Az yI dM (by rw[x1];exact hpz) (d0:=bC (dX (cV (row G 0)).l).x) (d1:=bC (dX (cV (row G 0)).l).y) (d2:=bC (dX (cV (row G 0)).l).z) (p0:=bC v0.x) (p1:=bC v0.y) (p2:=bC v0.z) (h:=bC 0) (by rw[x1,Et]) (by rw[x1,Et]) (by rw[x1,Et]) (by rw[x2]) (by rw[x2]) (by rw[x2]) (by rw[x3]) (l:=8*(B+1)+2) (by rw[x1];exact ue bt.2 hlz) (by rw[x2];exact bv0.mono (by omega)) (by rw[x3];exact yk.mono (by omega)) (by rw[x1,Et];exact Dt.bu.mono (by omega)) (by omega) s1 (s2:=s2) h2 s3 s4 s5
  obtain⟨r,hr,iE⟩:=kh (E:=E) (bb:=true) ho qP hw Wa (by omega) yI wH (fun k a0 a1 a2 b0 b1 b2 h h1 hj=>VX (E:=E) ho hw h1 hE T0 hB k a0 a1 a2 b0 b1 b2 h hj) (fun _ h2=>absurd hz h2);rcases iE with⟨h0,-⟩|⟨h1,k,a0,a1,a2,b0,b1,b2,h,hj,rfl⟩|⟨h2,-,rfl⟩|⟨-,h0,-⟩|⟨-,h0,-⟩
  ·exact absurd h0 hG0
  ·have s2:=I7.tru hw h1 hE hc (xW Sh (by rw[hz,Ih];rfl) G3);have hm:=pY _ s2;unfold rO at hj;rw[if_pos hz]at hj;unfold cw at hj;simp only[AV.agg.injEq,List.cons.injEq,AV.int.injEq,AV.str.injEq,true_and,and_true]at hj;obtain⟨rfl,rfl,rfl,rfl,rfl,rfl,rfl,rfl⟩:=hj;refine⟨_,_,_,_,_,_,_,_,_,_,hr,?_⟩;rw[hm,h1];rfl
  ·have s2:=I7.VC (fun K P' hK e=>by have:=aab hK;rw[e]at this;omega);have hm:=pY _ s2;refine⟨_,_,_,_,_,_,_,_,_,_,hr,?_⟩;rw[hm,h2];rfl
  ·exact absurd hz h0
  ·exact absurd hz h0
 ·obtain⟨u0,u1,u2,N,p0,p1,p2,q,hu,FQ,FR,FT,hN,bN,hp,hh,Zg,Zh,Zi,bq,⟨c,hc,G3⟩,-⟩:=Iw fa fl Ko Kp Kq Kl Km Kn hz;obtain⟨Et,hpz⟩:=EI fa hz;have hun:dX (cV (row G 0)).a≠v0:=by rw[G3];exact BF hc hz
  have x1:TW (cV (row G 0))=mW (cV (row G 0)).a:=if_neg hz;have x2:Zf (cV (row G 0))=j8 (cV (row G 0)):=if_neg hz;have x3:axH (cV (row G 0))=lM (cV (row G 0)):=if_neg hz;have Dt:Dat B (dX (cV (row G 0)).a) (j8 (cV (row G 0))) (lM (cV (row G 0))):=Vb hB hu FQ FR FT hN bN hp hh Zg Zh Zi bq hun;have hmul:=HJ hz G3;have M5:=sp1 (E:=E) Dt ho hw (by omega) mr;have I7:=sp2 (E:=E) Dt ho hw (by omega) mr;have hs3:=sp3 (E:=E) Dt ho hw (by omega) mr;have hs4:=sp4 (E:=E) Dt ho hw (by omega) mr;obtain⟨tws,hP,hs5⟩:=sp5 (E:=E) Dt ho hw (by omega) mr;have pY:=fun s1 s2 s3 s4 s5 h1 h2 h3 h4 h5=>yq (E:=E) ho qP hw Wa (by omega) Az yI dM (by rw[x1];exact hpz) (d0:=bC (dX (cV (row G 0)).a).x) (d1:=bC (dX (cV (row G 0)).a).y) (d2:=bC (dX (cV (row G 0)).a).z) (p0:=bC (j8 (cV (row G 0))).x) (p1:=bC (j8 (cV (row G 0))).y) (p2:=bC (j8 (cV (row G 0))).z) (h:=bC (lM (cV (row G 0)))) (by rw[x1,Et]) (by rw[x1,Et]) (by rw[x1,Et]) (by rw[x2]) (by rw[x2]) (by rw[x2]) (by rw[x3]) (l:=8*(B+1)+2) (by rw[x1];exact ue bt.1 hz) (by rw[x2];exact Dt.bp.mono (by omega)) (by rw[x3];exact Dt.bh.mono (by omega)) (by rw[x1,Et];exact Dt.bu.mono (by omega)) (by omega) (s1:=s1) (s2:=s2) (s3:=s3) (s4:=s4) (s5:=s5) h1 h2 h3 h4 h5
  by_cases h1:G.length=1
  ·have t2:=I7.VC (fun K P' hK=>abw h1 hz hK hun);obtain⟨s4,t4⟩:=hs4.ex;obtain⟨s5,t5⟩:=hs5.ex;have t3:=hs3.tru hw h1 hE hc (xW Sh (by
    show Av (dX (cV (row G 0)).a) v0=_
    rw[uu];exact G3) hmul)
   obtain⟨r,hr,iE⟩:=kh (E:=E) (bb:=true) ho qP hw Wa (by omega) yI wH (fun k a0 a1 a2 b0 b1 b2 h h1 hj=>VX (E:=E) ho hw h1 hE T0 hB k a0 a1 a2 b0 b1 b2 h hj) (fun h2=>absurd h2 (by omega));rcases iE with⟨h0,-⟩|⟨-,k,a0,a1,a2,b0,b1,b2,h,hj,rfl⟩|⟨h2,-⟩|⟨h2,-⟩|⟨h2,-⟩
   ·exact absurd h0 hG0
   ·unfold rO at hj;rw[if_neg hz]at hj;by_cases hh0:lM (cV (row G 0))=0
    ·have t1:=M5.tru hw h1 hE hc (xW Sh G3 (by rw[<-hmul,hh0,Cy,uu];rfl));have hm:=pY _ _ _ _ _ t1 t2 t3 t4 t5;rw[if_pos hh0]at hj;unfold cw at hj;simp only[AV.agg.injEq,List.cons.injEq,AV.int.injEq,AV.str.injEq,true_and,and_true]at hj;obtain⟨rfl,rfl,rfl,rfl,rfl,rfl,rfl,rfl⟩:=hj;refine⟨_,_,_,_,_,_,_,_,_,_,hr,?_⟩;rw[hm,h1];rfl
    ·have t1:=M5.VC (fun K P' hK=>WR h1 hz G3 hmul hh0 hun hK);have hm:=pY _ _ _ _ _ t1 t2 t3 t4 t5;rw[if_neg hh0]at hj;unfold cw at hj;simp only[AV.agg.injEq,List.cons.injEq,AV.int.injEq,AV.str.injEq,true_and,and_true]at hj;obtain⟨rfl,rfl,rfl,rfl,rfl,rfl,rfl,rfl⟩:=hj;refine⟨_,_,_,_,_,_,_,_,_,_,hr,?_⟩;rw[hm,h1];rfl
   ·omega
   ·omega
   ·omega
  ·have h2:G.length=2:=by omega
   have t1:=M5.VC (fun K P' hK e=>by have:=aab hK;rw[e]at this;omega);have t2:=I7.VC (fun K P' hK e=>by have:=aab hK;rw[e]at this;omega);have t3:=hs3.VC (fun K P' hK e=>by have:=aab hK;rw[e]at this;omega);have t5:=hs5.VC (fun K P' hK=>OO h2 hz hP hK);obtain⟨K,PK,hK1,CL,KR⟩:=hs4;obtain⟨L,PL,hL1,hLw,hLE⟩:=VY (E:=E) ho hw (by omega) T0 hB hz;have hKL:K=L:=we (jn _) KR hLE CL hLw;rw[hKL]at hK1;obtain⟨bb,hbb⟩:∃bb,bb=decide (L=G):=⟨_,rfl⟩;rw[<-hbb]at hK1 hL1;have hm:=pY _ _ _ _ _ t1 t2 t3 hK1 t5;obtain⟨r,hr,iE⟩:=kh (E:=E) (bb:=bb) ho qP hw Wa (by omega) yI wH (fun k a0 a1 a2 b0 b1 b2 h h1 hj=>absurd h1 (by omega)) (fun _ _=>hL1);rcases iE with⟨h0,-⟩|⟨h0,-⟩|⟨-,h0,-⟩|⟨-,-,hb,k,a0,a1,a2,b0,b1,b2,h,hj,rfl⟩|⟨-,-,hb,rfl⟩
   ·exact absurd h0 hG0
   ·omega
   ·exact absurd h0 hz
   ·unfold NS cw at hj;simp only[AV.agg.injEq,List.cons.injEq,AV.int.injEq,AV.str.injEq,true_and,and_true]at hj;obtain⟨rfl,rfl,rfl,rfl,rfl,rfl,rfl,rfl⟩:=hj;refine⟨_,_,_,_,_,_,_,_,_,_,hr,?_⟩;rw[hm,h2,hb];rfl
   ·refine⟨_,_,_,_,_,_,_,_,_,_,hr,?_⟩;rw[hm,h2,hb];rfl
set_option maxRecDepth 100000
def PH(E:Env)(t:Nat):Option (Bool×List (Nat×Nat×Bool)):=match E.ty t with
 |some i=>match i.cS with
  |.struct fs=>some (i.eQ,fs.toList.map fun f=>(f.type,f.offset,f.name== "_"))
  |_=>none
 |none=>none
def zl(E:Env)(t:Nat):Nat:=match E.ty t with
 |some i=>match i.cS with
  |.bool=>1
  |.int _=>2
  |.string=>3
  |_=>0
 |none=>0
def Iv(E:Env)(t:Nat):Option (Nat×Nat×Nat):=match E.ty t with
 |some i=>match i.cS with
  |.array n e=>match E.ty e with
   |some ei=>some (n,e,ei.size)
   |none=>none
  |_=>none
 |none=>none
theorem auZ{E:Env}{n t:Nat}{b:Bool}(h:zl E t=1):uw E (n+1) t (.bool b) (.bool b)=some true:=by
 unfold zl at h;unfold uw;cases hi:E.ty t with
 |none=>rw[hi]at h;cases h
 |some i=>
  rw[hi]at h;simp only at h⊢;cases hu:i.cS<;>rw[hu]at h<;>simp at h
  simp
theorem amy{E:Env}{n t:Nat}{k:IntKind}{z:Int}(h:zl E t=2):uw E (n+1) t (.int k z) (.int k z)=some true:=by
 unfold zl at h;unfold uw;cases hi:E.ty t with
 |none=>rw[hi]at h;cases h
 |some i=>
  rw[hi]at h;simp only at h⊢;cases hu:i.cS<;>rw[hu]at h<;>simp at h
  simp
theorem aas{E:Env}{n t:Nat}{s:List UInt8}(h:zl E t=3):uw E (n+1) t (.str s) (.str s)=some true:=by
 unfold zl at h;unfold uw;cases hi:E.ty t with
 |none=>rw[hi]at h;cases h
 |some i=>
  rw[hi]at h;simp only at h⊢;cases hu:i.cS<;>rw[hu]at h<;>simp at h
  simp
theorem GR{E:Env}{eq:Nat->AV->AV->Option Bool}{xs:List AV}:∀{fs:List Field},(∀f∈fs,f.name≠ "_"/\∃a,ik E f.type xs f.offset=some a/\eq f.type a a=some true)->eqFields E eq xs xs fs=some true
 |[],_=>rfl
 |f::fs,h=>by
  obtain⟨h0,a,h1,h2⟩:=h f (by simp);unfold eqFields;rw[if_neg h0,h1];simp only[h2];exact GR fun g hg=>h g (by simp[hg])
theorem amz{E:Env}{n t:Nat}{xs:List AV}{l:List (Nat×Nat×Bool)}(h:PH E t=some (true,l))(tf:∀p∈l,p.2.2=false/\∃a,ik E p.1 xs p.2.1=some a/\uw E n p.1 a a=some true):uw E (n+1) t (.agg xs) (.agg xs)=some true:=by
 unfold PH at h;unfold uw;cases hi:E.ty t with
 |none=>rw[hi]at h;cases h
 |some i=>
  rw[hi]at h;simp only at h⊢;cases hu:i.cS<;>rw[hu]at h<;>simp at h
  obtain⟨h1,rfl⟩:=h;simp only[h1,Bool.not_true,Bool.false_eq_true,if_false];refine GR fun f hf=>?_
  obtain⟨g1,g2⟩:=tf (f.type,f.offset,f.name== "_") (aNp.2 ⟨f,by simpa using hf,rfl⟩);exact⟨by simpa using g1,g2⟩
theorem aek{E:Env}{eq:Nat->AV->AV->Option Bool}{elem size:Nat}{xs:List AV}:∀{m i:Nat},(∀j,j<i+m->∃a,ik E elem xs (j*size)=some a/\eq elem a a=some true)->qN E eq elem size xs xs m i=some true
 |0,_,_=>rfl
 |m+1,i,h=>by
  obtain⟨a,h1,h2⟩:=h i (by omega);unfold qN;rw[h1];simp only[h2];exact aek fun j hj=>h j (by omega)
theorem amx{E:Env}{n t len e sz:Nat}{xs:List AV}(h:Iv E t=some (len,e,sz))(tf:∀j,j<len->∃a,ik E e xs (j*sz)=some a/\uw E n e a a=some true):uw E (n+1) t (.agg xs) (.agg xs)=some true:=by
 unfold Iv at h;unfold uw;cases hi:E.ty t with
 |none=>rw[hi]at h;cases h
 |some i=>
  rw[hi]at h;simp only at h⊢;cases hu:i.cS<;>rw[hu]at h<;>simp at h
  rename_i n' e';cases he:E.ty e' with
  |none=>rw[he]at h;simp at h
  |some ei=>
   rw[he]at h;simp at h;obtain⟨rfl,rfl,rfl⟩:=h;simp only[he];exact aek fun j hj=>tf j (by omega)
section
variable{E:Env} [C:Ctx E]
theorem bk3:zl E 3=2:=by obtain⟨o,rfl⟩:=fT C;kernel_rfl
theorem bk4:zl E 4=1:=by obtain⟨o,rfl⟩:=fT C;kernel_rfl
theorem ZP:zl E 26=3:=by obtain⟨o,rfl⟩:=fT C;kernel_rfl
theorem atY:Iv E 37=some (3,26,1):=by obtain⟨o,rfl⟩:=fT C;kernel_rfl
theorem ay4:PH E 39=some (true,[(3,0,false),(3,1,false),(4,2,false),(37,3,false),(37,6,false),(26,9,false)]):=by obtain⟨o,rfl⟩:=fT C;kernel_rfl
theorem pt3{cs:List AV}{o:Nat}:ik E 3 cs o=iR false 1 cs o:=Fa (nM C (by kernel_rfl))
theorem pt4{cs:List AV}{o:Nat}:ik E 4 cs o=iR false 1 cs o:=Fa (nM C (by kernel_rfl))
theorem arl{cs:List AV}{o:Nat}:ik E 26 cs o=iR false 1 cs o:=Fa (nM C (by kernel_rfl))
theorem arn{cs:List AV}{o:Nat}:ik E 37 cs o=iR true 3 cs o:=Fa (nM C (by kernel_rfl))
theorem amv{n:Nat}{a b c:List UInt8}:uw E (n+2) 37 (.agg [.str a,.str b,.str c]) (.agg [.str a,.str b,.str c])=some true:=
 amx (n:=n+1) atY (fun j hj=>by
  rw[arl]
  match j,hj with
  |0,_=>exact⟨_,rfl,aas ZP⟩
  |1,_=>exact⟨_,rfl,aas ZP⟩
  |2,_=>exact⟨_,rfl,aas ZP⟩)
theorem eqJ{c:Bool}{k d:Int}{cl:Bool}{a0 a1 a2 b0 b1 b2 h:List UInt8}:dy E c .eql 39 (cw k d cl a0 a1 a2 b0 b1 b2 h) (cw k d cl a0 a1 a2 b0 b1 b2 h)=some (.bool true):=by
 have h1:uw E 20 39 (cw k d cl a0 a1 a2 b0 b1 b2 h) (cw k d cl a0 a1 a2 b0 b1 b2 h)=some true:=by
  unfold cw;refine amz (n:=19) ay4 ?_;simp only[aNn,aUn,or_false,forall_eq_or_imp,forall_eq];refine⟨⟨trivial,?_⟩,⟨trivial,?_⟩,⟨trivial,?_⟩,⟨trivial,?_⟩,⟨trivial,?_⟩,trivial,?_⟩
  ·rw[pt3];exact⟨_,rfl,amy bk3⟩
  ·rw[pt3];exact⟨_,rfl,amy bk3⟩
  ·rw[pt4];exact⟨_,rfl,auZ bk4⟩
  ·rw[arn];exact⟨_,rfl,amv⟩
  ·rw[arn];exact⟨_,rfl,amv⟩
  ·rw[arl];exact⟨_,rfl,aas ZP⟩
 have h2:(E.ty 39).map (·.eQ)=some true:=by obtain⟨o,rfl⟩:=fT C;kernel_rfl
 have h3:dy E c .eql 39 (cw k d cl a0 a1 a2 b0 b1 b2 h) (cw k d cl a0 a1 a2 b0 b1 b2 h)=((E.ty 39).map (·.eQ)).bind fun ok=>if ok then(uw E 20 39 (cw k d cl a0 a1 a2 b0 b1 b2 h) (cw k d cl a0 a1 a2 b0 b1 b2 h)).map .bool else none:=rfl
 rw[h3,h2,h1];rfl
end
set_option maxRecDepth 100000
def Uo(E:Env)(d:Int)(o ro:AV):Prop:=
 (∃e,e≠0/\aO E 8 [.agg [.int .i64 d,o,ro]]=some (.int .i64 e)/\aO E 9 [.agg [.int .i64 d,o,ro]]=some (.tuple [cw 0 0 false [] [] [] [] [] [] [],.int .i64 e]))
 ∨(d≠6/\aO E 8 [.agg [.int .i64 d,o,ro]]=some (.int .i64 0)/\aO E 9 [.agg [.int .i64 d,o,ro]]=some (.tuple [cw 0 0 false [] [] [] [] [] [] [],.int .i64 13]))
 ∨(d=6/\aO E 8 [.agg [.int .i64 d,o,ro]]=some (.int .i64 0)/\ak3 E o ro)
noncomputable def acE:Code:=qH 9 c3
theorem L9{E:Env} [C:lS E]{H:Hp}{b:Nat}{d:Int}{v rv o ro:AV}{bs:List Nat}(hb:H[b]?=some (.cells .live [.int .i64 d,v,rv]))(gf:∀l,oG (aN v&&aN rv) (H++l) [.agg [.int .i64 d,v,rv]]=some ([.agg [.int .i64 d,o,ro]],bs))(mv:b7 v=true/\v.cells=[v])(mrv:b7 rv=true/\rv.cells=[rv])(hO:Uo E d o ro){ts:List AV}(hl:ts.length=133)(g13:gt ts 13=.b6 b 0){G:AV->Prop}(hG:G (.bool true)):
  V E acE ts H (mS E [.tmp 6] G):=by
 refine VS ?_;have V9:=(List.getElem?_eq_some_iff.1 hb).1;have a1:=fun m o=>jL (n:=m) (o:=o) hb (by decide)
 have a2:=fun m l o=>rN (T:=H) (n:=m) (l:=l) (o:=o) V9
 have c1:=fun o=>jM (o:=o) hb (by decide)
 have c2:=fun l o=>kZ (T:=H) (l:=l) (o:=o) V9
 have aaZ:=gf [];rw[List.append_nil]at aaZ;have rf1:∀e,bJ (.int .i64 e)=true:=fun e=>rfl
 have rf2:∀(k d:Int) (cl:Bool) (a0 a1 a2 b0 b1 b2 h:List UInt8) (e:Int),bJ (.tuple [.agg [.int .i64 k,.int .i64 d,.bool cl,.str a0,.str a1,.str a2,.str b0,.str b1,.str b2,.str h],.int .i64 e])=true:=fun _ _ _ _ _ _ _ _ _ _ _=>rfl
 have rf3:∀(k d:Int) (cl:Bool) (a0 a1 a2 b0 b1 b2 h:List UInt8),bJ (.agg [.int .i64 k,.int .i64 d,.bool cl,.str a0,.str a1,.str a2,.str b0,.str b1,.str b2,.str h])=true:=fun _ _ _ _ _ _ _ _ _ _=>rfl
 unfold acE;rcases hO with⟨e,he,h1,h2⟩|⟨hd,h1,h2⟩|⟨rfl,h1,k,dg,cl,a0,a1',a2',b0,b1,b2,h,h2,h3⟩
 ·have e0:(e==0)=false:=by simpa using he
  have e1:(e !=0)=true:=by simpa using he
  have ee:(e==e)=true:=by simp
  have hj:=fun c=>eqJ (E:=E) (c:=c) (k:=0) (d:=0) (cl:=false) (a0:=[]) (a1:=[]) (a2:=[]) (b0:=[]) (b1:=[]) (b2:=[]) (h:=[])
  unfold cw at*
  dsimp only[qH,sb,c3,Tryz.f3]
  simp only[↓aQ,aR,↓aT,aK,dt,↓reduceIte,aa,ah,ae,hl,g13,a1,aaZ,rf1,rf2,h1,h2,e0,e1,hj];exact hG
 ·have e0:(d !=6)=true:=by simpa using hd
  have hj:=fun c=>eqJ (E:=E) (c:=c) (k:=0) (d:=0) (cl:=false) (a0:=[]) (a1:=[]) (a2:=[]) (b0:=[]) (b1:=[]) (b2:=[]) (h:=[])
  unfold cw at*
  dsimp only[qH,sb,c3,Tryz.f3]
  simp only[↓aQ,aR,↓aT,aK,dt,↓reduceIte,aa,ah,ae,aE,hl,g13,a1,c1,aaZ,rf1,rf2,h1,h2,e0,hj];exact hG
 ·have hj:=fun c=>eqJ (E:=E) (c:=c) (k:=k) (d:=dg) (cl:=cl) (a0:=a0) (a1:=a1') (a2:=a2') (b0:=b0) (b1:=b1) (b2:=b2) (h:=h)
  unfold cw at*
  dsimp only[qH,sb,c3,Tryz.f3]
  simp only[↓aQ,aR,↓aT,aK,dt,↓reduceIte,aa,ah,ae,aE,hl,g13,a1,a2,c1,aaZ,gf,rf1,rf2,rf3,h1,h2,h3,hj];exact hG
set_option maxRecDepth 100000
theorem QS{H:Hp}{m n:Nat}:∀(l:List AV),(∀x∈l,∃c Y,x=.aI c 0 n 1 n/\H[c]?=some (.cells .live Y)/\Y.length=n/\∀u∈Y,Flat u)->∃r,dh (Dv.fz H (m+2)) l=some r/\r.length=l.length/\∀j,j<l.length->∃c Y,l.getD j aX=.aI c 0 n 1 n/\H[c]?=some (.cells .live Y)/\(r.map (·.1)).getD j aX=.aJ Y n
 |[],_=>⟨[],rfl,rfl,by simp⟩
 |x::l,hx=>by
  obtain⟨r,wJ,yp,Bb⟩:=QS l fun y hy=>hx y (by simp[hy])
  obtain⟨c,cs,e,hc,iE,hf⟩:=hx x (by simp);have h6:=kD (n:=m+1) (off:=0) (len:=n) (esz:=1) (k:=n) hc (by decide) (by omega) (by rw[List.drop_zero,Nat.mul_one,<-iE,aR7];exact fj hf);rw[gn,dH]at h6;subst e;refine⟨(.aJ cs n,[c])::r,?_,by simp[yp],?_⟩
  ·unfold dh;rw[h6,wJ]
  ·intro j hj;cases j with
   |zero=>exact⟨c,cs,rfl,hc,rfl⟩
   |succ j=>
    obtain⟨c',tL,a1,a2,a3⟩:=Bb j (by simpa using hj);exact⟨c',tL,by simpa using a1,a2,by simpa using a3⟩
theorem FB{q:List Rat}{x:AV}(h:x∈mZ q):∃s,x=.str s:=by unfold mZ at h;obtain⟨a,-,rfl⟩:=aNp.1 h;exact⟨_,rfl⟩
theorem qf.chg{H H5:Hp}{lo n c0:Nat}{v:AV}{G:List (List Rat)}{X Y:List AV}(h:qf H lo v G)(hw:iX G n)(hn:0<n)(h0:H[c0]?=some (.cells .live Y))(hY:∀x∈Y,∃s,x=.str s)(hXl:X.length=n)(hX:∀x∈X,Flat x)(hc:H5[c0]?=some (.cells .live X))(hk:∀k,k≠c0->k<H.length->H5[k]?=H[k]?):
  (G=[]/\v=.aH)∨∃b hs xs bs,v=.aI b 0 G.length 1 G.length/\H[b]?=some (.cells .live hs)/\hs.length=G.length/\b≠c0/\Dv.fz H5 39 v=some (.aJ xs G.length,bs)/\xs.length=G.length/\∀j,j<G.length->∃c Z,hs.getD j aX=.aI c 0 n 1 n/\H5[c]?=some (.cells .live Z)/\xs.getD j aX=.aJ Z n:=by
 rcases h with h|⟨hG,b,hs,rfl,h1,h2,h3,h4,h5⟩
 ·exact .inl h
 ·have hb:b≠c0:=by intro e;subst e;rw[h3]at h0;simp only[aLv.injEq,cG.cells.injEq,true_and]at h0;subst h0;obtain⟨c,f1,-⟩:=h5 0 hG;rw[aSW,aMh (by omega),aNt]at f1;obtain⟨s,vh⟩:=hY _ (List.getElem_mem (show 0<hs.length by omega));rw[vh]at f1;cases f1
  obtain⟨r,wJ,yp,Bb⟩:=QS (H:=H5) (m:=36) (n:=n) hs (by
   intro x hx;obtain⟨j,hj,e⟩:=List.getElem_of_mem hx;obtain⟨c,f1,f2,f3,f4,f5⟩:=h5 j (by omega);rw[aSW,aMh hj,aNt,e,hw j (by omega)]at f1;by_cases hcc:c=c0
   ·subst hcc;exact⟨c,X,f1,hc,hXl,hX⟩
   ·refine⟨c,_,f1,by rw[hk c hcc f4];exact f5,?_,?_⟩
    ·unfold mZ;rw[aOT,hw j (by omega)]
    ·intro u hu;obtain⟨s,rfl⟩:=FB hu;exact fun _ _=>rfl)
  have h6:=kD (n:=38) (off:=0) (len:=G.length) (esz:=1) (k:=G.length) (H:=H5) (b:=b) (st:=.live) (cs:=hs) (by rw[hk b hb h2];exact h3) (by decide) (by omega) (by rw[List.drop_zero,Nat.mul_one,<-h4,aR7];exact wJ);exact .inr ⟨b,hs,_,_,rfl,h3,h4,hb,h6,by rw[aOT,yp,h4],fun j hj=>Bb j (by omega)⟩
theorem zH{H:Hp}{k:IntKind}{z:Int}{v rv o ro:AV}{bs CF:List Nat}(h1:Dv.fz H 39 v=some (o,bs))(h2:Dv.fz H 39 rv=some (ro,CF))(hn:v=.aH∨aN v=false)(hn2:rv=.aH∨aN rv=false):∃RH,∀l,oG (aN v&&aN rv) (H++l) [.agg [.int k z,v,rv]]=some ([.agg [.int k z,o,ro]],RH):=by
 have key:(aN v&&aN rv)=false->∃RH,∀l,oG (aN v&&aN rv) (H++l) [.agg [.int k z,v,rv]]=some ([.agg [.int k z,o,ro]],RH):=by
  intro hf;refine⟨bs++CF,fun l=>?_⟩;have g3:=zI (k:=k) (z:=z) (lU h1 (tQ h1) l) (lU h2 (tQ h2) l) (by omega);rw[hf,kV];unfold bW;rw[if_neg (by simp only[bE,aN,Bool.true_and,Bool.and_true,hf];simp)];simp only[dh,g3]
  simp
 rcases hn with rfl|hn
 ·rcases hn2 with rfl|hn2
  ·cases h1;cases h2;exact⟨[],fun l=>rfl⟩
  ·exact key (by rw[hn2,Bool.and_false])
 ·exact key (by rw[hn,Bool.false_and])
theorem qf.np{H:Hp}{lo:Nat}{v:AV}{G:List (List Rat)}(h:qf H lo v G):v=.aH∨aN v=false:=by
 rcases h with⟨-,h⟩|⟨-,b,hs,rfl,-⟩
 ·exact .inl h
 ·exact .inr rfl
theorem qf.aeu{H:Hp}{lo:Nat}{v:AV}{G:List (List Rat)}(h:qf H lo v G):∃bs,Uk H v G bs:=by
 obtain⟨o,bs,h1,h2,h3,h4⟩:=h.fz 37;rcases h with⟨rfl,rfl⟩|⟨hG,b,hs,rfl,-⟩
 ·exact⟨[],.inl ⟨rfl,rfl,rfl⟩⟩
 ·exact⟨bs,.inr ⟨rfl,o,h1,h2,fun x hx=>(h3 x hx).2⟩⟩
section
variable{E:Env} [C:lS E]{n:Nat}{o ro:AV}{G rays:List (List Rat)}
theorem E4(ho:mz o G)(hr:mz ro rays)(h:rK n G rays):Uo E (n:Int) o ro:=by
 have mo:=ho.lY;have mr:=hr.lY;obtain⟨e,he,-⟩:=BP (E:=E) ho hr h;by_cases h0:e=0
 ·subst h0;by_cases h6:n=6
  ·subst h6;refine .inr (.inr ⟨rfl,he,?_⟩);obtain⟨L,jZ,hs,⟨P,hE⟩,-⟩:=id h.ex;obtain⟨-,-,-,hG2,F2,-,-⟩:=h.Rk;exact FP (E:=E) ho hr h.wid (hE.congr (fun x=>hE.Yb (jn _))) F2 (by omega) hG2 he
  ·exact .inr (.inl ⟨by omega,he,II (E:=E) mo mr he (by omega)⟩)
 ·exact .inl ⟨e,h0,he,zu (E:=E) mo mr he h0⟩
end
set_option maxRecDepth 100000
def vD:List UInt8:=[50,47,52]
theorem ME:dY 65536 vD=3:=by kernel_rfl
theorem Hc{L:Int}:∀{a b:List (List UInt8)},fJ L a=0->fJ L (a++b)=fJ L b
 |[],b,_=>rfl
 |s::a,b,h=>by
  rw[fJ]at h;rw[List.cons_append,fJ];by_cases h0:dY L s≠0
  ·rw[if_pos h0]at h;exact absurd h h0
  ·rw[if_neg h0]at h⊢;exact Hc h
theorem arU:fJ 65536 [vD]=3:=by
 rw[fJ,if_pos (by rw[ME];decide),ME]
theorem NI{n:Nat}(h0:0<n)(h8:n<=8):rK n [] []:=by refine⟨⟨[],none,⟨h0,h8,fun i hi=>absurd hi (by simp),by simp,fun i hi=>absurd hi (by simp),fun r h=>by cases h⟩,⟨fun _=>0,?_⟩,.inl rfl⟩,fun i hi=>absurd hi (by simp)⟩;refine⟨fun i hi=>absurd hi (by simp),fun i j hi hj=>absurd hj (by simp),fun i j hi=>absurd hi (by simp),fun i c hi=>absurd hi (by simp),fun i hi=>absurd hi (by simp),fun x hx _ c=>?_⟩;obtain⟨q,hq⟩:=uW hx;rw[hq c];rfl
section
variable{E:Env} [C:lS E]{n:Nat}{o ro:AV}{G rays:List (List Rat)}
theorem Di{d:Int}{e:Int}(mo:aN o=true/\b7 o=true/\o.cells=[o])(mr:aN ro=true/\b7 ro=true/\ro.cells=[ro])(he:e≠0)(h:aO E 22 [.agg [.int .i64 d,o,ro]]=some (.tuple [.agg [.int .i64 0,.aH,.aH],.int .i64 e])):Uo E d o ro:=by have h1:=RN (E:=E) mo mr h;exact .inl ⟨e,he,h1,zu (E:=E) mo mr h1 he⟩
theorem acV(q:List Rat):dS q=.aJ ((q.map bC).map AV.str) (q.map bC).length:=by unfold dS;rw[List.map_map,aOT];rfl
theorem Yc{q:List Rat}{k:Nat}(h:BL k q)(hk:k<=98000):∀s∈q.map bC,s.length<=4611686018427387904:=by
 intro s hs;rw[aNp]at hs;obtain⟨x,hx,rfl⟩:=hs
 have:=rm (h x hx)
 omega
theorem GJ{v:AV}{k most:Nat}(h:mz v G)(hG:0<G.length)(hw:iX G n)(hn:n<=8)(hb:mR k G)(hk:k<=98000)(hm:G.length<=most)(Wo:most<=256):aO E 20 [.int .i64 ((n:Int)+1),v,.int .i64 (most:Int)]=some (.tuple [.aH,.int .i64 13]):=by
 obtain⟨-,rfl⟩:=h.resolve_left (fun h=>by rw[h.1]at hG;exact absurd hG (by simp))
 match G,hG,hw,hb,hm with
 |q::G',_,hw,hb,hm=>
  have hq:q.length=n:=hw 0 (by simp);have bq:BL k q:=hb 0 (by simp);rw[List.map_cons,acV]
  have:=GI (E:=E) (n:=n+1) (m:=(q::G').length) (most:=most) (xs:=G'.map dS) (ss:=q.map bC) (e:=13) hm (by simp) (by simp) Wo (Yc bq hk) (by rw[aOT];omega) (.inl ⟨by rw[aOT];omega,rfl⟩)
  rw[show((n+1:Nat):Int)=(n:Int)+1 by omega]at this;exact this
theorem ab8(ho:mz o G)(hr:mz ro rays)(h:rK n G rays):Uo E ((n:Int)+1) o ro:=by
 have mo:=ho.lY;have mr:=hr.lY;obtain⟨h0,h8⟩:=h.pos;obtain⟨oo,hoo,Ua,hG2,F2,Oo,-⟩:=h.Rk;by_cases hn:n=8
 ·exact Di mo mr (by decide) (FW (E:=E) (by omega) mo mr)
 ·by_cases hG:0<G.length
  ·have hx:=GJ (E:=E) (most:=8) ho hG h.wid h8 F2.yd (by omega) (by omega) (by omega);rw[show((8:Nat):Int)=8 from rfl]at hx;exact Di mo mr (e:=13) (by decide) (zt (E:=E) (by omega) mo mr hx (by decide))
  ·obtain rfl:G=[]:=aVC (by omega);obtain⟨r1,wJ,qP⟩:=rR (E:=E) (n:=n+1) (k:=1) (most:=8) ho (fun i hi=>absurd hi (by simp)) (fun i hi=>absurd hi (by simp)) (by omega) (by omega) (by simp) (by omega);rw[show((n+1:Nat):Int)=(n:Int)+1 by omega,show((8:Nat):Int)=8 from rfl]at wJ;have m1:aN r1=true/\b7 r1=true/\r1.cells=[r1]:=by rcases qP with⟨-,rfl⟩|⟨-,vs,rfl,-⟩<;>exact⟨rfl,rfl,rfl⟩
   by_cases hR:0<rays.length
   ·have Wb:mR 18665 rays:=by rw[hoo];exact Dn Oo
    have Si:rays.length<=1:=by rw[hoo];cases oo<;>simp
    have hx:=GJ (E:=E) (most:=256) hr hR Ua h8 Wb (by omega) (by omega) (by omega);rw[show((256:Nat):Int)=256 from rfl]at hx;exact Di mo mr (e:=13) (by decide) (IG (E:=E) (by omega) mo mr wJ m1 hx (by decide))
   ·obtain rfl:rays=[]:=aVC (by omega)
    have:=E4 (E:=E) ho hr (NI (n:=n+1) (by omega) (by omega))
    rw[show((n+1:Nat):Int)=(n:Int)+1 by omega]at this;exact this
theorem ab7{q:List Rat}{k m:Nat}{xs:List AV}(mr:aN ro=true/\b7 ro=true/\ro.cells=[ro])(h0:0<n)(h8:n<=8)(hq:q.length=n)(bq:BL k q)(hk:k<=98000)(hx:xs.length+1=m)(hm:m<=8):Uo E (n:Int) (.aJ (.aJ (((q.take (n-1)).map bC++[vD]).map AV.str) n::xs) m) ro:=by
 have mo:aN (AV.aJ (.aJ (((q.take (n-1)).map bC++[vD]).map AV.str) n::xs) m)=true/\b7 (AV.aJ (.aJ (((q.take (n-1)).map bC++[vD]).map AV.str) n::xs) m)=true/\(AV.aJ (.aJ (((q.take (n-1)).map bC++[vD]).map AV.str) n::xs) m).cells=[(AV.aJ (.aJ (((q.take (n-1)).map bC++[vD]).map AV.str) n::xs) m)]:=⟨rfl,rfl,rfl⟩;have lJ:((q.take (n-1)).map bC++[vD]).length=n:=by rw[aMk,aOT,aMp,aWX];omega
 have hc:fJ 65536 ((q.take (n-1)).map bC++[vD])=3:=by rw[Hc (Jc (k:=k) (fun x hx=>bq x (aQj hx)) hk),arU]
 have hrd:=GI (E:=E) (n:=n) (m:=m) (most:=8) (xs:=xs) (ss:=(q.take (n-1)).map bC++[vD]) (e:=3) hm (by omega) hx (by omega) (by
  intro s hs;rcases List.mem_append.1 hs with hs|hs
  ·exact Yc (k:=k) (fun x hx=>bq x (aQj hx)) hk s hs
  ·rw[aNq]at hs;subst hs;decide) (by omega) (.inr ⟨lJ,hc,by decide⟩)
 rw[lJ,show((8:Nat):Int)=8 from rfl]at hrd;exact Di mo mr (e:=3) (by decide) (zt (E:=E) (by omega) mo mr hrd (by decide))
end
set_option maxRecDepth 100000
noncomputable def acC:Code:=qH 5 c3
theorem acD:acC=.seq (sb (qH 5 c3)) (.seq (sb (qH 6 c3)) (.seq (sb (qH 7 c3)) (.seq (sb (qH 8 c3)) acE))):=by kernel_rfl
theorem Tp{q:List Rat}{n:Nat}(hq:q.length=n)(h0:0<n):List.take (n-1) (mZ q)++AV.str [50,47,52]::List.drop (n-1+1) (mZ q)=(((q.take (n-1)).map bC++[vD]).map AV.str):=by have hd:List.drop (n-1+1) (mZ q)=[]:=List.drop_eq_nil_of_le (by unfold mZ;rw[aOT];omega);rw[hd,List.map_append,List.map_map];unfold mZ;rw[<-List.map_take];rfl
theorem To{H:Hp}{lo1 lo2 n b c0:Nat}{z:Int}{rv:AV}{K rays:List (List Rat)}{hs:List AV}{X:List AV}{l0:Hp}(r9:qf H lo1 (.aI b 0 K.length 1 K.length) K)(td:qf H lo2 rv rays)(hw:iX K n)(wN:iX rays n)(hn:0<n)(hK:0<K.length)(hb:H[b]?=some (.cells .live hs))(h1:hs[0]?=some (.aI c0 0 n 1 n))(hc:c0<H.length)(h2:H[c0]?=some (.cells .live (mZ (row K 0))))(hXl:X.length=n)(hX:∀x∈X,Flat x):
  ∃xs ro bs,xs.length+1=K.length/\(aN ro=true/\b7 ro=true/\ro.cells=[ro])/\∀l,oG (aN (.aI b 0 K.length 1 K.length)&&aN rv) ((aYx H c0 (.cells .live X)++l0)++l) [.agg [.int .i64 z,.aI b 0 K.length 1 K.length,rv]]=some ([.agg [.int .i64 z,.aJ (.aJ X n::xs) K.length,ro]],bs):=by
 have htl:(mZ (row K 0)).length=n:=by unfold mZ;rw[aOT,hw 0 hK]
 have g1:(aYx H c0 (.cells .live X)++l0)[c0]?=some (.cells .live X):=by
  rw[aOB (by rw[aPp];exact hc),List.getElem?_set_self hc]
 have g2:∀k,k≠c0->k<H.length->(aYx H c0 (.cells .live X)++l0)[k]?=H[k]?:=fun k hk hl=>by
  rw[aOB (by rw[aPp];exact hl),List.getElem?_set_ne (fun e=>hk e.symm)]
 have q1:=r9.chg (H5:=aYx H c0 (.cells .live X)++l0) hw hn h2 (fun x hx=>FB hx) hXl hX g1 g2;have q2:=td.chg (H5:=aYx H c0 (.cells .live X)++l0) wN hn h2 (fun x hx=>FB hx) hXl hX g1 g2;rcases q1 with⟨e,-⟩|⟨b',vh,xs,bs,e,e1,e2,e3,e4,e5,e6⟩
 ·rw[e]at hK;exact absurd hK (by simp)
 ·simp only[AV.aI.injEq,and_true]at e;subst e;rw[hb]at e1;simp only[aLv.injEq,cG.cells.injEq,true_and]at e1;subst e1;obtain⟨c,Z,f1,f2,f3⟩:=e6 0 hK;rw[aSW,h1,aNt]at f1;simp only[AV.aI.injEq,and_true]at f1;subst f1;rw[g1]at f2;simp only[aLv.injEq,cG.cells.injEq,true_and]at f2;subst f2;obtain⟨x,xs',rfl⟩:∃x xs',xs=x::xs':=by
   cases xs with
   |nil=>rw[<-e5]at hK;exact absurd hK (by simp)
   |cons x xs'=>exact⟨x,xs',rfl⟩
  rw[List.getD_cons_zero]at f3;subst f3;have fin:∀ro CF,Dv.fz (aYx H c0 (.cells .live X)++l0) 39 rv=some (ro,CF)->(aN ro=true/\b7 ro=true/\ro.cells=[ro])->(rv=.aH∨aN rv=false)->∃xs ro bs,xs.length+1=K.length/\(aN ro=true/\b7 ro=true/\ro.cells=[ro])/\∀l,oG (aN (.aI b 0 K.length 1 K.length)&&aN rv) ((aYx H c0 (.cells .live X)++l0)++l) [.agg [.int .i64 z,.aI b 0 K.length 1 K.length,rv]]=some ([.agg [.int .i64 z,.aJ (.aJ X n::xs) K.length,ro]],bs):=by
   intro ro CF hf hm hp;obtain⟨RH,h3⟩:=zH (k:=.i64) (z:=z) e4 hf (.inr rfl) hp;exact⟨xs',ro,RH,by rw[<-e5];rfl,hm,h3⟩
  rcases q2 with⟨-,rfl⟩|⟨b2,I7,ys,CF,rfl,-,-,-,k4,-⟩
  ·exact fin .aH [] rfl ⟨rfl,rfl,rfl⟩ (.inl rfl)
  ·exact fin _ _ k4 ⟨rfl,rfl,rfl⟩ (.inr rfl)
theorem Pn{E:Env} [C:lS E]{H:Hp}{lo1 lo2:Nat}{v rv:AV}{L:List (List Rat)}{jZ:Option (List Rat)}{n:Nat}{s:Int}(hL:qf H lo1 v L)(hR:qf H lo2 rv jZ.toList)(hs:Dx n L jZ){ts:List AV}(hl:ts.length=133)(g2:gt ts 2=.int .u8 s)(g7:gt ts 7=.int .i64 (n:Int))(g8:gt ts 8=v)(g9:gt ts 9=rv){G:AV->Prop}(hG:G (.bool true)):
  V E acC ts H (mS E [.tmp 6] G):=by
 refine VS ?_;obtain⟨ZR,hF1⟩:=hL.aeu;obtain⟨CF,hF2⟩:=hR.aeu;obtain⟨r,H',hg,-,hle,v',sn,K,rays,rfl,r9,td,CL,hO⟩:=pt (E:=E) hF1 hF2 hs.sz;have Oh:rK n K rays:=⟨⟨L,jZ,hs,hO⟩,CL⟩;obtain⟨h0,h8⟩:=Oh.pos;obtain⟨oo,hoo,Ua,hK2,F2,Oo,-⟩:=Oh.Rk;have m1:=r9.one;have m2:=td.one;obtain⟨o,RH,f1,x1,y1,-⟩:=r9.fz 36;obtain⟨ro,bs4,f2,x2,y2,-⟩:=td.fz 36;have QJ:jP v'=some (K.length:Int):=by
  rcases r9 with⟨rfl,rfl⟩|⟨-,b,hs,rfl,-⟩<;>rfl
 have w1:aV .i64 ((n:Int)+1)=(n:Int)+1:=by rw[wrap_i64 (by omega) (by omega)]
 have w2:aV .i64 ((n:Int)-1)=((n-1:Nat):Int):=by rw[wrap_i64 (by omega) (by omega)];omega
 have acG:∀c t,dy E c .rem t (.int .u8 s) (.int .u8 3)=some (.int .u8 (s.tmod 3)):=fun c t=>DH (by decide)
 have jr:=fun(d:Int) (HH:Hp) b o ro bs hb gf hO (ts:List AV) hl g13=>L9 (E:=E) (H:=HH) (b:=b) (d:=d) (v:=v') (rv:=sn) (o:=o) (ro:=ro) (bs:=bs) hb gf ⟨m1.2,m1.1⟩ ⟨m2.2,m2.1⟩ hO (ts:=ts) hl g13 (G:=G) hG
 rw[acD];generalize acE=D at jr⊢
 dsimp only[qH,sb,c3,Tryz.f3]
 by_cases h1:s.tmod 3=1
 ·have e1:(s.tmod 3==1)=true:=by rw[h1];rfl
  have e2:(s.tmod 3==2)=false:=by rw[h1];rfl
  by_cases hK:0<K.length
  ·have dk:decide ((K.length:Int)>0)=true:=cF (by omega);obtain⟨b,vh,rfl,sG,tz,zK,c0,G0,JZ,hc3,hc4⟩:∃b hs,v'=.aI b 0 K.length 1 K.length/\b<H'.length/\H'[b]?=some (.cells .live hs)/\hs.length=K.length/\∃c0,hs[0]?=some (.aI c0 0 n 1 n)/\c0≠b/\c0<H'.length/\H'[c0]?=some (.cells .live (mZ (row K 0))):=by
    rcases r9 with⟨e,-⟩|⟨-,b,hs,e,-,h2,h3,h4,h5⟩
    ·rw[e]at hK;exact absurd hK (by simp)
    ·obtain⟨c,f1,f2,-,f4,f5⟩:=h5 0 hK;refine⟨b,hs,e,h2,h3,h4,c,?_,f2,f4,f5⟩;rw[aSW,aMh (by omega),aNt,CL 0 hK]at f1;rw[aMh (by omega),f1]
   have Si:(row K 0).length=n:=CL 0 hK;have htl:(mZ (row K 0)).length=n:=by unfold mZ;rw[aOT,Si]
   have oF:=fun o=>jM (o:=o) tz (by decide)
   have ZU:=fun l o=>kZ (T:=H') (l:=l) (o:=o) sG
   have st1:=fun xs o=>kG (n:=1) (xs:=xs) (o:=o) hc4
   have st2:=fun xs l o=>vt (n:=1) (xs:=xs) (T:=H') (l:=l) (o:=o) hc3
   have pb:=fun x l=>vj (T:=H') (l:=l) (x:=x) hc3
   have ci1:((0:Int)<(K.length:Int))=True:=eq_true (by omega);have ci2:(((n-1:Nat):Int)<(n:Int))=True:=eq_true (by omega);have ci3:decide (n-1+1<=(mZ (row K 0)).length)=true:=cF (by omega);simp only[↓aQ,aR,↓aT,aK,dt,↓reduceIte,aa,ah,ae,an,aq,aE,hl,g2,g7,g8,g9,hg,m1,m2,QJ,acG,e1,e2,w2,oF,ZU,st1,st2,pb,ci1,ci2,ci3,G0,List.append_assoc,aMk];rw[Tp Si h0];have Wa:BL 12 (row K 0):=F2.yd 0 hK;obtain⟨xs,ro',RG,hx,mr,gf⟩:=To (z:=(n:Int)) (l0:=[cG.cells iH.live [AV.int IntKind.i64 ↑n,AV.aI b 0 K.length 1 K.length,sn]]) r9 td CL Ua h0 hK tz G0 hc3 hc4 (X:=((row K 0).take (n-1)).map bC++[vD]|>.map AV.str) (by rw[aOT,aMk,aOT,aMp,aWX];omega) (by
    intro x hx;obtain⟨a,-,rfl⟩:=aNp.1 hx;exact fun _ _=>rfl)
   refine jr (n:Int) _ H'.length _ _ _ ?_ gf (ab7 (E:=E) mr h0 h8 Si Wa (by omega) hx (by omega)) _ (by simp only[cK,hl]) ?_
   ·rw[gk (by rw[aPp])];rfl
   ·simp only[cM,hl,aa,ae]
  ·have dk:decide ((K.length:Int)>0)=false:=cH (by omega);simp only[↓aQ,aR,↓aT,aK,dt,↓reduceIte,aa,ah,ae,aE,hl,g2,g7,g8,g9,hg,m1,m2,QJ,acG,e1,e2,dk,aMk];obtain⟨RG,gf⟩:=zH (k:=.i64) (z:=(n:Int)) (lU f1 (tQ f1) [.cells .live [.int .i64 (n:Int),v',sn]]) (lU f2 (tQ f2) [.cells .live [.int .i64 (n:Int),v',sn]]) r9.np td.np;refine jr (n:Int) _ H'.length _ _ _ ?_ gf (E4 (E:=E) x1 x2 Oh) _ (by simp only[cK,hl]) ?_
   ·rw[gk rfl];rfl
   ·simp only[cM,hl,aa,ae]
 ·have e1:(s.tmod 3==1)=false:=by simpa using h1
  by_cases h2:s.tmod 3=2
  ·have e2:(s.tmod 3==2)=true:=by rw[h2];rfl
   simp only[↓aQ,aR,↓aT,aK,dt,↓reduceIte,aa,ah,ae,ai,aE,hl,g2,g7,g8,g9,hg,m1,m2,acG,e1,e2,w1];obtain⟨RG,gf⟩:=zH (k:=.i64) (z:=(n:Int)+1) (lU f1 (tQ f1) [.cells .live [.int .i64 ((n:Int)+1),v',sn]]) (lU f2 (tQ f2) [.cells .live [.int .i64 ((n:Int)+1),v',sn]]) r9.np td.np;refine jr ((n:Int)+1) _ H'.length _ _ _ ?_ gf (ab8 (E:=E) x1 x2 Oh) _ (by simp only[cK,hl]) ?_
   ·rw[gk rfl];rfl
   ·simp only[cM,hl,aa,ae]
  ·have e2:(s.tmod 3==2)=false:=by simpa using h2
   simp only[↓aQ,aR,↓aT,aK,dt,↓reduceIte,aa,ah,ae,aE,hl,g2,g7,g8,g9,hg,m1,m2,acG,e1,e2];obtain⟨RG,gf⟩:=zH (k:=.i64) (z:=(n:Int)) (lU f1 (tQ f1) [.cells .live [.int .i64 (n:Int),v',sn]]) (lU f2 (tQ f2) [.cells .live [.int .i64 (n:Int),v',sn]]) r9.np td.np;refine jr (n:Int) _ H'.length _ _ _ ?_ gf (E4 (E:=E) x1 x2 Oh) _ (by simp only[cK,hl]) ?_
   ·rw[gk rfl];rfl
   ·simp only[cM,hl,aa,ae]
set_option maxRecDepth 100000
theorem acF:c3=.seq (sb c3) (.seq (sb (qH 1 c3)) (.seq (sb (qH 2 c3)) (.seq (sb (qH 3 c3)) (.seq (sb (qH 4 c3)) acC)))):=by kernel_rfl
theorem OW{E:Env} [C:lS E]{z:Int}(h: -4<z/\z<4):aO E 6 [.int .i64 z]=some (.str (bC (z:Rat))):=by refine ep ?_;obtain⟨r,hr,ir⟩:=jJ (E:=E) (n:=z) (by omega) (by omega);have hn:=iQ (E:=E) ir (k:=3) (Bq.int (by omega) (by omega)) (by omega);have pr:=jm ir;refine mO fn6 ?_;intro ts hl g0;unfold c6;simp only[↓aQ,aR,↓aT,aK,aa,ae,Tryz.f6,hl,g0,hr,pr,hn]
def ou(zf:Nat->Int)(n i:Nat):List Rat:=(List.range n).map fun k=>(((zf (i*6+k%6)).tmod 4:Int):Rat)
def Lr(qs:Nat->List Rat):Nat->List (List Rat)
 |0=>[]
 |1=>[qs 0]
 |2=>[qs 0]
 |_=>[qs 0,qs 2]
def Rr(qs:Nat->List Rat):Nat->Option (List Rat)
 |0=>none
 |1=>none
 |_=>some (qs 1)
theorem pF{zf:Nat->Int}{n i:Nat}:(ou zf n i).length=n:=by unfold ou;rw[aOT,List.length_range]
theorem acw{zf:Nat->Int}{n i k:Nat}(h:k<n):(ou zf n i).take (k+1)=(ou zf n i).take k++[(((zf (i*6+k%6)).tmod 4:Int):Rat)]:=by rw[List.take_add_one];congr 1;unfold ou;rw[aNe,aYz h];rfl
theorem afI(z:Int):(z.tmod 4).natAbs<=3:=by
 rw[Int.natAbs_tmod]
 have:(4:Int).natAbs=4:=rfl
 rw[this];omega
theorem LZ{zf:Nat->Int}{n i:Nat}:CV 2 (fv (ou zf n i)):=by
 refine⟨1,fun c=>if c<n then(zf (i*6+c%6)).tmod 4 else 0,by decide,by decide,fun c=>?_⟩;have h1:((1:Int):Rat)=1:=rfl;by_cases hc:c<n
 ·have e:fv (ou zf n i) c=(((zf (i*6+c%6)).tmod 4:Int):Rat):=by
   show(ou zf n i).getD c 0=_
   unfold ou;rw[aSW,aNe,aYz hc];rfl
  have:=afI (zf (i*6+c%6))
  simp only[if_pos hc];exact⟨by rw[e,h1];grind,by omega⟩
 ·have e:fv (ou zf n i) c=0:=sQ pF (by omega);simp only[if_neg hc];have h2:((0:Int):Rat)=0:=rfl;exact⟨by rw[e,h1,h2];grind,by decide⟩
theorem Mm{zf:Nat->Int}{n:Nat}(h0:0<n)(h8:n<=8):∀i,Dx n (Lr (ou zf n) i) (Rr (ou zf n) i):=by
 have hr:∀i (r:List Rat),Rr (ou zf n) i=some r->CV 2 (fv r)/\r.length=n:=by
  intro i r h
  match i,h with
  |i+2,h=>cases h;exact⟨LZ,pF⟩
 intro i
 match i with
 |0=>exact⟨h0,h8,fun i hi=>absurd hi (by simp[Lr]),by simp[Lr],fun i hi=>absurd hi (by simp[Lr]),hr _⟩
 |1=>exact⟨h0,h8,fun i hi=>(by match i,hi with|0,_=>exact pF),by simp[Lr],fun i hi=>(by match i,hi with|0,_=>exact LZ),hr _⟩
 |2=>exact⟨h0,h8,fun i hi=>(by match i,hi with|0,_=>exact pF),by simp[Lr],fun i hi=>(by match i,hi with|0,_=>exact LZ),hr _⟩
 |i+3=>exact⟨h0,h8,fun i hi=>(by match i,hi with|0,_=>exact pF|1,_=>exact pF),by simp[Lr],fun i hi=>(by match i,hi with|0,_=>exact LZ|1,_=>exact LZ),hr _⟩
theorem Ka{s low n:Nat}{v:AV}{H H2:Hp}{cs:List AV}(h:u7 s low v H n cs)(hl:H.length<=H2.length)(hk:∀k,k<H.length->H2[k]?=H[k]?):u7 s low v H2 n cs:=by
 rcases h with h|⟨h0,b,h1,h2,h3,h4⟩
 ·exact .inl h
 ·exact .inr ⟨h0,b,h1,by omega,h3,by rw[hk b h2];exact h4⟩
theorem Kb{s low n:Nat}{v:AV}{H:Hp}{cs:List AV}(h:u7 s low v H n cs):u7 s 0 v H n cs:=by
 rcases h with h|⟨h0,b,h1,h2,h3,h4⟩
 ·exact .inl h
 ·exact .inr ⟨h0,b,aXy _,h2,h3,h4⟩
theorem L8{E:Env} [C:lS E]{dim s:Int}{lv:AV}{cells:List AV}{len:Nat}{zf:Nat->Int}(hd:0<=dim/\dim<256)(zN:jP lv=some (len:Int))(plv:aN lv=true)(vg:0<len->lv=.aJ cells len)(hz:∀j,j<len*6->cells[j]?=some (.int .i8 (zf j))/\-128<=zf j/\zf j<=127)(iE:cells.length=len*6):
  aO E 3 [.int .u8 dim,lv,.int .u8 s]=some (.bool true):=by
 refine ep ?_;have hkn:=OP (E:=E);have ht8:dim.tmod 8=dim%8:=Int.tmod_eq_emod_of_nonneg hd.1;obtain⟨n,hn⟩:∃n:Nat,(n:Int)=1+dim.tmod 8:=⟨(1+dim.tmod 8).toNat,by omega⟩;have h0:0<n:=by omega
 have h8:n<=8:=by omega
 have wd:aV .i64 dim=dim:=wrap_i64 (by omega) (by omega);have wn:aV .i64 (1+dim.tmod 8)=(n:Int):=by rw[hn];exact wrap_i64 (by omega) (by omega)
 have r8:∀c t,dy E c .rem t (.int .i64 dim) (.int .i64 8)=some (.int .i64 (dim.tmod 8)):=fun c t=>DH (by decide)
 have jr:=fun(i lo1 lo2:Nat) (H:Hp) v rv hL hR (ts:List AV) hl g2 g7 g8 g9=>Pn (E:=E) (H:=H) (lo1:=lo1) (lo2:=lo2) (v:=v) (rv:=rv) (L:=Lr (ou zf n) i) (jZ:=Rr (ou zf n) i) (n:=n) (s:=s) hL hR (Mm h0 h8 i) (ts:=ts) hl g2 g7 g8 g9 (G:=fun u=>u=.bool true) rfl
 refine Zj fn3 ?_;intro ts hl g0 g1 g2;rw[acF];generalize acC=D at jr⊢
 dsimp only[qH,sb,c3,Tryz.f3]
 by_cases h3:3<len
 ·have d3:decide ((len:Int)>3)=true:=cF (by omega);simp only[↓aQ,aR,↓aT,aK,aa,ae,hl,g1,hkn,zN,d3]
 have d3:decide ((len:Int)>3)=false:=cH (by omega);simp only[↓aQ,aR,↓aT,aK,aa,ae,↓gL kd5 kd3,hl,g0,g1,hkn,zN,d3,wd,wn,r8];refine fh (fun k_ ts H=>∃i v rv HC lo,k_=len-i/\ts.length=133/\gt ts 1=lv/\gt ts 2=.int .u8 s/\gt ts 7=.int .i64 (n:Int)/\gt ts 8=v/\gt ts 9=rv/\gt ts 10=.int .i64 (i:Int)/\H=HC/\(i<=len)/\(qf HC 0 v (Lr (ou zf n) i))/\(qf HC lo rv (Rr (ou zf n) i).toList)/\(lo<=HC.length)/\(∀p m,i<=2->v=.aI p 0 m 1 m->p<lo)) (len) ?_ ?_
 rotate_left
 ·refine⟨0,.aH,.aH,[],0,(by first|omega|rfl|(simp;done)),(by simp only[cK,hl]),?_⟩;simp only[cM,hl,aa,ae,g1,g2]
  iterate 7 refine⟨by first|trivial|rfl|(congr 1;omega)|(simp;done)|(simp;omega),?_⟩
  refine⟨?_,?_,?_,?_,?_⟩
  ·omega
  ·exact .inl ⟨rfl,rfl⟩
  ·exact .inl ⟨rfl,rfl⟩
  ·exact aLr _
  ·intro p m _ e;cases e
 clear hl g0 g1 g2 ts;rintro k_ ts H ⟨i,v,rv,HC,lo,rfl,hl,g1,g2,g7,g8,g9,g10,rfl,hi,hL,hR,jN,apn⟩;refine VS ?_
 rename Hp=>HL
 by_cases We:i<len
 ·have dc:decide ((i:Int)<(len:Int))=true:=cF (by omega);have ci:((i:Int)<(len:Int))=True:=eq_true (by omega);have axa:=vg (by omega);subst axa;simp only[↓aQ,aR,aK,aa,ae,hl,g1,g10,zN,dc];refine fh (fun k_ ts H=>∃k w HH strs,k_=n-k/\ts.length=133/\gt ts 1=.aJ cells len/\gt ts 2=.int .u8 s/\gt ts 7=.int .i64 (n:Int)/\gt ts 8=v/\gt ts 9=rv/\gt ts 10=.int .i64 (i:Int)/\gt ts 11=w/\gt ts 12=.int .i64 (k:Int)/\H=HH/\(k<=n)/\(HL.length<=HH.length)/\(∀q,q<HL.length->HH[q]?=HL[q]?)/\(u7 1 HL.length w HH k strs)/\(strs=((ou zf n i).take k).map fun q=>AV.str (bC q))) (n) ?_ ?_
  rotate_left
  ·refine⟨0,.aH,HL,[],(by first|omega|rfl|(simp;done)),(by simp only[cK,hl]),?_⟩;simp only[cM,hl,aa,ae,g1,g2,g7,g8,g9,g10]
   iterate 9 refine⟨by first|trivial|rfl|(congr 1;omega)|(simp;done)|(simp;omega),?_⟩
   refine⟨?_,?_,?_,?_,?_⟩
   ·omega
   ·omega
   ·intro q hq;trivial
   ·exact .inl ⟨rfl,rfl,rfl⟩
   ·rfl
  clear hl g1 g2 g7 g8 g9 g10 ts;rintro k_ ts H ⟨k,w,HH,strs,rfl,hl,g1,g2,g7,g8,g9,g10,g11,g12,rfl,hk,hHl,R3,hsw,fK⟩;refine VS ?_;by_cases aw1:k<n
  ·have dk:decide ((k:Int)<(n:Int))=true:=cF (by omega);have wk:aV .i64 ((k:Int)+1)=((k+1:Nat):Int):=by rw[wrap_i64 (by omega) (by omega)];omega
   have r6:∀c t,dy E c .rem t (.int .i64 (k:Int)) (.int .i64 6)=some (.int .i64 ((k%6:Nat):Int)):=fun c t=>qL (b:=6) (by decide)
   obtain⟨Sn,hz2,hz3⟩:=hz (i*6+k%6) (by have:=Nat.mod_lt k (show 0<6 by omega);omega);have wz:aV .i64 (zf (i*6+k%6))=zf (i*6+k%6):=wrap_i64 (by omega) (by omega);have r4:∀c t,dy E c .rem t (.int .i64 (zf (i*6+k%6))) (.int .i64 4)=some (.int .i64 ((zf (i*6+k%6)).tmod 4)):=fun c t=>DH (by decide)
   have h4:=afI (zf (i*6+k%6));have Oy:=OW (E:=E) (z:=(zf (i*6+k%6)).tmod 4) (by omega);have cm:(((k%6:Nat):Int)<6)=True:=eq_true (by omega);have lJ:strs.length=k*1:=by rw[fK,aOT,aMp,pF];omega
   obtain⟨bM,H2,gT,uJ,t1,t2,t3⟩:=jR (E:=E) (H:=H) (x:=[AV.str (bC (((zf (i*6+k%6)).tmod 4:Int):Rat))]) JD (by decide) (Kb hsw) lJ rfl rfl (by unfold gq;omega) (by omega);have pS:∀aM,aW E aM 25 1 [(0,AV.str (bC (((zf (i*6+k%6)).tmod 4:Int):Rat)))]=some (.aI aM 0 1 1 1,[(aM,.cells .live [AV.str (bC (((zf (i*6+k%6)).tmod 4:Int):Rat))])]):=fun aM=>gE JD rfl (by decide) (by decide) rfl
   simp only[aMk,aMn,aP3,aMg]at gT uJ;simp only[↓aQ,aR,↓aT,aK,dt,↓reduceIte,aa,ae,↓gL ays kd3,hl,g1,g7,g10,g11,g12,dk,wk,r6,ci,cm,Sn,wz,r4,Oy,pS,gT,uJ,aMk];refine dO ?_;refine⟨_,?_,k+1,(.aI (H.length+1) 0 (k+1) 1 (k+1)),H2,(strs++[AV.str (bC (((zf (i*6+k%6)).tmod 4:Int):Rat))]),rfl,(by simp only[cK,hl]),?_⟩
   ·first|omega|(simp;omega)
   simp only[cM,hl,aa,ae,g1,g2,g7,g8,g9,g10]
   iterate 9 refine⟨by first|trivial|rfl|(congr 1;omega)|(simp;done)|(simp;omega),?_⟩
   refine⟨?_,?_,?_,?_,?_⟩
   ·omega
   ·omega
   ·intro q hq;rw[t3 q (by omega) (uB hsw hq),R3 q hq]
   ·exact .inr ⟨by omega,H.length+1,by omega,by omega,rfl,t1⟩
   ·rw[fK,acw aw1,List.map_append];rfl
  have dk:decide ((k:Int)<(n:Int))=false:=cH (by omega);obtain rfl:k=n:=by omega
  have abi:strs=mZ (ou zf k i):=by rw[fK];unfold mZ;rw[List.take_of_length_le (by rw[pF];omega)]
  obtain⟨b,sG,tz,rfl,zK⟩:∃b,HL.length<=b/\b<H.length/\w=.aI b 0 k 1 k/\H[b]?=some (.cells .live strs):=by
   rcases hsw with⟨e,-⟩|⟨-,b,f1,f2,f3,f4⟩
   ·omega
   ·exact⟨b,f1,f2,f3,f4⟩
  rw[abi]at zK;have wi:aV .i64 ((i:Int)+1)=((i+1:Nat):Int):=by rw[wrap_i64 (by omega) (by omega)];omega
  have r2:∀c t,dy E c .rem t (.int .i64 (i:Int)) (.int .i64 2)=some (.int .i64 ((i%2:Nat):Int)):=fun c t=>qL (b:=2) (by decide)
  have pS:∀aM,aW E aM 24 1 [(0,AV.aI b 0 k 1 k)]=some (.aI aM 0 1 1 1,[(aM,.cells .live [AV.aI b 0 k 1 k])]):=fun aM=>gE Ak rfl (by decide) (by decide) rfl
  by_cases hi1:i=1
  ·subst hi1;have e2:((((1:Nat)%2:Nat):Int)==0)=false:=by decide
   have e3:((1:Int)==0)=false:=by decide
   have r3:∀c t,dy E c .rem t (.int .i64 1) (.int .i64 2)=some (.int .i64 1):=fun c t=>by rw[DH (by decide)];rfl
   have wi2:aV .i64 2=2:=by decide
   obtain⟨vh,lJ,R8⟩:=hR.sl;have aie:u7 1 0 rv H (Rr (ou zf k) 1).toList.length vh:=Ka (Kb lJ) hHl R3;obtain⟨bM,H2,gT,uJ,t1,t2,t3⟩:=jR (E:=E) (H:=H) (x:=[AV.aI b 0 k 1 k]) Ak (by decide) aie (by omega) rfl rfl (by unfold gq;simp[Rr]) (by simp[Rr]);have qP:rv=.aH:=by
    rcases hR with⟨-,e⟩|⟨h,-⟩
    ·exact e
    ·exact absurd h (by simp[Rr])
   simp only[show(Rr (ou zf k) 1).toList.length=0 from rfl,aMg,aMk,aMn,aP3]at gT uJ;simp only[↓aQ,aR,dt,↓reduceIte,aa,ae,aA,hl,g7,g9,g10,g11,g12,dk,e3,r3,wi2,pS,gT,uJ,aMk];have same:∀q,q<HL.length->H2[q]?=HL[q]?:=fun q hq=>by rw[t3 q (by omega) (fun m e=>by rw[qP]at e;cases e),R3 q hq]
   refine dO ?_;refine⟨_,?_,1+1,v,(.aI (H.length+1) 0 1 1 1),H2,lo,rfl,(by simp only[cK,hl]),?_⟩
   ·first|omega|(simp;omega)
   simp only[cM,hl,aa,ae,g1,g2,g7,g8]
   iterate 7 refine⟨by first|trivial|rfl|(congr 1;omega)|(simp;done)|(simp;omega),?_⟩
   refine⟨?_,?_,?_,?_,?_⟩
   ·omega
   ·exact hL.mono (aLr _) (by omega) (fun q _ hq=>same q hq)
   ·refine hR.step (q:=ou zf k 1) lJ jN sG (by omega) (by omega) (by omega) (by omega) (by rw[pF];exact t1) ?_ (fun p _ hp _=>same p hp);rw[t3 b tz (fun m e=>by rw[qP]at e;cases e)];exact zK
   ·omega
   ·exact fun p m _ e=>apn p m (by omega) e
  ·have hev:i=0∨i=2:=by omega
   have e2:(((i%2:Nat):Int)==0)=true:=by rcases hev with rfl|rfl<;>rfl
   obtain⟨vh,lJ,R8⟩:=hL.sl;have aa3:(Lr (ou zf k) i).length<=2:=(Mm h0 h8 i).two;have aie:u7 1 0 v H (Lr (ou zf k) i).length vh:=Ka lJ hHl R3;obtain⟨bM,H2,gT,uJ,t1,t2,t3⟩:=jR (E:=E) (H:=H) (x:=[AV.aI b 0 k 1 k]) Ak (by decide) aie (by omega) rfl rfl (by unfold gq;omega) (by omega);simp only[aMk,aMn,aP3,aMg]at gT uJ;simp only[↓aQ,aR,dt,↓reduceIte,aa,ae,hl,g7,g8,g10,g11,g12,dk,wi,r2,e2,pS,gT,uJ,aMk];have hvb:∀m,v≠ .aI b 0 m 1 m:=fun m e=>by
    rcases lJ with⟨-,-,e9⟩|⟨-,b9,-,h9,e9,-⟩
    ·rw[e9]at e;cases e
    ·rw[e9]at e;simp only[AV.aI.injEq]at e;omega
   have hLn:=hL.step (q:=ou zf k i) (H2:=H2) (k:=H.length+1) (r:=b) lJ (aXy _) sG (by omega) (by omega) (by omega) (by omega) (by rw[pF];exact t1) (by rw[t3 b tz hvb];exact zK) (fun p _ hp hv=>by rw[t3 p (by omega) hv,R3 p hp]);rcases hev with rfl|rfl
   ·have AD:=trivial;refine dO ?_;refine⟨_,?_,0+1,(.aI (H.length+1) 0 ((Lr (ou zf k) 0).length+1) 1 ((Lr (ou zf k) 0).length+1)),rv,H2,H2.length,rfl,(by simp only[cK,hl]),?_⟩
    ·first|omega|(simp;omega)
    simp only[cM,hl,aa,ae,g1,g2,g7,g9]
    iterate 7 refine⟨by first|trivial|rfl|(congr 1;omega)|(simp;done)|(simp;omega),?_⟩
    refine⟨?_,?_,?_,?_,?_⟩
    ·omega
    ·exact hLn
    ·rcases hR with⟨-,e⟩|⟨h,-⟩
     ·exact .inl ⟨rfl,e⟩
     ·exact absurd h (by simp[Rr])
    ·exact aLr _
    ·intro p m _ e;simp only[AV.aI.injEq]at e;omega
   ·have AD:=trivial;refine dO ?_;refine⟨_,?_,2+1,(.aI (H.length+1) 0 ((Lr (ou zf k) 2).length+1) 1 ((Lr (ou zf k) 2).length+1)),rv,H2,lo,rfl,(by simp only[cK,hl]),?_⟩
    ·first|omega|(simp;omega)
    simp only[cM,hl,aa,ae,g1,g2,g7,g9]
    iterate 7 refine⟨by first|trivial|rfl|(congr 1;omega)|(simp;done)|(simp;omega),?_⟩
    refine⟨?_,?_,?_,?_,?_⟩
    ·omega
    ·exact hLn
    ·refine hR.mono (aLr _) (by omega) (fun q Ub Wv=>?_);rw[t3 q (by omega) (fun m e=>by have:=apn q m (by omega) e;omega),R3 q Wv]
    ·omega
    ·intro p m h9 _;omega
 ·have dc:decide ((i:Int)<(len:Int))=false:=cH (by omega);simp only[↓aQ,aR,aK,↓reduceIte,aa,ae,hl,g1,g10,zN,dc];refine jr i 0 lo _ v rv hL hR _ (by simp only[cK,hl]) ?_ ?_ ?_ ?_
  all_goals simp only[cM,ae,g2,g7,g8,g9]
end Go.Proofs.YtblnjkjjedanaaaGreatDoor
