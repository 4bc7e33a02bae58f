/- Lemmas for AssemblyChecks; no condition. -/
import Derived.Test.YtmkjgfnicfpjpaaGreatDoorTam
set_option linter.all false
set_option maxHeartbeats 100000000
set_option maxRecDepth 100000
noncomputable section
open List renaming range->aN1,getElem?_eq_some_iff->aKB,getElem?_eq_getElem->aLh,getElem?_set_self->aNv,getElem?_append_right->aTh,replicate->aKF,all_eq_true->aLq,take_of_length_le->aOv,getElem?_cons_zero->aQl,getElem?_set_ne->aNt,getElem?_append_left->aNB,append_nil->aQw,length_map->aOY,mem_range->aNy,mem_map->aMr,getElem_mem->aLr
open Option renaming isSome_iff_exists->aMm,map_some->aLt
open Bool renaming false_eq_true->aK4,and_eq_true->aMh
open Nat renaming eq_of_beq_eq_true->aWx,le_of_ble_eq_true->aWy,le_refl->aKE,sub_self->aLe,beq->aWz
namespace Go.Proofs.YtmkjgfnicfpjpaaGreatDoor
open Go Dv
variable{E:Env}[C:Ctx E]
structure ph(E:Env)(tS tE esz:Nat):Prop where
 s:∃i,E.ty tS=some i/\i.cD=.slice tE/\i.isAgg=false
 e:∃i,E.ty tE=some i/\i.isAgg=true/\i.size=esz
 p4:E.pairs 4 17=[]
 p6:E.pairs 6 18=[]
structure jG(E:Env)(esz jh n:Nat)(row:Nat->List AV):Prop where
 len:∀p,(row p).length=esz
 one:∀p,(row p).all cL=true
 pure:∀p,aV (row p)=true
 fn:∀fi,E.fn jh=some fi->fi.pure=true
 cmp:∀p q,p<n->q<n->∃m z,call E m jh [.agg (row p),.agg (row q)]=some (.int .i64 z)/\(z<0↔p<q)
section
variable{E:Env}{tS tE esz jh n:Nat}{row:Nat->List AV}
def qJ(D:jG E esz jh n row)(js:List Nat):∀r∈js.map row,r.length=esz:=by intro r hr;obtain⟨p,_,rfl⟩:=aMr.1 hr;exact D.len p
def ixS(T:ph E tS tE esz){b len kc:Nat}{k:IntKind}{z:Int}{j:Nat}(hz:z=j)(hj:j<len:=by omega):
  b9 E tS (.aI b 0 len esz kc) (.int k z)=some (.bI b (j*esz)):=by
 obtain⟨i,h1,h2,_⟩:=T.s;obtain⟨e,h3,_,h4⟩:=T.e;subst hz;simp only[b9,h1,h2,h3,h4];rw[if_pos ⟨trivial,by omega,by omega⟩]
 simp
def ldS(T:ph E tS tE esz)(D:jG E esz jh n row){H:Hp}{b:Nat}{js:List Nat}(hb:H[b]?=some (.cells .live (js.map row).flatten)){j p:Nat}(hj:js[j]?=some p):
  dW E H tE (.bI b (j*esz))=some (.agg (row p)):=by
 obtain⟨e,h3,h4,h5⟩:=T.e;have ek:=(aKB.1 hj).1
 have:=iM (qJ D js) (j:=j) (by simpa using ek)
 simp only[dW,yG,hb,gl,h3,h4,h5];simp only[show(oe.live=oe.dead)=False by simp,if_false,if_true];rw[if_pos this,jz (qJ D js) (r:=row p) (by simp[hj])]
def stS(T:ph E tS tE esz)(D:jG E esz jh n row){H:Hp}{b:Nat}{js:List Nat}(hb:H[b]?=some (.cells .live (js.map row).flatten)){j p:Nat}(hj:j<js.length):
  fe E H tE (.bI b (j*esz)) (.agg (row p))=some [(b,.cells .live ((js.set j p).map row).flatten)]:=by
 obtain⟨e,h3,h4,h5⟩:=T.e
 have:=iM (qJ D js) (j:=j) (by simpa using hj)
 simp only[fe,hb,h3,h5,AV.cells,D.len p,D.one p];have eQ:(decide ((esz:Nat)≠esz)||decide (j*esz+esz>(js.map row).flatten.length)||!true)=false:=by simp only[ne_eq,not_true_eq_false,decide_false,Bool.false_or,Bool.not_true,Bool.or_false,decide_eq_false_iff_not];omega
 rw[eQ];simp only[aK4,if_false];rw[Jg (qJ D js) (by simpa using hj) (D.len p),List.map_set]
end
def XZ:Code:=(match Tryz.f270.body with|some c=>c|none=>.skip)
section
variable{E:Env}{jh n:Nat}{row:Nat->List AV}
structure jy(ts:List AV)(b kc n jh:Nat):Prop where
 len:ts.length=53
 g0:gt ts 0=.aI b 0 n 12 kc
 g1:gt ts 1=.int .i64 0
 g2:gt ts 2=.int .i64 n
 g3:gt ts 3=.func jh [] []
def jy.set{ts:List AV}{b kc n jh:Nat}(h:jy ts b kc n jh){i:Nat}(hi:4<=i)(v:AV):jy (ts.set i v) b kc n jh:=
 ⟨by simp[h.len],by rw[aY (by omega)];exact h.g0,by rw[aY (by omega)];exact h.g1,by rw[aY (by omega)];exact h.g2,by rw[aY (by omega)];exact h.g3⟩
def axj{n:Nat}(h:n<1000):aW .i64 ((n:Int)+1)=((n+1:Nat):Int):=by unfold aW;rw[IntWalk.i64_in _ (by omega)];omega
def aeM{n:Nat}(h:n<1000)(h0:0<n):aW .i64 ((n:Int)-1)=((n-1:Nat):Int):=by unfold aW;rw[IntWalk.i64_in _ (by omega)];omega
def avk:Code->Code
 |.block _ (.loop (.seq _ (.seq (.block _ (.seq _ (.block _ (.loop (.seq (.seq r _) _))))) _)))=>r
 |_=>.skip
def alW:Code:=match XZ with|.seq _ x=>avk x|_=>.skip
def aeo(T:ph E 135 62 12)(D:jG E 12 jh n row)(hn:n<1000){b kc:Nat}{ts:List AV}{H:Hp}{js:List Nat}(hS:jy ts b kc n jh)(hlen:js.length=n)(ek:∀p∈js,p<n)
  (hb:H[b]?=some (.cells .live (js.map row).flatten)) {i j:Nat} (hi:gt ts 8=.int .i64 i) (hj:gt ts 9=.int .i64 j) (hjn:j<n) {Q:Ex->List AV->Hp->Prop}
  (hQ:∀ts',jy ts' b kc n jh->gt ts' 8=.int .i64 i->gt ts' 9=.int .i64 j->
   gt ts' 34=.bool (if h:0<j then decide (js[j]'(by omega)<js[j-1]'(by omega))else false)->Q .normal ts' H):
  Cv E alW ts H Q:=by
 unfold alW;refine Cv.BS rfl ?_;rcases Nat.eq_zero_or_pos j with h0|h0
 ·subst h0;refine dD.step rfl (cQ aQ) ?_;refine dD.step rfl (cQ aQ) ?_;refine dD.step rfl (gZ (u:=.int .i64 0) (v:=.int .i64 0) (r:=.bool false) (by rw[aQ];simp[aY,aN,hS.len,hS.g1,hj]) (by rw[aQ];simp[aY,aN,hS.len,hS.g1,hj]) rfl) ?_;refine dD.step rfl (cQ aQ) ?_;refine dD.step rfl (eH (dj:=21) (b:=false) rfl (by simp[aY,aN,hS.len])) ?_;refine dD.step rfl (eH (dj:=21) (b:=false) rfl (by simp[aY,aN,hS.len,bt])) ?_;refine dD.step rfl (eH (dj:=21) (b:=false) rfl (by simp[aY,aN,hS.len,bt])) ?_;refine dD.step rfl (eH (dj:=21) (b:=false) rfl (by simp[aY,aN,hS.len,bt])) ?_;refine dD.step rfl (eH (dj:=21) (b:=false) rfl (by simp[aY,aN,hS.len,bt])) ?_;refine dD.step rfl (eH (dj:=21) (b:=false) rfl (by simp[aY,aN,hS.len,bt])) ?_;refine dD.step rfl (eH (dj:=21) (b:=false) rfl (by simp[aY,aN,hS.len,bt])) ?_;refine dD.step rfl (eH (dj:=21) (b:=false) rfl (by simp[aY,aN,hS.len,bt])) ?_;refine dD.step rfl (eH (dj:=21) (b:=false) rfl (by simp[aY,aN,hS.len,bt])) ?_;refine dD.step rfl (eH (dj:=21) (b:=false) rfl (by simp[aY,aN,hS.len,bt])) ?_;refine dD.step rfl (eH (dj:=21) (b:=false) rfl (by simp[aY,aN,hS.len,bt])) ?_;refine dD.step rfl (eH (dj:=21) (b:=false) rfl (by simp[aY,aN,hS.len,bt])) ?_;refine dD.step rfl (HT (q:=false) (v:=.bool false) (by rw[aQ];simp[aY,aN,hS.len,bt]) rfl) ?_;refine dD.nil ⟨by show(E.pairs 4 17).all _=true;rw[T.p4];rfl,hQ _ ?_ ?_ ?_ ?_⟩
  ·simp only[bt]
   repeat (refine jy.set ?_ (by decide) _)
   exact hS
  ·simp[aY,aN,hS.len,bt,hi]
  ·simp[aY,aN,hS.len,bt,hj]
  ·simp[aY,aN,hS.len,bt]
 ·refine dD.step rfl (cQ aQ) ?_;refine dD.step rfl (cQ aQ) ?_;refine dD.step rfl (gZ (u:=.int .i64 j) (v:=.int .i64 0) (r:=.bool true) (by rw[aQ];simp[aY,aN,hS.len,hS.g1,hj]) (by rw[aQ];simp[aY,aN,hS.len,hS.g1,hj]) (by simp[cd,k7];omega)) ?_;refine dD.step rfl (cQ aQ) ?_;refine dD.step rfl ((eW (dj:=21) rfl (by simp[aY,aN,hS.len])).trans (cQ aQ)) ?_;refine dD.step rfl ((eW (dj:=21) rfl (by simp[aY,aN,hS.len])).trans (cQ aQ)) ?_;refine dD.step rfl ((eW (dj:=21) rfl (by simp[aY,aN,hS.len])).trans (cQ aQ)) ?_;refine dD.step rfl ((eW (dj:=21) rfl (by simp[aY,aN,hS.len])).trans (iT (u:=.aI b 0 n 12 kc) (v:=.int .i64 j) (r:=.bI b (j*12)) (by rw[aQ];simp[aY,aN,hS.len,hS.g0,hS.g1,hS.g3,hj]) (by rw[aQ];simp[aY,aN,hS.len,hS.g0,hS.g1,hS.g3,hj]) (ixS T rfl hjn))) ?_;refine dD.step rfl ((eW (dj:=21) rfl (by simp[aY,aN,hS.len])).trans (rM (u:=.bI b (j*12)) (by rw[aQ];simp[aY,aN,hS.len,hS.g0,hS.g1,hS.g3,hj]) (ldS T D hb (aLh (by omega:j<js.length))))) ?_;refine dD.step rfl ((eW (dj:=21) rfl (by simp[aY,aN,hS.len])).trans (cQ aQ)) ?_;refine dD.step rfl ((eW (dj:=21) rfl (by simp[aY,aN,hS.len])).trans (cQ aQ)) ?_;refine dD.step rfl ((eW (dj:=21) rfl (by simp[aY,aN,hS.len])).trans (gZ (u:=.int .i64 j) (v:=.int .i64 1) (r:=.int .i64 (j-1:Nat)) (by rw[aQ];simp[aY,aN,hS.len,hS.g0,hS.g1,hS.g3,hj]) rfl (by simp only[cd,k7,ne_eq,not_true_eq_false,if_false];rw[aeM (by omega) h0]))) ?_;refine dD.step rfl ((eW (dj:=21) rfl (by simp[aY,aN,hS.len])).trans (iT (u:=.aI b 0 n 12 kc) (v:=.int .i64 (j-1:Nat)) (r:=.bI b ((j-1)*12)) (by rw[aQ];simp[aY,aN,hS.len,hS.g0,hS.g1,hS.g3,hj]) (by rw[aQ];simp[aY,aN,hS.len,hS.g0,hS.g1,hS.g3,hj]) (ixS T rfl))) ?_;refine dD.step rfl ((eW (dj:=21) rfl (by simp[aY,aN,hS.len])).trans (rM (u:=.bI b ((j-1)*12)) (by rw[aQ];simp[aY,aN,hS.len,hS.g0,hS.g1,hS.g3,hj]) (ldS T D hb (aLh (by omega:j-1<js.length))))) ?_;obtain⟨m,z,hm,hz⟩:=D.cmp js[j] js[j-1] (ek _ (aLr _)) (ek _ (aLr _));refine dD.VZ ⟨m,hm⟩ (fun pc hpc=>(eW (dj:=21) rfl (by simp[aY,aN,hS.len])).trans (Gs (by rw[aQ];simp[aY,aN,hS.len,hS.g0,hS.g1,hS.g3,hj]) (by simp[km,aQ,aY,aN,hS.len]) D.fn (by simp[aV,aU,D.pure]) hpc)) ?_;refine dD.step rfl ((eW (dj:=21) rfl (by simp[aY,aN,hS.len])).trans (gZ (u:=.int .i64 z) (v:=.int .i64 0) (r:=.bool (decide (js[j]<js[j-1]))) (by rw[aQ];simp[aY,aN,hS.len,hS.g0,hS.g1,hS.g3,hj]) rfl (by simp[cd,k7,hz]))) ?_;refine dD.step rfl (HT (q:=true) (v:=.bool (decide (js[j]<js[j-1]))) (by rw[aQ];simp[aY,aN,hS.len,hS.g0,hS.g1,hS.g3,hj]) (by rw[if_pos rfl,aQ];simp[aY,aN,hS.len])) ?_;refine dD.nil ⟨by show(E.pairs 4 17).all _=true;rw[T.p4];rfl,hQ _ ?_ ?_ ?_ ?_⟩
  ·repeat (refine jy.set ?_ (by decide) _)
   exact hS
  ·simp[aY,aN,hS.len,hi]
  ·simp[aY,aN,hS.len,hj]
  ·simp[aY,aN,hS.len,h0]
def alY:Code->Code
 |.block _ (.loop (.seq _ (.seq (.block _ (.seq _ (.block _ (.loop (.seq _ (.seq (.block _ r) _)))))) _)))=>r
 |_=>.skip
def alX:Code:=match XZ with|.seq _ x=>alY x|_=>.skip
def aep(T:ph E 135 62 12)(D:jG E 12 jh n row)(hn:n<1000){b kc:Nat}{ts:List AV}{H:Hp}{js:List Nat}(hS:jy ts b kc n jh)(hlen:js.length=n)
  (hb:H[b]?=some (.cells .live (js.map row).flatten)) {i j:Nat} (hi:gt ts 8=.int .i64 i) (hj:gt ts 9=.int .i64 j) (hjn:j<n) (h0:0<j) {Q:Ex->List AV->Hp->Prop}
  (hQ:∀ts',jy ts' b kc n jh->gt ts' 8=.int .i64 i->gt ts' 9=.int .i64 j->
   Q .normal ts' (H.set b (.cells .live (((js.set j (js[j-1]'(by omega))).set (j-1) (js[j]'(by omega))).map row).flatten))):
  Cv E alX ts H Q:=by
 have CV:b<H.length:=(aKB.1 hb).1;unfold alX;refine Cv.BS rfl ?_;refine dD.step rfl (cQ aQ) ?_;refine dD.step rfl (cQ aQ) ?_;refine dD.step rfl (cQ aQ) ?_;refine dD.step rfl (cQ aQ) ?_;refine dD.step rfl (gZ (u:=.int .i64 j) (v:=.int .i64 1) (r:=.int .i64 (j-1:Nat)) (by rw[aQ];simp[aY,aN,hS.len,hS.g0,hj]) rfl (by simp only[cd,k7,ne_eq,not_true_eq_false,if_false];rw[aeM (by omega) h0])) ?_;refine dD.step rfl (cQ aQ) ?_;refine dD.step rfl (cQ aQ) ?_;refine dD.step rfl (gZ (u:=.int .i64 j) (v:=.int .i64 1) (r:=.int .i64 (j-1:Nat)) (by rw[aQ];simp[aY,aN,hS.len,hS.g0,hj]) rfl (by simp only[cd,k7,ne_eq,not_true_eq_false,if_false];rw[aeM (by omega) h0])) ?_;refine dD.step rfl (iT (u:=.aI b 0 n 12 kc) (v:=.int .i64 (j-1:Nat)) (r:=.bI b ((j-1)*12)) (by rw[aQ];simp[aY,aN,hS.len,hS.g0,hj]) (by rw[aQ];simp[aY,aN,hS.len,hS.g0,hj]) (ixS T rfl)) ?_;refine dD.step rfl (rM (u:=.bI b ((j-1)*12)) (by rw[aQ];simp[aY,aN,hS.len,hS.g0,hj]) (ldS T D hb (aLh (by omega:j-1<js.length)))) ?_;refine dD.step rfl (cQ aQ) ?_;refine dD.step rfl (cQ aQ) ?_;refine dD.step rfl (iT (u:=.aI b 0 n 12 kc) (v:=.int .i64 j) (r:=.bI b (j*12)) (by rw[aQ];simp[aY,aN,hS.len,hS.g0,hj]) (by rw[aQ];simp[aY,aN,hS.len,hS.g0,hj]) (ixS T rfl hjn)) ?_;refine dD.step rfl (rM (u:=.bI b (j*12)) (by rw[aQ];simp[aY,aN,hS.len,hS.g0,hj]) (ldS T D hb (aLh (by omega:j<js.length)))) ?_;refine dD.step rfl (iT (u:=.aI b 0 n 12 kc) (v:=.int .i64 j) (r:=.bI b (j*12)) (by rw[aQ];simp[aY,aN,hS.len,hS.g0,hj]) (by rw[aQ];simp[aY,aN,hS.len,hS.g0,hj]) (ixS T rfl hjn)) ?_;refine dD.step rfl (yO (u:=.bI b (j*12)) (v:=.agg (row js[j-1])) (by rw[aQ];simp[aY,aN,hS.len,hS.g0,hj]) (by rw[aQ];simp[aY,aN,hS.len,hS.g0,hj]) (stS T D hb (by omega:j<js.length))) ?_;simp only[fu];rw[Dv.cp CV];refine dD.step rfl (iT (u:=.aI b 0 n 12 kc) (v:=.int .i64 (j-1:Nat)) (r:=.bI b ((j-1)*12)) (by rw[aQ];simp[aY,aN,hS.len,hS.g0,hj]) (by rw[aQ];simp[aY,aN,hS.len,hS.g0,hj]) (ixS T rfl)) ?_;refine dD.step rfl (yO (u:=.bI b ((j-1)*12)) (v:=.agg (row js[j])) (by rw[aQ];simp[aY,aN,hS.len,hS.g0,hj]) (by rw[aQ];simp[aY,aN,hS.len,hS.g0,hj]) (stS T D (js:=js.set j js[j-1]) (aNv (show b<List.length _ from CV)) (by simp;omega))) ?_;simp only[fu];rw[Dv.cp (by simpa using CV),List.set_set];refine dD.nil ⟨by show(E.pairs 6 18).all _=true;rw[T.p6];rfl,hQ _ ?_ ?_ ?_⟩
 ·repeat (refine jy.set ?_ (by decide) _)
  exact hS
 ·simp[aY,hi]
 ·simp[aY,hj]
structure pf(js:List Nat)(i j:Nat):Prop where
 p1:∀p q x y,p<q->q<=i->p≠j->q≠j->js[p]?=some x->js[q]?=some y->x<=y
 p2:∀q x y,j<q->q<=i->js[j]?=some x->js[q]?=some y->x<=y
def US(js:List Nat)(i:Nat):Prop:=∀p q x y,p<q->q<i->js[p]?=some x->js[q]?=some y->x<=y
def pf.start{js:List Nat}{i:Nat}(h:US js i):pf js i i:=
 ⟨fun p q x y h1 h2 _ h4 h5 h6=>h p q x y h1 (by omega) h5 h6,fun q x y h1 h2=>by omega⟩
def pf.done{js:List Nat}{i j:Nat}(h:pf js i j)(hj:∀x y,0<j->js[j]?=some x->js[j-1]?=some y->y<=x):US js (i+1):=by
 intro p q x y h1 h2 h3 h4;by_cases hp:p=j
 ·subst hp;exact h.p2 q x y h1 (by omega) h3 h4
 by_cases hq:q=j
 ·subst hq;by_cases hp1:p=q-1
  ·subst hp1;exact hj y x (by omega) h4 h3
  ·obtain⟨z,hz⟩:∃z,js[q-1]?=some z:=⟨js[q-1]'(by have:=(aKB.1 h4).1;omega),aLh _⟩;have a1:=h.p1 p (q-1) x z (by omega) (by omega) hp (by omega) h3 hz;have a2:=hj y z (by omega) h4 hz;omega
 ·exact h.p1 p q x y h1 (by omega) hp hq h3 h4
def pf.swap{js:List Nat}{i j:Nat}(h:pf js i j)(h0:0<j)(hj:j<js.length)(Bh:j<=i)(ek:js[j]<js[j-1]):
  pf ((js.set j js[j-1]).set (j-1) js[j]) i (j-1):=by
 have gj:((js.set j js[j-1]).set (j-1) js[j])[j]?=some js[j-1]:=by rw[aNt (by omega),aNv hj]
 have gj1:((js.set j js[j-1]).set (j-1) js[j])[j-1]?=some js[j]:=by
  rw[aNv (by simp;omega)]
 have go:∀p,p≠j->p≠j-1->((js.set j js[j-1]).set (j-1) js[j])[p]?=js[p]?:=fun p h1 h2=>by
  rw[aNt (fun e=>h2 e.symm),aNt (fun e=>h1 e.symm)]
 have oj:js[j]?=some js[j]:=aLh hj;have oj1:js[j-1]?=some js[j-1]:=aLh _;refine⟨fun p q x y h1 h2 h3 h4 h5 h6=>?_,fun q x y h1 h2 h3 h4=>?_⟩
 ·by_cases hp:p=j
  ·subst hp;rw[gj]at h5;cases h5
   rw[go q (by omega) h4]at h6;exact h.p1 (p-1) q _ y (by omega) h2 (by omega) (by omega) oj1 h6
  ·rw[go p hp h3]at h5;by_cases hq:q=j
   ·subst hq;rw[gj]at h6;cases h6
    exact h.p1 p (q-1) x _ (by omega) (by omega) hp (by omega) h5 oj1
   ·rw[go q hq h4]at h6;exact h.p1 p q x y h1 h2 hp hq h5 h6
 ·rw[gj1]at h3;cases h3
  by_cases hq:q=j
  ·subst hq;rw[gj]at h4;cases h4;omega
  ·rw[go q hq (by omega)]at h4;exact h.p2 q _ y (by omega) h2 oj h4
end
section
variable{E:Env}{jh n:Nat}{row:Nat->List AV}
def jy.agR{js:List Nat}(hp:js.Perm (aN1 n)):js.length=n:=by rw[hp.length_eq];simp
def jy.aAP{js:List Nat}(hp:js.Perm (aN1 n)):∀p∈js,p<n:=fun p h=>aNy.1 (hp.mem_iff.1 h)
def XY(T:ph E 135 62 12)(D:jG E 12 jh n row)(hn:n<1000){b kc i:Nat}{H0:Hp}(CV:b<H0.length)(Ir:i<n){Q:Ex->List AV->Hp->Prop}{lp:Code}
  (yY:lp=.seq (.seq alW (.cond (.tmp 34) .skip (.exit 2))) (.seq (.block 3 alX) (match XZ with|.seq _ (.block _ (.loop (.seq _ (.seq (.block _ (.seq _ (.block _ (.loop (.seq _ (.seq _ r)))))) _))))=>r|_=>.skip)))
  (hQ:∀ts' js',jy ts' b kc n jh->gt ts' 8=.int .i64 i->js'.Perm (aN1 n)->US js' (i+1)->Q (.exit 2) ts' (H0.set b (.cells .live (js'.map row).flatten))):
  ∀(ts:List AV) (js:List Nat),jy ts b kc n jh->gt ts 8=.int .i64 i->gt ts 9=.int .i64 i->js.Perm (aN1 n)->US js i->
   Cv E (.loop lp) ts (H0.set b (.cells .live (js.map row).flatten)) Q:=by
 intro ts js hS hi hj hp hU;refine Cv.loop (fun k ts H=>∃js,jy ts b kc n jh/\gt ts 8=.int .i64 i/\gt ts 9=.int .i64 k/\k<=i/\js.Perm (aN1 n)/\pf js i k/\H=H0.set b (.cells .live (js.map row).flatten)) ?_ i ts _
  ⟨js,hS,hi,hj,aKE _,hp,.start hU,rfl⟩
 rintro j ts H ⟨js,hS,hi,hj,Bh,hp,hI,rfl⟩;have hlen:=jy.agR hp;have hb:(H0.set b (.cells .live (js.map row).flatten))[b]?=some (.cells .live (js.map row).flatten):=aNv CV;subst yY;refine Cv.seq (Cv.seq (aeo T D hn hS hlen (jy.aAP hp) hb hi hj (by omega) fun ts' hS' sw hj' hc=>?_));refine Cv.cond (t:=if h:0<j then decide (js[j]'(by omega)<js[j-1]'(by omega))else false) (by rw[aQ,hc]) ?_;by_cases h0:0<j
 ·rw[dif_pos h0];by_cases ek:js[j]'(by omega)<js[j-1]'(by omega)
  ·simp only[ek,decide_true,if_true];refine Cv.skip ?_;refine Cv.seq (Cv.block (aep T D hn hS' hlen hb sw hj' (by omega) h0 fun oc zK Xl LK=>?_));refine Cv.region ?_;refine gz.step (cQ aQ) ?_;refine gz.step (gZ (u:=.int .i64 j) (v:=.int .i64 1) (r:=.int .i64 (j-1:Nat)) (by rw[aQ];simp[aN,zK.len,LK]) rfl (by simp only[cd,k7,ne_eq,not_true_eq_false,if_false];rw[aeM (by omega) h0])) ?_;refine gz.step (gF aQ) ?_;refine gz.nil ⟨j-1,by omega,_,?_,?_,?_,by omega,(swap_perm (by omega) (by omega)).trans hp,hI.swap h0 (by omega) Bh ek,?_⟩
   ·repeat (refine jy.set ?_ (by decide) _)
    exact zK
   ·simp[aY,aN,zK.len,Xl]
   ·simp[aN,zK.len]
   ·simp only[fu];rw[List.set_set]
  ·simp only[ek,decide_false,aK4,if_false];refine Cv.exit ?_;refine hQ _ js hS' sw hp (hI.done fun x y _ hx hy=>?_);have e1:=(aKB.1 hx).2;have e2:=(aKB.1 hy).2;omega
 ·rw[dif_neg h0];simp only[aK4,if_false];refine Cv.exit ?_;exact hQ _ js hS' sw hp (hI.done fun x y h _ _=>absurd h h0)
def akT(T:ph E 135 62 12)(D:jG E 12 jh n row)(hn:n<1000){b kc:Nat}{ts:List AV}{H:Hp}{js:List Nat}(hS:jy ts b kc n jh)(hp:js.Perm (aN1 n))
  (hb:H[b]?=some (.cells .live (js.map row).flatten)) {Q:Ex->List AV->Hp->Prop} (hQ:∀ts',Q .normal ts' (H.set b (.cells .live ((aN1 n).map row).flatten))):
  Cv E XZ ts H Q:=by
 have CV:b<H.length:=(aKB.1 hb).1;have hH:H=H.set b (.cells .live (js.map row).flatten):=by
  refine List.ext_getElem? fun q=>?_
  rw[List.getElem?_set]
  split
  ·rename_i e;subst e;rw[hb]
  ·rfl
 refine Cv.seq ?_;refine Cv.region ?_;refine gz.step (cQ aQ) ?_;refine gz.step (gZ (u:=.int .i64 0) (v:=.int .i64 1) (r:=.int .i64 1) (by rw[aQ];simp[aN,hS.len,hS.g1]) rfl rfl) ?_;refine gz.step (gF aQ) ?_;refine gz.nil ?_;simp only[fu];refine Cv.block ?_;refine Cv.loop (fun k ts H'=>∃i js,k=n-i/\0<i/\jy ts b kc n jh/\gt ts 8=.int .i64 i/\js.Perm (aN1 n)/\US js i/\i<=n+1/\H'=H.set b (.cells .live (js.map row).flatten)) ?_ (n-1) _ _
  ⟨1,js,rfl,by omega,?_,?_,hp,?_,by omega,hH⟩
 ·rintro k ts1 H1 ⟨i,js,rfl,hi0,hS,hi,hp,hU,Ir,rfl⟩;have hlen:=jy.agR hp;refine Cv.seq (Cv.seq (Cv.region ?_));refine gz.step (cQ aQ) ?_;refine gz.step (cQ aQ) ?_;refine gz.step (gZ (u:=.int .i64 i) (v:=.int .i64 n) (r:=.bool (decide (i<n))) (by rw[aQ];simp[aY,aN,hS.len,hi]) (by rw[aQ];simp[aY,aN,hS.len,hS.g2]) (by simp[cd,k7])) ?_;refine gz.nil ?_;simp only[fu];refine Cv.cond (t:=decide (i<n)) (by rw[aQ];simp[aY,aN,hS.len]) ?_;by_cases ek:i<n
  ·simp only[ek,decide_true,if_true];refine Cv.skip ?_;refine Cv.seq (Cv.block (Cv.seq (Cv.region ?_)));refine gz.step (cQ aQ) ?_;refine gz.step (gF aQ) ?_;refine gz.nil ?_;simp only[fu];refine Cv.block (XY (kc:=kc) T D hn CV ek rfl (fun oc JJ zK Xl G2 hU2=>?_) _ js ?_ ?_ ?_ hp hU)
   ·simp only[if_true];refine Cv.region ?_;refine gz.step (cQ aQ) ?_;refine gz.step (gZ (u:=.int .i64 i) (v:=.int .i64 1) (r:=.int .i64 (i+1:Nat)) (by rw[aQ];simp[aN,zK.len,Xl]) rfl (by simp only[cd,k7,ne_eq,not_true_eq_false,if_false];rw[axj (by omega)])) ?_;refine gz.step (gF aQ) ?_;refine gz.nil ⟨n-(i+1),by omega,i+1,JJ,rfl,by omega,?_,?_,G2,hU2,by omega,rfl⟩
    ·repeat (refine jy.set ?_ (by decide) _)
     exact zK
    ·simp[aN,zK.len]
   ·repeat (refine jy.set ?_ (by decide) _)
    exact hS
   ·simp[aY,aN,hS.len,hi]
   ·simp[aY,aN,hS.len,hi]
  ·simp only[ek,decide_false,aK4,if_false];refine Cv.exit ?_;simp only[if_true]
   have:js=aN1 n:=Wv hp fun p q vR hql hpq=>hU p q _ _ hpq (by omega) (aLh vR) (aLh hql)
   rw[this];exact hQ _
 ·repeat (refine jy.set ?_ (by decide) _)
  exact hS
 ·simp[aN,hS.len]
 ·intro p q x y h1 h2;omega
end
def avd:Code:=(match Tryz.f231.body with|some c=>c|none=>.skip)
def ahg:Code:=(match Tryz.f185.body with|some c=>c|none=>.skip)
def amz:E0.fn 270=some {code:=XZ,ntmps:=53,results:=[],pure:=false,eE:=false}:=by kernel_rfl
def amy:E0.fn 231=some {code:=avd,ntmps:=148,results:=[],pure:=false,eE:=false}:=by kernel_rfl
def amx:E0.fn 185=some {code:=ahg,ntmps:=14,results:=[],pure:=false,eE:=false}:=by kernel_rfl
def Rn{E:Env}(h:Over E):ph E 135 62 12:=by
 have h97:∃i,E0.ty 135=some i/\i.cD=.slice 62/\i.isAgg=false:=by
  obtain⟨i,hi⟩:∃i,E0.ty 135=some i:=aMm.1 (by kernel_rfl);refine⟨i,hi,?_,?_⟩
  ·have:(E0.ty 135).map (·.cD)=some (.slice 62):=by kernel_rfl
   rw[hi]at this;simpa using this
  ·have:(E0.ty 135).map (·.isAgg)=some false:=by kernel_rfl
   rw[hi]at this;simpa using this
 have h72:∃i,E0.ty 62=some i/\i.isAgg=true/\i.size=12:=by
  obtain⟨i,hi⟩:∃i,E0.ty 62=some i:=aMm.1 (by kernel_rfl);refine⟨i,hi,?_,?_⟩
  ·have:(E0.ty 62).map (·.isAgg)=some true:=by kernel_rfl
   rw[hi]at this;simpa using this
  ·have:(E0.ty 62).map (·.size)=some 12:=by kernel_rfl
   rw[hi]at this;simpa using this
 exact⟨by rw[h.ty];exact h97,by rw[h.ty];exact h72,by rw[h.pairs];rfl,by rw[h.pairs];rfl⟩
section
variable{E:Env}{jh n:Nat}{row:Nat->List AV}
def alS(hE:Over E)(D:jG E 12 jh n row)(hn:n<=12){b kc:Nat}{nB:AV}{H:Hp}{js:List Nat}(hp:js.Perm (aN1 n))
  (hb:H[b]?=some (.cells .live (js.map row).flatten)) {Q:Ex->List AV->Hp->Prop} (hQ:∀ts',Q .ret ts' (H.set b (.cells .live ((aN1 n).map row).flatten))):
  Cv E avd ([.aI b 0 n 12 kc,.int .i64 0,.int .i64 n,nB,.func jh [] []]++aKF 143 bS) H Q:=by
 generalize xk:[AV.aI b 0 n 12 kc,.int .i64 0,.int .i64 n,nB,.func jh [] []]++aKF 143 bS=ts;have hl:ts.length=148:=by subst xk;rfl
 have g0:gt ts 0=.aI b 0 n 12 kc:=by subst xk;rfl
 have g1:gt ts 1=.int .i64 0:=by subst xk;rfl
 have g2:gt ts 2=.int .i64 n:=by subst xk;rfl
 have g4:gt ts 4=.func jh [] []:=by subst xk;rfl
 clear xk;refine Cv.seq (Cv.region ?_);refine gz.step (gF rfl) ?_;refine gz.nil ?_;refine Cv.seq (Cv.region ?_);refine gz.step (gF rfl) ?_;refine gz.nil ?_;refine Cv.block (Cv.round (Cv.block (Cv.seq (Cv.region ?_))));refine gz.step (cQ aQ) ?_;refine gz.step (cQ aQ) ?_;refine gz.step (gZ (u:=.int .i64 n) (v:=.int .i64 0) (r:=.int .i64 n) (by rw[aQ];simp[aY,aN,hl,g2]) (by rw[aQ];simp[aY,aN,hl,g1])
  (by simp only[cd,k7,ne_eq,not_true_eq_false,if_false,Int.sub_zero,aW];rw[IntWalk.i64_in _ (by omega)])) ?_
 refine gz.step (gF aQ) ?_;refine gz.nil ?_;refine Cv.seq (Cv.seq (Cv.region ?_));refine gz.step (cQ aQ) ?_;refine gz.step (gZ (u:=.int .i64 n) (v:=.int .i64 12) (r:=.bool true) (by rw[aQ];simp[aY,aN,hl]) rfl (by simp[cd,k7];omega)) ?_;refine gz.nil ?_;refine Cv.cond (t:=true) (by rw[aQ];simp[aY,aN,hl]) ?_;simp only[if_true];refine Cv.seq (Cv.region ?_);refine gz.step (cQ aQ) ?_;refine gz.step (cQ aQ) ?_;refine gz.step (cQ aQ) ?_;refine gz.step (cQ aQ) ?_;refine gz.VY (f:=270) (al:=[.aI b 0 n 12 kc,.int .i64 0,.int .i64 n,.func jh [] []]) rfl (by simp[km,aQ,aY,aN,hl,g0,g1,g2,g4]) (by rw[hE.fn];exact amz) rfl (by rw[hE.rC];exact BQ) ?_;refine akT (kc:=kc) (Rn hE) D (by omega) ⟨rfl,rfl,rfl,rfl,rfl⟩ hp hb fun ts'=>⟨fun id h=>(by cases h),[],rfl,?_⟩
 refine gz.nil ?_;exact Cv.ret (hQ _)
def aeK(hE:Over E)(D:jG E 12 jh n row)(hn:n<=12){nB:AV}(ati:∃m,call E m 210 [.int .u64 n]=some nB)(vR:aU nB=true)(h144:∀fi,E.fn 210=some fi->fi.pure=true)
  {b kc:Nat} {H:Hp} {js:List Nat} (hp:js.Perm (aN1 n))
  (hb:H[b]?=some (.cells .live (js.map row).flatten)) {Q:Ex->List AV->Hp->Prop} (hQ:∀ts',Q .normal ts' (H.set b (.cells .live ((aN1 n).map row).flatten))):
  Cv E ahg ([.aI b 0 n 12 kc,.func jh [] []]++aKF 12 bS) H Q:=by
 generalize xk:[AV.aI b 0 n 12 kc,.func jh [] []]++aKF 12 bS=ts;have hl:ts.length=14:=by subst xk;rfl
 have g0:gt ts 0=.aI b 0 n 12 kc:=by subst xk;rfl
 have g1:gt ts 1=.func jh [] []:=by subst xk;rfl
 clear xk;obtain⟨i97,t1,t2,t3⟩:=(Rn hE).s;refine Cv.seq (Cv.region ?_);refine gz.step (cQ aQ) ?_;refine gz.step (rL (al:=[.aI b 0 n 12 kc]) (r:=.int .i64 n) (l:=[]) (by simp[km,aQ,aN,hl,g0]) (by
  obtain⟨cD,jA,jS,jB,jZ,dQ⟩:=i97;simp only at t2;subst t2;simp[bB,nw,t1])) ?_
 refine gz.step (gF aQ) ?_;refine gz.nil ?_;have c3:∃i,E.ty 3=some i/\i.cD=.int .i64:=by
  rw[hE.ty];obtain⟨i,hi⟩:∃i,E0.ty 3=some i:=aMm.1 (by kernel_rfl);refine⟨i,hi,?_⟩
  have:(E0.ty 3).map (·.cD)=some (.int .i64):=by kernel_rfl
  rw[hi]at this;simpa using this
 have Mc:∃i,E.ty 179=some i/\i.cD=.int .u64:=by
  rw[hE.ty];obtain⟨i,hi⟩:∃i,E0.ty 179=some i:=aMm.1 (by kernel_rfl);refine⟨i,hi,?_⟩
  have:(E0.ty 179).map (·.cD)=some (.int .u64):=by kernel_rfl
  rw[hi]at this;simpa using this
 obtain⟨i3,c3,c3'⟩:=c3;obtain⟨i128,Mc,aoq⟩:=Mc;refine Cv.region ?_;refine gz.step (cQ aQ) ?_;refine gz.step (cQ aQ) ?_;refine gz.step (cQ aQ) ?_;refine gz.step (OP (k:=.i64) (n:=(n:Int)) (by rw[aQ];simp[aY,aN,hl]) c3 Mc aoq) ?_;obtain⟨m,hm⟩:=ati;refine gz.VZ (f:=210) (al:=[.int .u64 n]) ⟨m,hm⟩ (fun pc hpc=>Gs rfl (by simp[km,aQ,aY,aN,hl,aW];rw[IntWalk.u64_in _ (by omega)]) h144 rfl hpc) ?_;refine gz.step (cQ aQ) ?_;refine gz.VY (f:=231) (al:=[.aI b 0 n 12 kc,.int .i64 0,.int .i64 n,nB,.func jh [] []]) rfl (by simp[km,aQ,dh,aY,aN,hl,g0,g1]) (by rw[hE.fn];exact amy) rfl (by rw[hE.rC];exact BQ) ?_;have hap:∀(H:Hp) (e:cC),e=(if bY nB then cC.looks []else cC.marks [])->e.app H=H:=by
  intro H e he;subst he
  split<;>rfl
 simp only[fu];rw[hap _ _ rfl];refine alS hE D hn hp hb fun ts'=>⟨fun id h=>(by cases h),[],rfl,?_⟩
 exact gz.nil (hQ _)
end
def axC:Code:=(match Tryz.f134.body with|some c=>c|none=>.skip)
def avZ:E0.fn 134=some {code:=axC,ntmps:=70,results:=[.tmp 4],pure:=true,eE:=false}:=by kernel_rfl
def zG:Nat->Code->List Code
 |0,_=>[]
 |k+1,.seq a b=>a::zG k b
 |_,_=>[]
def behind:Nat->Code->Code
 |0,c=>c
 |k+1,.seq _ b=>behind k b
 |_,c=>c
def A5:∀(k:Nat) (c:Code),OI (zG k c) (behind k c)=c
 |0,_=>rfl
 |k+1,.seq a b=>by simp only[zG,behind,OI,A5 k b]
 |k+1,.skip=>rfl
 |k+1,.label _=>rfl
 |k+1,.region .. =>rfl
 |k+1,.cond .. =>rfl
 |k+1,.block .. =>rfl
 |k+1,.loop .. =>rfl
 |k+1,.exit _=>rfl
 |k+1,.goto _=>rfl
 |k+1,.ret=>rfl
 |k+1,.scope _=>rfl
 |k+1,.refuse _=>rfl
 |k+1,.rangeFunc .. =>rfl
def Ow:Code:=(match behind 7 axC with|.seq a _=>a|_=>.skip)
def avE:Code:=(match behind 7 axC with|.seq _ b=>b|_=>.skip)
section
variable{E:Env}{n:Nat}{row:Nat->List AV}
def DS{ops:List Oper}{dr:Bool}{aP d t tS tE:Nat}{p:String}{af:Array Edge}{ts:List AV}{H:Hp}{pc:Pc}{ic yc:Ic}{x:Operand}{cs:List AV}{iS iE:sO}{z:List AV}
  (hS:E.ty tS=some iS) (hSu:iS.cD=.slice tE) (hE:E.ty tE=some iE) (hz:iE.zero=some z) (Eh:z.length=iE.size) (Ju:0<iE.size) (hsm:iE.size<=16777216) (hx:bT ts x=some (.agg cs)) (hc:cs.length=iE.size):
  bU E pc ic yc dr ops aP ⟨some d,.buildSlice tS 1 #[(0,x)],t,p,af,none⟩ ts H=some (ts.set d (.aI aP 0 1 iE.size 1),.bJ [(aP,.cells .live cs)]):=by
 obtain⟨cD,jA,jS,jB,jZ,dQ⟩:=iS;simp only at hSu;subst hSu;have hp:sC ts [(0,x)]=some [(0,.agg cs)]:=by simp[sC,hx]
 have hf:fD (fun i=>some (i*iE.size,iE.size)) (gD z 1) [(0,.agg cs)]=some cs:=by simp only[fD,gD,aQw,AV.cells,hc,Eh,Nat.zero_mul,Nat.zero_add,ne_eq,not_true_eq_false,decide_false,gt_iff_lt,Nat.lt_irrefl,Bool.or_self,aK4,if_false,List.take_zero,List.nil_append];rw[List.drop_of_length_le (by omega),aQw]
 simp only[bU,bE,dH,hS,hE,hz,hp,bt,if_true];rw[if_pos ⟨Eh,Ju,by omega⟩,hf];simp only[aLt]
def As:AV->Bool
 |.bool _|.int .. |.str _|.gQ|.cU .. |.ie .. |.aH|.dx|.aK .. |.gd|.vM .. |.fQ|.nilIface=>true
 |_=>false
def acV{H:Hp}{k:Nat}{v:AV}(h:As v=true):fz H (k+1) v=some (v,[]):=by
 cases v<;>simp[As]at h<;>simp[fz]
def F5{H:Hp}{k:Nat}:∀{l:List AV},l.all As=true->eZ (fz H (k+1)) l=some (l.map fun v=>(v,[]))
 |[],_=>rfl
 |v::l,h=>by
  simp only[List.all_cons,aMh]at h;simp only[eZ,acV h.1,F5 h.2,List.map_cons]
def WY{H:Hp}{b n s kc:Nat}{cs:List AV}(hb:H[b]?=some (.cells .live cs))(hl:cs.length=n*s)(ha:cs.all As=true):fz H 40 (.aI b 0 n s kc)=some (.aK cs n,[b]):=by
 have h1:(cs.drop 0).take (n*s)=cs:=by rw[List.drop_zero,aOv (by omega)]
 have h2:=F5 (H:=H) (k:=38) ha;unfold fz;simp only[hb];have h3:(decide (oe.live=oe.dead)||decide (cs.length<0+n*s))=false:=by
  simp;omega
 rw[h3];simp only[aK4,if_false,h1,h2,aLt,List.map_map];have e1:(cs.map ((fun x:AV×List Nat=>x.1)∘fun v=>(v,[])))=cs:=by rw[show((fun x:AV×List Nat=>x.1)∘fun v=>(v,[]))=id from rfl,List.map_id]
 have e2:(cs.map (fun v=>(v,([]:List Nat)))).flatMap (fun x=>x.2)=[]:=by rw[List.flatMap_eq_nil_iff];intro x hx;obtain⟨y,_,rfl⟩:=aMr.1 hx;rfl
 rw[e1,e2]
def alF{ops rest:List Oper}{c:Code}{ts:List AV}{H:Hp}{J:List AV->Hp->Prop}(h:gz E ops rest ts H fun ts1 H1=>Cv E c ts1 H1 fun ex oc H2=>ex=.normal/\J oc H2):
  ∃n ts1 H1 oc H2,qa E (jE E (bR E n)) (kQ E (bR E n)) (lI (bR E n)) ops rest ts H=some (ts1,H1)/\bR E n c ts1 H1=some (.normal,oc,H2)/\J oc H2:=by
 obtain⟨n,ts1,H1,h1,m,ex,oc,H2,h2,rfl,h3⟩:=h;have l1:=cY (E:=E) (Nat.le_max_left n m);have l2:=cY (E:=E) (Nat.le_max_right n m);exact⟨max n m,ts1,H1,oc,H2,rA (lH l1) (jV l1) (jW l1) h1,l2 _ _ _ _ h2,h3⟩
def U4{H:Hp}{b:Nat}{x y:ct}(h:b<H.length):(cC.bJ [(b,x),(H.length,y)]).app H=H.set b x++[y]:=by simp[cC.app,cJ,h]
structure afG(E:Env)(iS iE:sO)(z:List AV):Prop where
 hS:E.ty 135=some iS
 hSu:iS.cD=.slice 62
 hE:E.ty 62=some iE
 Xc:iE.isAgg=true
 l8:iE.size=12
 hz:iE.zero=some z
 Eh:z.length=12
 hby:iE.bytes<=10000
def avK{E:Env}(h:Over E):∃iS iE z,afG E iS iE z:=by
 obtain⟨i,hi⟩:∃i,E0.ty 135=some i:=aMm.1 (by kernel_rfl);obtain⟨e,he⟩:∃i,E0.ty 62=some i:=aMm.1 (by kernel_rfl);have a1:(E0.ty 135).map (·.cD)=some (.slice 62):=by kernel_rfl
 have a2:(E0.ty 62).map (·.isAgg)=some true:=by kernel_rfl
 have a3:(E0.ty 62).map (·.size)=some 12:=by kernel_rfl
 have a4:(E0.ty 62).bind (·.zero)|>.map (·.length)|>(·==some 12):=by kernel_rfl
 have a5:(E0.ty 62).map (fun i=>Nat.ble i.bytes 10000)=some true:=by kernel_rfl
 rw[hi]at a1;rw[he]at a2 a3 a4 a5;simp only[aLt,Option.some.injEq,Option.bind_some,beq_iff_eq]at a1 a2 a3 a4 a5;cases hz:e.zero with
 |none=>rw[hz]at a4;cases a4
 |some z=>
  rw[hz]at a4;exact⟨i,e,z,by rw[h.ty];exact hi,a1,by rw[h.ty];exact he,a2,a3,hz,by simpa using a4,aWy a5⟩
def Inv(row:Nat->List AV)(f:Nat->Nat)(n r:Nat)(is:List Nat)(ts:List AV)(H:Hp):Prop:=
 ts[58]?=some (.ie r 0)/\ts.length=70/\(is.Nodup/\∀j∈is,j<n)/\((is=[]/\gt ts 14=.aH)∨∃b,gt ts 14=.aI b 0 is.length 12 is.length/\H[b]?=some (.cells .live ((is.map f).map row).flatten))
def ZK:Code->Array Oper×Code
 |.seq _ (.block _ (.loop (.seq _ (.seq _ (.block _ (.seq (.region _ o _) c))))))=>(o,c)
 |_=>(#[],.skip)
def aaE:Array Oper:=(ZK Ow).1
def aBK:Code:=(ZK Ow).2
def ZR{iS iE:sO}{z:List AV}(T:afG E iS iE z)(D:jG E 12 186 n row){f:Nat->Nat}{r:Nat}{is:List Nat}{i:Nat}{kk:AV}{ts:List AV}{H:Hp}(hI:Inv row f n r is ts H)(hn:n<=12)(hni:i∉is)(Ir:i<n):
  ∃N ts1 H1 oc H2,qa E (jE E (bR E N)) (kQ E (bR E N)) (lI (bR E N)) aaE.toList aaE.toList.tail (((ts.set 59 (.tuple [.bool true,kk,.agg (row (f i))])).set 60 (.bool true)).set 61 (.tuple [kk,.agg (row (f i))])) H=some (ts1,H1)/\
   bR E N aBK ts1 H1=some (.normal,oc,H2)/\Inv row f n r (is++[i]) oc H2:=by
 obtain⟨h58,hl,⟨hnd,hjn⟩,h14⟩:=hI;have ek:is.length<900:=by have:=yr hnd hjn;omega
 have Xw:(is++[i]).Nodup/\∀j∈is++[i],j<n:=by
  refine⟨List.nodup_append.2 ⟨hnd,by simp,fun x hx y hy=>by simp at hy;subst hy;rintro rfl;exact hni hx⟩,fun j hj=>?_⟩;rcases List.mem_append.1 hj with hj|hj
  ·exact hjn j hj
  ·simp at hj;omega
 refine alF ?_;generalize xk:((ts.set 59 (.tuple [.bool true,kk,.agg (row (f i))])).set 60 (.bool true)).set 61 (.tuple [kk,.agg (row (f i))])=ts';have oU:ts'.length=70:=by subst xk;simp[hl]
 have g61:gt ts' 61=.tuple [kk,.agg (row (f i))]:=by subst xk;rw[aN (by simp[hl])]
 have g14:gt ts' 14=gt ts 14:=by subst xk;simp[aY]
 have g58:ts'[58]?=some (.ie r 0):=by subst xk;simp[h58]
 clear xk;have hrl:=D.len (f i);refine gz.step (OQ (by rw[aQ,g61]) rfl) ?_;simp only[fu];refine gz.step (Ln (z:=.agg z) (by simp[eo,T.hE,T.hz,T.Xc])) ?_;rw[GA];refine gz.step (yO (u:=.bI H.length 0) (v:=.agg (row (f i))) (l:=[(H.length,.cells .live (row (f i)))]) (by rw[aQ];simp[aN,oU]) (by rw[aQ];simp[aY,aN,oU]) (by
  simp only[fe,T.hE,AV.cells,aTh (aKE _),aLe,aQl,T.l8,hrl,T.Eh,D.one];simp[cV,hrl,T.Eh])) ?_
 rw[Dv.cp (by simp),show(H++[ct.cells .live (AV.agg z).cells]).set H.length (.cells .live (row (f i)))=H++[.cells .live (row (f i))]by simp];refine gz.nil ?_;refine Cv.region ?_;refine gz.step (cQ aQ) ?_;simp only[fu];refine gz.step (rM (u:=.bI H.length 0) (r:=.agg (row (f i))) (by rw[aQ];simp[aY,aN,oU]) (by
  simp only[dW,yG,aTh (aKE _),aLe,aQl,gl,T.hE,T.Xc,T.l8];simp[hrl,aOv (Nat.le_of_eq hrl)])) ?_
 simp only[fu];refine gz.step (DS (cs:=row (f i)) T.hS T.hSu T.hE T.hz (by rw[T.Eh,T.l8]) (by rw[T.l8];omega) (by rw[T.l8];omega) (by rw[aQ];simp[aY,aN,oU]) (by rw[T.l8,hrl])) ?_;rw[GA,T.l8];obtain⟨aEa,aEq,aIe,aEE,aIT,aE4⟩:=iS;have hu:=T.hSu;simp only at hu;subst hu;have o6:∀(H':Hp),mX (H'++[ct.cells .live (row (f i))]) 12 (.aI H'.length 0 1 12 1)=some (row (f i)):=by intro H';simp only[mX,gO,ne_eq,not_true_eq_false,if_false,aTh (aKE _),aLe,aQl,hrl];simp[aOv (Nat.le_of_eq hrl)]
 have hzn:iE.zero.isNone=false:=by rw[T.hz];rfl
 have h0:iE.size≠0:=by rw[T.l8];omega
 have hby:=T.hby;rcases h14 with⟨rfl,h14⟩|⟨b,h14,hb⟩
 ·refine gz.step (rL (al:=[.aH,.aI (H++[ct.cells .live (row (f i))]).length 0 1 12 1]) (r:=.aI (H.length+2) 0 1 12 1) (l:=[(H.length+2,.cells .live (row (f i)))])
   (by simp[km,aQ,aY,aN,oU,g14,h14]) (by
    rw[builtin_append T.hS rfl (IK T.hS rfl T.hE (n:=1) rfl (by rw[T.l8];exact o6 _) (by omega) h0 (D.one _) hzn (by unfold eU;omega) (by omega)),T.l8]
    simp)) ?_
  rw[show H.length+2=((H++[ct.cells .live (row (f i))])++[ct.cells .live (row (f i))]).length by simp,GA];refine gz.step (gF aQ) ?_;refine gz.nil ⟨trivial,?_,?_,?_,.inr ⟨H.length+2,?_,?_⟩⟩
  ·simp[g58]
  ·simp[oU]
  ·exact Xw
  ·simp[aY,aN,oU]
  ·simp only[fu];rw[aTh (by simp)]
   simp
 ·have CV:b<H.length:=(aKB.1 hb).1;have hCS:=iY (qJ D (is.map f));simp only[aOY]at hCS;have sn:((H++[ct.cells .live (row (f i))])++[ct.cells .live (row (f i))])[b]?=some (.cells .live ((is.map f).map row).flatten):=by
   rw[aNB (by simp;omega),aNB CV,hb]
  refine gz.step (rL (al:=[.aI b 0 is.length 12 is.length,.aI (H++[ct.cells .live (row (f i))]).length 0 1 12 1]) (r:=.aI (H.length+2) 0 (is.length+1) 12 (is.length+1))
   (l:=[(b,.cells .dead []),(H.length+2,.cells .live (((is.map f).map row).flatten++row (f i)))])
   (by simp[km,aQ,aY,aN,oU,g14,h14]) (by
    have e1:(is.length+1)*iE.bytes<=eU:=Nat.le_trans (Nat.mul_le_mul (by omega:is.length+1<=1000) hby) (by decide)
    have:=qY (aP:=((H++[ct.cells .live (row (f i))])++[ct.cells .live (row (f i))]).length) (off:=0) (kc:=is.length) T.hS rfl T.hE (n:=1) (x:=.aI (H++[ct.cells .live (row (f i))]).length 0 1 12 1) rfl (by rw[T.l8];exact o6 _) (by omega) h0 (D.one (f i)) hzn e1 (by omega) sn (by omega) (by rw[T.l8];omega)
    rw[T.l8]at this;rw[builtin_append T.hS rfl this,List.drop_zero,aOv (by omega)]
    simp)) ?_
  rw[show H.length+2=((H++[ct.cells .live (row (f i))])++[ct.cells .live (row (f i))]).length by simp,U4 (by simp;omega)];refine gz.step (gF aQ) ?_;refine gz.nil ⟨trivial,?_,?_,?_,.inr ⟨H.length+2,?_,?_⟩⟩
  ·simp[g58]
  ·simp[oU]
  ·exact Xw
  ·simp[aY,aN,oU]
  ·simp only[fu];rw[aTh (by simp)]
   simp
def Sa{n:Nat}{sig is:List Nat}(hs:sig.Perm (aN1 n))(hp:is.Perm (aN1 sig.length)):(is.map fun i=>(sig[i]?).getD 0).Perm (aN1 n):=by
 refine((hp.map fun i=>(sig[i]?).getD 0)).trans (List.Perm.trans (List.Perm.of_eq ?_) hs);refine List.ext_getElem (by simp) fun i h1 h2=>?_
 simp at h1;simp[h1]
structure Found(E:Env)(n:Nat)(row:Nat->List AV)(args:List AV):Prop where
 data:jG E 12 186 n row
 atoms:∀p,(row p).all As=true
 pos:0<n
 few:n<=12
 pre:∃(N:Nat) (Ej:List AV) (H0:Hp) (m:Nat) (ks:List AV) (sig:List Nat),Jc E N (zG 7 axC) (args++aKF 68 bS) []=some (Ej,H0)/\dW E H0 280 (gt Ej 5)=some (.eS m)/\
  H0[m]?=some (.map .live ks (sig.map fun p=>.agg (row p)))/\sig.Perm (aN1 n)/\gt Ej 14=.aH/\Ej.length=70
 nB:∃m nB,call E m 210 [.int .u64 n]=some nB/\aU nB=true
def RG(V:Valid E Tryz.prog)(O:oW E Tryz.prog)(hE:Over E){args:List AV}(qy:args.length=2)(F:Found E n row args):
  Good E Tryz.prog 134 args (.aK ((aN1 n).map row).flatten n):=by
 intro L w vs ik hg ha;obtain⟨N,Ej,H0,m,ks,sig,p1,p2,p3,p4,p5,p6⟩:=F.pre;have D:=F.data;obtain⟨iS,iE,z,T⟩:=avK hE;refine Ar.pure V (fi:={code:=axC,ntmps:=70,results:=[.tmp 4],pure:=true,eE:=false}) (by rw[hE.fn];exact avZ) ?_ ik hg ha;rw[qy];show Ar E Tryz.prog axC (args++aKF 68 bS) [] _
 have yh:(zG 7 axC).all (fun x=>codeOk E0 x&&flat x)=true:=by kernel_rfl
 have GX:∀c,codeOk E c=codeOk E0 c:=by
  intro c
  have:E={E0 with ov:=E.ov,rC:=E.rC}:=by
   obtain⟨ty,fn,glob,ov,rC,pairs⟩:=E;have h1:=hE.fn;have h2:=hE.ty;have h3:=hE.pairs;have h4:=hE.glob
   simp only at h1 h2 h3 h4;subst h1 h2 h3 h4;rfl
  rw[this];exact gn _ _ c
 have azX:=A5 7 axC;rw[<-azX];refine Ar.OI V O p1 (by simp only[GX];exact yh) ?_;show Ar E Tryz.prog (.seq Ow avE) Ej H0 _
 have h187:∃ti,E.ty 280=some ti/\ti.cD=.map 43 62:=by
  rw[hE.ty];obtain⟨i,hi⟩:∃i,E0.ty 280=some i:=aMm.1 (by kernel_rfl);refine⟨i,hi,?_⟩
  have:(E0.ty 280).map (·.cD)=some (.map 43 62):=by kernel_rfl
  rw[hi]at this;simpa using this
 obtain⟨ti,q1,q2⟩:=h187
 let f:Nat->Nat:=fun i=>(sig[i]?).getD 0
 have C0:sig.length=n:=by rw[p4.length_eq];simp
 refine Ar.seq ?_;refine Ar.mapRange V O (s:=58) (dm:=57) (d1:=59) (d2:=60) (d3:=61) (N:=70) (m:=m) (ts1:=Ej.set 57 (.eS m)) (e1:=.bJ []) (H1:=H0) (ks:=ks) (vs:=sig.map fun p=>.agg (row p)) (ti:=ti) (kt:=43) (et:=62)
  rfl rfl rfl rfl rfl rfl q1 q2 rfl rfl rfl rfl rfl rfl rfl rfl rfl (by decide) (by decide) ?_ ?_ (by decide) (by decide) ?_ rfl ?_ p3 (Inv row f n) ?_ ?_ ?_ ?_
 ·rw[GX];kernel_rfl
 ·kernel_rfl
 ·exact rM aQ p2
 ·rw[aNv (by omega)]
 ·intro r is ts H hI;exact⟨hI.1,hI.2.1⟩
 ·intro r;refine⟨?_,by simp[p6],by simp,.inl ⟨rfl,?_⟩⟩
  ·rw[aNv (by simp[p6])]
  ·rw[aY (by omega),aY (by omega),p5]
 ·intro r is i k v ts H h1 h2 h3 h4;have hv:v=.agg (row (f i)):=by
   rw[List.getElem?_map,Option.map_eq_some_iff]at h3;obtain⟨p,hp,rfl⟩:=h3;show AV.agg (row p)=.agg (row ((sig[i]?).getD 0))
   rw[hp];rfl
  subst hv;exact ZR T D h4 F.few h1 (by have:=(aKB.1 h3).1;simp at this;omega)
 ·intro r is ts H hp hI;simp only[aOY]at hp;have wI:(is.map f).Perm (aN1 n):=Sa p4 hp;have LJ:is.length=n:=by have:=wI.length_eq;simpa using this
  obtain⟨h58,hl,_,h14⟩:=hI;have eQ:is≠[]:=by intro q;subst q;simp at LJ;have:=F.pos;omega
  obtain⟨b,g14,hb⟩:∃b,gt ts 14=.aI b 0 is.length 12 is.length/\H[b]?=some (.cells .live ((is.map f).map row).flatten):=by
   rcases h14 with h|h
   ·exact absurd h.1 eQ
   ·exact h
  rw[LJ]at g14;obtain⟨lm,nB,l1,l2⟩:=F.nB;have CV:b<H.length:=(aKB.1 hb).1;generalize xk:(ts.set 59 (.tuple [.bool false])).set 60 (.bool false)=ts';have oU:ts'.length=70:=by subst xk;simp[hl]
  have asb:gt ts' 14=.aI b 0 n 12 n:=by subst xk;simp[aY,g14]
  clear xk;refine Ar.agU V O ?_ (by rw[GX];kernel_rfl) (by kernel_rfl);refine Cv.seq (Cv.region ?_);refine gz.step (cQ aQ) ?_;refine gz.VY (f:=185) (al:=[.aI b 0 n 12 n,.func 186 [] []]) rfl (by simp[km,aQ,lu,aN,oU,asb]) (by rw[hE.fn];exact amx) rfl (by rw[hE.rC];exact BQ) ?_;simp only[fu];refine aeK hE D F.few ⟨lm,l1⟩ l2 (fun fi h=>?_) wI hb fun oc=>⟨fun id h=>(by cases h),[],rfl,?_⟩
  ·rw[hE.fn]at h
   have:(E0.fn 210).map (·.pure)=some true:=by kernel_rfl
   rw[h]at this;simpa using this
  refine gz.nil ?_;refine Cv.seq (Cv.region ?_);refine gz.step (cQ aQ) ?_;refine gz.step (gF aQ) ?_;refine gz.nil ?_;simp only[fu];refine Cv.ret ⟨fun id h=>(by cases h),[.aI b 0 n 12 n],[b],?_,?_⟩
  ·show some [gt _ 4]=some [AV.aI b 0 n 12 n]
   congr 2;simp[aY,aN,oU,asb]
  ·have hlen:=iY (qJ D (aN1 n));simp only[aOY,List.length_range]at hlen;have hat:(((aN1 n).map row).flatten).all As=true:=by rw[aLq];intro x hx;obtain⟨r,hr,hx⟩:=List.mem_flatten.1 hx;obtain⟨p,_,rfl⟩:=aMr.1 hr;exact aLq.1 (F.atoms p) x hx
   have hz:=WY (H:=H.set b (.cells .live ((aN1 n).map row).flatten)) (b:=b) (n:=n) (s:=12) (kc:=n) (aNv CV) hlen hat;show bW _ [AV.aI b 0 n 12 n]=_
   unfold bW;rw[show aV [AV.aI b 0 n 12 n]=false from rfl];simp only[aK4,if_false,eZ,hz,List.map_cons,List.map_nil,List.flatMap_cons,List.flatMap_nil,aQw]
end
def rowOf(Bx:List (List AV))(p:Nat):List AV:=(Bx[p]?).getD (aKF 12 (.bool false))
def chunk:Nat->List AV->List (List AV)
 |0,_=>[]
 |n+1,cs=>cs.take 12::chunk n (cs.drop 12)
def ZT(r:List AV):Bool:=aWz r.length 12&&r.all cL&&aV r&&r.all As
def aqn(E:Env)(N:Nat)(Bx:List (List AV))(p q:Nat):Bool:=match call E N 186 [.agg (rowOf Bx p),.agg (rowOf Bx q)]with
 |some (.int .i64 z)=>decide (z<0)==decide (p<q)
 |_=>false
def X7:AV->Bool
 |.aH=>true
 |_=>false
def Z2(Bx:List (List AV))(vs:List AV):List Nat:=vs.map fun v=>Bx.findIdx fun r=>mG v (.agg r)
def preB(E:Env)(n:Nat)(Bx:List (List AV))(x:Option (List AV×Hp)):Bool:=match x with
 |some (Ej,H0)=>(match dW E H0 280 (gt Ej 5)with
  |some (.eS m)=>(match H0[m]? with
   |some (.map .live ks vs)=>(Z2 Bx vs).isPerm (aN1 n)&&vD vs ((Z2 Bx vs).map fun p=>.agg (rowOf Bx p))
   |_=>false)
  |_=>false)&&X7 (gt Ej 14)&&aWz Ej.length 70
 |none=>false
def auy(E:Env)(N n:Nat):Bool:=match call E N 210 [.int .u64 n]with
 |some l=>aU l
 |none=>false
def MJ(E:Env)(N n:Nat)(Bx:List (List AV))(args:List AV):Bool:=
 aWz Bx.length n&&Bx.all ZT&&Nat.ble 1 n&&Nat.ble n 12&&((aN1 n).all fun p=>(aN1 n).all fun q=>aqn E N Bx p q)&&
 preB E n Bx (Jc E N (zG 7 axC) (args++aKF 68 bS) [])&&auy E N n
def WU{E:Env}(hE:Over E){N n:Nat}{Bx:List (List AV)}{args:List AV}(h:MJ E N n Bx args=true):Found E n (rowOf Bx) args:=by
 unfold MJ at h;simp only[aMh]at h;obtain⟨⟨⟨⟨⟨⟨h1,h2⟩,h3⟩,h4⟩,h5⟩,h6⟩,h7⟩:=h;have o5:∀p,ZT (rowOf Bx p)=true:=by
  intro p;unfold rowOf;cases hp:Bx[p]? with
  |none=>rfl
  |some r=>exact aLq.1 h2 r (List.mem_of_getElem? hp)
 have Qk:∀p,(rowOf Bx p).length=12/\(rowOf Bx p).all cL=true/\aV (rowOf Bx p)=true/\(rowOf Bx p).all As=true:=by
  intro p
  have:=o5 p
  unfold ZT at this;simp only[aMh]at this;exact⟨aWx this.1.1.1,this.1.1.2,this.1.2,this.2⟩
 refine⟨⟨fun p=>(Qk p).1,fun p=>(Qk p).2.1,fun p=>(Qk p).2.2.1,fun fi hf=>?_,fun p q hp hq=>?_⟩,fun p=>(Qk p).2.2.2,aWy h3,aWy h4,?_,?_⟩
 ·rw[hE.fn]at hf
  have:(E0.fn 186).map (·.pure)=some true:=by kernel_rfl
  rw[hf]at this;simpa using this
 ·have:=aLq.1 (aLq.1 h5 p (aNy.2 hp)) q (aNy.2 hq)
  unfold aqn at this;split at this
  ·rename_i z hz;refine⟨N,z,hz,?_⟩
   have:=beq_iff_eq.1 this
   simpa using this
  ·cases this
 ·unfold preB at h6;split at h6
  ·rename_i Ej H0 he;simp only[aMh]at h6;obtain⟨⟨h61,h62⟩,h63⟩:=h6;split at h61
   ·rename_i m hm;split at h61
    ·rename_i ks vs hb;simp only[aMh]at h61;have hv:=kJ _ _ h61.2;refine⟨N,Ej,H0,m,ks,Z2 Bx vs,he,hm,?_,List.isPerm_iff.1 h61.1,?_,aWx h63⟩
     ·rw[hb];exact congrArg (fun x=>some (ct.map oe.live ks x)) hv
     ·revert h62;cases gt Ej 14<;>simp[X7]
    ·cases h61
   ·cases h61
  ·cases h6
 ·unfold auy at h7;split at h7
  ·rename_i l hl;exact⟨N,l,hl,h7⟩
  ·cases h7
def aqI(E:Env)(N:Nat)(e:List AV×AV):Bool:=match e.2 with
 |.aK cs n=>MJ E N n (chunk n cs) e.1&&vD cs ((aN1 n).map (rowOf (chunk n cs))).flatten&&aWz e.1.length 2
 |_=>false
def aAL(E:Env)(N:Nat)(l:Table):Bool:=l.all fun p=>aWz p.1 134&&p.2.all (aqI E N)
def Gd(T:Dv.Tree)(k:Nat):Over (E0.upto T k):=⟨ae1,ae2,aap.trans rfl,OX,TR⟩
def L4(V:Valid E0 Tryz.prog)(O:oW E0 Tryz.prog){T:Dv.Tree}{k N:Nat}{l:Table}(hg:df E0 Tryz.prog T k)(h:aAL (E0.upto T k) N l=true):
  ∀p,p∈l->∀e,e∈p.2->Good E0 Tryz.prog p.1 e.1 e.2:=by
 intro p hp e he;have h1:=aLq.1 h p hp;simp only[aMh]at h1;have h2:=aLq.1 h1.2 e he;obtain⟨V',O'⟩:=Ia V O hg;obtain⟨f,K⟩:=p;obtain⟨args,r⟩:=e;have hf:f=134:=aWx h1.1;subst hf;unfold aqI at h2;simp only at h2;split at h2
 ·rename_i cs n;simp only[aMh]at h2;obtain⟨⟨h3,h4⟩,h5⟩:=h2
  have:=RG V' O' (Gd T k) (aWx h5) (WU (Gd T k) h3)
  rw[<-kJ _ _ h4]at this;exact FA this
 ·cases h2
end Go.Proofs.YtmkjgfnicfpjpaaGreatDoor
