/- Lemmas for AssemblyRefuses; no condition. -/
import Derived.Test.YtmkjgfnicfpjpaaGreatDoorRam
set_option linter.all false
set_option maxHeartbeats 100000000
set_option maxRecDepth 100000
noncomputable section
open List renaming range->aOR,getElem?_eq_some_iff->aLq,getElem?_eq_getElem->aL6,getElem?_set_self->aOl,getElem?_append_right->aT6,replicate->aLu,all_eq_true->aMf,take_of_length_le->aPk,getElem?_cons_zero->aRa,getElem?_set_ne->aOj,getElem?_append_left->aOr,append_nil->aRl,length_map->aPN,mem_range->aOo,mem_map->aNg,getElem_mem->aMg
open Option renaming isSome_iff_exists->aNb,map_some->aMi
open Bool renaming false_eq_true->aLT,and_eq_true->aM6
open Nat renaming eq_of_beq_eq_true->aXf,le_of_ble_eq_true->aXg,le_refl->aLt,sub_self->aL3,beq->aXh
namespace Go.Proofs.YtmkjgfnicfpjpaaGreatDoor
open Go Dv
variable{E:Env}[C:Ctx E]
structure pH(E:Env)(tS tE esz:Nat):Prop where
 s:∃i,E.ty tS=some i/\i.cD=.slice tE/\i.isAgg=false
 e:∃i,E.ty tE=some i/\i.isAgg=true/\i.size=esz
 p4:E.pairs 4 17=[]
 p6:E.pairs 6 18=[]
structure jH(E:Env)(esz jh n:Nat)(row:Nat->List AV):Prop where
 len:∀p,(row p).length=esz
 one:∀p,(row p).all cN=true
 pure:∀p,aV (row p)=true
 fn:∀fi,E.fn jh=some fi->fi.pure=true
 cmp:∀p q,p<n->q<n->∃m z,call E m jh [.agg (row p),.agg (row q)]=some (.int .i64 z)/\(z<0↔p<q)
section
variable{E:Env}{tS tE esz jh n:Nat}{row:Nat->List AV}
def qP(D:jH E esz jh n row)(js:List Nat):∀r∈js.map row,r.length=esz:=by intro r hr;obtain⟨p,_,rfl⟩:=aNg.1 hr;exact D.len p
def ixS(T:pH E tS tE esz){b len kc:Nat}{k:IntKind}{z:Int}{j:Nat}(hz:z=j)(hj:j<len:=by omega):
  cd E tS (.aI b 0 len esz kc) (.int k z)=some (.bK b (j*esz)):=by
 obtain⟨i,h1,h2,_⟩:=T.s;obtain⟨e,h3,_,h4⟩:=T.e;subst hz;simp only[cd,h1,h2,h3,h4];rw[if_pos ⟨trivial,by omega,by omega⟩]
 simp
def ldS(T:pH E tS tE esz)(D:jH E esz jh n row){H:Hp}{b:Nat}{js:List Nat}(hb:H[b]?=some (.cells .live (js.map row).flatten)){j p:Nat}(hj:js[j]?=some p):
  dU E H tE (.bK b (j*esz))=some (.agg (row p)):=by
 obtain⟨e,h3,h4,h5⟩:=T.e;have eh:=(aLq.1 hj).1
 have:=iM (qP D js) (j:=j) (by simpa using eh)
 simp only[dU,yL,hb,eS,h3,h4,h5];simp only[show(qW.live=qW.dead)=False by simp,if_false,if_true];rw[if_pos this,jC (qP D js) (r:=row p) (by simp[hj])]
def stS(T:pH E tS tE esz)(D:jH E esz jh n row){H:Hp}{b:Nat}{js:List Nat}(hb:H[b]?=some (.cells .live (js.map row).flatten)){j p:Nat}(hj:j<js.length):
  fh E H tE (.bK b (j*esz)) (.agg (row p))=some [(b,.cells .live ((js.set j p).map row).flatten)]:=by
 obtain⟨e,h3,h4,h5⟩:=T.e
 have:=iM (qP D js) (j:=j) (by simpa using hj)
 simp only[fh,hb,h3,h5,AV.cells,D.len p,D.one p];have ej:(decide ((esz:Nat)≠esz)||decide (j*esz+esz>(js.map row).flatten.length)||!true)=false:=by simp only[ne_eq,not_true_eq_false,decide_false,Bool.false_or,Bool.not_true,Bool.or_false,decide_eq_false_iff_not];omega
 rw[ej];simp only[aLT,if_false];rw[Je (qP D js) (by simpa using hj) (D.len p),List.map_set]
end
def XZ:Code:=(match Tryz.f270.body with|some c=>c|none=>.skip)
section
variable{E:Env}{jh n:Nat}{row:Nat->List AV}
structure jz(ts:List AV)(b kc n jh:Nat):Prop where
 len:ts.length=53
 g0:gt ts 0=.aI b 0 n 12 kc
 g1:gt ts 1=.int .i64 0
 g2:gt ts 2=.int .i64 n
 g3:gt ts 3=.func jh [] []
def jz.set{ts:List AV}{b kc n jh:Nat}(h:jz ts b kc n jh){i:Nat}(hi:4<=i)(v:AV):jz (ts.set i v) b kc n jh:=
 ⟨by simp[h.len],by rw[aZ (by omega)];exact h.g0,by rw[aZ (by omega)];exact h.g1,by rw[aZ (by omega)];exact h.g2,by rw[aZ (by omega)];exact h.g3⟩
def axt{n:Nat}(h:n<1000):aW .i64 ((n:Int)+1)=((n+1:Nat):Int):=by unfold aW;rw[IntWalk.i64_in _ (by omega)];omega
def aeS{n:Nat}(h:n<1000)(h0:0<n):aW .i64 ((n:Int)-1)=((n-1:Nat):Int):=by unfold aW;rw[IntWalk.i64_in _ (by omega)];omega
def avq:Code->Code
 |.block _ (.loop (.seq _ (.seq (.block _ (.seq _ (.block _ (.loop (.seq (.seq r _) _))))) _)))=>r
 |_=>.skip
def alX:Code:=match XZ with|.seq _ x=>avq x|_=>.skip
def aes(T:pH E 135 62 12)(D:jH E 12 jh n row)(hn:n<1000){b kc:Nat}{ts:List AV}{H:Hp}{js:List Nat}(hS:jz ts b kc n jh)(hlen:js.length=n)(eh:∀p∈js,p<n)
  (hb:H[b]?=some (.cells .live (js.map row).flatten)) {i j:Nat} (hi:gt ts 8=.int .i64 i) (hj:gt ts 9=.int .i64 j) (hjn:j<n) {Q:Ex->List AV->Hp->Prop}
  (hQ:∀ts',jz ts' b kc n jh->gt ts' 8=.int .i64 i->gt ts' 9=.int .i64 j->
   gt ts' 34=.bool (if h:0<j then decide (js[j]'(by omega)<js[j-1]'(by omega))else false)->Q .normal ts' H):
  Cv E alX ts H Q:=by
 unfold alX;refine Cv.BQ rfl ?_;rcases Nat.eq_zero_or_pos j with h0|h0
 ·subst h0;refine dD.step rfl (cR aQ) ?_;refine dD.step rfl (cR aQ) ?_;refine dD.step rfl (gZ (u:=.int .i64 0) (v:=.int .i64 0) (r:=.bool false) (by rw[aQ];simp[aZ,aN,hS.len,hS.g1,hj]) (by rw[aQ];simp[aZ,aN,hS.len,hS.g1,hj]) rfl) ?_;refine dD.step rfl (cR aQ) ?_;refine dD.step rfl (eG (dj:=21) (b:=false) rfl (by simp[aZ,aN,hS.len])) ?_;refine dD.step rfl (eG (dj:=21) (b:=false) rfl (by simp[aZ,aN,hS.len,bA])) ?_;refine dD.step rfl (eG (dj:=21) (b:=false) rfl (by simp[aZ,aN,hS.len,bA])) ?_;refine dD.step rfl (eG (dj:=21) (b:=false) rfl (by simp[aZ,aN,hS.len,bA])) ?_;refine dD.step rfl (eG (dj:=21) (b:=false) rfl (by simp[aZ,aN,hS.len,bA])) ?_;refine dD.step rfl (eG (dj:=21) (b:=false) rfl (by simp[aZ,aN,hS.len,bA])) ?_;refine dD.step rfl (eG (dj:=21) (b:=false) rfl (by simp[aZ,aN,hS.len,bA])) ?_;refine dD.step rfl (eG (dj:=21) (b:=false) rfl (by simp[aZ,aN,hS.len,bA])) ?_;refine dD.step rfl (eG (dj:=21) (b:=false) rfl (by simp[aZ,aN,hS.len,bA])) ?_;refine dD.step rfl (eG (dj:=21) (b:=false) rfl (by simp[aZ,aN,hS.len,bA])) ?_;refine dD.step rfl (eG (dj:=21) (b:=false) rfl (by simp[aZ,aN,hS.len,bA])) ?_;refine dD.step rfl (eG (dj:=21) (b:=false) rfl (by simp[aZ,aN,hS.len,bA])) ?_;refine dD.step rfl (HU (q:=false) (v:=.bool false) (by rw[aQ];simp[aZ,aN,hS.len,bA]) rfl) ?_;refine dD.nil ⟨by show(E.pairs 4 17).all _=true;rw[T.p4];rfl,hQ _ ?_ ?_ ?_ ?_⟩
  ·simp only[bA]
   repeat (refine jz.set ?_ (by decide) _)
   exact hS
  ·simp[aZ,aN,hS.len,bA,hi]
  ·simp[aZ,aN,hS.len,bA,hj]
  ·simp[aZ,aN,hS.len,bA]
 ·refine dD.step rfl (cR aQ) ?_;refine dD.step rfl (cR aQ) ?_;refine dD.step rfl (gZ (u:=.int .i64 j) (v:=.int .i64 0) (r:=.bool true) (by rw[aQ];simp[aZ,aN,hS.len,hS.g1,hj]) (by rw[aQ];simp[aZ,aN,hS.len,hS.g1,hj]) (by simp[cp,k8];omega)) ?_;refine dD.step rfl (cR aQ) ?_;refine dD.step rfl ((eX (dj:=21) rfl (by simp[aZ,aN,hS.len])).trans (cR aQ)) ?_;refine dD.step rfl ((eX (dj:=21) rfl (by simp[aZ,aN,hS.len])).trans (cR aQ)) ?_;refine dD.step rfl ((eX (dj:=21) rfl (by simp[aZ,aN,hS.len])).trans (cR aQ)) ?_;refine dD.step rfl ((eX (dj:=21) rfl (by simp[aZ,aN,hS.len])).trans (iR (u:=.aI b 0 n 12 kc) (v:=.int .i64 j) (r:=.bK b (j*12)) (by rw[aQ];simp[aZ,aN,hS.len,hS.g0,hS.g1,hS.g3,hj]) (by rw[aQ];simp[aZ,aN,hS.len,hS.g0,hS.g1,hS.g3,hj]) (ixS T rfl hjn))) ?_;refine dD.step rfl ((eX (dj:=21) rfl (by simp[aZ,aN,hS.len])).trans (rR (u:=.bK b (j*12)) (by rw[aQ];simp[aZ,aN,hS.len,hS.g0,hS.g1,hS.g3,hj]) (ldS T D hb (aL6 (by omega:j<js.length))))) ?_;refine dD.step rfl ((eX (dj:=21) rfl (by simp[aZ,aN,hS.len])).trans (cR aQ)) ?_;refine dD.step rfl ((eX (dj:=21) rfl (by simp[aZ,aN,hS.len])).trans (cR aQ)) ?_;refine dD.step rfl ((eX (dj:=21) rfl (by simp[aZ,aN,hS.len])).trans (gZ (u:=.int .i64 j) (v:=.int .i64 1) (r:=.int .i64 (j-1:Nat)) (by rw[aQ];simp[aZ,aN,hS.len,hS.g0,hS.g1,hS.g3,hj]) rfl (by simp only[cp,k8,ne_eq,not_true_eq_false,if_false];rw[aeS (by omega) h0]))) ?_;refine dD.step rfl ((eX (dj:=21) rfl (by simp[aZ,aN,hS.len])).trans (iR (u:=.aI b 0 n 12 kc) (v:=.int .i64 (j-1:Nat)) (r:=.bK b ((j-1)*12)) (by rw[aQ];simp[aZ,aN,hS.len,hS.g0,hS.g1,hS.g3,hj]) (by rw[aQ];simp[aZ,aN,hS.len,hS.g0,hS.g1,hS.g3,hj]) (ixS T rfl))) ?_;refine dD.step rfl ((eX (dj:=21) rfl (by simp[aZ,aN,hS.len])).trans (rR (u:=.bK b ((j-1)*12)) (by rw[aQ];simp[aZ,aN,hS.len,hS.g0,hS.g1,hS.g3,hj]) (ldS T D hb (aL6 (by omega:j-1<js.length))))) ?_;obtain⟨m,z,hm,hz⟩:=D.cmp js[j] js[j-1] (eh _ (aMg _)) (eh _ (aMg _));refine dD.V2 ⟨m,hm⟩ (fun pc hpc=>(eX (dj:=21) rfl (by simp[aZ,aN,hS.len])).trans (Gq (by rw[aQ];simp[aZ,aN,hS.len,hS.g0,hS.g1,hS.g3,hj]) (by simp[kr,aQ,aZ,aN,hS.len]) D.fn (by simp[aV,aU,D.pure]) hpc)) ?_;refine dD.step rfl ((eX (dj:=21) rfl (by simp[aZ,aN,hS.len])).trans (gZ (u:=.int .i64 z) (v:=.int .i64 0) (r:=.bool (decide (js[j]<js[j-1]))) (by rw[aQ];simp[aZ,aN,hS.len,hS.g0,hS.g1,hS.g3,hj]) rfl (by simp[cp,k8,hz]))) ?_;refine dD.step rfl (HU (q:=true) (v:=.bool (decide (js[j]<js[j-1]))) (by rw[aQ];simp[aZ,aN,hS.len,hS.g0,hS.g1,hS.g3,hj]) (by rw[if_pos rfl,aQ];simp[aZ,aN,hS.len])) ?_;refine dD.nil ⟨by show(E.pairs 4 17).all _=true;rw[T.p4];rfl,hQ _ ?_ ?_ ?_ ?_⟩
  ·repeat (refine jz.set ?_ (by decide) _)
   exact hS
  ·simp[aZ,aN,hS.len,hi]
  ·simp[aZ,aN,hS.len,hj]
  ·simp[aZ,aN,hS.len,h0]
def alZ:Code->Code
 |.block _ (.loop (.seq _ (.seq (.block _ (.seq _ (.block _ (.loop (.seq _ (.seq (.block _ r) _)))))) _)))=>r
 |_=>.skip
def alY:Code:=match XZ with|.seq _ x=>alZ x|_=>.skip
def aet(T:pH E 135 62 12)(D:jH E 12 jh n row)(hn:n<1000){b kc:Nat}{ts:List AV}{H:Hp}{js:List Nat}(hS:jz ts b kc n jh)(hlen:js.length=n)
  (hb:H[b]?=some (.cells .live (js.map row).flatten)) {i j:Nat} (hi:gt ts 8=.int .i64 i) (hj:gt ts 9=.int .i64 j) (hjn:j<n) (h0:0<j) {Q:Ex->List AV->Hp->Prop}
  (hQ:∀ts',jz ts' b kc n jh->gt ts' 8=.int .i64 i->gt ts' 9=.int .i64 j->
   Q .normal ts' (H.set b (.cells .live (((js.set j (js[j-1]'(by omega))).set (j-1) (js[j]'(by omega))).map row).flatten))):
  Cv E alY ts H Q:=by
 have CW:b<H.length:=(aLq.1 hb).1;unfold alY;refine Cv.BQ rfl ?_;refine dD.step rfl (cR aQ) ?_;refine dD.step rfl (cR aQ) ?_;refine dD.step rfl (cR aQ) ?_;refine dD.step rfl (cR aQ) ?_;refine dD.step rfl (gZ (u:=.int .i64 j) (v:=.int .i64 1) (r:=.int .i64 (j-1:Nat)) (by rw[aQ];simp[aZ,aN,hS.len,hS.g0,hj]) rfl (by simp only[cp,k8,ne_eq,not_true_eq_false,if_false];rw[aeS (by omega) h0])) ?_;refine dD.step rfl (cR aQ) ?_;refine dD.step rfl (cR aQ) ?_;refine dD.step rfl (gZ (u:=.int .i64 j) (v:=.int .i64 1) (r:=.int .i64 (j-1:Nat)) (by rw[aQ];simp[aZ,aN,hS.len,hS.g0,hj]) rfl (by simp only[cp,k8,ne_eq,not_true_eq_false,if_false];rw[aeS (by omega) h0])) ?_;refine dD.step rfl (iR (u:=.aI b 0 n 12 kc) (v:=.int .i64 (j-1:Nat)) (r:=.bK b ((j-1)*12)) (by rw[aQ];simp[aZ,aN,hS.len,hS.g0,hj]) (by rw[aQ];simp[aZ,aN,hS.len,hS.g0,hj]) (ixS T rfl)) ?_;refine dD.step rfl (rR (u:=.bK b ((j-1)*12)) (by rw[aQ];simp[aZ,aN,hS.len,hS.g0,hj]) (ldS T D hb (aL6 (by omega:j-1<js.length)))) ?_;refine dD.step rfl (cR aQ) ?_;refine dD.step rfl (cR aQ) ?_;refine dD.step rfl (iR (u:=.aI b 0 n 12 kc) (v:=.int .i64 j) (r:=.bK b (j*12)) (by rw[aQ];simp[aZ,aN,hS.len,hS.g0,hj]) (by rw[aQ];simp[aZ,aN,hS.len,hS.g0,hj]) (ixS T rfl hjn)) ?_;refine dD.step rfl (rR (u:=.bK b (j*12)) (by rw[aQ];simp[aZ,aN,hS.len,hS.g0,hj]) (ldS T D hb (aL6 (by omega:j<js.length)))) ?_;refine dD.step rfl (iR (u:=.aI b 0 n 12 kc) (v:=.int .i64 j) (r:=.bK b (j*12)) (by rw[aQ];simp[aZ,aN,hS.len,hS.g0,hj]) (by rw[aQ];simp[aZ,aN,hS.len,hS.g0,hj]) (ixS T rfl hjn)) ?_;refine dD.step rfl (yT (u:=.bK b (j*12)) (v:=.agg (row js[j-1])) (by rw[aQ];simp[aZ,aN,hS.len,hS.g0,hj]) (by rw[aQ];simp[aZ,aN,hS.len,hS.g0,hj]) (stS T D hb (by omega:j<js.length))) ?_;simp only[fw];rw[Dv.cu CW];refine dD.step rfl (iR (u:=.aI b 0 n 12 kc) (v:=.int .i64 (j-1:Nat)) (r:=.bK b ((j-1)*12)) (by rw[aQ];simp[aZ,aN,hS.len,hS.g0,hj]) (by rw[aQ];simp[aZ,aN,hS.len,hS.g0,hj]) (ixS T rfl)) ?_;refine dD.step rfl (yT (u:=.bK b ((j-1)*12)) (v:=.agg (row js[j])) (by rw[aQ];simp[aZ,aN,hS.len,hS.g0,hj]) (by rw[aQ];simp[aZ,aN,hS.len,hS.g0,hj]) (stS T D (js:=js.set j js[j-1]) (aOl (show b<List.length _ from CW)) (by simp;omega))) ?_;simp only[fw];rw[Dv.cu (by simpa using CW),List.set_set];refine dD.nil ⟨by show(E.pairs 6 18).all _=true;rw[T.p6];rfl,hQ _ ?_ ?_ ?_⟩
 ·repeat (refine jz.set ?_ (by decide) _)
  exact hS
 ·simp[aZ,hi]
 ·simp[aZ,hj]
structure pC(js:List Nat)(i j:Nat):Prop where
 p1:∀p q x y,p<q->q<=i->p≠j->q≠j->js[p]?=some x->js[q]?=some y->x<=y
 p2:∀q x y,j<q->q<=i->js[j]?=some x->js[q]?=some y->x<=y
def U0(js:List Nat)(i:Nat):Prop:=∀p q x y,p<q->q<i->js[p]?=some x->js[q]?=some y->x<=y
def pC.start{js:List Nat}{i:Nat}(h:U0 js i):pC js i i:=
 ⟨fun p q x y h1 h2 _ h4 h5 h6=>h p q x y h1 (by omega) h5 h6,fun q x y h1 h2=>by omega⟩
def pC.done{js:List Nat}{i j:Nat}(h:pC js i j)(hj:∀x y,0<j->js[j]?=some x->js[j-1]?=some y->y<=x):U0 js (i+1):=by
 intro p q x y h1 h2 h3 h4;by_cases hp:p=j
 ·subst hp;exact h.p2 q x y h1 (by omega) h3 h4
 by_cases hq:q=j
 ·subst hq;by_cases hp1:p=q-1
  ·subst hp1;exact hj y x (by omega) h4 h3
  ·obtain⟨z,hz⟩:∃z,js[q-1]?=some z:=⟨js[q-1]'(by have:=(aLq.1 h4).1;omega),aL6 _⟩;have a1:=h.p1 p (q-1) x z (by omega) (by omega) hp (by omega) h3 hz;have a2:=hj y z (by omega) h4 hz;omega
 ·exact h.p1 p q x y h1 (by omega) hp hq h3 h4
def pC.swap{js:List Nat}{i j:Nat}(h:pC js i j)(h0:0<j)(hj:j<js.length)(xj:j<=i)(eh:js[j]<js[j-1]):
  pC ((js.set j js[j-1]).set (j-1) js[j]) i (j-1):=by
 have gj:((js.set j js[j-1]).set (j-1) js[j])[j]?=some js[j-1]:=by rw[aOj (by omega),aOl hj]
 have gj1:((js.set j js[j-1]).set (j-1) js[j])[j-1]?=some js[j]:=by
  rw[aOl (by simp;omega)]
 have go:∀p,p≠j->p≠j-1->((js.set j js[j-1]).set (j-1) js[j])[p]?=js[p]?:=fun p h1 h2=>by
  rw[aOj (fun e=>h2 e.symm),aOj (fun e=>h1 e.symm)]
 have oj:js[j]?=some js[j]:=aL6 hj;have oj1:js[j-1]?=some js[j-1]:=aL6 _;refine⟨fun p q x y h1 h2 h3 h4 h5 h6=>?_,fun q x y h1 h2 h3 h4=>?_⟩
 ·by_cases hp:p=j
  ·subst hp;rw[gj]at h5;cases h5
   rw[go q (by omega) h4]at h6;exact h.p1 (p-1) q _ y (by omega) h2 (by omega) (by omega) oj1 h6
  ·rw[go p hp h3]at h5;by_cases hq:q=j
   ·subst hq;rw[gj]at h6;cases h6
    exact h.p1 p (q-1) x _ (by omega) (by omega) hp (by omega) h5 oj1
   ·rw[go q hq h4]at h6;exact h.p1 p q x y h1 h2 hp hq h5 h6
 ·rw[gj1]at h3;cases h3
  by_cases hq:q=j
  ·subst hq;rw[gj]at h4;cases h4;omega
  ·rw[go q hq (by omega)]at h4;exact h.p2 q _ y (by omega) h2 oj h4
end
section
variable{E:Env}{jh n:Nat}{row:Nat->List AV}
def jz.agS{js:List Nat}(hp:js.Perm (aOR n)):js.length=n:=by rw[hp.length_eq];simp
def jz.aAM{js:List Nat}(hp:js.Perm (aOR n)):∀p∈js,p<n:=fun p h=>aOo.1 (hp.mem_iff.1 h)
def XY(T:pH E 135 62 12)(D:jH E 12 jh n row)(hn:n<1000){b kc i:Nat}{H0:Hp}(CW:b<H0.length)(LM:i<n){Q:Ex->List AV->Hp->Prop}{lp:Code}
  (zN:lp=.seq (.seq alX (.cond (.tmp 34) .skip (.exit 2))) (.seq (.block 3 alY) (match XZ with|.seq _ (.block _ (.loop (.seq _ (.seq (.block _ (.seq _ (.block _ (.loop (.seq _ (.seq _ r)))))) _))))=>r|_=>.skip)))
  (hQ:∀ts' js',jz ts' b kc n jh->gt ts' 8=.int .i64 i->js'.Perm (aOR n)->U0 js' (i+1)->Q (.exit 2) ts' (H0.set b (.cells .live (js'.map row).flatten))):
  ∀(ts:List AV) (js:List Nat),jz ts b kc n jh->gt ts 8=.int .i64 i->gt ts 9=.int .i64 i->js.Perm (aOR n)->U0 js i->
   Cv E (.loop lp) ts (H0.set b (.cells .live (js.map row).flatten)) Q:=by
 intro ts js hS hi hj hp hU;refine Cv.loop (fun k ts H=>∃js,jz ts b kc n jh/\gt ts 8=.int .i64 i/\gt ts 9=.int .i64 k/\k<=i/\js.Perm (aOR n)/\pC js i k/\H=H0.set b (.cells .live (js.map row).flatten)) ?_ i ts _
  ⟨js,hS,hi,hj,aLt _,hp,.start hU,rfl⟩
 rintro j ts H ⟨js,hS,hi,hj,xj,hp,hI,rfl⟩;have hlen:=jz.agS hp;have hb:(H0.set b (.cells .live (js.map row).flatten))[b]?=some (.cells .live (js.map row).flatten):=aOl CW;subst zN;refine Cv.seq (Cv.seq (aes T D hn hS hlen (jz.aAM hp) hb hi hj (by omega) fun ts' hS' sB hj' hc=>?_));refine Cv.cond (t:=if h:0<j then decide (js[j]'(by omega)<js[j-1]'(by omega))else false) (by rw[aQ,hc]) ?_;by_cases h0:0<j
 ·rw[dif_pos h0];by_cases eh:js[j]'(by omega)<js[j-1]'(by omega)
  ·simp only[eh,decide_true,if_true];refine Cv.skip ?_;refine Cv.seq (Cv.block (aet T D hn hS' hlen hb sB hj' (by omega) h0 fun oe zK hi2 LN=>?_));refine Cv.region ?_;refine gz.step (cR aQ) ?_;refine gz.step (gZ (u:=.int .i64 j) (v:=.int .i64 1) (r:=.int .i64 (j-1:Nat)) (by rw[aQ];simp[aN,zK.len,LN]) rfl (by simp only[cp,k8,ne_eq,not_true_eq_false,if_false];rw[aeS (by omega) h0])) ?_;refine gz.step (gE aQ) ?_;refine gz.nil ⟨j-1,by omega,_,?_,?_,?_,by omega,(swap_perm (by omega) (by omega)).trans hp,hI.swap h0 (by omega) xj eh,?_⟩
   ·repeat (refine jz.set ?_ (by decide) _)
    exact zK
   ·simp[aZ,aN,zK.len,hi2]
   ·simp[aN,zK.len]
   ·simp only[fw];rw[List.set_set]
  ·simp only[eh,decide_false,aLT,if_false];refine Cv.exit ?_;refine hQ _ js hS' sB hp (hI.done fun x y _ hx hy=>?_);have e1:=(aLq.1 hx).2;have e2:=(aLq.1 hy).2;omega
 ·rw[dif_neg h0];simp only[aLT,if_false];refine Cv.exit ?_;exact hQ _ js hS' sB hp (hI.done fun x y h _ _=>absurd h h0)
def akV(T:pH E 135 62 12)(D:jH E 12 jh n row)(hn:n<1000){b kc:Nat}{ts:List AV}{H:Hp}{js:List Nat}(hS:jz ts b kc n jh)(hp:js.Perm (aOR n))
  (hb:H[b]?=some (.cells .live (js.map row).flatten)) {Q:Ex->List AV->Hp->Prop} (hQ:∀ts',Q .normal ts' (H.set b (.cells .live ((aOR n).map row).flatten))):
  Cv E XZ ts H Q:=by
 have CW:b<H.length:=(aLq.1 hb).1;have hH:H=H.set b (.cells .live (js.map row).flatten):=by
  refine List.ext_getElem? fun q=>?_
  rw[List.getElem?_set]
  split
  ·rename_i e;subst e;rw[hb]
  ·rfl
 refine Cv.seq ?_;refine Cv.region ?_;refine gz.step (cR aQ) ?_;refine gz.step (gZ (u:=.int .i64 0) (v:=.int .i64 1) (r:=.int .i64 1) (by rw[aQ];simp[aN,hS.len,hS.g1]) rfl rfl) ?_;refine gz.step (gE aQ) ?_;refine gz.nil ?_;simp only[fw];refine Cv.block ?_;refine Cv.loop (fun k ts H'=>∃i js,k=n-i/\0<i/\jz ts b kc n jh/\gt ts 8=.int .i64 i/\js.Perm (aOR n)/\U0 js i/\i<=n+1/\H'=H.set b (.cells .live (js.map row).flatten)) ?_ (n-1) _ _
  ⟨1,js,rfl,by omega,?_,?_,hp,?_,by omega,hH⟩
 ·rintro k ts1 H1 ⟨i,js,rfl,hi0,hS,hi,hp,hU,LM,rfl⟩;have hlen:=jz.agS hp;refine Cv.seq (Cv.seq (Cv.region ?_));refine gz.step (cR aQ) ?_;refine gz.step (cR aQ) ?_;refine gz.step (gZ (u:=.int .i64 i) (v:=.int .i64 n) (r:=.bool (decide (i<n))) (by rw[aQ];simp[aZ,aN,hS.len,hi]) (by rw[aQ];simp[aZ,aN,hS.len,hS.g2]) (by simp[cp,k8])) ?_;refine gz.nil ?_;simp only[fw];refine Cv.cond (t:=decide (i<n)) (by rw[aQ];simp[aZ,aN,hS.len]) ?_;by_cases eh:i<n
  ·simp only[eh,decide_true,if_true];refine Cv.skip ?_;refine Cv.seq (Cv.block (Cv.seq (Cv.region ?_)));refine gz.step (cR aQ) ?_;refine gz.step (gE aQ) ?_;refine gz.nil ?_;simp only[fw];refine Cv.block (XY (kc:=kc) T D hn CW eh rfl (fun oe JF zK hi2 G2 hU2=>?_) _ js ?_ ?_ ?_ hp hU)
   ·simp only[if_true];refine Cv.region ?_;refine gz.step (cR aQ) ?_;refine gz.step (gZ (u:=.int .i64 i) (v:=.int .i64 1) (r:=.int .i64 (i+1:Nat)) (by rw[aQ];simp[aN,zK.len,hi2]) rfl (by simp only[cp,k8,ne_eq,not_true_eq_false,if_false];rw[axt (by omega)])) ?_;refine gz.step (gE aQ) ?_;refine gz.nil ⟨n-(i+1),by omega,i+1,JF,rfl,by omega,?_,?_,G2,hU2,by omega,rfl⟩
    ·repeat (refine jz.set ?_ (by decide) _)
     exact zK
    ·simp[aN,zK.len]
   ·repeat (refine jz.set ?_ (by decide) _)
    exact hS
   ·simp[aZ,aN,hS.len,hi]
   ·simp[aZ,aN,hS.len,hi]
  ·simp only[eh,decide_false,aLT,if_false];refine Cv.exit ?_;simp only[if_true]
   have:js=aOR n:=WA hp fun p q qp hql hpq=>hU p q _ _ hpq (by omega) (aL6 qp) (aL6 hql)
   rw[this];exact hQ _
 ·repeat (refine jz.set ?_ (by decide) _)
  exact hS
 ·simp[aN,hS.len]
 ·intro p q x y h1 h2;omega
end
def avh:Code:=(match Tryz.f231.body with|some c=>c|none=>.skip)
def ahi:Code:=(match Tryz.f185.body with|some c=>c|none=>.skip)
def amD:E0.fn 270=some {code:=XZ,ntmps:=53,results:=[],pure:=false,eD:=false}:=by kernel_rfl
def amC:E0.fn 231=some {code:=avh,ntmps:=148,results:=[],pure:=false,eD:=false}:=by kernel_rfl
def amB:E0.fn 185=some {code:=ahi,ntmps:=14,results:=[],pure:=false,eD:=false}:=by kernel_rfl
def Ru{E:Env}(h:Over E):pH E 135 62 12:=by
 have h97:∃i,E0.ty 135=some i/\i.cD=.slice 62/\i.isAgg=false:=by
  obtain⟨i,hi⟩:∃i,E0.ty 135=some i:=aNb.1 (by kernel_rfl);refine⟨i,hi,?_,?_⟩
  ·have:(E0.ty 135).map (·.cD)=some (.slice 62):=by kernel_rfl
   rw[hi]at this;simpa using this
  ·have:(E0.ty 135).map (·.isAgg)=some false:=by kernel_rfl
   rw[hi]at this;simpa using this
 have h72:∃i,E0.ty 62=some i/\i.isAgg=true/\i.size=12:=by
  obtain⟨i,hi⟩:∃i,E0.ty 62=some i:=aNb.1 (by kernel_rfl);refine⟨i,hi,?_,?_⟩
  ·have:(E0.ty 62).map (·.isAgg)=some true:=by kernel_rfl
   rw[hi]at this;simpa using this
  ·have:(E0.ty 62).map (·.size)=some 12:=by kernel_rfl
   rw[hi]at this;simpa using this
 exact⟨by rw[h.ty];exact h97,by rw[h.ty];exact h72,by rw[h.pairs];rfl,by rw[h.pairs];rfl⟩
section
variable{E:Env}{jh n:Nat}{row:Nat->List AV}
def alT(hE:Over E)(D:jH E 12 jh n row)(hn:n<=12){b kc:Nat}{nD:AV}{H:Hp}{js:List Nat}(hp:js.Perm (aOR n))
  (hb:H[b]?=some (.cells .live (js.map row).flatten)) {Q:Ex->List AV->Hp->Prop} (hQ:∀ts',Q .ret ts' (H.set b (.cells .live ((aOR n).map row).flatten))):
  Cv E avh ([.aI b 0 n 12 kc,.int .i64 0,.int .i64 n,nD,.func jh [] []]++aLu 143 bT) H Q:=by
 generalize xq:[AV.aI b 0 n 12 kc,.int .i64 0,.int .i64 n,nD,.func jh [] []]++aLu 143 bT=ts;have hl:ts.length=148:=by subst xq;rfl
 have g0:gt ts 0=.aI b 0 n 12 kc:=by subst xq;rfl
 have g1:gt ts 1=.int .i64 0:=by subst xq;rfl
 have g2:gt ts 2=.int .i64 n:=by subst xq;rfl
 have g4:gt ts 4=.func jh [] []:=by subst xq;rfl
 clear xq;refine Cv.seq (Cv.region ?_);refine gz.step (gE rfl) ?_;refine gz.nil ?_;refine Cv.seq (Cv.region ?_);refine gz.step (gE rfl) ?_;refine gz.nil ?_;refine Cv.block (Cv.round (Cv.block (Cv.seq (Cv.region ?_))));refine gz.step (cR aQ) ?_;refine gz.step (cR aQ) ?_;refine gz.step (gZ (u:=.int .i64 n) (v:=.int .i64 0) (r:=.int .i64 n) (by rw[aQ];simp[aZ,aN,hl,g2]) (by rw[aQ];simp[aZ,aN,hl,g1])
  (by simp only[cp,k8,ne_eq,not_true_eq_false,if_false,Int.sub_zero,aW];rw[IntWalk.i64_in _ (by omega)])) ?_
 refine gz.step (gE aQ) ?_;refine gz.nil ?_;refine Cv.seq (Cv.seq (Cv.region ?_));refine gz.step (cR aQ) ?_;refine gz.step (gZ (u:=.int .i64 n) (v:=.int .i64 12) (r:=.bool true) (by rw[aQ];simp[aZ,aN,hl]) rfl (by simp[cp,k8];omega)) ?_;refine gz.nil ?_;refine Cv.cond (t:=true) (by rw[aQ];simp[aZ,aN,hl]) ?_;simp only[if_true];refine Cv.seq (Cv.region ?_);refine gz.step (cR aQ) ?_;refine gz.step (cR aQ) ?_;refine gz.step (cR aQ) ?_;refine gz.step (cR aQ) ?_;refine gz.V1 (f:=270) (al:=[.aI b 0 n 12 kc,.int .i64 0,.int .i64 n,.func jh [] []]) rfl (by simp[kr,aQ,aZ,aN,hl,g0,g1,g2,g4]) (by rw[hE.fn];exact amD) rfl (by rw[hE.rH];exact BO) ?_;refine akV (kc:=kc) (Ru hE) D (by omega) ⟨rfl,rfl,rfl,rfl,rfl⟩ hp hb fun ts'=>⟨fun id h=>(by cases h),[],rfl,?_⟩
 refine gz.nil ?_;exact Cv.ret (hQ _)
def aeQ(hE:Over E)(D:jH E 12 jh n row)(hn:n<=12){nD:AV}(atp:∃m,call E m 210 [.int .u64 n]=some nD)(qp:aU nD=true)(h144:∀fi,E.fn 210=some fi->fi.pure=true)
  {b kc:Nat} {H:Hp} {js:List Nat} (hp:js.Perm (aOR n))
  (hb:H[b]?=some (.cells .live (js.map row).flatten)) {Q:Ex->List AV->Hp->Prop} (hQ:∀ts',Q .normal ts' (H.set b (.cells .live ((aOR n).map row).flatten))):
  Cv E ahi ([.aI b 0 n 12 kc,.func jh [] []]++aLu 12 bT) H Q:=by
 generalize xq:[AV.aI b 0 n 12 kc,.func jh [] []]++aLu 12 bT=ts;have hl:ts.length=14:=by subst xq;rfl
 have g0:gt ts 0=.aI b 0 n 12 kc:=by subst xq;rfl
 have g1:gt ts 1=.func jh [] []:=by subst xq;rfl
 clear xq;obtain⟨i97,t1,t2,t3⟩:=(Ru hE).s;refine Cv.seq (Cv.region ?_);refine gz.step (cR aQ) ?_;refine gz.step (rQ (al:=[.aI b 0 n 12 kc]) (r:=.int .i64 n) (l:=[]) (by simp[kr,aQ,aN,hl,g0]) (by
  obtain⟨cD,jA,jS,jB,jZ,dK⟩:=i97;simp only at t2;subst t2;simp[bM,nC,t1])) ?_
 refine gz.step (gE aQ) ?_;refine gz.nil ?_;have c3:∃i,E.ty 3=some i/\i.cD=.int .i64:=by
  rw[hE.ty];obtain⟨i,hi⟩:∃i,E0.ty 3=some i:=aNb.1 (by kernel_rfl);refine⟨i,hi,?_⟩
  have:(E0.ty 3).map (·.cD)=some (.int .i64):=by kernel_rfl
  rw[hi]at this;simpa using this
 have RQ:∃i,E.ty 179=some i/\i.cD=.int .u64:=by
  rw[hE.ty];obtain⟨i,hi⟩:∃i,E0.ty 179=some i:=aNb.1 (by kernel_rfl);refine⟨i,hi,?_⟩
  have:(E0.ty 179).map (·.cD)=some (.int .u64):=by kernel_rfl
  rw[hi]at this;simpa using this
 obtain⟨i3,c3,c3'⟩:=c3;obtain⟨i128,RQ,aow⟩:=RQ;refine Cv.region ?_;refine gz.step (cR aQ) ?_;refine gz.step (cR aQ) ?_;refine gz.step (cR aQ) ?_;refine gz.step (OT (k:=.i64) (n:=(n:Int)) (by rw[aQ];simp[aZ,aN,hl]) c3 RQ aow) ?_;obtain⟨m,hm⟩:=atp;refine gz.V2 (f:=210) (al:=[.int .u64 n]) ⟨m,hm⟩ (fun pc hpc=>Gq rfl (by simp[kr,aQ,aZ,aN,hl,aW];rw[IntWalk.u64_in _ (by omega)]) h144 rfl hpc) ?_;refine gz.step (cR aQ) ?_;refine gz.V1 (f:=231) (al:=[.aI b 0 n 12 kc,.int .i64 0,.int .i64 n,nD,.func jh [] []]) rfl (by simp[kr,aQ,dh,aZ,aN,hl,g0,g1]) (by rw[hE.fn];exact amC) rfl (by rw[hE.rH];exact BO) ?_;have hap:∀(H:Hp) (e:cF),e=(if bQ nD then cF.looks []else cF.marks [])->e.app H=H:=by
  intro H e he;subst he
  split<;>rfl
 simp only[fw];rw[hap _ _ rfl];refine alT hE D hn hp hb fun ts'=>⟨fun id h=>(by cases h),[],rfl,?_⟩
 exact gz.nil (hQ _)
end
def axC:Code:=(match Tryz.f134.body with|some c=>c|none=>.skip)
def av7:E0.fn 134=some {code:=axC,ntmps:=70,results:=[.tmp 4],pure:=true,eD:=false}:=by kernel_rfl
def zG:Nat->Code->List Code
 |0,_=>[]
 |k+1,.seq a b=>a::zG k b
 |_,_=>[]
def behind:Nat->Code->Code
 |0,c=>c
 |k+1,.seq _ b=>behind k b
 |_,c=>c
def A0:∀(k:Nat) (c:Code),OM (zG k c) (behind k c)=c
 |0,_=>rfl
 |k+1,.seq a b=>by simp only[zG,behind,OM,A0 k b]
 |k+1,.skip=>rfl
 |k+1,.label _=>rfl
 |k+1,.region .. =>rfl
 |k+1,.cond .. =>rfl
 |k+1,.block .. =>rfl
 |k+1,.loop .. =>rfl
 |k+1,.exit _=>rfl
 |k+1,.goto _=>rfl
 |k+1,.ret=>rfl
 |k+1,.scope _=>rfl
 |k+1,.refuse _=>rfl
 |k+1,.rangeFunc .. =>rfl
def OC:Code:=(match behind 7 axC with|.seq a _=>a|_=>.skip)
def avM:Code:=(match behind 7 axC with|.seq _ b=>b|_=>.skip)
section
variable{E:Env}{n:Nat}{row:Nat->List AV}
def DU{ops:List Oper}{dr:Bool}{aR d t tS tE:Nat}{p:String}{af:Array Edge}{ts:List AV}{H:Hp}{pc:Pc}{ic yc:Ic}{x:Operand}{cs:List AV}{iS iE:sk}{z:List AV}
  (hS:E.ty tS=some iS) (hSu:iS.cD=.slice tE) (hE:E.ty tE=some iE) (hz:iE.zero=some z) (Ef:z.length=iE.size) (Jp:0<iE.size) (hsm:iE.size<=16777216) (hx:bU ts x=some (.agg cs)) (hc:cs.length=iE.size):
  bV E pc ic yc dr ops aR ⟨some d,.buildSlice tS 1 #[(0,x)],t,p,af,none⟩ ts H=some (ts.set d (.aI aR 0 1 iE.size 1),.bJ [(aR,.cells .live cs)]):=by
 obtain⟨cD,jA,jS,jB,jZ,dK⟩:=iS;simp only at hSu;subst hSu;have hp:sJ ts [(0,x)]=some [(0,.agg cs)]:=by simp[sJ,hx]
 have hf:fP (fun i=>some (i*iE.size,iE.size)) (gJ z 1) [(0,.agg cs)]=some cs:=by simp only[fP,gJ,aRl,AV.cells,hc,Ef,Nat.zero_mul,Nat.zero_add,ne_eq,not_true_eq_false,decide_false,gt_iff_lt,Nat.lt_irrefl,Bool.or_self,aLT,if_false,List.take_zero,List.nil_append];rw[List.drop_of_length_le (by omega),aRl]
 simp only[bV,bE,dH,hS,hE,hz,hp,bA,if_true];rw[if_pos ⟨Ef,Jp,by omega⟩,hf];simp only[aMi]
def Ap:AV->Bool
 |.bool _|.int .. |.str _|.gQ|.cS .. |.ie .. |.aH|.dw|.aK .. |.gb|.vV .. |.fR|.nilIface=>true
 |_=>false
def acX{H:Hp}{k:Nat}{v:AV}(h:Ap v=true):fz H (k+1) v=some (v,[]):=by
 cases v<;>simp[Ap]at h<;>simp[fz]
def F0{H:Hp}{k:Nat}:∀{l:List AV},l.all Ap=true->e9 (fz H (k+1)) l=some (l.map fun v=>(v,[]))
 |[],_=>rfl
 |v::l,h=>by
  simp only[List.all_cons,aM6]at h;simp only[e9,acX h.1,F0 h.2,List.map_cons]
def W6{H:Hp}{b n s kc:Nat}{cs:List AV}(hb:H[b]?=some (.cells .live cs))(hl:cs.length=n*s)(ha:cs.all Ap=true):fz H 40 (.aI b 0 n s kc)=some (.aK cs n,[b]):=by
 have h1:(cs.drop 0).take (n*s)=cs:=by rw[List.drop_zero,aPk (by omega)]
 have h2:=F0 (H:=H) (k:=38) ha;unfold fz;simp only[hb];have h3:(decide (qW.live=qW.dead)||decide (cs.length<0+n*s))=false:=by
  simp;omega
 rw[h3];simp only[aLT,if_false,h1,h2,aMi,List.map_map];have e1:(cs.map ((fun x:AV×List Nat=>x.1)∘fun v=>(v,[])))=cs:=by rw[show((fun x:AV×List Nat=>x.1)∘fun v=>(v,[]))=id from rfl,List.map_id]
 have e2:(cs.map (fun v=>(v,([]:List Nat)))).flatMap (fun x=>x.2)=[]:=by rw[List.flatMap_eq_nil_iff];intro x hx;obtain⟨y,_,rfl⟩:=aNg.1 hx;rfl
 rw[e1,e2]
def alG{ops rest:List Oper}{c:Code}{ts:List AV}{H:Hp}{J:List AV->Hp->Prop}(h:gz E ops rest ts H fun ts1 H1=>Cv E c ts1 H1 fun ex oe H2=>ex=.normal/\J oe H2):
  ∃n ts1 H1 oe H2,qi E (jF E (bS E n)) (kQ E (bS E n)) (lL (bS E n)) ops rest ts H=some (ts1,H1)/\bS E n c ts1 H1=some (.normal,oe,H2)/\J oe H2:=by
 obtain⟨n,ts1,H1,h1,m,ex,oe,H2,h2,rfl,h3⟩:=h;have l1:=cY (E:=E) (Nat.le_max_left n m);have l2:=cY (E:=E) (Nat.le_max_right n m);exact⟨max n m,ts1,H1,oe,H2,rF (lK l1) (jW l1) (jX l1) h1,l2 _ _ _ _ h2,h3⟩
def Vb{H:Hp}{b:Nat}{x y:cE}(h:b<H.length):(cF.bJ [(b,x),(H.length,y)]).app H=H.set b x++[y]:=by simp[cF.app,cO,h]
structure afM(E:Env)(iS iE:sk)(z:List AV):Prop where
 hS:E.ty 135=some iS
 hSu:iS.cD=.slice 62
 hE:E.ty 62=some iE
 Xf:iE.isAgg=true
 mh:iE.size=12
 hz:iE.zero=some z
 Ef:z.length=12
 hby:iE.bytes<=10000
def avS{E:Env}(h:Over E):∃iS iE z,afM E iS iE z:=by
 obtain⟨i,hi⟩:∃i,E0.ty 135=some i:=aNb.1 (by kernel_rfl);obtain⟨e,he⟩:∃i,E0.ty 62=some i:=aNb.1 (by kernel_rfl);have a1:(E0.ty 135).map (·.cD)=some (.slice 62):=by kernel_rfl
 have a2:(E0.ty 62).map (·.isAgg)=some true:=by kernel_rfl
 have a3:(E0.ty 62).map (·.size)=some 12:=by kernel_rfl
 have a4:(E0.ty 62).bind (·.zero)|>.map (·.length)|>(·==some 12):=by kernel_rfl
 have a5:(E0.ty 62).map (fun i=>Nat.ble i.bytes 10000)=some true:=by kernel_rfl
 rw[hi]at a1;rw[he]at a2 a3 a4 a5;simp only[aMi,Option.some.injEq,Option.bind_some,beq_iff_eq]at a1 a2 a3 a4 a5;cases hz:e.zero with
 |none=>rw[hz]at a4;cases a4
 |some z=>
  rw[hz]at a4;exact⟨i,e,z,by rw[h.ty];exact hi,a1,by rw[h.ty];exact he,a2,a3,hz,by simpa using a4,aXg a5⟩
def Inv(row:Nat->List AV)(f:Nat->Nat)(n r:Nat)(is:List Nat)(ts:List AV)(H:Hp):Prop:=
 ts[58]?=some (.ie r 0)/\ts.length=70/\(is.Nodup/\∀j∈is,j<n)/\((is=[]/\gt ts 14=.aH)∨∃b,gt ts 14=.aI b 0 is.length 12 is.length/\H[b]?=some (.cells .live ((is.map f).map row).flatten))
def ZJ:Code->Array Oper×Code
 |.seq _ (.block _ (.loop (.seq _ (.seq _ (.block _ (.seq (.region _ o _) c))))))=>(o,c)
 |_=>(#[],.skip)
def aaE:Array Oper:=(ZJ OC).1
def aB8:Code:=(ZJ OC).2
def ZQ{iS iE:sk}{z:List AV}(T:afM E iS iE z)(D:jH E 12 186 n row){f:Nat->Nat}{r:Nat}{is:List Nat}{i:Nat}{kk:AV}{ts:List AV}{H:Hp}(hI:Inv row f n r is ts H)(hn:n<=12)(hni:i∉is)(LM:i<n):
  ∃N ts1 H1 oe H2,qi E (jF E (bS E N)) (kQ E (bS E N)) (lL (bS E N)) aaE.toList aaE.toList.tail (((ts.set 59 (.tuple [.bool true,kk,.agg (row (f i))])).set 60 (.bool true)).set 61 (.tuple [kk,.agg (row (f i))])) H=some (ts1,H1)/\
   bS E N aB8 ts1 H1=some (.normal,oe,H2)/\Inv row f n r (is++[i]) oe H2:=by
 obtain⟨h58,hl,⟨hnd,hjn⟩,h14⟩:=hI;have eh:is.length<900:=by have:=yA hnd hjn;omega
 have Xz:(is++[i]).Nodup/\∀j∈is++[i],j<n:=by
  refine⟨List.nodup_append.2 ⟨hnd,by simp,fun x hx y hy=>by simp at hy;subst hy;rintro rfl;exact hni hx⟩,fun j hj=>?_⟩;rcases List.mem_append.1 hj with hj|hj
  ·exact hjn j hj
  ·simp at hj;omega
 refine alG ?_;generalize xq:((ts.set 59 (.tuple [.bool true,kk,.agg (row (f i))])).set 60 (.bool true)).set 61 (.tuple [kk,.agg (row (f i))])=ts';have pO:ts'.length=70:=by subst xq;simp[hl]
 have g61:gt ts' 61=.tuple [kk,.agg (row (f i))]:=by subst xq;rw[aN (by simp[hl])]
 have g14:gt ts' 14=gt ts 14:=by subst xq;simp[aZ]
 have g58:ts'[58]?=some (.ie r 0):=by subst xq;simp[h58]
 clear xq;have hrl:=D.len (f i);refine gz.step (OU (by rw[aQ,g61]) rfl) ?_;simp only[fw];refine gz.step (Ln (z:=.agg z) (by simp[ek,T.hE,T.hz,T.Xf])) ?_;rw[GA];refine gz.step (yT (u:=.bK H.length 0) (v:=.agg (row (f i))) (l:=[(H.length,.cells .live (row (f i)))]) (by rw[aQ];simp[aN,pO]) (by rw[aQ];simp[aZ,aN,pO]) (by
  simp only[fh,T.hE,AV.cells,aT6 (aLt _),aL3,aRa,T.mh,hrl,T.Ef,D.one];simp[dA,hrl,T.Ef])) ?_
 rw[Dv.cu (by simp),show(H++[cE.cells .live (AV.agg z).cells]).set H.length (.cells .live (row (f i)))=H++[.cells .live (row (f i))]by simp];refine gz.nil ?_;refine Cv.region ?_;refine gz.step (cR aQ) ?_;simp only[fw];refine gz.step (rR (u:=.bK H.length 0) (r:=.agg (row (f i))) (by rw[aQ];simp[aZ,aN,pO]) (by
  simp only[dU,yL,aT6 (aLt _),aL3,aRa,eS,T.hE,T.Xf,T.mh];simp[hrl,aPk (Nat.le_of_eq hrl)])) ?_
 simp only[fw];refine gz.step (DU (cs:=row (f i)) T.hS T.hSu T.hE T.hz (by rw[T.Ef,T.mh]) (by rw[T.mh];omega) (by rw[T.mh];omega) (by rw[aQ];simp[aZ,aN,pO]) (by rw[T.mh,hrl])) ?_;rw[GA,T.mh];obtain⟨aE0,aFg,aI7,aFu,aJM,aFS⟩:=iS;have hu:=T.hSu;simp only at hu;subst hu;have ph:∀(H':Hp),oM (H'++[cE.cells .live (row (f i))]) 12 (.aI H'.length 0 1 12 1)=some (row (f i)):=by intro H';simp only[oM,iI,ne_eq,not_true_eq_false,if_false,aT6 (aLt _),aL3,aRa,hrl];simp[aPk (Nat.le_of_eq hrl)]
 have hzn:iE.zero.isNone=false:=by rw[T.hz];rfl
 have h0:iE.size≠0:=by rw[T.mh];omega
 have hby:=T.hby;rcases h14 with⟨rfl,h14⟩|⟨b,h14,hb⟩
 ·refine gz.step (rQ (al:=[.aH,.aI (H++[cE.cells .live (row (f i))]).length 0 1 12 1]) (r:=.aI (H.length+2) 0 1 12 1) (l:=[(H.length+2,.cells .live (row (f i)))])
   (by simp[kr,aQ,aZ,aN,pO,g14,h14]) (by
    rw[builtin_append T.hS rfl (IG T.hS rfl T.hE (n:=1) rfl (by rw[T.mh];exact ph _) (by omega) h0 (D.one _) hzn (by unfold fH;omega) (by omega)),T.mh]
    simp)) ?_
  rw[show H.length+2=((H++[cE.cells .live (row (f i))])++[cE.cells .live (row (f i))]).length by simp,GA];refine gz.step (gE aQ) ?_;refine gz.nil ⟨trivial,?_,?_,?_,.inr ⟨H.length+2,?_,?_⟩⟩
  ·simp[g58]
  ·simp[pO]
  ·exact Xz
  ·simp[aZ,aN,pO]
  ·simp only[fw];rw[aT6 (by simp)]
   simp
 ·have CW:b<H.length:=(aLq.1 hb).1;have hCS:=jL (qP D (is.map f));simp only[aPN]at hCS;have vN:((H++[cE.cells .live (row (f i))])++[cE.cells .live (row (f i))])[b]?=some (.cells .live ((is.map f).map row).flatten):=by
   rw[aOr (by simp;omega),aOr CW,hb]
  refine gz.step (rQ (al:=[.aI b 0 is.length 12 is.length,.aI (H++[cE.cells .live (row (f i))]).length 0 1 12 1]) (r:=.aI (H.length+2) 0 (is.length+1) 12 (is.length+1))
   (l:=[(b,.cells .dead []),(H.length+2,.cells .live (((is.map f).map row).flatten++row (f i)))])
   (by simp[kr,aQ,aZ,aN,pO,g14,h14]) (by
    have e1:(is.length+1)*iE.bytes<=fH:=Nat.le_trans (Nat.mul_le_mul (by omega:is.length+1<=1000) hby) (by decide)
    have:=xT (aR:=((H++[cE.cells .live (row (f i))])++[cE.cells .live (row (f i))]).length) (off:=0) (kc:=is.length) T.hS rfl T.hE (n:=1) (x:=.aI (H++[cE.cells .live (row (f i))]).length 0 1 12 1) rfl (by rw[T.mh];exact ph _) (by omega) h0 (D.one (f i)) hzn e1 (by omega) vN (by omega) (by rw[T.mh];omega)
    rw[T.mh]at this;rw[builtin_append T.hS rfl this,List.drop_zero,aPk (by omega)]
    simp)) ?_
  rw[show H.length+2=((H++[cE.cells .live (row (f i))])++[cE.cells .live (row (f i))]).length by simp,Vb (by simp;omega)];refine gz.step (gE aQ) ?_;refine gz.nil ⟨trivial,?_,?_,?_,.inr ⟨H.length+2,?_,?_⟩⟩
  ·simp[g58]
  ·simp[pO]
  ·exact Xz
  ·simp[aZ,aN,pO]
  ·simp only[fw];rw[aT6 (by simp)]
   simp
def Sk{n:Nat}{sig is:List Nat}(hs:sig.Perm (aOR n))(hp:is.Perm (aOR sig.length)):(is.map fun i=>(sig[i]?).getD 0).Perm (aOR n):=by
 refine((hp.map fun i=>(sig[i]?).getD 0)).trans (List.Perm.trans (List.Perm.of_eq ?_) hs);refine List.ext_getElem (by simp) fun i h1 h2=>?_
 simp at h1;simp[h1]
structure Found(E:Env)(n:Nat)(row:Nat->List AV)(args:List AV):Prop where
 data:jH E 12 186 n row
 atoms:∀p,(row p).all Ap=true
 pos:0<n
 few:n<=12
 pre:∃(N:Nat) (Eh:List AV) (H0:Hp) (m:Nat) (ks:List AV) (sig:List Nat),I9 E N (zG 7 axC) (args++aLu 68 bT) []=some (Eh,H0)/\dU E H0 280 (gt Eh 5)=some (.eR m)/\
  H0[m]?=some (.map .live ks (sig.map fun p=>.agg (row p)))/\sig.Perm (aOR n)/\gt Eh 14=.aH/\Eh.length=70
 nD:∃m nD,call E m 210 [.int .u64 n]=some nD/\aU nD=true
def RN(V:Valid E Tryz.prog)(O:o5 E Tryz.prog)(hE:Over E){args:List AV}(qE:args.length=2)(F:Found E n row args):
  Good E Tryz.prog 134 args (.aK ((aOR n).map row).flatten n):=by
 intro L w vs ik hg ha;obtain⟨N,Eh,H0,m,ks,sig,p1,p2,p3,p4,p5,p6⟩:=F.pre;have D:=F.data;obtain⟨iS,iE,z,T⟩:=avS hE;refine Ao.pure V (fi:={code:=axC,ntmps:=70,results:=[.tmp 4],pure:=true,eD:=false}) (by rw[hE.fn];exact av7) ?_ ik hg ha;rw[qE];show Ao E Tryz.prog axC (args++aLu 68 bT) [] _
 have yi:(zG 7 axC).all (fun x=>codeOk E0 x&&flat x)=true:=by kernel_rfl
 have GY:∀c,codeOk E c=codeOk E0 c:=by
  intro c
  have:E={E0 with ov:=E.ov,rH:=E.rH}:=by
   obtain⟨ty,fn,glob,ov,rH,pairs⟩:=E;have h1:=hE.fn;have h2:=hE.ty;have h3:=hE.pairs;have h4:=hE.glob
   simp only at h1 h2 h3 h4;subst h1 h2 h3 h4;rfl
  rw[this];exact gm _ _ c
 have aAj:=A0 7 axC;rw[<-aAj];refine Ao.OM V O p1 (by simp only[GY];exact yi) ?_;show Ao E Tryz.prog (.seq OC avM) Eh H0 _
 have h187:∃ti,E.ty 280=some ti/\ti.cD=.map 43 62:=by
  rw[hE.ty];obtain⟨i,hi⟩:∃i,E0.ty 280=some i:=aNb.1 (by kernel_rfl);refine⟨i,hi,?_⟩
  have:(E0.ty 280).map (·.cD)=some (.map 43 62):=by kernel_rfl
  rw[hi]at this;simpa using this
 obtain⟨ti,q1,q2⟩:=h187
 let f:Nat->Nat:=fun i=>(sig[i]?).getD 0
 have C2:sig.length=n:=by rw[p4.length_eq];simp
 refine Ao.seq ?_;refine Ao.mapRange V O (s:=58) (dm:=57) (d1:=59) (d2:=60) (d3:=61) (N:=70) (m:=m) (ts1:=Eh.set 57 (.eR m)) (e1:=.bJ []) (H1:=H0) (ks:=ks) (vs:=sig.map fun p=>.agg (row p)) (ti:=ti) (kt:=43) (et:=62)
  rfl rfl rfl rfl rfl rfl q1 q2 rfl rfl rfl rfl rfl rfl rfl rfl rfl (by decide) (by decide) ?_ ?_ (by decide) (by decide) ?_ rfl ?_ p3 (Inv row f n) ?_ ?_ ?_ ?_
 ·rw[GY];kernel_rfl
 ·kernel_rfl
 ·exact rR aQ p2
 ·rw[aOl (by omega)]
 ·intro r is ts H hI;exact⟨hI.1,hI.2.1⟩
 ·intro r;refine⟨?_,by simp[p6],by simp,.inl ⟨rfl,?_⟩⟩
  ·rw[aOl (by simp[p6])]
  ·rw[aZ (by omega),aZ (by omega),p5]
 ·intro r is i k v ts H h1 h2 h3 h4;have hv:v=.agg (row (f i)):=by
   rw[List.getElem?_map,Option.map_eq_some_iff]at h3;obtain⟨p,hp,rfl⟩:=h3;show AV.agg (row p)=.agg (row ((sig[i]?).getD 0))
   rw[hp];rfl
  subst hv;exact ZQ T D h4 F.few h1 (by have:=(aLq.1 h3).1;simp at this;omega)
 ·intro r is ts H hp hI;simp only[aPN]at hp;have tL:(is.map f).Perm (aOR n):=Sk p4 hp;have LL:is.length=n:=by have:=tL.length_eq;simpa using this
  obtain⟨h58,hl,_,h14⟩:=hI;have ej:is≠[]:=by intro q;subst q;simp at LL;have:=F.pos;omega
  obtain⟨b,g14,hb⟩:∃b,gt ts 14=.aI b 0 is.length 12 is.length/\H[b]?=some (.cells .live ((is.map f).map row).flatten):=by
   rcases h14 with h|h
   ·exact absurd h.1 ej
   ·exact h
  rw[LL]at g14;obtain⟨lm,nD,l1,l2⟩:=F.nD;have CW:b<H.length:=(aLq.1 hb).1;generalize xq:(ts.set 59 (.tuple [.bool false])).set 60 (.bool false)=ts';have pO:ts'.length=70:=by subst xq;simp[hl]
  have asl:gt ts' 14=.aI b 0 n 12 n:=by subst xq;simp[aZ,g14]
  clear xq;refine Ao.agW V O ?_ (by rw[GY];kernel_rfl) (by kernel_rfl);refine Cv.seq (Cv.region ?_);refine gz.step (cR aQ) ?_;refine gz.V1 (f:=185) (al:=[.aI b 0 n 12 n,.func 186 [] []]) rfl (by simp[kr,aQ,lA,aN,pO,asl]) (by rw[hE.fn];exact amB) rfl (by rw[hE.rH];exact BO) ?_;simp only[fw];refine aeQ hE D F.few ⟨lm,l1⟩ l2 (fun fi h=>?_) tL hb fun oe=>⟨fun id h=>(by cases h),[],rfl,?_⟩
  ·rw[hE.fn]at h
   have:(E0.fn 210).map (·.pure)=some true:=by kernel_rfl
   rw[h]at this;simpa using this
  refine gz.nil ?_;refine Cv.seq (Cv.region ?_);refine gz.step (cR aQ) ?_;refine gz.step (gE aQ) ?_;refine gz.nil ?_;simp only[fw];refine Cv.ret ⟨fun id h=>(by cases h),[.aI b 0 n 12 n],[b],?_,?_⟩
  ·show some [gt _ 4]=some [AV.aI b 0 n 12 n]
   congr 2;simp[aZ,aN,pO,asl]
  ·have hlen:=jL (qP D (aOR n));simp only[aPN,List.length_range]at hlen;have hat:(((aOR n).map row).flatten).all Ap=true:=by rw[aMf];intro x hx;obtain⟨r,hr,hx⟩:=List.mem_flatten.1 hx;obtain⟨p,_,rfl⟩:=aNg.1 hr;exact aMf.1 (F.atoms p) x hx
   have hz:=W6 (H:=H.set b (.cells .live ((aOR n).map row).flatten)) (b:=b) (n:=n) (s:=12) (kc:=n) (aOl CW) hlen hat;show bX _ [AV.aI b 0 n 12 n]=_
   unfold bX;rw[show aV [AV.aI b 0 n 12 n]=false from rfl];simp only[aLT,if_false,e9,hz,List.map_cons,List.map_nil,List.flatMap_cons,List.flatMap_nil,aRl]
end
def rowOf(Bv:List (List AV))(p:Nat):List AV:=(Bv[p]?).getD (aLu 12 (.bool false))
def chunk:Nat->List AV->List (List AV)
 |0,_=>[]
 |n+1,cs=>cs.take 12::chunk n (cs.drop 12)
def ZS(r:List AV):Bool:=aXh r.length 12&&r.all cN&&aV r&&r.all Ap
def aqt(E:Env)(N:Nat)(Bv:List (List AV))(p q:Nat):Bool:=match call E N 186 [.agg (rowOf Bv p),.agg (rowOf Bv q)]with
 |some (.int .i64 z)=>decide (z<0)==decide (p<q)
 |_=>false
def X7:AV->Bool
 |.aH=>true
 |_=>false
def Z1(Bv:List (List AV))(vs:List AV):List Nat:=vs.map fun v=>Bv.findIdx fun r=>mJ v (.agg r)
def preB(E:Env)(n:Nat)(Bv:List (List AV))(x:Option (List AV×Hp)):Bool:=match x with
 |some (Eh,H0)=>(match dU E H0 280 (gt Eh 5)with
  |some (.eR m)=>(match H0[m]? with
   |some (.map .live ks vs)=>(Z1 Bv vs).isPerm (aOR n)&&vL vs ((Z1 Bv vs).map fun p=>.agg (rowOf Bv p))
   |_=>false)
  |_=>false)&&X7 (gt Eh 14)&&aXh Eh.length 70
 |none=>false
def auB(E:Env)(N n:Nat):Bool:=match call E N 210 [.int .u64 n]with
 |some l=>aU l
 |none=>false
def MO(E:Env)(N n:Nat)(Bv:List (List AV))(args:List AV):Bool:=
 aXh Bv.length n&&Bv.all ZS&&Nat.ble 1 n&&Nat.ble n 12&&((aOR n).all fun p=>(aOR n).all fun q=>aqt E N Bv p q)&&
 preB E n Bv (I9 E N (zG 7 axC) (args++aLu 68 bT) [])&&auB E N n
def WY{E:Env}(hE:Over E){N n:Nat}{Bv:List (List AV)}{args:List AV}(h:MO E N n Bv args=true):Found E n (rowOf Bv) args:=by
 unfold MO at h;simp only[aM6]at h;obtain⟨⟨⟨⟨⟨⟨h1,h2⟩,h3⟩,h4⟩,h5⟩,h6⟩,h7⟩:=h;have pf:∀p,ZS (rowOf Bv p)=true:=by
  intro p;unfold rowOf;cases hp:Bv[p]? with
  |none=>rfl
  |some r=>exact aMf.1 h2 r (List.mem_of_getElem? hp)
 have Qq:∀p,(rowOf Bv p).length=12/\(rowOf Bv p).all cN=true/\aV (rowOf Bv p)=true/\(rowOf Bv p).all Ap=true:=by
  intro p
  have:=pf p
  unfold ZS at this;simp only[aM6]at this;exact⟨aXf this.1.1.1,this.1.1.2,this.1.2,this.2⟩
 refine⟨⟨fun p=>(Qq p).1,fun p=>(Qq p).2.1,fun p=>(Qq p).2.2.1,fun fi hf=>?_,fun p q hp hq=>?_⟩,fun p=>(Qq p).2.2.2,aXg h3,aXg h4,?_,?_⟩
 ·rw[hE.fn]at hf
  have:(E0.fn 186).map (·.pure)=some true:=by kernel_rfl
  rw[hf]at this;simpa using this
 ·have:=aMf.1 (aMf.1 h5 p (aOo.2 hp)) q (aOo.2 hq)
  unfold aqt at this;split at this
  ·rename_i z hz;refine⟨N,z,hz,?_⟩
   have:=beq_iff_eq.1 this
   simpa using this
  ·cases this
 ·unfold preB at h6;split at h6
  ·rename_i Eh H0 he;simp only[aM6]at h6;obtain⟨⟨h61,h62⟩,h63⟩:=h6;split at h61
   ·rename_i m hm;split at h61
    ·rename_i ks vs hb;simp only[aM6]at h61;have hv:=kK _ _ h61.2;refine⟨N,Eh,H0,m,ks,Z1 Bv vs,he,hm,?_,List.isPerm_iff.1 h61.1,?_,aXf h63⟩
     ·rw[hb];exact congrArg (fun x=>some (cE.map qW.live ks x)) hv
     ·revert h62;cases gt Eh 14<;>simp[X7]
    ·cases h61
   ·cases h61
  ·cases h6
 ·unfold auB at h7;split at h7
  ·rename_i l hl;exact⟨N,l,hl,h7⟩
  ·cases h7
def aqP(E:Env)(N:Nat)(e:List AV×AV):Bool:=match e.2 with
 |.aK cs n=>MO E N n (chunk n cs) e.1&&vL cs ((aOR n).map (rowOf (chunk n cs))).flatten&&aXh e.1.length 2
 |_=>false
def aAI(E:Env)(N:Nat)(l:Table):Bool:=l.all fun p=>aXh p.1 134&&p.2.all (aqP E N)
def Ga(T:Dv.Tree)(k:Nat):Over (E0.upto T k):=⟨ae7,ae8,aao.trans rfl,O6,T2⟩
def Ma(V:Valid E0 Tryz.prog)(O:o5 E0 Tryz.prog){T:Dv.Tree}{k N:Nat}{l:Table}(hg:df E0 Tryz.prog T k)(h:aAI (E0.upto T k) N l=true):
  ∀p,p∈l->∀e,e∈p.2->Good E0 Tryz.prog p.1 e.1 e.2:=by
 intro p hp e he;have h1:=aMf.1 h p hp;simp only[aM6]at h1;have h2:=aMf.1 h1.2 e he;obtain⟨V',O'⟩:=Ie V O hg;obtain⟨f,K⟩:=p;obtain⟨args,r⟩:=e;have hf:f=134:=aXf h1.1;subst hf;unfold aqP at h2;simp only at h2;split at h2
 ·rename_i cs n;simp only[aM6]at h2;obtain⟨⟨h3,h4⟩,h5⟩:=h2
  have:=RN V' O' (Ga T k) (aXf h5) (WY (Ga T k) h3)
  rw[<-kK _ _ h4]at this;exact Fz this
 ·cases h2
end Go.Proofs.YtmkjgfnicfpjpaaGreatDoor
