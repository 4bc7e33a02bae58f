/-
  The library's insertion sort and SortFunc at few elements.
-/
import Derived.Test.YtbaficijlppeoaaGreatDoorEnv
import Derived.IntWalk
import Derived.Test.YtbaficijlppeoaaGreatDoorEvE
set_option linter.unusedSimpArgs false
set_option linter.unusedVariables false

namespace Go.Proofs.YtbaficijlppeoaaGreatDoor
open Go Dv
set_option linter.unusedSimpArgs false
set_option linter.unusedVariables false

/-- what the sort asks of a call's environment -/
structure SortEnv (E : Env) (tS tE esz : Nat) : Prop where
  s : ∃ i, E.ty tS = some i ∧ i.und = .slice tE ∧ i.isAgg = false
  e : ∃ i, E.ty tE = some i ∧ i.isAgg = true ∧ i.size = esz
  p4 : E.pairs 4 17 = []
  p6 : E.pairs 6 18 = []

/-- the data, and the comparison -/
structure SortData (E : Env) (esz cmpf n : Nat) (row : Nat → List AV) : Prop where
  len : ∀ p, (row p).length = esz
  one : ∀ p, (row p).all oneA = true
  pure : ∀ p, isPureL (row p) = true
  fn : ∀ fi, E.fn cmpf = some fi → fi.pure = true
  cmp : ∀ p q, p < n → q < n → ∃ m z, call E m cmpf [.agg (row p), .agg (row q)] = some (.int .i64 z) ∧ (z < 0 ↔ p < q)

section
variable {E : Env} {tS tE esz cmpf n : Nat} {row : Nat → List AV}

theorem rows_len (D : SortData E esz cmpf n row) (js : List Nat) : ∀ r ∈ js.map row, r.length = esz := by
  intro r hr
  obtain ⟨p, _, rfl⟩ := List.mem_map.1 hr
  exact D.len p

theorem ixS (T : SortEnv E tS tE esz) {b len kc : Nat} {k : IntKind} {z : Int} {j : Nat} (hz : z = j) (hj : j < len) :
    indexAddrE E tS (.hslice b 0 len esz kc) (.int k z) = some (.hptr b (j * esz)) := by
  obtain ⟨i, h1, h2, _⟩ := T.s
  obtain ⟨e, h3, _, h4⟩ := T.e
  subst hz
  simp only [indexAddrE, h1, h2, h3, h4]
  rw [if_pos ⟨trivial, by omega, by omega⟩]
  simp

theorem ldS (T : SortEnv E tS tE esz) (D : SortData E esz cmpf n row) {H : Hp} {b : Nat} {js : List Nat} (hb : H[b]? = some (.cells .live (js.map row).flatten)) {j p : Nat} (hj : js[j]? = some p) :
    loadE E H tE (.hptr b (j * esz)) = some (.agg (row p)) := by
  obtain ⟨e, h3, h4, h5⟩ := T.e
  have hlt := (List.getElem?_eq_some_iff.1 hj).1
  have := flat_le (rows_len D js) (j := j) (by simpa using hlt)
  simp only [loadE, ptrE, hb, partE, h3, h4, h5]
  simp only [show (BSt.live = BSt.dead) = False by simp, if_false, if_true]
  rw [if_pos this, flat_at (rows_len D js) (r := row p) (by simp [hj])]

theorem stS (T : SortEnv E tS tE esz) (D : SortData E esz cmpf n row) {H : Hp} {b : Nat} {js : List Nat} (hb : H[b]? = some (.cells .live (js.map row).flatten)) {j p : Nat} (hj : j < js.length) :
    storeE E H tE (.hptr b (j * esz)) (.agg (row p)) = some [(b, .cells .live ((js.set j p).map row).flatten)] := by
  obtain ⟨e, h3, h4, h5⟩ := T.e
  have := flat_le (rows_len D js) (j := j) (by simpa using hj)
  simp only [storeE, hb, h3, h5, AV.cells, D.len p, D.one p]
  have hne : (decide ((esz : Nat) ≠ esz) || decide (j * esz + esz > (js.map row).flatten.length) || !true) = false := by
    simp only [ne_eq, not_true_eq_false, decide_false, Bool.false_or, Bool.not_true, Bool.or_false, decide_eq_false_iff_not]
    omega
  rw [hne]
  simp only [Bool.false_eq_true, if_false]
  rw [flat_set (rows_len D js) (by simpa using hj) (D.len p), List.map_set]
end

noncomputable def insC : Code := (match Tryz.f176.body with | some c => c | none => .skip)

section
variable {E : Env} {cmpf n : Nat} {row : Nat → List AV}

/-- what stands in the slots throughout -/
structure Slots (ts : List AV) (b kc n cmpf : Nat) : Prop where
  len : ts.length = 53
  g0 : gt ts 0 = .hslice b 0 n 12 kc
  g1 : gt ts 1 = .int .i64 0
  g2 : gt ts 2 = .int .i64 n
  g3 : gt ts 3 = .func cmpf [] []

theorem Slots.set {ts : List AV} {b kc n cmpf : Nat} (h : Slots ts b kc n cmpf) {i : Nat} (hi : 4 ≤ i) (v : AV) : Slots (ts.set i v) b kc n cmpf :=
  ⟨by simp [h.len], by rw [gt_ne (by omega)]; exact h.g0, by rw [gt_ne (by omega)]; exact h.g1, by rw [gt_ne (by omega)]; exact h.g2, by rw [gt_ne (by omega)]; exact h.g3⟩



theorem addI {n : Nat} (h : n < 1000) : wrapK .i64 ((n : Int) + 1) = ((n + 1 : Nat) : Int) := by
  unfold wrapK; rw [IntWalk.i64_in _ (by omega)]; omega
theorem subI {n : Nat} (h : n < 1000) (h0 : 0 < n) : wrapK .i64 ((n : Int) - 1) = ((n - 1 : Nat) : Int) := by
  unfold wrapK; rw [IntWalk.i64_in _ (by omega)]; omega

noncomputable def regOf : Code → Code
  | .block _ (.loop (.seq _ (.seq (.block _ (.seq _ (.block _ (.loop (.seq (.seq r _) _))))) _))) => r
  | _ => .skip
noncomputable def reg4 : Code := match insC with | .seq _ x => regOf x | _ => .skip

/-- the comparison of the loop within: 'j > a && cmp(data[j], data[j-1]) < 0' -/
theorem reg4_ok (T : SortEnv E 97 72 12) (D : SortData E 12 cmpf n row) (hn : n < 1000) {b kc : Nat} {ts : List AV} {H : Hp} {js : List Nat} (hS : Slots ts b kc n cmpf) (hlen : js.length = n) (hlt : ∀ p ∈ js, p < n)
    (hb : H[b]? = some (.cells .live (js.map row).flatten)) {i j : Nat} (hi : gt ts 8 = .int .i64 i) (hj : gt ts 9 = .int .i64 j) (hjn : j < n) {Q : Ex → List AV → Hp → Prop}
    (hQ : ∀ ts', Slots ts' b kc n cmpf → gt ts' 8 = .int .i64 i → gt ts' 9 = .int .i64 j →
      gt ts' 34 = .bool (if h : 0 < j then decide (js[j]'(by omega) < js[j-1]'(by omega)) else false) → Q .normal ts' H) :
    Cv E reg4 ts H Q := by
  unfold reg4
  refine Cv.regionD rfl ?_
  rcases Nat.eq_zero_or_pos j with h0 | h0
  · subst h0
    refine OpsD.step rfl (st_move evO_tmp) ?_
    refine OpsD.step rfl (st_move evO_tmp) ?_
    refine OpsD.step rfl (st_binOp (u := .int .i64 0) (v := .int .i64 0) (r := .bool false) (by rw [evO_tmp]; simp [gt_ne, gt_self, hS.len, hS.g0, hS.g1, hS.g2, hS.g3, hi, hj]) (by rw [evO_tmp]; simp [gt_ne, gt_self, hS.len, hS.g0, hS.g1, hS.g2, hS.g3, hi, hj]) rfl) ?_
    refine OpsD.step rfl (st_move evO_tmp) ?_
    refine OpsD.step rfl (st_guard_off (dj := 21) (b := false) rfl (by simp [gt_ne, gt_self, hS.len, putE]) (by simp)) ?_
    refine OpsD.step rfl (st_guard_off (dj := 21) (b := false) rfl (by simp [gt_ne, gt_self, hS.len, putE]) (by simp)) ?_
    refine OpsD.step rfl (st_guard_off (dj := 21) (b := false) rfl (by simp [gt_ne, gt_self, hS.len, putE]) (by simp)) ?_
    refine OpsD.step rfl (st_guard_off (dj := 21) (b := false) rfl (by simp [gt_ne, gt_self, hS.len, putE]) (by simp)) ?_
    refine OpsD.step rfl (st_guard_off (dj := 21) (b := false) rfl (by simp [gt_ne, gt_self, hS.len, putE]) (by simp)) ?_
    refine OpsD.step rfl (st_guard_off (dj := 21) (b := false) rfl (by simp [gt_ne, gt_self, hS.len, putE]) (by simp)) ?_
    refine OpsD.step rfl (st_guard_off (dj := 21) (b := false) rfl (by simp [gt_ne, gt_self, hS.len, putE]) (by simp)) ?_
    refine OpsD.step rfl (st_guard_off (dj := 21) (b := false) rfl (by simp [gt_ne, gt_self, hS.len, putE]) (by simp)) ?_
    refine OpsD.step rfl (st_guard_off (dj := 21) (b := false) rfl (by simp [gt_ne, gt_self, hS.len, putE]) (by simp)) ?_
    refine OpsD.step rfl (st_guard_off (dj := 21) (b := false) rfl (by simp [gt_ne, gt_self, hS.len, putE]) (by simp)) ?_
    refine OpsD.step rfl (st_guard_off (dj := 21) (b := false) rfl (by simp [gt_ne, gt_self, hS.len, putE]) (by simp)) ?_
    refine OpsD.step rfl (st_guard_off (dj := 21) (b := false) rfl (by simp [gt_ne, gt_self, hS.len, putE]) (by simp)) ?_
    refine OpsD.step rfl (st_pick (q := false) (v := .bool false) (by rw [evO_tmp]; simp [gt_ne, gt_self, hS.len, putE]) rfl) ?_
    refine OpsD.nil ⟨by show (E.pairs 4 17).all _ = true; rw [T.p4]; rfl, hQ _ ?_ ?_ ?_ ?_⟩
    · simp only [putE]
      repeat (refine Slots.set ?_ (by decide) _)
      exact hS
    · simp [gt_ne, gt_self, hS.len, putE, hi]
    · simp [gt_ne, gt_self, hS.len, putE, hj]
    · simp [gt_ne, gt_self, hS.len, putE]
  · refine OpsD.step rfl (st_move evO_tmp) ?_
    refine OpsD.step rfl (st_move evO_tmp) ?_
    refine OpsD.step rfl (st_binOp (u := .int .i64 j) (v := .int .i64 0) (r := .bool true) (by rw [evO_tmp]; simp [gt_ne, gt_self, hS.len, hS.g0, hS.g1, hS.g2, hS.g3, hi, hj]) (by rw [evO_tmp]; simp [gt_ne, gt_self, hS.len, hS.g0, hS.g1, hS.g2, hS.g3, hi, hj]) (by simp [binE, intE]; omega)) ?_
    refine OpsD.step rfl (st_move evO_tmp) ?_
    refine OpsD.step rfl ((st_guard_on (dj := 21) rfl (by simp [gt_ne, gt_self, hS.len])).trans (st_move evO_tmp)) ?_
    refine OpsD.step rfl ((st_guard_on (dj := 21) rfl (by simp [gt_ne, gt_self, hS.len])).trans (st_move evO_tmp)) ?_
    refine OpsD.step rfl ((st_guard_on (dj := 21) rfl (by simp [gt_ne, gt_self, hS.len])).trans (st_move evO_tmp)) ?_
    refine OpsD.step rfl ((st_guard_on (dj := 21) rfl (by simp [gt_ne, gt_self, hS.len])).trans (st_indexAddr (u := .hslice b 0 n 12 kc) (v := .int .i64 j) (r := .hptr b (j * 12)) (by rw [evO_tmp]; simp [gt_ne, gt_self, hS.len, hS.g0, hS.g1, hS.g2, hS.g3, hi, hj]) (by rw [evO_tmp]; simp [gt_ne, gt_self, hS.len, hS.g0, hS.g1, hS.g2, hS.g3, hi, hj]) (ixS T rfl hjn))) ?_
    refine OpsD.step rfl ((st_guard_on (dj := 21) rfl (by simp [gt_ne, gt_self, hS.len])).trans (st_load (u := .hptr b (j * 12)) (by rw [evO_tmp]; simp [gt_ne, gt_self, hS.len, hS.g0, hS.g1, hS.g2, hS.g3, hi, hj]) (ldS T D hb (List.getElem?_eq_getElem (by omega : j < js.length))))) ?_
    refine OpsD.step rfl ((st_guard_on (dj := 21) rfl (by simp [gt_ne, gt_self, hS.len])).trans (st_move evO_tmp)) ?_
    refine OpsD.step rfl ((st_guard_on (dj := 21) rfl (by simp [gt_ne, gt_self, hS.len])).trans (st_move evO_tmp)) ?_
    refine OpsD.step rfl ((st_guard_on (dj := 21) rfl (by simp [gt_ne, gt_self, hS.len])).trans (st_binOp (u := .int .i64 j) (v := .int .i64 1) (r := .int .i64 (j - 1 : Nat)) (by rw [evO_tmp]; simp [gt_ne, gt_self, hS.len, hS.g0, hS.g1, hS.g2, hS.g3, hi, hj]) rfl (by simp only [binE, intE, ne_eq, not_true_eq_false, if_false]; rw [subI (by omega) h0]))) ?_
    refine OpsD.step rfl ((st_guard_on (dj := 21) rfl (by simp [gt_ne, gt_self, hS.len])).trans (st_indexAddr (u := .hslice b 0 n 12 kc) (v := .int .i64 (j - 1 : Nat)) (r := .hptr b ((j - 1) * 12)) (by rw [evO_tmp]; simp [gt_ne, gt_self, hS.len, hS.g0, hS.g1, hS.g2, hS.g3, hi, hj]) (by rw [evO_tmp]; simp [gt_ne, gt_self, hS.len, hS.g0, hS.g1, hS.g2, hS.g3, hi, hj]) (ixS T rfl (by omega)))) ?_
    refine OpsD.step rfl ((st_guard_on (dj := 21) rfl (by simp [gt_ne, gt_self, hS.len])).trans (st_load (u := .hptr b ((j - 1) * 12)) (by rw [evO_tmp]; simp [gt_ne, gt_self, hS.len, hS.g0, hS.g1, hS.g2, hS.g3, hi, hj]) (ldS T D hb (List.getElem?_eq_getElem (by omega : j - 1 < js.length))))) ?_
    obtain ⟨m, z, hm, hz⟩ := D.cmp js[j] js[j-1] (hlt _ (List.getElem_mem _)) (hlt _ (List.getElem_mem _))
    refine OpsD.callP ⟨m, hm⟩ (fun pc hpc => (st_guard_on (dj := 21) rfl (by simp [gt_ne, gt_self, hS.len])).trans (st_callP' (by rw [evO_tmp]; simp [gt_ne, gt_self, hS.len, hS.g0, hS.g1, hS.g2, hS.g3, hi, hj]) (by simp [evL, evO_tmp, gt_ne, gt_self, hS.len]) D.fn (by simp [isPureL, isPure, D.pure]) hpc)) ?_
    refine OpsD.step rfl ((st_guard_on (dj := 21) rfl (by simp [gt_ne, gt_self, hS.len])).trans (st_binOp (u := .int .i64 z) (v := .int .i64 0) (r := .bool (decide (js[j] < js[j-1]))) (by rw [evO_tmp]; simp [gt_ne, gt_self, hS.len, hS.g0, hS.g1, hS.g2, hS.g3, hi, hj]) rfl (by simp [binE, intE, hz]))) ?_
    refine OpsD.step rfl (st_pick (q := true) (v := .bool (decide (js[j] < js[j-1]))) (by rw [evO_tmp]; simp [gt_ne, gt_self, hS.len, hS.g0, hS.g1, hS.g2, hS.g3, hi, hj]) (by rw [if_pos rfl, evO_tmp]; simp [gt_ne, gt_self, hS.len])) ?_
    refine OpsD.nil ⟨by show (E.pairs 4 17).all _ = true; rw [T.p4]; rfl, hQ _ ?_ ?_ ?_ ?_⟩
    · repeat (refine Slots.set ?_ (by decide) _)
      exact hS
    · simp [gt_ne, gt_self, hS.len, putE, hi]
    · simp [gt_ne, gt_self, hS.len, putE, hj]
    · simp [gt_ne, gt_self, hS.len, putE, h0]
theorem app_nil {H : Hp} : (Eff.sets []).app H = H := rfl
theorem app_set {H : Hp} {b : Nat} {x : Blk} (h : b < H.length) : (Eff.sets [(b, x)]).app H = H.set b x := by
  simp [Eff.app, putB, h]

noncomputable def regOf6 : Code → Code
  | .block _ (.loop (.seq _ (.seq (.block _ (.seq _ (.block _ (.loop (.seq _ (.seq (.block _ r) _)))))) _))) => r
  | _ => .skip
noncomputable def reg6 : Code := match insC with | .seq _ x => regOf6 x | _ => .skip

/-- 'data[j], data[j-1] = data[j-1], data[j]' -/
theorem reg6_ok (T : SortEnv E 97 72 12) (D : SortData E 12 cmpf n row) (hn : n < 1000) {b kc : Nat} {ts : List AV} {H : Hp} {js : List Nat} (hS : Slots ts b kc n cmpf) (hlen : js.length = n)
    (hb : H[b]? = some (.cells .live (js.map row).flatten)) {i j : Nat} (hi : gt ts 8 = .int .i64 i) (hj : gt ts 9 = .int .i64 j) (hjn : j < n) (h0 : 0 < j) {Q : Ex → List AV → Hp → Prop}
    (hQ : ∀ ts', Slots ts' b kc n cmpf → gt ts' 8 = .int .i64 i → gt ts' 9 = .int .i64 j →
      Q .normal ts' (H.set b (.cells .live (((js.set j (js[j-1]'(by omega))).set (j-1) (js[j]'(by omega))).map row).flatten))) :
    Cv E reg6 ts H Q := by
  have hbl : b < H.length := (List.getElem?_eq_some_iff.1 hb).1
  unfold reg6
  refine Cv.regionD rfl ?_
  refine OpsD.step rfl (st_move evO_tmp) ?_
  refine OpsD.step rfl (st_move evO_tmp) ?_
  refine OpsD.step rfl (st_move evO_tmp) ?_
  refine OpsD.step rfl (st_move evO_tmp) ?_
  refine OpsD.step rfl (st_binOp (u := .int .i64 j) (v := .int .i64 1) (r := .int .i64 (j - 1 : Nat)) (by rw [evO_tmp]; simp [gt_ne, gt_self, hS.len, hS.g0, hS.g1, hS.g2, hS.g3, hi, hj]) rfl (by simp only [binE, intE, ne_eq, not_true_eq_false, if_false]; rw [subI (by omega) h0])) ?_
  refine OpsD.step rfl (st_move evO_tmp) ?_
  refine OpsD.step rfl (st_move evO_tmp) ?_
  refine OpsD.step rfl (st_binOp (u := .int .i64 j) (v := .int .i64 1) (r := .int .i64 (j - 1 : Nat)) (by rw [evO_tmp]; simp [gt_ne, gt_self, hS.len, hS.g0, hS.g1, hS.g2, hS.g3, hi, hj]) rfl (by simp only [binE, intE, ne_eq, not_true_eq_false, if_false]; rw [subI (by omega) h0])) ?_
  refine OpsD.step rfl (st_indexAddr (u := .hslice b 0 n 12 kc) (v := .int .i64 (j - 1 : Nat)) (r := .hptr b ((j - 1) * 12)) (by rw [evO_tmp]; simp [gt_ne, gt_self, hS.len, hS.g0, hS.g1, hS.g2, hS.g3, hi, hj]) (by rw [evO_tmp]; simp [gt_ne, gt_self, hS.len, hS.g0, hS.g1, hS.g2, hS.g3, hi, hj]) (ixS T rfl (by omega))) ?_
  refine OpsD.step rfl (st_load (u := .hptr b ((j - 1) * 12)) (by rw [evO_tmp]; simp [gt_ne, gt_self, hS.len, hS.g0, hS.g1, hS.g2, hS.g3, hi, hj]) (ldS T D hb (List.getElem?_eq_getElem (by omega : j - 1 < js.length)))) ?_
  refine OpsD.step rfl (st_move evO_tmp) ?_
  refine OpsD.step rfl (st_move evO_tmp) ?_
  refine OpsD.step rfl (st_indexAddr (u := .hslice b 0 n 12 kc) (v := .int .i64 j) (r := .hptr b (j * 12)) (by rw [evO_tmp]; simp [gt_ne, gt_self, hS.len, hS.g0, hS.g1, hS.g2, hS.g3, hi, hj]) (by rw [evO_tmp]; simp [gt_ne, gt_self, hS.len, hS.g0, hS.g1, hS.g2, hS.g3, hi, hj]) (ixS T rfl hjn)) ?_
  refine OpsD.step rfl (st_load (u := .hptr b (j * 12)) (by rw [evO_tmp]; simp [gt_ne, gt_self, hS.len, hS.g0, hS.g1, hS.g2, hS.g3, hi, hj]) (ldS T D hb (List.getElem?_eq_getElem (by omega : j < js.length)))) ?_
  refine OpsD.step rfl (st_indexAddr (u := .hslice b 0 n 12 kc) (v := .int .i64 j) (r := .hptr b (j * 12)) (by rw [evO_tmp]; simp [gt_ne, gt_self, hS.len, hS.g0, hS.g1, hS.g2, hS.g3, hi, hj]) (by rw [evO_tmp]; simp [gt_ne, gt_self, hS.len, hS.g0, hS.g1, hS.g2, hS.g3, hi, hj]) (ixS T rfl hjn)) ?_
  refine OpsD.step rfl (st_store (u := .hptr b (j * 12)) (v := .agg (row js[j-1])) (by rw [evO_tmp]; simp [gt_ne, gt_self, hS.len, hS.g0, hS.g1, hS.g2, hS.g3, hi, hj]) (by rw [evO_tmp]; simp [gt_ne, gt_self, hS.len, hS.g0, hS.g1, hS.g2, hS.g3, hi, hj]) (stS T D hb (by omega : j < js.length))) ?_
  simp only [app_nil]
  rw [app_set hbl]
  refine OpsD.step rfl (st_indexAddr (u := .hslice b 0 n 12 kc) (v := .int .i64 (j - 1 : Nat)) (r := .hptr b ((j - 1) * 12)) (by rw [evO_tmp]; simp [gt_ne, gt_self, hS.len, hS.g0, hS.g1, hS.g2, hS.g3, hi, hj]) (by rw [evO_tmp]; simp [gt_ne, gt_self, hS.len, hS.g0, hS.g1, hS.g2, hS.g3, hi, hj]) (ixS T rfl (by omega))) ?_
  refine OpsD.step rfl (st_store (u := .hptr b ((j - 1) * 12)) (v := .agg (row js[j])) (by rw [evO_tmp]; simp [gt_ne, gt_self, hS.len, hS.g0, hS.g1, hS.g2, hS.g3, hi, hj]) (by rw [evO_tmp]; simp [gt_ne, gt_self, hS.len, hS.g0, hS.g1, hS.g2, hS.g3, hi, hj]) (stS T D (js := js.set j js[j-1]) (List.getElem?_set_self (show b < List.length _ from hbl)) (by simp; omega))) ?_
  simp only [app_nil]
  rw [app_set (by simpa using hbl), List.set_set]
  refine OpsD.nil ⟨by show (E.pairs 6 18).all _ = true; rw [T.p6]; rfl, hQ _ ?_ ?_ ?_⟩
  · repeat (refine Slots.set ?_ (by decide) _)
    exact hS
  · simp [gt_ne, gt_self, hS.len, hi]
  · simp [gt_ne, gt_self, hS.len, hj]

/-- the numbers at places up to i are in order, but for place j -/
structure InOrder (js : List Nat) (i j : Nat) : Prop where
  p1 : ∀ p q x y, p < q → q ≤ i → p ≠ j → q ≠ j → js[p]? = some x → js[q]? = some y → x ≤ y
  p2 : ∀ q x y, j < q → q ≤ i → js[j]? = some x → js[q]? = some y → x ≤ y

def UpTo (js : List Nat) (i : Nat) : Prop := ∀ p q x y, p < q → q < i → js[p]? = some x → js[q]? = some y → x ≤ y

theorem InOrder.start {js : List Nat} {i : Nat} (h : UpTo js i) : InOrder js i i :=
  ⟨fun p q x y h1 h2 _ h4 h5 h6 => h p q x y h1 (by omega) h5 h6, fun q x y h1 h2 => by omega⟩

theorem InOrder.done {js : List Nat} {i j : Nat} (h : InOrder js i j) (hj : ∀ x y, 0 < j → js[j]? = some x → js[j-1]? = some y → y ≤ x) : UpTo js (i + 1) := by
  intro p q x y h1 h2 h3 h4
  by_cases hp : p = j
  · subst hp; exact h.p2 q x y h1 (by omega) h3 h4
  by_cases hq : q = j
  · subst hq
    by_cases hp1 : p = q - 1
    · subst hp1; exact hj y x (by omega) h4 h3
    · obtain ⟨z, hz⟩ : ∃ z, js[q-1]? = some z := ⟨js[q-1]'(by have := (List.getElem?_eq_some_iff.1 h4).1; omega), List.getElem?_eq_getElem _⟩
      have a1 := h.p1 p (q-1) x z (by omega) (by omega) hp (by omega) h3 hz
      have a2 := hj y z (by omega) h4 hz
      omega
  · exact h.p1 p q x y h1 (by omega) hp hq h3 h4

theorem InOrder.swap {js : List Nat} {i j : Nat} (h : InOrder js i j) (h0 : 0 < j) (hj : j < js.length) (hji : j ≤ i) (hlt : js[j] < js[j-1]) :
    InOrder ((js.set j js[j-1]).set (j-1) js[j]) i (j-1) := by
  have gj : ((js.set j js[j-1]).set (j-1) js[j])[j]? = some js[j-1] := by
    rw [List.getElem?_set_ne (by omega), List.getElem?_set_self hj]
  have gj1 : ((js.set j js[j-1]).set (j-1) js[j])[j-1]? = some js[j] := by
    rw [List.getElem?_set_self (by simp; omega)]
  have go : ∀ p, p ≠ j → p ≠ j - 1 → ((js.set j js[j-1]).set (j-1) js[j])[p]? = js[p]? := fun p h1 h2 => by
    rw [List.getElem?_set_ne (fun e => h2 e.symm), List.getElem?_set_ne (fun e => h1 e.symm)]
  have oj : js[j]? = some js[j] := List.getElem?_eq_getElem hj
  have oj1 : js[j-1]? = some js[j-1] := List.getElem?_eq_getElem _
  refine ⟨fun p q x y h1 h2 h3 h4 h5 h6 => ?_, fun q x y h1 h2 h3 h4 => ?_⟩
  · by_cases hp : p = j
    · subst hp
      rw [gj] at h5; cases h5
      rw [go q (by omega) h4] at h6
      exact h.p1 (p-1) q _ y (by omega) h2 (by omega) (by omega) oj1 h6
    · rw [go p hp h3] at h5
      by_cases hq : q = j
      · subst hq
        rw [gj] at h6; cases h6
        exact h.p1 p (q-1) x _ (by omega) (by omega) hp (by omega) h5 oj1
      · rw [go q hq h4] at h6
        exact h.p1 p q x y h1 h2 hp hq h5 h6
  · rw [gj1] at h3; cases h3
    by_cases hq : q = j
    · subst hq; rw [gj] at h4; cases h4; omega
    · rw [go q hq (by omega)] at h4
      exact h.p2 q _ y (by omega) h2 oj h4

end
end Go.Proofs.YtbaficijlppeoaaGreatDoor

namespace Go.Proofs.YtbaficijlppeoaaGreatDoor
open Go Dv
set_option linter.unusedSimpArgs false
set_option linter.unusedVariables false
section
variable {E : Env} {cmpf n : Nat} {row : Nat → List AV}

theorem Slots.lenJs {js : List Nat} (hp : js.Perm (List.range n)) : js.length = n := by rw [hp.length_eq]; simp
theorem Slots.ltJs {js : List Nat} (hp : js.Perm (List.range n)) : ∀ p ∈ js, p < n := fun p h => List.mem_range.1 (hp.mem_iff.1 h)

/-- the loop within -/
theorem inner_ok (T : SortEnv E 97 72 12) (D : SortData E 12 cmpf n row) (hn : n < 1000) {b kc i : Nat} {H0 : Hp} (hbl : b < H0.length) (hin : i < n) {Q : Ex → List AV → Hp → Prop} {lp : Code}
    (hlp : lp = .seq (.seq reg4 (.cond (.tmp 34) .skip (.exit 2))) (.seq (.block 3 reg6) (match insC with | .seq _ (.block _ (.loop (.seq _ (.seq (.block _ (.seq _ (.block _ (.loop (.seq _ (.seq _ r)))))) _)))) => r | _ => .skip)))
    (hQ : ∀ ts' js', Slots ts' b kc n cmpf → gt ts' 8 = .int .i64 i → js'.Perm (List.range n) → UpTo js' (i + 1) → Q (.exit 2) ts' (H0.set b (.cells .live (js'.map row).flatten))) :
    ∀ (ts : List AV) (js : List Nat), Slots ts b kc n cmpf → gt ts 8 = .int .i64 i → gt ts 9 = .int .i64 i → js.Perm (List.range n) → UpTo js i →
      Cv E (.loop lp) ts (H0.set b (.cells .live (js.map row).flatten)) Q := by
  intro ts js hS hi hj hp hU
  refine Cv.loop (fun k ts H => ∃ js, Slots ts b kc n cmpf ∧ gt ts 8 = .int .i64 i ∧ gt ts 9 = .int .i64 k ∧ k ≤ i ∧ js.Perm (List.range n) ∧ InOrder js i k ∧ H = H0.set b (.cells .live (js.map row).flatten)) ?_ i ts _
    ⟨js, hS, hi, hj, Nat.le_refl _, hp, .start hU, rfl⟩
  rintro j ts H ⟨js, hS, hi, hj, hji, hp, hI, rfl⟩
  have hlen := Slots.lenJs hp
  have hb : (H0.set b (.cells .live (js.map row).flatten))[b]? = some (.cells .live (js.map row).flatten) := List.getElem?_set_self hbl
  subst hlp
  refine Cv.seq (Cv.seq (reg4_ok T D hn hS hlen (Slots.ltJs hp) hb hi hj (by omega) fun ts' hS' hi' hj' hc => ?_))
  refine Cv.cond (t := if h : 0 < j then decide (js[j]'(by omega) < js[j-1]'(by omega)) else false) (by rw [evO_tmp, hc]) ?_
  by_cases h0 : 0 < j
  · rw [dif_pos h0]
    by_cases hlt : js[j]'(by omega) < js[j-1]'(by omega)
    · simp only [hlt, decide_true, if_true]
      refine Cv.skip ?_
      refine Cv.seq (Cv.block (reg6_ok T D hn hS' hlen hb hi' hj' (by omega) h0 fun ts2 hS2 hi2 hj2 => ?_))
      refine Cv.region ?_
      refine Ops.step (st_move evO_tmp) ?_
      refine Ops.step (st_binOp (u := .int .i64 j) (v := .int .i64 1) (r := .int .i64 (j - 1 : Nat)) (by rw [evO_tmp]; simp [gt_ne, gt_self, hS2.len, hj2]) rfl (by simp only [binE, intE, ne_eq, not_true_eq_false, if_false]; rw [subI (by omega) h0])) ?_
      refine Ops.step (st_assign evO_tmp) ?_
      refine Ops.nil ⟨j - 1, by omega, _, ?_, ?_, ?_, by omega, (swap_perm (by omega) (by omega)).trans hp, hI.swap h0 (by omega) hji hlt, ?_⟩
      · repeat (refine Slots.set ?_ (by decide) _)
        exact hS2
      · simp [gt_ne, gt_self, hS2.len, hi2]
      · simp [gt_ne, gt_self, hS2.len]
      · simp only [app_nil]
        rw [List.set_set]
    · simp only [hlt, decide_false, Bool.false_eq_true, if_false]
      refine Cv.exit ?_
      refine hQ _ js hS' hi' hp (hI.done fun x y _ hx hy => ?_)
      have e1 := (List.getElem?_eq_some_iff.1 hx).2
      have e2 := (List.getElem?_eq_some_iff.1 hy).2
      omega
  · rw [dif_neg h0]
    simp only [Bool.false_eq_true, if_false]
    refine Cv.exit ?_
    exact hQ _ js hS' hi' hp (hI.done fun x y h _ _ => absurd h h0)

/-- the sort -/
theorem ins_ok (T : SortEnv E 97 72 12) (D : SortData E 12 cmpf n row) (hn : n < 1000) {b kc : Nat} {ts : List AV} {H : Hp} {js : List Nat} (hS : Slots ts b kc n cmpf) (hp : js.Perm (List.range n))
    (hb : H[b]? = some (.cells .live (js.map row).flatten)) {Q : Ex → List AV → Hp → Prop} (hQ : ∀ ts', Q .normal ts' (H.set b (.cells .live ((List.range n).map row).flatten))) :
    Cv E insC ts H Q := by
  have hbl : b < H.length := (List.getElem?_eq_some_iff.1 hb).1
  have hH : H = H.set b (.cells .live (js.map row).flatten) := by
    refine List.ext_getElem? fun q => ?_
    rw [List.getElem?_set]
    split
    · rename_i e; subst e; rw [hb]
    · rfl
  refine Cv.seq ?_
  refine Cv.region ?_
  refine Ops.step (st_move evO_tmp) ?_
  refine Ops.step (st_binOp (u := .int .i64 0) (v := .int .i64 1) (r := .int .i64 1) (by rw [evO_tmp]; simp [gt_ne, gt_self, hS.len, hS.g1]) rfl rfl) ?_
  refine Ops.step (st_assign evO_tmp) ?_
  refine Ops.nil ?_
  simp only [app_nil]
  refine Cv.block ?_
  refine Cv.loop (fun k ts H' => ∃ i js, k = n - i ∧ 0 < i ∧ Slots ts b kc n cmpf ∧ gt ts 8 = .int .i64 i ∧ js.Perm (List.range n) ∧ UpTo js i ∧ i ≤ n + 1 ∧ H' = H.set b (.cells .live (js.map row).flatten)) ?_ (n - 1) _ _
    ⟨1, js, rfl, by omega, ?_, ?_, hp, ?_, by omega, hH⟩
  · rintro k ts1 H1 ⟨i, js, rfl, hi0, hS, hi, hp, hU, hin, rfl⟩
    have hlen := Slots.lenJs hp
    refine Cv.seq (Cv.seq (Cv.region ?_))
    refine Ops.step (st_move evO_tmp) ?_
    refine Ops.step (st_move evO_tmp) ?_
    refine Ops.step (st_binOp (u := .int .i64 i) (v := .int .i64 n) (r := .bool (decide (i < n))) (by rw [evO_tmp]; simp [gt_ne, gt_self, hS.len, hi]) (by rw [evO_tmp]; simp [gt_ne, gt_self, hS.len, hS.g2]) (by simp [binE, intE])) ?_
    refine Ops.nil ?_
    simp only [app_nil]
    refine Cv.cond (t := decide (i < n)) (by rw [evO_tmp]; simp [gt_ne, gt_self, hS.len]) ?_
    by_cases hlt : i < n
    · simp only [hlt, decide_true, if_true]
      refine Cv.skip ?_
      refine Cv.seq (Cv.block (Cv.seq (Cv.region ?_)))
      refine Ops.step (st_move evO_tmp) ?_
      refine Ops.step (st_assign evO_tmp) ?_
      refine Ops.nil ?_
      simp only [app_nil]
      refine Cv.block (inner_ok (kc := kc) T D hn hbl hlt rfl (fun ts2 js2 hS2 hi2 hp2 hU2 => ?_) _ js ?_ ?_ ?_ hp hU)
      · simp only [if_true]
        refine Cv.region ?_
        refine Ops.step (st_move evO_tmp) ?_
        refine Ops.step (st_binOp (u := .int .i64 i) (v := .int .i64 1) (r := .int .i64 (i + 1 : Nat)) (by rw [evO_tmp]; simp [gt_ne, gt_self, hS2.len, hi2]) rfl (by simp only [binE, intE, ne_eq, not_true_eq_false, if_false]; rw [addI (by omega)])) ?_
        refine Ops.step (st_assign evO_tmp) ?_
        refine Ops.nil ⟨n - (i + 1), by omega, i + 1, js2, rfl, by omega, ?_, ?_, hp2, hU2, by omega, rfl⟩
        · repeat (refine Slots.set ?_ (by decide) _)
          exact hS2
        · simp [gt_ne, gt_self, hS2.len]
      · repeat (refine Slots.set ?_ (by decide) _)
        exact hS
      · simp [gt_ne, gt_self, hS.len, hi]
      · simp [gt_ne, gt_self, hS.len, hi]
    · simp only [hlt, decide_false, Bool.false_eq_true, if_false]
      refine Cv.exit ?_
      simp only [if_true]
      have : js = List.range n := eq_range hp fun p q hpl hql hpq => hU p q _ _ hpq (by omega) (List.getElem?_eq_getElem hpl) (List.getElem?_eq_getElem hql)
      rw [this]
      exact hQ _
  · repeat (refine Slots.set ?_ (by decide) _)
    exact hS
  · simp [gt_ne, gt_self, hS.len]
  · intro p q x y h1 h2; omega
end
end Go.Proofs.YtbaficijlppeoaaGreatDoor

namespace Go.Proofs.YtbaficijlppeoaaGreatDoor
open Go Dv
set_option linter.unusedSimpArgs false
set_option linter.unusedVariables false

noncomputable def pdqC : Code := (match Tryz.f143.body with | some c => c | none => .skip)
noncomputable def sortC : Code := (match Tryz.f110.body with | some c => c | none => .skip)

theorem fn176 : E0.fn 176 = some { code := insC, ntmps := 53, results := [], pure := false, dual := false } := by kernel_rfl
theorem fn143 : E0.fn 143 = some { code := pdqC, ntmps := 148, results := [], pure := false, dual := false } := by kernel_rfl
theorem fn110 : E0.fn 110 = some { code := sortC, ntmps := 14, results := [], pure := false, dual := false } := by kernel_rfl

/-- an environment over this program -/
structure Over (E : Env) : Prop where
  fn : E.fn = E0.fn
  ty : E.ty = E0.ty
  ovI : E.ovI = fun _ _ _ => none
  pairs : E.pairs = E0.pairs
  glob : E.glob = E0.glob

theorem sortEnv {E : Env} (h : Over E) : SortEnv E 97 72 12 := by
  have h97 : ∃ i, E0.ty 97 = some i ∧ i.und = .slice 72 ∧ i.isAgg = false := by
    obtain ⟨i, hi⟩ : ∃ i, E0.ty 97 = some i := Option.isSome_iff_exists.1 (by kernel_rfl)
    refine ⟨i, hi, ?_, ?_⟩
    · have : (E0.ty 97).map (·.und) = some (.slice 72) := by kernel_rfl
      rw [hi] at this; simpa using this
    · have : (E0.ty 97).map (·.isAgg) = some false := by kernel_rfl
      rw [hi] at this; simpa using this
  have h72 : ∃ i, E0.ty 72 = some i ∧ i.isAgg = true ∧ i.size = 12 := by
    obtain ⟨i, hi⟩ : ∃ i, E0.ty 72 = some i := Option.isSome_iff_exists.1 (by kernel_rfl)
    refine ⟨i, hi, ?_, ?_⟩
    · have : (E0.ty 72).map (·.isAgg) = some true := by kernel_rfl
      rw [hi] at this; simpa using this
    · have : (E0.ty 72).map (·.size) = some 12 := by kernel_rfl
      rw [hi] at this; simpa using this
  exact ⟨by rw [h.ty]; exact h97, by rw [h.ty]; exact h72, by rw [h.pairs]; rfl, by rw [h.pairs]; rfl⟩

section
variable {E : Env} {cmpf n : Nat} {row : Nat → List AV}

theorem gt_lit {l : List AV} {i : Nat} {v : AV} (h : l[i]? = some v) : gt l i = v := by unfold gt; rw [h]; rfl

theorem pdq_ok (hE : Over E) (D : SortData E 12 cmpf n row) (hn : n ≤ 12) {b kc : Nat} {lim : AV} {H : Hp} {js : List Nat} (hp : js.Perm (List.range n))
    (hb : H[b]? = some (.cells .live (js.map row).flatten)) {Q : Ex → List AV → Hp → Prop} (hQ : ∀ ts', Q .ret ts' (H.set b (.cells .live ((List.range n).map row).flatten))) :
    Cv E pdqC ([.hslice b 0 n 12 kc, .int .i64 0, .int .i64 n, lim, .func cmpf [] []] ++ List.replicate 143 undefV) H Q := by
  generalize hts : [AV.hslice b 0 n 12 kc, .int .i64 0, .int .i64 n, lim, .func cmpf [] []] ++ List.replicate 143 undefV = ts
  have hl : ts.length = 148 := by subst hts; rfl
  have g0 : gt ts 0 = .hslice b 0 n 12 kc := by subst hts; rfl
  have g1 : gt ts 1 = .int .i64 0 := by subst hts; rfl
  have g2 : gt ts 2 = .int .i64 n := by subst hts; rfl
  have g4 : gt ts 4 = .func cmpf [] [] := by subst hts; rfl
  clear hts
  refine Cv.seq (Cv.region ?_)
  refine Ops.step (st_assign rfl) ?_
  refine Ops.nil ?_
  refine Cv.seq (Cv.region ?_)
  refine Ops.step (st_assign rfl) ?_
  refine Ops.nil ?_
  refine Cv.block (Cv.round (Cv.block (Cv.seq (Cv.region ?_))))
  refine Ops.step (st_move evO_tmp) ?_
  refine Ops.step (st_move evO_tmp) ?_
  refine Ops.step (st_binOp (u := .int .i64 n) (v := .int .i64 0) (r := .int .i64 n) (by rw [evO_tmp]; simp [gt_ne, gt_self, hl, g2]) (by rw [evO_tmp]; simp [gt_ne, gt_self, hl, g1])
    (by simp only [binE, intE, ne_eq, not_true_eq_false, if_false, Int.sub_zero, wrapK]; rw [IntWalk.i64_in _ (by omega)])) ?_
  refine Ops.step (st_assign evO_tmp) ?_
  refine Ops.nil ?_
  refine Cv.seq (Cv.seq (Cv.region ?_))
  refine Ops.step (st_move evO_tmp) ?_
  refine Ops.step (st_binOp (u := .int .i64 n) (v := .int .i64 12) (r := .bool true) (by rw [evO_tmp]; simp [gt_ne, gt_self, hl]) rfl (by simp [binE, intE]; omega)) ?_
  refine Ops.nil ?_
  refine Cv.cond (t := true) (by rw [evO_tmp]; simp [gt_ne, gt_self, hl]) ?_
  simp only [if_true]
  refine Cv.seq (Cv.region ?_)
  refine Ops.step (st_move evO_tmp) ?_
  refine Ops.step (st_move evO_tmp) ?_
  refine Ops.step (st_move evO_tmp) ?_
  refine Ops.step (st_move evO_tmp) ?_
  refine Ops.callI (f := 176) (al := [.hslice b 0 n 12 kc, .int .i64 0, .int .i64 n, .func cmpf [] []]) rfl (by simp [evL, evO_tmp, gt_ne, gt_self, hl, g0, g1, g2, g4]) (by rw [hE.fn]; exact fn176) rfl (by rw [hE.ovI]) ?_
  refine ins_ok (kc := kc) (sortEnv hE) D (by omega) ⟨rfl, rfl, rfl, rfl, rfl⟩ hp hb fun ts' => ⟨fun id h => (by cases h), [], rfl, ?_⟩
  refine Ops.nil ?_
  exact Cv.ret (hQ _)

/-- SortFunc -/
theorem sort_ok (hE : Over E) (D : SortData E 12 cmpf n row) (hn : n ≤ 12) {lim : AV} (hlim : ∃ m, call E m 144 [.int .u64 n] = some lim) (hpl : isPure lim = true) (h144 : ∀ fi, E.fn 144 = some fi → fi.pure = true)
    {b kc : Nat} {H : Hp} {js : List Nat} (hp : js.Perm (List.range n))
    (hb : H[b]? = some (.cells .live (js.map row).flatten)) {Q : Ex → List AV → Hp → Prop} (hQ : ∀ ts', Q .normal ts' (H.set b (.cells .live ((List.range n).map row).flatten))) :
    Cv E sortC ([.hslice b 0 n 12 kc, .func cmpf [] []] ++ List.replicate 12 undefV) H Q := by
  generalize hts : [AV.hslice b 0 n 12 kc, .func cmpf [] []] ++ List.replicate 12 undefV = ts
  have hl : ts.length = 14 := by subst hts; rfl
  have g0 : gt ts 0 = .hslice b 0 n 12 kc := by subst hts; rfl
  have g1 : gt ts 1 = .func cmpf [] [] := by subst hts; rfl
  clear hts
  obtain ⟨i97, t1, t2, t3⟩ := (sortEnv hE).s
  refine Cv.seq (Cv.region ?_)
  refine Ops.step (st_move evO_tmp) ?_
  refine Ops.step (st_builtin (al := [.hslice b 0 n 12 kc]) (r := .int .i64 n) (l := []) (by simp [evL, evO_tmp, gt_ne, gt_self, hl, g0]) (by
    obtain ⟨und, isAgg, size, bytes, zero, eqOk⟩ := i97
    simp only at t2
    subst t2
    simp [builtinE, lenOfE, t1])) ?_
  refine Ops.step (st_assign evO_tmp) ?_
  refine Ops.nil ?_
  have c3 : ∃ i, E.ty 3 = some i ∧ i.und = .int .i64 := by
    rw [hE.ty]
    obtain ⟨i, hi⟩ : ∃ i, E0.ty 3 = some i := Option.isSome_iff_exists.1 (by kernel_rfl)
    refine ⟨i, hi, ?_⟩
    have : (E0.ty 3).map (·.und) = some (.int .i64) := by kernel_rfl
    rw [hi] at this; simpa using this
  have c128 : ∃ i, E.ty 128 = some i ∧ i.und = .int .u64 := by
    rw [hE.ty]
    obtain ⟨i, hi⟩ : ∃ i, E0.ty 128 = some i := Option.isSome_iff_exists.1 (by kernel_rfl)
    refine ⟨i, hi, ?_⟩
    have : (E0.ty 128).map (·.und) = some (.int .u64) := by kernel_rfl
    rw [hi] at this; simpa using this
  obtain ⟨i3, c3, c3'⟩ := c3
  obtain ⟨i128, c128, c128'⟩ := c128
  refine Cv.region ?_
  refine Ops.step (st_move evO_tmp) ?_
  refine Ops.step (st_move evO_tmp) ?_
  refine Ops.step (st_move evO_tmp) ?_
  refine Ops.step (st_convInt (k := .i64) (n := (n : Int)) (by rw [evO_tmp]; simp [gt_ne, gt_self, hl]) c3 c128 c128') ?_
  obtain ⟨m, hm⟩ := hlim
  refine Ops.callP (f := 144) (al := [.int .u64 n]) ⟨m, hm⟩ (fun pc hpc => st_callP' rfl (by simp [evL, evO_tmp, gt_ne, gt_self, hl, wrapK]; rw [IntWalk.u64_in _ (by omega)]) h144 rfl hpc) ?_
  refine Ops.step (st_move evO_tmp) ?_
  refine Ops.callI (f := 143) (al := [.hslice b 0 n 12 kc, .int .i64 0, .int .i64 n, lim, .func cmpf [] []]) rfl (by simp [evL, evO_tmp, evO_int, gt_ne, gt_self, hl, g0, g1]) (by rw [hE.fn]; exact fn143) rfl (by rw [hE.ovI]) ?_
  have hap : ∀ (H : Hp) (e : Eff), e = (if refFree lim then Eff.looks [] else Eff.marks []) → e.app H = H := by
    intro H e he
    subst he
    split <;> rfl
  simp only [app_nil]
  rw [hap _ _ rfl]
  refine pdq_ok hE D hn hp hb fun ts' => ⟨fun id h => (by cases h), [], rfl, ?_⟩
  exact Ops.nil (hQ _)
end
end Go.Proofs.YtbaficijlppeoaaGreatDoor
