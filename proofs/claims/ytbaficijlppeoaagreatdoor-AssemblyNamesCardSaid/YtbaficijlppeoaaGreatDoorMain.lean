/-
  What the body of AssemblyNames comes to.
-/
import Derived.Test.YtbaficijlppeoaaGreatDoorKnown
set_option linter.unusedSimpArgs false
set_option linter.unusedVariables false

namespace Go.Proofs.YtbaficijlppeoaaGreatDoor
open Go Dv
set_option linter.unusedSimpArgs false
set_option linter.unusedVariables false
def bools (b : Bool) : Ex → List AV → Hp → Prop := fun ex ts H => (∀ id, ex ≠ .exit id) ∧ ∃ rs bs, resE H Ef ts [.tmp 4] = some rs ∧ freezeL H [oneE rs] = some ([.bool b], bs)

theorem bools_ret {ts : List AV} {H : Hp} {b : Bool} (h : gt ts 4 = .bool b) : bools b .ret ts H := by
  refine ⟨fun id h => (by cases h), [.bool b], [], ?_, rfl⟩
  show some [gt ts 4] = _
  rw [h]

theorem st_makeSlice {ops : List Oper} {dr : Bool} {nid d t t1 : Nat} {p : String} {af : Array Edge} {ts : List AV} {H : Hp} {pc : Pc} {ic yc : Ic} {x y : Operand} {u v r : AV} {l : List (Nat × Blk)} {E : Env}
    (hx : evO ts x = some u) (hy : evO ts y = some v) (h : makeSliceE E nid t1 u v = some (r, l)) :
    stepE E pc ic yc dr ops nid { dst := some d, op := .makeSlice t1 x y, type := t, pos := p, after := af, guard := none } ts H = some (ts.set d r, .sets l) := by
  simp [stepE, wantedE, opE, hx, hy, h, putE]

theorem st_convStr {ops : List Oper} {dr : Bool} {nid d t t1 t2 e b o len es kc : Nat} {p : String} {af : Array Edge} {ts : List AV} {H : Hp} {pc : Pc} {ic yc : Ic} {x : Operand} {cs : List AV} {bs : List UInt8} {E : Env} {i1 i2 ie : TyI}
    (hx : evO ts x = some (.hslice b o len es kc)) (h1 : E.ty t1 = some i1) (u1 : i1.und = .slice e) (h2 : E.ty t2 = some i2) (u2 : i2.und = .string) (he : E.ty e = some ie) (ue : ie.und = .int .u8) (se : ie.size = 1) (hc : cellsE H 1 (.hslice b o len es kc) = some cs) (hb : bytesE cs = some bs) :
    stepE E pc ic yc dr ops nid { dst := some d, op := .convert t1 t2 x, type := t, pos := p, after := af, guard := none } ts H = some (ts.set d (.str bs), .sets []) := by
  obtain ⟨und1, isAgg1, size1, bytes1, zero1, eqOk1⟩ := i1
  obtain ⟨und2, isAgg2, size2, bytes2, zero2, eqOk2⟩ := i2
  obtain ⟨unde, isAgge, sizee, bytese, zeroe, eqOke⟩ := ie
  simp only at u1 u2 ue se
  subst u1 u2 ue se
  simp only [stepE, wantedE, opE, hx, h1, h2, he, hc, hb, putE, if_true, Option.map_some]

theorem names_ok {s : List UInt8} {z : Int} (hz0 : 0 ≤ z) (hz1 : z ≤ 255) : Cv Ef namesC ([.str s, .int .u8 z] ++ List.replicate 41 undefV) [] (bools true) := by
  have T := strTy overF
  obtain ⟨i5, _, t5, u5, s5, ag5, z5, by5, _⟩ := bytes_ty
  obtain ⟨i23, t23, u23⟩ := tyF (t := 23) (u := .slice 5) (by kernel_rfl)
  obtain ⟨i3, t3, u3⟩ := tyF (t := 3) (u := .int .i64) (by kernel_rfl)
  generalize hts : [AV.str s, .int .u8 z] ++ List.replicate 41 undefV = ts
  have hl : ts.length = 43 := by subst hts; rfl
  have g0 : gt ts 0 = .str s := by subst hts; rfl
  have g1 : gt ts 1 = .int .u8 z := by subst hts; rfl
  clear hts
  refine Cv.seq (Cv.region ?_)
  refine Ops.step (st_assign rfl) ?_
  refine Ops.nil ?_
  simp only [app_nil]
  refine Cv.seq (Cv.seq (Cv.region ?_))
  refine Ops.callP (f := 4) (al := []) known_F (fun pc hpc => st_callP' rfl rfl (pureF (by kernel_rfl)) rfl hpc) ?_
  simp only [show ∀ H : Hp, (if refFree (AV.bool true) = true then Eff.looks [] else Eff.marks []).app H = H from fun _ => rfl]
  refine Ops.step (st_unOp (u := .bool true) (r := .bool false) (by rw [evO_tmp]; simp [gt_self, hl]) rfl) ?_
  refine Ops.step (st_move (v := .bool false) (by rw [evO_tmp]; simp [gt_self, hl])) ?_
  refine Ops.step ((st_guard_on (dj := 9) rfl (by simp [gt_self, hl])).trans (st_move (v := .str s) (by rw [evO_tmp]; simp [gt_ne, g0]))) ?_
  refine Ops.step ((st_guard_on (dj := 9) rfl (by simp [gt_ne, gt_self, hl])).trans (st_builtin (al := [.str s]) (by simp [evL, evO_tmp, gt_ne, gt_self, hl]) (len_str T))) ?_
  refine Ops.step ((st_guard_on (dj := 9) rfl (by simp [gt_ne, gt_self, hl])).trans (st_binOp (u := .int .i64 s.length) (v := .int .i64 60) (r := .bool (decide (60 < s.length))) (by rw [evO_tmp]; simp [gt_self, hl]) rfl (by simp [binE, intE]; omega))) ?_
  refine Ops.step (st_pick (q := false) (v := .bool (decide (60 < s.length))) (by rw [evO_tmp]; simp [gt_ne, gt_self, hl]) (by show evO _ (.tmp 12) = _; rw [evO_tmp]; simp [gt_self, hl])) ?_
  refine Ops.nil ?_
  simp only [app_nil]
  refine Cv.cond (t := decide (60 < s.length)) (by rw [evO_tmp]; simp [gt_self, hl]) ?_
  by_cases h60 : 60 < s.length
  · simp only [h60, decide_true, if_true]
    refine Cv.seq (Cv.region ?_)
    refine Ops.callP (f := 4) (al := []) known_F (fun pc hpc => st_callP' rfl rfl (pureF (by kernel_rfl)) rfl hpc) ?_
    simp only [show ∀ H : Hp, (if refFree (AV.bool true) = true then Eff.looks [] else Eff.marks []).app H = H from fun _ => rfl]
    refine Ops.step (st_assign (v := .bool true) (by rw [evO_tmp]; simp [gt_self, hl])) ?_
    refine Ops.nil ?_
    exact Cv.ret (bools_ret (by simp [gt_self, hl]))
  · simp only [h60, decide_false, Bool.false_eq_true, if_false]
    refine Cv.skip ?_
    -- the size's rest
    obtain ⟨r, hr, hr2⟩ : ∃ r : Nat, z.tmod 2 = r ∧ r < 2 := ⟨(z % 2).toNat, by rw [Int.tmod_eq_emod_of_nonneg hz0]; omega, by omega⟩
    refine Cv.seq (Cv.region ?_)
    refine Ops.step (st_move (v := .int .u8 z) (by rw [evO_tmp]; simp [gt_ne, g1])) ?_
    refine Ops.step (st_binOp (u := .int .u8 z) (v := .int .u8 2) (r := .int .u8 r) (by rw [evO_tmp]; simp [gt_self, hl]) rfl (by simp [binE, intE, hr])) ?_
    refine Ops.step (st_convInt (k := .u8) (n := (r : Int)) (by rw [evO_tmp]; simp [gt_self, hl]) t5 t3 u3) ?_
    refine Ops.step (st_binOp (u := .int .i64 40) (v := .int .i64 r) (r := .int .i64 (40 + r : Nat)) rfl (by rw [evO_tmp]; simp [gt_self, hl, wrapK]; rw [IntWalk.i64_in _ (by omega)]) (by simp only [binE, intE, ne_eq, not_true_eq_false, if_false, wrapK]; rw [IntWalk.i64_in _ (by omega)]; simp)) ?_
    refine Ops.step (st_makeSlice (u := .int .i64 (40 + r : Nat)) (v := .int .i64 (40 + r : Nat)) (r := .hslice 0 0 (40 + r) 1 (40 + r)) (l := [(0, .cells .live (rowB 0 (40 + r)))]) (by rw [evO_tmp]; simp [gt_self, hl]) (by rw [evO_tmp]; simp [gt_self, hl]) (by
      obtain ⟨und, isAgg, size, bytes, zero, eqOk⟩ := i23
      simp only at u23
      subst u23
      simp only [makeSliceE, t23, t5, z5]
      rw [if_pos ⟨by omega, by omega, by rw [by5]; unfold roomB; omega, by omega, by rw [s5]; rfl, by rw [s5]; omega⟩, s5, repE_one]
      simp [rowB, app_nil]
      omega)) ?_
    rw [show (Eff.sets [(0, Blk.cells .live (rowB 0 (40 + r)))]).app _ = [Blk.cells .live (rowB 0 (40 + r))] from rfl]
    refine Ops.step (st_assign (v := .hslice 0 0 (40 + r) 1 (40 + r)) (by rw [evO_tmp]; simp [gt_self, hl])) ?_
    refine Ops.nil ?_
    simp only [app_nil]
    refine Cv.seq (Cv.seq (Cv.region ?_))
    refine Ops.step (st_assign rfl) ?_
    refine Ops.nil ?_
    simp only [app_nil]
    refine Cv.block (Cv.loop (fun k ts H => ∃ i : Nat, k = 40 + r - i ∧ i ≤ 40 + r ∧ ts.length = 43 ∧ gt ts 0 = .str s ∧ gt ts 1 = .int .u8 z ∧ gt ts 5 = .hslice 0 0 (40 + r) 1 (40 + r) ∧ gt ts 6 = .int .i64 i ∧ H = [.cells .live (rowB i (40 + r))]) ?_ (40 + r) _ _
      ⟨0, by omega, by omega, by simp [hl], by simp [gt_ne, g0], by simp [gt_ne, g1], by simp [gt_ne, gt_self, hl], by simp [gt_self, hl], rfl⟩)
    clear hl g0 g1 ts
    rintro k ts H ⟨i, rfl, hi, hl, g0, g1, g5, g6, rfl⟩
    refine Cv.seq (Cv.seq (Cv.region ?_))
    refine Ops.step (st_move (v := .int .i64 i) (by rw [evO_tmp, g6])) ?_
    refine Ops.step (st_move (v := .hslice 0 0 (40 + r) 1 (40 + r)) (by rw [evO_tmp]; simp [gt_ne, g5])) ?_
    refine Ops.step (st_builtin (al := [.hslice 0 0 (40 + r) 1 (40 + r)]) (r := .int .i64 (40 + r : Nat)) (l := []) (by simp [evL, evO_tmp, gt_self, hl]) (by
      obtain ⟨und, isAgg, size, bytes, zero, eqOk⟩ := i23
      simp only at u23
      subst u23
      simp [builtinE, lenOfE, t23])) ?_
    refine Ops.step (st_binOp (u := .int .i64 i) (v := .int .i64 (40 + r : Nat)) (r := .bool (decide (i < 40 + r))) (by rw [evO_tmp]; simp [gt_ne, gt_self, hl]) (by rw [evO_tmp]; simp [gt_self, hl]) (by simp [binE, intE]; omega)) ?_
    refine Ops.nil ?_
    simp only [app_nil]
    refine Cv.cond (t := decide (i < 40 + r)) (by rw [evO_tmp]; simp [gt_self, hl]) ?_
    by_cases hlt : i < 40 + r
    · simp only [hlt, decide_true, if_true]
      refine Cv.skip ?_
      refine Cv.seq (Cv.block (Cv.region ?_))
      refine Ops.step (st_move (v := .hslice 0 0 (40 + r) 1 (40 + r)) (by rw [evO_tmp]; simp [gt_ne, g5])) ?_
      refine Ops.step (st_move (v := .int .i64 i) (by rw [evO_tmp]; simp [gt_ne, g6])) ?_
      refine Ops.step (st_indexAddr (u := .hslice 0 0 (40 + r) 1 (40 + r)) (v := .int .i64 i) (r := .hptr 0 i) (by rw [evO_tmp]; simp [gt_ne, gt_self, hl]) (by rw [evO_tmp]; simp [gt_self, hl]) (by
        simp only [indexAddrE, t23, u23, t5, s5]
        rw [if_pos ⟨trivial, by omega, by omega⟩]
        simp)) ?_
      refine Ops.step (st_store (u := .hptr 0 i) (v := .int .u8 97) (l := [(0, .cells .live (rowB (i + 1) (40 + r)))]) (by rw [evO_tmp]; simp [gt_self, hl]) rfl (by
        simp only [app_nil, storeE, t5, List.getElem?_cons_zero, AV.cells, s5, List.length_singleton, ne_eq, not_true_eq_false, decide_false, Bool.false_or, rowB_splice hlt]
        have hlen : (rowB i (40 + r)).length = 40 + r := by unfold rowB; simp; omega
        rw [hlen]
        simp [oneA]
        omega)) ?_
      refine Ops.nil ?_
      refine Cv.region ?_
      refine Ops.step (st_move (v := .int .i64 i) (by rw [evO_tmp]; simp [gt_ne, g6])) ?_
      refine Ops.step (st_binOp (u := .int .i64 i) (v := .int .i64 1) (r := .int .i64 (i + 1 : Nat)) (by rw [evO_tmp]; simp [gt_self, hl]) rfl (by simp only [binE, intE, ne_eq, not_true_eq_false, if_false]; rw [addI (by omega)])) ?_
      refine Ops.step (st_assign (v := .int .i64 (i + 1 : Nat)) (by rw [evO_tmp]; simp [gt_self, hl])) ?_
      refine Ops.nil ⟨40 + r - (i + 1), by omega, i + 1, rfl, by omega, by simp [hl], by simp [gt_ne, g0], by simp [gt_ne, g1], by simp [gt_ne, g5], by simp [gt_self, hl], ?_⟩
      simp only [app_nil]
      rfl
    · simp only [hlt, decide_false, Bool.false_eq_true, if_false]
      have hie : i = 40 + r := by omega
      refine Cv.exit ?_
      simp only [if_true]
      have hrow : rowB i (40 + r) = List.replicate (40 + r) (.int .u8 97) := by subst hie; simp [rowB]
      rw [hrow]
      have hs : s.length < 1000 := by omega
      refine Cv.seq (Cv.region ?_)
      refine Ops.step (st_move (v := .str s) (by rw [evO_tmp]; simp [gt_ne, g0])) ?_
      refine Ops.callP (f := 5) (al := [.str s]) (nameA hs) (fun pc hpc => st_callP' rfl (by simp [evL, evO_tmp, gt_self, hl]) (pureF (by kernel_rfl)) rfl hpc) ?_
      have hB : ∀ (b : Bool) (H : Hp), (if refFree (AV.bool b) = true then Eff.looks [] else Eff.marks []).app H = H := fun _ _ => rfl
      simp only [hB, app_nil]
      refine Ops.step (st_move (v := .str s) (by rw [evO_tmp]; simp [gt_ne, g0])) ?_
      refine Ops.callP (f := 6) (al := [.str s]) (nameB hs) (fun pc hpc => st_callP' rfl (by simp [evL, evO_tmp, gt_self, hl]) (pureF (by kernel_rfl)) rfl hpc) ?_
      simp only [hB, app_nil]
      refine Ops.step (st_binOp (u := .bool (nameL s)) (v := .bool (nameL s)) (r := .bool true) (by rw [evO_tmp]; simp [gt_ne, gt_self, hl]) (by rw [evO_tmp]; simp [gt_self, hl]) (by rw [eq_bool (H := [])]; simp)) ?_
      refine Ops.step (st_move (v := .bool true) (by rw [evO_tmp]; simp [gt_self, hl])) ?_
      refine Ops.step ((st_guard_on (dj := 34) rfl (by simp [gt_self, hl])).trans (st_move (v := .hslice 0 0 (40 + r) 1 (40 + r)) (by rw [evO_tmp]; simp [gt_ne, g5]))) ?_
      obtain ⟨i9, t9, u9⟩ := T.s
      refine Ops.step ((st_guard_on (dj := 34) rfl (by simp [gt_ne, gt_self, hl])).trans (st_convStr (b := 0) (o := 0) (len := 40 + r) (es := 1) (kc := 40 + r) (cs := List.replicate (40 + r) (.int .u8 97)) (bs := List.replicate (40 + r) 97) (by rw [evO_tmp]; simp [gt_self, hl]) t23 u23 t9 u9 t5 u5 s5 (by
        simp only [app_nil, cellsE, ne_eq, not_true_eq_false, if_false, List.getElem?_cons_zero, List.length_replicate]
        simp) (bytesE_rep _))) ?_
      have hrep : (List.replicate (40 + r) (97 : UInt8)).length < 1000 := by simp; omega
      refine Ops.callP (f := 5) (al := [.str (List.replicate (40 + r) 97)]) (nameA hrep) (fun pc hpc => (st_guard_on (dj := 34) rfl (by simp [gt_ne, gt_self, hl])).trans (st_callP' rfl (by simp [evL, evO_tmp, gt_self, hl]) (pureF (by kernel_rfl)) rfl hpc)) ?_
      simp only [hB, app_nil]
      refine Ops.step ((st_guard_on (dj := 34) rfl (by simp [gt_ne, gt_self, hl])).trans (st_move (v := .int .u8 z) (by rw [evO_tmp]; simp [gt_ne, g1]))) ?_
      refine Ops.step ((st_guard_on (dj := 34) rfl (by simp [gt_ne, gt_self, hl])).trans (st_binOp (u := .int .u8 z) (v := .int .u8 2) (r := .int .u8 r) (by rw [evO_tmp]; simp [gt_self, hl]) rfl (by simp [binE, intE, hr]))) ?_
      refine Ops.step ((st_guard_on (dj := 34) rfl (by simp [gt_ne, gt_self, hl])).trans (st_binOp (u := .int .u8 r) (v := .int .u8 0) (r := .bool ((r : Int) == 0)) (by rw [evO_tmp]; simp [gt_self, hl]) rfl (by simp [binE, intE]))) ?_
      have hfin : (nameL (List.replicate (40 + r) 97) == ((r : Int) == 0)) = true := by
        have : r = 0 ∨ r = 1 := by omega
        rcases this with rfl | rfl <;> rfl
      refine Ops.step ((st_guard_on (dj := 34) rfl (by simp [gt_ne, gt_self, hl])).trans (st_binOp (u := .bool (nameL (List.replicate (40 + r) 97))) (v := .bool ((r : Int) == 0)) (r := .bool true) (by rw [evO_tmp]; simp [gt_ne, gt_self, hl]) (by rw [evO_tmp]; simp [gt_self, hl]) (by rw [eq_bool (H := []), hfin]))) ?_
      refine Ops.step (st_pick (q := true) (v := .bool true) (by rw [evO_tmp]; simp [gt_ne, gt_self, hl]) (by show evO _ (.tmp 41) = _; rw [evO_tmp]; simp [gt_self, hl])) ?_
      refine Ops.step (st_assign (v := .bool true) (by rw [evO_tmp]; simp [gt_self, hl])) ?_
      refine Ops.nil ?_
      exact Cv.ret (bools_ret (by simp [gt_self, hl]))

/-- what the law comes to -/
theorem names_call {s : List UInt8} {z : Int} (hz0 : 0 ≤ z) (hz1 : z ≤ 255) : ∃ n, call Ef n 3 [.str s, .int .u8 z] = some (.bool true) :=
  call_of (ovF (by decide) (by decide) _) (by rw [overF.fn]; exact fn3) rfl (names_ok hz0 hz1)

end Go.Proofs.YtbaficijlppeoaaGreatDoor
