/-
  What the two functions that tell names answer at every string.
-/
import Derived.Test.YtbaficijlppeoaaGreatDoorAxes
set_option linter.unusedSimpArgs false
set_option linter.unusedVariables false

namespace Go.Proofs.YtbaficijlppeoaaGreatDoor
open Go Dv
set_option linter.unusedSimpArgs false
set_option linter.unusedVariables false
section
variable {E : Env}
theorem st_guard_un {ops : List Oper} {dr : Bool} {nid : Nat} {ts : List AV} {H : Hp} {pc : Pc} {ic yc : Ic} {d : Option Nat} {op : Op} {t : Nat} {p : String} {af : Array Edge} {j dj : Nat} {want : Bool} (hj : (ops[j]?).bind (·.dst) = some dj) (hd : gt ts dj = undefV) :
    stepE E pc ic yc dr ops nid { dst := d, op := op, type := t, pos := p, after := af, guard := some (j, want) } ts H = some (putE d undefV ts, .sets []) := by
  unfold stepE wantedE
  simp only [hj]
  unfold gt at hd
  cases hq : ts[dj]? with
  | none => simp
  | some x => rw [hq] at hd; simp only [Option.getD_some] at hd; subst hd; simp [undefV]

noncomputable def isC : Code := (match Tryz.f5.body with | some c => c | none => .skip)
noncomputable def isC' : Code := (match Tryz.f6.body with | some c => c | none => .skip)
noncomputable def roundOf : Code → Code
  | .seq _ (.seq (.seq _ (.block _ (.loop (.seq _ (.seq _ (.seq (.block _ (.seq _ b)) _)))))) _) => b
  | _ => .skip
noncomputable def roundOf' : Code → Code
  | .seq _ (.seq (.seq _ (.block _ (.loop (.seq _ (.seq (.block _ b) _))))) _) => b
  | _ => .skip
noncomputable def is5 : Code := (match roundOf isC with | .seq _ (.seq a _) => a | _ => .skip)
noncomputable def is6 : Code := (match roundOf isC with | .seq _ (.seq _ (.seq a _)) => a | _ => .skip)
noncomputable def is5' : Code := (match roundOf' isC' with | .seq _ (.seq a _) => a | _ => .skip)
noncomputable def is6' : Code := (match roundOf' isC' with | .seq _ (.seq _ (.seq a _)) => a | _ => .skip)


theorem isA_r5 {ts : List AV} {H : Hp} {c : Int} (hl : ts.length = 51) (h4 : gt ts 4 = .int .u8 c) {Q : Ex → List AV → Hp → Prop}
    (hQ : ∀ ts', ts'.length = 51 → gt ts' 0 = gt ts 0 → gt ts' 2 = gt ts 2 → gt ts' 3 = gt ts 3 → gt ts' 4 = gt ts 4 → gt ts' 5 = .bool (decide (97 ≤ c ∧ c ≤ 122)) → (∀ j, 6 ≤ j → j < 14 → gt ts' j = gt ts j) → Q .normal ts' H) :
    Cv E is5 ts H Q := by
  refine Cv.region ?_
  rcases Int.lt_or_le c 97 with hc | hc
  · refine Ops.step (st_move (v := .int .u8 c) (by rw [evO_tmp]; simp [gt_ne, gt_self, hl, putE, h4])) ?_
    refine Ops.step (st_binOp (u := .int .u8 c) (v := .int .u8 97) (r := .bool false) (by rw [evO_tmp]; simp [gt_ne, gt_self, hl, putE, h4]) rfl (by simp [binE, intE, beq_iff_eq]; try omega)) ?_
    refine Ops.step (st_move (v := .bool false) (by rw [evO_tmp]; simp [gt_ne, gt_self, hl, putE, h4])) ?_
    refine Ops.step (st_guard_off (dj := 16) (b := false) rfl (by simp [gt_ne, gt_self, hl, putE]) (by simp)) ?_
    refine Ops.step (st_guard_off (dj := 16) (b := false) rfl (by simp [gt_ne, gt_self, hl, putE]) (by simp)) ?_
    refine Ops.step (st_pick (q := false) (v := .bool false) (by rw [evO_tmp]; simp [gt_ne, gt_self, hl, putE, h4]) (rfl)) ?_
    refine Ops.step (st_assign (v := .bool false) (by rw [evO_tmp]; simp [gt_ne, gt_self, hl, putE, h4])) ?_
    refine Ops.nil (hQ _ (by simp [putE, hl]) (by simp [gt_ne, putE]) (by simp [gt_ne, putE]) (by simp [gt_ne, putE]) (by simp [gt_ne, putE]) (by simp [gt_ne, gt_self, putE, hl]; omega) ?_)
    intro j h1 h2; rw [gt_ne (by omega)]; (try simp only [putE]); repeat (rw [gt_ne (by omega)])
  · rcases Int.lt_or_le 122 c with hd | hd
    · refine Ops.step (st_move (v := .int .u8 c) (by rw [evO_tmp]; simp [gt_ne, gt_self, hl, putE, h4])) ?_
      refine Ops.step (st_binOp (u := .int .u8 c) (v := .int .u8 97) (r := .bool true) (by rw [evO_tmp]; simp [gt_ne, gt_self, hl, putE, h4]) rfl (by simp [binE, intE, beq_iff_eq]; try omega)) ?_
      refine Ops.step (st_move (v := .bool true) (by rw [evO_tmp]; simp [gt_ne, gt_self, hl, putE, h4])) ?_
      refine Ops.step (((st_guard_on (dj := 16) rfl (by simp [gt_ne, gt_self, hl, putE])).trans (st_move (v := .int .u8 c) (by rw [evO_tmp]; simp [gt_ne, gt_self, hl, putE, h4])))) ?_
      refine Ops.step (((st_guard_on (dj := 16) rfl (by simp [gt_ne, gt_self, hl, putE])).trans (st_binOp (u := .int .u8 c) (v := .int .u8 122) (r := .bool false) (by rw [evO_tmp]; simp [gt_ne, gt_self, hl, putE, h4]) rfl (by simp [binE, intE, beq_iff_eq]; try omega)))) ?_
      refine Ops.step (st_pick (q := true) (v := .bool false) (by rw [evO_tmp]; simp [gt_ne, gt_self, hl, putE, h4]) (by simp only [Bool.false_eq_true, if_true, if_false]; rw [evO_tmp]; simp [gt_ne, gt_self, hl, putE, h4])) ?_
      refine Ops.step (st_assign (v := .bool false) (by rw [evO_tmp]; simp [gt_ne, gt_self, hl, putE, h4])) ?_
      refine Ops.nil (hQ _ (by simp [putE, hl]) (by simp [gt_ne, putE]) (by simp [gt_ne, putE]) (by simp [gt_ne, putE]) (by simp [gt_ne, putE]) (by simp [gt_ne, gt_self, putE, hl]; omega) ?_)
      intro j h1 h2; rw [gt_ne (by omega)]; (try simp only [putE]); repeat (rw [gt_ne (by omega)])
    · refine Ops.step (st_move (v := .int .u8 c) (by rw [evO_tmp]; simp [gt_ne, gt_self, hl, putE, h4])) ?_
      refine Ops.step (st_binOp (u := .int .u8 c) (v := .int .u8 97) (r := .bool true) (by rw [evO_tmp]; simp [gt_ne, gt_self, hl, putE, h4]) rfl (by simp [binE, intE, beq_iff_eq]; try omega)) ?_
      refine Ops.step (st_move (v := .bool true) (by rw [evO_tmp]; simp [gt_ne, gt_self, hl, putE, h4])) ?_
      refine Ops.step (((st_guard_on (dj := 16) rfl (by simp [gt_ne, gt_self, hl, putE])).trans (st_move (v := .int .u8 c) (by rw [evO_tmp]; simp [gt_ne, gt_self, hl, putE, h4])))) ?_
      refine Ops.step (((st_guard_on (dj := 16) rfl (by simp [gt_ne, gt_self, hl, putE])).trans (st_binOp (u := .int .u8 c) (v := .int .u8 122) (r := .bool true) (by rw [evO_tmp]; simp [gt_ne, gt_self, hl, putE, h4]) rfl (by simp [binE, intE, beq_iff_eq]; try omega)))) ?_
      refine Ops.step (st_pick (q := true) (v := .bool true) (by rw [evO_tmp]; simp [gt_ne, gt_self, hl, putE, h4]) (by simp only [Bool.false_eq_true, if_true, if_false]; rw [evO_tmp]; simp [gt_ne, gt_self, hl, putE, h4])) ?_
      refine Ops.step (st_assign (v := .bool true) (by rw [evO_tmp]; simp [gt_ne, gt_self, hl, putE, h4])) ?_
      refine Ops.nil (hQ _ (by simp [putE, hl]) (by simp [gt_ne, putE]) (by simp [gt_ne, putE]) (by simp [gt_ne, putE]) (by simp [gt_ne, putE]) (by simp [gt_ne, gt_self, putE, hl]; omega) ?_)
      intro j h1 h2; rw [gt_ne (by omega)]; (try simp only [putE]); repeat (rw [gt_ne (by omega)])

theorem isA_r6 {ts : List AV} {H : Hp} {c i : Int} {b : Bool} (hl : ts.length = 51) (h3 : gt ts 3 = .int .i64 i) (h4 : gt ts 4 = .int .u8 c) (h5 : gt ts 5 = .bool b) {Q : Ex → List AV → Hp → Prop}
    (hQ : ∀ ts', ts'.length = 51 → gt ts' 0 = gt ts 0 → gt ts' 2 = gt ts 2 → gt ts' 3 = gt ts 3 → gt ts' 41 = .bool (!b && (decide (i = 0) || decide ((c < 48 ∨ 57 < c) ∧ c ≠ 45 ∧ c ≠ 95))) → (∀ j, 6 ≤ j → j < 20 → gt ts' j = gt ts j) → Q .normal ts' H) :
    Cv E is6 ts H Q := by
  refine Cv.region ?_
  cases b with
  | true =>
    refine Ops.step (st_move (v := .bool true) (by rw [evO_tmp]; simp [gt_ne, gt_self, hl, putE, h3, h4, h5])) ?_
    refine Ops.step (st_unOp (u := .bool true) (r := .bool false) (by rw [evO_tmp]; simp [gt_ne, gt_self, hl, putE, h3, h4, h5]) rfl) ?_
    refine Ops.step (st_move (v := .bool false) (by rw [evO_tmp]; simp [gt_ne, gt_self, hl, putE, h3, h4, h5])) ?_
    refine Ops.step (st_guard_off (dj := 22) (b := false) rfl (by simp [gt_ne, gt_self, hl, putE]) (by simp)) ?_
    refine Ops.step (st_guard_off (dj := 22) (b := false) rfl (by simp [gt_ne, gt_self, hl, putE]) (by simp)) ?_
    refine Ops.step (st_guard_off (dj := 22) (b := false) rfl (by simp [gt_ne, gt_self, hl, putE]) (by simp)) ?_
    refine Ops.step (st_guard_un (dj := 25) rfl (by simp [gt_ne, gt_self, hl, putE])) ?_
    refine Ops.step (st_guard_un (dj := 25) rfl (by simp [gt_ne, gt_self, hl, putE])) ?_
    refine Ops.step (st_guard_un (dj := 25) rfl (by simp [gt_ne, gt_self, hl, putE])) ?_
    refine Ops.step (st_guard_un (dj := 28) rfl (by simp [gt_ne, gt_self, hl, putE])) ?_
    refine Ops.step (st_guard_un (dj := 28) rfl (by simp [gt_ne, gt_self, hl, putE])) ?_
    refine Ops.step (st_guard_un (dj := 25) rfl (by simp [gt_ne, gt_self, hl, putE])) ?_
    refine Ops.step (st_guard_un (dj := 25) rfl (by simp [gt_ne, gt_self, hl, putE])) ?_
    refine Ops.step (st_guard_un (dj := 32) rfl (by simp [gt_ne, gt_self, hl, putE])) ?_
    refine Ops.step (st_guard_un (dj := 32) rfl (by simp [gt_ne, gt_self, hl, putE])) ?_
    refine Ops.step (st_guard_un (dj := 25) rfl (by simp [gt_ne, gt_self, hl, putE])) ?_
    refine Ops.step (st_guard_un (dj := 25) rfl (by simp [gt_ne, gt_self, hl, putE])) ?_
    refine Ops.step (st_guard_un (dj := 36) rfl (by simp [gt_ne, gt_self, hl, putE])) ?_
    refine Ops.step (st_guard_un (dj := 36) rfl (by simp [gt_ne, gt_self, hl, putE])) ?_
    refine Ops.step (st_guard_un (dj := 25) rfl (by simp [gt_ne, gt_self, hl, putE])) ?_
    refine Ops.step (st_guard_off (dj := 22) (b := false) rfl (by simp [gt_ne, gt_self, hl, putE]) (by simp)) ?_
    refine Ops.step (st_pick (q := false) (v := .bool false) (by rw [evO_tmp]; simp [gt_ne, gt_self, hl, putE, h3, h4, h5]) (rfl)) ?_
    refine Ops.nil (hQ _ (by simp [putE, hl]) (by simp [gt_ne, putE]) (by simp [gt_ne, putE]) (by simp [gt_ne, putE]) (by simp [gt_ne, gt_self, putE, hl]; try omega) ?_)
    intro j h1 h2; rw [gt_ne (by omega)]; (try simp only [putE]); repeat (rw [gt_ne (by omega)])
  | false =>
    by_cases hi : i = 0
    · refine Ops.step (st_move (v := .bool false) (by rw [evO_tmp]; simp [gt_ne, gt_self, hl, putE, h3, h4, h5])) ?_
      refine Ops.step (st_unOp (u := .bool false) (r := .bool true) (by rw [evO_tmp]; simp [gt_ne, gt_self, hl, putE, h3, h4, h5]) rfl) ?_
      refine Ops.step (st_move (v := .bool true) (by rw [evO_tmp]; simp [gt_ne, gt_self, hl, putE, h3, h4, h5])) ?_
      refine Ops.step (((st_guard_on (dj := 22) rfl (by simp [gt_ne, gt_self, hl, putE])).trans (st_move (v := .int .i64 i) (by rw [evO_tmp]; simp [gt_ne, gt_self, hl, putE, h3, h4, h5])))) ?_
      refine Ops.step (((st_guard_on (dj := 22) rfl (by simp [gt_ne, gt_self, hl, putE])).trans (st_binOp (u := .int .i64 i) (v := .int .i64 0) (r := .bool true) (by rw [evO_tmp]; simp [gt_ne, gt_self, hl, putE, h3, h4, h5]) rfl (by simp [binE, intE, beq_iff_eq]; try omega)))) ?_
      refine Ops.step (((st_guard_on (dj := 22) rfl (by simp [gt_ne, gt_self, hl, putE])).trans (st_move (v := .bool true) (by rw [evO_tmp]; simp [gt_ne, gt_self, hl, putE, h3, h4, h5])))) ?_
      refine Ops.step (st_guard_off (dj := 25) (b := true) rfl (by simp [gt_ne, gt_self, hl, putE]) (by simp)) ?_
      refine Ops.step (st_guard_off (dj := 25) (b := true) rfl (by simp [gt_ne, gt_self, hl, putE]) (by simp)) ?_
      refine Ops.step (st_guard_off (dj := 25) (b := true) rfl (by simp [gt_ne, gt_self, hl, putE]) (by simp)) ?_
      refine Ops.step (st_guard_un (dj := 28) rfl (by simp [gt_ne, gt_self, hl, putE])) ?_
      refine Ops.step (st_guard_un (dj := 28) rfl (by simp [gt_ne, gt_self, hl, putE])) ?_
      refine Ops.step (st_guard_off (dj := 25) (b := true) rfl (by simp [gt_ne, gt_self, hl, putE]) (by simp)) ?_
      refine Ops.step (st_guard_off (dj := 25) (b := true) rfl (by simp [gt_ne, gt_self, hl, putE]) (by simp)) ?_
      refine Ops.step (st_guard_un (dj := 32) rfl (by simp [gt_ne, gt_self, hl, putE])) ?_
      refine Ops.step (st_guard_un (dj := 32) rfl (by simp [gt_ne, gt_self, hl, putE])) ?_
      refine Ops.step (st_guard_off (dj := 25) (b := true) rfl (by simp [gt_ne, gt_self, hl, putE]) (by simp)) ?_
      refine Ops.step (st_guard_off (dj := 25) (b := true) rfl (by simp [gt_ne, gt_self, hl, putE]) (by simp)) ?_
      refine Ops.step (st_guard_un (dj := 36) rfl (by simp [gt_ne, gt_self, hl, putE])) ?_
      refine Ops.step (st_guard_un (dj := 36) rfl (by simp [gt_ne, gt_self, hl, putE])) ?_
      refine Ops.step (st_guard_off (dj := 25) (b := true) rfl (by simp [gt_ne, gt_self, hl, putE]) (by simp)) ?_
      refine Ops.step (((st_guard_on (dj := 22) rfl (by simp [gt_ne, gt_self, hl, putE])).trans (st_pick (q := true) (v := .bool true) (by rw [evO_tmp]; simp [gt_ne, gt_self, hl, putE, h3, h4, h5]) (rfl)))) ?_
      refine Ops.step (st_pick (q := true) (v := .bool true) (by rw [evO_tmp]; simp [gt_ne, gt_self, hl, putE, h3, h4, h5]) (by simp only [Bool.false_eq_true, if_true, if_false]; rw [evO_tmp]; simp [gt_ne, gt_self, hl, putE, h3, h4, h5])) ?_
      refine Ops.nil (hQ _ (by simp [putE, hl]) (by simp [gt_ne, putE]) (by simp [gt_ne, putE]) (by simp [gt_ne, putE]) (by simp [gt_ne, gt_self, putE, hl]; try omega) ?_)
      intro j h1 h2; rw [gt_ne (by omega)]; (try simp only [putE]); repeat (rw [gt_ne (by omega)])
    · rcases Int.lt_or_le c 48 with h48 | h48
      · by_cases h45 : c = 45
        · refine Ops.step (st_move (v := .bool false) (by rw [evO_tmp]; simp [gt_ne, gt_self, hl, putE, h3, h4, h5])) ?_
          refine Ops.step (st_unOp (u := .bool false) (r := .bool true) (by rw [evO_tmp]; simp [gt_ne, gt_self, hl, putE, h3, h4, h5]) rfl) ?_
          refine Ops.step (st_move (v := .bool true) (by rw [evO_tmp]; simp [gt_ne, gt_self, hl, putE, h3, h4, h5])) ?_
          refine Ops.step (((st_guard_on (dj := 22) rfl (by simp [gt_ne, gt_self, hl, putE])).trans (st_move (v := .int .i64 i) (by rw [evO_tmp]; simp [gt_ne, gt_self, hl, putE, h3, h4, h5])))) ?_
          refine Ops.step (((st_guard_on (dj := 22) rfl (by simp [gt_ne, gt_self, hl, putE])).trans (st_binOp (u := .int .i64 i) (v := .int .i64 0) (r := .bool false) (by rw [evO_tmp]; simp [gt_ne, gt_self, hl, putE, h3, h4, h5]) rfl (by simp [binE, intE, beq_iff_eq]; try omega)))) ?_
          refine Ops.step (((st_guard_on (dj := 22) rfl (by simp [gt_ne, gt_self, hl, putE])).trans (st_move (v := .bool false) (by rw [evO_tmp]; simp [gt_ne, gt_self, hl, putE, h3, h4, h5])))) ?_
          refine Ops.step (((st_guard_on (dj := 25) rfl (by simp [gt_ne, gt_self, hl, putE])).trans (st_move (v := .int .u8 c) (by rw [evO_tmp]; simp [gt_ne, gt_self, hl, putE, h3, h4, h5])))) ?_
          refine Ops.step (((st_guard_on (dj := 25) rfl (by simp [gt_ne, gt_self, hl, putE])).trans (st_binOp (u := .int .u8 c) (v := .int .u8 48) (r := .bool true) (by rw [evO_tmp]; simp [gt_ne, gt_self, hl, putE, h3, h4, h5]) rfl (by simp [binE, intE, beq_iff_eq]; try omega)))) ?_
          refine Ops.step (((st_guard_on (dj := 25) rfl (by simp [gt_ne, gt_self, hl, putE])).trans (st_move (v := .bool true) (by rw [evO_tmp]; simp [gt_ne, gt_self, hl, putE, h3, h4, h5])))) ?_
          refine Ops.step (st_guard_off (dj := 28) (b := true) rfl (by simp [gt_ne, gt_self, hl, putE]) (by simp)) ?_
          refine Ops.step (st_guard_off (dj := 28) (b := true) rfl (by simp [gt_ne, gt_self, hl, putE]) (by simp)) ?_
          refine Ops.step (((st_guard_on (dj := 25) rfl (by simp [gt_ne, gt_self, hl, putE])).trans (st_pick (q := true) (v := .bool true) (by rw [evO_tmp]; simp [gt_ne, gt_self, hl, putE, h3, h4, h5]) (rfl)))) ?_
          refine Ops.step (((st_guard_on (dj := 25) rfl (by simp [gt_ne, gt_self, hl, putE])).trans (st_move (v := .bool true) (by rw [evO_tmp]; simp [gt_ne, gt_self, hl, putE, h3, h4, h5])))) ?_
          refine Ops.step (((st_guard_on (dj := 32) rfl (by simp [gt_ne, gt_self, hl, putE])).trans (st_move (v := .int .u8 c) (by rw [evO_tmp]; simp [gt_ne, gt_self, hl, putE, h3, h4, h5])))) ?_
          refine Ops.step (((st_guard_on (dj := 32) rfl (by simp [gt_ne, gt_self, hl, putE])).trans (st_binOp (u := .int .u8 c) (v := .int .u8 45) (r := .bool false) (by rw [evO_tmp]; simp [gt_ne, gt_self, hl, putE, h3, h4, h5]) rfl (by simp [binE, intE, bne, beq_iff_eq]; try omega)))) ?_
          refine Ops.step (((st_guard_on (dj := 25) rfl (by simp [gt_ne, gt_self, hl, putE])).trans (st_pick (q := true) (v := .bool false) (by rw [evO_tmp]; simp [gt_ne, gt_self, hl, putE, h3, h4, h5]) (by simp only [Bool.false_eq_true, if_true, if_false]; rw [evO_tmp]; simp [gt_ne, gt_self, hl, putE, h3, h4, h5])))) ?_
          refine Ops.step (((st_guard_on (dj := 25) rfl (by simp [gt_ne, gt_self, hl, putE])).trans (st_move (v := .bool false) (by rw [evO_tmp]; simp [gt_ne, gt_self, hl, putE, h3, h4, h5])))) ?_
          refine Ops.step (st_guard_off (dj := 36) (b := false) rfl (by simp [gt_ne, gt_self, hl, putE]) (by simp)) ?_
          refine Ops.step (st_guard_off (dj := 36) (b := false) rfl (by simp [gt_ne, gt_self, hl, putE]) (by simp)) ?_
          refine Ops.step (((st_guard_on (dj := 25) rfl (by simp [gt_ne, gt_self, hl, putE])).trans (st_pick (q := false) (v := .bool false) (by rw [evO_tmp]; simp [gt_ne, gt_self, hl, putE, h3, h4, h5]) (rfl)))) ?_
          refine Ops.step (((st_guard_on (dj := 22) rfl (by simp [gt_ne, gt_self, hl, putE])).trans (st_pick (q := false) (v := .bool false) (by rw [evO_tmp]; simp [gt_ne, gt_self, hl, putE, h3, h4, h5]) (by simp only [Bool.false_eq_true, if_true, if_false]; rw [evO_tmp]; simp [gt_ne, gt_self, hl, putE, h3, h4, h5])))) ?_
          refine Ops.step (st_pick (q := true) (v := .bool false) (by rw [evO_tmp]; simp [gt_ne, gt_self, hl, putE, h3, h4, h5]) (by simp only [Bool.false_eq_true, if_true, if_false]; rw [evO_tmp]; simp [gt_ne, gt_self, hl, putE, h3, h4, h5])) ?_
          refine Ops.nil (hQ _ (by simp [putE, hl]) (by simp [gt_ne, putE]) (by simp [gt_ne, putE]) (by simp [gt_ne, putE]) (by simp [gt_ne, gt_self, putE, hl]; try omega) ?_)
          intro j h1 h2; rw [gt_ne (by omega)]; (try simp only [putE]); repeat (rw [gt_ne (by omega)])
        · refine Ops.step (st_move (v := .bool false) (by rw [evO_tmp]; simp [gt_ne, gt_self, hl, putE, h3, h4, h5])) ?_
          refine Ops.step (st_unOp (u := .bool false) (r := .bool true) (by rw [evO_tmp]; simp [gt_ne, gt_self, hl, putE, h3, h4, h5]) rfl) ?_
          refine Ops.step (st_move (v := .bool true) (by rw [evO_tmp]; simp [gt_ne, gt_self, hl, putE, h3, h4, h5])) ?_
          refine Ops.step (((st_guard_on (dj := 22) rfl (by simp [gt_ne, gt_self, hl, putE])).trans (st_move (v := .int .i64 i) (by rw [evO_tmp]; simp [gt_ne, gt_self, hl, putE, h3, h4, h5])))) ?_
          refine Ops.step (((st_guard_on (dj := 22) rfl (by simp [gt_ne, gt_self, hl, putE])).trans (st_binOp (u := .int .i64 i) (v := .int .i64 0) (r := .bool false) (by rw [evO_tmp]; simp [gt_ne, gt_self, hl, putE, h3, h4, h5]) rfl (by simp [binE, intE, beq_iff_eq]; try omega)))) ?_
          refine Ops.step (((st_guard_on (dj := 22) rfl (by simp [gt_ne, gt_self, hl, putE])).trans (st_move (v := .bool false) (by rw [evO_tmp]; simp [gt_ne, gt_self, hl, putE, h3, h4, h5])))) ?_
          refine Ops.step (((st_guard_on (dj := 25) rfl (by simp [gt_ne, gt_self, hl, putE])).trans (st_move (v := .int .u8 c) (by rw [evO_tmp]; simp [gt_ne, gt_self, hl, putE, h3, h4, h5])))) ?_
          refine Ops.step (((st_guard_on (dj := 25) rfl (by simp [gt_ne, gt_self, hl, putE])).trans (st_binOp (u := .int .u8 c) (v := .int .u8 48) (r := .bool true) (by rw [evO_tmp]; simp [gt_ne, gt_self, hl, putE, h3, h4, h5]) rfl (by simp [binE, intE, beq_iff_eq]; try omega)))) ?_
          refine Ops.step (((st_guard_on (dj := 25) rfl (by simp [gt_ne, gt_self, hl, putE])).trans (st_move (v := .bool true) (by rw [evO_tmp]; simp [gt_ne, gt_self, hl, putE, h3, h4, h5])))) ?_
          refine Ops.step (st_guard_off (dj := 28) (b := true) rfl (by simp [gt_ne, gt_self, hl, putE]) (by simp)) ?_
          refine Ops.step (st_guard_off (dj := 28) (b := true) rfl (by simp [gt_ne, gt_self, hl, putE]) (by simp)) ?_
          refine Ops.step (((st_guard_on (dj := 25) rfl (by simp [gt_ne, gt_self, hl, putE])).trans (st_pick (q := true) (v := .bool true) (by rw [evO_tmp]; simp [gt_ne, gt_self, hl, putE, h3, h4, h5]) (rfl)))) ?_
          refine Ops.step (((st_guard_on (dj := 25) rfl (by simp [gt_ne, gt_self, hl, putE])).trans (st_move (v := .bool true) (by rw [evO_tmp]; simp [gt_ne, gt_self, hl, putE, h3, h4, h5])))) ?_
          refine Ops.step (((st_guard_on (dj := 32) rfl (by simp [gt_ne, gt_self, hl, putE])).trans (st_move (v := .int .u8 c) (by rw [evO_tmp]; simp [gt_ne, gt_self, hl, putE, h3, h4, h5])))) ?_
          refine Ops.step (((st_guard_on (dj := 32) rfl (by simp [gt_ne, gt_self, hl, putE])).trans (st_binOp (u := .int .u8 c) (v := .int .u8 45) (r := .bool true) (by rw [evO_tmp]; simp [gt_ne, gt_self, hl, putE, h3, h4, h5]) rfl (by simp [binE, intE, bne, beq_iff_eq]; try omega)))) ?_
          refine Ops.step (((st_guard_on (dj := 25) rfl (by simp [gt_ne, gt_self, hl, putE])).trans (st_pick (q := true) (v := .bool true) (by rw [evO_tmp]; simp [gt_ne, gt_self, hl, putE, h3, h4, h5]) (by simp only [Bool.false_eq_true, if_true, if_false]; rw [evO_tmp]; simp [gt_ne, gt_self, hl, putE, h3, h4, h5])))) ?_
          refine Ops.step (((st_guard_on (dj := 25) rfl (by simp [gt_ne, gt_self, hl, putE])).trans (st_move (v := .bool true) (by rw [evO_tmp]; simp [gt_ne, gt_self, hl, putE, h3, h4, h5])))) ?_
          refine Ops.step (((st_guard_on (dj := 36) rfl (by simp [gt_ne, gt_self, hl, putE])).trans (st_move (v := .int .u8 c) (by rw [evO_tmp]; simp [gt_ne, gt_self, hl, putE, h3, h4, h5])))) ?_
          refine Ops.step (((st_guard_on (dj := 36) rfl (by simp [gt_ne, gt_self, hl, putE])).trans (st_binOp (u := .int .u8 c) (v := .int .u8 95) (r := .bool true) (by rw [evO_tmp]; simp [gt_ne, gt_self, hl, putE, h3, h4, h5]) rfl (by simp [binE, intE, bne, beq_iff_eq]; try omega)))) ?_
          refine Ops.step (((st_guard_on (dj := 25) rfl (by simp [gt_ne, gt_self, hl, putE])).trans (st_pick (q := true) (v := .bool true) (by rw [evO_tmp]; simp [gt_ne, gt_self, hl, putE, h3, h4, h5]) (by simp only [Bool.false_eq_true, if_true, if_false]; rw [evO_tmp]; simp [gt_ne, gt_self, hl, putE, h3, h4, h5])))) ?_
          refine Ops.step (((st_guard_on (dj := 22) rfl (by simp [gt_ne, gt_self, hl, putE])).trans (st_pick (q := false) (v := .bool true) (by rw [evO_tmp]; simp [gt_ne, gt_self, hl, putE, h3, h4, h5]) (by simp only [Bool.false_eq_true, if_true, if_false]; rw [evO_tmp]; simp [gt_ne, gt_self, hl, putE, h3, h4, h5])))) ?_
          refine Ops.step (st_pick (q := true) (v := .bool true) (by rw [evO_tmp]; simp [gt_ne, gt_self, hl, putE, h3, h4, h5]) (by simp only [Bool.false_eq_true, if_true, if_false]; rw [evO_tmp]; simp [gt_ne, gt_self, hl, putE, h3, h4, h5])) ?_
          refine Ops.nil (hQ _ (by simp [putE, hl]) (by simp [gt_ne, putE]) (by simp [gt_ne, putE]) (by simp [gt_ne, putE]) (by simp [gt_ne, gt_self, putE, hl]; try omega) ?_)
          intro j h1 h2; rw [gt_ne (by omega)]; (try simp only [putE]); repeat (rw [gt_ne (by omega)])
      · rcases Int.lt_or_le 57 c with h57 | h57
        · by_cases h95 : c = 95
          · refine Ops.step (st_move (v := .bool false) (by rw [evO_tmp]; simp [gt_ne, gt_self, hl, putE, h3, h4, h5])) ?_
            refine Ops.step (st_unOp (u := .bool false) (r := .bool true) (by rw [evO_tmp]; simp [gt_ne, gt_self, hl, putE, h3, h4, h5]) rfl) ?_
            refine Ops.step (st_move (v := .bool true) (by rw [evO_tmp]; simp [gt_ne, gt_self, hl, putE, h3, h4, h5])) ?_
            refine Ops.step (((st_guard_on (dj := 22) rfl (by simp [gt_ne, gt_self, hl, putE])).trans (st_move (v := .int .i64 i) (by rw [evO_tmp]; simp [gt_ne, gt_self, hl, putE, h3, h4, h5])))) ?_
            refine Ops.step (((st_guard_on (dj := 22) rfl (by simp [gt_ne, gt_self, hl, putE])).trans (st_binOp (u := .int .i64 i) (v := .int .i64 0) (r := .bool false) (by rw [evO_tmp]; simp [gt_ne, gt_self, hl, putE, h3, h4, h5]) rfl (by simp [binE, intE, beq_iff_eq]; try omega)))) ?_
            refine Ops.step (((st_guard_on (dj := 22) rfl (by simp [gt_ne, gt_self, hl, putE])).trans (st_move (v := .bool false) (by rw [evO_tmp]; simp [gt_ne, gt_self, hl, putE, h3, h4, h5])))) ?_
            refine Ops.step (((st_guard_on (dj := 25) rfl (by simp [gt_ne, gt_self, hl, putE])).trans (st_move (v := .int .u8 c) (by rw [evO_tmp]; simp [gt_ne, gt_self, hl, putE, h3, h4, h5])))) ?_
            refine Ops.step (((st_guard_on (dj := 25) rfl (by simp [gt_ne, gt_self, hl, putE])).trans (st_binOp (u := .int .u8 c) (v := .int .u8 48) (r := .bool false) (by rw [evO_tmp]; simp [gt_ne, gt_self, hl, putE, h3, h4, h5]) rfl (by simp [binE, intE, beq_iff_eq]; try omega)))) ?_
            refine Ops.step (((st_guard_on (dj := 25) rfl (by simp [gt_ne, gt_self, hl, putE])).trans (st_move (v := .bool false) (by rw [evO_tmp]; simp [gt_ne, gt_self, hl, putE, h3, h4, h5])))) ?_
            refine Ops.step (((st_guard_on (dj := 28) rfl (by simp [gt_ne, gt_self, hl, putE])).trans (st_move (v := .int .u8 c) (by rw [evO_tmp]; simp [gt_ne, gt_self, hl, putE, h3, h4, h5])))) ?_
            refine Ops.step (((st_guard_on (dj := 28) rfl (by simp [gt_ne, gt_self, hl, putE])).trans (st_binOp (u := .int .u8 c) (v := .int .u8 57) (r := .bool true) (by rw [evO_tmp]; simp [gt_ne, gt_self, hl, putE, h3, h4, h5]) rfl (by simp [binE, intE, beq_iff_eq]; try omega)))) ?_
            refine Ops.step (((st_guard_on (dj := 25) rfl (by simp [gt_ne, gt_self, hl, putE])).trans (st_pick (q := false) (v := .bool true) (by rw [evO_tmp]; simp [gt_ne, gt_self, hl, putE, h3, h4, h5]) (by simp only [Bool.false_eq_true, if_true, if_false]; rw [evO_tmp]; simp [gt_ne, gt_self, hl, putE, h3, h4, h5])))) ?_
            refine Ops.step (((st_guard_on (dj := 25) rfl (by simp [gt_ne, gt_self, hl, putE])).trans (st_move (v := .bool true) (by rw [evO_tmp]; simp [gt_ne, gt_self, hl, putE, h3, h4, h5])))) ?_
            refine Ops.step (((st_guard_on (dj := 32) rfl (by simp [gt_ne, gt_self, hl, putE])).trans (st_move (v := .int .u8 c) (by rw [evO_tmp]; simp [gt_ne, gt_self, hl, putE, h3, h4, h5])))) ?_
            refine Ops.step (((st_guard_on (dj := 32) rfl (by simp [gt_ne, gt_self, hl, putE])).trans (st_binOp (u := .int .u8 c) (v := .int .u8 45) (r := .bool true) (by rw [evO_tmp]; simp [gt_ne, gt_self, hl, putE, h3, h4, h5]) rfl (by simp [binE, intE, bne, beq_iff_eq]; try omega)))) ?_
            refine Ops.step (((st_guard_on (dj := 25) rfl (by simp [gt_ne, gt_self, hl, putE])).trans (st_pick (q := true) (v := .bool true) (by rw [evO_tmp]; simp [gt_ne, gt_self, hl, putE, h3, h4, h5]) (by simp only [Bool.false_eq_true, if_true, if_false]; rw [evO_tmp]; simp [gt_ne, gt_self, hl, putE, h3, h4, h5])))) ?_
            refine Ops.step (((st_guard_on (dj := 25) rfl (by simp [gt_ne, gt_self, hl, putE])).trans (st_move (v := .bool true) (by rw [evO_tmp]; simp [gt_ne, gt_self, hl, putE, h3, h4, h5])))) ?_
            refine Ops.step (((st_guard_on (dj := 36) rfl (by simp [gt_ne, gt_self, hl, putE])).trans (st_move (v := .int .u8 c) (by rw [evO_tmp]; simp [gt_ne, gt_self, hl, putE, h3, h4, h5])))) ?_
            refine Ops.step (((st_guard_on (dj := 36) rfl (by simp [gt_ne, gt_self, hl, putE])).trans (st_binOp (u := .int .u8 c) (v := .int .u8 95) (r := .bool false) (by rw [evO_tmp]; simp [gt_ne, gt_self, hl, putE, h3, h4, h5]) rfl (by simp [binE, intE, bne, beq_iff_eq]; try omega)))) ?_
            refine Ops.step (((st_guard_on (dj := 25) rfl (by simp [gt_ne, gt_self, hl, putE])).trans (st_pick (q := true) (v := .bool false) (by rw [evO_tmp]; simp [gt_ne, gt_self, hl, putE, h3, h4, h5]) (by simp only [Bool.false_eq_true, if_true, if_false]; rw [evO_tmp]; simp [gt_ne, gt_self, hl, putE, h3, h4, h5])))) ?_
            refine Ops.step (((st_guard_on (dj := 22) rfl (by simp [gt_ne, gt_self, hl, putE])).trans (st_pick (q := false) (v := .bool false) (by rw [evO_tmp]; simp [gt_ne, gt_self, hl, putE, h3, h4, h5]) (by simp only [Bool.false_eq_true, if_true, if_false]; rw [evO_tmp]; simp [gt_ne, gt_self, hl, putE, h3, h4, h5])))) ?_
            refine Ops.step (st_pick (q := true) (v := .bool false) (by rw [evO_tmp]; simp [gt_ne, gt_self, hl, putE, h3, h4, h5]) (by simp only [Bool.false_eq_true, if_true, if_false]; rw [evO_tmp]; simp [gt_ne, gt_self, hl, putE, h3, h4, h5])) ?_
            refine Ops.nil (hQ _ (by simp [putE, hl]) (by simp [gt_ne, putE]) (by simp [gt_ne, putE]) (by simp [gt_ne, putE]) (by simp [gt_ne, gt_self, putE, hl]; try omega) ?_)
            intro j h1 h2; rw [gt_ne (by omega)]; (try simp only [putE]); repeat (rw [gt_ne (by omega)])
          · refine Ops.step (st_move (v := .bool false) (by rw [evO_tmp]; simp [gt_ne, gt_self, hl, putE, h3, h4, h5])) ?_
            refine Ops.step (st_unOp (u := .bool false) (r := .bool true) (by rw [evO_tmp]; simp [gt_ne, gt_self, hl, putE, h3, h4, h5]) rfl) ?_
            refine Ops.step (st_move (v := .bool true) (by rw [evO_tmp]; simp [gt_ne, gt_self, hl, putE, h3, h4, h5])) ?_
            refine Ops.step (((st_guard_on (dj := 22) rfl (by simp [gt_ne, gt_self, hl, putE])).trans (st_move (v := .int .i64 i) (by rw [evO_tmp]; simp [gt_ne, gt_self, hl, putE, h3, h4, h5])))) ?_
            refine Ops.step (((st_guard_on (dj := 22) rfl (by simp [gt_ne, gt_self, hl, putE])).trans (st_binOp (u := .int .i64 i) (v := .int .i64 0) (r := .bool false) (by rw [evO_tmp]; simp [gt_ne, gt_self, hl, putE, h3, h4, h5]) rfl (by simp [binE, intE, beq_iff_eq]; try omega)))) ?_
            refine Ops.step (((st_guard_on (dj := 22) rfl (by simp [gt_ne, gt_self, hl, putE])).trans (st_move (v := .bool false) (by rw [evO_tmp]; simp [gt_ne, gt_self, hl, putE, h3, h4, h5])))) ?_
            refine Ops.step (((st_guard_on (dj := 25) rfl (by simp [gt_ne, gt_self, hl, putE])).trans (st_move (v := .int .u8 c) (by rw [evO_tmp]; simp [gt_ne, gt_self, hl, putE, h3, h4, h5])))) ?_
            refine Ops.step (((st_guard_on (dj := 25) rfl (by simp [gt_ne, gt_self, hl, putE])).trans (st_binOp (u := .int .u8 c) (v := .int .u8 48) (r := .bool false) (by rw [evO_tmp]; simp [gt_ne, gt_self, hl, putE, h3, h4, h5]) rfl (by simp [binE, intE, beq_iff_eq]; try omega)))) ?_
            refine Ops.step (((st_guard_on (dj := 25) rfl (by simp [gt_ne, gt_self, hl, putE])).trans (st_move (v := .bool false) (by rw [evO_tmp]; simp [gt_ne, gt_self, hl, putE, h3, h4, h5])))) ?_
            refine Ops.step (((st_guard_on (dj := 28) rfl (by simp [gt_ne, gt_self, hl, putE])).trans (st_move (v := .int .u8 c) (by rw [evO_tmp]; simp [gt_ne, gt_self, hl, putE, h3, h4, h5])))) ?_
            refine Ops.step (((st_guard_on (dj := 28) rfl (by simp [gt_ne, gt_self, hl, putE])).trans (st_binOp (u := .int .u8 c) (v := .int .u8 57) (r := .bool true) (by rw [evO_tmp]; simp [gt_ne, gt_self, hl, putE, h3, h4, h5]) rfl (by simp [binE, intE, beq_iff_eq]; try omega)))) ?_
            refine Ops.step (((st_guard_on (dj := 25) rfl (by simp [gt_ne, gt_self, hl, putE])).trans (st_pick (q := false) (v := .bool true) (by rw [evO_tmp]; simp [gt_ne, gt_self, hl, putE, h3, h4, h5]) (by simp only [Bool.false_eq_true, if_true, if_false]; rw [evO_tmp]; simp [gt_ne, gt_self, hl, putE, h3, h4, h5])))) ?_
            refine Ops.step (((st_guard_on (dj := 25) rfl (by simp [gt_ne, gt_self, hl, putE])).trans (st_move (v := .bool true) (by rw [evO_tmp]; simp [gt_ne, gt_self, hl, putE, h3, h4, h5])))) ?_
            refine Ops.step (((st_guard_on (dj := 32) rfl (by simp [gt_ne, gt_self, hl, putE])).trans (st_move (v := .int .u8 c) (by rw [evO_tmp]; simp [gt_ne, gt_self, hl, putE, h3, h4, h5])))) ?_
            refine Ops.step (((st_guard_on (dj := 32) rfl (by simp [gt_ne, gt_self, hl, putE])).trans (st_binOp (u := .int .u8 c) (v := .int .u8 45) (r := .bool true) (by rw [evO_tmp]; simp [gt_ne, gt_self, hl, putE, h3, h4, h5]) rfl (by simp [binE, intE, bne, beq_iff_eq]; try omega)))) ?_
            refine Ops.step (((st_guard_on (dj := 25) rfl (by simp [gt_ne, gt_self, hl, putE])).trans (st_pick (q := true) (v := .bool true) (by rw [evO_tmp]; simp [gt_ne, gt_self, hl, putE, h3, h4, h5]) (by simp only [Bool.false_eq_true, if_true, if_false]; rw [evO_tmp]; simp [gt_ne, gt_self, hl, putE, h3, h4, h5])))) ?_
            refine Ops.step (((st_guard_on (dj := 25) rfl (by simp [gt_ne, gt_self, hl, putE])).trans (st_move (v := .bool true) (by rw [evO_tmp]; simp [gt_ne, gt_self, hl, putE, h3, h4, h5])))) ?_
            refine Ops.step (((st_guard_on (dj := 36) rfl (by simp [gt_ne, gt_self, hl, putE])).trans (st_move (v := .int .u8 c) (by rw [evO_tmp]; simp [gt_ne, gt_self, hl, putE, h3, h4, h5])))) ?_
            refine Ops.step (((st_guard_on (dj := 36) rfl (by simp [gt_ne, gt_self, hl, putE])).trans (st_binOp (u := .int .u8 c) (v := .int .u8 95) (r := .bool true) (by rw [evO_tmp]; simp [gt_ne, gt_self, hl, putE, h3, h4, h5]) rfl (by simp [binE, intE, bne, beq_iff_eq]; try omega)))) ?_
            refine Ops.step (((st_guard_on (dj := 25) rfl (by simp [gt_ne, gt_self, hl, putE])).trans (st_pick (q := true) (v := .bool true) (by rw [evO_tmp]; simp [gt_ne, gt_self, hl, putE, h3, h4, h5]) (by simp only [Bool.false_eq_true, if_true, if_false]; rw [evO_tmp]; simp [gt_ne, gt_self, hl, putE, h3, h4, h5])))) ?_
            refine Ops.step (((st_guard_on (dj := 22) rfl (by simp [gt_ne, gt_self, hl, putE])).trans (st_pick (q := false) (v := .bool true) (by rw [evO_tmp]; simp [gt_ne, gt_self, hl, putE, h3, h4, h5]) (by simp only [Bool.false_eq_true, if_true, if_false]; rw [evO_tmp]; simp [gt_ne, gt_self, hl, putE, h3, h4, h5])))) ?_
            refine Ops.step (st_pick (q := true) (v := .bool true) (by rw [evO_tmp]; simp [gt_ne, gt_self, hl, putE, h3, h4, h5]) (by simp only [Bool.false_eq_true, if_true, if_false]; rw [evO_tmp]; simp [gt_ne, gt_self, hl, putE, h3, h4, h5])) ?_
            refine Ops.nil (hQ _ (by simp [putE, hl]) (by simp [gt_ne, putE]) (by simp [gt_ne, putE]) (by simp [gt_ne, putE]) (by simp [gt_ne, gt_self, putE, hl]; try omega) ?_)
            intro j h1 h2; rw [gt_ne (by omega)]; (try simp only [putE]); repeat (rw [gt_ne (by omega)])
        · refine Ops.step (st_move (v := .bool false) (by rw [evO_tmp]; simp [gt_ne, gt_self, hl, putE, h3, h4, h5])) ?_
          refine Ops.step (st_unOp (u := .bool false) (r := .bool true) (by rw [evO_tmp]; simp [gt_ne, gt_self, hl, putE, h3, h4, h5]) rfl) ?_
          refine Ops.step (st_move (v := .bool true) (by rw [evO_tmp]; simp [gt_ne, gt_self, hl, putE, h3, h4, h5])) ?_
          refine Ops.step (((st_guard_on (dj := 22) rfl (by simp [gt_ne, gt_self, hl, putE])).trans (st_move (v := .int .i64 i) (by rw [evO_tmp]; simp [gt_ne, gt_self, hl, putE, h3, h4, h5])))) ?_
          refine Ops.step (((st_guard_on (dj := 22) rfl (by simp [gt_ne, gt_self, hl, putE])).trans (st_binOp (u := .int .i64 i) (v := .int .i64 0) (r := .bool false) (by rw [evO_tmp]; simp [gt_ne, gt_self, hl, putE, h3, h4, h5]) rfl (by simp [binE, intE, beq_iff_eq]; try omega)))) ?_
          refine Ops.step (((st_guard_on (dj := 22) rfl (by simp [gt_ne, gt_self, hl, putE])).trans (st_move (v := .bool false) (by rw [evO_tmp]; simp [gt_ne, gt_self, hl, putE, h3, h4, h5])))) ?_
          refine Ops.step (((st_guard_on (dj := 25) rfl (by simp [gt_ne, gt_self, hl, putE])).trans (st_move (v := .int .u8 c) (by rw [evO_tmp]; simp [gt_ne, gt_self, hl, putE, h3, h4, h5])))) ?_
          refine Ops.step (((st_guard_on (dj := 25) rfl (by simp [gt_ne, gt_self, hl, putE])).trans (st_binOp (u := .int .u8 c) (v := .int .u8 48) (r := .bool false) (by rw [evO_tmp]; simp [gt_ne, gt_self, hl, putE, h3, h4, h5]) rfl (by simp [binE, intE, beq_iff_eq]; try omega)))) ?_
          refine Ops.step (((st_guard_on (dj := 25) rfl (by simp [gt_ne, gt_self, hl, putE])).trans (st_move (v := .bool false) (by rw [evO_tmp]; simp [gt_ne, gt_self, hl, putE, h3, h4, h5])))) ?_
          refine Ops.step (((st_guard_on (dj := 28) rfl (by simp [gt_ne, gt_self, hl, putE])).trans (st_move (v := .int .u8 c) (by rw [evO_tmp]; simp [gt_ne, gt_self, hl, putE, h3, h4, h5])))) ?_
          refine Ops.step (((st_guard_on (dj := 28) rfl (by simp [gt_ne, gt_self, hl, putE])).trans (st_binOp (u := .int .u8 c) (v := .int .u8 57) (r := .bool false) (by rw [evO_tmp]; simp [gt_ne, gt_self, hl, putE, h3, h4, h5]) rfl (by simp [binE, intE, beq_iff_eq]; try omega)))) ?_
          refine Ops.step (((st_guard_on (dj := 25) rfl (by simp [gt_ne, gt_self, hl, putE])).trans (st_pick (q := false) (v := .bool false) (by rw [evO_tmp]; simp [gt_ne, gt_self, hl, putE, h3, h4, h5]) (by simp only [Bool.false_eq_true, if_true, if_false]; rw [evO_tmp]; simp [gt_ne, gt_self, hl, putE, h3, h4, h5])))) ?_
          refine Ops.step (((st_guard_on (dj := 25) rfl (by simp [gt_ne, gt_self, hl, putE])).trans (st_move (v := .bool false) (by rw [evO_tmp]; simp [gt_ne, gt_self, hl, putE, h3, h4, h5])))) ?_
          refine Ops.step (st_guard_off (dj := 32) (b := false) rfl (by simp [gt_ne, gt_self, hl, putE]) (by simp)) ?_
          refine Ops.step (st_guard_off (dj := 32) (b := false) rfl (by simp [gt_ne, gt_self, hl, putE]) (by simp)) ?_
          refine Ops.step (((st_guard_on (dj := 25) rfl (by simp [gt_ne, gt_self, hl, putE])).trans (st_pick (q := false) (v := .bool false) (by rw [evO_tmp]; simp [gt_ne, gt_self, hl, putE, h3, h4, h5]) (rfl)))) ?_
          refine Ops.step (((st_guard_on (dj := 25) rfl (by simp [gt_ne, gt_self, hl, putE])).trans (st_move (v := .bool false) (by rw [evO_tmp]; simp [gt_ne, gt_self, hl, putE, h3, h4, h5])))) ?_
          refine Ops.step (st_guard_off (dj := 36) (b := false) rfl (by simp [gt_ne, gt_self, hl, putE]) (by simp)) ?_
          refine Ops.step (st_guard_off (dj := 36) (b := false) rfl (by simp [gt_ne, gt_self, hl, putE]) (by simp)) ?_
          refine Ops.step (((st_guard_on (dj := 25) rfl (by simp [gt_ne, gt_self, hl, putE])).trans (st_pick (q := false) (v := .bool false) (by rw [evO_tmp]; simp [gt_ne, gt_self, hl, putE, h3, h4, h5]) (rfl)))) ?_
          refine Ops.step (((st_guard_on (dj := 22) rfl (by simp [gt_ne, gt_self, hl, putE])).trans (st_pick (q := false) (v := .bool false) (by rw [evO_tmp]; simp [gt_ne, gt_self, hl, putE, h3, h4, h5]) (by simp only [Bool.false_eq_true, if_true, if_false]; rw [evO_tmp]; simp [gt_ne, gt_self, hl, putE, h3, h4, h5])))) ?_
          refine Ops.step (st_pick (q := true) (v := .bool false) (by rw [evO_tmp]; simp [gt_ne, gt_self, hl, putE, h3, h4, h5]) (by simp only [Bool.false_eq_true, if_true, if_false]; rw [evO_tmp]; simp [gt_ne, gt_self, hl, putE, h3, h4, h5])) ?_
          refine Ops.nil (hQ _ (by simp [putE, hl]) (by simp [gt_ne, putE]) (by simp [gt_ne, putE]) (by simp [gt_ne, putE]) (by simp [gt_ne, gt_self, putE, hl]; try omega) ?_)
          intro j h1 h2; rw [gt_ne (by omega)]; (try simp only [putE]); repeat (rw [gt_ne (by omega)])

theorem isB_r5 {ts : List AV} {H : Hp} {c : Int} (hl : ts.length = 51) (h4 : gt ts 4 = .int .u8 c) {Q : Ex → List AV → Hp → Prop}
    (hQ : ∀ ts', ts'.length = 51 → gt ts' 0 = gt ts 0 → gt ts' 2 = gt ts 2 → gt ts' 3 = gt ts 3 → gt ts' 4 = gt ts 4 → gt ts' 5 = .bool (decide (97 ≤ c ∧ c ≤ 122)) → (∀ j, 6 ≤ j → j < 15 → gt ts' j = gt ts j) → Q .normal ts' H) :
    Cv E is5' ts H Q := by
  refine Cv.region ?_
  rcases Int.lt_or_le c 97 with hc | hc
  · refine Ops.step (st_move (v := .int .u8 c) (by rw [evO_tmp]; simp [gt_ne, gt_self, hl, putE, h4])) ?_
    refine Ops.step (st_binOp (u := .int .u8 c) (v := .int .u8 97) (r := .bool false) (by rw [evO_tmp]; simp [gt_ne, gt_self, hl, putE, h4]) rfl (by simp [binE, intE, beq_iff_eq]; try omega)) ?_
    refine Ops.step (st_move (v := .bool false) (by rw [evO_tmp]; simp [gt_ne, gt_self, hl, putE, h4])) ?_
    refine Ops.step (st_guard_off (dj := 17) (b := false) rfl (by simp [gt_ne, gt_self, hl, putE]) (by simp)) ?_
    refine Ops.step (st_guard_off (dj := 17) (b := false) rfl (by simp [gt_ne, gt_self, hl, putE]) (by simp)) ?_
    refine Ops.step (st_pick (q := false) (v := .bool false) (by rw [evO_tmp]; simp [gt_ne, gt_self, hl, putE, h4]) (rfl)) ?_
    refine Ops.step (st_assign (v := .bool false) (by rw [evO_tmp]; simp [gt_ne, gt_self, hl, putE, h4])) ?_
    refine Ops.nil (hQ _ (by simp [putE, hl]) (by simp [gt_ne, putE]) (by simp [gt_ne, putE]) (by simp [gt_ne, putE]) (by simp [gt_ne, putE]) (by simp [gt_ne, gt_self, putE, hl]; omega) ?_)
    intro j h1 h2; rw [gt_ne (by omega)]; (try simp only [putE]); repeat (rw [gt_ne (by omega)])
  · rcases Int.lt_or_le 122 c with hd | hd
    · refine Ops.step (st_move (v := .int .u8 c) (by rw [evO_tmp]; simp [gt_ne, gt_self, hl, putE, h4])) ?_
      refine Ops.step (st_binOp (u := .int .u8 c) (v := .int .u8 97) (r := .bool true) (by rw [evO_tmp]; simp [gt_ne, gt_self, hl, putE, h4]) rfl (by simp [binE, intE, beq_iff_eq]; try omega)) ?_
      refine Ops.step (st_move (v := .bool true) (by rw [evO_tmp]; simp [gt_ne, gt_self, hl, putE, h4])) ?_
      refine Ops.step (((st_guard_on (dj := 17) rfl (by simp [gt_ne, gt_self, hl, putE])).trans (st_move (v := .int .u8 c) (by rw [evO_tmp]; simp [gt_ne, gt_self, hl, putE, h4])))) ?_
      refine Ops.step (((st_guard_on (dj := 17) rfl (by simp [gt_ne, gt_self, hl, putE])).trans (st_binOp (u := .int .u8 c) (v := .int .u8 122) (r := .bool false) (by rw [evO_tmp]; simp [gt_ne, gt_self, hl, putE, h4]) rfl (by simp [binE, intE, beq_iff_eq]; try omega)))) ?_
      refine Ops.step (st_pick (q := true) (v := .bool false) (by rw [evO_tmp]; simp [gt_ne, gt_self, hl, putE, h4]) (by simp only [Bool.false_eq_true, if_true, if_false]; rw [evO_tmp]; simp [gt_ne, gt_self, hl, putE, h4])) ?_
      refine Ops.step (st_assign (v := .bool false) (by rw [evO_tmp]; simp [gt_ne, gt_self, hl, putE, h4])) ?_
      refine Ops.nil (hQ _ (by simp [putE, hl]) (by simp [gt_ne, putE]) (by simp [gt_ne, putE]) (by simp [gt_ne, putE]) (by simp [gt_ne, putE]) (by simp [gt_ne, gt_self, putE, hl]; omega) ?_)
      intro j h1 h2; rw [gt_ne (by omega)]; (try simp only [putE]); repeat (rw [gt_ne (by omega)])
    · refine Ops.step (st_move (v := .int .u8 c) (by rw [evO_tmp]; simp [gt_ne, gt_self, hl, putE, h4])) ?_
      refine Ops.step (st_binOp (u := .int .u8 c) (v := .int .u8 97) (r := .bool true) (by rw [evO_tmp]; simp [gt_ne, gt_self, hl, putE, h4]) rfl (by simp [binE, intE, beq_iff_eq]; try omega)) ?_
      refine Ops.step (st_move (v := .bool true) (by rw [evO_tmp]; simp [gt_ne, gt_self, hl, putE, h4])) ?_
      refine Ops.step (((st_guard_on (dj := 17) rfl (by simp [gt_ne, gt_self, hl, putE])).trans (st_move (v := .int .u8 c) (by rw [evO_tmp]; simp [gt_ne, gt_self, hl, putE, h4])))) ?_
      refine Ops.step (((st_guard_on (dj := 17) rfl (by simp [gt_ne, gt_self, hl, putE])).trans (st_binOp (u := .int .u8 c) (v := .int .u8 122) (r := .bool true) (by rw [evO_tmp]; simp [gt_ne, gt_self, hl, putE, h4]) rfl (by simp [binE, intE, beq_iff_eq]; try omega)))) ?_
      refine Ops.step (st_pick (q := true) (v := .bool true) (by rw [evO_tmp]; simp [gt_ne, gt_self, hl, putE, h4]) (by simp only [Bool.false_eq_true, if_true, if_false]; rw [evO_tmp]; simp [gt_ne, gt_self, hl, putE, h4])) ?_
      refine Ops.step (st_assign (v := .bool true) (by rw [evO_tmp]; simp [gt_ne, gt_self, hl, putE, h4])) ?_
      refine Ops.nil (hQ _ (by simp [putE, hl]) (by simp [gt_ne, putE]) (by simp [gt_ne, putE]) (by simp [gt_ne, putE]) (by simp [gt_ne, putE]) (by simp [gt_ne, gt_self, putE, hl]; omega) ?_)
      intro j h1 h2; rw [gt_ne (by omega)]; (try simp only [putE]); repeat (rw [gt_ne (by omega)])

theorem isB_r6 {ts : List AV} {H : Hp} {c i : Int} {b : Bool} (hl : ts.length = 51) (h3 : gt ts 3 = .int .i64 i) (h4 : gt ts 4 = .int .u8 c) (h5 : gt ts 5 = .bool b) {Q : Ex → List AV → Hp → Prop}
    (hQ : ∀ ts', ts'.length = 51 → gt ts' 0 = gt ts 0 → gt ts' 2 = gt ts 2 → gt ts' 3 = gt ts 3 → gt ts' 42 = .bool (!b && (decide (i = 0) || decide ((c < 48 ∨ 57 < c) ∧ c ≠ 45 ∧ c ≠ 95))) → (∀ j, 6 ≤ j → j < 21 → gt ts' j = gt ts j) → Q .normal ts' H) :
    Cv E is6' ts H Q := by
  refine Cv.region ?_
  cases b with
  | true =>
    refine Ops.step (st_move (v := .bool true) (by rw [evO_tmp]; simp [gt_ne, gt_self, hl, putE, h3, h4, h5])) ?_
    refine Ops.step (st_unOp (u := .bool true) (r := .bool false) (by rw [evO_tmp]; simp [gt_ne, gt_self, hl, putE, h3, h4, h5]) rfl) ?_
    refine Ops.step (st_move (v := .bool false) (by rw [evO_tmp]; simp [gt_ne, gt_self, hl, putE, h3, h4, h5])) ?_
    refine Ops.step (st_guard_off (dj := 23) (b := false) rfl (by simp [gt_ne, gt_self, hl, putE]) (by simp)) ?_
    refine Ops.step (st_guard_off (dj := 23) (b := false) rfl (by simp [gt_ne, gt_self, hl, putE]) (by simp)) ?_
    refine Ops.step (st_guard_off (dj := 23) (b := false) rfl (by simp [gt_ne, gt_self, hl, putE]) (by simp)) ?_
    refine Ops.step (st_guard_un (dj := 26) rfl (by simp [gt_ne, gt_self, hl, putE])) ?_
    refine Ops.step (st_guard_un (dj := 26) rfl (by simp [gt_ne, gt_self, hl, putE])) ?_
    refine Ops.step (st_guard_un (dj := 26) rfl (by simp [gt_ne, gt_self, hl, putE])) ?_
    refine Ops.step (st_guard_un (dj := 29) rfl (by simp [gt_ne, gt_self, hl, putE])) ?_
    refine Ops.step (st_guard_un (dj := 29) rfl (by simp [gt_ne, gt_self, hl, putE])) ?_
    refine Ops.step (st_guard_un (dj := 26) rfl (by simp [gt_ne, gt_self, hl, putE])) ?_
    refine Ops.step (st_guard_un (dj := 26) rfl (by simp [gt_ne, gt_self, hl, putE])) ?_
    refine Ops.step (st_guard_un (dj := 33) rfl (by simp [gt_ne, gt_self, hl, putE])) ?_
    refine Ops.step (st_guard_un (dj := 33) rfl (by simp [gt_ne, gt_self, hl, putE])) ?_
    refine Ops.step (st_guard_un (dj := 26) rfl (by simp [gt_ne, gt_self, hl, putE])) ?_
    refine Ops.step (st_guard_un (dj := 26) rfl (by simp [gt_ne, gt_self, hl, putE])) ?_
    refine Ops.step (st_guard_un (dj := 37) rfl (by simp [gt_ne, gt_self, hl, putE])) ?_
    refine Ops.step (st_guard_un (dj := 37) rfl (by simp [gt_ne, gt_self, hl, putE])) ?_
    refine Ops.step (st_guard_un (dj := 26) rfl (by simp [gt_ne, gt_self, hl, putE])) ?_
    refine Ops.step (st_guard_off (dj := 23) (b := false) rfl (by simp [gt_ne, gt_self, hl, putE]) (by simp)) ?_
    refine Ops.step (st_pick (q := false) (v := .bool false) (by rw [evO_tmp]; simp [gt_ne, gt_self, hl, putE, h3, h4, h5]) (rfl)) ?_
    refine Ops.nil (hQ _ (by simp [putE, hl]) (by simp [gt_ne, putE]) (by simp [gt_ne, putE]) (by simp [gt_ne, putE]) (by simp [gt_ne, gt_self, putE, hl]; try omega) ?_)
    intro j h1 h2; rw [gt_ne (by omega)]; (try simp only [putE]); repeat (rw [gt_ne (by omega)])
  | false =>
    by_cases hi : i = 0
    · refine Ops.step (st_move (v := .bool false) (by rw [evO_tmp]; simp [gt_ne, gt_self, hl, putE, h3, h4, h5])) ?_
      refine Ops.step (st_unOp (u := .bool false) (r := .bool true) (by rw [evO_tmp]; simp [gt_ne, gt_self, hl, putE, h3, h4, h5]) rfl) ?_
      refine Ops.step (st_move (v := .bool true) (by rw [evO_tmp]; simp [gt_ne, gt_self, hl, putE, h3, h4, h5])) ?_
      refine Ops.step (((st_guard_on (dj := 23) rfl (by simp [gt_ne, gt_self, hl, putE])).trans (st_move (v := .int .i64 i) (by rw [evO_tmp]; simp [gt_ne, gt_self, hl, putE, h3, h4, h5])))) ?_
      refine Ops.step (((st_guard_on (dj := 23) rfl (by simp [gt_ne, gt_self, hl, putE])).trans (st_binOp (u := .int .i64 i) (v := .int .i64 0) (r := .bool true) (by rw [evO_tmp]; simp [gt_ne, gt_self, hl, putE, h3, h4, h5]) rfl (by simp [binE, intE, beq_iff_eq]; try omega)))) ?_
      refine Ops.step (((st_guard_on (dj := 23) rfl (by simp [gt_ne, gt_self, hl, putE])).trans (st_move (v := .bool true) (by rw [evO_tmp]; simp [gt_ne, gt_self, hl, putE, h3, h4, h5])))) ?_
      refine Ops.step (st_guard_off (dj := 26) (b := true) rfl (by simp [gt_ne, gt_self, hl, putE]) (by simp)) ?_
      refine Ops.step (st_guard_off (dj := 26) (b := true) rfl (by simp [gt_ne, gt_self, hl, putE]) (by simp)) ?_
      refine Ops.step (st_guard_off (dj := 26) (b := true) rfl (by simp [gt_ne, gt_self, hl, putE]) (by simp)) ?_
      refine Ops.step (st_guard_un (dj := 29) rfl (by simp [gt_ne, gt_self, hl, putE])) ?_
      refine Ops.step (st_guard_un (dj := 29) rfl (by simp [gt_ne, gt_self, hl, putE])) ?_
      refine Ops.step (st_guard_off (dj := 26) (b := true) rfl (by simp [gt_ne, gt_self, hl, putE]) (by simp)) ?_
      refine Ops.step (st_guard_off (dj := 26) (b := true) rfl (by simp [gt_ne, gt_self, hl, putE]) (by simp)) ?_
      refine Ops.step (st_guard_un (dj := 33) rfl (by simp [gt_ne, gt_self, hl, putE])) ?_
      refine Ops.step (st_guard_un (dj := 33) rfl (by simp [gt_ne, gt_self, hl, putE])) ?_
      refine Ops.step (st_guard_off (dj := 26) (b := true) rfl (by simp [gt_ne, gt_self, hl, putE]) (by simp)) ?_
      refine Ops.step (st_guard_off (dj := 26) (b := true) rfl (by simp [gt_ne, gt_self, hl, putE]) (by simp)) ?_
      refine Ops.step (st_guard_un (dj := 37) rfl (by simp [gt_ne, gt_self, hl, putE])) ?_
      refine Ops.step (st_guard_un (dj := 37) rfl (by simp [gt_ne, gt_self, hl, putE])) ?_
      refine Ops.step (st_guard_off (dj := 26) (b := true) rfl (by simp [gt_ne, gt_self, hl, putE]) (by simp)) ?_
      refine Ops.step (((st_guard_on (dj := 23) rfl (by simp [gt_ne, gt_self, hl, putE])).trans (st_pick (q := true) (v := .bool true) (by rw [evO_tmp]; simp [gt_ne, gt_self, hl, putE, h3, h4, h5]) (rfl)))) ?_
      refine Ops.step (st_pick (q := true) (v := .bool true) (by rw [evO_tmp]; simp [gt_ne, gt_self, hl, putE, h3, h4, h5]) (by simp only [Bool.false_eq_true, if_true, if_false]; rw [evO_tmp]; simp [gt_ne, gt_self, hl, putE, h3, h4, h5])) ?_
      refine Ops.nil (hQ _ (by simp [putE, hl]) (by simp [gt_ne, putE]) (by simp [gt_ne, putE]) (by simp [gt_ne, putE]) (by simp [gt_ne, gt_self, putE, hl]; try omega) ?_)
      intro j h1 h2; rw [gt_ne (by omega)]; (try simp only [putE]); repeat (rw [gt_ne (by omega)])
    · rcases Int.lt_or_le c 48 with h48 | h48
      · by_cases h45 : c = 45
        · refine Ops.step (st_move (v := .bool false) (by rw [evO_tmp]; simp [gt_ne, gt_self, hl, putE, h3, h4, h5])) ?_
          refine Ops.step (st_unOp (u := .bool false) (r := .bool true) (by rw [evO_tmp]; simp [gt_ne, gt_self, hl, putE, h3, h4, h5]) rfl) ?_
          refine Ops.step (st_move (v := .bool true) (by rw [evO_tmp]; simp [gt_ne, gt_self, hl, putE, h3, h4, h5])) ?_
          refine Ops.step (((st_guard_on (dj := 23) rfl (by simp [gt_ne, gt_self, hl, putE])).trans (st_move (v := .int .i64 i) (by rw [evO_tmp]; simp [gt_ne, gt_self, hl, putE, h3, h4, h5])))) ?_
          refine Ops.step (((st_guard_on (dj := 23) rfl (by simp [gt_ne, gt_self, hl, putE])).trans (st_binOp (u := .int .i64 i) (v := .int .i64 0) (r := .bool false) (by rw [evO_tmp]; simp [gt_ne, gt_self, hl, putE, h3, h4, h5]) rfl (by simp [binE, intE, beq_iff_eq]; try omega)))) ?_
          refine Ops.step (((st_guard_on (dj := 23) rfl (by simp [gt_ne, gt_self, hl, putE])).trans (st_move (v := .bool false) (by rw [evO_tmp]; simp [gt_ne, gt_self, hl, putE, h3, h4, h5])))) ?_
          refine Ops.step (((st_guard_on (dj := 26) rfl (by simp [gt_ne, gt_self, hl, putE])).trans (st_move (v := .int .u8 c) (by rw [evO_tmp]; simp [gt_ne, gt_self, hl, putE, h3, h4, h5])))) ?_
          refine Ops.step (((st_guard_on (dj := 26) rfl (by simp [gt_ne, gt_self, hl, putE])).trans (st_binOp (u := .int .u8 c) (v := .int .u8 48) (r := .bool true) (by rw [evO_tmp]; simp [gt_ne, gt_self, hl, putE, h3, h4, h5]) rfl (by simp [binE, intE, beq_iff_eq]; try omega)))) ?_
          refine Ops.step (((st_guard_on (dj := 26) rfl (by simp [gt_ne, gt_self, hl, putE])).trans (st_move (v := .bool true) (by rw [evO_tmp]; simp [gt_ne, gt_self, hl, putE, h3, h4, h5])))) ?_
          refine Ops.step (st_guard_off (dj := 29) (b := true) rfl (by simp [gt_ne, gt_self, hl, putE]) (by simp)) ?_
          refine Ops.step (st_guard_off (dj := 29) (b := true) rfl (by simp [gt_ne, gt_self, hl, putE]) (by simp)) ?_
          refine Ops.step (((st_guard_on (dj := 26) rfl (by simp [gt_ne, gt_self, hl, putE])).trans (st_pick (q := true) (v := .bool true) (by rw [evO_tmp]; simp [gt_ne, gt_self, hl, putE, h3, h4, h5]) (rfl)))) ?_
          refine Ops.step (((st_guard_on (dj := 26) rfl (by simp [gt_ne, gt_self, hl, putE])).trans (st_move (v := .bool true) (by rw [evO_tmp]; simp [gt_ne, gt_self, hl, putE, h3, h4, h5])))) ?_
          refine Ops.step (((st_guard_on (dj := 33) rfl (by simp [gt_ne, gt_self, hl, putE])).trans (st_move (v := .int .u8 c) (by rw [evO_tmp]; simp [gt_ne, gt_self, hl, putE, h3, h4, h5])))) ?_
          refine Ops.step (((st_guard_on (dj := 33) rfl (by simp [gt_ne, gt_self, hl, putE])).trans (st_binOp (u := .int .u8 c) (v := .int .u8 45) (r := .bool false) (by rw [evO_tmp]; simp [gt_ne, gt_self, hl, putE, h3, h4, h5]) rfl (by simp [binE, intE, bne, beq_iff_eq]; try omega)))) ?_
          refine Ops.step (((st_guard_on (dj := 26) rfl (by simp [gt_ne, gt_self, hl, putE])).trans (st_pick (q := true) (v := .bool false) (by rw [evO_tmp]; simp [gt_ne, gt_self, hl, putE, h3, h4, h5]) (by simp only [Bool.false_eq_true, if_true, if_false]; rw [evO_tmp]; simp [gt_ne, gt_self, hl, putE, h3, h4, h5])))) ?_
          refine Ops.step (((st_guard_on (dj := 26) rfl (by simp [gt_ne, gt_self, hl, putE])).trans (st_move (v := .bool false) (by rw [evO_tmp]; simp [gt_ne, gt_self, hl, putE, h3, h4, h5])))) ?_
          refine Ops.step (st_guard_off (dj := 37) (b := false) rfl (by simp [gt_ne, gt_self, hl, putE]) (by simp)) ?_
          refine Ops.step (st_guard_off (dj := 37) (b := false) rfl (by simp [gt_ne, gt_self, hl, putE]) (by simp)) ?_
          refine Ops.step (((st_guard_on (dj := 26) rfl (by simp [gt_ne, gt_self, hl, putE])).trans (st_pick (q := false) (v := .bool false) (by rw [evO_tmp]; simp [gt_ne, gt_self, hl, putE, h3, h4, h5]) (rfl)))) ?_
          refine Ops.step (((st_guard_on (dj := 23) rfl (by simp [gt_ne, gt_self, hl, putE])).trans (st_pick (q := false) (v := .bool false) (by rw [evO_tmp]; simp [gt_ne, gt_self, hl, putE, h3, h4, h5]) (by simp only [Bool.false_eq_true, if_true, if_false]; rw [evO_tmp]; simp [gt_ne, gt_self, hl, putE, h3, h4, h5])))) ?_
          refine Ops.step (st_pick (q := true) (v := .bool false) (by rw [evO_tmp]; simp [gt_ne, gt_self, hl, putE, h3, h4, h5]) (by simp only [Bool.false_eq_true, if_true, if_false]; rw [evO_tmp]; simp [gt_ne, gt_self, hl, putE, h3, h4, h5])) ?_
          refine Ops.nil (hQ _ (by simp [putE, hl]) (by simp [gt_ne, putE]) (by simp [gt_ne, putE]) (by simp [gt_ne, putE]) (by simp [gt_ne, gt_self, putE, hl]; try omega) ?_)
          intro j h1 h2; rw [gt_ne (by omega)]; (try simp only [putE]); repeat (rw [gt_ne (by omega)])
        · refine Ops.step (st_move (v := .bool false) (by rw [evO_tmp]; simp [gt_ne, gt_self, hl, putE, h3, h4, h5])) ?_
          refine Ops.step (st_unOp (u := .bool false) (r := .bool true) (by rw [evO_tmp]; simp [gt_ne, gt_self, hl, putE, h3, h4, h5]) rfl) ?_
          refine Ops.step (st_move (v := .bool true) (by rw [evO_tmp]; simp [gt_ne, gt_self, hl, putE, h3, h4, h5])) ?_
          refine Ops.step (((st_guard_on (dj := 23) rfl (by simp [gt_ne, gt_self, hl, putE])).trans (st_move (v := .int .i64 i) (by rw [evO_tmp]; simp [gt_ne, gt_self, hl, putE, h3, h4, h5])))) ?_
          refine Ops.step (((st_guard_on (dj := 23) rfl (by simp [gt_ne, gt_self, hl, putE])).trans (st_binOp (u := .int .i64 i) (v := .int .i64 0) (r := .bool false) (by rw [evO_tmp]; simp [gt_ne, gt_self, hl, putE, h3, h4, h5]) rfl (by simp [binE, intE, beq_iff_eq]; try omega)))) ?_
          refine Ops.step (((st_guard_on (dj := 23) rfl (by simp [gt_ne, gt_self, hl, putE])).trans (st_move (v := .bool false) (by rw [evO_tmp]; simp [gt_ne, gt_self, hl, putE, h3, h4, h5])))) ?_
          refine Ops.step (((st_guard_on (dj := 26) rfl (by simp [gt_ne, gt_self, hl, putE])).trans (st_move (v := .int .u8 c) (by rw [evO_tmp]; simp [gt_ne, gt_self, hl, putE, h3, h4, h5])))) ?_
          refine Ops.step (((st_guard_on (dj := 26) rfl (by simp [gt_ne, gt_self, hl, putE])).trans (st_binOp (u := .int .u8 c) (v := .int .u8 48) (r := .bool true) (by rw [evO_tmp]; simp [gt_ne, gt_self, hl, putE, h3, h4, h5]) rfl (by simp [binE, intE, beq_iff_eq]; try omega)))) ?_
          refine Ops.step (((st_guard_on (dj := 26) rfl (by simp [gt_ne, gt_self, hl, putE])).trans (st_move (v := .bool true) (by rw [evO_tmp]; simp [gt_ne, gt_self, hl, putE, h3, h4, h5])))) ?_
          refine Ops.step (st_guard_off (dj := 29) (b := true) rfl (by simp [gt_ne, gt_self, hl, putE]) (by simp)) ?_
          refine Ops.step (st_guard_off (dj := 29) (b := true) rfl (by simp [gt_ne, gt_self, hl, putE]) (by simp)) ?_
          refine Ops.step (((st_guard_on (dj := 26) rfl (by simp [gt_ne, gt_self, hl, putE])).trans (st_pick (q := true) (v := .bool true) (by rw [evO_tmp]; simp [gt_ne, gt_self, hl, putE, h3, h4, h5]) (rfl)))) ?_
          refine Ops.step (((st_guard_on (dj := 26) rfl (by simp [gt_ne, gt_self, hl, putE])).trans (st_move (v := .bool true) (by rw [evO_tmp]; simp [gt_ne, gt_self, hl, putE, h3, h4, h5])))) ?_
          refine Ops.step (((st_guard_on (dj := 33) rfl (by simp [gt_ne, gt_self, hl, putE])).trans (st_move (v := .int .u8 c) (by rw [evO_tmp]; simp [gt_ne, gt_self, hl, putE, h3, h4, h5])))) ?_
          refine Ops.step (((st_guard_on (dj := 33) rfl (by simp [gt_ne, gt_self, hl, putE])).trans (st_binOp (u := .int .u8 c) (v := .int .u8 45) (r := .bool true) (by rw [evO_tmp]; simp [gt_ne, gt_self, hl, putE, h3, h4, h5]) rfl (by simp [binE, intE, bne, beq_iff_eq]; try omega)))) ?_
          refine Ops.step (((st_guard_on (dj := 26) rfl (by simp [gt_ne, gt_self, hl, putE])).trans (st_pick (q := true) (v := .bool true) (by rw [evO_tmp]; simp [gt_ne, gt_self, hl, putE, h3, h4, h5]) (by simp only [Bool.false_eq_true, if_true, if_false]; rw [evO_tmp]; simp [gt_ne, gt_self, hl, putE, h3, h4, h5])))) ?_
          refine Ops.step (((st_guard_on (dj := 26) rfl (by simp [gt_ne, gt_self, hl, putE])).trans (st_move (v := .bool true) (by rw [evO_tmp]; simp [gt_ne, gt_self, hl, putE, h3, h4, h5])))) ?_
          refine Ops.step (((st_guard_on (dj := 37) rfl (by simp [gt_ne, gt_self, hl, putE])).trans (st_move (v := .int .u8 c) (by rw [evO_tmp]; simp [gt_ne, gt_self, hl, putE, h3, h4, h5])))) ?_
          refine Ops.step (((st_guard_on (dj := 37) rfl (by simp [gt_ne, gt_self, hl, putE])).trans (st_binOp (u := .int .u8 c) (v := .int .u8 95) (r := .bool true) (by rw [evO_tmp]; simp [gt_ne, gt_self, hl, putE, h3, h4, h5]) rfl (by simp [binE, intE, bne, beq_iff_eq]; try omega)))) ?_
          refine Ops.step (((st_guard_on (dj := 26) rfl (by simp [gt_ne, gt_self, hl, putE])).trans (st_pick (q := true) (v := .bool true) (by rw [evO_tmp]; simp [gt_ne, gt_self, hl, putE, h3, h4, h5]) (by simp only [Bool.false_eq_true, if_true, if_false]; rw [evO_tmp]; simp [gt_ne, gt_self, hl, putE, h3, h4, h5])))) ?_
          refine Ops.step (((st_guard_on (dj := 23) rfl (by simp [gt_ne, gt_self, hl, putE])).trans (st_pick (q := false) (v := .bool true) (by rw [evO_tmp]; simp [gt_ne, gt_self, hl, putE, h3, h4, h5]) (by simp only [Bool.false_eq_true, if_true, if_false]; rw [evO_tmp]; simp [gt_ne, gt_self, hl, putE, h3, h4, h5])))) ?_
          refine Ops.step (st_pick (q := true) (v := .bool true) (by rw [evO_tmp]; simp [gt_ne, gt_self, hl, putE, h3, h4, h5]) (by simp only [Bool.false_eq_true, if_true, if_false]; rw [evO_tmp]; simp [gt_ne, gt_self, hl, putE, h3, h4, h5])) ?_
          refine Ops.nil (hQ _ (by simp [putE, hl]) (by simp [gt_ne, putE]) (by simp [gt_ne, putE]) (by simp [gt_ne, putE]) (by simp [gt_ne, gt_self, putE, hl]; try omega) ?_)
          intro j h1 h2; rw [gt_ne (by omega)]; (try simp only [putE]); repeat (rw [gt_ne (by omega)])
      · rcases Int.lt_or_le 57 c with h57 | h57
        · by_cases h95 : c = 95
          · refine Ops.step (st_move (v := .bool false) (by rw [evO_tmp]; simp [gt_ne, gt_self, hl, putE, h3, h4, h5])) ?_
            refine Ops.step (st_unOp (u := .bool false) (r := .bool true) (by rw [evO_tmp]; simp [gt_ne, gt_self, hl, putE, h3, h4, h5]) rfl) ?_
            refine Ops.step (st_move (v := .bool true) (by rw [evO_tmp]; simp [gt_ne, gt_self, hl, putE, h3, h4, h5])) ?_
            refine Ops.step (((st_guard_on (dj := 23) rfl (by simp [gt_ne, gt_self, hl, putE])).trans (st_move (v := .int .i64 i) (by rw [evO_tmp]; simp [gt_ne, gt_self, hl, putE, h3, h4, h5])))) ?_
            refine Ops.step (((st_guard_on (dj := 23) rfl (by simp [gt_ne, gt_self, hl, putE])).trans (st_binOp (u := .int .i64 i) (v := .int .i64 0) (r := .bool false) (by rw [evO_tmp]; simp [gt_ne, gt_self, hl, putE, h3, h4, h5]) rfl (by simp [binE, intE, beq_iff_eq]; try omega)))) ?_
            refine Ops.step (((st_guard_on (dj := 23) rfl (by simp [gt_ne, gt_self, hl, putE])).trans (st_move (v := .bool false) (by rw [evO_tmp]; simp [gt_ne, gt_self, hl, putE, h3, h4, h5])))) ?_
            refine Ops.step (((st_guard_on (dj := 26) rfl (by simp [gt_ne, gt_self, hl, putE])).trans (st_move (v := .int .u8 c) (by rw [evO_tmp]; simp [gt_ne, gt_self, hl, putE, h3, h4, h5])))) ?_
            refine Ops.step (((st_guard_on (dj := 26) rfl (by simp [gt_ne, gt_self, hl, putE])).trans (st_binOp (u := .int .u8 c) (v := .int .u8 48) (r := .bool false) (by rw [evO_tmp]; simp [gt_ne, gt_self, hl, putE, h3, h4, h5]) rfl (by simp [binE, intE, beq_iff_eq]; try omega)))) ?_
            refine Ops.step (((st_guard_on (dj := 26) rfl (by simp [gt_ne, gt_self, hl, putE])).trans (st_move (v := .bool false) (by rw [evO_tmp]; simp [gt_ne, gt_self, hl, putE, h3, h4, h5])))) ?_
            refine Ops.step (((st_guard_on (dj := 29) rfl (by simp [gt_ne, gt_self, hl, putE])).trans (st_move (v := .int .u8 c) (by rw [evO_tmp]; simp [gt_ne, gt_self, hl, putE, h3, h4, h5])))) ?_
            refine Ops.step (((st_guard_on (dj := 29) rfl (by simp [gt_ne, gt_self, hl, putE])).trans (st_binOp (u := .int .u8 c) (v := .int .u8 57) (r := .bool true) (by rw [evO_tmp]; simp [gt_ne, gt_self, hl, putE, h3, h4, h5]) rfl (by simp [binE, intE, beq_iff_eq]; try omega)))) ?_
            refine Ops.step (((st_guard_on (dj := 26) rfl (by simp [gt_ne, gt_self, hl, putE])).trans (st_pick (q := false) (v := .bool true) (by rw [evO_tmp]; simp [gt_ne, gt_self, hl, putE, h3, h4, h5]) (by simp only [Bool.false_eq_true, if_true, if_false]; rw [evO_tmp]; simp [gt_ne, gt_self, hl, putE, h3, h4, h5])))) ?_
            refine Ops.step (((st_guard_on (dj := 26) rfl (by simp [gt_ne, gt_self, hl, putE])).trans (st_move (v := .bool true) (by rw [evO_tmp]; simp [gt_ne, gt_self, hl, putE, h3, h4, h5])))) ?_
            refine Ops.step (((st_guard_on (dj := 33) rfl (by simp [gt_ne, gt_self, hl, putE])).trans (st_move (v := .int .u8 c) (by rw [evO_tmp]; simp [gt_ne, gt_self, hl, putE, h3, h4, h5])))) ?_
            refine Ops.step (((st_guard_on (dj := 33) rfl (by simp [gt_ne, gt_self, hl, putE])).trans (st_binOp (u := .int .u8 c) (v := .int .u8 45) (r := .bool true) (by rw [evO_tmp]; simp [gt_ne, gt_self, hl, putE, h3, h4, h5]) rfl (by simp [binE, intE, bne, beq_iff_eq]; try omega)))) ?_
            refine Ops.step (((st_guard_on (dj := 26) rfl (by simp [gt_ne, gt_self, hl, putE])).trans (st_pick (q := true) (v := .bool true) (by rw [evO_tmp]; simp [gt_ne, gt_self, hl, putE, h3, h4, h5]) (by simp only [Bool.false_eq_true, if_true, if_false]; rw [evO_tmp]; simp [gt_ne, gt_self, hl, putE, h3, h4, h5])))) ?_
            refine Ops.step (((st_guard_on (dj := 26) rfl (by simp [gt_ne, gt_self, hl, putE])).trans (st_move (v := .bool true) (by rw [evO_tmp]; simp [gt_ne, gt_self, hl, putE, h3, h4, h5])))) ?_
            refine Ops.step (((st_guard_on (dj := 37) rfl (by simp [gt_ne, gt_self, hl, putE])).trans (st_move (v := .int .u8 c) (by rw [evO_tmp]; simp [gt_ne, gt_self, hl, putE, h3, h4, h5])))) ?_
            refine Ops.step (((st_guard_on (dj := 37) rfl (by simp [gt_ne, gt_self, hl, putE])).trans (st_binOp (u := .int .u8 c) (v := .int .u8 95) (r := .bool false) (by rw [evO_tmp]; simp [gt_ne, gt_self, hl, putE, h3, h4, h5]) rfl (by simp [binE, intE, bne, beq_iff_eq]; try omega)))) ?_
            refine Ops.step (((st_guard_on (dj := 26) rfl (by simp [gt_ne, gt_self, hl, putE])).trans (st_pick (q := true) (v := .bool false) (by rw [evO_tmp]; simp [gt_ne, gt_self, hl, putE, h3, h4, h5]) (by simp only [Bool.false_eq_true, if_true, if_false]; rw [evO_tmp]; simp [gt_ne, gt_self, hl, putE, h3, h4, h5])))) ?_
            refine Ops.step (((st_guard_on (dj := 23) rfl (by simp [gt_ne, gt_self, hl, putE])).trans (st_pick (q := false) (v := .bool false) (by rw [evO_tmp]; simp [gt_ne, gt_self, hl, putE, h3, h4, h5]) (by simp only [Bool.false_eq_true, if_true, if_false]; rw [evO_tmp]; simp [gt_ne, gt_self, hl, putE, h3, h4, h5])))) ?_
            refine Ops.step (st_pick (q := true) (v := .bool false) (by rw [evO_tmp]; simp [gt_ne, gt_self, hl, putE, h3, h4, h5]) (by simp only [Bool.false_eq_true, if_true, if_false]; rw [evO_tmp]; simp [gt_ne, gt_self, hl, putE, h3, h4, h5])) ?_
            refine Ops.nil (hQ _ (by simp [putE, hl]) (by simp [gt_ne, putE]) (by simp [gt_ne, putE]) (by simp [gt_ne, putE]) (by simp [gt_ne, gt_self, putE, hl]; try omega) ?_)
            intro j h1 h2; rw [gt_ne (by omega)]; (try simp only [putE]); repeat (rw [gt_ne (by omega)])
          · refine Ops.step (st_move (v := .bool false) (by rw [evO_tmp]; simp [gt_ne, gt_self, hl, putE, h3, h4, h5])) ?_
            refine Ops.step (st_unOp (u := .bool false) (r := .bool true) (by rw [evO_tmp]; simp [gt_ne, gt_self, hl, putE, h3, h4, h5]) rfl) ?_
            refine Ops.step (st_move (v := .bool true) (by rw [evO_tmp]; simp [gt_ne, gt_self, hl, putE, h3, h4, h5])) ?_
            refine Ops.step (((st_guard_on (dj := 23) rfl (by simp [gt_ne, gt_self, hl, putE])).trans (st_move (v := .int .i64 i) (by rw [evO_tmp]; simp [gt_ne, gt_self, hl, putE, h3, h4, h5])))) ?_
            refine Ops.step (((st_guard_on (dj := 23) rfl (by simp [gt_ne, gt_self, hl, putE])).trans (st_binOp (u := .int .i64 i) (v := .int .i64 0) (r := .bool false) (by rw [evO_tmp]; simp [gt_ne, gt_self, hl, putE, h3, h4, h5]) rfl (by simp [binE, intE, beq_iff_eq]; try omega)))) ?_
            refine Ops.step (((st_guard_on (dj := 23) rfl (by simp [gt_ne, gt_self, hl, putE])).trans (st_move (v := .bool false) (by rw [evO_tmp]; simp [gt_ne, gt_self, hl, putE, h3, h4, h5])))) ?_
            refine Ops.step (((st_guard_on (dj := 26) rfl (by simp [gt_ne, gt_self, hl, putE])).trans (st_move (v := .int .u8 c) (by rw [evO_tmp]; simp [gt_ne, gt_self, hl, putE, h3, h4, h5])))) ?_
            refine Ops.step (((st_guard_on (dj := 26) rfl (by simp [gt_ne, gt_self, hl, putE])).trans (st_binOp (u := .int .u8 c) (v := .int .u8 48) (r := .bool false) (by rw [evO_tmp]; simp [gt_ne, gt_self, hl, putE, h3, h4, h5]) rfl (by simp [binE, intE, beq_iff_eq]; try omega)))) ?_
            refine Ops.step (((st_guard_on (dj := 26) rfl (by simp [gt_ne, gt_self, hl, putE])).trans (st_move (v := .bool false) (by rw [evO_tmp]; simp [gt_ne, gt_self, hl, putE, h3, h4, h5])))) ?_
            refine Ops.step (((st_guard_on (dj := 29) rfl (by simp [gt_ne, gt_self, hl, putE])).trans (st_move (v := .int .u8 c) (by rw [evO_tmp]; simp [gt_ne, gt_self, hl, putE, h3, h4, h5])))) ?_
            refine Ops.step (((st_guard_on (dj := 29) rfl (by simp [gt_ne, gt_self, hl, putE])).trans (st_binOp (u := .int .u8 c) (v := .int .u8 57) (r := .bool true) (by rw [evO_tmp]; simp [gt_ne, gt_self, hl, putE, h3, h4, h5]) rfl (by simp [binE, intE, beq_iff_eq]; try omega)))) ?_
            refine Ops.step (((st_guard_on (dj := 26) rfl (by simp [gt_ne, gt_self, hl, putE])).trans (st_pick (q := false) (v := .bool true) (by rw [evO_tmp]; simp [gt_ne, gt_self, hl, putE, h3, h4, h5]) (by simp only [Bool.false_eq_true, if_true, if_false]; rw [evO_tmp]; simp [gt_ne, gt_self, hl, putE, h3, h4, h5])))) ?_
            refine Ops.step (((st_guard_on (dj := 26) rfl (by simp [gt_ne, gt_self, hl, putE])).trans (st_move (v := .bool true) (by rw [evO_tmp]; simp [gt_ne, gt_self, hl, putE, h3, h4, h5])))) ?_
            refine Ops.step (((st_guard_on (dj := 33) rfl (by simp [gt_ne, gt_self, hl, putE])).trans (st_move (v := .int .u8 c) (by rw [evO_tmp]; simp [gt_ne, gt_self, hl, putE, h3, h4, h5])))) ?_
            refine Ops.step (((st_guard_on (dj := 33) rfl (by simp [gt_ne, gt_self, hl, putE])).trans (st_binOp (u := .int .u8 c) (v := .int .u8 45) (r := .bool true) (by rw [evO_tmp]; simp [gt_ne, gt_self, hl, putE, h3, h4, h5]) rfl (by simp [binE, intE, bne, beq_iff_eq]; try omega)))) ?_
            refine Ops.step (((st_guard_on (dj := 26) rfl (by simp [gt_ne, gt_self, hl, putE])).trans (st_pick (q := true) (v := .bool true) (by rw [evO_tmp]; simp [gt_ne, gt_self, hl, putE, h3, h4, h5]) (by simp only [Bool.false_eq_true, if_true, if_false]; rw [evO_tmp]; simp [gt_ne, gt_self, hl, putE, h3, h4, h5])))) ?_
            refine Ops.step (((st_guard_on (dj := 26) rfl (by simp [gt_ne, gt_self, hl, putE])).trans (st_move (v := .bool true) (by rw [evO_tmp]; simp [gt_ne, gt_self, hl, putE, h3, h4, h5])))) ?_
            refine Ops.step (((st_guard_on (dj := 37) rfl (by simp [gt_ne, gt_self, hl, putE])).trans (st_move (v := .int .u8 c) (by rw [evO_tmp]; simp [gt_ne, gt_self, hl, putE, h3, h4, h5])))) ?_
            refine Ops.step (((st_guard_on (dj := 37) rfl (by simp [gt_ne, gt_self, hl, putE])).trans (st_binOp (u := .int .u8 c) (v := .int .u8 95) (r := .bool true) (by rw [evO_tmp]; simp [gt_ne, gt_self, hl, putE, h3, h4, h5]) rfl (by simp [binE, intE, bne, beq_iff_eq]; try omega)))) ?_
            refine Ops.step (((st_guard_on (dj := 26) rfl (by simp [gt_ne, gt_self, hl, putE])).trans (st_pick (q := true) (v := .bool true) (by rw [evO_tmp]; simp [gt_ne, gt_self, hl, putE, h3, h4, h5]) (by simp only [Bool.false_eq_true, if_true, if_false]; rw [evO_tmp]; simp [gt_ne, gt_self, hl, putE, h3, h4, h5])))) ?_
            refine Ops.step (((st_guard_on (dj := 23) rfl (by simp [gt_ne, gt_self, hl, putE])).trans (st_pick (q := false) (v := .bool true) (by rw [evO_tmp]; simp [gt_ne, gt_self, hl, putE, h3, h4, h5]) (by simp only [Bool.false_eq_true, if_true, if_false]; rw [evO_tmp]; simp [gt_ne, gt_self, hl, putE, h3, h4, h5])))) ?_
            refine Ops.step (st_pick (q := true) (v := .bool true) (by rw [evO_tmp]; simp [gt_ne, gt_self, hl, putE, h3, h4, h5]) (by simp only [Bool.false_eq_true, if_true, if_false]; rw [evO_tmp]; simp [gt_ne, gt_self, hl, putE, h3, h4, h5])) ?_
            refine Ops.nil (hQ _ (by simp [putE, hl]) (by simp [gt_ne, putE]) (by simp [gt_ne, putE]) (by simp [gt_ne, putE]) (by simp [gt_ne, gt_self, putE, hl]; try omega) ?_)
            intro j h1 h2; rw [gt_ne (by omega)]; (try simp only [putE]); repeat (rw [gt_ne (by omega)])
        · refine Ops.step (st_move (v := .bool false) (by rw [evO_tmp]; simp [gt_ne, gt_self, hl, putE, h3, h4, h5])) ?_
          refine Ops.step (st_unOp (u := .bool false) (r := .bool true) (by rw [evO_tmp]; simp [gt_ne, gt_self, hl, putE, h3, h4, h5]) rfl) ?_
          refine Ops.step (st_move (v := .bool true) (by rw [evO_tmp]; simp [gt_ne, gt_self, hl, putE, h3, h4, h5])) ?_
          refine Ops.step (((st_guard_on (dj := 23) rfl (by simp [gt_ne, gt_self, hl, putE])).trans (st_move (v := .int .i64 i) (by rw [evO_tmp]; simp [gt_ne, gt_self, hl, putE, h3, h4, h5])))) ?_
          refine Ops.step (((st_guard_on (dj := 23) rfl (by simp [gt_ne, gt_self, hl, putE])).trans (st_binOp (u := .int .i64 i) (v := .int .i64 0) (r := .bool false) (by rw [evO_tmp]; simp [gt_ne, gt_self, hl, putE, h3, h4, h5]) rfl (by simp [binE, intE, beq_iff_eq]; try omega)))) ?_
          refine Ops.step (((st_guard_on (dj := 23) rfl (by simp [gt_ne, gt_self, hl, putE])).trans (st_move (v := .bool false) (by rw [evO_tmp]; simp [gt_ne, gt_self, hl, putE, h3, h4, h5])))) ?_
          refine Ops.step (((st_guard_on (dj := 26) rfl (by simp [gt_ne, gt_self, hl, putE])).trans (st_move (v := .int .u8 c) (by rw [evO_tmp]; simp [gt_ne, gt_self, hl, putE, h3, h4, h5])))) ?_
          refine Ops.step (((st_guard_on (dj := 26) rfl (by simp [gt_ne, gt_self, hl, putE])).trans (st_binOp (u := .int .u8 c) (v := .int .u8 48) (r := .bool false) (by rw [evO_tmp]; simp [gt_ne, gt_self, hl, putE, h3, h4, h5]) rfl (by simp [binE, intE, beq_iff_eq]; try omega)))) ?_
          refine Ops.step (((st_guard_on (dj := 26) rfl (by simp [gt_ne, gt_self, hl, putE])).trans (st_move (v := .bool false) (by rw [evO_tmp]; simp [gt_ne, gt_self, hl, putE, h3, h4, h5])))) ?_
          refine Ops.step (((st_guard_on (dj := 29) rfl (by simp [gt_ne, gt_self, hl, putE])).trans (st_move (v := .int .u8 c) (by rw [evO_tmp]; simp [gt_ne, gt_self, hl, putE, h3, h4, h5])))) ?_
          refine Ops.step (((st_guard_on (dj := 29) rfl (by simp [gt_ne, gt_self, hl, putE])).trans (st_binOp (u := .int .u8 c) (v := .int .u8 57) (r := .bool false) (by rw [evO_tmp]; simp [gt_ne, gt_self, hl, putE, h3, h4, h5]) rfl (by simp [binE, intE, beq_iff_eq]; try omega)))) ?_
          refine Ops.step (((st_guard_on (dj := 26) rfl (by simp [gt_ne, gt_self, hl, putE])).trans (st_pick (q := false) (v := .bool false) (by rw [evO_tmp]; simp [gt_ne, gt_self, hl, putE, h3, h4, h5]) (by simp only [Bool.false_eq_true, if_true, if_false]; rw [evO_tmp]; simp [gt_ne, gt_self, hl, putE, h3, h4, h5])))) ?_
          refine Ops.step (((st_guard_on (dj := 26) rfl (by simp [gt_ne, gt_self, hl, putE])).trans (st_move (v := .bool false) (by rw [evO_tmp]; simp [gt_ne, gt_self, hl, putE, h3, h4, h5])))) ?_
          refine Ops.step (st_guard_off (dj := 33) (b := false) rfl (by simp [gt_ne, gt_self, hl, putE]) (by simp)) ?_
          refine Ops.step (st_guard_off (dj := 33) (b := false) rfl (by simp [gt_ne, gt_self, hl, putE]) (by simp)) ?_
          refine Ops.step (((st_guard_on (dj := 26) rfl (by simp [gt_ne, gt_self, hl, putE])).trans (st_pick (q := false) (v := .bool false) (by rw [evO_tmp]; simp [gt_ne, gt_self, hl, putE, h3, h4, h5]) (rfl)))) ?_
          refine Ops.step (((st_guard_on (dj := 26) rfl (by simp [gt_ne, gt_self, hl, putE])).trans (st_move (v := .bool false) (by rw [evO_tmp]; simp [gt_ne, gt_self, hl, putE, h3, h4, h5])))) ?_
          refine Ops.step (st_guard_off (dj := 37) (b := false) rfl (by simp [gt_ne, gt_self, hl, putE]) (by simp)) ?_
          refine Ops.step (st_guard_off (dj := 37) (b := false) rfl (by simp [gt_ne, gt_self, hl, putE]) (by simp)) ?_
          refine Ops.step (((st_guard_on (dj := 26) rfl (by simp [gt_ne, gt_self, hl, putE])).trans (st_pick (q := false) (v := .bool false) (by rw [evO_tmp]; simp [gt_ne, gt_self, hl, putE, h3, h4, h5]) (rfl)))) ?_
          refine Ops.step (((st_guard_on (dj := 23) rfl (by simp [gt_ne, gt_self, hl, putE])).trans (st_pick (q := false) (v := .bool false) (by rw [evO_tmp]; simp [gt_ne, gt_self, hl, putE, h3, h4, h5]) (by simp only [Bool.false_eq_true, if_true, if_false]; rw [evO_tmp]; simp [gt_ne, gt_self, hl, putE, h3, h4, h5])))) ?_
          refine Ops.step (st_pick (q := true) (v := .bool false) (by rw [evO_tmp]; simp [gt_ne, gt_self, hl, putE, h3, h4, h5]) (by simp only [Bool.false_eq_true, if_true, if_false]; rw [evO_tmp]; simp [gt_ne, gt_self, hl, putE, h3, h4, h5])) ?_
          refine Ops.nil (hQ _ (by simp [putE, hl]) (by simp [gt_ne, putE]) (by simp [gt_ne, putE]) (by simp [gt_ne, putE]) (by simp [gt_ne, gt_self, putE, hl]; try omega) ?_)
          intro j h1 h2; rw [gt_ne (by omega)]; (try simp only [putE]); repeat (rw [gt_ne (by omega)])
end
end Go.Proofs.YtbaficijlppeoaaGreatDoor

namespace Go.Proofs.YtbaficijlppeoaaGreatDoor
open Go Dv
set_option linter.unusedSimpArgs false
set_option linter.unusedVariables false

/-- a byte that ends the look at place i -/
def badAt (i : Nat) (c : Int) : Bool := !decide (97 ≤ c ∧ c ≤ 122) && (decide ((i : Int) = 0) || decide ((c < 48 ∨ 57 < c) ∧ c ≠ 45 ∧ c ≠ 95))
/-- from place i on, all bytes are good -/
def goodFrom : Nat → List UInt8 → Bool
  | _, [] => true
  | i, c :: s => !badAt i c.toNat && goodFrom (i + 1) s
def nameL (s : List UInt8) : Bool := goodFrom 0 s && decide (0 < s.length) && decide (s.length ≤ 40)

section
variable {E : Env}
structure StrTy (E : Env) : Prop where
  s : ∃ i, E.ty 9 = some i ∧ i.und = .string

theorem strTy (h : Over E) : StrTy E := by
  refine ⟨?_⟩
  rw [h.ty]
  obtain ⟨i, hi⟩ : ∃ i, E0.ty 9 = some i := Option.isSome_iff_exists.1 (by kernel_rfl)
  refine ⟨i, hi, ?_⟩
  have : (E0.ty 9).map (·.und) = some .string := by kernel_rfl
  rw [hi] at this; simpa using this

theorem len_str (T : StrTy E) {H : Hp} {nid : Nat} {s : List UInt8} : builtinE E H nid .len [9] [.str s] = some (.int .i64 s.length, []) := by
  obtain ⟨i, h1, h2⟩ := T.s
  obtain ⟨und, isAgg, size, bytes, zero, eqOk⟩ := i
  simp only at h2
  subst h2
  simp [builtinE, lenOfE, h1]

theorem idx_str (T : StrTy E) {s : List UInt8} {i : Nat} {c : UInt8} (h : s[i]? = some c) {k : IntKind} : indexE E 9 (.str s) (.int k i) = some (.int .u8 c.toNat) := by
  obtain ⟨t, h1, h2⟩ := T.s
  obtain ⟨und, isAgg, size, bytes, zero, eqOk⟩ := t
  simp only at h2
  subst h2
  simp [indexE, h1, h]

theorem fn5 : E0.fn 5 = some { code := isC, ntmps := 51, results := [.tmp 2], pure := true, dual := false } := by kernel_rfl
theorem fn6 : E0.fn 6 = some { code := isC', ntmps := 51, results := [.tmp 2], pure := true, dual := false } := by kernel_rfl

theorem good_drop {s : List UInt8} {i : Nat} {c : UInt8} (h : s[i]? = some c) : goodFrom i (s.drop i) = (!badAt i c.toNat && goodFrom (i + 1) (s.drop (i + 1))) := by
  have hlt := (List.getElem?_eq_some_iff.1 h).1
  rw [List.drop_eq_getElem_cons hlt, (List.getElem?_eq_some_iff.1 h).2]
  rfl

/-- a pure call, off its body -/
theorem call_of {f : Nat} {fi : FnI} {args : List AV} {r : AV} (hov : E.ov f args = none) (hfn : E.fn f = some fi) (hp : fi.pure = true)
    (h : Cv E fi.code (args ++ List.replicate (fi.ntmps - args.length) undefV) [] fun ex ts H => (∀ id, ex ≠ .exit id) ∧ ∃ rs bs, resE H E ts fi.results = some rs ∧ freezeL H [oneE rs] = some ([r], bs)) : ∃ n, call E n f args = some r := by
  obtain ⟨n, ex, ts, H, h1, h2, rs, bs, h3, h4⟩ := h
  refine ⟨n, ?_⟩
  unfold call runP
  simp only [hov, hfn, hp, Bool.true_or, Bool.not_true, Bool.false_eq_true, if_false, h1]
  cases ex with
  | exit id => exact absurd rfl (h2 id)
  | normal => simp only [h3, h4]
  | ret => simp only [h3, h4]

theorem isA_ok (hE : Over E) {s : List UInt8} (hs : s.length < 1000) : Cv E isC ([.str s] ++ List.replicate 50 undefV) [] fun ex ts H => (∀ id, ex ≠ .exit id) ∧ ∃ rs bs, resE H E ts [.tmp 2] = some rs ∧ freezeL H [oneE rs] = some ([.bool (nameL s)], bs) := by
  have T := strTy hE
  generalize hts : [AV.str s] ++ List.replicate 50 undefV = ts
  have hl : ts.length = 51 := by subst hts; rfl
  have g0 : gt ts 0 = .str s := by subst hts; rfl
  clear hts
  refine Cv.seq (Cv.region ?_)
  refine Ops.step (st_assign rfl) ?_
  refine Ops.nil ?_
  simp only [app_nil]
  refine Cv.seq (Cv.seq (Cv.region ?_))
  refine Ops.step (st_move (v := .str s) (by rw [evO_tmp]; simp [gt_ne, gt_self, hl, g0])) ?_
  refine Ops.step (st_builtin (al := [.str s]) (by simp [evL, evO_tmp, gt_ne, gt_self, hl]) (len_str T)) ?_
  refine Ops.step (st_move rfl) ?_
  refine Ops.nil ?_
  simp only [app_nil]
  have fin : ∀ (ts : List AV) (b : Bool), gt ts 2 = .bool b → b = nameL s → (∀ id, Ex.ret ≠ .exit id) ∧ ∃ rs bs, resE [] E ts [.tmp 2] = some rs ∧ freezeL [] [oneE rs] = some ([.bool (nameL s)], bs) := by
    intro ts b h1 h2
    refine ⟨fun id h => (by cases h), [.bool b], [], ?_, ?_⟩
    · show some [gt ts 2] = _
      rw [h1]
    · subst h2; rfl
  refine Cv.block (Cv.loop (fun k ts H => ∃ i, k = s.length - i ∧ i ≤ s.length ∧ ts.length = 51 ∧ gt ts 0 = .str s ∧ gt ts 7 = .int .i64 s.length ∧ gt ts 8 = .int .i64 i ∧ H = [] ∧ goodFrom 0 s = goodFrom i (s.drop i)) ?_ s.length _ _
    ⟨0, by omega, by omega, by simp [hl], by simp [gt_ne, g0], by simp [gt_ne, gt_self, hl], by simp [gt_self, hl], rfl, rfl⟩)
  rintro k ts H ⟨i, rfl, hi, hl, g0, g7, g8, rfl, hg⟩
  refine Cv.seq (Cv.region ?_)
  refine Ops.step (st_binOp (u := .int .i64 i) (v := .int .i64 s.length) (r := .bool (decide (i < s.length))) (by rw [evO_tmp, g8]) (by rw [evO_tmp, g7]) (by simp [binE, intE])) ?_
  refine Ops.nil ?_
  simp only [app_nil]
  refine Cv.seq (Cv.cond (t := decide (i < s.length)) (by rw [evO_tmp]; simp [gt_self, hl]) ?_)
  by_cases hlt : i < s.length
  · simp only [hlt, decide_true, if_true]
    obtain ⟨c, hc⟩ : ∃ c, s[i]? = some c := ⟨s[i], List.getElem?_eq_getElem hlt⟩
    refine Cv.skip ?_
    refine Cv.seq (Cv.block (Cv.seq (Cv.region ?_)))
    refine Ops.step (st_move (v := .int .i64 i) (by rw [evO_tmp]; simp [gt_ne, g8])) ?_
    refine Ops.step (st_assign (v := .int .i64 i) (by rw [evO_tmp]; simp [gt_ne, gt_self, hl])) ?_
    refine Ops.nil ?_
    simp only [app_nil]
    refine Cv.seq (Cv.region ?_)
    refine Ops.step (st_move (v := .str s) (by rw [evO_tmp]; simp [gt_ne, g0])) ?_
    refine Ops.step (st_move (v := .int .i64 i) (by rw [evO_tmp]; simp [gt_ne, gt_self, hl])) ?_
    refine Ops.step (st_index (u := .str s) (v := .int .i64 i) (r := .int .u8 c.toNat) (by rw [evO_tmp]; simp [gt_ne, gt_self, hl]) (by rw [evO_tmp]; simp [gt_ne, gt_self, hl]) (idx_str T hc)) ?_
    refine Ops.step (st_assign (v := .int .u8 c.toNat) (by rw [evO_tmp]; simp [gt_ne, gt_self, hl])) ?_
    refine Ops.nil ?_
    simp only [app_nil]
    refine Cv.seq (isA_r5 (c := c.toNat) (by simp [hl]) (by simp [gt_self, hl]) fun t5 l5 a0 a2 a3 a4 a5 a6 => ?_)
    have a7 := a6 7 (by omega) (by omega)
    have a8 := a6 8 (by omega) (by omega)
    simp [gt_ne, gt_self, hl, g0, g7, g8] at a0 a3 a4 a7 a8
    refine Cv.seq (isA_r6 (c := c.toNat) (i := i) l5 a3 a4 a5 fun t6 l6 b0 b2 b3 b41 b6 => ?_)
    have b7 := b6 7 (by omega) (by omega)
    have b8 := b6 8 (by omega) (by omega)
    rw [a0] at b0; rw [a7] at b7; rw [a8] at b8
    refine Cv.cond (t := badAt i c.toNat) (by rw [evO_tmp, b41]; rfl) ?_
    have hgd := good_drop hc
    cases hbad : badAt i c.toNat with
    | true =>
      simp only [if_true]
      refine Cv.seq (Cv.region ?_)
      refine Ops.step (st_assign rfl) ?_
      refine Ops.nil ?_
      simp only [app_nil]
      refine Cv.ret (fin _ false (by simp [gt_self, l6]) ?_)
      unfold nameL
      rw [hg, hgd, hbad]; simp
    | false =>
      simp only [Bool.false_eq_true, if_false]
      refine Cv.skip ?_
      refine Cv.region ?_
      refine Ops.step (st_binOp (u := .int .i64 i) (v := .int .i64 1) (r := .int .i64 (i + 1 : Nat)) (by rw [evO_tmp, b8]) rfl (by simp only [binE, intE, ne_eq, not_true_eq_false, if_false]; rw [addI (by omega)])) ?_
      refine Ops.step (st_move (v := .int .i64 (i + 1 : Nat)) (by rw [evO_tmp]; simp [gt_self, l6])) ?_
      refine Ops.nil ⟨s.length - (i + 1), by omega, i + 1, rfl, by omega, by simp [l6], by simp [gt_ne, b0], by simp [gt_ne, b7], by simp [gt_self, l6], rfl, ?_⟩
      rw [hg, hgd, hbad]; simp
  · simp only [hlt, decide_false, Bool.false_eq_true, if_false]
    have hie : i = s.length := by omega
    refine Cv.exit ?_
    simp only [if_true]
    have hgt : goodFrom 0 s = true := by rw [hg, hie, List.drop_length]; rfl
    refine Cv.seq (Cv.region ?_)
    refine Ops.step (st_move (v := .str s) (by rw [evO_tmp]; simp [gt_ne, g0])) ?_
    refine Ops.step (st_builtin (al := [.str s]) (by simp [evL, evO_tmp, gt_ne, gt_self, hl]) (len_str T)) ?_
    refine Ops.step (st_binOp (u := .int .i64 s.length) (v := .int .i64 0) (r := .bool (decide (0 < s.length))) (by rw [evO_tmp]; simp [gt_self, hl]) rfl (by simp [binE, intE])) ?_
    refine Ops.step (st_move (v := .bool (decide (0 < s.length))) (by rw [evO_tmp]; simp [gt_self, hl])) ?_
    by_cases h0 : 0 < s.length
    · refine Ops.step ((st_guard_on (dj := 46) rfl (by simp [gt_self, hl, h0])).trans (st_move (v := .str s) (by rw [evO_tmp]; simp [gt_ne, g0]))) ?_
      refine Ops.step ((st_guard_on (dj := 46) rfl (by simp [gt_ne, gt_self, hl, h0])).trans (st_builtin (al := [.str s]) (by simp [evL, evO_tmp, gt_ne, gt_self, hl]) (len_str T))) ?_
      refine Ops.step ((st_guard_on (dj := 46) rfl (by simp [gt_ne, gt_self, hl, h0])).trans (st_binOp (u := .int .i64 s.length) (v := .int .i64 40) (r := .bool (decide (s.length ≤ 40))) (by rw [evO_tmp]; simp [gt_self, hl]) rfl (by simp [binE, intE]; omega))) ?_
      refine Ops.step (st_pick (q := true) (v := .bool (decide (s.length ≤ 40))) (by rw [evO_tmp]; simp [gt_ne, gt_self, hl, h0]) (by show evO _ (.tmp 49) = _; rw [evO_tmp]; simp [gt_self, hl])) ?_
      refine Ops.step (st_assign (v := .bool (decide (s.length ≤ 40))) (by rw [evO_tmp]; simp [gt_self, hl])) ?_
      refine Ops.nil ?_
      simp only [app_nil]
      refine Cv.ret (fin _ (decide (s.length ≤ 40)) (by simp [gt_self, hl]) ?_)
      unfold nameL
      rw [hgt]; simp [h0]
    · have hs0 : s = [] := by cases s with
        | nil => rfl
        | cons a t => simp at h0
      subst hs0
      refine Ops.step (st_guard_off (dj := 46) (b := false) rfl (by simp [gt_self, hl]) (by simp)) ?_
      refine Ops.step (st_guard_off (dj := 46) (b := false) rfl (by simp [putE, gt_ne, gt_self, hl]) (by simp)) ?_
      refine Ops.step (st_guard_off (dj := 46) (b := false) rfl (by simp [putE, gt_ne, gt_self, hl]) (by simp)) ?_
      refine Ops.step (st_pick (q := false) (v := .bool false) (by rw [evO_tmp]; simp [putE, gt_ne, gt_self, hl]) rfl) ?_
      refine Ops.step (st_assign (v := .bool false) (by rw [evO_tmp]; simp [putE, gt_self, hl])) ?_
      refine Ops.nil ?_
      simp only [app_nil]
      refine Cv.ret (fin _ false (by simp [putE, gt_self, hl]) ?_)
      rfl

theorem isB_ok (hE : Over E) {s : List UInt8} (hs : s.length < 1000) : Cv E isC' ([.str s] ++ List.replicate 50 undefV) [] fun ex ts H => (∀ id, ex ≠ .exit id) ∧ ∃ rs bs, resE H E ts [.tmp 2] = some rs ∧ freezeL H [oneE rs] = some ([.bool (nameL s)], bs) := by
  have T := strTy hE
  generalize hts : [AV.str s] ++ List.replicate 50 undefV = ts
  have hl : ts.length = 51 := by subst hts; rfl
  have g0 : gt ts 0 = .str s := by subst hts; rfl
  clear hts
  refine Cv.seq (Cv.region ?_)
  refine Ops.step (st_assign rfl) ?_
  refine Ops.nil ?_
  simp only [app_nil]
  refine Cv.seq (Cv.seq (Cv.region ?_))
  refine Ops.step (st_assign rfl) ?_
  refine Ops.nil ?_
  simp only [app_nil]
  have fin : ∀ (ts : List AV) (b : Bool), gt ts 2 = .bool b → b = nameL s → (∀ id, Ex.ret ≠ .exit id) ∧ ∃ rs bs, resE [] E ts [.tmp 2] = some rs ∧ freezeL [] [oneE rs] = some ([.bool (nameL s)], bs) := by
    intro ts b h1 h2
    refine ⟨fun id h => (by cases h), [.bool b], [], ?_, ?_⟩
    · show some [gt ts 2] = _
      rw [h1]
    · subst h2; rfl
  refine Cv.block (Cv.loop (fun k ts H => ∃ i, k = s.length - i ∧ i ≤ s.length ∧ ts.length = 51 ∧ gt ts 0 = .str s ∧ gt ts 3 = .int .i64 i ∧ H = [] ∧ goodFrom 0 s = goodFrom i (s.drop i)) ?_ s.length _ _
    ⟨0, by omega, by omega, by simp [hl], by simp [gt_ne, g0], by simp [gt_self, hl], rfl, rfl⟩)
  rintro k ts H ⟨i, rfl, hi, hl, g0, g3, rfl, hg⟩
  refine Cv.seq (Cv.seq (Cv.region ?_))
  refine Ops.step (st_move (v := .int .i64 i) (by rw [evO_tmp, g3])) ?_
  refine Ops.step (st_move (v := .str s) (by rw [evO_tmp]; simp [gt_ne, g0])) ?_
  refine Ops.step (st_builtin (al := [.str s]) (by simp [evL, evO_tmp, gt_self, hl]) (len_str T)) ?_
  refine Ops.step (st_binOp (u := .int .i64 i) (v := .int .i64 s.length) (r := .bool (decide (i < s.length))) (by rw [evO_tmp]; simp [gt_ne, gt_self, hl]) (by rw [evO_tmp]; simp [gt_self, hl]) (by simp [binE, intE])) ?_
  refine Ops.nil ?_
  simp only [app_nil]
  refine Cv.cond (t := decide (i < s.length)) (by rw [evO_tmp]; simp [gt_self, hl]) ?_
  by_cases hlt : i < s.length
  · simp only [hlt, decide_true, if_true]
    obtain ⟨c, hc⟩ : ∃ c, s[i]? = some c := ⟨s[i], List.getElem?_eq_getElem hlt⟩
    refine Cv.skip ?_
    refine Cv.seq (Cv.block (Cv.seq (Cv.region ?_)))
    refine Ops.step (st_move (v := .str s) (by rw [evO_tmp]; simp [gt_ne, g0])) ?_
    refine Ops.step (st_move (v := .int .i64 i) (by rw [evO_tmp]; simp [gt_ne, gt_self, hl, g3])) ?_
    refine Ops.step (st_index (u := .str s) (v := .int .i64 i) (r := .int .u8 c.toNat) (by rw [evO_tmp]; simp [gt_ne, gt_self, hl]) (by rw [evO_tmp]; simp [gt_ne, gt_self, hl]) (idx_str T hc)) ?_
    refine Ops.step (st_assign (v := .int .u8 c.toNat) (by rw [evO_tmp]; simp [gt_ne, gt_self, hl])) ?_
    refine Ops.nil ?_
    simp only [app_nil]
    refine Cv.seq (isB_r5 (c := c.toNat) (by simp [hl]) (by simp [gt_self, hl]) fun t5 l5 a0 a2 a3 a4 a5 a6 => ?_)
    simp [gt_ne, gt_self, hl, g0, g3] at a0 a3 a4
    refine Cv.seq (isB_r6 (c := c.toNat) (i := i) l5 a3 a4 a5 fun t6 l6 b0 b2 b3 b41 b6 => ?_)
    rw [a0] at b0; rw [a3] at b3
    refine Cv.cond (t := badAt i c.toNat) (by rw [evO_tmp, b41]; rfl) ?_
    have hgd := good_drop hc
    cases hbad : badAt i c.toNat with
    | true =>
      simp only [if_true]
      refine Cv.seq (Cv.region ?_)
      refine Ops.step (st_assign rfl) ?_
      refine Ops.nil ?_
      simp only [app_nil]
      refine Cv.ret (fin _ false (by simp [gt_self, l6]) ?_)
      unfold nameL
      rw [hg, hgd, hbad]; simp
    | false =>
      simp only [Bool.false_eq_true, if_false]
      refine Cv.skip ?_
      refine Cv.region ?_
      refine Ops.step (st_move (v := .int .i64 i) (by rw [evO_tmp, b3])) ?_
      refine Ops.step (st_binOp (u := .int .i64 i) (v := .int .i64 1) (r := .int .i64 (i + 1 : Nat)) (by rw [evO_tmp]; simp [gt_self, l6]) rfl (by simp only [binE, intE, ne_eq, not_true_eq_false, if_false]; rw [addI (by omega)])) ?_
      refine Ops.step (st_assign (v := .int .i64 (i + 1 : Nat)) (by rw [evO_tmp]; simp [gt_self, l6])) ?_
      refine Ops.nil ⟨s.length - (i + 1), by omega, i + 1, rfl, by omega, by simp [l6], by simp [gt_ne, b0], by simp [gt_self, l6], rfl, ?_⟩
      rw [hg, hgd, hbad]; simp
  · simp only [hlt, decide_false, Bool.false_eq_true, if_false]
    have hie : i = s.length := by omega
    refine Cv.exit ?_
    simp only [if_true]
    have hgt : goodFrom 0 s = true := by rw [hg, hie, List.drop_length]; rfl
    refine Cv.seq (Cv.region ?_)
    refine Ops.step (st_move (v := .str s) (by rw [evO_tmp]; simp [gt_ne, g0])) ?_
    refine Ops.step (st_builtin (al := [.str s]) (by simp [evL, evO_tmp, gt_ne, gt_self, hl]) (len_str T)) ?_
    refine Ops.step (st_binOp (u := .int .i64 s.length) (v := .int .i64 1) (r := .bool (decide (0 < s.length))) (by rw [evO_tmp]; simp [gt_self, hl]) rfl (by simp [binE, intE]; omega)) ?_
    refine Ops.step (st_move (v := .bool (decide (0 < s.length))) (by rw [evO_tmp]; simp [gt_self, hl])) ?_
    by_cases h0 : 0 < s.length
    · refine Ops.step ((st_guard_on (dj := 46) rfl (by simp [gt_self, hl, h0])).trans (st_move (v := .str s) (by rw [evO_tmp]; simp [gt_ne, g0]))) ?_
      refine Ops.step ((st_guard_on (dj := 46) rfl (by simp [gt_ne, gt_self, hl, h0])).trans (st_builtin (al := [.str s]) (by simp [evL, evO_tmp, gt_ne, gt_self, hl]) (len_str T))) ?_
      refine Ops.step ((st_guard_on (dj := 46) rfl (by simp [gt_ne, gt_self, hl, h0])).trans (st_binOp (u := .int .i64 s.length) (v := .int .i64 40) (r := .bool (decide (s.length ≤ 40))) (by rw [evO_tmp]; simp [gt_self, hl]) rfl (by simp [binE, intE]; omega))) ?_
      refine Ops.step (st_pick (q := true) (v := .bool (decide (s.length ≤ 40))) (by rw [evO_tmp]; simp [gt_ne, gt_self, hl, h0]) (by show evO _ (.tmp 49) = _; rw [evO_tmp]; simp [gt_self, hl])) ?_
      refine Ops.step (st_assign (v := .bool (decide (s.length ≤ 40))) (by rw [evO_tmp]; simp [gt_self, hl])) ?_
      refine Ops.nil ?_
      simp only [app_nil]
      refine Cv.ret (fin _ (decide (s.length ≤ 40)) (by simp [gt_self, hl]) ?_)
      unfold nameL
      rw [hgt]; simp [h0]
    · have hs0 : s = [] := by cases s with
        | nil => rfl
        | cons a t => simp at h0
      subst hs0
      refine Ops.step (st_guard_off (dj := 46) (b := false) rfl (by simp [gt_self, hl]) (by simp)) ?_
      refine Ops.step (st_guard_off (dj := 46) (b := false) rfl (by simp [putE, gt_ne, gt_self, hl]) (by simp)) ?_
      refine Ops.step (st_guard_off (dj := 46) (b := false) rfl (by simp [putE, gt_ne, gt_self, hl]) (by simp)) ?_
      refine Ops.step (st_pick (q := false) (v := .bool false) (by rw [evO_tmp]; simp [putE, gt_ne, gt_self, hl]) rfl) ?_
      refine Ops.step (st_assign (v := .bool false) (by rw [evO_tmp]; simp [putE, gt_self, hl])) ?_
      refine Ops.nil ?_
      simp only [app_nil]
      refine Cv.ret (fin _ false (by simp [putE, gt_self, hl]) ?_)
      rfl
end
end Go.Proofs.YtbaficijlppeoaaGreatDoor
