/-
  The evaluator's environment at this seat's program.
-/
import Derived.Test.YtbaficijlppeoaaGreatDoorRows
import Derived.KernelRfl
import Derived.Test.YtbaficijlppeoaaGreatDoorEvE
import Derived.Lib.Bytealg
set_option linter.unusedSimpArgs false
set_option linter.unusedVariables false

namespace Go.Proofs.YtbaficijlppeoaaGreatDoor
open Go Dv
def pairsT : Nat → Nat → List (Nat × Nat)
  | 1, 12 => [(4, 8), (4, 9)]
  | 1, 21 => [(3, 19), (7, 19), (8, 19), (12, 19), (16, 19), (17, 19), (18, 19)]
  | 4, 10 => [(1, 8), (3, 8), (5, 8), (7, 8)]
  | 5, 7 => [(3, 4)]
  | 5, 9 => [(0, 6), (1, 6), (2, 6), (1, 5)]
  | 5, 20 => [(1, 17), (3, 17), (5, 17), (7, 17), (9, 17), (11, 17), (12, 17), (13, 17)]
  | 6, 4 => [(0, 1), (0, 2)]
  | 7, 5 => [(1, 2)]
  | 7, 10 => [(0, 7), (1, 7), (2, 7), (3, 7)]
  | 7, 15 => [(0, 10), (1, 10), (2, 10), (3, 10), (4, 10), (5, 10), (0, 11), (1, 11), (2, 11), (3, 11), (4, 11), (5, 11), (10, 11)]
  | 8, 8 => [(1, 4)]
  | 8, 11 => [(0, 8), (1, 8), (2, 8), (3, 8), (4, 8)]
  | 8, 23 => [(1, 19), (3, 19), (7, 19), (9, 19), (11, 19), (13, 19), (16, 19), (18, 19), (1, 20), (3, 20), (7, 20), (9, 20), (11, 20), (13, 20), (16, 20), (18, 20), (19, 20), (11, 21), (13, 21), (16, 21), (18, 21)]
  | 9, 12 => [(0, 10), (1, 10), (2, 10), (3, 10), (4, 10), (5, 10), (6, 10), (7, 10), (8, 10), (9, 10)]
  | 10, 4 => [(1, 2)]
  | 10, 9 => [(0, 6), (1, 6), (2, 6)]
  | 10, 21 => [(0, 19), (3, 19), (4, 19), (5, 19), (7, 19), (8, 19), (9, 19), (12, 19), (13, 19), (14, 19), (16, 19), (17, 19), (18, 19)]
  | 11, 21 => [(1, 17)]
  | 12, 9 => [(0, 6), (1, 6), (2, 6)]
  | 15, 22 => [(3, 18), (7, 18), (8, 18), (12, 18), (16, 18), (17, 18), (3, 19), (7, 19), (8, 19), (12, 19), (16, 19), (17, 19), (18, 19)]
  | 15, 24 => [(1, 20)]
  | 18, 9 => [(0, 6), (1, 6), (2, 6)]
  | 20, 12 => [(3, 7), (4, 7), (2, 8), (3, 8), (4, 8)]
  | _, _ => []

def impT : List Nat := [29, 30, 46, 68, 82, 98, 99, 104, 110, 117, 133, 136, 140, 142, 143, 147, 160, 164, 176, 198, 199, 200, 225, 233, 250]
def dualT : List Nat := [98, 99, 133, 136, 147]
def skipT : List Nat := [91]

/-- what the listed variables hold, as cells -/
def cellsD : DataW Unit → List AV
  | .lit (.int k n) => [.int k n]
  | .agg ds => go ds
  | _ => []
where
  go : List (DataW Unit) → List AV
  | [] => []
  | .lit (.int k n) :: ds => .int k n :: go ds
  | _ :: ds => undefV :: go ds
def tab64 : List AV := cellsD Rows.laid_math_bits_deBruijn64tab
def globT : Nat → Option (List AV)
  | 2 => some tab64
  | _ => none
/-- strings.IndexByte's bottom, which has no body -/
def ovByte (f : Nat) (l : List AV) : Option AV :=
  if f = 274 then match l with
    | [.str s, .int .u8 c] => some (.int .i64 (Go.Lib.indexByte s c.toNat.toUInt8))
    | _ => none
  else none
noncomputable def E0 : Env := { ty := tyOf Tryz.prog, fn := fnOf Tryz.prog impT dualT skipT, glob := globT, ov := ovByte, ovI := fun _ _ _ => none, pairs := pairsT }


theorem env_names : (Tryz.prog.funcs.all (fun fn => fn.name != "runtime.NumGoroutine")) = true := by kernel_rfl
theorem env_mixed : Tryz.prog.follows .mixedOrders = true := by kernel_rfl
theorem env_size : Tryz.prog.funcs.size = 311 := by kernel_rfl
theorem env_p0 : (List.range' 0 15).all (fnOk E0) = true := by kernel_rfl
theorem env_p1 : (List.range' 15 15).all (fnOk E0) = true := by kernel_rfl
theorem env_p2 : (List.range' 30 15).all (fnOk E0) = true := by kernel_rfl
theorem env_p3 : (List.range' 45 15).all (fnOk E0) = true := by kernel_rfl
theorem env_p4 : (List.range' 60 15).all (fnOk E0) = true := by kernel_rfl
theorem env_p5 : (List.range' 75 15).all (fnOk E0) = true := by kernel_rfl
theorem env_p6 : (List.range' 90 15).all (fnOk E0) = true := by kernel_rfl
theorem env_p7 : (List.range' 105 15).all (fnOk E0) = true := by kernel_rfl
theorem env_p8 : (List.range' 120 15).all (fnOk E0) = true := by kernel_rfl
theorem env_p9 : (List.range' 135 15).all (fnOk E0) = true := by kernel_rfl
theorem env_p10 : (List.range' 150 15).all (fnOk E0) = true := by kernel_rfl
theorem env_p11 : (List.range' 165 15).all (fnOk E0) = true := by kernel_rfl
theorem env_p12 : (List.range' 180 15).all (fnOk E0) = true := by kernel_rfl
theorem env_p13 : (List.range' 195 15).all (fnOk E0) = true := by kernel_rfl
theorem env_p14 : (List.range' 210 15).all (fnOk E0) = true := by kernel_rfl
theorem env_p15 : (List.range' 225 15).all (fnOk E0) = true := by kernel_rfl
theorem env_p16 : (List.range' 240 15).all (fnOk E0) = true := by kernel_rfl
theorem env_p17 : (List.range' 255 15).all (fnOk E0) = true := by kernel_rfl
theorem env_p18 : (List.range' 270 15).all (fnOk E0) = true := by kernel_rfl
theorem env_p19 : (List.range' 285 15).all (fnOk E0) = true := by kernel_rfl
theorem env_p20 : (List.range' 300 11).all (fnOk E0) = true := by kernel_rfl
theorem valid0 : Valid E0 Tryz.prog := by
  refine valid_parts (E := E0) (P := Tryz.prog) (imp := impT) (dual := dualT) (skip := skipT) (by simp only [E0]) (by simp only [E0]) env_names env_mixed fun f hf => ?_
  rw [env_size] at hf
  rcases Nat.lt_or_ge f 15 with h | h
  · exact all_part env_p0 (by omega) (by omega)
  rcases Nat.lt_or_ge f 30 with h | h
  · exact all_part env_p1 (by omega) (by omega)
  rcases Nat.lt_or_ge f 45 with h | h
  · exact all_part env_p2 (by omega) (by omega)
  rcases Nat.lt_or_ge f 60 with h | h
  · exact all_part env_p3 (by omega) (by omega)
  rcases Nat.lt_or_ge f 75 with h | h
  · exact all_part env_p4 (by omega) (by omega)
  rcases Nat.lt_or_ge f 90 with h | h
  · exact all_part env_p5 (by omega) (by omega)
  rcases Nat.lt_or_ge f 105 with h | h
  · exact all_part env_p6 (by omega) (by omega)
  rcases Nat.lt_or_ge f 120 with h | h
  · exact all_part env_p7 (by omega) (by omega)
  rcases Nat.lt_or_ge f 135 with h | h
  · exact all_part env_p8 (by omega) (by omega)
  rcases Nat.lt_or_ge f 150 with h | h
  · exact all_part env_p9 (by omega) (by omega)
  rcases Nat.lt_or_ge f 165 with h | h
  · exact all_part env_p10 (by omega) (by omega)
  rcases Nat.lt_or_ge f 180 with h | h
  · exact all_part env_p11 (by omega) (by omega)
  rcases Nat.lt_or_ge f 195 with h | h
  · exact all_part env_p12 (by omega) (by omega)
  rcases Nat.lt_or_ge f 210 with h | h
  · exact all_part env_p13 (by omega) (by omega)
  rcases Nat.lt_or_ge f 225 with h | h
  · exact all_part env_p14 (by omega) (by omega)
  rcases Nat.lt_or_ge f 240 with h | h
  · exact all_part env_p15 (by omega) (by omega)
  rcases Nat.lt_or_ge f 255 with h | h
  · exact all_part env_p16 (by omega) (by omega)
  rcases Nat.lt_or_ge f 270 with h | h
  · exact all_part env_p17 (by omega) (by omega)
  rcases Nat.lt_or_ge f 285 with h | h
  · exact all_part env_p18 (by omega) (by omega)
  rcases Nat.lt_or_ge f 300 with h | h
  · exact all_part env_p19 (by omega) (by omega)
  rcases Nat.lt_or_ge f 311 with h | h
  · exact all_part env_p20 (by omega) (by omega)
  omega
end Go.Proofs.YtbaficijlppeoaaGreatDoor

namespace Go.Proofs.YtbaficijlppeoaaGreatDoor
open Go Go.RowKit Dv

theorem func274 : ∃ fn, Tryz.prog.funcs[274]? = some fn ∧ (fn.name == "runtime.NumGoroutine") = false ∧ fn.body.isNone = true ∧ Extern.findNext fn = none ∧ Extern.find fn = some Extern.BytealgIndexByte.indexByte :=
  ⟨Tryz.f274, Tryz.func274, by kernel_rfl, by kernel_rfl, by kernel_rfl, by kernel_rfl⟩

theorem ovok0 : OvOK E0 Tryz.prog := by
  refine ⟨?_, fun f l H v H2 h => by cases h⟩
  intro f l r h L w vs hlo hg ha
  have h' : ovByte f l = some r := h
  unfold ovByte at h'
  split at h'
  case isFalse => cases h'
  rename_i hf
  subst hf
  split at h'
  case h_2 => cases h'
  rename_i s c
  cases h'
  simp only [R, Rs] at ha
  obtain ⟨v1, l1, e1, rfl, v2, l2, rfl, rfl, rfl⟩ := ha
  have hvs : vs = #[.string ⟨s.toArray⟩, .int .u8 c] := by
    apply Array.toList_inj.1
    rw [e1]
  subst hvs
  obtain ⟨fn, g1, g2, g3, g4, g5⟩ := func274
  refine .inl ⟨.int .i64 (Lib.indexByte s c.toNat.toUInt8), w, ?_, Go.RowKit.Below.refl _ _, by simp [R]⟩
  rw [run_callFunc_extern g1 g2 g3 g4 g5, Lib.run_indexByteString]
  simp [Result.andThen]
end Go.Proofs.YtbaficijlppeoaaGreatDoor
