/-
  The known examples of the chapter come to true.
-/
import Derived.Test.YtbaficijlppeoaaGreatDoorNames
import Derived.Test.YtbaficijlppeoaaGreatDoorLay
set_option linter.unusedSimpArgs false
set_option linter.unusedVariables false

namespace Go.Proofs.YtbaficijlppeoaaGreatDoor
open Go Dv
set_option linter.unusedSimpArgs false
set_option linter.unusedVariables false

theorem known_true : call (E0.upto tree 16) 100000 4 [] = some (.bool true) := by kernel_rfl

theorem known_good : Good E0 Tryz.prog 4 [] (.bool true) := by
  obtain ⟨V, O⟩ := upto_ok valid0 ovok0 g16
  exact good_upto fun L w vs hl hg ha => call_ok V O 100000 4 [] _ known_true L w vs hl hg ha

def treeF : Dv.Tree := .leaf 4 [(1, [([], .bool true)])]
theorem gF : AllGood E0 Tryz.prog treeF 1 := by
  intro f j K hm hj l r hr
  unfold treeF Tree.at at hm
  split at hm
  · rename_i hf
    have := Nat.eq_of_beq_eq_true hf
    subst this
    simp only [List.mem_singleton, Prod.mk.injEq] at hm
    obtain ⟨rfl, rfl⟩ := hm
    simp only [List.mem_singleton, Prod.mk.injEq] at hr
    obtain ⟨rfl, rfl⟩ := hr
    exact known_good
  · simp at hm

noncomputable def Ef : Env := E0.upto treeF 1
theorem overF : Over Ef := over_upto _ _
theorem validF : Valid Ef Tryz.prog := (upto_ok valid0 ovok0 gF).1
theorem ovokF : OvOK Ef Tryz.prog := (upto_ok valid0 ovok0 gF).2

theorem known_F : ∃ m, call Ef m 4 [] = some (.bool true) := ⟨0, rfl⟩

theorem ovF {f : Nat} (h4 : f ≠ 4) (h : f ≠ 274) (l : List AV) : Ef.ov f l = none := by
  have h1 : Nat.beq f 4 = false := by
    cases hb : Nat.beq f 4 with
    | false => rfl
    | true => exact absurd (Nat.eq_of_beq_eq_true hb) h4
  show (match findL 1 (treeF.at f) l with | some r => some r | none => E0.ov f l) = none
  unfold treeF Tree.at
  rw [h1]
  show ovByte f l = none
  unfold ovByte
  rw [if_neg h]

theorem nameA {s : List UInt8} (hs : s.length < 1000) : ∃ n, call Ef n 5 [.str s] = some (.bool (nameL s)) :=
  call_of (ovF (by decide) (by decide) _) (by rw [overF.fn]; exact fn5) rfl (isA_ok overF hs)
theorem nameB {s : List UInt8} (hs : s.length < 1000) : ∃ n, call Ef n 6 [.str s] = some (.bool (nameL s)) :=
  call_of (ovF (by decide) (by decide) _) (by rw [overF.fn]; exact fn6) rfl (isB_ok overF hs)

theorem pureF {f : Nat} (h : (E0.fn f).map (·.pure) = some true) : ∀ fi, Ef.fn f = some fi → fi.pure = true := by
  intro fi hf
  rw [overF.fn] at hf
  rw [hf] at h; simpa using h

noncomputable def namesC : Code := (match Tryz.f3.body with | some c => c | none => .skip)
theorem fn3 : E0.fn 3 = some { code := namesC, ntmps := 43, results := [.tmp 4], pure := true, dual := false } := by kernel_rfl

theorem tyF {t : Nat} {u : TypeDesc} (h : (E0.ty t).map (·.und) = some u) : ∃ i, Ef.ty t = some i ∧ i.und = u := by
  rw [overF.ty]
  cases hq : E0.ty t with
  | none => rw [hq] at h; cases h
  | some i => rw [hq] at h; exact ⟨i, rfl, by simpa using h⟩

theorem bytes_ty : ∃ i5 z, Ef.ty 5 = some i5 ∧ i5.und = .int .u8 ∧ i5.size = 1 ∧ i5.isAgg = false ∧ i5.zero = some [.int .u8 0] ∧ i5.bytes = 1 ∧ z = i5 := by
  rw [overF.ty]
  obtain ⟨i, hi⟩ : ∃ i, E0.ty 5 = some i := Option.isSome_iff_exists.1 (by kernel_rfl)
  have a1 : (E0.ty 5).map (·.und) = some (.int .u8) := by kernel_rfl
  have a2 : (E0.ty 5).map (·.size) = some 1 := by kernel_rfl
  have a3 : (E0.ty 5).map (·.isAgg) = some false := by kernel_rfl
  have a4 : (E0.ty 5).map (·.zero) = some (some [.int .u8 0]) := by kernel_rfl
  have a5 : (E0.ty 5).map (·.bytes) = some 1 := by kernel_rfl
  rw [hi] at a1 a2 a3 a4 a5
  exact ⟨i, i, hi, by simpa using a1, by simpa using a2, by simpa using a3, by simpa using a4, by simpa using a5, rfl⟩

theorem repE_one (x : AV) : ∀ m, repE [x] m = List.replicate m x
  | 0 => rfl
  | m + 1 => by simp [repE, repE_one x m, List.replicate_succ]

theorem bytesE_rep : ∀ m, bytesE (List.replicate m (.int .u8 97)) = some (List.replicate m 97)
  | 0 => rfl
  | m + 1 => by simp [List.replicate_succ, bytesE, bytesE_rep m]

/-- so many letters are written, the rest is 0 -/
def rowB (i m : Nat) : List AV := List.replicate i (.int .u8 97) ++ List.replicate (m - i) (.int .u8 0)

theorem rowB_splice {i m : Nat} (h : i < m) : spliceL (rowB i m) i [.int .u8 97] = rowB (i + 1) m := by
  unfold spliceL rowB
  rw [List.take_left' (by simp), List.length_singleton, List.drop_append, List.drop_of_length_le (by simp), List.nil_append, List.length_replicate, List.drop_replicate, List.replicate_succ', show i + 1 - i = 1 by omega, show m - i - 1 = m - (i + 1) by omega]

theorem eq_bool {H : Hp} {c : Bool} {a b : Bool} : binE Ef c .eql 4 (.bool a) (.bool b) = some (.bool (a == b)) := by
  obtain ⟨i, h1, h2⟩ := tyF (t := 4) (u := .bool) (by kernel_rfl)
  obtain ⟨und, isAgg, size, bytes, zero, eqOk⟩ := i
  simp only at h2
  subst h2
  simp [binE, binE.eqTop, eqE, h1]

end Go.Proofs.YtbaficijlppeoaaGreatDoor
