/-
  Operations of the evaluator are sound: append, copy, maps, strings, freezing.
-/
import Derived.Test.YtbaficijlppeoaaGreatDoorEvA
set_option linter.unusedSimpArgs false
set_option linter.unusedVariables false

namespace Dv
open Go Go.RowKit
set_option linter.unusedSimpArgs false
set_option linter.unusedVariables false

section
variable {E : Env} {P : Program} {ι : Inj} {w : World} {L : Nat → Prop} {ts : List AV} {a : Act} {Lo : Nat → Prop} {w0 : World} {H : Hp}

/-- cells of a slice or a string that is read -/
theorem src_cells (S : Sim E Lo w0 ι H w) {x : AV} {vx : Value} (hx : R ι w (Live Lo ι H) x vx) {esz n : Nat} {xs : List AV} (hl : lenE x = some n) (h : srcE H esz x = some xs) :
    ∃ news : Array Value, (Builtin.lenOf vx).run P w = .ok n w ∧ xs.length = n * esz ∧ Rs ι w (Live Lo ι H) xs news.toList ∧
      (∀ m, m ≤ n → (Builtin.firstCells esz m vx).run P w = .ok (news.extract 0 (m * esz)) w) := by
  unfold srcE at h
  split at h
  · rename_i b
    split at h
    case isFalse => cases h
    rename_i hes
    cases h
    subst hes
    simp only [lenE, Option.some.injEq] at hl
    simp only [R] at hx
    subst hx
    subst hl
    refine ⟨(b.map fun c => Value.int .u8 c.toNat).toArray, ?_, by simp, ?_, fun m hm => ?_⟩
    · simp [Builtin.lenOf, ByteArray.size]
    · refine Rs.of_get (by simp) fun i y hy => ?_
      simp only [List.getElem?_map, Option.map_eq_some_iff] at hy
      obtain ⟨c, hc, rfl⟩ := hy
      refine ⟨.int .u8 c.toNat, by simp [hc], by simp [R]⟩
    · simp only [Builtin.firstCells, Sem.run_pure]
      congr 1
      apply Array.ext'
      rw [Array.toList_map, ByteArray.data_extract, Array.toList_extract, Array.toList_extract]
      simp [List.extract_eq_take_drop, List.map_take]
  · unfold cellsE at h
    split at h
    · cases h
      simp only [lenE, Option.some.injEq] at hl; subst hl
      simp only [R] at hx; subst hx
      exact ⟨#[], by simp [Builtin.lenOf], by simp, by simp [Rs], fun m hm => by simp [Builtin.firstCells]⟩
    · cases h
      simp only [lenE, Option.some.injEq] at hl; subst hl
      simp only [R] at hx; obtain ⟨ad, cap, rfl⟩ := hx
      refine ⟨#[], by simp [Builtin.lenOf], by simp, by simp [Rs], fun m hm => ?_⟩
      have : m = 0 := by omega
      subst this
      simp [Builtin.firstCells, loadCells, loadCellsFrom]
    · rename_i cs len _
      split at h
      case isFalse => cases h
      rename_i hcl
      cases h
      simp only [lenE, Option.some.injEq] at hl; subst hl
      simp only [R] at hx
      obtain ⟨cb, o, cap, c, e, f, rfl, h2, h3, h4, h5⟩ := hx
      have h5' := RAt.ext (Ext.refl w (Live Lo ι H)) _ _ ι _ _ (noInj_le ι) h5
      refine ⟨c.extract o (o + xs.length), by simp [Builtin.lenOf], hcl, h5'.list, fun m hm => ?_⟩
      have hm' : m * esz ≤ xs.length := by rw [hcl]; exact Nat.mul_le_mul_right _ hm
      obtain ⟨vs, g1, g2, g3⟩ := cells_run (P := P) h3 (h5'.take (m * esz))
      have hlen : (xs.take (m * esz)).length = m * esz := by simp; omega
      have g2' := run_loadCells_list (P := P) w ⟨cb, o, none⟩ (c.extract o (o + m * esz)).toList (fun j v hj => by
        rw [addr_add, cell_at h3]
        rw [Array.getElem?_toList, Array.getElem?_extract] at hj
        split at hj
        · exact hj
        · cases hj)
      have hl2 : (c.extract o (o + m * esz)).toList.length = m * esz := by
        have := (h5'.take (m * esz)).list.length
        rw [hlen] at this
        exact this
      rw [hl2] at g2'
      simp only [Builtin.firstCells, g2']
      congr 1
      apply Array.ext'
      simp only [Array.toList_extract, List.extract_eq_take_drop, Nat.sub_zero, List.drop_zero, List.take_take]
      congr 1
      omega
    · rename_i b off len e kc _
      split at h
      · cases h
      rename_i hes
      simp only [ne_eq, Decidable.not_not] at hes
      subst hes
      split at h
      case h_2 => cases h
      rename_i st cs hb
      split at h
      · cases h
      rename_i hst
      simp only [not_or, Nat.not_lt] at hst
      cases h
      simp only [lenE, Option.some.injEq] at hl; subst hl
      simp only [R] at hx
      obtain ⟨cb, co, cap, c, e', f, h1, rfl, h3, h4, h5, h6⟩ := hx
      obtain ⟨cb', co', o, g1, g2, g3, _⟩ := S.obj b _ hb hst.1
      rw [h1] at g1; cases g1
      rw [h5] at g2; cases g2
      simp only [ObjR] at g3
      obtain ⟨c2, e2, f2, q1, q2, _⟩ := g3
      cases q1
      have hr := (q2.drop off).take (len * e)
      have hlen : ((cs.drop off).take (len * e)).length = len * e := by simp; omega
      refine ⟨c.extract (co + off) (co + off + len * e), by simp [Builtin.lenOf], hlen, by have := hr.list; rwa [hlen] at this, fun m hm => ?_⟩
      have hm' : m * e ≤ len * e := Nat.mul_le_mul_right _ hm
      have g2' := run_loadCells_list (P := P) w ⟨cb, co + off, none⟩ (c.extract (co + off) (co + off + m * e)).toList (fun j v hj => by
        rw [addr_add, cell_at h5]
        rw [Array.getElem?_toList, Array.getElem?_extract] at hj
        split at hj
        · exact hj
        · cases hj)
      have hl2 : (c.extract (co + off) (co + off + m * e)).toList.length = m * e := by
        have := (hr.take (m * e)).list.length
        have h8 : (((cs.drop off).take (len * e)).take (m * e)).length = m * e := by simp; omega
        rw [h8] at this
        exact this
      rw [hl2] at g2'
      simp only [Builtin.firstCells, g2']
      congr 1
      apply Array.ext'
      simp only [Array.toList_extract, List.extract_eq_take_drop, Nat.sub_zero, List.drop_zero, List.take_take]
      congr 1
      omega
    · cases h

/-- what is appended: how many, and their cells -/
theorem appended_run {qu : Question} (V : Valid E P) (S : Sim E Lo w0 ι H w) {e : Nat} {ei : TyI} (hei : E.ty e = some ei) {iz : Bool} {x : AV} {vx : Value} (hx : R ι w (Live Lo ι H) x vx) {n : Nat} {xs : List AV}
    (h : srcA H ei iz x = some (n, xs)) :
    ∃ news : Array Value, xs.length = n * ei.size ∧ Rs ι w (Live Lo ι H) xs news.toList ∧
      ((if iz then (do
        let l := IntKind.i64.wrap (← asInt vx)
        if l < 0 then runtimePanic (.error "makeslice: len out of range")
        if l * (← typeInfo e).bytes > 2 ^ 48 then
          let made ← choose qu
          runtimePanic (.error (if made == 1 then "makeslice: len out of range" else "growslice: len out of range"))
        pure l.toNat) else Builtin.lenOf vx : Sem Nat)).run P w = .ok n w ∧
      ((if !iz then Builtin.firstCells ei.size n vx
        else if n * ei.size = 0 then pure #[]
        else do pure (Builtin.zeroCells (← zeroValue e).cells n) : Sem (Array Value))).run P w = .ok news w := by
  obtain ⟨ti, t1, t2, t3⟩ := V.info' hei
  unfold srcA at h
  cases iz with
  | false =>
    simp only [Bool.false_eq_true, if_false, Bool.not_false, if_true] at h ⊢
    split at h
    · rename_i n' xs' h1 h2
      cases h
      obtain ⟨news, g1, g2, g3, g4⟩ := src_cells S hx h1 h2
      have g5 := g4 n (Nat.le_refl _)
      have hl : news.size = n * ei.size := by have := g3.length; rw [← g2]; simpa using this
      rw [← hl, Array.extract_size] at g5
      exact ⟨news, g2, g3, g1, g5⟩
    · cases h
  | true =>
    simp only [if_true, Bool.not_true, Bool.false_eq_true, if_false] at h ⊢
    split at h
    · rename_i k m z hz
      split at h
      case isFalse => cases h
      rename_i hc
      obtain ⟨c1, c2, c3, c4⟩ := hc
      cases h
      simp only [R] at hx
      subst hx
      obtain ⟨zv, z1, z2, z3, _, _⟩ := zero_run V hei hz ι w (Live Lo ι H)
      have hw : IntKind.i64.wrap m = m := by rw [IntKind.wrap_i64]; omega
      have hb : ¬ (281474976710656 < m * (ti.bytes : Int)) := by
        have c3' : m.toNat * ei.bytes ≤ 140737488355328 := c3
        have := Int.ofNat_le.2 c3'
        have e1 : ((m.toNat : Nat) : Int) = m := by omega
        rw [Int.natCast_mul, e1] at this
        rw [t3]; omega
      refine ⟨if m.toNat * ei.size = 0 then #[] else Builtin.zeroCells zv.cells m.toNat, by rw [repE_len, c4], ?_, ?_, ?_⟩
      · split
        · rename_i h0
          have : repE z m.toNat = [] := by rw [← List.length_eq_zero_iff, repE_len, c4]; exact h0
          rw [this]; simp [Rs]
        · rename_i h0
          have hz0 : 0 < z.length := by
            rcases Nat.eq_zero_or_pos z.length with q | q
            · rw [← c4, q] at h0; simp at h0
            · exact q
          have := rep_R z2 hz0 m.toNat
          have hs : zv.cells.size = z.length := by have := z2.length; simpa using this
          unfold Builtin.zeroCells
          rw [hs]
          rw [hs] at this
          exact this
      · have n1 : ¬ m < 0 := by omega
        simp [asInt, asIntOf, hw, n1, typeInfo, t1, hb]
      · split
        · rename_i h0; simp [h0]
        · rename_i h0; simp [h0, z1]
    · cases h

section
variable {t u ty e : Nat} {ats : Array Nat} {args : Array Value} {vx : Value} {ui ei : TyI} {n : Nat} {news : Array Value} {b : Option Addr} {sl sc : Nat}

/-- what append does with room: the slice's own block is written -/
theorem app_fits (V : Valid E P) (ha0 : ats[0]? = some t) (ha1 : ats[1]? = some u) (hg0 : args[0]? = some (.slice b sl sc)) (hg1 : args[1]? = some vx)
    (hund : (underlying t).run P w = .ok (.slice e) w) (hei : E.ty e = some ei) (hzu : (underlying u).run P w = .ok ui.und w) (hq : ∀ k, ui.und ≠ .int k)
    (hlen : (Builtin.lenOf vx).run P w = .ok n w) (hnew : (Builtin.firstCells ei.size n vx).run P w = .ok news w) (hfit : sl + n ≤ sc) :
    (Builtin.append_ ats ty args).run P w = (match b with
      | some a => (do storeCells (a.add (sl * ei.size)) news.toList; pure (.slice b (sl + n) sc) : Sem Value).run P w
      | none => .ok (.slice b (sl + n) sc) w) := by
  cases hd : ui.und
  case int k => exact absurd hd (hq k)
  all_goals
    rw [hd] at hzu
    simp only [Builtin.append_, ha0, ha1, hg0, hg1, Sem.run_bind, hund, Result.andThen_ok, run_sizeOfV V hei w, hzu, Sem.run_pure, hlen, hnew, hfit, if_true, Bool.not_false, Bool.false_eq_true, if_false]
    cases b <;> simp

theorem app_grows (V : Valid E P) (ha0 : ats[0]? = some t) (ha1 : ats[1]? = some u) (hg0 : args[0]? = some (.slice b sl sc)) (hg1 : args[1]? = some vx)
    (hund : (underlying t).run P w = .ok (.slice e) w) (hei : E.ty e = some ei) (hzu : (underlying u).run P w = .ok ui.und w) (hq : ∀ k, ui.und ≠ .int k)
    (hlen : (Builtin.lenOf vx).run P w = .ok n w) (hfit : ¬ sl + n ≤ sc) (hb : (sl + n) * ei.bytes ≤ 140737488355328) (h63 : sl + n ≤ 4611686018427387904)
    {olds z : Array Value} (hz : ∀ w : World, ∃ zv, (zeroValue e).run P w = .ok zv w ∧ zv.cells = z)
    (hnew : (Builtin.firstCells ei.size n vx).run P w.drew = .ok news w.drew) (hold : (Builtin.firstCells ei.size sl (.slice b sl sc)).run P w.drew = .ok olds w.drew) :
    (Builtin.append_ ats ty args).run P w = .ok (.slice (some ⟨w.heap.size, 0, none⟩) (sl + n) (grownCap w (sl + n) sc e))
      (w.drew.alloc (.cells (olds ++ news ++ Builtin.zeroCells z (grownCap w (sl + n) sc e - (sl + n))) e)) := by
  obtain ⟨ti, t1, t2, t3⟩ := V.info' hei
  have hfits := growslice_fits (need := sl + n) (old := sc) (bytes := ei.bytes) (by omega) hb
  have hn1 : ¬ (281474976710656 < Builtin.nextslicecap (sl + n) sc * ei.bytes) := by omega
  have hmax : IntKind.i64.max = 9223372036854775807 := by decide
  have hn2 : ¬ (9223372036854775807 < ((sl + n : Nat) : Int)) := by omega
  obtain ⟨zv, hz1, hz2⟩ := hz w.drew
  have hnew' : Sem.run P (Builtin.firstCells ei.size n vx) { heap := w.heap, tape := w.tape, drawn := w.drawn + 1, os := w.os, output := w.output } = .ok news w.drew := hnew
  have hold' : Sem.run P (Builtin.firstCells ei.size sl (.slice b sl sc)) { heap := w.heap, tape := w.tape, drawn := w.drawn + 1, os := w.os, output := w.output } = .ok olds w.drew := hold
  have hti : ∀ w : World, (typeInfo e).run P w = .ok ti w := fun w => by simp [typeInfo, t1]
  cases hd : ui.und
  case int k => exact absurd hd (hq k)
  all_goals
    rw [hd] at hzu
    simp only [Builtin.append_, ha0, ha1, hg0, hg1, Sem.run_bind, hund, Result.andThen_ok, run_sizeOfV V hei w, hzu, Sem.run_pure, hlen, hfit, if_false, Bool.not_false, Bool.false_eq_true, hti, t3, hmax, gt_iff_lt, hn2, false_and, hn1, run_choose, Question.forced, run_askRoom, hold', hnew, hz1, hz2, newRow, run_newObj, Nat.reducePow, if_true]
    rfl

/-- the same where what is appended is a slice that 'make' would make -/
theorem app_grows_make (V : Valid E P) {k k' : IntKind} {m : Int} (ha0 : ats[0]? = some t) (ha1 : ats[1]? = some u) (hg0 : args[0]? = some (.slice b sl sc)) (hg1 : args[1]? = some (.int k' m))
    (hund : (underlying t).run P w = .ok (.slice e) w) (hei : E.ty e = some ei) (hzu : (underlying u).run P w = .ok ui.und w) (hq : ui.und = .int k)
    (h0 : 0 ≤ m) (hm63 : m ≤ 4611686018427387904) (hmb : m.toNat * ei.bytes ≤ 140737488355328) (hpos : m.toNat * ei.size ≠ 0)
    (hfit : ¬ sl + m.toNat ≤ sc) (hb : (sl + m.toNat) * ei.bytes ≤ 140737488355328) (h63 : sl + m.toNat ≤ 4611686018427387904) (hbz : ei.bytes ≠ 0)
    {olds z : Array Value} (hz : ∀ w : World, ∃ zv, (zeroValue e).run P w = .ok zv w ∧ zv.cells = z)
    (hold : (Builtin.firstCells ei.size sl (.slice b sl sc)).run P w.drew = .ok olds w.drew) :
    (Builtin.append_ ats ty args).run P w = .ok (.slice (some ⟨w.heap.size, 0, none⟩) (sl + m.toNat) (grownCap w (sl + m.toNat) sc e))
      (w.drew.alloc (.cells (olds ++ Builtin.zeroCells z m.toNat ++ Builtin.zeroCells z (grownCap w (sl + m.toNat) sc e - (sl + m.toNat))) e)) := by
  obtain ⟨ti, t1, t2, t3⟩ := V.info' hei
  have hfits := growslice_fits (need := sl + m.toNat) (old := sc) (bytes := ei.bytes) (by omega) hb
  have hn1 : ¬ (281474976710656 < Builtin.nextslicecap (sl + m.toNat) sc * ei.bytes) := by omega
  have hmax : IntKind.i64.max = 9223372036854775807 := by decide
  have hn2 : ¬ (9223372036854775807 < ((sl + m.toNat : Nat) : Int)) := by omega
  obtain ⟨zv, hz1, hz2⟩ := hz w.drew
  have hold' : Sem.run P (Builtin.firstCells ei.size sl (.slice b sl sc)) { heap := w.heap, tape := w.tape, drawn := w.drawn + 1, os := w.os, output := w.output } = .ok olds w.drew := hold
  have hti : ∀ w : World, (typeInfo e).run P w = .ok ti w := fun w => by simp [typeInfo, t1]
  have hw : IntKind.i64.wrap m = m := by rw [IntKind.wrap_i64]; omega
  have n1 : ¬ m < 0 := by omega
  have n3 : ¬ (281474976710656 < m * (ei.bytes : Int)) := by
    have := Int.ofNat_le.2 hmb
    have e1 : ((m.toNat : Nat) : Int) = m := by omega
    rw [Int.natCast_mul, e1] at this
    omega
  rw [hq] at hzu
  simp only [Builtin.append_, ha0, ha1, hg0, hg1, Sem.run_bind, hund, Result.andThen_ok, run_sizeOfV V hei w, hzu, Sem.run_pure, asInt, asIntOf, hw, n1, n3, hpos, hfit, if_false, Bool.not_true, Bool.false_eq_true, hti, t3, hmax, gt_iff_lt, hn2, false_and, hn1, run_choose, Question.forced, run_askRoom, hold', hz1, hz2, newRow, run_newObj, Nat.reducePow, Int.reducePow, if_true]
  rfl
end

theorem grown_new (S : Sim E Lo w0 ι H w) {nid : Nat} (hf : Free ι H nid) {cs : List AV} {n esz e cap : Nat} {vs rest : Array Value} (hr : Rs ι w (Live Lo ι H) cs vs.toList)
    (hn : cs.length = n * esz) (hcap : n ≤ cap) (hrest : rest.size = (cap - n) * esz) :
    Post E Lo w0 ι H w (.hslice nid 0 n esz n) (.sets [(nid, .cells .live cs)]) (.slice (some ⟨w.heap.size, 0, none⟩) n cap) (w.drew.alloc (.cells (vs ++ rest) e)) := by
  have hl : vs.size = cs.length := by have := hr.length; simpa using this
  have hat : RAt ι w (Live Lo ι H) (vs ++ rest) 0 cs := hr.at (fun i v hv => by
    rw [Array.getElem?_toList] at hv
    have : i < vs.size := (Array.getElem?_eq_some_iff.1 hv).1
    rw [Nat.zero_add, Array.getElem?_append_left this]
    exact hv)
  have N := new_cells S hf (e := e) (f := (0, 0)) (w1 := w.drew) rfl rfl rfl rfl hat (fun k _ hk => absurd hk.2 (Nat.not_lt_zero _))
  refine ⟨_, N.1, N.2.1, N.2.2.1, ?_⟩
  simp only [R]
  refine ⟨w.heap.size, 0, cap, vs ++ rest, e, (0, 0), N.2.2.2.2, rfl, Nat.le_refl _, hcap, N.2.2.2.1, ?_⟩
  rw [Array.size_append, hl, hn, hrest, ← Nat.add_mul]
  have : n + (cap - n) = cap := by omega
  rw [this]; omega
end
end Dv

namespace Dv
open Go Go.RowKit
set_option linter.unusedSimpArgs false
set_option linter.unusedVariables false

section
variable {E : Env} {P : Program} {ι : Inj} {w : World} {L : Nat → Prop} {ts : List AV} {a : Act} {Lo : Nat → Prop} {w0 : World} {H : Hp}

theorem Sim.dr (S : Sim E Lo w0 ι H w) : Sim E Lo w0 ι H w.drew := (S.drew (w' := w.drew) rfl rfl rfl rfl).1
theorem ext_heap {w' : World} (h : w'.heap = w.heap) : Ext w L w' L :=
  ⟨by rw [h]; exact Nat.le_refl _, fun _ _ hn => ⟨by rw [h], hn⟩, fun c cs e f hc => ⟨cs, f, by rw [h]; exact hc, rfl⟩⟩
theorem R.dr {x : AV} {v : Value} (h : R ι w L x v) : R ι w.drew L x v := R.ext (w := w) (w' := w.drew) (ext_heap rfl) _ _ _ _ (Inj.le_refl _) h
theorem Rs.undr {x : List AV} {v : List Value} (h : Rs ι w.drew L x v) : Rs ι w L x v := Rs.ext (w := w.drew) (w' := w) (ext_heap rfl) _ _ _ _ (Inj.le_refl _) h

theorem zeroCells_size (z : Array Value) (n : Nat) : (Builtin.zeroCells z n).size = n * z.size := size_zeroCells z n

theorem zero_all (V : Valid E P) {e : Nat} {ei : TyI} (hei : E.ty e = some ei) {zc : List AV} (hz : ei.zero = some zc) :
    ∃ z : Array Value, z.size = ei.size ∧ ∀ w : World, ∃ zv, (zeroValue e).run P w = .ok zv w ∧ zv.cells = z := by
  obtain ⟨ti, h1, h2, h3, h4⟩ := (V.ty e ei hei).info
  obtain ⟨z, z1, z2, z3, z4, z5⟩ := h4 zc hz
  have := (absL_Rs (ι := noInj) (w := default) (L := fun _ => False) 19 _ _ z2).length
  exact ⟨z.cells, by simp at this; omega, fun w => ⟨z, by simp [zeroValue, typeInfo, h1, z1], rfl⟩⟩

theorem firstCells_run {cb o m esz len cap : Nat} {c : Array Value} {e : TypeId} {f : Nat × Nat} (hc : w.heap[cb]? = some (.cells c e f)) (hle : o + m * esz ≤ c.size) :
    (Builtin.firstCells esz m (.slice (some ⟨cb, o, none⟩) len cap)).run P w = .ok (c.extract o (o + m * esz)) w := by
  have g := run_loadCells_list (P := P) w ⟨cb, o, none⟩ (c.extract o (o + m * esz)).toList (fun j v hj => by
    rw [addr_add, cell_at hc]
    rw [Array.getElem?_toList, Array.getElem?_extract] at hj
    split at hj
    · exact hj
    · cases hj)
  have hl : (c.extract o (o + m * esz)).toList.length = m * esz := by simp; omega
  rw [hl] at g
  simp only [Builtin.firstCells, g]

theorem append_run (V : Valid E P) (S : Sim E Lo w0 ι H w) {nid t u ty : Nat} (hf : Free ι H nid) {ats : Array Nat} {args : Array Value} {vs vx : Value} {ui : TyI}
    (ha0 : ats[0]? = some t) (ha1 : ats[1]? = some u) (hg0 : args[0]? = some vs) (hg1 : args[1]? = some vx) (hu : E.ty u = some ui)
    (hq : ∀ k, ui.und ≠ .int k) {s x v : AV} {st : List (Nat × Blk)}
    (hs : R ι w (Live Lo ι H) s vs) (hx : R ι w (Live Lo ι H) x vx) (h : appendE E H nid false t s x = some (v, st)) :
    ∃ cv w', (Builtin.append_ ats ty args).run P w = .ok cv w' ∧ Post E Lo w0 ι H w v (.sets st) cv w' := by
  unfold appendE at h
  split at h
  case h_2 => cases h
  rename_i e _ _ _ _ _ hi
  have hund : (underlying t).run P w = .ok (.slice e) w := run_underlyingV V hi w
  have hzu : (underlying u).run P w = .ok ui.und w := run_underlyingV V hu w
  split at h
  case h_2 => cases h
  rename_i ei hei
  split at h
  case h_2 => cases h
  rename_i n xs hsrc
  simp only [srcA, Bool.false_eq_true, if_false] at hsrc
  split at hsrc
  case h_2 => cases hsrc
  rename_i n' xs' hlx hsx
  cases hsrc
  obtain ⟨news, x1, x2, x3, x4⟩ := src_cells S hx hlx hsx
  obtain ⟨newd, d1, d2, d3, d4⟩ := src_cells S.dr hx.dr hlx hsx
  have hns : news.size = n * ei.size := by have := x3.length; rw [← x2]; simpa using this
  have hnd : newd.size = n * ei.size := by have := d3.length; rw [← d2]; simpa using this
  have xn := x4 n (Nat.le_refl _)
  rw [← hns, Array.extract_size] at xn
  have dn := d4 n (Nat.le_refl _)
  rw [← hnd, Array.extract_size] at dn
  split at h
  · -- nothing is appended
    rename_i hn0
    subst hn0
    have hn0 : news = #[] := by apply Array.eq_empty_of_size_eq_zero; rw [hns]; simp
    have hval : ∃ b sl sc, vs = .slice b sl sc ∧ sl ≤ sc ∧ (b = none ∨ ∃ ad, b = some ad) := by
      cases s <;> first | (exfalso; revert h; simp; done) | simp only [R] at hs
      · exact ⟨none, 0, 0, hs, Nat.le_refl _, .inl rfl⟩
      · obtain ⟨ad, cap, rfl⟩ := hs; exact ⟨_, _, _, rfl, Nat.zero_le _, .inr ⟨ad, rfl⟩⟩
      · obtain ⟨cb, co, cap, c, e', f, h1, rfl, h3, h4, _⟩ := hs; exact ⟨_, _, _, rfl, by omega, .inr ⟨_, rfl⟩⟩
      · obtain ⟨cb, o, cap, c, e', f, rfl, h3, _⟩ := hs; exact ⟨_, _, _, rfl, by omega, .inr ⟨_, rfl⟩⟩
    obtain ⟨b, sl, sc, rfl, hle, hb⟩ := hval
    have hrun := app_fits (ty := ty) V ha0 ha1 hg0 hg1 hund hei hzu hq x1 xn (by omega)
    refine ⟨.slice b sl sc, w, ?_, ?_⟩
    · rw [hrun]
      subst hn0
      rcases hb with rfl | ⟨ad, rfl⟩
      · simp
      · simp [storeCells]
    · have : v = s ∧ st = [] := by
        cases s <;> first | (exfalso; revert h; simp; done) | (simp only [if_true, Option.some.injEq, Prod.mk.injEq] at h; exact ⟨h.1.symm, h.2.symm⟩)
      rw [this.1, this.2]
      exact Post.pure S hs
  rename_i hn0
  split at h
  · cases h
  rename_i hc0
  simp only [Bool.or_eq_true, decide_eq_true_eq, not_or, Bool.not_eq_true', Bool.not_eq_false] at hc0
  obtain ⟨⟨hsz0, hone⟩, hzn⟩ := hc0
  obtain ⟨zc, hzc⟩ : ∃ zc, ei.zero = some zc := by
    cases hh : ei.zero with
    | none => rw [hh] at hzn; exact absurd rfl hzn
    | some zc => exact ⟨zc, rfl⟩
  obtain ⟨z, hzs, hz⟩ := zero_all V hei hzc
  have d3' := d3.undr
  split at h
  · -- onto nil
    split at h
    case isFalse => cases h
    rename_i hb
    obtain ⟨hb1, hb2⟩ := hb
    cases h
    simp only [R] at hs
    subst hs
    have hold : (Builtin.firstCells ei.size 0 (.slice none 0 0)).run P w.drew = .ok #[] w.drew := by simp [Builtin.firstCells]
    have hrun := app_grows (ty := ty) V ha0 ha1 hg0 hg1 hund hei hzu hq x1 (by omega) (by rw [Nat.zero_add]; exact hb1) (by omega) hz dn hold
    rw [Nat.zero_add] at hrun
    have G := grown_new S hf (e := e) (rest := Builtin.zeroCells z (grownCap w n 0 e - n)) d3' x2 (grownCap_ge w n 0 e) (by rw [zeroCells_size, hzs])
    exact ⟨_, _, by rw [hrun]; simp, G⟩
  · -- onto a slice of the call's own
    rename_i b off len esz kc _
    split at h
    case h_2 => cases h
    rename_i cs hb
    simp only [R] at hs
    obtain ⟨cb, co, cap, c, e', f, h1, rfl, h3, h4, h5, h6⟩ := hs
    obtain ⟨cb', co', o, g1, g2, g3, g4, _⟩ := S.obj b _ hb (by simp [Blk.st])
    rw [h1] at g1; cases g1
    rw [h5] at g2; cases g2
    simp only [ObjR] at g3
    obtain ⟨c2, e2, f2, q1, q2, q3⟩ := g3
    cases q1
    split at h
    · -- there is room, as is known
      rename_i hk
      split at h
      case isFalse => cases h
      rename_i hc
      obtain ⟨hes, hle⟩ := hc
      cases h
      have hrun := app_fits (ty := ty) V ha0 ha1 hg0 hg1 hund hei hzu hq x1 xn (by omega)
      have hm : off + len * esz + xs.length ≤ cs.length := by rw [x2, ← hes, Nat.add_assoc, ← Nat.add_mul]; exact hle
      have T := store_cells (P := P) (xs := xs) (off := off + len * esz) S hb h1 x3 hm (by simpa using hone)
      refine ⟨.slice (some ⟨cb, co + off, none⟩) (len + n) cap, _, ?_, ι, Inj.le_refl _, by rw [eff_set hb]; exact T.2.1, by rw [eff_set hb]; exact T.2.2, ?_⟩
      · rw [hrun]
        simp only [addr_add, ← hes, Nat.add_assoc, Sem.run_bind]
        have := T.1
        rw [show co + (off + len * esz) = co + (off + len * esz) from rfl] at this
        rw [this]
        rfl
      · simp only [R]
        obtain ⟨c', f', k1, k2⟩ := T.2.2.shape cb c e' f h5
        exact ⟨cb, co, cap, c', e', f', h1, rfl, hk, h4, k1, by omega⟩
    · rename_i hk
      split at h
      case isFalse => cases h
      rename_i hc
      obtain ⟨hes, hle, hb1, hb2⟩ := hc
      cases h
      have hcells : Rs ι w (Live Lo ι H) ((cs.drop off).take (len * esz)) (c.extract (co + off) (co + off + len * esz)).toList := by
        have := ((q2.drop off).take (len * esz)).list
        have hlen : ((cs.drop off).take (len * esz)).length = len * esz := by simp; omega
        rwa [hlen] at this
      have hlen : ((cs.drop off).take (len * esz)).length = len * esz := by simp; omega
      by_cases hfit : len + n ≤ cap
      · -- the machine has room
        have hrun := app_fits (ty := ty) V ha0 ha1 hg0 hg1 hund hei hzu hq x1 xn hfit
        have hsp : co + off + len * esz + n * esz ≤ c.size := by
          have : (len + n) * esz ≤ cap * esz := Nat.mul_le_mul_right _ hfit
          rw [Nat.add_mul] at this
          omega
        have hvl : news.toList.length = n * esz := by rw [hes]; simpa using hns
        have hrun2 := run_storeCells_cells (P := P) cb (co + off + len * esz) news.toList 0 w (fun j hj => by
            rw [cell_at h5, Array.getElem?_eq_getElem (show co + off + len * esz + 0 + j < c.size by omega)]
            rfl) (fun j hj => by
            have := q3 trivial (co + off + len * esz + 0 + j) (by omega)
            simp only [World.frozen?, h5]
            simpa using this) (fun v hv => by
            obtain ⟨i, hi'⟩ := List.getElem?_of_mem hv
            have hil : i < xs.length := by have := (List.getElem?_eq_some_iff.1 hi').1; rw [x2, ← hes]; omega
            obtain ⟨v', k1, k2⟩ := x3.get i _ (List.getElem?_eq_getElem hil)
            rw [hi'] at k1; cases k1
            exact oneA_cell k2 (List.all_eq_true.1 (by simpa using hone) _ (List.getElem_mem hil)))
        obtain ⟨c', o1, o2, o3⟩ := setCells_only news.toList w cb (co + off + len * esz) c e' f h5 (by omega)
        have hsh : SameShape (.cells c e' f) (.cells c' e' f) := fun cs e f q => by cases q; exact ⟨c', _, rfl, o2⟩
        have hlive : Live Lo ι H cb := .inr ⟨b, _, co, hb, rfl, h1⟩
        have hx0 := o1.ext (L := Live Lo ι H) (L' := Live Lo ι H) h5 hsh hlive (fun _ h => h)
        have hle' := Inj.le_put (p := (cb, co + off)) hf.1
        have G := S.regrow (cs0 := []) (co' := co + off) (blk' := .cells .live ((cs.drop off).take (len * esz) ++ xs)) hb rfl rfl hf h1 h5 hsh o1 (by
          simp only [ObjR]
          refine ⟨c', e', f, rfl, RAt.of_get fun i y hy => ?_, fun _ => by rw [o2]; exact q3 trivial⟩
          rw [o3]
          rw [List.getElem?_append] at hy
          rw [hlen] at hy
          by_cases h8 : i < len * esz
          · rw [if_pos h8] at hy
            rw [if_neg (by omega)]
            obtain ⟨v, k1, k2⟩ := ((q2.drop off).take (len * esz)).get i y hy
            exact ⟨v, k1, R.ext hx0 _ _ _ _ hle' k2⟩
          · rw [if_neg h8] at hy
            have hil := (List.getElem?_eq_some_iff.1 hy).1
            rw [if_pos (by rw [hvl]; rw [x2, ← hes] at hil; omega)]
            obtain ⟨v, k1, k2⟩ := x3.get _ y hy
            exact ⟨v, by rw [← k1]; congr 1; omega, R.ext hx0 _ _ _ _ hle' k2⟩) (by simp)
        have happ : (Eff.sets [(b, .cells .dead []), (nid, .cells .live ((cs.drop off).take (len * esz) ++ xs))]).app H = putB (H.set b (.cells .dead [])) nid (.cells .live ((cs.drop off).take (len * esz) ++ xs)) := by
          have hlt := (List.getElem?_eq_some_iff.1 hb).1
          simp [Eff.app, putB, hlt]
        refine ⟨.slice (some ⟨cb, co + off, none⟩) (len + n) cap, _, ?_, _, hle', by rw [happ]; exact G.1, by rw [happ]; exact G.2, ?_⟩
        · rw [hrun]
          simp only [addr_add, ← hes, Sem.run_bind, Nat.add_assoc] at hrun2 ⊢
          have := hrun2
          rw [this]
          rfl
        · simp only [R]
          exact ⟨cb, co + off, cap, c', e', f, by simp [Inj.put], by simp, Nat.le_refl _, hfit, o1.here, by rw [o2]; omega⟩
      · -- the machine lays a new block
        have hold : (Builtin.firstCells ei.size len (.slice (some ⟨cb, co + off, none⟩) len cap)).run P w.drew = .ok (c.extract (co + off) (co + off + len * esz)) w.drew := by
          rw [← hes]
          exact firstCells_run (w := w.drew) h5 (by
            have : len * esz ≤ cap * esz := Nat.mul_le_mul_right _ (by omega)
            omega)
        have hrun := app_grows (ty := ty) V ha0 ha1 hg0 hg1 hund hei hzu hq x1 hfit hb1 (by omega) hz dn hold
        have K := S.kill (b := b) [] (by simp)
        have hf' : Free ι (H.set b (.cells .dead [])) nid := by
          refine ⟨hf.1, ?_⟩
          rcases hf.2 with q | q
          · exact .inl (by simpa using q)
          · refine .inr ?_
            have hbn : b ≠ nid := fun e => by subst e; rw [hf.1] at h1; cases h1
            rw [List.getElem?_set, if_neg hbn]; exact q
        have hall : Rs ι w (Live Lo ι (H.set b (.cells .dead []))) ((cs.drop off).take (len * esz) ++ xs) (c.extract (co + off) (co + off + len * esz) ++ newd).toList := by
          rw [Array.toList_append]
          exact (Rs.ext K.2 _ _ _ _ (Inj.le_refl _) hcells).append (Rs.ext K.2 _ _ _ _ (Inj.le_refl _) d3')
        have G := grown_new K.1 hf' (e := e) (n := len + n) (esz := esz) (rest := Builtin.zeroCells z (grownCap w (len + n) cap e - (len + n))) hall
          (by rw [List.length_append, hlen, x2, ← hes, Nat.add_mul]) (grownCap_ge w (len + n) cap e) (by rw [zeroCells_size, hzs, hes])
        obtain ⟨ι', p1, p2, p3, p4⟩ := G
        have happ : (Eff.sets [(b, .cells .dead []), (nid, .cells .live ((cs.drop off).take (len * esz) ++ xs))]).app H = (Eff.sets [(nid, .cells .live ((cs.drop off).take (len * esz) ++ xs))]).app (H.set b (.cells .dead [])) := by
          have hlt := (List.getElem?_eq_some_iff.1 hb).1
          simp [Eff.app, putB, hlt]
        refine ⟨_, _, hrun, ι', p1, by rw [happ]; exact p2, by rw [happ]; exact K.2.trans p3, by rw [happ]; exact p4⟩
  · cases h
end
end Dv

namespace Dv
open Go Go.RowKit
set_option linter.unusedSimpArgs false
set_option linter.unusedVariables false

section
variable {E : Env} {P : Program} {ι : Inj} {w : World} {L : Nat → Prop} {ts : List AV} {a : Act} {Lo : Nat → Prop} {w0 : World} {H : Hp}

theorem copy_run (V : Valid E P) (S : Sim E Lo w0 ι H w) {t ty : Nat} {ats : Array Nat} {args : Array Value} {vd vx : Value} {d x v : AV} {st : List (Nat × Blk)}
    (ha0 : ats[0]? = some t) (hg0 : args[0]? = some vd) (hg1 : args[1]? = some vx) (hd : R ι w (Live Lo ι H) d vd) (hx : R ι w (Live Lo ι H) x vx) (h : copyE E H t d x = some (v, st)) :
    ∃ cv w', (Builtin.copy_ ats ty args).run P w = .ok cv w' ∧ Post E Lo w0 ι H w v (.sets st) cv w' := by
  unfold copyE at h
  split at h
  case h_2 => cases h
  rename_i e _ _ _ _ _ hi
  have hund : (underlying t).run P w = .ok (.slice e) w := run_underlyingV V hi w
  split at h
  case h_2 => cases h
  rename_i ei hei
  split at h
  case h_2 => cases h
  rename_i dn xn xs hld hlx hsx
  obtain ⟨news, x1, x2, x3, x4⟩ := src_cells (P := P) S hx hlx hsx
  have hns : news.size = xn * ei.size := by have := x3.length; rw [← x2]; simpa using this
  have xm := x4 (min xn dn) (Nat.min_le_left _ _)
  simp only at h
  split at h
  · rename_i hm0
    rw [hm0] at xm
    simp only [Nat.zero_mul] at xm
    have hval : ∃ b sc, vd = .slice b dn sc := by
      cases d <;> first | (exfalso; revert h; simp; done) | simp only [R] at hd
      · simp only [lenE, Option.some.injEq] at hld; subst hld; exact ⟨none, 0, hd⟩
      · simp only [lenE, Option.some.injEq] at hld; subst hld; obtain ⟨ad, cap, rfl⟩ := hd; exact ⟨_, _, rfl⟩
      · simp only [lenE, Option.some.injEq] at hld; subst hld; obtain ⟨cb, co, cap, c, e', f, h1, rfl, h3, h4, _⟩ := hd; exact ⟨_, _, rfl⟩
    obtain ⟨b, sc, rfl⟩ := hval
    have hv : v = .int .i64 0 ∧ st = [] := by
      cases d <;> first | (exfalso; revert h; simp; done) | (simp only [Option.some.injEq, Prod.mk.injEq] at h; exact ⟨h.1.symm, h.2.symm⟩)
    obtain ⟨rfl, rfl⟩ := hv
    refine ⟨.int .i64 0, w, ?_, Post.pure S (by simp [R])⟩
    have e1 : news.extract 0 0 = #[] := by simp
    have hmin : Nat.min xn dn = 0 := hm0
    rw [e1] at xm
    simp only [Builtin.copy_, ha0, hg0, hg1, Sem.run_bind, hund, Result.andThen_ok, x1, run_sizeOfV V hei w, hmin, xm]
    cases b <;> simp [storeCells, goInt]
  · rename_i hm0
    split at h
    case h_2 => cases h
    rename_i b off dl esz kc
    split at h
    case h_2 => cases h
    rename_i cs hb
    split at h
    case isFalse => cases h
    rename_i hc
    obtain ⟨hes, hle, hone⟩ := hc
    cases h
    simp only [lenE, Option.some.injEq] at hld
    subst hld
    simp only [R] at hd
    obtain ⟨cb, co, cap, c, e', f, h1, rfl, h3, h4, h5, h6⟩ := hd
    have hlt : (xs.take (min xn dl * esz)).length = min xn dl * esz := by
      rw [List.length_take, x2, ← hes]
      exact Nat.min_eq_left (Nat.mul_le_mul_right _ (Nat.min_le_left _ _))
    have hcells : Rs ι w (Live Lo ι H) (xs.take (min xn dl * esz)) (news.extract 0 (min xn dl * ei.size)).toList := by
      have := x3.take (min xn dl * esz)
      rw [Array.toList_extract, List.extract_eq_take_drop]
      simpa [hes] using this
    have T := store_cells (P := P) (xs := xs.take (min xn dl * esz)) (off := off) S hb h1 hcells (by rw [hlt]; exact hle) (by
      rw [List.all_eq_true] at hone ⊢
      exact fun y hy => hone y (List.mem_of_mem_take hy))
    refine ⟨.int .i64 (min xn dl : Nat), _, ?_, ι, Inj.le_refl _, by rw [eff_set hb]; exact T.2.1, by rw [eff_set hb]; exact T.2.2, by simp [R]⟩
    have hmin : Nat.min xn dl = min xn dl := rfl
    simp only [Builtin.copy_, ha0, hg0, hg1, Sem.run_bind, hund, Result.andThen_ok, x1, run_sizeOfV V hei w, hmin, xm, T.1, Sem.run_pure, goInt]

/-! ### maps -/
theorem sameAV_eq : ∀ (n : Nat) (x y : AV), sameAV n x y = true → x = y
  | n, x, y, h => by
    unfold sameAV at h
    split at h
    · simp at h; rw [h]
    · simp at h; rw [h.1, h.2]
    · simp at h; rw [h]
    · rename_i n xs ys
      simp only [Bool.and_eq_true, beq_iff_eq] at h
      obtain ⟨h1, h2⟩ := h
      congr 1
      apply List.ext_getElem h1
      intro i hi hj
      rw [List.all_eq_true] at h2
      have := h2 (xs[i], ys[i]) (by
        rw [List.mem_iff_getElem]
        exact ⟨i, by simp; omega, by simp⟩)
      exact sameAV_eq n _ _ this
    · cases h

theorem checkKey_run (V : Valid E P) (em : Bool) : ∀ (n m d t : Nat) (k : AV) (vk : Value), n ≤ d → plainKey E n t = true → R ι w L k vk → eqE E m t k k = some true →
    (Instr.checkKey em d t vk).run P w = .ok () w
  | 0, _, _, _, _, _, _, h, _, _ => by simp [plainKey] at h
  | n + 1, m, d, t, k, vk, hd, hp, hr, he => by
    obtain ⟨d, rfl⟩ : ∃ q, d = q + 1 := ⟨d - 1, by omega⟩
    cases m with
    | zero => simp [eqE] at he
    | succ m =>
    unfold plainKey at hp
    cases hi : E.ty t with
    | none => simp [hi] at hp
    | some i =>
      simp only [hi] at hp
      have hu := (V.ty t i hi).und
      unfold eqE at he
      simp only [hi] at he
      cases hund : i.und <;> simp only [hund] at hp he hu <;> first | (exfalso; revert hp; simp; done) | skip
      case bool => simp [Instr.checkKey, run_underlying hu]
      case int => simp [Instr.checkKey, run_underlying hu]
      case string => simp [Instr.checkKey, run_underlying hu]
      case array len elem =>
        cases k <;> first | (exfalso; revert he; simp; done) | skip
        rename_i xs
        simp only [R] at hr
        obtain ⟨vs, rfl, hr⟩ := hr
        cases hei : E.ty elem with
        | none => simp [hei] at he
        | some ei =>
          simp only [hei] at he
          simp only [Instr.checkKey, Sem.run_bind, run_underlying hu, Result.andThen_ok]
          simp only [Std.Legacy.Range.forIn_eq_forIn_range', Std.Legacy.Range.size, Nat.sub_zero, Nat.add_one_sub_one, Nat.div_one]
          have loop : ∀ (c i : Nat), eqElems E (eqE E m) elem ei.size xs xs c i = some true →
              (forIn (List.range' i c) PUnit.unit fun i r => (do
                let a ← Go.sizeOf elem
                let b ← part elem vs (i * a)
                Instr.checkKey em d elem b
                pure (ForInStep.yield PUnit.unit) : Sem (ForInStep PUnit))).run P w = .ok PUnit.unit w := by
            intro c
            induction c with
            | zero => intro i _; simp
            | succ c ih =>
              intro i h
              unfold eqElems at h
              cases h1 : partE E elem xs (i * ei.size) with
              | none => simp [h1] at h
              | some a =>
                simp only [h1] at h
                obtain ⟨va, p1, r1⟩ := part_run V hr h1
                cases h3 : eqE E m elem a a with
                | none => simp [h3] at h
                | some r =>
                  simp only [h3] at h
                  cases r with
                  | false => simp at h
                  | true =>
                    simp only at h
                    have := checkKey_run V em n m d elem a va (by omega) hp r1 h3
                    rw [List.range'_succ]
                    simp only [List.forIn_cons, Sem.run_bind, run_sizeOfV V hei w, Result.andThen_ok, p1, this, Sem.run_pure]
                    exact ih (i + 1) h
          have := loop len 0 he
          simp at this ⊢
          simp [this]
      case struct fs =>
        cases k <;> first | (exfalso; revert he; simp; done) | skip
        rename_i xs
        simp only [R] at hr
        obtain ⟨vs, rfl, hr⟩ := hr
        simp only [Bool.and_eq_true, List.all_eq_true] at hp
        simp only [hp.1, Bool.not_true, Bool.false_eq_true, if_false] at he
        simp only [Instr.checkKey, Sem.run_bind, run_underlying hu, Result.andThen_ok]
        rw [← Array.forIn_toList]
        have loop : ∀ (l : List Field), (∀ f ∈ l, plainKey E n f.type = true) → eqFields E (eqE E m) xs xs l = some true →
            (forIn l PUnit.unit fun f r => (do
              if f.name ≠ "_" then do
                let b ← part f.type vs f.offset
                Instr.checkKey em d f.type b
                pure (ForInStep.yield PUnit.unit)
              else pure (ForInStep.yield PUnit.unit) : Sem (ForInStep PUnit))).run P w = .ok PUnit.unit w := by
          intro l
          induction l with
          | nil => intro _ _; simp
          | cons f l ih =>
            intro hpl h
            unfold eqFields at h
            split at h
            · cases h
            rename_i hname
            cases h1 : partE E f.type xs f.offset with
            | none => simp [h1] at h
            | some a =>
              simp only [h1] at h
              obtain ⟨va, p1, r1⟩ := part_run V hr h1
              cases h3 : eqE E m f.type a a with
              | none => simp [h3] at h
              | some r =>
                simp only [h3] at h
                cases r with
                | false => simp at h
                | true =>
                  simp only at h
                  have := checkKey_run V em n m d f.type a va (by omega) (hpl f (by simp)) r1 h3
                  simp only [List.forIn_cons, Sem.run_bind, ne_eq, hname, not_false_eq_true, if_true, Result.andThen_ok, p1, this, Sem.run_pure]
                  exact ih (fun g hg => hpl g (by simp [hg])) h
        have := loop fs.toList (fun f hf => hp.2 f hf) he
        simp at this ⊢
        simp [this]

theorem sameNow_run (V : Valid E P) {kt : Nat} {i : TyI} (hi : E.ty kt = some i) {k x : Value} {b : Bool} (h : Instr.sameNow i.und k x = some b) (d : Nat) :
    (Op.equalIn (d + 1) kt k x).run P w = .ok b w := by
  have hu := (V.ty kt i hi).und
  unfold Instr.sameNow at h
  split at h
  · rename_i k1 k2 a k3 c hund
    rw [hund] at hu
    split at h
    · rename_i hk; cases h; simp [Op.equalIn, run_underlying hu, hk]
    · cases h
  · rename_i a c hund; rw [hund] at hu; cases h; simp [Op.equalIn, run_underlying hu]
  · rename_i a c hund; rw [hund] at hu; cases h; simp [Op.equalIn, run_underlying hu]
  · cases h

theorem findNow_run (V : Valid E P) {kt : Nat} {i : TyI} (hi : E.ty kt = some i) {k : Value} : ∀ (es : List MapEntry) (j : Nat) (r : Option (Nat × Value)), Instr.findNow i.und k es j = some r →
    (Instr.findAsking kt k es j).run P w = .ok r w
  | [], j, r, h => by simp [Instr.findNow] at h; subst h; simp [Instr.findAsking]
  | e :: es, j, r, h => by
    unfold Instr.findNow at h
    split at h
    · rename_i hs; cases h
      have := sameNow_run (w := w) V hi hs 9999
      simp [Instr.findAsking, Op.equal, Op.maxDepth, this]
    · rename_i hs
      have := sameNow_run (w := w) V hi hs 9999
      simp [Instr.findAsking, Op.equal, Op.maxDepth, this]
      exact findNow_run V hi es (j + 1) r h
    · cases h

def FoundR (ι : Inj) (w : World) (L : Nat → Prop) (j n : Nat) : Option (Nat × AV) → Option (Nat × Value) → Prop
  | none, none => True
  | some (i, v), some (i', v') => i = i' ∧ R ι w L v v' ∧ j ≤ i ∧ i - j < n
  | _, _ => False

theorem findE_run (V : Valid E P) {kt : Nat} {k : AV} {vk : Value} (hk : R ι w L k vk) : ∀ (ks vs : List AV) (es : List MapEntry) (j : Nat) (r : Option (Nat × AV)),
    Rs ι w L ks (es.map (·.key)) → Rs ι w L vs (es.map (·.val)) → findE (keyNow E kt) k ks vs j = some r →
    ∃ r', (Instr.findAsking kt vk es j).run P w = .ok r' w ∧ FoundR ι w L j es.length r r'
  | [], [], es, j, r, h1, h2, h => by
    simp only [Rs, List.map_eq_nil_iff] at h1
    subst h1
    simp [findE] at h; subst h
    exact ⟨none, by simp [Instr.findAsking], trivial⟩
  | [], _ :: _, es, j, r, h1, h2, h => by simp [findE] at h
  | _ :: _, [], es, j, r, h1, h2, h => by simp [findE] at h
  | x :: ks, y :: vs, [], j, r, h1, h2, h => by simp [Rs] at h1
  | x :: ks, y :: vs, e :: es, j, r, h1, h2, h => by
    simp only [Rs, List.map_cons, List.cons.injEq] at h1 h2
    obtain ⟨kx, kxs, ⟨e1, e2⟩, rx, rxs⟩ := h1
    obtain ⟨vy, vys, ⟨e3, e4⟩, ry, rys⟩ := h2
    subst e1; subst e3; subst e2; subst e4
    unfold findE at h
    cases hq : keyNow E kt k x with
    | none => simp [hq] at h
    | some b =>
      simp only [hq] at h
      have he := eqE_run V 20 10000 kt k x vk e.key b (by omega) hk rx hq
      cases b with
      | true =>
        simp only [Option.some.injEq] at h; subst h
        exact ⟨some (j, e.val), by simp [Instr.findAsking, Op.equal, Op.maxDepth, he], rfl, ry, Nat.le_refl _, by simp⟩
      | false =>
        simp only at h
        obtain ⟨r', g1, g2⟩ := findE_run V hk ks vs es (j + 1) r rxs rys h
        refine ⟨r', by simp [Instr.findAsking, Op.equal, Op.maxDepth, he]; exact g1, ?_⟩
        cases r with
        | none => cases r' with
          | none => trivial
          | some p => exact g2.elim
        | some p => cases r' with
          | none => exact g2.elim
          | some p' => obtain ⟨q1, q2, q3, q4⟩ := g2; exact ⟨q1, q2, by omega, by simp; omega⟩

theorem findKey_run (V : Valid E P) {kt : Nat} {i : TyI} (hi : E.ty kt = some i) {k : AV} {vk : Value} (hk : R ι w L k vk) {ks vs : List AV} {es : List MapEntry} {r : Option (Nat × AV)}
    (h1 : Rs ι w L ks (es.map (·.key))) (h2 : Rs ι w L vs (es.map (·.val))) (h : findE (keyNow E kt) k ks vs 0 = some r) :
    ∃ r', (Instr.findKey kt vk es).run P w = .ok r' w ∧ FoundR ι w L 0 es.length r r' := by
  obtain ⟨r', g1, g2⟩ := findE_run V hk ks vs es 0 r h1 h2 h
  refine ⟨r', ?_, g2⟩
  unfold Instr.findKey
  simp only [Sem.run_bind, run_underlyingV V hi w, Result.andThen_ok]
  cases hn : Instr.findNow i.und vk es 0 with
  | none => simpa using g1
  | some q =>
    have := findNow_run (w := w) V hi es 0 q hn
    rw [this] at g1
    simp only [Sem.run_pure]
    exact g1

theorem mapE_R (S : Sim E Lo w0 ι H w) {m : AV} {vm : Value} {ks vs : List AV} (hm : R ι w (Live Lo ι H) m vm) (h : mapE H m = some (ks, vs)) :
    (vm = .map none ∧ ks = [] ∧ vs = []) ∨ ∃ cb es clock, vm = .map (some cb) ∧ w.heap[cb]? = some (.map es clock) ∧
      Rs ι w (Live Lo ι H) ks (es.toList.map (·.key)) ∧ Rs ι w (Live Lo ι H) vs (es.toList.map (·.val)) := by
  unfold mapE at h
  split at h
  · cases h; simp only [R] at hm; exact .inl ⟨hm, rfl, rfl⟩
  · cases h
    simp only [R] at hm
    obtain ⟨cb, es, clock, rfl, h2, h3, h4, h5⟩ := hm
    exact .inr ⟨cb, es, clock, rfl, h2, Rs.ext (Ext.refl _ _) _ _ _ _ (noInj_le _) h4, Rs.ext (Ext.refl _ _) _ _ _ _ (noInj_le _) h5⟩
  · rename_i b
    split at h
    case h_2 => cases h
    rename_i st ks' vs' hb
    split at h
    · cases h
    rename_i hst
    cases h
    simp only [R] at hm
    obtain ⟨cb, co, h1, rfl⟩ := hm
    obtain ⟨cb', co', o, g1, g2, g3, _⟩ := S.obj b _ hb hst
    rw [h1] at g1; cases g1
    simp only [ObjR] at g3
    obtain ⟨es, clock, rfl, g4, g5, _⟩ := g3
    exact .inr ⟨cb, es, clock, rfl, g2, g4, g5⟩
  · cases h

theorem run_getObj {cb : Nat} {es : Array MapEntry} {clock : Nat} (h : w.heap[cb]? = some (.map es clock)) : (getObj cb).run P w = .ok (.map es clock) w := by
  simp [getObj, Sem.run, h]

theorem lookup_run (V : Valid E P) (S : Sim E Lo w0 ι H w) {t : Nat} {m k av : AV} {vm vk : Value} {ok : Bool} (hm : R ι w (Live Lo ι H) m vm) (hk : R ι w (Live Lo ι H) k vk)
    (h : lookupE E H t m k ok = some av) : ∃ cv, (Instr.lookup t vm vk ok).run P w = .ok cv w ∧ R ι w (Live Lo ι H) av cv := by
  unfold lookupE at h
  split at h
  case h_2 => cases h
  rename_i kt et _ _ _ _ _ hi
  have hu := run_underlyingV V hi w
  split at h
  case h_2 => cases h
  rename_i ks vs hmp
  split at h
  · cases h
  rename_i hpk
  simp only [Bool.or_eq_true, Bool.not_eq_true', bne_iff_ne, ne_eq, not_or, Bool.not_eq_false, Decidable.not_not] at hpk
  obtain ⟨hp1, hp2⟩ := hpk
  have hkt : ∃ ki, E.ty kt = some ki := by
    unfold plainKey at hp1
    cases hh : E.ty kt with
    | none => simp [hh] at hp1
    | some ki => exact ⟨ki, rfl⟩
  obtain ⟨ki, hki⟩ := hkt
  have chk : ∀ em, (Instr.checkKey em 10000 kt vk).run P w = .ok () w := fun em => checkKey_run V em 20 20 10000 kt k vk (by omega) hp1 hk hp2
  have ent : ∃ es : Array MapEntry, (vm = .map none ∧ es = #[] ∨ ∃ cb clock, vm = .map (some cb) ∧ w.heap[cb]? = some (.map es clock)) ∧
      Rs ι w (Live Lo ι H) ks (es.toList.map (·.key)) ∧ Rs ι w (Live Lo ι H) vs (es.toList.map (·.val)) := by
    rcases mapE_R S hm hmp with ⟨rfl, rfl, rfl⟩ | ⟨cb, es, clock, rfl, h2, h3, h4⟩
    · exact ⟨#[], .inl ⟨rfl, rfl⟩, by simp [Rs], by simp [Rs]⟩
    · exact ⟨es, .inr ⟨cb, clock, rfl, h2⟩, h3, h4⟩
  obtain ⟨es, e1, e2, e3⟩ := ent
  split at h
  · rename_i j v hf
    cases h
    obtain ⟨r', g1, g2⟩ := findKey_run V hki hk e2 e3 hf
    cases r' with
    | none => exact g2.elim
    | some p =>
      obtain ⟨_, q2, _⟩ := g2
      refine ⟨if ok then .tuple #[p.2, .bool true] else p.2, ?_, ?_⟩
      · unfold Instr.lookup
        rcases e1 with ⟨rfl, rfl⟩ | ⟨cb, clock, rfl, q⟩
        · simp only [Sem.run_bind, hu, Result.andThen_ok, Sem.run_pure, chk, g1]
        · simp only [Sem.run_bind, hu, Result.andThen_ok, run_getObj q, Sem.run_pure, chk, g1]
      · cases ok
        · simpa using q2
        · simp only [if_true, R]
          exact ⟨_, rfl, by simp [Rs, q2, R]⟩
  · rename_i hf
    rw [Option.map_eq_some_iff] at h
    obtain ⟨z, hz, rfl⟩ := h
    obtain ⟨zv, z1, z2⟩ := zeroE_run V hz ι w (Live Lo ι H)
    obtain ⟨r', g1, g2⟩ := findKey_run V hki hk e2 e3 hf
    cases r' with
    | some p => exact g2.elim
    | none =>
      refine ⟨if ok then .tuple #[zv, .bool false] else zv, ?_, ?_⟩
      · unfold Instr.lookup
        rcases e1 with ⟨rfl, rfl⟩ | ⟨cb, clock, rfl, q⟩
        · simp only [Sem.run_bind, hu, Result.andThen_ok, Sem.run_pure, chk, g1, z1]
        · simp only [Sem.run_bind, hu, Result.andThen_ok, run_getObj q, Sem.run_pure, chk, g1, z1]
      · cases ok
        · simpa using z2
        · simp only [if_true, R]
          exact ⟨_, rfl, by simp [Rs, z2, R]⟩
  · cases h
end
end Dv

namespace Dv
open Go Go.RowKit
set_option linter.unusedSimpArgs false
set_option linter.unusedVariables false

section
variable {E : Env} {P : Program} {ι : Inj} {w : World} {L : Nat → Prop} {ts : List AV} {a : Act} {Lo : Nat → Prop} {w0 : World} {H : Hp}

def setOb (w : World) (r : Nat) (o : Obj) : World := { w with heap := w.heap.setIfInBounds r o }

theorem run_setObj {r : Nat} {o : Obj} (h : ∃ ob, w.heap[r]? = some ob ∧ ∀ c e f, ob ≠ .cells c e f) : (setObj r o).run P w = .ok () (setOb w r o) := by
  obtain ⟨ob, h1, h2⟩ := h
  cases ob <;> first | (exact absurd rfl (h2 _ _ _)) | simp [setObj, Sem.run, h1, setOb]

theorem setOb_only {w1 : World} {r : Nat} {o ob : Obj} (hh : w1.heap = w.heap) (hos : w1.os = w.os) (htp : w1.tape = w.tape) (hout : w1.output = w.output) (h : w.heap[r]? = some ob) :
    Only w (setOb w1 r o) r o := by
  have hlt := lt_size_of_get h
  refine ⟨hos, htp, hout, by simp [setOb, hh], ?_, fun c hc => ?_⟩
  · simp [setOb, hh, hlt]
  · simp only [setOb, hh]
    rw [Array.getElem?_setIfInBounds_ne (fun e => hc e.symm)]

theorem keyThatStays_run (old new : Value) (w : World) : ∃ key' w1, (Instr.keyThatStays old new).run P w = .ok key' w1 ∧ (key' = old ∨ key' = new) ∧ w1.heap = w.heap ∧ w1.os = w.os ∧ w1.tape = w.tape ∧ w1.output = w.output := by
  unfold Instr.keyThatStays
  split
  · exact ⟨new, w, rfl, .inr rfl, rfl, rfl, rfl, rfl⟩
  · simp only [Sem.run_bind, run_choose]
    split
    · exact ⟨new, w, rfl, .inr rfl, rfl, rfl, rfl, rfl⟩
    · simp only [Result.andThen_ok, Sem.run_pure]
      refine ⟨_, _, rfl, ?_, rfl, rfl, rfl, rfl⟩
      split
      · exact .inr rfl
      · exact .inl rfl

theorem WfM.modify {es : Array MapEntry} {clock : Nat} (h : WfM es clock) (j : Nat) {key val : Value} : WfM (es.modify j fun e => { e with key := key, val := val }) clock := by
  have hb : (es.modify j fun e => { e with key := key, val := val }).toList.map (·.born) = es.toList.map (·.born) := by
    refine List.ext_getElem? fun i => ?_
    rw [List.getElem?_map, List.getElem?_map, Array.getElem?_toList, Array.getElem?_toList, Array.getElem?_modify]
    split
    · cases es[i]? <;> rfl
    · rfl
  refine ⟨fun x hx => ?_, by rw [hb]; exact h.2⟩
  have : x.born ∈ (es.modify j fun e => { e with key := key, val := val }).toList.map (·.born) := List.mem_map.2 ⟨x, hx, rfl⟩
  rw [hb] at this
  obtain ⟨y, h1, h2⟩ := List.mem_map.1 this
  rw [← h2]; exact h.1 y h1

theorem WfM.push {es : Array MapEntry} {clock : Nat} (h : WfM es clock) (key val : Value) : WfM (es.push { key := key, val := val, born := clock }) (clock + 1) := by
  refine ⟨fun x hx => ?_, ?_⟩
  · simp only [Array.toList_push, List.mem_append, List.mem_singleton] at hx
    rcases hx with hx | rfl
    · have := h.1 x hx; omega
    · simp
  · simp only [Array.toList_push, List.map_append, List.map_cons, List.map_nil]
    refine List.nodup_append.2 ⟨h.2, by simp, fun a ha b hb => ?_⟩
    simp only [List.mem_singleton] at hb
    subst hb
    obtain ⟨y, h1, rfl⟩ := List.mem_map.1 ha
    have := h.1 y h1; omega

theorem mapUpdate_run (V : Valid E P) (S : Sim E Lo w0 ι H w) {t : Nat} {m k x : AV} {vm vk vx : Value} {st : List (Nat × Blk)} (hm : R ι w (Live Lo ι H) m vm) (hk : R ι w (Live Lo ι H) k vk)
    (hx : R ι w (Live Lo ι H) x vx) (h : mapUpdateE E H t m k x = some st) : ∃ w', (Instr.mapUpdate t vm vk vx).run P w = .ok () w' ∧ Post E Lo w0 ι H w undefV (.sets st) undef w' := by
  unfold mapUpdateE at h
  split at h
  case h_2 => cases h
  rename_i kt et _ _ _ _ _ b hi
  have hu := run_underlyingV V hi w
  split at h
  case h_2 => cases h
  rename_i ks vs hb
  split at h
  · cases h
  rename_i hpk
  have hp1 : plainKey E 20 kt = true := by simpa using hpk
  have hkt : ∃ ki, E.ty kt = some ki := by
    have hp1' := hp1
    unfold plainKey at hp1'
    cases hh : E.ty kt with
    | none => simp [hh] at hp1'
    | some ki => exact ⟨ki, rfl⟩
  obtain ⟨ki, hki⟩ := hkt
  simp only [R] at hm
  obtain ⟨cb, co, h1, rfl⟩ := hm
  obtain ⟨cb', co', o, g1, g2, g3, g4, _⟩ := S.obj b _ hb (by simp [Blk.st])
  rw [h1] at g1; cases g1
  simp only [ObjR] at g3
  obtain ⟨es, clock, rfl, g5, g6, g7⟩ := g3
  have g7 : WfM es clock := by simpa using g7
  have hlive : Live Lo ι H cb := .inr ⟨b, _, co, hb, rfl, h1⟩
  have hnc : ∃ ob, w.heap[cb]? = some ob ∧ ∀ c e f, ob ≠ .cells c e f := ⟨_, g2, fun _ _ _ q => by cases q⟩
  split at h
  · -- the key is there
    rename_i j y hself hf
    have chk := checkKey_run (w := w) V false 20 20 10000 kt k vk (by omega) hp1 hk hself
    split at h
    case h_2 => cases h
    rename_i k0 hk0
    split at h
    case isFalse => cases h
    rename_i hsame
    cases h
    have hkk := sameAV_eq 20 k0 k hsame
    subst hkk
    obtain ⟨r', q1, q2⟩ := findKey_run V hki hk g5 g6 hf
    cases r' with
    | none => exact q2.elim
    | some p =>
      obtain ⟨i', v'⟩ := p
      obtain ⟨rfl, q3, q4, q5⟩ := q2
      simp only [Nat.sub_zero, Array.length_toList] at q5
      obtain ⟨key', w1, s1, s2, s3, s4, s5, s6⟩ := keyThatStays_run (P := P) (((es[j]?).map (·.key)).getD vk) vk w
      have hO := setOb_only (w := w) (w1 := w1) (o := .map (es.modify j fun e => { e with key := key', val := vx }) clock) s3 s4 s5 s6 g2
      have hsh : SameShape (.map es clock) (.map (es.modify j fun e => { e with key := key', val := vx }) clock) := fun _ _ _ q => by cases q
      have hx0 := hO.ext (L := Live Lo ι H) (L' := Live Lo ι H) g2 hsh hlive (fun _ h => h)
      have hkey' : R ι w (Live Lo ι H) k0 key' := by
        rcases s2 with rfl | rfl
        · obtain ⟨kv, k1, k2⟩ := g5.get j k0 hk0
          rw [List.getElem?_map, Option.map_eq_some_iff] at k1
          obtain ⟨en, k3, rfl⟩ := k1
          rw [Array.getElem?_toList] at k3
          simp only [k3, Option.map_some, Option.getD_some]
          exact k2
        · exact hk
      have hlen : es.size = ks.length := by have := g5.length; simpa using this
      have hlen2 : es.size = vs.length := by have := g6.length; simpa using this
      have U := S.update (blk' := .map .live ks (vs.set j x)) hb rfl rfl h1 g2 hsh hO (by
        simp only [ObjR]
        refine ⟨_, clock, rfl, ?_, ?_, fun _ => WfM.modify (g7) _⟩
        · refine Rs.of_get (by simp [hlen]) fun i z hz => ?_
          obtain ⟨kv, k1, k2⟩ := g5.get i z hz
          rw [List.getElem?_map, Option.map_eq_some_iff] at k1
          obtain ⟨en, k3, rfl⟩ := k1
          rw [Array.getElem?_toList] at k3
          rw [List.getElem?_map, Array.getElem?_toList, Array.getElem?_modify]
          by_cases hij : j = i
          · subst hij
            rw [hk0] at hz; cases hz
            simp only [if_true, k3, Option.map_some]
            exact ⟨key', rfl, R.ext hx0 _ _ _ _ (Inj.le_refl _) hkey'⟩
          · rw [if_neg hij, k3]
            exact ⟨en.key, rfl, R.ext hx0 _ _ _ _ (Inj.le_refl _) k2⟩
        · refine Rs.of_get (by simp [hlen2]) fun i z hz => ?_
          rw [List.getElem?_map, Array.getElem?_toList, Array.getElem?_modify]
          rw [List.getElem?_set] at hz
          by_cases hij : j = i
          · subst hij
            rw [if_pos rfl, if_pos (by omega)] at hz; cases hz
            obtain ⟨en, hen⟩ : ∃ en, es[j]? = some en := ⟨es[j], Array.getElem?_eq_getElem (by omega)⟩
            simp only [if_true, hen, Option.map_some]
            exact ⟨vx, rfl, R.ext hx0 _ _ _ _ (Inj.le_refl _) hx⟩
          · rw [if_neg hij] at hz
            obtain ⟨kv, k1, k2⟩ := g6.get i z hz
            rw [List.getElem?_map, Option.map_eq_some_iff] at k1
            obtain ⟨en, k3, rfl⟩ := k1
            rw [Array.getElem?_toList] at k3
            rw [if_neg hij, k3]
            exact ⟨en.val, rfl, R.ext hx0 _ _ _ _ (Inj.le_refl _) k2⟩)
      refine ⟨_, ?_, ι, Inj.le_refl _, by rw [eff_set hb]; exact U.1, by rw [eff_set hb]; exact U.2, by simp [undefV, undef, R, Rs]⟩
      simp only [Instr.mapUpdate, Sem.run_bind, hu, Result.andThen_ok, run_getObj g2, chk, q1, s1]
      exact run_setObj ⟨_, by rw [s3]; exact g2, fun _ _ _ q => by cases q⟩
  · -- a new key
    rename_i hself hf
    have chk := checkKey_run (w := w) V false 20 20 10000 kt k vk (by omega) hp1 hk hself
    cases h
    obtain ⟨r', q1, q2⟩ := findKey_run V hki hk g5 g6 hf
    cases r' with
    | some p => exact q2.elim
    | none =>
      have hO := setOb_only (w := w) (w1 := w) (o := .map (es.push { key := vk, val := vx, born := clock }) (clock + 1)) rfl rfl rfl rfl g2
      have hsh : SameShape (.map es clock) (.map (es.push { key := vk, val := vx, born := clock }) (clock + 1)) := fun _ _ _ q => by cases q
      have hx0 := hO.ext (L := Live Lo ι H) (L' := Live Lo ι H) g2 hsh hlive (fun _ h => h)
      have U := S.update (blk' := .map .live (ks ++ [k]) (vs ++ [x])) hb rfl rfl h1 g2 hsh hO (by
        simp only [ObjR]
        refine ⟨_, _, rfl, ?_, ?_, fun _ => WfM.push (g7) _ _⟩
        · simp only [Array.toList_push, List.map_append, List.map_cons, List.map_nil]
          exact (Rs.ext hx0 _ _ _ _ (Inj.le_refl _) g5).append (by simp only [Rs]; exact ⟨_, _, rfl, R.ext hx0 _ _ _ _ (Inj.le_refl _) hk, rfl⟩)
        · simp only [Array.toList_push, List.map_append, List.map_cons, List.map_nil]
          exact (Rs.ext hx0 _ _ _ _ (Inj.le_refl _) g6).append (by simp only [Rs]; exact ⟨_, _, rfl, R.ext hx0 _ _ _ _ (Inj.le_refl _) hx, rfl⟩))
      refine ⟨_, ?_, ι, Inj.le_refl _, by rw [eff_set hb]; exact U.1, by rw [eff_set hb]; exact U.2, by simp [undefV, undef, R, Rs]⟩
      simp only [Instr.mapUpdate, Sem.run_bind, hu, Result.andThen_ok, run_getObj g2, chk, q1]
      exact run_setObj hnc
  · cases h

/-! ### other new blocks -/
theorem makeMap_run (V : Valid E P) (S : Sim E Lo w0 ι H w) {t nid : Nat} (hf : Free ι H nid) {kt et : Nat} {i : TyI} (hi : E.ty t = some i) (hund : i.und = .map kt et)
    {r : Option Value} (hr : r = none ∨ ∃ k n, r = some (.int k n)) :
    ∃ cv w', (Instr.makeMap t r).run P w = .ok cv w' ∧ Post E Lo w0 ι H w (.hmap nid) (.sets [(nid, .map .live [] [])]) cv w' := by
  have hu := run_underlyingV V hi w
  rw [hund] at hu
  have N := new_other S hf (blk := .map .live [] []) rfl (o := .map #[] 0) (w1 := w) rfl rfl rfl rfl (fun ι w L => by simp only [ObjR]; exact ⟨#[], 0, rfl, by simp [Rs], by simp [Rs], fun _ => ⟨by simp, by simp⟩⟩)
  refine ⟨.map (some w.heap.size), w.alloc (.map #[] 0), ?_, _, N.1, N.2.1, N.2.2.1, ?_⟩
  · rcases hr with rfl | ⟨k, n, rfl⟩
    · simp [Instr.makeMap]
    · simp [Instr.makeMap, hu, asInt, asIntOf]
  · simp only [R]
    exact ⟨_, _, N.2.2.2, rfl⟩

theorem range_run (V : Valid E P) (S : Sim E Lo w0 ι H w) {t nid : Nat} (hf : Free ι H nid) {i : TyI} (hi : E.ty t = some i) (hund : i.und = .string) {z : List UInt8} :
    ∃ cv w', (Instr.range t (.string ⟨z.toArray⟩)).run P w = .ok cv w' ∧ Post E Lo w0 ι H w (.hptr nid 0) (.sets [(nid, .siter z 0)]) cv w' := by
  have hu := run_underlyingV V hi w
  rw [hund] at hu
  have N := new_other S hf (blk := .siter z 0) rfl (o := .stringIter ⟨z.toArray⟩ 0) (w1 := w) rfl rfl rfl rfl (fun ι w L => by simp [ObjR])
  refine ⟨.pointer (some ⟨w.heap.size, 0, none⟩), w.alloc (.stringIter ⟨z.toArray⟩ 0), ?_, _, N.1, N.2.1, N.2.2.1, ?_⟩
  · simp [Instr.range, hu]
  · simp only [R]
    exact ⟨_, _, N.2.2.2, rfl⟩

theorem next_run (S : Sim E Lo w0 ι H w) {i pos : Nat} {z : List UInt8} {vp : Value} (hb : H[i]? = some (.siter z pos)) (hp : R ι w (Live Lo ι H) (.hptr i 0) vp) (ty : Nat) :
    (pos < z.length → ∃ w', (Instr.next vp true ty).run P w = .ok (.tuple #[.bool true, .int .i64 pos, .int .i32 (Utf8.decode ⟨z.toArray⟩ pos).1]) w' ∧
      Post E Lo w0 ι H w (.tuple [.bool true, .int .i64 pos, .int .i32 (Utf8.decode ⟨z.toArray⟩ pos).1]) (.sets [(i, .siter z (pos + (Utf8.decode ⟨z.toArray⟩ pos).2))])
        (.tuple #[.bool true, .int .i64 pos, .int .i32 (Utf8.decode ⟨z.toArray⟩ pos).1]) w') ∧
    (¬ pos < z.length → (Instr.next vp true ty).run P w = .ok (.tuple #[.bool false]) w) := by
  simp only [R] at hp
  obtain ⟨cb, co, h1, rfl⟩ := hp
  obtain ⟨cb', co', o, g1, g2, g3, g4, _⟩ := S.obj i _ hb (by simp [Blk.st])
  rw [h1] at g1; cases g1
  simp only [ObjR] at g3
  obtain ⟨rfl, rfl⟩ := g3
  have hget : (getObj cb).run P w = .ok (.stringIter ⟨z.toArray⟩ pos) w := by simp [getObj, Sem.run, g2]
  have hsz : ByteArray.size ⟨z.toArray⟩ = z.length := by simp [ByteArray.size]
  refine ⟨fun hlt => ?_, fun hlt => ?_⟩
  · have hO := setOb_only (w := w) (w1 := w) (o := .stringIter ⟨z.toArray⟩ (pos + (Utf8.decode ⟨z.toArray⟩ pos).2)) rfl rfl rfl rfl g2
    have hsh : SameShape (.stringIter ⟨z.toArray⟩ pos) (.stringIter ⟨z.toArray⟩ (pos + (Utf8.decode ⟨z.toArray⟩ pos).2)) := fun _ _ _ q => by cases q
    have U := S.update (blk' := .siter z (pos + (Utf8.decode ⟨z.toArray⟩ pos).2)) hb rfl rfl h1 g2 hsh hO (by simp [ObjR])
    refine ⟨_, ?_, ι, Inj.le_refl _, by rw [eff_set hb]; exact U.1, by rw [eff_set hb]; exact U.2, by simp [R, Rs]⟩
    have hset := run_setObj (P := P) (w := w) (r := cb) (o := .stringIter ⟨z.toArray⟩ (pos + (Utf8.decode ⟨z.toArray⟩ pos).2)) ⟨_, g2, fun _ _ _ q => by cases q⟩
    simp only [Instr.next, Nat.add_zero, Sem.run_bind, hget, Result.andThen_ok, hsz, hlt, if_true, hset, Sem.run_pure, goInt]
  · simp only [Instr.next, Nat.add_zero, Sem.run_bind, hget, Result.andThen_ok, hsz, hlt, if_false, Sem.run_pure]

theorem buildSlice_run (V : Valid E P) (S : Sim E Lo w0 ι H w) {t e nid len : Nat} (hf : Free ι H nid) {i ei : TyI} (hi : E.ty t = some i) (hund : i.und = .slice e) (hei : E.ty e = some ei)
    {z cs : List AV} (hz : ei.zero = some z) {ps : List (Nat × AV)} {vps : Array (Nat × Value)} (hps : RsP ι w (Live Lo ι H) ps vps.toList) (hsz : z.length = ei.size) (hpos : 0 < ei.size)
    (hlim : len * ei.size ≤ 16777216) (h : fillE (fun i => some (i * ei.size, ei.size)) (repE z len) ps = some cs) :
    ∃ cv w', (Instr.buildSlice t len vps).run P w = .ok cv w' ∧ Post E Lo w0 ι H w (.hslice nid 0 len ei.size len) (.sets [(nid, .cells .live cs)]) cv w' := by
  have hu := run_underlyingV V hi w
  rw [hund] at hu
  obtain ⟨zv, z1, z2, z3, _, _⟩ := zero_run V hei hz ι w (Live Lo ι H)
  have hcells : Rs ι w (Live Lo ι H) (repE z len) ((Array.range (len * ei.size)).map (fun i => (if len * ei.size = 0 then #[] else zv.cells)[i % (if len * ei.size = 0 then (#[] : Array Value) else zv.cells).size]!)).toList := by
    by_cases h0 : len * ei.size = 0
    · have hl0 : len = 0 := by
        rcases Nat.mul_eq_zero.1 h0 with q | q
        · exact q
        · omega
      subst hl0
      simp [repE, Rs]
    · simp only [h0, if_false]
      have := rep_R z2 (by omega) len
      rw [hsz] at this
      exact this
  obtain ⟨res, r1, r2⟩ := fill_run hps hcells h
  have hlen : ∀ (l : List (Nat × AV)) (cs out : List AV), fillE (fun i => some (i * ei.size, ei.size)) cs l = some out → out.length = cs.length := by
    intro l
    induction l with
    | nil => intro cs out h; simp [fillE] at h; rw [h]
    | cons p l ih =>
      intro cs out h
      obtain ⟨i, x⟩ := p
      simp only [fillE] at h
      split at h
      · cases h
      · rename_i hc
        simp only [ne_eq, Bool.or_eq_true, decide_eq_true_eq, not_or, Decidable.not_not, Nat.not_lt] at hc
        rw [ih _ _ h]
        simp
        omega
  have hcl : cs.length = len * ei.size := by rw [hlen _ _ _ h, repE_len, hsz]
  have hrs : res.size = cs.length := by have := r2.length; simpa using this
  have hat : RAt ι w (Live Lo ι H) res 0 cs := r2.at (fun i v hv => by rw [Array.getElem?_toList] at hv; rw [Nat.zero_add]; exact hv)
  have N := new_cells S hf (e := e) (f := (0, 0)) (w1 := w) rfl rfl rfl rfl hat (fun k _ hk => absurd hk.2 (Nat.not_lt_zero _))
  refine ⟨.slice (some ⟨w.heap.size, 0, none⟩) len len, w.alloc (.cells res e (0, 0)), ?_, _, N.1, N.2.1, N.2.2.1, ?_⟩
  · have hl : ¬ (16777216 < len * ei.size) := by omega
    have h24 : (2 : Nat) ^ 24 = 16777216 := by decide
    by_cases h0 : len * ei.size = 0
    · simp only [h0, if_true] at r1
      have hr0 : Array.range 0 = #[] := rfl
      rw [hr0] at r1
      simp only [Array.map_empty] at r1
      simp only [Instr.buildSlice, Sem.run_bind, hu, Result.andThen_ok, run_sizeOfV V hei w, h24, gt_iff_lt, hl, if_false, h0, if_true, Sem.run_pure, r1, newRow, run_newObj]
      rw [if_neg (by omega)]
      simp [newRow, hr0, r1]
    · simp only [h0, if_false] at r1
      simp only [Instr.buildSlice, Sem.run_bind, hu, Result.andThen_ok, run_sizeOfV V hei w, h24, gt_iff_lt, hl, if_false, h0, Sem.run_pure, z1, r1, newRow, run_newObj]
      rfl
  · simp only [R]
    exact ⟨w.heap.size, 0, len, res, e, (0, 0), N.2.2.2.2, rfl, Nat.le_refl _, Nat.le_refl _, N.2.2.2.1, by rw [hrs, hcl]; omega⟩
end
end Dv

namespace Dv
open Go Go.RowKit
set_option linter.unusedSimpArgs false
set_option linter.unusedVariables false

section
variable {E : Env} {P : Program} {ι : Inj} {w : World} {L : Nat → Prop} {ts : List AV} {a : Act} {Lo : Nat → Prop} {w0 : World} {H : Hp}

theorem convE_run (V : Valid E P) {s d : Nat} {x av : AV} {vx : Value} (hx : R ι w L x vx) (h : convE E s d x = some av) : ∃ cv, (convert s d vx).run P w = .ok cv w ∧ R ι w L av cv := by
  unfold convE at h
  split at h
  · rename_i si k _ _ _ _ _ k' n h1 h2
    have u1 := run_underlyingV V h1 w
    have u2 := run_underlyingV V h2 w
    cases h
    simp only [R] at hx; subst hx
    refine ⟨.int k (k.wrap n), ?_, by simp [R, wrapK]⟩
    unfold convert
    simp only [Sem.run_bind, u1, u2, Result.andThen_ok]
    cases si.und <;> simp [Conv.intToInt]
  · rename_i si _ _ _ _ _ z h1 h2
    have u1 := run_underlyingV V h1 w
    have u2 := run_underlyingV V h2 w
    cases h
    simp only [R] at hx; subst hx
    refine ⟨.string ⟨z.toArray⟩, ?_, by simp [R]⟩
    unfold convert
    simp only [Sem.run_bind, u1, u2, Result.andThen_ok]
    cases si.und <;> simp
  · cases h

theorem toBytes_run (V : Valid E P) (S : Sim E Lo w0 ι H w) {s d e nid : Nat} {si di ei : TyI} (h1 : E.ty s = some si) (h2 : E.ty d = some di) (h3 : E.ty e = some ei) (u1 : si.und = .string)
    (u2 : di.und = .slice e) (u3 : ei.und = .int .u8) (hf : Free ι H nid) {z : List UInt8} :
    ∃ cv w', (convert s d (.string ⟨z.toArray⟩)).run P w = .ok cv w' ∧
      Post E Lo w0 ι H w (.hslice nid 0 z.length 1 z.length) (.sets [(nid, .cells .live (z.map fun c => .int .u8 c.toNat))]) cv w' := by
  have run := run_bytes_of_string (P := P) w s d e ⟨z.toArray⟩ (u1 ▸ (V.ty s si h1).und) (u2 ▸ (V.ty d di h2).und) (u3 ▸ (V.ty e ei h3).und)
  have hsz : ByteArray.size ⟨z.toArray⟩ = z.length := by simp [ByteArray.size]
  have hge := grownCap_ge w z.length 0 e
  rw [hsz] at run
  have hbs : (bytesRow ⟨z.toArray⟩ (grownCap w z.length 0 e)).size = grownCap w z.length 0 e := by
    simp [bytesRow, hsz]; omega
  have hat : RAt ι w (Live Lo ι H) (bytesRow ⟨z.toArray⟩ (grownCap w z.length 0 e)) 0 (z.map fun c => AV.int .u8 c.toNat) := RAt.of_get fun i x hx => by
    simp only [List.getElem?_map, Option.map_eq_some_iff] at hx
    obtain ⟨c, hc, rfl⟩ := hx
    have hlt : i < z.length := (List.getElem?_eq_some_iff.1 hc).1
    refine ⟨.int .u8 c.toNat, ?_, by simp [R]⟩
    rw [Nat.zero_add]
    unfold bytesRow
    rw [Array.getElem?_append_left (by simpa using hlt)]
    simp [hc]
  have N := new_cells S hf (e := e) (f := ((bytesRow ⟨z.toArray⟩ (grownCap w z.length 0 e)).size, (bytesRow ⟨z.toArray⟩ (grownCap w z.length 0 e)).size + 1)) (w1 := w.drew) rfl rfl rfl rfl hat (fun k hk q => by omega)
  refine ⟨_, _, run, _, N.1, N.2.1, N.2.2.1, ?_⟩
  simp only [R]
  exact ⟨w.heap.size, 0, grownCap w z.length 0 e, _, e, _, N.2.2.2.2, rfl, Nat.le_refl _, hge, N.2.2.2.1, by rw [hbs]; omega⟩

theorem bytesE_ints : ∀ {cs : List AV} {b : List UInt8}, bytesE cs = some b → ∃ ns : List Int, cs = ns.map (AV.int .u8) ∧ b = ns.map (fun n => UInt8.ofNat n.toNat)
  | [], b, h => by simp [bytesE] at h; subst h; exact ⟨[], rfl, rfl⟩
  | c :: cs, b, h => by
    unfold bytesE at h
    split at h
    · rename_i hc; cases hc
    · rename_i n cs' hc
      cases hc
      rw [Option.map_eq_some_iff] at h
      obtain ⟨b', h1, rfl⟩ := h
      obtain ⟨ns, rfl, rfl⟩ := bytesE_ints h1
      exact ⟨n :: ns, rfl, rfl⟩
    · cases h

theorem foldl_push (ns : List Int) : ∀ (r : ByteArray), ns.foldl (fun r n => r.push (UInt8.ofNat n.toNat)) r = ⟨r.data ++ (ns.map (fun n => UInt8.ofNat n.toNat)).toArray⟩ := by
  induction ns with
  | nil => intro r; simp
  | cons n ns ih =>
    intro r
    rw [List.foldl_cons, ih]
    congr 1
    apply Array.ext'
    simp [ByteArray.push]

theorem toStr_run (V : Valid E P) (S : Sim E Lo w0 ι H w) {s d e : Nat} {si di ei : TyI} (h1 : E.ty s = some si) (h2 : E.ty d = some di) (h3 : E.ty e = some ei) (u1 : si.und = .slice e)
    (u2 : di.und = .string) (u3 : ei.und = .int .u8) {x : AV} {vx : Value} (hx : R ι w (Live Lo ι H) x vx) {cs : List AV} (hc : cellsE H 1 x = some cs) {b : List UInt8} (hb : bytesE cs = some b) :
    ∃ cv, (convert s d vx).run P w = .ok cv w ∧ R ι w (Live Lo ι H) (.str b) cv := by
  obtain ⟨ns, hns, rfl⟩ := bytesE_ints hb
  have hl : ∃ n, lenE x = some n := by
    unfold cellsE at hc
    split at hc
    · exact ⟨_, rfl⟩
    · exact ⟨_, rfl⟩
    · exact ⟨_, rfl⟩
    · exact ⟨_, rfl⟩
    · cases hc
  obtain ⟨n, hl⟩ := hl
  have hsrc : srcE H 1 x = some cs := by
    unfold srcE
    cases x <;> first | exact hc | (exfalso; revert hc; simp [cellsE]; done)
  obtain ⟨news, x1, x2, x3, x4⟩ := src_cells (P := P) S hx hl hsrc
  subst hns
  have hn : news.toList = ns.map (Value.int .u8) := by
    clear x4 x1 x2 hc hb hsrc hl
    revert x3
    generalize news.toList = l
    induction ns generalizing l with
    | nil => intro h; simpa [Rs] using h
    | cons n ns ih =>
      intro h
      simp only [List.map_cons, Rs] at h
      obtain ⟨y, ys, rfl, h2, h3⟩ := h
      simp only [R] at h2
      rw [h2, ih _ h3, List.map_cons]
  have hnl : news.size = n := by
    have := x3.length
    simp only [Array.length_toList] at this
    rw [this, x2, Nat.mul_one]
  have hx4 := x4 n (Nat.le_refl _)
  rw [Nat.mul_one, ← hnl, Array.extract_size] at hx4
  have hna : news = (ns.map (Value.int .u8)).toArray := by rw [← hn]
  rw [hna] at hx4
  have fin : ∀ a l c, vx = .slice (some a) l c → l = n → ∃ cv, (convert s d vx).run P w = .ok cv w ∧ R ι w (Live Lo ι H) (.str (ns.map (fun n => UInt8.ofNat n.toNat))) cv := by
    intro a l c hv hln
    subst hv hln
    have hlo : (loadCells a l).run P w = .ok (ns.map (Value.int .u8)).toArray w := by
      rw [← hx4, ← hna, hnl]
      simp [Builtin.firstCells]
    refine ⟨_, (run_convert_bytes_string w s d e _ _ _ (u1 ▸ (V.ty s si h1).und) (u3 ▸ (V.ty e ei h3).und) (u2 ▸ (V.ty d di h2).und)).trans (run_bytesToString w a l c ns hlo), ?_⟩
    simp only [R]
    congr 1
    rw [foldl_push]
    simp
  unfold cellsE at hc
  split at hc
  · simp only [R] at hx; subst hx
    have : ns = [] := by simpa using hc
    subst this
    have hb0 : (Conv.bytesToString (.slice none 0 0)).run P w = .ok (.string ByteArray.empty) w := rfl
    exact ⟨.string ByteArray.empty, (run_convert_bytes_string w s d e none 0 0 (u1 ▸ (V.ty s si h1).und) (u3 ▸ (V.ty e ei h3).und) (u2 ▸ (V.ty d di h2).und)).trans hb0, by simp only [R]; rfl⟩
  · simp only [R] at hx; obtain ⟨ad, cap, rfl⟩ := hx
    exact fin _ _ _ rfl (by simpa [lenE] using hl)
  · simp only [R] at hx
    obtain ⟨cb, o, cap, c, e, f, rfl, _⟩ := hx
    exact fin _ _ _ rfl (by simpa [lenE] using hl)
  · simp only [R] at hx
    obtain ⟨cb, co, cap, c, e', f, g1, rfl, _⟩ := hx
    exact fin _ _ _ rfl (by simpa [lenE] using hl)
  · cases hc

theorem lenOfE_run (V : Valid E P) (S : Sim E Lo w0 ι H w) {t ty : Nat} {ats : Array Nat} {args : Array Value} (ha : ats[0]? = some t) {x : AV} {vx : Value} (hg : args[0]? = some vx)
    (hx : R ι w (Live Lo ι H) x vx) {av : AV} (h : lenOfE E H t x = some av) :
    ∃ cv, (Builtin.len_ ats ty args).run P w = .ok cv w ∧ R ι w (Live Lo ι H) av cv := by
  unfold lenOfE at h
  unfold Builtin.len_
  simp only [ha, hg]
  split at h
  · rename_i s hi
    have hu := run_underlyingV V hi w
    cases h; simp only [R] at hx; subst hx
    exact ⟨.int .i64 s.length, by simp only [Sem.run_bind, hu, Result.andThen_ok, Sem.run_pure]; simp [goInt, ByteArray.size], by simp [R]⟩
  · rename_i n el _ _ _ _ _ hi
    have hu := run_underlyingV V hi w
    cases h
    refine ⟨.int .i64 n, ?_, by simp [R]⟩
    simp only [Sem.run_bind, hu, Result.andThen_ok]
    cases vx <;> rfl
  · rename_i hi
    have hu := run_underlyingV V hi w
    cases h; simp only [R] at hx; subst hx
    exact ⟨.int .i64 0, by simp only [Sem.run_bind, hu, Result.andThen_ok, Sem.run_pure]; rfl, by simp [R]⟩
  · rename_i hi
    have hu := run_underlyingV V hi w
    cases h; simp only [R] at hx; obtain ⟨ad, cap, rfl⟩ := hx
    exact ⟨.int .i64 0, by simp only [Sem.run_bind, hu, Result.andThen_ok, Sem.run_pure]; rfl, by simp [R]⟩
  · rename_i hi
    have hu := run_underlyingV V hi w
    cases h; simp only [R] at hx
    obtain ⟨cb, o, cap, c, e, f, rfl, _⟩ := hx
    exact ⟨.int .i64 _, by simp only [Sem.run_bind, hu, Result.andThen_ok, Sem.run_pure]; rfl, by simp [R]⟩
  · rename_i hi
    have hu := run_underlyingV V hi w
    cases h; simp only [R] at hx
    obtain ⟨cb, co, cap, c, e, f, h1, rfl, _⟩ := hx
    exact ⟨.int .i64 _, by simp only [Sem.run_bind, hu, Result.andThen_ok, Sem.run_pure]; rfl, by simp [R]⟩
  · rename_i hi
    have hu := run_underlyingV V hi w
    rw [Option.map_eq_some_iff] at h
    obtain ⟨⟨ks, vs⟩, h1, rfl⟩ := h
    rcases mapE_R S hx h1 with ⟨rfl, rfl, _⟩ | ⟨cb, es, clock, rfl, h2, h3, h4⟩
    · exact ⟨.int .i64 0, by simp only [Sem.run_bind, hu, Result.andThen_ok, Sem.run_pure]; rfl, by simp [R]⟩
    · refine ⟨.int .i64 es.size, by simp only [Sem.run_bind, hu, Result.andThen_ok, run_getObj h2, Sem.run_pure]; rfl, ?_⟩
      have := h3.length
      simp at this
      simp [R, this]
  · cases h

theorem max2E_run {x y z : AV} {vx vy : Value} (hx : R ι w L x vx) (hy : R ι w L y vy) (h : max2E x y = some z) :
    ∃ vz, (Builtin.max2 vx vy).run P w = .ok vz w ∧ R ι w L z vz := by
  unfold max2E at h
  split at h
  · split at h
    · rename_i hk; subst hk
      cases h; simp only [R] at hx hy; subst hx hy
      exact ⟨_, rfl, by simp only [R]⟩
    · cases h
  · cases h

theorem min2E_run {x y z : AV} {vx vy : Value} (hx : R ι w L x vx) (hy : R ι w L y vy) (h : min2E x y = some z) :
    ∃ vz, (Builtin.min2 vx vy).run P w = .ok vz w ∧ R ι w L z vz := by
  unfold min2E at h
  split at h
  · split at h
    · rename_i hk; subst hk
      cases h; simp only [R] at hx hy; subst hx hy
      exact ⟨_, rfl, by simp only [R]⟩
    · cases h
  · cases h

theorem foldE_run {f : AV → AV → Option AV} {g : Value → Value → Sem Value}
    (hf : ∀ {x y z : AV} {vx vy : Value}, R ι w L x vx → R ι w L y vy → f x y = some z → ∃ vz, (g vx vy).run P w = .ok vz w ∧ R ι w L z vz) :
    ∀ {xs : List AV} {vs : List Value} {x z : AV} {vx : Value}, R ι w L x vx → Rs ι w L xs vs → foldE f x xs = some z → ∃ vz, (vs.foldlM g vx).run P w = .ok vz w ∧ R ι w L z vz
  | [], vs, x, z, vx, hx, hxs, h => by
    simp only [Rs] at hxs; subst hxs
    simp only [foldE, Option.some.injEq] at h; subst h
    exact ⟨_, rfl, hx⟩
  | y :: ys, vs, x, z, vx, hx, hxs, h => by
    simp only [Rs] at hxs
    obtain ⟨v, vs', rfl, h1, h2⟩ := hxs
    unfold foldE at h
    split at h
    · rename_i u hu
      obtain ⟨vu, g1, g2⟩ := hf hx h1 hu
      obtain ⟨vz, g3, g4⟩ := foldE_run hf g2 h2 h
      exact ⟨vz, by simp only [List.foldlM_cons, Sem.run_bind, g1, Result.andThen_ok, g3], g4⟩
    · cases h

theorem capNil_run (V : Valid E P) {t e ty : Nat} {ats : Array Nat} {args : Array Value} (ha : ats[0]? = some t) {vx : Value} (hg : args[0]? = some vx) (hx : R ι w L .nilslice vx) {i : TyI}
    (hi : E.ty t = some i) (hund : i.und = .slice e) :
    ∃ cv, (Builtin.cap_ ats ty args).run P w = .ok cv w ∧ R ι w L (.int .i64 0) cv := by
  have hu := run_underlyingV V hi w
  rw [hund] at hu
  simp only [R] at hx; subst hx
  unfold Builtin.cap_
  simp only [ha, hg]
  exact ⟨.int .i64 0, by simp only [Sem.run_bind, hu, Result.andThen_ok, Sem.run_pure]; rfl, by simp [R]⟩

theorem build_run (V : Valid E P) {t : Nat} {pl : Nat → Option (Nat × Nat)} {z cs : List AV} {ps : List (Nat × AV)} {vps : Array (Nat × Value)} (h1 : placesE E t = some pl)
    (hz : (E.ty t).bind (·.zero) = some z) (hps : RsP ι w L ps vps.toList) (h : fillE pl z ps = some cs) :
    ∃ cv, (Instr.build t vps).run P w = .ok cv w ∧ R ι w L (.agg cs) cv := by
  rw [Option.bind_eq_some_iff] at hz
  obtain ⟨i, hi, hz⟩ := hz
  obtain ⟨zv, z1, z2, z3, _, _⟩ := zero_run V hi hz ι w L
  have hu := run_underlyingV V hi w
  unfold placesE at h1
  rw [hi] at h1
  split at h1
  · rename_i fields sz ag by_ ze _ hh
    cases hh
    split at h1
    case isFalse => cases h1
    rename_i hall
    simp only [Option.some.injEq] at h1
    have hm : ∀ (l : List Field), (l.all fun f => (E.ty f.type).isSome) = true →
        (l.mapM (m := Sem) fun f => do pure (f.offset, ← sizeOf f.type)).run P w = .ok (l.map fun f => (f.offset, ((E.ty f.type).map (·.size)).getD 0)) w := by
      intro l
      induction l with
      | nil => intro _; simp
      | cons f l ih =>
        intro hl
        simp only [List.all_cons, Bool.and_eq_true] at hl
        obtain ⟨fi, hfi⟩ := Option.isSome_iff_exists.1 hl.1
        simp only [List.mapM_cons, Sem.run_bind, run_sizeOfV V hfi w, Result.andThen_ok, Sem.run_pure, ih hl.2, List.map_cons, hfi, Option.map_some, Option.getD_some]
    have hma : (fields.mapM (m := Sem) fun f => do pure (f.offset, ← sizeOf f.type)).run P w = .ok (fields.map fun f => (f.offset, ((E.ty f.type).map (·.size)).getD 0)) w := by
      rw [Array.mapM_eq_mapM_toList, map_eq_pure_bind]
      simp only [Sem.run_bind, hm fields.toList hall, Result.andThen_ok, Sem.run_pure]
      congr 1
      apply Array.ext'
      simp
    have hpl : pl = (fun j => (fields.map fun f => (f.offset, ((E.ty f.type).map (·.size)).getD 0))[j]?) := by
      subst h1
      funext j
      rw [Array.getElem?_map]
      cases hf : fields[j]? with
      | none => rfl
      | some f =>
        have hmem : f ∈ fields.toList := by
          have := Array.mem_of_getElem? hf
          exact Array.mem_toList_iff.2 this
        have := (List.all_eq_true.1 hall) f hmem
        obtain ⟨fi, hfi⟩ := Option.isSome_iff_exists.1 this
        simp [hfi]
    obtain ⟨res, r1, r2⟩ := fill_run hps z2 h
    rw [hpl] at r1
    refine ⟨.agg res, ?_, by simp only [R]; exact ⟨_, rfl, r2⟩⟩
    unfold Instr.build
    simp only [Sem.run_bind, z1, Result.andThen_ok, hu, hma, r1, Sem.run_pure]
  · rename_i n elem sz ag by_ ze _ hh
    cases hh
    rw [Option.map_eq_some_iff] at h1
    obtain ⟨ei, hei, rfl⟩ := h1
    obtain ⟨res, r1, r2⟩ := fill_run hps z2 h
    refine ⟨.agg res, ?_, by simp only [R]; exact ⟨_, rfl, r2⟩⟩
    unfold Instr.build
    simp only [Sem.run_bind, z1, Result.andThen_ok, hu, run_sizeOfV V hei w, r1, Sem.run_pure]
  · cases h1
end
end Dv

namespace Dv
open Go Go.RowKit
set_option linter.unusedSimpArgs false
set_option linter.unusedVariables false

section
variable {E : Env} {P : Program} {ι : Inj} {w : World} {L : Nat → Prop} {ts : List AV} {a : Act} {Lo : Nat → Prop} {w0 : World} {H : Hp}

theorem appendZero_run (V : Valid E P) (S : Sim E Lo w0 ι H w) {nid t u ty : Nat} (hf : Free ι H nid) {ats : Array Nat} {args : Array Value} {vs vx : Value} {ui : TyI} {k : IntKind}
    (ha0 : ats[0]? = some t) (ha1 : ats[1]? = some u) (hg0 : args[0]? = some vs) (hg1 : args[1]? = some vx) (hu : E.ty u = some ui)
    (hq : ui.und = .int k) {s x v : AV} {st : List (Nat × Blk)}
    (hs : R ι w (Live Lo ι H) s vs) (hx : R ι w (Live Lo ι H) x vx) (h : appendZeroE E nid t s x = some (v, st)) :
    ∃ cv w', (Builtin.append_ ats ty args).run P w = .ok cv w' ∧ Post E Lo w0 ι H w v (.sets st) cv w' := by
  unfold appendZeroE at h
  split at h
  case h_2 => cases h
  rename_i e _ _ _ _ _ k' n hi
  have hund : (underlying t).run P w = .ok (.slice e) w := run_underlyingV V hi w
  have hzu : (underlying u).run P w = .ok ui.und w := run_underlyingV V hu w
  split at h
  case h_2 => cases h
  rename_i ei hei
  split at h
  case h_2 => cases h
  rename_i zc hzc
  split at h
  case isFalse => cases h
  rename_i hc
  obtain ⟨h0, h63, hb, hzl, hsz, hbz⟩ := hc
  cases h
  simp only [R] at hs hx
  subst hs hx
  obtain ⟨z, hzs, hz⟩ := zero_all V hei hzc
  obtain ⟨zv, z1, z2, z3, _, _⟩ := zero_run V hei hzc ι w (Live Lo ι H)
  have hzz : zv.cells = z := by
    obtain ⟨zv', g1, g2⟩ := hz w
    rw [z1] at g1; cases g1; exact g2
  have hn0 : 0 < n.toNat := by omega
  have hold : (Builtin.firstCells ei.size 0 (.slice none 0 0)).run P w.drew = .ok #[] w.drew := by simp [Builtin.firstCells]
  have hrun := app_grows_make (ty := ty) V ha0 ha1 hg0 hg1 hund hei hzu hq (by omega) h63 hb (by have := Nat.mul_pos hn0 hsz; omega) (by omega) (by rw [Nat.zero_add]; exact hb) (by omega) (by omega) hz hold
  rw [Nat.zero_add] at hrun
  have hr : Rs ι w (Live Lo ι H) (repE zc n.toNat) (Builtin.zeroCells z n.toNat).toList := by
    rw [← hzz]
    have := rep_R z2 (by omega) n.toNat
    unfold Builtin.zeroCells
    have e1 : zv.cells.size = zc.length := by have := z2.length; simpa using this
    rw [e1]
    rw [e1] at this
    exact this
  have G := grown_new S hf (e := e) (rest := Builtin.zeroCells z (grownCap w n.toNat 0 e - n.toNat)) hr (by rw [repE_len, hzl]) (grownCap_ge w n.toNat 0 e) (by rw [zeroCells_size, hzs])
  exact ⟨_, _, by rw [hrun]; simp, G⟩

theorem Post.of_R (S : Sim E Lo w0 ι H w) {v : AV} {r : Sem Value} (h : ∃ cv, r.run P w = .ok cv w ∧ R ι w (Live Lo ι H) v cv) :
    ∃ cv w', r.run P w = .ok cv w' ∧ Post E Lo w0 ι H w v (.sets []) cv w' := by
  obtain ⟨cv, h1, h2⟩ := h
  exact ⟨cv, w, h1, Post.pure S h2⟩

theorem builtinE_run (V : Valid E P) (S : Sim E Lo w0 ι H w) {nid ty : Nat} (hf : Free ι H nid) {b : Builtin} {ats : Array Nat} {args : Array Value} {as : List AV} (ha : Rs ι w (Live Lo ι H) as args.toList)
    {cs : Array Bool} {v : AV} {st : List (Nat × Blk)} (h : builtinE E H nid b ats.toList as = some (v, st)) :
    ∃ cv w', (builtin b ats ty cs args).run P w = .ok (.value cv) w' ∧ Post E Lo w0 ι H w v (.sets st) cv w' := by
  have lift : ∀ {r : Sem Value} , (∃ cv w', r.run P w = .ok cv w' ∧ Post E Lo w0 ι H w v (.sets st) cv w') →
      ∃ cv w', ((do pure (.value (← r)) : Sem Next)).run P w = .ok (.value cv) w' ∧ Post E Lo w0 ι H w v (.sets st) cv w' := by
    intro r ⟨cv, w', h1, h2⟩
    exact ⟨cv, w', by simp only [Sem.run_bind, h1, Result.andThen_ok, Sem.run_pure], h2⟩
  have hget : ∀ {l : List Nat} {i t : Nat}, l[i]? = some t → ats.toList = l → ats[i]? = some t := by
    intro l i t h1 h2
    rw [← Array.getElem?_toList, h2, h1]
  have hargs : ∀ {l : List Value} {i : Nat} {x : Value}, l[i]? = some x → args.toList = l → args[i]? = some x := by
    intro l i x h1 h2
    rw [← Array.getElem?_toList, h2, h1]
  unfold builtinE at h
  split at h
  · rename_i t u tr s x xr hats
    simp only [Rs] at ha
    obtain ⟨vs, ys, e1, hs, vx, zs, rfl, hx, _⟩ := ha
    have a0 := hget (i := 0) rfl hats
    have a1 := hget (i := 1) rfl hats
    have g0 := hargs (i := 0) rfl e1
    have g1 := hargs (i := 1) rfl e1
    split at h
    · rename_i k hu
      exact lift (appendZero_run V S hf a0 a1 g0 g1 hu rfl hs hx h)
    · rename_i ui hq hu
      refine lift (append_run V S hf a0 a1 g0 g1 hu ?_ hs hx h)
      intro k hk
      obtain ⟨und, b1, b2, b3, b4, b5⟩ := ui
      exact hq _ _ _ _ _ _ (by rw [← hk])
    · cases h
  · rename_i t tr d x xr hats
    simp only [Rs] at ha
    obtain ⟨vs, ys, e1, hs, vx, zs, rfl, hx, _⟩ := ha
    exact lift (copy_run V S (hget (i := 0) rfl hats) (hargs (i := 0) rfl e1) (hargs (i := 1) rfl e1) hs hx h)
  · rename_i t tr xr hats
    simp only [Rs] at ha
    obtain ⟨vs, ys, e1, hs, _⟩ := ha
    split at h
    · rename_i e _ _ _ _ _ hi
      cases h
      exact lift (Post.of_R S (capNil_run V (hget (i := 0) rfl hats) (hargs (i := 0) rfl e1) hs hi rfl))
    · cases h
  · rename_i t tr x xr hats
    simp only [Rs] at ha
    obtain ⟨vs, ys, e1, hs, _⟩ := ha
    rw [Option.map_eq_some_iff] at h
    obtain ⟨u, h1, h2⟩ := h
    cases h2
    exact lift (Post.of_R S (lenOfE_run V S (hget (i := 0) rfl hats) (hargs (i := 0) rfl e1) hs h1))
  · rename_i x xs
    simp only [Rs] at ha
    obtain ⟨vs, ys, e1, hs, hr⟩ := ha
    rw [Option.map_eq_some_iff] at h
    obtain ⟨u, h1, h2⟩ := h
    cases h2
    refine lift (Post.of_R S ?_)
    unfold Builtin.max_
    rw [e1]
    exact foldE_run (fun a b c => max2E_run a b c) hs hr h1
  · rename_i x xs
    simp only [Rs] at ha
    obtain ⟨vs, ys, e1, hs, hr⟩ := ha
    rw [Option.map_eq_some_iff] at h
    obtain ⟨u, h1, h2⟩ := h
    cases h2
    refine lift (Post.of_R S ?_)
    unfold Builtin.min_
    rw [e1]
    exact foldE_run (fun a b c => min2E_run a b c) hs hr h1
  · cases h
end
end Dv

namespace Dv
open Go Go.RowKit
set_option linter.unusedSimpArgs false
set_option linter.unusedVariables false

/-- the operation calls a function value -/
def callsValue (o : Oper) : Bool :=
  match o.op with
  | .call c => (match c.callee with
    | .value _ => true
    | _ => false)
  | _ => false

section
variable {E : Env} {P : Program} {ι : Inj} {w : World} {L : Nat → Prop} {ts : List AV} {a : Act} {Lo : Nat → Prop} {w0 : World} {H : Hp}

theorem R_undef : R ι w L undefV undef := by
  simp only [undefV, undef, R]
  exact ⟨#[], rfl, by simp [Rs]⟩

/-- what the machine does next, when the operation has run -/
def Upshot (nx : Next) (cv : Value) : Prop := nx = .value cv ∨ nx = .skip ∧ cv = undef

def OpRun (E : Env) (P : Program) (Lo : Nat → Prop) (w0 : World) (ι : Inj) (H : Hp) (w : World) (r : Sem Next) (v : AV) (e : Eff) : Prop :=
  ∃ nx cv w', r.run P w = .ok nx w' ∧ Upshot nx cv ∧ Post E Lo w0 ι H w v e cv w'

theorem OpRun.val {r : Sem Value} {v : AV} {e : Eff} (h : ∃ cv w', r.run P w = .ok cv w' ∧ Post E Lo w0 ι H w v e cv w') :
    OpRun E P Lo w0 ι H w (do pure (.value (← r))) v e := by
  obtain ⟨cv, w', h1, h2⟩ := h
  exact ⟨.value cv, cv, w', by simp only [Sem.run_bind, h1, Result.andThen_ok, Sem.run_pure], .inl rfl, h2⟩

theorem OpRun.unit {r : Sem Unit} {e : Eff} (h : ∃ w', r.run P w = .ok () w' ∧ Post E Lo w0 ι H w undefV e undef w') :
    OpRun E P Lo w0 ι H w (do r; pure .skip) undefV e := by
  obtain ⟨w', h1, h2⟩ := h
  exact ⟨.skip, undef, w', by simp only [Sem.run_bind, h1, Result.andThen_ok, Sem.run_pure], .inr ⟨rfl, rfl⟩, h2⟩

theorem OpRun.now (S : Sim E Lo w0 ι H w) {v : AV} {cv : Value} (h : R ι w (Live Lo ι H) v cv) : OpRun E P Lo w0 ι H w (pure (.value cv)) v (.sets []) :=
  ⟨_, cv, w, rfl, .inl rfl, Post.pure S h⟩

theorem OpRun.valR (S : Sim E Lo w0 ι H w) {r : Sem Value} {v : AV} (h : ∃ cv, r.run P w = .ok cv w ∧ R ι w (Live Lo ι H) v cv) :
    OpRun E P Lo w0 ι H w (do pure (.value (← r))) v (.sets []) := OpRun.val (Post.of_R S h)

theorem opE_run (V : Valid E P) (S : Sim E Lo w0 ι H w) {pc : Pc} {ic yc : Ic} {dr : Bool} {nid : Nat} (hf : Free ι H nid) (ht : Rs ι w (Live Lo ι H) ts a.tmps.toList) {o : Oper} {v : AV} {e : Eff}
    (hv : callsValue o = false) (h : opE E pc ic yc dr ts H nid o = some (v, e)) : OpRun E P Lo w0 ι H w (execOp a.eval o) v e := by
  unfold opE at h
  unfold execOp
  cases ho : o.op <;> simp only [ho] at h ⊢
  case move x =>
    rw [Option.map_eq_some_iff] at h
    obtain ⟨u, h1, h2⟩ := h
    cases h2
    exact OpRun.now S (evO_R ht h1)
  case assign x =>
    rw [Option.map_eq_some_iff] at h
    obtain ⟨u, h1, h2⟩ := h
    cases h2
    exact OpRun.now S (evO_R ht h1)
  case pick c x y =>
    split at h
    · rename_i t hc
      rw [Option.map_eq_some_iff] at h
      obtain ⟨u, h1, h2⟩ := h
      cases h2
      have hcv := evO_R ht hc
      simp only [R] at hcv
      have hxy := evO_R ht h1
      refine ⟨.value (if t then a.eval x else a.eval y), _, w, ?_, .inl rfl, Post.pure S ?_⟩
      · rw [hcv]
        simp [asBool]
      · cases t <;> simpa using hxy
    · cases h
  case alloc t =>
    rw [Option.map_eq_some_iff] at h
    obtain ⟨⟨u, l⟩, h1, h2⟩ := h
    rw [Option.map_eq_some_iff] at h1
    obtain ⟨z, h1, h3⟩ := h1
    cases h2
    cases h3
    exact OpRun.val (alloc_run V S hf h1)
  case box t x =>
    rw [Option.map_eq_some_iff] at h
    obtain ⟨⟨u, l⟩, h1, h2⟩ := h
    rw [Option.map_eq_some_iff] at h1
    obtain ⟨z, h1, h3⟩ := h1
    cases h2
    cases h3
    exact OpRun.val (box_run S hf (evO_R ht h1))
  case build t ps =>
    split at h
    case h_2 => cases h
    rename_i pl z vs h1 h2 h3
    rw [Option.map_eq_some_iff] at h
    obtain ⟨u, h4, h5⟩ := h
    rw [Option.map_eq_some_iff] at h4
    obtain ⟨cs, h4, rfl⟩ := h4
    cases h5
    refine OpRun.valR S (build_run V h1 h2 ?_ h4)
    have := evP_R ht h3
    simpa using this
  case buildSlice t len ps =>
    split at h
    case h_2 => cases h
    rename_i e' _ _ _ _ _ hi
    split at h
    case h_2 => cases h
    rename_i ei hei
    split at h
    case h_2 => cases h
    rename_i z vs hz hvs
    split at h
    case isFalse => cases h
    rename_i hc
    rw [Option.map_eq_some_iff] at h
    obtain ⟨⟨u, l⟩, h1, h2⟩ := h
    rw [Option.map_eq_some_iff] at h1
    obtain ⟨cs, h1, h3⟩ := h1
    cases h2
    cases h3
    refine OpRun.val (buildSlice_run V S hf hi rfl hei hz ?_ hc.1 hc.2.1 hc.2.2 h1)
    have := evP_R ht hvs
    simpa using this
  case load t x =>
    split at h
    case h_2 => cases h
    rename_i p hp
    rw [Option.map_eq_some_iff] at h
    obtain ⟨u, h1, h2⟩ := h
    cases h2
    exact OpRun.valR S (loadE_run V S (evO_R ht hp) h1)
  case store t x y =>
    split at h
    case h_2 => cases h
    rename_i p z hp hz
    rw [Option.map_eq_some_iff] at h
    obtain ⟨u, h1, h2⟩ := h
    cases h2
    exact OpRun.unit (storeE_run V S (evO_R ht hp) (evO_R ht hz) h1)
  case nilCheck x =>
    split at h
    all_goals first | (cases h; done) | skip
    all_goals
      rename_i hx
      cases h
      have hr := evO_R ht hx
      have hr' := hr
      simp only [R] at hr
    · obtain ⟨cb, co, _, h2⟩ := hr
      rw [h2] at hr' ⊢
      exact OpRun.now S hr'
    · obtain ⟨cb, o, c, e, f, h2, _⟩ := hr
      rw [h2] at hr' ⊢
      exact OpRun.now S hr'
    · rw [hr] at hr' ⊢
      exact OpRun.now S hr'
    · obtain ⟨b1, c1, h2, _⟩ := hr
      rw [h2] at hr' ⊢
      exact OpRun.now S hr'
    · obtain ⟨cb, co, _, h2⟩ := hr
      rw [h2] at hr' ⊢
      exact OpRun.now S hr'
  case binOp op t x y k =>
    split at h
    case h_2 => cases h
    rename_i p z hp hz
    rw [Option.map_eq_some_iff] at h
    obtain ⟨u, h1, h2⟩ := h
    cases h2
    exact OpRun.valR S (binE_run V (evO_R ht hp) (evO_R ht hz) h1)
  case unOp op t x =>
    split at h
    case h_2 => cases h
    rename_i p hp
    rw [Option.map_eq_some_iff] at h
    obtain ⟨u, h1, h2⟩ := h
    cases h2
    exact OpRun.valR S (unE_run (evO_R ht hp) h1)
  case convert s d x =>
    split at h
    · rename_i z _ _ _ _ _ e' _ _ _ _ _ hx hs hd
      split at h
      case h_2 => cases h
      rename_i _ _ _ _ hei
      cases h
      have hr := evO_R ht hx
      simp only [R] at hr
      rw [hr]
      exact OpRun.val (toBytes_run V S hs hd hei rfl rfl rfl hf)
    · rename_i hx hs hd
      split at h
      case h_2 => cases h
      rename_i cs hei hcs
      rw [Option.map_eq_some_iff] at h
      obtain ⟨u, h1, h2⟩ := h
      rw [Option.map_eq_some_iff] at h1
      obtain ⟨b', h1, rfl⟩ := h1
      cases h2
      exact OpRun.valR S (toStr_run V S hs hd hei rfl rfl rfl (evO_R ht hx) hcs h1)
    · rename_i x' hx _ _
      rw [Option.map_eq_some_iff] at h
      obtain ⟨u, h1, h2⟩ := h
      cases h2
      exact OpRun.valR S (convE_run V (evO_R ht hx) h1)
    · cases h
  case makeInterface t x =>
    split at h
    case h_2 => cases h
    rename_i i hi
    split at h
    · cases h
    · rename_i hni
      rw [Option.map_eq_some_iff] at h
      obtain ⟨u, h1, h2⟩ := h
      rw [Option.map_eq_some_iff] at h1
      obtain ⟨z, h1, rfl⟩ := h1
      cases h2
      refine OpRun.valR S ⟨.iface t (a.eval x), ?_, ?_⟩
      · unfold Instr.makeInterface
        simp only [Sem.run_bind, run_underlyingV V hi w, Result.andThen_ok]
        rfl
      · simp only [R]
        exact ⟨_, rfl, evO_R ht h1⟩
  case makeFunc f first cap =>
    cases f <;> try (cases h; done)
    rename_i f
    simp only at h
    split at h
    case h_2 => cases h
    rename_i a1 c1 h1 h2
    cases h
    refine OpRun.valR S ⟨.func (.func f) (first.map a.eval) (cap.map a.eval), rfl, ?_⟩
    simp only [R]
    refine ⟨_, _, rfl, ?_, ?_⟩
    · have := evL_R ht h1
      simpa using this
    · have := evL_R ht h2
      simpa using this
  case makeMap t r =>
    split at h
    · rename_i kt et _ _ _ _ _ hi hr
      cases h
      have := evOpt_R ht hr
      simp only [OptR] at this
      exact OpRun.val (makeMap_run V S hf hi rfl (.inl this))
    · rename_i kt et _ _ _ _ _ k n hi hr
      cases h
      have := evOpt_R ht hr
      simp only [OptR] at this
      obtain ⟨y, h1, h2⟩ := this
      simp only [R] at h2
      exact OpRun.val (makeMap_run V S hf hi rfl (.inr ⟨k, n, by rw [h1, h2]⟩))
    · cases h
  case makeSlice t l c =>
    split at h
    case h_2 => cases h
    rename_i x y hx hy
    rw [Option.map_eq_some_iff] at h
    obtain ⟨⟨u, l⟩, h1, h2⟩ := h
    cases h2
    exact OpRun.val (makeSlice_run V S hf (evO_R ht hx) (evO_R ht hy) h1)
  case slice t x lo hi mx =>
    split at h
    case h_2 => cases h
    rename_i xa la ha hx hl hh
    split at h
    · rw [Option.map_eq_some_iff] at h
      obtain ⟨u, h1, h2⟩ := h
      cases h2
      exact OpRun.valR S (sliceArrE_run V S (evO_R ht hx) (evOpt_R ht hl) (evOpt_R ht hh) h1)
    · rw [Option.map_eq_some_iff] at h
      obtain ⟨u, h1, h2⟩ := h
      cases h2
      exact OpRun.valR S (sliceE_run V (evO_R ht hx) (evOpt_R ht hl) (evOpt_R ht hh) h1)
  case fieldAddr t x f =>
    split at h
    case h_2 => cases h
    rename_i p hp
    rw [Option.map_eq_some_iff] at h
    obtain ⟨u, h1, h2⟩ := h
    cases h2
    exact OpRun.valR S (fieldAddrE_run V (evO_R ht hp) h1)
  case field t x f =>
    split at h
    case h_2 => cases h
    rename_i p hp
    rw [Option.map_eq_some_iff] at h
    obtain ⟨u, h1, h2⟩ := h
    cases h2
    exact OpRun.valR S (fieldE_run V (evO_R ht hp) h1)
  case indexAddr t x y =>
    split at h
    case h_2 => cases h
    rename_i p z hp hz
    rw [Option.map_eq_some_iff] at h
    obtain ⟨u, h1, h2⟩ := h
    cases h2
    exact OpRun.valR S (indexAddrE_run V (evO_R ht hp) (evO_R ht hz) h1)
  case index t x y =>
    split at h
    case h_2 => cases h
    rename_i p z hp hz
    rw [Option.map_eq_some_iff] at h
    obtain ⟨u, h1, h2⟩ := h
    cases h2
    exact OpRun.valR S (indexE_run V (evO_R ht hp) (evO_R ht hz) h1)
  case lookup t x y ok =>
    split at h
    case h_2 => cases h
    rename_i p z hp hz
    rw [Option.map_eq_some_iff] at h
    obtain ⟨u, h1, h2⟩ := h
    cases h2
    exact OpRun.valR S (lookup_run V S (evO_R ht hp) (evO_R ht hz) h1)
  case mapUpdate t m k x =>
    split at h
    case h_2 => cases h
    rename_i p z y hp hz hy
    rw [Option.map_eq_some_iff] at h
    obtain ⟨u, h1, h2⟩ := h
    cases h2
    exact OpRun.unit (mapUpdate_run V S (evO_R ht hp) (evO_R ht hz) (evO_R ht hy) h1)
  case insert t m k x =>
    split at h
    case h_2 => cases h
    rename_i p z y hp hz hy
    rw [Option.map_eq_some_iff] at h
    obtain ⟨u, h1, h2⟩ := h
    cases h2
    exact OpRun.unit (mapUpdate_run V S (evO_R ht hp) (evO_R ht hz) (evO_R ht hy) h1)
  case sliceToArrayPointer t x =>
    split at h
    · rename_i n el _ _ _ _ _ b off len esz kc hi hx
      split at h
      · cases h
      rename_i hlt
      cases h
      have hr := evO_R ht hx
      simp only [R] at hr
      obtain ⟨cb, co, cap, c, e', f, h1, h2, h3, h4, h5, h6⟩ := hr
      refine OpRun.valR S ⟨.pointer (some ⟨cb, co + off, none⟩), ?_, ?_⟩
      · rw [h2]
        simp only [Instr.arrayAt, Sem.run_bind, run_underlyingV V hi w, Result.andThen_ok, hlt, if_false, Sem.run_pure]
      · simp only [R]
        exact ⟨cb, co, h1, rfl⟩
    · rename_i n el _ _ _ _ _ cs len hi hx
      split at h
      · cases h
      rename_i hlt
      cases h
      have hr := evO_R ht hx
      simp only [R] at hr
      obtain ⟨cb, o', cap, c, e', f, h2, h3, h4, h5, h6⟩ := hr
      refine OpRun.valR S ⟨.pointer (some ⟨cb, o', none⟩), ?_, ?_⟩
      · rw [h2]
        simp only [Instr.arrayAt, Sem.run_bind, run_underlyingV V hi w, Result.andThen_ok, hlt, if_false, Sem.run_pure]
      · simp only [R]
        exact ⟨cb, o', c, e', f, by simp, h4, h5, h6⟩
    · cases h
  case range t x =>
    split at h
    case h_2 => cases h
    rename_i z hi hx
    cases h
    have hr := evO_R ht hx
    simp only [R] at hr
    rw [hr]
    exact OpRun.val (range_run V S hf hi rfl)
  case next it isS =>
    cases isS <;> try (cases h; done)
    simp only at h
    split at h
    case h_2 => cases h
    rename_i i hit
    split at h
    case h_2 => cases h
    rename_i z pos hb
    obtain ⟨n1, n2⟩ := next_run (P := P) S hb (evO_R ht hit) o.type
    split at h
    · rename_i hlt
      cases h
      obtain ⟨w', g1, g2⟩ := n1 hlt
      exact OpRun.val ⟨_, w', g1, g2⟩
    · rename_i hlt
      cases h
      exact OpRun.valR S ⟨_, n2 hlt, by simp [R, Rs]⟩
  case extract t i =>
    split at h
    case h_2 => cases h
    rename_i vs hx
    rw [Option.map_eq_some_iff] at h
    obtain ⟨u, h1, h2⟩ := h
    cases h2
    have hr := evO_R ht hx
    simp only [R] at hr
    obtain ⟨as, h3, h4⟩ := hr
    obtain ⟨y, h5, h6⟩ := h4.get _ _ h1
    refine OpRun.valR S ⟨y, ?_, h6⟩
    rw [h3]
    rw [Array.getElem?_toList] at h5
    simp only [Instr.extract, h5, Sem.run_pure]
  case call c =>
    split at h
    · rename_i bi hc
      split at h
      case h_2 => cases h
      rename_i as has
      rw [Option.map_eq_some_iff] at h
      obtain ⟨⟨u, l⟩, h1, h2⟩ := h
      cases h2
      have hr : Rs ι w (Live Lo ι H) as (c.args.map a.eval).toList := by
        have := evL_R ht has
        simpa using this
      obtain ⟨cv, w', g1, g2⟩ := builtinE_run (ty := o.type) (cs := c.args.map fun | .const _ => true | _ => false) V S hf hr h1
      refine ⟨.value cv, cv, w', ?_, .inl rfl, g2⟩
      simp only [resolve, hc, Sem.run_bind, Sem.run_pure, Result.andThen_ok, invoke]
      exact g1
    · rename_i f hc
      simp [callsValue, ho, hc] at hv
    · cases h
  all_goals (cases h)
end
end Dv

namespace Dv
open Go Go.RowKit
set_option linter.unusedSimpArgs false
set_option linter.unusedVariables false

section
variable {E : Env} {P : Program} {ι : Inj} {w : World} {L L' : Nat → Prop} {Lo : Nat → Prop} {w0 : World} {H : Hp}

theorem ext_less (h : ∀ c, L' c → L c) : Ext w L w L' := ⟨Nat.le_refl _, fun c _ hn => ⟨rfl, fun q => hn (h c q)⟩, fun _ cs _ f hc => ⟨cs, f, hc, rfl⟩⟩

mutual
theorem R_pure (hL : ∀ c, L' c → L c) : ∀ (av : AV) (v : Value), isPure av = true → R ι w L av v → R noInj w L' av v
  | .bool _, _, _, h => by simpa [R] using h
  | .int _ _, _, _, h => by simpa [R] using h
  | .str _, _, _, h => by simpa [R] using h
  | .nilptr, _, _, h => by simpa [R] using h
  | .hptr _ _, _, p, _ => by simp [isPure] at p
  | .vptr cs off, v, _, h => R.ext (ext_less hL) _ noInj _ _ (Inj.le_refl _) (by simpa only [R] using h)
  | .gptr _ _, _, _, h => by simpa [R] using h
  | .nilslice, _, _, h => by simpa [R] using h
  | .eslice, _, _, h => by simpa [R] using h
  | .hslice _ _ _ _ _, _, p, _ => by simp [isPure] at p
  | .vslice cs n, _, _, h => R.ext (ext_less hL) _ noInj _ _ (Inj.le_refl _) (by simpa only [R] using h)
  | .nilmap, _, _, h => by simpa [R] using h
  | .hmap _, _, p, _ => by simp [isPure] at p
  | .vmap ks vs, _, _, h => R.ext (ext_less hL) _ noInj _ _ (Inj.le_refl _) (by simpa only [R] using h)
  | .nilfunc, _, _, h => by simpa [R] using h
  | .func f a b, _, p, h => by
    simp only [isPure, Bool.and_eq_true] at p
    simp only [R] at h ⊢
    obtain ⟨x, y, h1, h2, h3⟩ := h
    exact ⟨x, y, h1, Rs_pure hL _ _ p.1 h2, Rs_pure hL _ _ p.2 h3⟩
  | .nilIface, _, _, h => by simpa [R] using h
  | .iface _ x, _, p, h => by
    simp only [isPure] at p
    simp only [R] at h ⊢
    obtain ⟨y, h1, h2⟩ := h
    exact ⟨y, h1, R_pure hL _ _ p h2⟩
  | .agg cs, _, p, h => by
    simp only [isPure] at p
    simp only [R] at h ⊢
    obtain ⟨y, h1, h2⟩ := h
    exact ⟨y, h1, Rs_pure hL _ _ p h2⟩
  | .tuple cs, _, p, h => by
    simp only [isPure] at p
    simp only [R] at h ⊢
    obtain ⟨y, h1, h2⟩ := h
    exact ⟨y, h1, Rs_pure hL _ _ p h2⟩
  | .yield _, _, p, _ => by simp [isPure] at p
theorem Rs_pure (hL : ∀ c, L' c → L c) : ∀ (xs : List AV) (vs : List Value), isPureL xs = true → Rs ι w L xs vs → Rs noInj w L' xs vs
  | [], _, _, h => by simpa [Rs] using h
  | x :: xs, _, p, h => by
    simp only [isPureL, Bool.and_eq_true] at p
    simp only [Rs] at h ⊢
    obtain ⟨y, ys, h1, h2, h3⟩ := h
    exact ⟨y, ys, h1, R_pure hL _ _ p.1 h2, Rs_pure hL _ _ p.2 h3⟩
end

theorem mapO_Rs {f : AV → Option (AV × List Nat)} {J : Nat → Prop} (hf : ∀ (x : AV) (v : Value) (r : AV) (bs : List Nat), R ι w L x v → f x = some (r, bs) → (∀ b, b ∈ bs → J b) → R noInj w L' r v) :
    ∀ (xs : List AV) (vs : List Value) (rs : List (AV × List Nat)), Rs ι w L xs vs → mapO f xs = some rs → (∀ b, b ∈ rs.flatMap (·.2) → J b) → Rs noInj w L' (rs.map (·.1)) vs
  | [], vs, rs, h, hm, _ => by
    simp only [mapO, Option.some.injEq] at hm; subst hm
    simpa [Rs] using h
  | x :: xs, vs, rs, h, hm, hb => by
    simp only [Rs] at h
    obtain ⟨y, ys, rfl, h2, h3⟩ := h
    unfold mapO at hm
    split at hm
    · cases hm
    rename_i r0 hr0
    split at hm
    · cases hm
    rename_i rs0 hrs0
    cases hm
    obtain ⟨r, bs⟩ := r0
    simp only [List.map_cons, Rs]
    simp only [List.flatMap_cons, List.mem_append] at hb
    exact ⟨y, ys, rfl, hf _ _ _ _ h2 hr0 (fun b q => hb b (.inl q)), mapO_Rs hf _ _ _ h3 hrs0 (fun b q => hb b (.inr q))⟩

theorem RAt_of_Rs {c : Array Value} {o : Nat} : ∀ {xs ys : List AV}, ys.length = xs.length → RAt ι w L c o xs → Rs noInj w L' ys (c.extract o (o + xs.length)).toList → RAt noInj w L' c o ys := by
  intro xs ys hl h1 h2
  refine RAt.of_get fun i x hx => ?_
  obtain ⟨v, g1, g2⟩ := h2.get i x hx
  refine ⟨v, ?_, g2⟩
  rw [Array.getElem?_toList, Array.getElem?_extract] at g1
  split at g1
  · exact g1
  · cases g1

theorem mapO_len {α β : Type} {f : α → Option β} : ∀ {xs : List α} {rs : List β}, mapO f xs = some rs → rs.length = xs.length
  | [], rs, h => by simp only [mapO, Option.some.injEq] at h; subst h; rfl
  | x :: xs, rs, h => by
    unfold mapO at h
    split at h
    · cases h
    split at h
    · cases h
    rename_i hr
    cases h
    simp [mapO_len hr]

theorem fz_sound (S : Sim E Lo w0 ι H w) (hL : ∀ c, L' c → Live Lo ι H c) : ∀ (n : Nat) (av : AV) (v : Value) (r : AV) (bs : List Nat), R ι w (Live Lo ι H) av v → fz H n av = some (r, bs) →
    (∀ b, b ∈ bs → ∀ cb co, ι b = some (cb, co) → ¬ L' cb) → R noInj w L' r v
  | 0, _, _, _, _, _, h, _ => by simp [fz] at h
  | n + 1, av, v, r, bs, hr, h, hb => by
    have ih := fz_sound S hL n
    have lst : ∀ (cs : List AV) (vs : List Value) (rs : List (AV × List Nat)), Rs ι w (Live Lo ι H) cs vs → mapO (fz H n) cs = some rs → (∀ b, b ∈ rs.flatMap (·.2) → ∀ cb co, ι b = some (cb, co) → ¬ L' cb) →
        Rs noInj w L' (rs.map (·.1)) vs := fun cs vs rs h1 h2 h3 => mapO_Rs (J := fun b => ∀ cb co, ι b = some (cb, co) → ¬ L' cb) (fun x v r bs a b c => ih x v r bs a b c) cs vs rs h1 h2 h3
    have base : ∀ (_ : isPure av = true), R noInj w L' av v := fun p => R_pure hL _ _ p hr
    cases av <;> simp only [fz] at h
    case hptr b off =>
      split at h
      case h_2 => cases h
      rename_i st cs hbk
      split at h
      · cases h
      rename_i hst
      rw [Option.map_eq_some_iff] at h
      obtain ⟨⟨c', bs'⟩, h1, h2⟩ := h
      rw [Option.map_eq_some_iff] at h1
      obtain ⟨rs, h1, h3⟩ := h1
      cases h3; cases h2
      obtain ⟨cb, co, o, g1, g2, g3, _⟩ := S.obj b _ hbk hst
      simp only [ObjR] at g3
      obtain ⟨c, e, f, q1, q2, _⟩ := g3
      simp only [R] at hr
      obtain ⟨cb', co', r1, r2⟩ := hr
      rw [g1] at r1; cases r1
      simp only [R]
      refine ⟨cb, co, c, e, f, r2, by rw [g2, q1], hb b (by simp) cb co g1, ?_⟩
      refine RAt_of_Rs (by simp [mapO_len h1]) q2 (lst _ _ _ q2.list h1 fun b' q => hb b' (by simp at q ⊢; exact .inr q))
    case hslice b off len esz kc =>
      split at h
      case h_2 => cases h
      rename_i st cs hbk
      split at h
      · cases h
      rename_i hst
      simp only [Bool.or_eq_true, decide_eq_true_eq, not_or, Nat.not_lt] at hst
      rw [Option.map_eq_some_iff] at h
      obtain ⟨⟨c', bs'⟩, h1, h2⟩ := h
      rw [Option.map_eq_some_iff] at h1
      obtain ⟨rs, h1, h3⟩ := h1
      cases h3; cases h2
      obtain ⟨cb, co, o, g1, g2, g3, _⟩ := S.obj b _ hbk hst.1
      simp only [ObjR] at g3
      obtain ⟨c, e, f, q1, q2, _⟩ := g3
      simp only [R] at hr
      obtain ⟨cb', co', cap, c2, e2, f2, r1, r2, r3, r4, r5, r6⟩ := hr
      rw [g1] at r1; cases r1
      rw [g2, q1] at r5; cases r5
      simp only [R]
      refine ⟨cb, co + off, cap, c, e, f, r2, by omega, by rw [g2, q1], hb b (by simp) cb co g1, ?_⟩
      have q3 := (q2.drop off).take (len * esz)
      exact RAt_of_Rs (by simp [mapO_len h1]) q3 (lst _ _ _ q3.list h1 fun b' q => hb b' (by simp at q ⊢; exact .inr q))
    case hmap b =>
      split at h
      case h_2 => cases h
      rename_i st ks vs hbk
      split at h
      · cases h
      rename_i hst
      split at h
      case h_2 => cases h
      rename_i k b1 v' b2 hk hv
      cases h
      rw [Option.map_eq_some_iff] at hk hv
      obtain ⟨rk, hk, hk2⟩ := hk
      obtain ⟨rv, hv, hv2⟩ := hv
      cases hk2; cases hv2
      obtain ⟨cb, co, o, g1, g2, g3, _⟩ := S.obj b _ hbk hst
      simp only [ObjR] at g3
      obtain ⟨es, clock, q1, q2, q3, _⟩ := g3
      simp only [R] at hr
      obtain ⟨cb', co', r1, r2⟩ := hr
      rw [g1] at r1; cases r1
      simp only [R]
      refine ⟨cb, es, clock, r2, by rw [g2, q1], hb b (by simp) cb co g1, lst _ _ _ q2 hk fun b' q => hb b' ?_, lst _ _ _ q3 hv fun b' q => hb b' ?_⟩
      · simp at q ⊢; exact .inr (.inl q)
      · simp at q ⊢; exact .inr (.inr q)
    case agg cs =>
      rw [Option.map_eq_some_iff] at h
      obtain ⟨⟨c', bs'⟩, h1, h2⟩ := h
      rw [Option.map_eq_some_iff] at h1
      obtain ⟨rs, h1, h3⟩ := h1
      cases h3; cases h2
      simp only [R] at hr ⊢
      obtain ⟨vs, h4, h5⟩ := hr
      exact ⟨vs, h4, lst _ _ _ h5 h1 hb⟩
    case tuple cs =>
      rw [Option.map_eq_some_iff] at h
      obtain ⟨⟨c', bs'⟩, h1, h2⟩ := h
      rw [Option.map_eq_some_iff] at h1
      obtain ⟨rs, h1, h3⟩ := h1
      cases h3; cases h2
      simp only [R] at hr ⊢
      obtain ⟨vs, h4, h5⟩ := hr
      exact ⟨vs, h4, lst _ _ _ h5 h1 hb⟩
    case iface t x =>
      rw [Option.map_eq_some_iff] at h
      obtain ⟨⟨c', bs'⟩, h1, h2⟩ := h
      cases h2
      simp only [R] at hr ⊢
      obtain ⟨y, h4, h5⟩ := hr
      exact ⟨y, h4, ih _ _ _ _ h5 h1 hb⟩
    case func f a c =>
      split at h
      case h_2 => cases h
      rename_i a' b1 c' b2 hk hv
      cases h
      rw [Option.map_eq_some_iff] at hk hv
      obtain ⟨rk, hk, hk2⟩ := hk
      obtain ⟨rv, hv, hv2⟩ := hv
      cases hk2; cases hv2
      simp only [R] at hr ⊢
      obtain ⟨x, y, h1, h2, h3⟩ := hr
      exact ⟨x, y, h1, lst _ _ _ h2 hk fun b' q => hb b' (List.mem_append_left _ q), lst _ _ _ h3 hv fun b' q => hb b' (List.mem_append_right _ q)⟩
    case yield l => cases h
    all_goals
      cases h
      exact base rfl

theorem mark_get : ∀ (bs : List Nat) (H : Hp) (b : Nat), (mark H bs)[b]? = if b ∈ bs then (H[b]?).map Blk.toRo else H[b]? := by
  intro bs
  induction bs with
  | nil => intro H b; simp [mark]
  | cons x bs ih =>
    intro H b
    have idem : ∀ k : Blk, k.toRo.toRo = k.toRo := by
      intro k
      cases k
      case cells st cs => cases st <;> rfl
      case map st ks vs => cases st <;> rfl
      case siter => rfl
      case loop => rfl
    have := ih (H.modify x Blk.toRo) b
    simp only [mark, List.foldl_cons] at this ⊢
    rw [this, List.getElem?_modify]
    by_cases e : x = b
    · subst e
      by_cases hm : x ∈ bs
      · simp [hm]
        cases H[x]? <;> simp [idem]
      · simp [hm]
    · have e' : b ≠ x := fun q => e q.symm
      simp [e, e']

theorem mark_len (bs : List Nat) : ∀ (H : Hp), (mark H bs).length = H.length := by
  induction bs with
  | nil => intro H; rfl
  | cons x bs ih => intro H; simp only [mark, List.foldl_cons] at ih ⊢; rw [ih]; simp

theorem toRo_cases (k : Blk) : k.toRo = k ∧ (k.st = .live → ∃ s p, k = .siter s p ∨ ∃ a b c d e f, k = .loop a b c d e f) ∨
    k.st = .live ∧ k.toRo.st = .ro ∧ ∀ ι w L co o, ObjR ι w L co k o → ObjR ι w L co k.toRo o := by
  cases k
  case cells st cs =>
    cases st
    · exact .inr ⟨rfl, rfl, fun ι w L co o h => by simp only [Blk.toRo, ObjR] at h ⊢; obtain ⟨c, e, f, h1, h2, _⟩ := h; exact ⟨c, e, f, h1, h2, fun q => by cases q⟩⟩
    · exact .inl ⟨rfl, fun q => by cases q⟩
    · exact .inl ⟨rfl, fun q => by cases q⟩
  case map st ks vs =>
    cases st
    · exact .inr ⟨rfl, rfl, fun ι w L co o h => by simp only [Blk.toRo, ObjR] at h ⊢; obtain ⟨es, c, h1, h2, h3, _⟩ := h; exact ⟨es, c, h1, h2, h3, fun q => by cases q⟩⟩
    · exact .inl ⟨rfl, fun q => by cases q⟩
    · exact .inl ⟨rfl, fun q => by cases q⟩
  case siter s p => exact .inl ⟨rfl, fun _ => ⟨s, p, .inl rfl⟩⟩
  case loop a b c d e f => exact .inl ⟨rfl, fun _ => ⟨[], 0, .inr ⟨a, b, c, d, e, f, rfl⟩⟩⟩

theorem Sim.mark (S : Sim E Lo w0 ι H w) (bs : List Nat) : Sim E Lo w0 ι (mark H bs) w ∧ Ext w (Live Lo ι H) w (Live Lo ι (mark H bs)) :=
  S.weaken (mark_len bs H) (fun b hb => by
    rw [mark_get] at hb
    split at hb
    · rw [Option.map_eq_some_iff] at hb
      obtain ⟨k, h1, h2⟩ := hb
      rw [h1]
      cases k <;> simp only [deadB, Blk.toRo] at h2 ⊢
      case cells st cs => cases st <;> simp [Blk.toRo] at h2 ⊢; exact h2
      case map st a b => cases st <;> simp [Blk.toRo] at h2
      all_goals cases h2
    · exact hb) fun b blk hb hd => by
    rw [mark_get] at hb
    split at hb
    · rw [Option.map_eq_some_iff] at hb
      obtain ⟨k, h1, rfl⟩ := hb
      rcases toRo_cases k with ⟨h2, _⟩ | ⟨h2, h3, h4⟩
      · rw [h2]; exact .inl h1
      · exact .inr ⟨k, h1, h2, h3, h4⟩
    · exact .inl hb

theorem mapO_mem {f : AV → Option (AV × List Nat)} {J : Nat → Prop} (hf : ∀ (x r : AV) (bs : List Nat), f x = some (r, bs) → ∀ b, b ∈ bs → J b) :
    ∀ (xs : List AV) (rs : List (AV × List Nat)), mapO f xs = some rs → ∀ b, b ∈ rs.flatMap (·.2) → J b
  | [], rs, hm, b, hb => by
    simp only [mapO, Option.some.injEq] at hm; subst hm
    simp at hb
  | x :: xs, rs, hm, b, hb => by
    unfold mapO at hm
    split at hm
    · cases hm
    rename_i r0 hr0
    split at hm
    · cases hm
    rename_i rs0 hrs0
    cases hm
    simp only [List.flatMap_cons, List.mem_append] at hb
    rcases hb with hb | hb
    · exact hf _ _ _ hr0 b hb
    · exact mapO_mem hf _ _ hrs0 b hb

def RoNow (H : Hp) (b : Nat) : Prop := ∃ blk, H[b]? = some blk ∧ blk.st ≠ .dead ∧ blk.toRo.st = .ro

/-- what the blocks that a frozen value reaches are, when they are marked -/
theorem fz_cells (H : Hp) : ∀ (n : Nat) (av r : AV) (bs : List Nat), fz H n av = some (r, bs) → ∀ b, b ∈ bs → RoNow H b
  | 0, _, _, _, h, _, _ => by simp [fz] at h
  | n + 1, av, r, bs, h, b0, hb0 => by
    have lst : ∀ (cs : List AV) (rs : List (AV × List Nat)), mapO (fz H n) cs = some rs → ∀ b, b ∈ rs.flatMap (·.2) → RoNow H b :=
      fun cs rs => mapO_mem (fun x r bs h b hb => fz_cells H n x r bs h b hb) cs rs
    have here : ∀ (st : BSt) (cs : List AV) (b : Nat), H[b]? = some (.cells st cs) → st ≠ .dead → RoNow H b := fun st cs b h1 h2 =>
      ⟨_, h1, h2, by cases st <;> first | rfl | exact absurd rfl h2⟩
    cases av <;> simp only [fz] at h
    case hptr b off =>
      split at h
      case h_2 => cases h
      rename_i st cs hbk
      split at h
      · cases h
      rename_i hst
      rw [Option.map_eq_some_iff] at h
      obtain ⟨⟨c', bs'⟩, h1, h2⟩ := h
      rw [Option.map_eq_some_iff] at h1
      obtain ⟨rs, h1, h3⟩ := h1
      cases h3; cases h2
      rcases List.mem_cons.1 hb0 with rfl | hb
      · exact here _ _ _ hbk hst
      · exact lst _ _ h1 _ hb
    case hslice b off len esz kc =>
      split at h
      case h_2 => cases h
      rename_i st cs hbk
      split at h
      · cases h
      rename_i hst
      simp only [Bool.or_eq_true, decide_eq_true_eq, not_or, Nat.not_lt] at hst
      rw [Option.map_eq_some_iff] at h
      obtain ⟨⟨c', bs'⟩, h1, h2⟩ := h
      rw [Option.map_eq_some_iff] at h1
      obtain ⟨rs, h1, h3⟩ := h1
      cases h3; cases h2
      rcases List.mem_cons.1 hb0 with rfl | hb
      · exact here _ _ _ hbk hst.1
      · exact lst _ _ h1 _ hb
    case hmap b =>
      split at h
      case h_2 => cases h
      rename_i st ks vs hbk
      split at h
      · cases h
      rename_i hst
      split at h
      case h_2 => cases h
      rename_i k b1 v' b2 hk hv
      cases h
      rw [Option.map_eq_some_iff] at hk hv
      obtain ⟨rk, hk, hk2⟩ := hk
      obtain ⟨rv, hv, hv2⟩ := hv
      cases hk2; cases hv2
      rcases List.mem_cons.1 hb0 with rfl | hb
      · exact ⟨_, hbk, hst, by cases st <;> first | rfl | exact absurd rfl hst⟩
      · rcases List.mem_append.1 hb with hb | hb
        · exact lst _ _ hk _ hb
        · exact lst _ _ hv _ hb
    case agg cs =>
      rw [Option.map_eq_some_iff] at h
      obtain ⟨⟨c', bs'⟩, h1, h2⟩ := h
      rw [Option.map_eq_some_iff] at h1
      obtain ⟨rs, h1, h3⟩ := h1
      cases h3; cases h2
      exact lst _ _ h1 _ hb0
    case tuple cs =>
      rw [Option.map_eq_some_iff] at h
      obtain ⟨⟨c', bs'⟩, h1, h2⟩ := h
      rw [Option.map_eq_some_iff] at h1
      obtain ⟨rs, h1, h3⟩ := h1
      cases h3; cases h2
      exact lst _ _ h1 _ hb0
    case iface t x =>
      rw [Option.map_eq_some_iff] at h
      obtain ⟨⟨c', bs'⟩, h1, h2⟩ := h
      cases h2
      exact fz_cells H n _ _ _ h1 _ hb0
    case func f a c =>
      split at h
      case h_2 => cases h
      rename_i a' b1 c' b2 hk hv
      cases h
      rw [Option.map_eq_some_iff] at hk hv
      obtain ⟨rk, hk, hk2⟩ := hk
      obtain ⟨rv, hv, hv2⟩ := hv
      cases hk2; cases hv2
      rcases List.mem_append.1 hb0 with hb | hb
      · exact lst _ _ hk _ hb
      · exact lst _ _ hv _ hb
    case yield l => cases h
    all_goals
      cases h
      simp at hb0

theorem freezeL_sound (S : Sim E Lo w0 ι H w) {vs as : List AV} {cvs : List Value} {bs : List Nat} (hr : Rs ι w (Live Lo ι H) vs cvs) (h : freezeL H vs = some (as, bs)) :
    Rs noInj w (Live Lo ι (mark H bs)) as cvs := by
  have M := S.mark bs
  have hL : ∀ c, Live Lo ι (mark H bs) c → Live Lo ι H c := by
    rintro c (hc | ⟨b, bk, co, h1, h2, h3⟩)
    · exact .inl hc
    · rw [mark_get] at h1
      split at h1
      · rw [Option.map_eq_some_iff] at h1
        obtain ⟨k, h4, rfl⟩ := h1
        rcases toRo_cases k with ⟨h5, _⟩ | ⟨_, h5, _⟩
        · rw [h5] at h2; exact .inr ⟨b, k, co, h4, h2, h3⟩
        · rw [h2] at h5; cases h5
      · exact .inr ⟨b, bk, co, h1, h2, h3⟩
  unfold freezeL at h
  split at h
  · rename_i hp
    cases h
    exact Rs_pure hL _ _ hp hr
  split at h
  · cases h
  rename_i r hm
  cases h
  refine mapO_Rs (J := fun b => b ∈ r.flatMap (·.2)) (f := fz H 40) (fun x v rr bs h1 h2 h3 => fz_sound S hL 40 x v rr bs h1 h2 fun b hb cb co hi => ?_) vs cvs r hr hm (fun b hb => hb)
  obtain ⟨blk, g1, g2, g3⟩ := fz_cells H 40 x rr bs h2 b hb
  have g4 : (mark H (r.flatMap (·.2)))[b]? = some blk.toRo := by
    rw [mark_get, if_pos (h3 b hb), g1]; rfl
  obtain ⟨cb', co', o, k1, k2, k3, k4, k5⟩ := M.1.obj b _ g4 (by rw [g3]; simp)
  rw [hi] at k1; cases k1
  exact k5 g3
end
end Dv
