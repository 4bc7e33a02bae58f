/-
  Statements whose order is open; the evaluator is sound; its environment off a program; tables.
-/
import Derived.Test.YtbaficijlppeoaaGreatDoorEvC
set_option linter.unusedSimpArgs false
set_option linter.unusedVariables false

namespace Dv
open Go Go.RowKit
set_option linter.unusedSimpArgs false
set_option linter.unusedVariables false

section
variable {E : Env} {pc : Pc} {ic yc : Ic} {dr : Bool} {ts ts' : List AV} {H H' : Hp} {nid nid' : Nat} {o : Oper}

/-! ### slots -/
theorem evL_congr : ∀ (xs : List Operand), (∀ x, x ∈ xs → evO ts x = evO ts' x) → evL ts xs = evL ts' xs
  | [], _ => rfl
  | x :: xs, h => by
    simp only [evL, h x (by simp), evL_congr xs fun y hy => h y (by simp [hy])]

theorem evP_congr : ∀ (ps : List (Nat × Operand)), (∀ x, x ∈ ps.map (·.2) → evO ts x = evO ts' x) → evP ts ps = evP ts' ps
  | [], _ => rfl
  | (i, x) :: ps, h => by
    simp only [evP, h x (by simp), evP_congr ps fun y hy => h y (by simp only [List.map_cons, List.mem_cons]; exact .inr hy)]

theorem evOpt_congr (x : Option Operand) (h : ∀ y, y ∈ x.toList → evO ts y = evO ts' y) : evOpt ts x = evOpt ts' x := by
  cases x with
  | none => rfl
  | some x => simp only [evOpt, h x (by simp)]

theorem opE_congr (h : ∀ x, x ∈ o.op.operands.toList → evO ts x = evO ts' x) : opE E pc ic yc dr ts H nid o = opE E pc ic yc dr ts' H nid o := by
  unfold opE
  cases ho : o.op <;> simp only [ho, Op.operands] at h ⊢
  case move x => rw [h x (by simp)]
  case assign x => rw [h x (by simp)]
  case pick c a b =>
    rw [h c (by simp)]
    split
    · split <;> rw [h _ (by simp)]
    · rfl
  case box t x => rw [h x (by simp)]
  case build t ps => rw [evP_congr ps.toList (fun x hx => h x (by simpa using hx))]
  case buildSlice t len ps => rw [evP_congr ps.toList (fun x hx => h x (by simpa using hx))]
  case load t x => rw [h x (by simp)]
  case store t x y => rw [h x (by simp), h y (by simp)]
  case nilCheck x => rw [h x (by simp)]
  case binOp op t x y _ => rw [h x (by simp), h y (by simp)]
  case unOp op t x => rw [h x (by simp)]
  case convert s d x => rw [h x (by simp)]
  case makeInterface t x => rw [h x (by simp)]
  case makeFunc fn first cap =>
    cases fn <;> try rfl
    simp only
    rw [evL_congr first.toList (fun x hx => h x (by simp at hx ⊢; exact .inl hx)), evL_congr cap.toList (fun x hx => h x (by simp at hx ⊢; exact .inr hx))]
  case makeMap t r => rw [evOpt_congr r (fun x hx => h x (by simpa using hx))]
  case makeSlice t x y => rw [h x (by simp), h y (by simp)]
  case slice t x lo hi mx =>
    rw [h x (by simp), evOpt_congr lo (fun x hx => h x (by simp at hx ⊢; simp [hx])), evOpt_congr hi (fun x hx => h x (by simp at hx ⊢; simp [hx]))]
  case fieldAddr t x f => rw [h x (by simp)]
  case field t x f => rw [h x (by simp)]
  case indexAddr t x i => rw [h x (by simp), h i (by simp)]
  case index t x i => rw [h x (by simp), h i (by simp)]
  case lookup t x i ok => rw [h x (by simp), h i (by simp)]
  case mapUpdate t m k x => rw [h m (by simp), h k (by simp), h x (by simp)]
  case insert t m k x => rw [h m (by simp), h k (by simp), h x (by simp)]
  case sliceToArrayPointer t x => rw [h x (by simp)]
  case range t x => rw [h x (by simp)]
  case next it s =>
    cases s <;> try rfl
    simp only
    rw [h it (by simp)]
  case extract t i => rw [h t (by simp)]
  case call c =>
    rw [evL_congr c.args.toList (fun x hx => h x (by simp only [Call.operands, Array.toList_append, List.mem_append]; exact .inr hx))]
    cases hc : c.callee with
    | builtin b => rfl
    | invoke r m => rfl
    | value f => simp only; rw [h f (by simp [Call.operands, hc])]

theorem builtinE_nid {b : Builtin} (h : b ≠ .append) (ats : List Nat) (as : List AV) : builtinE E H nid b ats as = builtinE E H nid' b ats as := by
  unfold builtinE
  cases b <;> first | exact absurd rfl h | skip
  all_goals rcases ats with _ | ⟨t, _ | ⟨u, r⟩⟩ <;> rcases as with _ | ⟨x, _ | ⟨y, s⟩⟩ <;> first | rfl | (cases x <;> rfl)

theorem opE_nid (h : laysE E o = false) : opE E pc ic yc dr ts H nid o = opE E pc ic yc dr ts H nid' o := by
  unfold opE
  unfold laysE at h
  cases ho : o.op <;> simp only [ho] at h ⊢ <;> try (cases h; done)
  case convert s d x =>
    split <;> rename_i h1 <;> try rfl
    all_goals (simp [*] at h)
  case call c =>
    cases hc : c.callee with
    | invoke r m => rfl
    | value f => rfl
    | builtin b =>
      simp only [hc] at h
      have hb : b ≠ .append := fun q => by subst q; simp at h
      simp only
      split
      · rw [builtinE_nid (nid := nid) (nid' := nid') hb]
      · rfl
  case makeFunc fn first cap => cases fn <;> rfl
  case next it s => cases s <;> rfl

theorem builtinE_n {b : Builtin} (hb : b = .cap ∨ b = .max ∨ b = .min) {ats : List Nat} {as : List AV} {y : AV} {l : List (Nat × Blk)} (h : builtinE E H nid b ats as = some (y, l)) :
    l = [] ∧ ∀ H' nid', builtinE E H' nid' b ats as = some (y, l) := by
  have key : ∀ {r : Option AV}, (r.map fun v => (v, ([] : List (Nat × Blk)))) = some (y, l) → l = [] := fun {r} h => by
    rw [Option.map_eq_some_iff] at h
    obtain ⟨_, _, q⟩ := h
    cases q; rfl
  rcases hb with rfl | rfl | rfl
  · rcases ats with _ | ⟨t, ats⟩
    · cases h
    rcases as with _ | ⟨x, as⟩
    · cases h
    cases x <;> try (cases h; done)
    have h' : (match E.ty t with
      | some { und := .slice _, .. } => some (AV.int .i64 0, ([] : List (Nat × Blk)))
      | _ => none) = some (y, l) := h
    refine ⟨?_, fun _ _ => h⟩
    split at h'
    · cases h'; rfl
    · cases h'
  · rcases as with _ | ⟨x, as⟩
    · rcases ats with _ | ⟨t, _ | ⟨u, r⟩⟩ <;> cases h
    · have e1 : ∀ H nid, builtinE E H nid .max ats (x :: as) = ((foldE max2E x as).map fun v => (v, [])) := fun H nid => by
        rcases ats with _ | ⟨t, _ | ⟨u, r⟩⟩ <;> rcases as with _ | ⟨y, s⟩ <;> cases x <;> rfl
      rw [e1] at h
      exact ⟨key h, fun _ _ => by rw [e1]; exact h⟩
  · rcases as with _ | ⟨x, as⟩
    · rcases ats with _ | ⟨t, _ | ⟨u, r⟩⟩ <;> cases h
    · have e1 : ∀ H nid, builtinE E H nid .min ats (x :: as) = ((foldE min2E x as).map fun v => (v, [])) := fun H nid => by
        rcases ats with _ | ⟨t, _ | ⟨u, r⟩⟩ <;> rcases as with _ | ⟨y, s⟩ <;> cases x <;> rfl
      rw [e1] at h
      exact ⟨key h, fun _ _ => by rw [e1]; exact h⟩

/-- class n: no heap -/
theorem opE_n (hc : clsE E o = .n) {v : AV} {e : Eff} (h : opE E pc ic yc dr ts H nid o = some (v, e)) : e = .sets [] ∧ ∀ H' nid', opE E pc ic yc dr ts H' nid' o = some (v, e) := by
  have key : ∀ {r : Option AV}, (r.map fun x => (x, Eff.sets [])) = some (v, e) → e = .sets [] := fun {r} h => by
    rw [Option.map_eq_some_iff] at h
    obtain ⟨_, _, q⟩ := h
    cases q; rfl
  unfold opE at h
  unfold clsE at hc
  unfold opE
  cases ho : o.op <;> simp only [ho] at hc h ⊢ <;> try (cases hc; done)
  case move x => exact ⟨key h, fun _ _ => h⟩
  case assign x => exact ⟨key h, fun _ _ => h⟩
  case pick c a b =>
    split at h
    · exact ⟨key h, fun _ _ => h⟩
    · cases h
  case build t ps =>
    split at h
    · exact ⟨key h, fun _ _ => h⟩
    · cases h
  case nilCheck x =>
    split at h <;> first | exact ⟨key h, fun _ _ => h⟩ | (cases h; done)
  case binOp op t x y _ =>
    split at h
    · exact ⟨key h, fun _ _ => h⟩
    · cases h
  case unOp op t x =>
    split at h
    · exact ⟨key h, fun _ _ => h⟩
    · cases h
  case makeInterface t x =>
    split at h
    · split at h
      · cases h
      · exact ⟨key h, fun _ _ => h⟩
    · cases h
  case makeFunc fn first cap =>
    cases fn <;> simp only at h ⊢ <;> try (cases h; done)
    split at h
    · exact ⟨key h, fun _ _ => h⟩
    · cases h
  case fieldAddr t x f =>
    split at h
    · exact ⟨key h, fun _ _ => h⟩
    · cases h
  case field t x f =>
    split at h
    · exact ⟨key h, fun _ _ => h⟩
    · cases h
  case indexAddr t x i =>
    split at h
    · exact ⟨key h, fun _ _ => h⟩
    · cases h
  case index t x i =>
    split at h
    · exact ⟨key h, fun _ _ => h⟩
    · cases h
  case sliceToArrayPointer t x =>
    split at h
    · split at h
      · cases h
      · rename_i hlt; rw [if_neg hlt]; exact ⟨key h, fun _ _ => h⟩
    · split at h
      · cases h
      · rename_i hlt; rw [if_neg hlt]; exact ⟨key h, fun _ _ => h⟩
    · cases h
  case extract t i =>
    split at h
    · exact ⟨key h, fun _ _ => h⟩
    · cases h
  case slice t x lo hi mx =>
    split at h
    · split at h
      · simp [*] at hc
      · rename_i hne
        refine ⟨key h, fun _ _ => ?_⟩
        exact h
    · cases h
  case convert s d x =>
    split at hc <;> cases hc
  case call c =>
    cases hcal : c.callee with
    | invoke r m => simp only [hcal] at h; cases h
    | value f =>
      simp only [hcal] at hc
      cases f <;> simp only at hc <;> try (cases hc; done)
      split at hc <;> cases hc
    | builtin b =>
      simp only [hcal] at h ⊢
      split at h
      case h_2 => cases h
      rename_i as has
      rw [Option.map_eq_some_iff] at h
      obtain ⟨⟨y, l⟩, h1, h2⟩ := h
      cases h2
      have hb : b = .cap ∨ b = .max ∨ b = .min := by
        simp only [hcal] at hc
        cases b <;> simp at hc ⊢
      obtain ⟨g1, g2⟩ := builtinE_n hb h1
      subst g1
      exact ⟨rfl, fun H' nid' => by rw [g2 H' nid']; rfl⟩
end
end Dv

namespace Dv
open Go Go.RowKit
set_option linter.unusedSimpArgs false
set_option linter.unusedVariables false

/-- the same block, perhaps only read from now on -/
def AgR (H H' : Hp) (b : Nat) : Prop := (H'[b]?).map Blk.toRo = (H[b]?).map Blk.toRo

section
variable {E : Env} {pc : Pc} {ic yc : Ic} {dr : Bool} {ts ts' : List AV} {H H' : Hp} {nid nid' : Nat} {o : Oper} {b : Nat}

theorem AgR.cells (h : AgR H H' b) {st : BSt} {cs : List AV} (hb : H[b]? = some (.cells st cs)) (hd : st ≠ .dead) : ∃ st', H'[b]? = some (.cells st' cs) ∧ st' ≠ .dead := by
  unfold AgR at h
  rw [hb] at h
  simp only [Option.map_some, Option.map_eq_some_iff] at h
  obtain ⟨k, h1, h2⟩ := h
  cases k <;> cases st <;> simp only [Blk.toRo] at h2 <;> try (exact absurd rfl hd)
  case cells.live st' cs' => cases st' <;> simp only [Blk.toRo, Blk.cells.injEq, true_and] at h2 <;> first | (subst h2; exact ⟨_, h1, by simp⟩) | (cases h2.1)
  case cells.ro st' cs' => cases st' <;> simp only [Blk.toRo, Blk.cells.injEq, true_and] at h2 <;> first | (subst h2; exact ⟨_, h1, by simp⟩) | (cases h2.1)
  case map.live st' a b => cases st' <;> simp [Blk.toRo] at h2
  case map.ro st' a b => cases st' <;> simp [Blk.toRo] at h2
  all_goals cases h2

theorem AgR.map (h : AgR H H' b) {st : BSt} {ks vs : List AV} (hb : H[b]? = some (.map st ks vs)) (hd : st ≠ .dead) : ∃ st', H'[b]? = some (.map st' ks vs) ∧ st' ≠ .dead := by
  unfold AgR at h
  rw [hb] at h
  simp only [Option.map_some, Option.map_eq_some_iff] at h
  obtain ⟨k, h1, h2⟩ := h
  cases k <;> cases st <;> simp only [Blk.toRo] at h2 <;> try (exact absurd rfl hd)
  case map.live st' a b => cases st' <;> simp only [Blk.toRo, Blk.map.injEq, true_and] at h2 <;> first | (obtain ⟨rfl, rfl⟩ := h2; exact ⟨_, h1, by simp⟩) | (cases h2.1)
  case map.ro st' a b => cases st' <;> simp only [Blk.toRo, Blk.map.injEq, true_and] at h2 <;> first | (obtain ⟨rfl, rfl⟩ := h2; exact ⟨_, h1, by simp⟩) | (cases h2.1)
  case cells.live st' a => cases st' <;> simp [Blk.toRo] at h2
  case cells.ro st' a => cases st' <;> simp [Blk.toRo] at h2
  all_goals cases h2

theorem AgR.siter (h : AgR H H' b) {s : List UInt8} {p : Nat} (hb : H[b]? = some (.siter s p)) : H'[b]? = some (.siter s p) := by
  unfold AgR at h
  rw [hb] at h
  simp only [Option.map_some, Option.map_eq_some_iff] at h
  obtain ⟨k, h1, h2⟩ := h
  cases k <;> simp only [Blk.toRo] at h2
  case cells st' a => cases st' <;> simp [Blk.toRo] at h2
  case map st' a b => cases st' <;> simp [Blk.toRo] at h2
  case siter => rw [h1, h2]
  all_goals cases h2

theorem ptrE_frame {p : AV} {r : List AV × Nat} (hr : ∀ b, b ∈ rootB p → AgR H H' b) (h : ptrE E H p = some r) : ptrE E H' p = some r := by
  unfold ptrE at h ⊢
  cases p <;> simp only at h ⊢ <;> try exact h
  case hptr b off =>
    split at h
    case h_2 => cases h
    rename_i st cs hb
    split at h
    · cases h
    rename_i hd
    obtain ⟨st', g1, g2⟩ := (hr b (by simp [rootB])).cells hb hd
    rw [g1]
    simp only [g2, if_false]
    exact h

theorem cellsE_frame {n : Nat} {x : AV} {r : List AV} (hr : ∀ b, b ∈ rootB x → AgR H H' b) (h : cellsE H n x = some r) : cellsE H' n x = some r := by
  unfold cellsE at h ⊢
  cases x <;> simp only at h ⊢ <;> try exact h
  case hslice b off len e kc =>
    split at h
    · cases h
    rename_i he
    rw [if_neg he]
    split at h
    case h_2 => cases h
    rename_i st cs hb
    split at h
    · cases h
    rename_i hd
    obtain ⟨st', g1, g2⟩ := (hr b (by simp [rootB])).cells hb (fun q => hd (.inl q))
    rw [g1]
    simp only
    rw [if_neg (by
      rintro (q | q)
      · exact g2 q
      · exact hd (.inr q))]
    exact h

theorem mapE_frame {x : AV} {r : List AV × List AV} (hr : ∀ b, b ∈ rootB x → AgR H H' b) (h : mapE H x = some r) : mapE H' x = some r := by
  unfold mapE at h ⊢
  cases x <;> simp only at h ⊢ <;> try exact h
  case hmap b =>
    split at h
    case h_2 => cases h
    rename_i st ks vs hb
    split at h
    · cases h
    rename_i hd
    obtain ⟨st', g1, g2⟩ := (hr b (by simp [rootB])).map hb hd
    rw [g1]
    simp only [g2, if_false]
    exact h

theorem loadE_frame {t : Nat} {p v : AV} (hr : ∀ b, b ∈ rootB p → AgR H H' b) (h : loadE E H t p = some v) : loadE E H' t p = some v := by
  unfold loadE at h ⊢
  split at h
  case h_2 => cases h
  rename_i cs off hp
  rw [ptrE_frame hr hp]
  exact h

theorem lookupE_frame {t : Nat} {m k v : AV} {ok : Bool} (hr : ∀ b, b ∈ rootB m → AgR H H' b) (h : lookupE E H t m k ok = some v) : lookupE E H' t m k ok = some v := by
  unfold lookupE at h ⊢
  split at h
  case h_2 => cases h
  split at h
  case h_2 => cases h
  rename_i ks vs hm
  rw [mapE_frame hr hm]
  exact h

theorem lenOfE_frame {t : Nat} {x v : AV} (hr : ∀ b, b ∈ rootB x → AgR H H' b) (h : lenOfE E H t x = some v) : lenOfE E H' t x = some v := by
  unfold lenOfE at h ⊢
  split at h <;> try exact h
  rw [Option.map_eq_some_iff] at h
  obtain ⟨r, h1, h2⟩ := h
  rw [mapE_frame hr h1]
  simp only [Option.map_some, Option.some.injEq]
  exact h2

theorem sliceArrE_frame {t : Nat} {x v : AV} {lo hi : Option AV} (hr : ∀ b, b ∈ rootB x → AgR H H' b) (h : sliceArrE E H t x lo hi = some v) : sliceArrE E H' t x lo hi = some v := by
  unfold sliceArrE at h ⊢
  split at h
  case h_2 => cases h
  split at h
  case h_2 => cases h
  cases x <;> simp only at h ⊢ <;> try exact h
  case hptr b off =>
    split at h
    case h_2 => cases h
    rename_i st cs hb
    split at h
    · cases h
    rename_i hd
    obtain ⟨st', g1, g2⟩ := (hr b (by simp [rootB])).cells hb (fun q => hd (.inl q))
    rw [g1]
    simp only
    rw [if_neg (by
      rintro (q | q)
      · exact g2 q
      · exact hd (.inr q))]
    exact h

theorem mapO_frame {f g : AV → Option (AV × List Nat)} {J : Nat → Prop} (hf : ∀ x r bs, f x = some (r, bs) → (∀ b, b ∈ bs → J b) → g x = some (r, bs)) :
    ∀ (xs : List AV) (rs : List (AV × List Nat)), mapO f xs = some rs → (∀ b, b ∈ rs.flatMap (·.2) → J b) → mapO g xs = some rs
  | [], rs, h, _ => h
  | x :: xs, rs, h, hj => by
    unfold mapO at h ⊢
    split at h
    · cases h
    rename_i y hy
    split at h
    · cases h
    rename_i ys hys
    cases h
    obtain ⟨r, bs⟩ := y
    rw [hf x r bs hy (fun b hb => hj b (by simp [hb])), mapO_frame hf xs ys hys (fun b hb => hj b (by
      rw [List.flatMap_cons]
      exact List.mem_append_right _ hb))]

theorem fz_frame : ∀ (n : Nat) (x r : AV) (bs : List Nat), fz H n x = some (r, bs) → (∀ b, b ∈ bs → AgR H H' b) → fz H' n x = some (r, bs)
  | 0, _, _, _, h, _ => by cases h
  | n + 1, x, r, bs, h, hj => by
    have hl : ∀ (cs : List AV) (q : List AV × List Nat), ((mapO (fz H n) cs).map fun r => (r.map (·.1), r.flatMap (·.2))) = some q → (∀ b, b ∈ q.2 → AgR H H' b) →
        ((mapO (fz H' n) cs).map fun r => (r.map (·.1), r.flatMap (·.2))) = some q := fun cs q h1 h2 => by
      rw [Option.map_eq_some_iff] at h1
      obtain ⟨rs, g1, rfl⟩ := h1
      rw [mapO_frame (fun x r bs => fz_frame n x r bs) cs rs g1 h2]
      rfl
    unfold fz at h ⊢
    simp only at h ⊢
    cases x <;> simp only at h ⊢ <;> try exact h
    case hptr b off =>
      split at h
      case h_2 => cases h
      rename_i st cs hb
      split at h
      · cases h
      rename_i hd
      rw [Option.map_eq_some_iff] at h
      obtain ⟨q, g1, g2⟩ := h
      cases g2
      obtain ⟨st', k1, k2⟩ := (hj b (by simp)).cells hb hd
      rw [k1]
      simp only [k2, if_false]
      rw [hl cs q g1 (fun c hc => hj c (by simp [hc]))]
      rfl
    case hslice b off len esz kc =>
      split at h
      case h_2 => cases h
      rename_i st cs hb
      split at h
      · cases h
      rename_i hd
      rw [Option.map_eq_some_iff] at h
      obtain ⟨q, g1, g2⟩ := h
      cases g2
      simp only [Bool.or_eq_true, decide_eq_true_eq, not_or] at hd
      obtain ⟨st', k1, k2⟩ := (hj b (by simp)).cells hb hd.1
      rw [k1]
      simp only
      rw [if_neg (by simp only [Bool.or_eq_true, decide_eq_true_eq, not_or]; exact ⟨k2, hd.2⟩)]
      rw [hl _ q g1 (fun c hc => hj c (by simp [hc]))]
      rfl
    case hmap b =>
      split at h
      case h_2 => cases h
      rename_i st ks vs hb
      split at h
      · cases h
      rename_i hd
      split at h
      case h_2 => cases h
      rename_i k b1 v b2 g1 g2
      cases h
      obtain ⟨st', k1, k2⟩ := (hj b (by simp)).map hb hd
      rw [k1]
      simp only [k2, if_false]
      rw [hl _ _ g1 (fun c hc => hj c (by simp at hc ⊢; exact .inr (.inl hc))), hl _ _ g2 (fun c hc => hj c (by simp at hc ⊢; exact .inr (.inr hc)))]
    case agg cs =>
      rw [Option.map_eq_some_iff] at h
      obtain ⟨q, g1, g2⟩ := h
      cases g2
      rw [hl cs q g1 hj]
      rfl
    case tuple cs =>
      rw [Option.map_eq_some_iff] at h
      obtain ⟨q, g1, g2⟩ := h
      cases g2
      rw [hl cs q g1 hj]
      rfl
    case iface t v =>
      rw [Option.map_eq_some_iff] at h
      obtain ⟨q, g1, g2⟩ := h
      cases g2
      rw [fz_frame n v q.1 q.2 g1 hj]
      rfl
    case func f a c =>
      split at h
      case h_2 => cases h
      rename_i a' b1 c' b2 g1 g2
      cases h
      rw [hl _ _ g1 (fun c hc => hj c (List.mem_append_left _ hc)), hl _ _ g2 (fun c hc => hj c (List.mem_append_right _ hc))]

theorem freezeL_frame {vs r : List AV} {bs : List Nat} (h : freezeL H vs = some (r, bs)) (hj : ∀ b, b ∈ bs → AgR H H' b) : freezeL H' vs = some (r, bs) := by
  unfold freezeL at h ⊢
  split at h
  · rename_i hp; rw [if_pos hp]; exact h
  · rename_i hp
    rw [if_neg hp]
    split at h
    · cases h
    rename_i rs hrs
    cases h
    rw [mapO_frame (fun x r bs => fz_frame 40 x r bs) vs rs hrs hj]

theorem mem_roots {x : Operand} (hx : x ∈ o.op.operands.toList) {v : AV} (hv : evO ts x = some v) {b : Nat} (hb : b ∈ rootB v) : b ∈ rootsE ts o := by
  unfold rootsE
  rw [List.mem_flatMap]
  exact ⟨x, hx, by rw [hv]; exact hb⟩

theorem evL_mem : ∀ {xs : List Operand} {vs : List AV}, evL ts xs = some vs → ∀ v, v ∈ vs → ∃ x, x ∈ xs ∧ evO ts x = some v
  | [], vs, h, v, hv => by
    simp only [evL, Option.some.injEq] at h; subst h; simp at hv
  | x :: xs, vs, h, v, hv => by
    unfold evL at h
    split at h
    · cases h
    rename_i y hy
    split at h
    · cases h
    rename_i ys hys
    cases h
    rcases List.mem_cons.1 hv with rfl | hv
    · exact ⟨x, by simp, hy⟩
    · obtain ⟨z, h1, h2⟩ := evL_mem hys v hv
      exact ⟨z, by simp [h1], h2⟩

/-- class r: it reads, or hands over what it has frozen -/
theorem opE_r (hc : clsE E o = .r) {v : AV} {e : Eff} (h : opE E pc ic yc true ts H nid o = some (v, e)) :
    (e = .sets [] ∧ ∀ H', (∀ b, b ∈ rootsE ts o → AgR H H' b) → opE E pc ic yc true ts H' nid o = some (v, e)) ∨
    ∃ bs, (e = .looks bs ∨ e = .marks bs) ∧ ∀ H', (∀ b, b ∈ bs → AgR H H' b) → opE E pc ic yc true ts H' nid o = some (v, e) := by
  have key : ∀ {r : Option AV}, (r.map fun x => (x, Eff.sets [])) = some (v, e) → e = .sets [] ∧ r = some v := fun {r} h => by
    rw [Option.map_eq_some_iff] at h
    obtain ⟨_, q1, q⟩ := h
    cases q; exact ⟨rfl, q1⟩
  unfold opE at h
  unfold clsE at hc
  unfold opE
  have hroot : ∀ (H' : Hp), (∀ b, b ∈ rootsE ts o → AgR H H' b) → ∀ x, x ∈ o.op.operands.toList → ∀ v, evO ts x = some v → ∀ b, b ∈ rootB v → AgR H H' b :=
    fun H' hr x hx v hv b hb => hr b (mem_roots hx hv hb)
  cases ho : o.op <;> simp only [ho] at hc h ⊢ <;> try (cases hc; done)
  case load t x =>
    split at h
    case h_2 => cases h
    rename_i p hp
    obtain ⟨rfl, h1⟩ := key h
    refine .inl ⟨rfl, fun H' hr => ?_⟩
    rw [loadE_frame (hroot H' hr x (by simp [ho, Op.operands]) p hp) h1]
    rfl
  case lookup t x i ok =>
    split at h
    case h_2 => cases h
    rename_i m k hm hk
    obtain ⟨rfl, h1⟩ := key h
    refine .inl ⟨rfl, fun H' hr => ?_⟩
    rw [lookupE_frame (hroot H' hr x (by simp [ho, Op.operands]) m hm) h1]
    rfl
  case slice t x lo hi mx =>
    split at h
    case h_2 => cases h
    rename_i a l hh hx _ _
    split at h
    · obtain ⟨rfl, h1⟩ := key h
      refine .inl ⟨rfl, fun H' hr => ?_⟩
      rw [sliceArrE_frame (hroot H' hr x (by simp [ho, Op.operands]) a hx) h1]
      rfl
    · obtain ⟨rfl, h1⟩ := key h
      exact .inl ⟨rfl, fun H' hr => h⟩
  case convert s d x =>
    split at h
    · simp [*] at hc
    · rename_i z1 hx q1 q2
      split at h
      case h_2 => cases h
      rename_i cs hty hcs
      obtain ⟨rfl, h1⟩ := key h
      refine .inl ⟨rfl, fun H' hr => ?_⟩
      rw [cellsE_frame (hroot H' hr x (by simp [ho, Op.operands]) _ ‹_›) hcs, hty]
      exact h
    · obtain ⟨rfl, h1⟩ := key h
      exact .inl ⟨rfl, fun H' hr => h⟩
    · cases h
  case call c =>
    cases hcal : c.callee with
    | invoke r m => simp only [hcal] at h; cases h
    | builtin bi =>
      simp only [hcal] at hc h ⊢
      cases bi <;> simp only at hc <;> try (cases hc; done)
      split at h
      case h_2 => cases h
      rename_i as has
      rw [Option.map_eq_some_iff] at h
      obtain ⟨⟨y, l⟩, h1, h2⟩ := h
      cases h2
      rcases hats : c.argTypes.toList with _ | ⟨t, ats⟩
      · rw [hats] at h1; rcases as with _ | ⟨x, as⟩ <;> cases h1
      rw [hats] at h1
      rcases as with _ | ⟨x, as⟩
      · rcases ats with _ | ⟨u, r⟩ <;> cases h1
      have e1 : ∀ H nid, builtinE E H nid .len (t :: ats) (x :: as) = ((lenOfE E H t x).map fun v => (v, [])) := fun H nid => by
        rcases ats with _ | ⟨u, r⟩ <;> rcases as with _ | ⟨y, s⟩ <;> cases x <;> rfl
      rw [e1, Option.map_eq_some_iff] at h1
      obtain ⟨z, g1, g2⟩ := h1
      cases g2
      refine .inl ⟨rfl, fun H' hr => ?_⟩
      obtain ⟨xo, k1, k2⟩ := evL_mem has x (by simp)
      have := lenOfE_frame (hroot H' hr xo (by rw [ho]; simp only [Op.operands, Call.operands, Array.toList_append, List.mem_append]; exact .inr k1) x k2) g1
      rw [e1, this]; rfl
    | value f =>
      simp only [hcal] at hc h ⊢
      cases f <;> simp only at hc <;> try (cases hc; done)
      rename_i f
      split at h
      case h_2 => cases h
      rename_i fv as hfv has
      simp only [evO, Option.some.injEq] at hfv
      subst hfv
      have main : ∀ (h : (match freezeL H as with
          | some (as, bs) => (pc f as).map fun v => (v, if refFree v then Eff.looks bs else Eff.marks bs)
          | none => none) = some (v, e)) , ∃ bs, (e = .looks bs ∨ e = .marks bs) ∧ ∀ H', (∀ b, b ∈ bs → AgR H H' b) → (match freezeL H' as with
          | some (as, bs) => (pc f as).map fun v => (v, if refFree v then Eff.looks bs else Eff.marks bs)
          | none => none) = some (v, e) := fun h => by
        split at h
        case h_2 => cases h
        rename_i as' bs hfz
        rw [Option.map_eq_some_iff] at h
        obtain ⟨r, g1, g2⟩ := h
        cases g2
        refine ⟨bs, ?_, fun H' hr => ?_⟩
        · by_cases hrf : refFree v = true
          · exact .inl (by simp [hrf])
          · exact .inr (by simp [hrf])
        · rw [freezeL_frame hfz hr]
          simp only
          rw [g1]; rfl
      unfold callE at h ⊢
      simp only [List.nil_append, List.append_nil] at h ⊢
      right
      rcases hfn : E.fn f with _ | ⟨code, nt, rs, p, d⟩
      · rw [hfn] at h
        exact main h
      · rw [hfn] at h hc
        cases p
        · cases d
          · cases hc
          · exact main h
        · exact main h
end
end Dv

namespace Dv
open Go Go.RowKit
set_option linter.unusedSimpArgs false
set_option linter.unusedVariables false

section
variable {E : Env} {pc : Pc} {ic yc : Ic} {dr : Bool} {ts ts' : List AV} {H H' : Hp} {nid nid' : Nat} {o : Oper} {b : Nat}

/-- what is written: new blocks, or blocks that were live -/
def KeysOk (H : Hp) (nid : Nat) (l : List (Nat × Blk)) : Prop := ∀ p, p ∈ l → p.2 ≠ deadB ∧ (p.1 = nid ∨ ∃ blk, H[p.1]? = some blk ∧ blk.st = .live)

theorem KeysOk.new {blk : Blk} (h : blk.st = .live) : KeysOk H nid [(nid, blk)] := fun p hp => by
  simp only [List.mem_singleton] at hp; subst hp
  exact ⟨fun q => (by rw [show blk = deadB from q] at h; cases h), .inl rfl⟩

theorem KeysOk.nil : KeysOk H nid [] := fun p hp => by simp at hp

theorem KeysOk.one {k : Nat} {blk blk' : Blk} (h : blk.st = .live) (hk : H[k]? = some blk') (hl : blk'.st = .live) : KeysOk H nid [(k, blk)] := fun p hp => by
  simp only [List.mem_singleton] at hp; subst hp
  exact ⟨fun q => (by rw [show blk = deadB from q] at h; cases h), .inr ⟨blk', hk, hl⟩⟩

theorem storeE_frame {t : Nat} {p x : AV} {l : List (Nat × Blk)} (h : storeE E H t p x = some l) : KeysOk H nid l ∧ ∀ H', (∀ q, q ∈ l → H'[q.1]? = H[q.1]?) → storeE E H' t p x = some l := by
  unfold storeE at h
  split at h
  case h_2 => cases h
  rename_i b off i hi
  split at h
  case h_2 => cases h
  rename_i cs hb
  split at h
  · cases h
  rename_i hc
  cases h
  refine ⟨.one rfl hb rfl, fun H' hw => ?_⟩
  unfold storeE
  rw [hi]
  simp only
  rw [hw _ (List.mem_singleton.2 rfl), hb]
  simp only
  rw [if_neg hc]

theorem mapUpdateE_frame {t : Nat} {m k x : AV} {l : List (Nat × Blk)} (h : mapUpdateE E H t m k x = some l) : KeysOk H nid l ∧ ∀ H', (∀ q, q ∈ l → H'[q.1]? = H[q.1]?) → mapUpdateE E H' t m k x = some l := by
  have h0 := h
  unfold mapUpdateE at h
  split at h
  case h_2 => cases h
  rename_i kt et _ _ _ _ _ b hi
  split at h
  case h_2 => cases h
  rename_i ks vs hb
  have main : (∃ blk : Blk, blk.st = .live ∧ l = [(b, blk)]) → KeysOk H nid l ∧ ∀ H', (∀ q, q ∈ l → H'[q.1]? = H[q.1]?) → mapUpdateE E H' t (.hmap b) k x = some l := by
    rintro ⟨blk, hl, rfl⟩
    refine ⟨.one hl hb rfl, fun H' hw => ?_⟩
    unfold mapUpdateE at h0 ⊢
    rw [hi] at h0 ⊢
    simp only at h0 ⊢
    rw [hw (b, blk) (by simp)]
    exact h0
  split at h
  · cases h
  split at h
  · split at h
    · split at h
      · cases h; exact main ⟨_, rfl, rfl⟩
      · cases h
    · cases h
  · cases h; exact main ⟨_, rfl, rfl⟩
  · cases h

theorem srcE_frame {n : Nat} {x : AV} {r : List AV} (hr : ∀ b, b ∈ rootB x → AgR H H' b) (h : srcE H n x = some r) : srcE H' n x = some r := by
  unfold srcE at h ⊢
  split at h
  · exact h
  · exact cellsE_frame hr h

theorem srcA_frame {ei : TyI} {x : AV} {r : Nat × List AV} (hr : ∀ b, b ∈ rootB x → AgR H H' b) (h : srcA H ei false x = some r) : srcA H' ei false x = some r := by
  unfold srcA at h ⊢
  simp only [Bool.false_eq_true, if_false] at h ⊢
  split at h
  case h_2 => cases h
  rename_i n xs h1 h2
  rw [h1, srcE_frame hr h2]
  exact h

theorem appendE_frame {t : Nat} {s x v : AV} {l : List (Nat × Blk)} (h : appendE E H nid false t s x = some (v, l)) :
    KeysOk H nid l ∧ ∀ H', (∀ b, b ∈ rootB x → AgR H H' b) → (∀ q, q ∈ l → H'[q.1]? = H[q.1]?) → appendE E H' nid false t s x = some (v, l) := by
  unfold appendE at h
  split at h
  case h_2 => cases h
  rename_i e _ _ _ _ _ ht
  split at h
  case h_2 => cases h
  rename_i ei he
  split at h
  case h_2 => cases h
  rename_i n xs hsrc
  have red : ∀ H', (∀ b, b ∈ rootB x → AgR H H' b) → appendE E H' nid false t s x =
      (if n = 0 then (match s with | .nilslice | .eslice | .hslice .. | .vslice .. => some (s, []) | _ => none) else
        if ei.size = 0 || !xs.all oneA || ei.zero.isNone then none else
        match s with
        | .nilslice =>
          if n * ei.bytes ≤ roomB ∧ n ≤ 4611686018427387904 then some (.hslice nid 0 n ei.size n, [(nid, .cells .live xs)]) else none
        | .hslice b off len esz kc => match H'[b]? with
          | some (.cells .live cs) =>
            if len + n ≤ kc then (if esz = ei.size ∧ off + (len + n) * esz ≤ cs.length then
              some (.hslice b off (len + n) esz kc, [(b, .cells .live (spliceL cs (off + len * esz) xs))]) else none) else
            if esz = ei.size ∧ off + len * esz ≤ cs.length ∧ (len + n) * ei.bytes ≤ roomB ∧ len + n ≤ 4611686018427387904 then
              some (.hslice nid 0 (len + n) esz (len + n), [(b, .cells .dead []), (nid, .cells .live ((cs.drop off).take (len * esz) ++ xs))])
            else none
          | _ => none
        | _ => none) := fun H' hr => by
    unfold appendE
    rw [ht]
    simp only
    rw [he]
    simp only
    rw [srcA_frame hr hsrc]
    cases s <;> rfl
  split at h
  · rename_i hn
    have hl : l = [] := by
      split at h <;> first | (cases h; rfl) | cases h
    subst hl
    refine ⟨.nil, fun H' hr _ => ?_⟩
    rw [red H' hr, if_pos hn, ← h]
    cases s <;> rfl
  rename_i hn
  split at h
  · cases h
  rename_i hc
  cases s <;> simp only at h <;> try (cases h; done)
  case nilslice =>
    have hl : l = [(nid, .cells .live xs)] := by
      split at h
      · cases h; rfl
      · cases h
    subst hl
    refine ⟨.new rfl, fun H' hr _ => ?_⟩
    rw [red H' hr, if_neg hn, if_neg hc]
    exact h
  case hslice b off len esz kc =>
    split at h
    case h_2 => cases h
    rename_i cs hb
    have fin : ∀ blk, (b, blk) ∈ l → ∀ H', (∀ b, b ∈ rootB x → AgR H H' b) → (∀ q, q ∈ l → H'[q.1]? = H[q.1]?) → appendE E H' nid false t (.hslice b off len esz kc) x = some (v, l) := by
      intro blk hm H' hr hw
      rw [red H' hr, if_neg hn, if_neg hc]
      simp only
      rw [hw (b, blk) hm, hb]
      exact h
    split at h
    · split at h
      · cases h
        exact ⟨.one rfl hb rfl, fin _ (List.mem_singleton.2 rfl)⟩
      · cases h
    · split at h
      · cases h
        refine ⟨fun p hp => ?_, fin (.cells .dead []) (by simp)⟩
        simp only [List.mem_cons, List.not_mem_nil, or_false] at hp
        rcases hp with rfl | rfl
        · exact ⟨by simp [deadB], .inr ⟨_, hb, rfl⟩⟩
        · exact ⟨by simp [deadB], .inl rfl⟩
      · cases h

theorem appendZeroE_frame {t : Nat} {s x v : AV} {l : List (Nat × Blk)} (h : appendZeroE E nid t s x = some (v, l)) : KeysOk H nid l := by
  unfold appendZeroE at h
  split at h
  case h_2 => cases h
  split at h
  case h_2 => cases h
  split at h
  case h_2 => cases h
  split at h
  · cases h; exact .new rfl
  · cases h

theorem copyE_frame {t : Nat} {d x v : AV} {l : List (Nat × Blk)} (h : copyE E H t d x = some (v, l)) :
    KeysOk H nid l ∧ ∀ H', (∀ b, b ∈ rootB x → AgR H H' b) → (∀ q, q ∈ l → H'[q.1]? = H[q.1]?) → copyE E H' t d x = some (v, l) := by
  unfold copyE at h
  split at h
  case h_2 => cases h
  rename_i e _ _ _ _ _ ht
  split at h
  case h_2 => cases h
  rename_i ei he
  split at h
  case h_2 => cases h
  rename_i dn xn xs h1 h2 h3
  have red : ∀ d', d' = d → ∀ H', (∀ b, b ∈ rootB x → AgR H H' b) → copyE E H' t d x =
      (let n := min xn dn
        if n = 0 then (match d' with | .nilslice | .eslice | .hslice .. => some (.int .i64 0, []) | _ => none) else
        match d' with
        | .hslice b off _ esz _ => match H'[b]? with
          | some (.cells .live cs) =>
            if esz = ei.size ∧ off + n * esz ≤ cs.length ∧ xs.all oneA then
              some (.int .i64 n, [(b, .cells .live (spliceL cs off (xs.take (n * esz))))])
            else none
          | _ => none
        | _ => none) := fun d' hd H' hr => by
    subst hd
    unfold copyE
    rw [ht]
    simp only
    rw [he]
    simp only
    rw [h1, h2, srcE_frame hr h3]
    cases d' <;> rfl
  simp only at h red
  split at h
  · rename_i hn
    have hl : l = [] := by
      split at h <;> first | (cases h; rfl) | cases h
    subst hl
    refine ⟨.nil, fun H' hr _ => ?_⟩
    rw [red d rfl H' hr, if_pos hn, ← h]
    cases d <;> rfl
  rename_i hn
  cases d <;> simp only at h <;> try (cases h; done)
  case hslice b off len esz kc =>
    split at h
    case h_2 => cases h
    rename_i cs hb
    split at h
    case isFalse => cases h
    rename_i hc
    cases h
    refine ⟨.one rfl hb rfl, fun H' hr hw => ?_⟩
    rw [red _ rfl H' hr, if_neg hn]
    simp only
    rw [hw _ (List.mem_singleton.2 rfl), hb]
    simp only
    rw [if_pos hc]

/-- class s -/
theorem opE_s (hc : clsE E o = .s) {v : AV} {e : Eff} (h : opE E pc ic yc true ts H nid o = some (v, e)) :
    ∃ l, e = .sets l ∧ KeysOk H nid l ∧ ∀ H', (∀ b, b ∈ rootsE ts o → AgR H H' b) → (∀ q, q ∈ l → H'[q.1]? = H[q.1]?) → opE E pc ic yc true ts H' nid o = some (v, e) := by
  have key : ∀ {r : Option (AV × List (Nat × Blk))}, (r.map fun x => (x.1, Eff.sets x.2)) = some (v, e) → ∃ l, e = .sets l ∧ r = some (v, l) := fun {r} h => by
    rw [Option.map_eq_some_iff] at h
    obtain ⟨⟨a, l⟩, q1, q⟩ := h
    cases q; exact ⟨l, rfl, q1⟩
  have keyU : ∀ {r : Option (List (Nat × Blk))}, (r.map fun l => (undefV, Eff.sets l)) = some (v, e) → ∃ l, e = .sets l ∧ v = undefV ∧ r = some l := fun {r} h => by
    rw [Option.map_eq_some_iff] at h
    obtain ⟨l, q1, q⟩ := h
    cases q; exact ⟨l, rfl, rfl, q1⟩
  have keyN : ∀ {r : Option (AV × List (Nat × Blk))}, (r.map fun x => (x.1, Eff.sets x.2)) = some (v, e) → (∀ a l, r = some (a, l) → KeysOk H nid l) → ∃ l, e = .sets l ∧ KeysOk H nid l := fun {r} h hk => by
    obtain ⟨l, h1, h2⟩ := key h
    exact ⟨l, h1, hk _ _ h2⟩
  have hroot : ∀ (H' : Hp), (∀ b, b ∈ rootsE ts o → AgR H H' b) → ∀ x, x ∈ o.op.operands.toList → ∀ v, evO ts x = some v → ∀ b, b ∈ rootB v → AgR H H' b :=
    fun H' hr x hx v hv b hb => hr b (mem_roots hx hv hb)
  unfold opE at h
  unfold clsE at hc
  unfold opE
  cases ho : o.op <;> simp only [ho] at hc h ⊢ <;> try (cases hc; done)
  case alloc t =>
    obtain ⟨l, h1, h2⟩ := keyN h (fun a l q => by
      rw [Option.map_eq_some_iff] at q
      obtain ⟨_, _, q⟩ := q
      cases q; exact .new rfl)
    exact ⟨l, h1, h2, fun _ _ _ => h⟩
  case box t x =>
    obtain ⟨l, h1, h2⟩ := keyN h (fun a l q => by
      rw [Option.map_eq_some_iff] at q
      obtain ⟨_, _, q⟩ := q
      cases q; exact .new rfl)
    exact ⟨l, h1, h2, fun _ _ _ => h⟩
  case buildSlice t len ps =>
    split at h
    case h_2 => cases h
    split at h
    case h_2 => cases h
    split at h
    case h_2 => cases h
    split at h
    case isFalse => cases h
    rename_i hcond
    obtain ⟨l, h1, h2⟩ := keyN h (fun a l q => by
      rw [Option.map_eq_some_iff] at q
      obtain ⟨_, _, q⟩ := q
      cases q; exact .new rfl)
    exact ⟨l, h1, h2, fun _ _ _ => by rw [if_pos hcond]; exact h⟩
  case makeMap t r =>
    split at h
    · obtain ⟨l, h1, h2⟩ := keyN h (fun a l q => by cases q; exact .new rfl)
      exact ⟨l, h1, h2, fun _ _ _ => h⟩
    · obtain ⟨l, h1, h2⟩ := keyN h (fun a l q => by cases q; exact .new rfl)
      exact ⟨l, h1, h2, fun _ _ _ => h⟩
    · cases h
  case makeSlice t x y =>
    split at h
    case h_2 => cases h
    obtain ⟨l, h1, h2⟩ := keyN h (fun a l q => by
      unfold makeSliceE at q
      split at q
      case h_2 => cases q
      split at q
      case h_2 => cases q
      split at q
      case h_2 => cases q
      split at q
      · cases q; exact .new rfl
      · cases q)
    exact ⟨l, h1, h2, fun _ _ _ => h⟩
  case range t x =>
    split at h
    case h_2 => cases h
    obtain ⟨l, h1, h2⟩ := keyN h (fun a l q => by cases q; exact .new rfl)
    exact ⟨l, h1, h2, fun _ _ _ => h⟩
  case convert s d x =>
    split at h
    · split at h
      · obtain ⟨l, h1, h2⟩ := keyN h (fun a l q => by cases q; exact .new rfl)
        exact ⟨l, h1, h2, fun _ _ _ => h⟩
      · cases h
    · simp [*] at hc
    · rename_i z hx q1 q2 q3
      rw [Option.map_eq_some_iff] at h
      obtain ⟨y, h1, h2⟩ := h
      cases h2
      exact ⟨[], rfl, .nil, fun _ _ _ => by rw [h1]; rfl⟩
    · cases h
  case next it s =>
    cases s
    · cases h
    simp only at h ⊢
    split at h
    case h_2 => cases h
    rename_i i hit
    split at h
    case h_2 => cases h
    rename_i z pos hi
    have fin : ∀ H', (∀ b, b ∈ rootsE ts o → AgR H H' b) → H'[i]? = some (.siter z pos) := fun H' hr =>
      (hroot H' hr it (by simp [ho, Op.operands]) _ hit i (by simp [rootB])).siter hi
    split at h
    · rename_i hp
      obtain ⟨l, h1, h2⟩ := keyN h (fun a l q => by cases q; exact .one rfl hi rfl)
      exact ⟨l, h1, h2, fun H' hr _ => by rw [fin H' hr]; simp only; rw [if_pos hp]; exact h⟩
    · rename_i hp
      have h' := h
      simp only [Option.map_some, Option.some.injEq, Prod.mk.injEq] at h'
      exact ⟨[], h'.2.symm, .nil, fun H' hr _ => by rw [fin H' hr]; simp only; rw [if_neg hp]; exact h⟩
  case store t p x =>
    split at h
    case h_2 => cases h
    rename_i a z hp hx
    obtain ⟨l, rfl, rfl, h2⟩ := keyU h
    obtain ⟨g1, g2⟩ := storeE_frame (nid := nid) h2
    exact ⟨l, rfl, g1, fun H' hr hw => by rw [g2 H' hw]; rfl⟩
  case mapUpdate t m k x =>
    split at h
    case h_2 => cases h
    rename_i a b c hp hx hy
    obtain ⟨l, rfl, rfl, h2⟩ := keyU h
    obtain ⟨g1, g2⟩ := mapUpdateE_frame (nid := nid) h2
    exact ⟨l, rfl, g1, fun H' hr hw => by rw [g2 H' hw]; rfl⟩
  case insert t m k x =>
    split at h
    case h_2 => cases h
    rename_i a b c hp hx hy
    obtain ⟨l, rfl, rfl, h2⟩ := keyU h
    obtain ⟨g1, g2⟩ := mapUpdateE_frame (nid := nid) h2
    exact ⟨l, rfl, g1, fun H' hr hw => by rw [g2 H' hw]; rfl⟩
  case slice t x lo hi mx =>
    split at hc <;> cases hc
  case call c =>
    cases hcal : c.callee with
    | invoke r m => simp only [hcal] at h; cases h
    | value f =>
      simp only [hcal] at hc
      cases f <;> simp only at hc <;> try (cases hc; done)
      split at hc <;> cases hc
    | builtin bi =>
      simp only [hcal] at hc h ⊢
      split at h
      case h_2 => cases h
      rename_i as has
      obtain ⟨l, rfl, h1⟩ := key h
      have harg : ∀ H', (∀ b, b ∈ rootsE ts o → AgR H H' b) → ∀ x, x ∈ as → ∀ b, b ∈ rootB x → AgR H H' b := fun H' hr x hx => by
        obtain ⟨xo, k1, k2⟩ := evL_mem has x hx
        exact hroot H' hr xo (by rw [ho]; simp only [Op.operands, Call.operands, Array.toList_append, List.mem_append]; exact .inr k1) x k2
      cases bi <;> simp only at hc <;> try (cases hc; done)
      case append =>
        rcases hats : c.argTypes.toList with _ | ⟨t, _ | ⟨u, ats⟩⟩
        · rw [hats] at h1; rcases as with _ | ⟨x, _ | ⟨y, as⟩⟩ <;> cases h1
        · rw [hats] at h1; rcases as with _ | ⟨x, _ | ⟨y, as⟩⟩ <;> cases h1
        rw [hats] at h1
        rcases as with _ | ⟨s, _ | ⟨x, as⟩⟩
        · cases h1
        · cases h1
        have e1 : ∀ H, builtinE E H nid .append (t :: u :: ats) (s :: x :: as) = (match E.ty u with
          | some { und := .int _, .. } => appendZeroE E nid t s x
          | some _ => appendE E H nid false t s x
          | none => none) := fun H => rfl
        rw [e1] at h1
        split at h1
        · rename_i hu
          refine ⟨l, rfl, appendZeroE_frame h1, fun H' hr hw => ?_⟩
          rw [e1, hu]
          simp only
          rw [h1]; rfl
        · rename_i ui hne hu
          obtain ⟨g1, g2⟩ := appendE_frame h1
          refine ⟨l, rfl, g1, fun H' hr hw => ?_⟩
          rw [e1]
          split
          · rename_i hu2
            exact absurd (hu.symm.trans hu2) (by intro q; injection q with q; exact hne _ _ _ _ _ _ q)
          · rw [g2 H' (harg H' hr x (by simp)) hw]; rfl
          · rename_i hu2; rw [hu] at hu2; cases hu2
        · cases h1
      case copy =>
        rcases hats : c.argTypes.toList with _ | ⟨t, ats⟩
        · rw [hats] at h1; rcases as with _ | ⟨x, _ | ⟨y, as⟩⟩ <;> cases h1
        rw [hats] at h1
        rcases as with _ | ⟨d, _ | ⟨x, as⟩⟩
        · rcases ats with _ | ⟨u, r⟩ <;> cases h1
        · rcases ats with _ | ⟨u, r⟩ <;> cases d <;> cases h1
        have e1 : ∀ H, builtinE E H nid .copy (t :: ats) (d :: x :: as) = copyE E H t d x := fun H => by
          rcases ats with _ | ⟨u, r⟩ <;> cases d <;> rfl
        rw [e1] at h1
        obtain ⟨g1, g2⟩ := copyE_frame (nid := nid) h1
        refine ⟨l, rfl, g1, fun H' hr hw => ?_⟩
        rw [e1, g2 H' (harg H' hr x (by simp)) hw]; rfl
end
end Dv

namespace Dv
open Go Go.RowKit
set_option linter.unusedSimpArgs false
set_option linter.unusedVariables false

section
variable {E : Env} {pc : Pc} {ic yc : Ic} {dr : Bool} {ts ts' : List AV} {H H' : Hp} {nid nid' : Nat} {o : Oper} {b : Nat}

/-! ### effects -/
def putL (H : Hp) (l : List (Nat × Blk)) : Hp := l.foldl (fun H p => putB H p.1 p.2) H

theorem putB_lt {k : Nat} {x : Blk} (h : k < H.length) : putB H k x = H.set k x := by simp [putB, h]

theorem putL_len : ∀ (l : List (Nat × Blk)) (H : Hp), (∀ p, p ∈ l → p.1 < H.length) → (putL H l).length = H.length
  | [], _, _ => rfl
  | p :: l, H, h => by
    simp only [putL, List.foldl_cons]
    rw [putB_lt (h p (by simp))]
    have := putL_len l (H.set p.1 p.2) (fun q hq => by simpa using h q (by simp [hq]))
    simp only [putL] at this
    rw [this]; simp

theorem putL_other : ∀ (l : List (Nat × Blk)) (H : Hp) (b : Nat), (∀ p, p ∈ l → p.1 < H.length) → (∀ p, p ∈ l → p.1 ≠ b) → (putL H l)[b]? = H[b]?
  | [], _, _, _, _ => rfl
  | p :: l, H, b, h, hb => by
    simp only [putL, List.foldl_cons]
    rw [putB_lt (h p (by simp))]
    have := putL_other l (H.set p.1 p.2) b (fun q hq => by simpa using h q (by simp [hq])) (fun q hq => hb q (by simp [hq]))
    simp only [putL] at this
    rw [this, List.getElem?_set_ne (hb p (by simp))]

theorem putL_key : ∀ (l : List (Nat × Blk)) (H : Hp) (b : Nat), (∀ p, p ∈ l → p.1 < H.length) → (putL H l)[b]? = H[b]? ∨ ∃ x, (b, x) ∈ l ∧ (putL H l)[b]? = some x
  | [], _, _, _ => .inl rfl
  | p :: l, H, b, h => by
    have hl : ∀ q, q ∈ l → q.1 < (H.set p.1 p.2).length := fun q hq => by simpa using h q (by simp [hq])
    have e : putL H (p :: l) = putL (H.set p.1 p.2) l := by simp only [putL, List.foldl_cons]; rw [putB_lt (h p (by simp))]
    rw [e]
    rcases putL_key l (H.set p.1 p.2) b hl with g | ⟨x, g1, g2⟩
    · by_cases hb : p.1 = b
      · right
        refine ⟨p.2, by subst hb; simp, ?_⟩
        rw [g, ← hb, List.getElem?_set_self (h p (by simp))]
      · left; rw [g, List.getElem?_set_ne hb]
    · exact .inr ⟨x, by simp [g1], g2⟩

/-- what is written depends on what is written alone -/
theorem putL_same : ∀ (l : List (Nat × Blk)) (H H' : Hp) (b : Nat), H.length = H'.length → (∀ p, p ∈ l → p.1 < H.length) → (H[b]? = H'[b]? ∨ ∃ x, (b, x) ∈ l) → (putL H l)[b]? = (putL H' l)[b]?
  | [], _, _, _, _, _, h => by
    rcases h with h | ⟨x, h⟩
    · exact h
    · simp at h
  | p :: l, H, H', b, hlen, hl, h => by
    have e : ∀ (H : Hp), p.1 < H.length → putL H (p :: l) = putL (H.set p.1 p.2) l := fun H hp => by simp only [putL, List.foldl_cons]; rw [putB_lt hp]
    rw [e H (hl p (by simp)), e H' (by have := hl p (by simp); omega)]
    refine putL_same l _ _ b (by simpa using hlen) (fun q hq => by simpa using hl q (by simp [hq])) ?_
    by_cases hb : p.1 = b
    · left
      have := hl p (by simp)
      subst hb
      rw [List.getElem?_set_self this, List.getElem?_set_self (by omega)]
    · rw [List.getElem?_set_ne hb, List.getElem?_set_ne hb]
      rcases h with h | ⟨x, h⟩
      · exact .inl h
      · rcases List.mem_cons.1 h with h | h
        · exact absurd (by rw [← h]) hb
        · exact .inr ⟨x, h⟩

theorem putL_comm {l m : List (Nat × Blk)} (hl : ∀ p, p ∈ l → p.1 < H.length) (hm : ∀ p, p ∈ m → p.1 < H.length) (hd : ∀ p, p ∈ l → ∀ q, q ∈ m → p.1 ≠ q.1) :
    putL (putL H l) m = putL (putL H m) l := by
  have l1 := putL_len l H hl
  have m1 := putL_len m H hm
  apply List.ext_getElem?
  intro b
  by_cases hb : ∃ x, (b, x) ∈ m
  · obtain ⟨x, hx⟩ := hb
    have : ∀ p, p ∈ l → p.1 ≠ b := fun p hp => hd p hp (b, x) hx
    rw [putL_other l (putL H m) b (by rw [m1]; exact hl) this]
    exact putL_same m _ _ b l1 (by rw [l1]; exact hm) (.inr ⟨x, hx⟩)
  · have hn : ∀ p, p ∈ m → p.1 ≠ b := fun p hp q => hb ⟨p.2, by rw [← q]; exact hp⟩
    rw [putL_other m (putL H l) b (by rw [l1]; exact hm) hn]
    exact putL_same l _ _ b m1.symm hl (.inl (putL_other m H b hm hn).symm)

theorem mark_comm (l m : List Nat) : mark (mark H l) m = mark (mark H m) l := by
  apply List.ext_getElem?
  intro b
  simp only [mark_get]
  by_cases h1 : b ∈ l <;> by_cases h2 : b ∈ m <;> simp [h1, h2]

theorem mark_putL {l : List (Nat × Blk)} {m : List Nat} (hl : ∀ p, p ∈ l → p.1 < H.length) (hd : ∀ p, p ∈ l → p.1 ∉ m) : mark (putL H l) m = putL (mark H m) l := by
  apply List.ext_getElem?
  intro b
  rw [mark_get]
  have ml : (mark H m).length = H.length := mark_len m H
  by_cases hb : ∃ x, (b, x) ∈ l
  · obtain ⟨x, hx⟩ := hb
    rw [if_neg (hd _ hx)]
    exact putL_same l _ _ b ml.symm hl (.inr ⟨x, hx⟩)
  · have hn : ∀ p, p ∈ l → p.1 ≠ b := fun p hp q => hb ⟨p.2, by rw [← q]; exact hp⟩
    rw [putL_other l H b hl hn, putL_other l (mark H m) b (by rw [ml]; exact hl) hn, mark_get]

theorem toRo_toRo (k : Blk) : k.toRo.toRo = k.toRo := by
  cases k
  case cells st c => cases st <;> rfl
  case map st a b => cases st <;> rfl
  all_goals rfl

theorem agR_mark (l : List Nat) (b : Nat) : AgR (mark H l) H b ∧ AgR H (mark H l) b := by
  have : (mark H l)[b]?.map Blk.toRo = H[b]?.map Blk.toRo := by
    rw [mark_get]
    split
    · rw [Option.map_map]
      congr 1
      funext k
      exact toRo_toRo k
    · rfl
  exact ⟨this.symm, this⟩

theorem toRo_dead {k : Blk} (h : k.toRo = deadB) : k = deadB := by
  cases k
  case cells st c => cases st <;> simp [Blk.toRo, deadB] at h ⊢; exact h
  case map st a b => cases st <;> simp [Blk.toRo, deadB] at h
  all_goals cases h

theorem mark_dead {l : List Nat} : (mark H l)[b]? = some deadB ↔ H[b]? = some deadB := by
  rw [mark_get]
  split
  · rw [Option.map_eq_some_iff]
    constructor
    · rintro ⟨k, h1, h2⟩; rw [h1, toRo_dead h2]
    · intro h; exact ⟨_, h, rfl⟩
  · rfl

theorem isRes_iff {x : Option Blk} : isRes x = true ↔ x = some deadB := by
  unfold isRes deadB undefV
  split
  · simp
  · rename_i h
    simp only [Bool.false_eq_true, false_iff]
    exact fun q => h q

theorem apartL_iff {a b : List Nat} : apartL a b = true ↔ ∀ x, x ∈ a → x ∉ b := by
  simp [apartL]

/-! ### one operation: guard and slot -/
theorem evO_put {dst : Option Nat} {v : AV} {x : Operand} (h : ∀ d, dst = some d → x ≠ .tmp d) : evO (putE dst v ts) x = evO ts x := by
  cases dst with
  | none => rfl
  | some d =>
    cases x with
    | tmp t =>
      have : t ≠ d := fun q => h d rfl (by rw [q])
      simp only [evO, putE]
      rw [List.getElem?_set_ne (fun q => this q.symm)]
    | _ => rfl

theorem mem_looks {ops : Array Oper} {d : Nat} (h : Operand.tmp d ∈ o.op.operands.toList) : d ∈ o.looksAt ops :=
  List.mem_append_left _ (List.mem_filterMap.2 ⟨.tmp d, h, rfl⟩)

theorem opE_put {ops : Array Oper} {dst : Option Nat} {u : AV} (h : ∀ d, dst = some d → d ∉ o.looksAt ops) : opE E pc ic yc dr (putE dst u ts) H nid o = opE E pc ic yc dr ts H nid o :=
  opE_congr fun x hx => evO_put fun d hd q => h d hd (mem_looks (by rw [← q]; exact hx))

theorem roots_put {ops : Array Oper} {dst : Option Nat} {u : AV} (h : ∀ d, dst = some d → d ∉ o.looksAt ops) : rootsE (putE dst u ts) o = rootsE ts o := by
  unfold rootsE
  have : ∀ (l : List Operand), (∀ x, x ∈ l → x ∈ o.op.operands.toList) → (l.flatMap fun x => match evO (putE dst u ts) x with | some v => rootB v | none => []) = (l.flatMap fun x => match evO ts x with | some v => rootB v | none => []) := by
    intro l
    induction l with
    | nil => intro _; rfl
    | cons x l ih =>
      intro hl
      rw [List.flatMap_cons, List.flatMap_cons, ih (fun y hy => hl y (by simp [hy]))]
      rw [evO_put fun d hd q => h d hd (mem_looks (by rw [← q]; exact hl x (by simp)))]
  exact this _ (fun _ h => h)

theorem touch_put {ops : Array Oper} {dst : Option Nat} {u : AV} {e : Eff} (h : ∀ d, dst = some d → d ∉ o.looksAt ops) : touchE E (putE dst u ts) o e = touchE E ts o e := by
  unfold touchE
  rw [roots_put h]

theorem wanted_put' {ops : Array Oper} {dst : Option Nat} {u : AV} (h : ∀ d, dst = some d → d ∉ o.looksAt ops) : wantedE ops.toList (putE dst u ts) o = wantedE ops.toList ts o := by
  unfold wantedE
  split
  · rfl
  · rename_i j want hg
    split
    · rfl
    · rename_i d hd
      cases dst with
      | none => rfl
      | some d' =>
        have : d' ≠ d := fun q => h d' rfl (by
          unfold Oper.looksAt
          rw [hg]
          refine List.mem_append_right _ ?_
          simp only [Array.getElem?_toList] at hd
          simp [hd, q])
        simp only [putE]
        rw [List.getElem?_set_ne this]

theorem put_comm {d1 d2 : Option Nat} {v1 v2 : AV} (h : ∀ d, d1 = some d → d2 ≠ some d) : putE d1 v1 (putE d2 v2 ts) = putE d2 v2 (putE d1 v1 ts) := by
  cases d1 <;> cases d2 <;> simp only [putE]
  rename_i a b
  rw [List.set_comm]
  exact fun q => h a rfl (by rw [q])

/-- what an operation that may be out of its turn has done -/
inductive Kind (E : Env) (ts : List AV) (H : Hp) (nid : Nat) (o : Oper) (e : Eff) : Prop where
  | r (h : clsE E o = .r) (m : List Nat) (he : e = .sets [] ∨ e = .looks m ∨ e = .marks m)
  | s (h : clsE E o = .s) (l : List (Nat × Blk)) (he : e = .sets l) (hk : KeysOk H nid l)
end
end Dv

namespace Dv
open Go Go.RowKit
set_option linter.unusedSimpArgs false
set_option linter.unusedVariables false

section
variable {E : Env} {pc : Pc} {ic yc : Ic} {dr : Bool} {ts ts' : List AV} {H H' : Hp} {nid nid' : Nat} {o : Oper} {b : Nat} {ops : Array Oper}

/-- what one operation comes to, in a statement whose order is open -/
def resD (E : Env) (pc : Pc) (ic yc : Ic) (ops : Array Oper) (nid : Nat) (o : Oper) (ts : List AV) (H : Hp) : Option (AV × Eff) :=
  if laysE E o && !isRes H[nid]? then none else if wantedE ops.toList ts o then opE E pc ic yc true ts H nid o else some (undefV, .sets [])

theorem resD_put {dst : Option Nat} {u : AV} (h : ∀ d, dst = some d → d ∉ o.looksAt ops) : resD E pc ic yc ops nid o (putE dst u ts) H = resD E pc ic yc ops nid o ts H := by
  unfold resD
  rw [wanted_put' h, opE_put h]

theorem lays_s (h : laysE E o = true) : clsE E o = .s := by
  unfold laysE at h
  unfold clsE
  cases ho : o.op <;> simp only [ho] at h ⊢ <;> try (cases h; done)
  case convert s d x =>
    split at h
    · rfl
    · cases h
  case call c =>
    cases hc : c.callee with
    | builtin bi =>
      simp only [hc] at h
      cases bi <;> first | rfl | (cases h; done)
    | value f => simp only [hc] at h; cases h
    | invoke r m => simp only [hc] at h; cases h

theorem resD_n (hc : clsE E o = .n) {v : AV} {e : Eff} (h : resD E pc ic yc ops nid o ts H = some (v, e)) : e = .sets [] ∧ ∀ H', resD E pc ic yc ops nid o ts H' = some (v, e) := by
  have hl : laysE E o = false := by
    cases hq : laysE E o with
    | false => rfl
    | true => rw [lays_s hq] at hc; cases hc
  unfold resD at h ⊢
  simp only [hl, Bool.false_and, Bool.false_eq_true, if_false] at h ⊢
  split at h
  · rename_i hw
    obtain ⟨h1, h2⟩ := opE_n hc h
    exact ⟨h1, fun H' => by rw [if_pos hw]; exact h2 H' nid⟩
  · rename_i hw
    cases h
    exact ⟨rfl, fun H' => by rw [if_neg hw]⟩

/-- what an operation's effect is -/
inductive Shape (E : Env) (H : Hp) (nid : Nat) (o : Oper) (t : List Nat × List Nat) : Eff → Prop where
  | sets (l : List (Nat × Blk)) (hk : ∀ p, p ∈ l → p.2 ≠ deadB ∧ p.1 < H.length ∧ (laysE E o = true ∧ p.1 = nid ∨ ∃ blk, H[p.1]? = some blk ∧ blk.st = .live)) (ht : t.2 = l.map (·.1)) (hr : clsE E o = .r → l = []) : Shape E H nid o t (.sets l)
  | looks (m : List Nat) (ht : t = (m, [])) : Shape E H nid o t (.looks m)
  | marks (m : List Nat) (ht : t = (m, [])) : Shape E H nid o t (.marks m)

theorem keys_lt {l : List (Nat × Blk)} (hs : clsE E o = .s) (hres : laysE E o = true → isRes H[nid]? = true) {v : AV} (h : opE E pc ic yc true ts H nid o = some (v, .sets l)) :
    ∀ p, p ∈ l → p.2 ≠ deadB ∧ p.1 < H.length ∧ (laysE E o = true ∧ p.1 = nid ∨ ∃ blk, H[p.1]? = some blk ∧ blk.st = .live) := by
  intro p hp
  have get : ∀ {nid}, opE E pc ic yc true ts H nid o = some (v, .sets l) → KeysOk H nid l := fun {nid} h => by
    obtain ⟨l', h1, h2, _⟩ := opE_s hs h
    cases h1; exact h2
  cases hl : laysE E o with
  | true =>
    have := get h p hp
    refine ⟨this.1, ?_, ?_⟩
    · rcases this.2 with q | ⟨blk, q, _⟩
      · rw [q]
        have := isRes_iff.1 (hres hl)
        exact (List.getElem?_eq_some_iff.1 this).1
      · exact (List.getElem?_eq_some_iff.1 q).1
    · rcases this.2 with q | q
      · exact .inl ⟨rfl, q⟩
      · exact .inr q
  | false =>
    have a1 := get ((opE_nid (nid' := H.length + 1) hl).symm.trans h) p hp
    have a2 := get ((opE_nid (nid' := H.length + 2) hl).symm.trans h) p hp
    have : ∃ blk, H[p.1]? = some blk ∧ blk.st = .live := by
      rcases a1.2 with q | q
      · rcases a2.2 with q' | q'
        · omega
        · exact q'
      · exact q
    obtain ⟨blk, g1, g2⟩ := this
    exact ⟨a1.1, (List.getElem?_eq_some_iff.1 g1).1, .inr ⟨blk, g1, g2⟩⟩

theorem resD_rs (hc : clsE E o = .r ∨ clsE E o = .s) {v : AV} {e : Eff} (h : resD E pc ic yc ops nid o ts H = some (v, e)) :
    Shape E H nid o (touchE E ts o e) e ∧ (laysE E o = true → H[nid]? = some deadB) ∧
    ∀ H', (∀ b, b ∈ (touchE E ts o e).1 → AgR H H' b) → (∀ b, b ∈ (touchE E ts o e).2 → H'[b]? = H[b]?) → (laysE E o = true → H'[nid]? = some deadB) → resD E pc ic yc ops nid o ts H' = some (v, e) := by
  have hcn : clsE E o ≠ .n := by rcases hc with q | q <;> rw [q] <;> simp
  have touchS : ∀ l, touchE E ts o (.sets l) = (rootsE ts o, l.map (·.1)) := fun l => by
    unfold touchE
    split
    · exact absurd ‹_› hcn
    · rfl
  have touchM : ∀ m, touchE E ts o (.marks m) = (m, []) := fun l => by
    unfold touchE
    split
    · exact absurd ‹_› hcn
    · rfl
  have touchL : ∀ m, touchE E ts o (.looks m) = (m, []) := fun l => by
    unfold touchE
    split
    · exact absurd ‹_› hcn
    · rfl
  unfold resD at h
  split at h
  · cases h
  rename_i hres
  have hres' : laysE E o = true → isRes H[nid]? = true := fun q => by
    rw [q] at hres
    simpa using hres
  have cond : ∀ H' : Hp, (laysE E o = true → H'[nid]? = some deadB) → ¬ (laysE E o && !isRes H'[nid]?) = true := fun H' hq => by
    cases hl : laysE E o with
    | false => simp
    | true =>
      have := isRes_iff.2 (hq hl)
      simp [this]
  split at h
  · rename_i hw
    have back : ∀ H', (laysE E o = true → H'[nid]? = some deadB) → opE E pc ic yc true ts H' nid o = some (v, e) → resD E pc ic yc ops nid o ts H' = some (v, e) := fun H' h1 h2 => by
      unfold resD
      rw [if_neg (cond H' h1), if_pos hw]
      exact h2
    rcases hc with hc | hc
    · rcases opE_r hc h with ⟨rfl, hf⟩ | ⟨bs, he, hf⟩
      · refine ⟨.sets [] (fun p hp => by simp at hp) (by rw [touchS]) (fun _ => rfl), fun q => isRes_iff.1 (hres' q), fun H' h1 h2 h3 => back H' h3 (hf H' fun b hb => h1 b (by rw [touchS]; exact hb))⟩
      · rcases he with rfl | rfl
        · exact ⟨.looks bs (touchL bs), fun q => isRes_iff.1 (hres' q), fun H' h1 h2 h3 => back H' h3 (hf H' fun b hb => h1 b (by rw [touchL]; exact hb))⟩
        · exact ⟨.marks bs (touchM bs), fun q => isRes_iff.1 (hres' q), fun H' h1 h2 h3 => back H' h3 (hf H' fun b hb => h1 b (by rw [touchM]; exact hb))⟩
    · obtain ⟨l, rfl, hk, hf⟩ := opE_s hc h
      refine ⟨.sets l (keys_lt hc hres' h) (by rw [touchS]) (fun q => by rw [hc] at q; cases q), fun q => isRes_iff.1 (hres' q), fun H' h1 h2 h3 => back H' h3 (hf H' (fun b hb => h1 b (by rw [touchS]; exact hb)) fun p hp => h2 p.1 (by rw [touchS]; exact List.mem_map.2 ⟨p, hp, rfl⟩))⟩
  · rename_i hw
    cases h
    refine ⟨.sets [] (fun p hp => by simp at hp) (by rw [touchS]) (fun _ => rfl), fun q => isRes_iff.1 (hres' q), fun H' h1 h2 h3 => ?_⟩
    unfold resD
    rw [if_neg (cond H' h3), if_neg hw]

/-! ### what an effect leaves -/
section
variable {t : List Nat × List Nat} {e : Eff}

theorem Shape.len (h : Shape E H nid o t e) : (e.app H).length = H.length := by
  cases h with
  | sets l hk ht hr => exact putL_len l H fun p hp => (hk p hp).2.1
  | looks m ht => rfl
  | marks m ht => exact mark_len m H

theorem Shape.agr (h : Shape E H nid o t e) {b : Nat} (hb : b ∉ t.2) : AgR H (e.app H) b ∧ AgR (e.app H) H b := by
  cases h with
  | sets l hk ht hr =>
    have : (putL H l)[b]? = H[b]? := putL_other l H b (fun p hp => (hk p hp).2.1) fun p hp q => hb (by rw [ht]; exact List.mem_map.2 ⟨p, hp, q⟩)
    have e1 : (Eff.sets l).app H = putL H l := rfl
    rw [e1]
    unfold AgR
    rw [this]; exact ⟨rfl, rfl⟩
  | looks m ht => exact ⟨rfl, rfl⟩
  | marks m ht => exact ⟨(agR_mark m b).2, (agR_mark m b).1⟩

theorem Shape.same (h : Shape E H nid o t e) {b : Nat} (h1 : b ∉ t.1) (h2 : b ∉ t.2) : (e.app H)[b]? = H[b]? := by
  cases h with
  | sets l hk ht hr => exact putL_other l H b (fun p hp => (hk p hp).2.1) fun p hp q => h2 (by rw [ht]; exact List.mem_map.2 ⟨p, hp, q⟩)
  | looks m ht => rfl
  | marks m ht =>
    subst ht
    show (mark H m)[b]? = _
    rw [mark_get, if_neg h1]

theorem Shape.dead (h : Shape E H nid o t e) {b : Nat} (hb : (e.app H)[b]? = some deadB) : H[b]? = some deadB := by
  cases h with
  | sets l hk ht hr =>
    rcases putL_key l H b (fun p hp => (hk p hp).2.1) with g | ⟨x, g1, g2⟩
    · rw [← g]; exact hb
    · have : some x = some deadB := g2.symm.trans hb
      cases this
      exact absurd rfl (hk _ g1).1
  | looks m ht => exact hb
  | marks m ht => exact mark_dead.1 hb

theorem Shape.dead' (h : Shape E H nid o t e) {b : Nat} (h2 : b ∉ t.2) (hb : H[b]? = some deadB) : (e.app H)[b]? = some deadB := by
  cases h with
  | sets l hk ht hr =>
    have : (putL H l)[b]? = H[b]? := putL_other l H b (fun p hp => (hk p hp).2.1) fun p hp q => h2 (by rw [ht]; exact List.mem_map.2 ⟨p, hp, q⟩)
    show (putL H l)[b]? = _
    rw [this]; exact hb
  | looks m ht => exact hb
  | marks m ht => exact mark_dead.2 hb

theorem Shape.keys (h : Shape E H nid o t e) {b : Nat} (hb : b ∈ t.2) : (laysE E o = true ∧ b = nid) ∨ ∃ blk, H[b]? = some blk ∧ blk.st = .live := by
  cases h with
  | sets l hk ht hr =>
    rw [ht] at hb
    obtain ⟨p, hp, rfl⟩ := List.mem_map.1 hb
    exact (hk p hp).2.2
  | looks m ht => subst ht; simp at hb
  | marks m ht => subst ht; simp at hb

theorem Shape.noW (h : Shape E H nid o t e) (hc : clsE E o = .r) : t.2 = [] := by
  cases h with
  | sets l hk ht hr => rw [ht, hr hc]; rfl
  | looks m ht => subst ht; rfl
  | marks m ht => subst ht; rfl
end

theorem app_comm {o1 o2 : Oper} {n1 n2 : Nat} {t1 t2 : List Nat × List Nat} {e1 e2 : Eff} {H1 H2 : Hp} (h1 : Shape E H1 n1 o1 t1 e1) (h2 : Shape E H2 n2 o2 t2 e2) (l1 : H1.length = H.length) (l2 : H2.length = H.length)
    (d1 : ∀ x, x ∈ t1.2 → x ∉ t2.1) (d2 : ∀ x, x ∈ t1.2 → x ∉ t2.2) (d3 : ∀ x, x ∈ t1.1 → x ∉ t2.2) : e2.app (e1.app H) = e1.app (e2.app H) := by
  cases h1 with
  | looks m ht => rfl
  | sets l hk ht hr =>
    have hl : ∀ p, p ∈ l → p.1 < H.length := fun p hp => by rw [← l1]; exact (hk p hp).2.1
    have hm : ∀ p, p ∈ l → p.1 ∈ t1.2 := fun p hp => by rw [ht]; exact List.mem_map.2 ⟨p, hp, rfl⟩
    cases h2 with
    | looks m ht => rfl
    | sets l' hk' ht' hr' =>
      have hl' : ∀ p, p ∈ l' → p.1 < H.length := fun p hp => by rw [← l2]; exact (hk' p hp).2.1
      exact putL_comm hl hl' fun p hp q hq e => d2 p.1 (hm p hp) (by rw [ht']; exact List.mem_map.2 ⟨q, hq, e.symm⟩)
    | marks m' ht' =>
      subst ht'
      exact mark_putL hl fun p hp => d1 p.1 (hm p hp)
  | marks m ht =>
    subst ht
    cases h2 with
    | looks m ht => rfl
    | sets l' hk' ht' hr' =>
      have hl' : ∀ p, p ∈ l' → p.1 < H.length := fun p hp => by rw [← l2]; exact (hk' p hp).2.1
      exact (mark_putL hl' fun p hp hx => d3 p.1 hx (by rw [ht']; exact List.mem_map.2 ⟨p, hp, rfl⟩)).symm
    | marks m' ht' => exact mark_comm m m'

/-- two operations change places -/
theorem swap {x y : Oper} {nx ny : Nat} {vx vy : AV} {ex ey : Eff} (ha : y.apart ops x = true)
    (h1 : resD E pc ic yc ops nx x ts H = some (vx, ex)) (h2 : resD E pc ic yc ops ny y (putE x.dst vx ts) (ex.app H) = some (vy, ey))
    (hf : clsE E x = .n ∨ clsE E y = .n ∨ ((clsE E x = .r ∨ clsE E x = .s) ∧ (clsE E y = .r ∨ clsE E y = .s) ∧
      (∀ b, b ∈ (touchE E ts x ex).2 → b ∉ (touchE E (putE x.dst vx ts) y ey).1) ∧ (∀ b, b ∈ (touchE E ts x ex).2 → b ∉ (touchE E (putE x.dst vx ts) y ey).2) ∧
      (∀ b, b ∈ (touchE E ts x ex).1 → b ∉ (touchE E (putE x.dst vx ts) y ey).2)))
    (hn : laysE E x = true → laysE E y = true → nx ≠ ny) :
    resD E pc ic yc ops ny y ts H = some (vy, ey) ∧ resD E pc ic yc ops nx x (putE y.dst vy ts) (ey.app H) = some (vx, ex) ∧ ey.app (ex.app H) = ex.app (ey.app H) ∧
      putE y.dst vy (putE x.dst vx ts) = putE x.dst vx (putE y.dst vy ts) ∧ touchE E (putE y.dst vy ts) x ex = touchE E ts x ex ∧ touchE E (putE x.dst vx ts) y ey = touchE E ts y ey := by
  obtain ⟨a1, a2, a3⟩ := Oper.apart_spec ha
  rw [resD_put a3] at h2
  rw [resD_put a1, touch_put a1, touch_put a3]
  rw [touch_put a3] at hf
  have hput : putE y.dst vy (putE x.dst vx ts) = putE x.dst vx (putE y.dst vy ts) := put_comm a2
  rcases hf with hc | hc | ⟨hx, hy, d1, d2, d3⟩
  · obtain ⟨rfl, g⟩ := resD_n hc h1
    exact ⟨h2, g _, rfl, hput, rfl, rfl⟩
  · obtain ⟨rfl, g⟩ := resD_n hc h2
    exact ⟨g _, h1, rfl, hput, rfl, rfl⟩
  · obtain ⟨s1, r1, f1⟩ := resD_rs hx h1
    obtain ⟨s2, r2, f2⟩ := resD_rs hy h2
    have l1 := s1.len
    have hy' : resD E pc ic yc ops ny y ts H = some (vy, ey) := by
      refine f2 H (fun b hb => (s1.agr fun q => d1 b q hb).2) (fun b hb => ?_) (fun hl => s1.dead (r2 hl))
      exact (s1.same (fun q => d3 b q hb) (fun q => d2 b q hb)).symm
    obtain ⟨s2', _, _⟩ := resD_rs hy hy'
    refine ⟨hy', ?_, app_comm s1 s2' rfl rfl d1 d2 d3, hput, rfl, rfl⟩
    refine f1 _ (fun b hb => (s2'.agr (d3 b hb)).1) (fun b hb => s2'.same (d1 b hb) (d2 b hb)) fun hl => ?_
    refine s2'.dead' (fun q => ?_) (r1 hl)
    rcases s2.keys q with ⟨q1, q2⟩ | ⟨blk, q1, q2⟩
    · exact hn hl q1 q2
    · by_cases hw : nx ∈ (touchE E ts x ex).2
      · exact d2 nx hw q
      · have := s1.dead' hw (r1 hl)
        rw [this] at q1
        cases q1
        cases q2
end
end Dv

namespace Dv
open Go Go.RowKit
set_option linter.unusedSimpArgs false
set_option linter.unusedVariables false

abbrev Item := Nat × Nat × Oper
abbrev Touch := List Nat × List Nat

section
variable {E : Env} {P : Program} {pc : Pc} {ic yc : Ic} {dr : Bool} {ts ts' : List AV} {H H' : Hp} {nid nid' : Nat} {o : Oper} {b : Nat} {ops : Array Oper}
variable {ι : Inj} {w : World} {Lo : Nat → Prop} {w0 : World} {a : Act} {B : Nat}

def runD (E : Env) (pc : Pc) (ic yc : Ic) (ops : Array Oper) : List Item → List AV → Hp → Option (List AV × Hp × List (Nat × Touch))
  | [], ts, H => some (ts, H, [])
  | it :: rest, ts, H => match resD E pc ic yc ops it.2.1 it.2.2 ts H with
    | some (v, e) => match runD E pc ic yc ops rest (putE it.2.2.dst v ts) (e.app H) with
      | some (t, h, l) => some (t, h, (it.1, touchE E ts it.2.2 e) :: l)
      | none => none
    | none => none

theorem runD_cons {it : Item} {rest : List Item} {t : List AV} {h : Hp} {L : List (Nat × Touch)} (hr : runD E pc ic yc ops (it :: rest) ts H = some (t, h, L)) :
    ∃ v e l, resD E pc ic yc ops it.2.1 it.2.2 ts H = some (v, e) ∧ runD E pc ic yc ops rest (putE it.2.2.dst v ts) (e.app H) = some (t, h, l) ∧ L = (it.1, touchE E ts it.2.2 e) :: l := by
  unfold runD at hr
  split at hr
  case h_2 => cases hr
  rename_i v e h1
  split at hr
  case h_2 => cases hr
  rename_i t' h' l h2
  cases hr
  exact ⟨v, e, l, h1, h2, rfl⟩

theorem runD_mk {it : Item} {rest : List Item} {t : List AV} {h : Hp} {l : List (Nat × Touch)} {v : AV} {e : Eff} (h1 : resD E pc ic yc ops it.2.1 it.2.2 ts H = some (v, e))
    (h2 : runD E pc ic yc ops rest (putE it.2.2.dst v ts) (e.app H) = some (t, h, l)) : runD E pc ic yc ops (it :: rest) ts H = some (t, h, (it.1, touchE E ts it.2.2 e) :: l) := by
  unfold runD
  rw [h1]
  simp only
  rw [h2]

/-- what was seen at run time -/
def TOk (ps : List (Nat × Nat)) (L : List (Nat × Touch)) : Prop := ∀ j i tj ti, (j, i) ∈ ps → (j, tj) ∈ L → (i, ti) ∈ L →
  (∀ b, b ∈ tj.2 → b ∉ ti.1) ∧ (∀ b, b ∈ tj.2 → b ∉ ti.2) ∧ (∀ b, b ∈ tj.1 → b ∉ ti.2)

def NidOk (E : Env) (x y : Item) : Prop := laysE E x.2.2 = true → laysE E y.2.2 = true → x.2.1 ≠ y.2.1

theorem noW {x : Oper} {nx : Nat} {v : AV} {e : Eff} (h : resD E pc ic yc ops nx x ts H = some (v, e)) (hc : clsE E x = .r) : (touchE E ts x e).2 = [] :=
  (resD_rs (.inl hc) h).1.noW hc

theorem bubble {ps : List (Nat × Nat)} {y : Item} {post : List Item} {t : List AV} {h : Hp} : ∀ (pre : List Item) (ts : List AV) (H : Hp) (L : List (Nat × Touch)),
    (∀ x, x ∈ pre → y.2.2.apart ops x.2.2 = true ∧ fitE E ps x.1 y.1 x.2.2 y.2.2 = true ∧ NidOk E x y) → runD E pc ic yc ops (pre ++ y :: post) ts H = some (t, h, L) → TOk ps L →
    ∃ v e L', resD E pc ic yc ops y.2.1 y.2.2 ts H = some (v, e) ∧ runD E pc ic yc ops (pre ++ post) (putE y.2.2.dst v ts) (e.app H) = some (t, h, L') ∧ (y.1, touchE E ts y.2.2 e) ∈ L ∧ ∀ z, z ∈ L' → z ∈ L
  | [], ts, H, L, _, hr, _ => by
    obtain ⟨v, e, l, h1, h2, rfl⟩ := runD_cons hr
    exact ⟨v, e, l, h1, h2, by simp, fun z hz => by simp [hz]⟩
  | x :: pre, ts, H, L, hp, hr, ht => by
    obtain ⟨vx, ex, l, h1, h2, rfl⟩ := runD_cons hr
    obtain ⟨vy, ey, L', g1, g2, g3, g4⟩ := bubble pre _ _ l (fun z hz => hp z (by simp [hz])) h2 (fun j i tj ti a b c => ht j i tj ti a (by simp [b]) (by simp [c]))
    obtain ⟨ha, hf, hn⟩ := hp x (by simp)
    have hf' : clsE E x.2.2 = .n ∨ clsE E y.2.2 = .n ∨ ((clsE E x.2.2 = .r ∨ clsE E x.2.2 = .s) ∧ (clsE E y.2.2 = .r ∨ clsE E y.2.2 = .s) ∧
        (∀ b, b ∈ (touchE E ts x.2.2 ex).2 → b ∉ (touchE E (putE x.2.2.dst vx ts) y.2.2 ey).1) ∧ (∀ b, b ∈ (touchE E ts x.2.2 ex).2 → b ∉ (touchE E (putE x.2.2.dst vx ts) y.2.2 ey).2) ∧
        (∀ b, b ∈ (touchE E ts x.2.2 ex).1 → b ∉ (touchE E (putE x.2.2.dst vx ts) y.2.2 ey).2)) := by
      have seen : ps.contains (x.1, y.1) = true → _ := fun q => ht x.1 y.1 _ _ (by simpa using q) (List.mem_cons_self ..) (List.mem_cons_of_mem _ g3)
      unfold fitE at hf
      cases cx : clsE E x.2.2 with
      | n => exact .inl rfl
      | w => rw [cx] at hf; cases cy : clsE E y.2.2 <;> rw [cy] at hf <;> first | (cases hf; done) | exact .inr (.inl rfl)
      | r =>
        cases cy : clsE E y.2.2 with
        | n => exact .inr (.inl rfl)
        | w => rw [cx, cy] at hf; cases hf
        | r => exact .inr (.inr ⟨.inl rfl, .inl rfl, by rw [noW h1 cx]; simp, by rw [noW h1 cx]; simp, by rw [noW g1 cy]; simp⟩)
        | s => rw [cx, cy] at hf; exact .inr (.inr ⟨.inl rfl, .inr rfl, seen hf⟩)
      | s =>
        cases cy : clsE E y.2.2 with
        | n => exact .inr (.inl rfl)
        | w => rw [cx, cy] at hf; cases hf
        | r => rw [cx, cy] at hf; exact .inr (.inr ⟨.inr rfl, .inl rfl, seen hf⟩)
        | s => rw [cx, cy] at hf; exact .inr (.inr ⟨.inr rfl, .inr rfl, seen hf⟩)
    obtain ⟨s1, s2, s3, s4, s5, s6⟩ := swap ha h1 g1 hf' hn
    refine ⟨vy, ey, (x.1, touchE E (putE y.2.2.dst vy ts) x.2.2 ex) :: L', s1, ?_, ?_, fun z hz => ?_⟩
    · refine runD_mk s2 ?_
      rw [← s3, ← s4]
      exact g2
    · rw [← s6]; exact List.mem_cons_of_mem _ g3
    · rcases List.mem_cons.1 hz with rfl | hz
      · rw [s5]; simp
      · exact List.mem_cons_of_mem _ (g4 z hz)

theorem step_of_resD (S : Sim E Lo w0 ι H w) {v : AV} {e : Eff} (h : resD E pc ic yc ops nid o ts H = some (v, e)) :
    ∃ nid', Free ι H nid' ∧ stepE E pc ic yc true ops.toList nid' o ts H = some (putE o.dst v ts, e) := by
  unfold resD at h
  split at h
  · cases h
  rename_i hres
  have main : ∀ nid', (if wantedE ops.toList ts o then opE E pc ic yc true ts H nid' o else some (undefV, .sets [])) = some (v, e) → stepE E pc ic yc true ops.toList nid' o ts H = some (putE o.dst v ts, e) := fun nid' h => by
    unfold stepE
    split at h
    · rename_i hw; rw [if_pos hw, h]
    · rename_i hw; rw [if_neg hw]; cases h; rfl
  cases hl : laysE E o with
  | true =>
    rw [hl] at hres
    exact ⟨nid, free_res S (isRes_iff.1 (by simpa using hres)), main nid h⟩
  | false =>
    refine ⟨H.length, free_len S, main _ ?_⟩
    rw [opE_nid (nid' := nid) hl]
    exact h

/-- an order by the edges -/
def Down (ops : Array Oper) (listed : Array Bool) : Prop := ∀ k o, ops[k]? = some o → listed.getD k false = true → ∀ e, e ∈ o.after → Region.binds .any e = true → listed.getD e.on false = true

theorem path_listed {listed : Array Bool} (hd : Down ops listed) {j : Nat} : ∀ (n i : Nat) (o : Oper), ops[i]? = some o → (∀ e, e ∈ o.after → Region.binds .any e = true → listed.getD e.on false = true) → pathE ops j n i = true → listed.getD j false = true
  | 0, _, _, _, _, h => by cases h
  | n + 1, i, o, ho, he, h => by
    unfold pathE at h
    rw [ho] at h
    simp only at h
    rw [Array.any_eq_true'] at h
    obtain ⟨e, h1, h2⟩ := h
    simp only [Bool.and_eq_true, Bool.or_eq_true, beq_iff_eq, decide_eq_true_eq] at h2
    obtain ⟨h2, h3⟩ := h2
    have hl := he e h1 h2
    rcases h3 with h3 | ⟨_, h3⟩
    · rw [← h3]; exact hl
    · cases hk : ops[e.on]? with
      | none =>
        cases n with
        | zero => cases h3
        | succ n => unfold pathE at h3; rw [hk] at h3; cases h3
      | some o' => exact path_listed hd n e.on o' hk (hd e.on o' hk hl) h3

theorem order_spec {ps : List (Nat × Nat)} (h : orderOk E ps ops = true) {i : Nat} {oi : Oper} (hi : ops[i]? = some oi) :
    (∀ e, e ∈ oi.after → Region.binds .any e = true → e.on < i) ∧ ∀ j oj, j < i → ops[j]? = some oj → (oi.apart ops oj = true ∧ fitE E ps j i oj oi = true) ∨ pathE ops j ops.size i = true := by
  unfold orderOk at h
  have hlt := (Array.getElem?_eq_some_iff.1 hi).1
  have := List.all_eq_true.1 h i (List.mem_range.2 hlt)
  rw [hi] at this
  simp only [Bool.and_eq_true] at this
  obtain ⟨h1, h2⟩ := this
  refine ⟨fun e he hb => ?_, fun j oj hj hoj => ?_⟩
  · rw [Array.all_eq_true_iff_forall_mem] at h1
    have := h1 e he
    rw [hb] at this
    simpa using this
  · have := List.all_eq_true.1 h2 j (List.mem_range.2 hj)
    rw [hoj] at this
    simpa using this

theorem getD_tf {listed : Array Bool} {j : Nat} (h1 : listed.getD j true = false) (h2 : listed.getD j false = true) : False := by
  cases hj : listed[j]? <;> simp [hj] at h1 h2
  rw [h1] at h2; cases h2

theorem draw_wp (V : Valid E P) (hp : PureOK E P pc) (hi : ImpOK E P ic) (hy : YieldOK E P yc) {F : Fence} (hF : WideF F) {ps : List (Nat × Nat)} (hord : orderOk E ps ops = true) {Q : Exit → Act → World → Prop} {t : List AV} {h : Hp} :
    ∀ (fuel : Nat) (rest : List Item) (listed : Array Bool) (ts : List AV) (H : Hp) (L : List (Nat × Touch)) (ι : Inj) (w : World) (a : Act), rest.length = fuel → listed.size = ops.size →
      (∀ it, it ∈ rest → ops[it.1]? = some it.2.2 ∧ listed.getD it.1 true = false) → (∀ k o, ops[k]? = some o → listed.getD k true = false → ∃ it, it ∈ rest ∧ it.1 = k) →
      rest.Pairwise (fun x y => x.1 < y.1 ∧ NidOk E x y) → Down ops listed → runD E pc ic yc ops rest ts H = some (t, h, L) → TOk ps L → St E B Lo w0 ι H ts a w → Then E B Lo w0 ι H w t h (Q .normal) →
      wpAnyIn F 0 P .any ops Q fuel listed a w
  | 0, rest, listed, ts, H, L, ι, w, a, hlen, hsz, hA, hB, hC, hD, hr, hT, S, hk => by
    have : rest = [] := List.length_eq_zero_iff.1 hlen
    subst this
    unfold runD at hr
    cases hr
    refine ⟨?_, hk _ _ ι (Inj.le_refl _) (Ext.refl _ _) S⟩
    rw [List.eq_nil_iff_forall_not_mem]
    intro j hj
    obtain ⟨h1, o, h2, _⟩ := mem_ready.1 hj
    obtain ⟨it, h3, _⟩ := hB j o h2 h1
    simp at h3
  | fuel + 1, rest, listed, ts, H, L, ι, w, a, hlen, hsz, hA, hB, hC, hD, hr, hT, S, hk => by
    refine ⟨fun hnil => ?_, fun i hi' => ?_⟩
    · -- the first of the rest is ready
      exfalso
      match rest, hlen with
      | y :: r, _ =>
        obtain ⟨y1, y2⟩ := hA y (by simp)
        have : y.1 ∈ Region.ready .any ops listed := by
          refine mem_ready.2 ⟨y2, _, y1, fun e he hb => ?_⟩
          have hlt := (order_spec hord y1).1 e he hb
          have hys := (Array.getElem?_eq_some_iff.1 y1).1
          have hes : e.on < listed.size := by omega
          cases hv : listed.getD e.on false with
          | true => rfl
          | false =>
            exfalso
            have hv' : listed.getD e.on true = false := by
              simp [hes] at hv ⊢; exact hv
            obtain ⟨it, k1, k2⟩ := hB e.on _ (Array.getElem?_eq_getElem (by omega)) hv'
            rcases List.mem_cons.1 k1 with rfl | k1
            · omega
            · have := (List.pairwise_cons.1 hC).1 it k1
              omega
        rw [hnil] at this
        simp at this
    · obtain ⟨h1, o, h2, h3⟩ := mem_ready.1 hi'
      obtain ⟨y, k1, k2⟩ := hB i o h2 h1
      obtain ⟨pre, post, rfl⟩ := List.append_of_mem k1
      have hyo : y.2.2 = o := by
        have := (hA y k1).1
        rw [k2, h2] at this
        injection this with this; exact this.symm
      rw [List.pairwise_append] at hC
      obtain ⟨c1, c2, c3⟩ := hC
      rw [List.pairwise_cons] at c2
      have hpre : ∀ x, x ∈ pre → y.2.2.apart ops x.2.2 = true ∧ fitE E ps x.1 y.1 x.2.2 y.2.2 = true ∧ NidOk E x y := by
        intro x hx
        obtain ⟨q1, q2⟩ := c3 x hx y (by simp)
        obtain ⟨x1, x2⟩ := hA x (by simp [hx])
        rcases (order_spec hord (by rw [hyo, k2]; exact h2 : ops[y.1]? = some y.2.2)).2 x.1 x.2.2 q1 x1 with q | q
        · exact ⟨q.1, q.2, q2⟩
        · exfalso
          rw [k2] at q
          exact getD_tf x2 (path_listed hD _ i o h2 h3 q)
      obtain ⟨v, e, L', g1, g2, g3, g4⟩ := bubble pre ts H L hpre hr hT
      rw [hyo] at g1 g2
      obtain ⟨nid', f1, f2⟩ := step_of_resD S.sim g1
      unfold wpOpIn
      rw [h2]
      simp only
      refine stepE_wp V hp hi hy S f1 f2 hF fun a1 w1 ι1 m1 m2 m3 => ?_
      have hne : ∀ it, it ∈ pre ++ post → it.1 ≠ i := fun it hit => by
        rcases List.mem_append.1 hit with hit | hit
        · have := (c3 it hit y (by simp)).1; omega
        · have := (c2.1 it hit).1; omega
      refine draw_wp V hp hi hy hF hord fuel (pre ++ post) (listed.setIfInBounds i true) _ _ L' ι1 w1 a1 ?_ (by simpa using hsz) (fun it hit => ?_) (fun k o' hk' hl => ?_) ?_ ?_ g2 (fun j i tj ti a b c => hT j i tj ti a (g4 _ b) (g4 _ c)) m3 (hk.chain m1 m2)
      · simp only [List.length_append, List.length_cons] at hlen ⊢; omega
      · have hm : it ∈ pre ++ y :: post := by
          rcases List.mem_append.1 hit with q | q <;> simp [q]
        obtain ⟨q1, q2⟩ := hA it hm
        exact ⟨q1, by rw [getD_set_ne true (fun q => hne it hit q.symm)]; exact q2⟩
      · have hki : i ≠ k := by
          intro q
          subst q
          have : i < listed.size := by rw [hsz]; exact (Array.getElem?_eq_some_iff.1 h2).1
          simp [this] at hl
        rw [getD_set_ne true hki] at hl
        obtain ⟨it, q1, q2⟩ := hB k o' hk' hl
        refine ⟨it, ?_, q2⟩
        rcases List.mem_append.1 q1 with q | q
        · exact List.mem_append_left _ q
        · rcases List.mem_cons.1 q with q | q
          · exact absurd (by rw [← q2, q, k2]) hki.symm
          · exact List.mem_append_right _ q
      · rw [List.pairwise_append]
        exact ⟨c1, c2.2, fun x hx z hz => c3 x hx z (by simp [hz])⟩
      · intro k o' hk' hl e' he hb
        by_cases hki : i = k
        · subst hki
          rw [h2] at hk'; cases hk'
          exact getD_set_true (h3 e' he hb)
        · rw [getD_set_ne false hki] at hl
          exact getD_set_true (hD k o' hk' hl e' he hb)
end
end Dv

namespace Dv
open Go Go.RowKit
set_option linter.unusedSimpArgs false
set_option linter.unusedVariables false

section
variable {E : Env} {P : Program} {pc : Pc} {ic yc : Ic} {dr : Bool} {ts ts' : List AV} {H H' : Hp} {nid nid' : Nat} {o : Oper} {b : Nat} {ops : Array Oper}
variable {ι : Inj} {w : World} {Lo : Nat → Prop} {w0 : World} {a : Act} {B : Nat}

def items (E : Env) : Nat → Nat → List Oper → List Item
  | _, _, [] => []
  | k, nid, o :: rest => (k, nid, o) :: items E (k + 1) (if laysE E o then nid + 1 else nid) rest

def zipI : Nat → List Touch → List (Nat × Touch)
  | _, [] => []
  | k, t :: l => (k, t) :: zipI (k + 1) l

theorem mem_zipI : ∀ {l : List Touch} {k j : Nat} {t : Touch}, (j, t) ∈ zipI k l → ∃ d, j = k + d ∧ l[d]? = some t
  | [], _, _, _, h => by simp [zipI] at h
  | x :: l, k, j, t, h => by
    rcases List.mem_cons.1 h with h | h
    · cases h; exact ⟨0, rfl, rfl⟩
    · obtain ⟨d, h1, h2⟩ := mem_zipI h
      exact ⟨d + 1, by omega, by simpa using h2⟩

theorem opsD_runD : ∀ (rest : List Oper) (k nid : Nat) (ts : List AV) (H : Hp) (t : List AV) (h : Hp) (l : List Touch), opsD E pc ic yc ops.toList rest nid ts H = some (t, h, l) →
    runD E pc ic yc ops (items E k nid rest) ts H = some (t, h, zipI k l)
  | [], k, nid, ts, H, t, h, l, hr => by
    unfold opsD at hr
    cases hr
    rfl
  | o :: rest, k, nid, ts, H, t, h, l, hr => by
    unfold opsD at hr
    split at hr
    · cases hr
    rename_i hres
    split at hr
    case h_2 => cases hr
    rename_i ts1 e hst
    split at hr
    case h_2 => cases hr
    rename_i t' h' l' hrest
    cases hr
    have : ∃ v, ts1 = putE o.dst v ts ∧ resD E pc ic yc ops nid o ts H = some (v, e) := by
      unfold stepE at hst
      unfold resD
      rw [if_neg hres]
      split at hst
      · rename_i hw
        rw [if_pos hw]
        split at hst
        · rename_i v e' hop
          cases hst
          exact ⟨v, rfl, hop⟩
        · cases hst
      · rename_i hw
        rw [if_neg hw]
        cases hst
        exact ⟨undefV, rfl, rfl⟩
    obtain ⟨v, rfl, hd⟩ := this
    exact runD_mk (it := (k, nid, o)) hd (opsD_runD rest (k + 1) _ _ _ _ _ _ hrest)

theorem mem_items : ∀ {rest : List Oper} {k nid : Nat} {it : Item}, it ∈ items E k nid rest → ∃ d, it.1 = k + d ∧ rest[d]? = some it.2.2 ∧ nid ≤ it.2.1
  | [], _, _, _, h => by simp [items] at h
  | o :: rest, k, nid, it, h => by
    rcases List.mem_cons.1 h with h | h
    · subst h; exact ⟨0, rfl, rfl, Nat.le_refl _⟩
    · obtain ⟨d, h1, h2, h3⟩ := mem_items h
      refine ⟨d + 1, by omega, by simpa using h2, ?_⟩
      split at h3 <;> omega

theorem items_mem : ∀ {rest : List Oper} {k nid d : Nat} {o : Oper}, rest[d]? = some o → ∃ it, it ∈ items E k nid rest ∧ it.1 = k + d
  | [], _, _, _, _, h => by simp at h
  | x :: rest, k, nid, 0, o, h => ⟨_, List.mem_cons_self .., rfl⟩
  | x :: rest, k, nid, d + 1, o, h => by
    obtain ⟨it, h1, h2⟩ := items_mem (k := k + 1) (nid := if laysE E x then nid + 1 else nid) (d := d) (rest := rest) (by simpa using h)
    exact ⟨it, List.mem_cons_of_mem _ h1, by omega⟩

theorem items_len : ∀ (rest : List Oper) (k nid : Nat), (items E k nid rest).length = rest.length
  | [], _, _ => rfl
  | _ :: rest, k, nid => by simp [items, items_len rest]

theorem items_pair : ∀ (rest : List Oper) (k nid : Nat), (items E k nid rest).Pairwise (fun x y => x.1 < y.1 ∧ NidOk E x y)
  | [], _, _ => .nil
  | o :: rest, k, nid => by
    refine List.pairwise_cons.2 ⟨fun y hy => ?_, items_pair rest _ _⟩
    obtain ⟨d, h1, h2, h3⟩ := mem_items hy
    refine ⟨by simp only; omega, fun l1 _ => ?_⟩
    simp only at l1 ⊢
    rw [l1] at h3
    simp only [if_true] at h3
    omega

theorem TOk_of {ps : List (Nat × Nat)} {l : List Touch} (h : ps.all (pairOk l) = true) : TOk ps (zipI 0 l) := by
  intro j i tj ti hm hj hi
  obtain ⟨d, h1, h2⟩ := mem_zipI hj
  obtain ⟨d', h3, h4⟩ := mem_zipI hi
  have := List.all_eq_true.1 h _ hm
  unfold pairOk at this
  simp only [Nat.zero_add] at h1 h3
  rw [h1, h3, h2, h4] at this
  obtain ⟨r1, w1⟩ := tj
  obtain ⟨r2, w2⟩ := ti
  simp only [Bool.and_eq_true] at this
  obtain ⟨⟨a1, a2⟩, a3⟩ := this
  exact ⟨apartL_iff.1 a1, apartL_iff.1 a2, apartL_iff.1 a3⟩

theorem pad_get (k b : Nat) : (H ++ List.replicate k deadB)[b]? = H[b]? ∨ (H[b]? = none ∧ (H ++ List.replicate k deadB)[b]? = some deadB) := by
  rw [List.getElem?_append]
  split
  · exact .inl rfl
  · rename_i hb
    rw [List.getElem?_replicate]
    split
    · exact .inr ⟨List.getElem?_eq_none (by omega), rfl⟩
    · exact .inl (List.getElem?_eq_none (by omega)).symm

theorem pad_get' {k b : Nat} {blk : Blk} (h : (H ++ List.replicate k deadB)[b]? = some blk) (hs : blk.st ≠ .dead) : H[b]? = some blk := by
  rcases pad_get (H := H) k b with q | ⟨_, q⟩
  · rw [← q]; exact h
  · rw [q] at h; cases h; exact absurd rfl hs

theorem pad_live (k : Nat) : Live Lo ι (H ++ List.replicate k deadB) = Live Lo ι H := by
  refine Live.congr fun c => ⟨?_, ?_⟩
  · rintro (h | ⟨b, blk, co, h1, h2, h3⟩)
    · exact .inl h
    · exact .inr ⟨b, blk, co, pad_get' h1 (by rw [h2]; simp), h2, h3⟩
  · rintro (h | ⟨b, blk, co, h1, h2, h3⟩)
    · exact .inl h
    · refine .inr ⟨b, blk, co, ?_, h2, h3⟩
      rw [List.getElem?_append_left (List.getElem?_eq_some_iff.1 h1).1]; exact h1

theorem Sim.pad (S : Sim E Lo w0 ι H w) (k : Nat) : Sim E Lo w0 ι (H ++ List.replicate k deadB) w := by
  refine ⟨S.below, S.lo, fun b p hp => ?_, ?_, ?_, ?_, ?_, ?_⟩
  · have := S.dom b p hp
    exact ⟨by simp; omega, this.2⟩
  · intro b blk hb hd
    rw [pad_live]
    exact S.obj b blk (pad_get' hb hd) hd
  · intro b b' blk blk' c co co' h1 h2 h3 h4 h5 h6
    exact S.inj b b' blk blk' c co co' (pad_get' h1 (by rw [h2]; simp)) h2 (pad_get' h3 (by rw [h4]; simp)) h4 h5 h6
  · rw [pad_live]; exact S.glob
  · intro b blk h1 h2
    exact S.fine b blk (pad_get' h1 (by rw [h2]; simp)) h2
  · intro b p hp
    rw [List.getElem?_append_left (S.dom b p hp).1]
    exact S.res b p hp

theorem drawOK (V : Valid E P) (O : OvOK E P) {rec : Cd} (hrec : CodeOK E P rec) : DrawOK E P rec := by
  intro id ops ts H ts' H' h hord F hF B Lo w0 ι w a hB hBw S Q hk
  unfold drawE at h
  split at h
  case h_2 => cases h
  rename_i t hh l hops
  split at h
  case isFalse => cases h
  rename_i hpairs
  cases h
  have S1 := S.sim.pad (ops.toList.countP (laysE E))
  have D := S1.drew (w' := { w with drawn := w.drawn + 1 }) rfl rfl rfl rfl
  have X : Ext w (Live Lo ι H) { w with drawn := w.drawn + 1 } (Live Lo ι (H ++ List.replicate (ops.toList.countP (laysE E)) deadB)) := by
    have := D.2
    rw [pad_live] at this ⊢
    exact this
  have hsize : (Array.replicate ops.size false).size = ops.size := by simp
  refine wpIn_region_any V.mixed ?_
  refine draw_wp V (runP_ok V O hrec) (runI_ok V O hrec) (runY_sound V hrec) hF hord ops.size (items E 0 H.length ops.toList) _ ts _ _ ι _ a ?_ hsize (fun it hit => ?_) (fun k o hk' _ => ?_) (items_pair _ _ _) (fun k o hk' hl => ?_)
    (opsD_runD ops.toList 0 H.length _ _ _ _ _ hops) (TOk_of ?_) ⟨D.1, Rs.ext X _ _ _ _ (Inj.le_refl _) S.tm, S.mks.ext X rfl⟩ (hk.chain (Inj.le_refl _) X)
  · rw [items_len]; simp
  · obtain ⟨d, h1, h2, _⟩ := mem_items hit
    simp only [Nat.zero_add] at h1
    rw [h1, ← Array.getElem?_toList]
    refine ⟨h2, ?_⟩
    have : d < ops.size := by
      have := (List.getElem?_eq_some_iff.1 h2).1
      simpa using this
    simp [this]
  · obtain ⟨it, h1, h2⟩ := items_mem (E := E) (k := 0) (nid := H.length) (d := k) (rest := ops.toList) (o := o) (by rw [Array.getElem?_toList]; exact hk')
    exact ⟨it, h1, by omega⟩
  · exfalso
    have := (Array.getElem?_eq_some_iff.1 hk').1
    simp [this] at hl
  · have : ops.toList.length = ops.size := by simp
    rw [this] at hpairs
    exact hpairs

/-- THE EVALUATOR IS SOUND: a pure call that comes to data is a call that returns a value that reads so, and leaves all that was there as it was -/
theorem call_ok (V : Valid E P) (O : OvOK E P) (n : Nat) : PureOK E P (call E n) :=
  runP_ok V O (evalC_ok V O (fun rec h => drawOK V O h) n).1
end
end Dv

namespace Dv
open Go Go.RowKit
set_option linter.unusedSimpArgs false
set_option linter.unusedVariables false

def isAggD : TypeDesc → Bool
  | .struct _ | .array .. => true
  | _ => false

def isAggV : Value → Bool
  | .agg _ => true
  | _ => false

def zeroOf (isA : Bool) (size : Nat) (z : Value) : Option (List AV) :=
  match mapO (absN 19) z.cells.toList with
  | some cs => if cs.length == size && isAggV z == isA then some cs else none
  | none => none

def tyOf (P : Program) (t : Nat) : Option TyI :=
  match P.info? t, P.underlying t with
  | some i, some u =>
    if isAggD u || i.size == 1 then
      some { und := u, isAgg := isAggD u, size := i.size, bytes := i.bytes, zero := i.zero.bind (zeroOf (isAggD u) i.size), eqOk := !P.stoodInHeld t && !P.eqGuardType P.depth t }
    else none
  | _, _ => none

theorem tyOf_ok {E : Env} {P : Program} {t : Nat} {i : TyI} (h : tyOf P t = some i) : TyOk E P t i := by
  unfold tyOf at h
  split at h
  case h_2 => cases h
  rename_i ti u h1 h2
  split at h
  case isFalse => cases h
  rename_i hc
  cases h
  refine ⟨h2, ?_, ⟨ti, h1, rfl, rfl, fun cs hcs => ?_⟩, ?_, ?_⟩
  · cases u <;> rfl
  · simp only [Option.bind_eq_some_iff] at hcs
    obtain ⟨z, g1, g2⟩ := hcs
    refine ⟨z, g1, ?_⟩
    unfold zeroOf at g2
    split at g2
    case h_2 => cases g2
    rename_i cs' hm
    split at g2
    case isFalse => cases g2
    rename_i hc'
    cases g2
    simp only [Bool.and_eq_true, beq_iff_eq] at hc'
    refine ⟨hm, hc'.1, fun ha => ?_, fun ha => ?_⟩
    · simp only at ha
      have := hc'.2.trans ha
      cases z <;> simp [isAggV] at this
      exact ⟨_, rfl⟩
    · simp only at ha
      have := hc'.2.trans ha
      cases z <;> simp [isAggV] at this <;> rfl
  · intro ha
    simp only at ha ⊢
    simpa [ha] using hc
  · intro he
    simpa using he

def fnOf (P : Program) (imp dual skip : List Nat) (f : Nat) : Option FnI :=
  if skip.contains f then none else match P.funcs[f]? with
  | some fn => match fn.body with
    | some c => some { code := c, ntmps := fn.ntmps, results := fn.results.toList, pure := !imp.contains f, dual := dual.contains f }
    | none => none
  | none => none

/-- what is to be seen once of a program -/
def envOk (E : Env) (P : Program) : Bool :=
  P.funcs.all (fun fn => fn.name != "runtime.NumGoroutine") && P.follows .mixedOrders &&
  (List.range P.funcs.size).all fun f => match E.fn f with
    | some fi => codeOk E fi.code
    | none => true

theorem valid_of {E : Env} {P : Program} {imp dual skip : List Nat} (ht : E.ty = tyOf P) (hf : E.fn = fnOf P imp dual skip) (h : envOk E P = true) : Valid E P := by
  unfold envOk at h
  simp only [Bool.and_eq_true] at h
  obtain ⟨⟨h1, h2⟩, h3⟩ := h
  refine ⟨fun t i hti => tyOf_ok (by rw [← ht]; exact hti), fun f fi hfi => ?_, h2⟩
  have hfi0 := hfi
  rw [hf] at hfi
  unfold fnOf at hfi
  split at hfi
  · cases hfi
  split at hfi
  case h_2 => cases hfi
  rename_i fn hfn
  split at hfi
  case h_2 => cases hfi
  rename_i c hc
  cases hfi
  refine ⟨fn, hfn, hc, rfl, rfl, ?_, ?_⟩
  · have := (Array.all_eq_true_iff_forall_mem.1 h1) fn (Array.mem_of_getElem? hfn)
    simpa using this
  · have hlt := (Array.getElem?_eq_some_iff.1 hfn).1
    have := List.all_eq_true.1 h3 f (List.mem_range.2 hlt)
    rw [hfi0] at this
    exact this
def fnOk (E : Env) (f : Nat) : Bool := match E.fn f with
  | some fi => codeOk E fi.code
  | none => true

/-- the same, in parts -/
theorem valid_parts {E : Env} {P : Program} {imp dual skip : List Nat} (ht : E.ty = tyOf P) (hf : E.fn = fnOf P imp dual skip) (h1 : P.funcs.all (fun fn => fn.name != "runtime.NumGoroutine") = true)
    (h2 : P.follows .mixedOrders = true) (h3 : ∀ f, f < P.funcs.size → fnOk E f = true) : Valid E P := by
  refine valid_of ht hf ?_
  unfold envOk
  simp only [h1, h2, Bool.true_and]
  exact List.all_eq_true.2 fun f hf => h3 f (List.mem_range.1 hf)

theorem all_part {p : Nat → Bool} {s n f : Nat} (h : (List.range' s n).all p = true) (h1 : s ≤ f) (h2 : f < s + n) : p f = true := List.all_eq_true.1 h f (List.mem_range'_1.2 ⟨h1, h2⟩)

end Dv

namespace Dv
open Go Go.RowKit
set_option linter.unusedSimpArgs false
set_option linter.unusedVariables false

def beqK : IntKind → IntKind → Bool
  | .i8, .i8 | .i16, .i16 | .i32, .i32 | .i64, .i64 | .u8, .u8 | .u16, .u16 | .u32, .u32 | .u64, .u64 => true
  | a, b => decide (a = b)

theorem beqK_eq {a b : IntKind} (h : beqK a b = true) : a = b := by
  unfold beqK at h
  split at h <;> first | rfl | simpa using h

mutual
/-- the same data -/
def beqA : AV → AV → Bool
  | .int k n, .int j m => n == m && beqK k j
  | .bool a, .bool b => a == b
  | .str a, .str b => a == b
  | .nilptr, .nilptr => true
  | .vptr a i, .vptr b j => i == j && beqL a b
  | .gptr a i, .gptr b j => a == b && i == j
  | .nilslice, .nilslice => true
  | .eslice, .eslice => true
  | .vslice a i, .vslice b j => i == j && beqL a b
  | .nilmap, .nilmap => true
  | .vmap a c, .vmap b d => beqL a b && beqL c d
  | .nilfunc, .nilfunc => true
  | .func f a c, .func g b d => f == g && beqL a b && beqL c d
  | .nilIface, .nilIface => true
  | .iface t a, .iface u b => t == u && beqA a b
  | .agg a, .agg b => beqL a b
  | .tuple a, .tuple b => beqL a b
  | _, _ => false
def beqL : List AV → List AV → Bool
  | [], [] => true
  | a :: as, b :: bs => beqA a b && beqL as bs
  | _, _ => false
end

mutual
theorem beqA_eq : ∀ (a b : AV), beqA a b = true → a = b
  | .int k n, b, h => by
    cases b <;> simp only [beqA, Bool.false_eq_true, Bool.and_eq_true, beq_iff_eq] at h
    rw [h.1, beqK_eq h.2]
  | .bool a, b, h => by cases b <;> simp only [beqA, Bool.false_eq_true, beq_iff_eq] at h; rw [h]
  | .str a, b, h => by cases b <;> simp only [beqA, Bool.false_eq_true, beq_iff_eq] at h; rw [h]
  | .nilptr, b, h => by cases b <;> simp only [beqA, Bool.false_eq_true] at h; rfl
  | .hptr .., b, h => by cases b <;> simp [beqA] at h
  | .vptr a i, b, h => by
    cases b <;> simp only [beqA, Bool.false_eq_true, Bool.and_eq_true, beq_iff_eq] at h
    rw [h.1, beqL_eq _ _ h.2]
  | .gptr a i, b, h => by
    cases b <;> simp only [beqA, Bool.false_eq_true, Bool.and_eq_true, beq_iff_eq] at h
    rw [h.1, h.2]
  | .nilslice, b, h => by cases b <;> simp only [beqA, Bool.false_eq_true] at h; rfl
  | .eslice, b, h => by cases b <;> simp only [beqA, Bool.false_eq_true] at h; rfl
  | .hslice .., b, h => by cases b <;> simp [beqA] at h
  | .vslice a i, b, h => by
    cases b <;> simp only [beqA, Bool.false_eq_true, Bool.and_eq_true, beq_iff_eq] at h
    rw [h.1, beqL_eq _ _ h.2]
  | .nilmap, b, h => by cases b <;> simp only [beqA, Bool.false_eq_true] at h; rfl
  | .hmap _, b, h => by cases b <;> simp [beqA] at h
  | .vmap a c, b, h => by
    cases b <;> simp only [beqA, Bool.false_eq_true, Bool.and_eq_true] at h
    rw [beqL_eq _ _ h.1, beqL_eq _ _ h.2]
  | .nilfunc, b, h => by cases b <;> simp only [beqA, Bool.false_eq_true] at h; rfl
  | .func f a c, b, h => by
    cases b <;> simp only [beqA, Bool.false_eq_true, Bool.and_eq_true, beq_iff_eq] at h
    rw [h.1.1, beqL_eq _ _ h.1.2, beqL_eq _ _ h.2]
  | .nilIface, b, h => by cases b <;> simp only [beqA, Bool.false_eq_true] at h; rfl
  | .iface t a, b, h => by
    cases b <;> simp only [beqA, Bool.false_eq_true, Bool.and_eq_true, beq_iff_eq] at h
    rw [h.1, beqA_eq _ _ h.2]
  | .agg a, b, h => by
    cases b <;> simp only [beqA, Bool.false_eq_true] at h
    rw [beqL_eq _ _ h]
  | .tuple a, b, h => by
    cases b <;> simp only [beqA, Bool.false_eq_true] at h
    rw [beqL_eq _ _ h]
  | .yield l, b, h => by cases b <;> simp [beqA] at h
theorem beqL_eq : ∀ (a b : List AV), beqL a b = true → a = b
  | [], b, h => by cases b <;> simp [beqL] at h; rfl
  | x :: xs, b, h => by
    cases b with
    | nil => simp [beqL] at h
    | cons y ys =>
      simp only [beqL, Bool.and_eq_true] at h
      rw [beqA_eq _ _ h.1, beqL_eq _ _ h.2]
end

/-- a function's calls -/
abbrev Known := List (List AV × AV)
/-- functions, with their calls -/
abbrev Table := List (Nat × Known)

def findK : Known → List AV → Option AV
  | [], _ => none
  | (as, r) :: K, args => if beqL as args then some r else findK K args

def findT : Table → Nat → List AV → Option AV
  | [], _, _ => none
  | (f, K) :: T, g, args => if f == g then findK K args else findT T g args

def Env.knows (E : Env) (T : Table) : Env := { E with ov := fun f args => match findT T f args with
  | some r => some r
  | none => E.ov f args }

/-- each entry is what the evaluator finds -/
def checkK (E : Env) (n : Nat) (f : Nat) (K : Known) : Bool := K.all fun e => match call E n f e.1 with
  | some v => beqA v e.2
  | none => false
def checkT (E : Env) (n : Nat) (T : Table) : Bool := T.all fun p => checkK E n p.1 p.2

theorem findK_mem : ∀ {K : Known} {args : List AV} {r : AV}, findK K args = some r → (args, r) ∈ K
  | [], _, _, h => by cases h
  | (as, r') :: K, args, r, h => by
    unfold findK at h
    split at h
    · rename_i hb
      cases h
      rw [beqL_eq _ _ hb]; simp
    · exact List.mem_cons_of_mem _ (findK_mem h)

theorem findT_call {E : Env} {n : Nat} : ∀ {T : Table} {f : Nat} {args : List AV} {r : AV}, checkT E n T = true → findT T f args = some r → call E n f args = some r
  | [], _, _, _, _, h => by cases h
  | (g, K) :: T, f, args, r, hc, h => by
    simp only [checkT, List.all_cons, Bool.and_eq_true] at hc
    unfold findT at h
    split at h
    · rename_i hfg
      simp only [beq_iff_eq] at hfg
      subst hfg
      have := List.all_eq_true.1 hc.1 _ (findK_mem h)
      simp only at this
      split at this
      · rename_i v hv
        rw [hv, beqA_eq _ _ this]
      · cases this
    · exact findT_call hc.2 h

theorem codeOk_ov {E : Env} (x : Nat → List AV → Option AV) (y : Nat → List AV → Hp → Option (AV × Hp)) : ∀ c, codeOk { E with ov := x, ovI := y } c = codeOk E c
  | .seq a b => by simp only [codeOk, codeOk_ov x y a, codeOk_ov x y b]
  | .cond _ a b => by simp only [codeOk, codeOk_ov x y a, codeOk_ov x y b]
  | .block _ a => by simp only [codeOk, codeOk_ov x y a]
  | .loop a => by simp only [codeOk, codeOk_ov x y a]
  | .scope a => by simp only [codeOk, codeOk_ov x y a]
  | .rangeFunc _ _ a b => by simp only [codeOk, codeOk_ov x y a, codeOk_ov x y b]
  | .region id ops draw => rfl
  | .skip => rfl
  | .exit _ => rfl
  | .label _ => rfl
  | .goto _ => rfl
  | .ret => rfl
  | .refuse _ => rfl

theorem Valid.ov {E : Env} {P : Program} (V : Valid E P) (x : Nat → List AV → Option AV) (y : Nat → List AV → Hp → Option (AV × Hp)) : Valid { E with ov := x, ovI := y } P :=
  ⟨fun t i h => by
    obtain ⟨h1, h2, h3, h4, h5⟩ := V.ty t i h
    exact ⟨h1, h2, h3, h4, h5⟩,
   fun f fi h => by
    obtain ⟨fn, h1, h2, h3, h4, h5, h6⟩ := V.fn f fi h
    exact ⟨fn, h1, h2, h3, h4, h5, by rw [codeOk_ov]; exact h6⟩, V.mixed⟩

theorem PureOK.glob {E E' : Env} {P : Program} {pc : Pc} (h : PureOK E P pc) (hg : E'.glob = E.glob) : PureOK E' P pc := fun f as r hp L w vs hl hgl ha =>
  h f as r hp L w vs hl (fun g cs q => hgl g cs (by rw [hg]; exact q)) ha

theorem Sim.env {E E' : Env} {Lo : Nat → Prop} {w0 : World} {ι : Inj} {H : Hp} {w : World} (hg : E'.glob = E.glob) (hc : ∀ c, codeOk E' c = codeOk E c) (S : Sim E Lo w0 ι H w) : Sim E' Lo w0 ι H w :=
  ⟨S.below, S.lo, S.dom, S.obj, S.inj, fun g cs h => S.glob g cs (by rw [← hg]; exact h), fun b blk h1 h2 => by
    have := S.fine b blk h1 h2
    cases blk <;> simp only [Blk.fine] at this ⊢
    simp only [hc]; exact this, S.res⟩

theorem ImpOK.env {E E' : Env} {P : Program} {ic : Ic} (h : ImpOK E P ic) (hg : E'.glob = E.glob) (hc : ∀ c, codeOk E' c = codeOk E c) : ImpOK E' P ic := fun f as H v H2 hp Lo w0 ι w vs S ha =>
  (h f as H v H2 hp Lo w0 ι w vs (S.env hg.symm (fun c => (hc c).symm)) ha).mono fun cv w' ⟨ι', h1, h2, h3, h4⟩ => ⟨ι', h1, h2.env hg hc, h3, h4⟩

/-- WHAT A TABLE KNOWS MAY BE USED -/
theorem knows_ok {E : Env} {P : Program} (V : Valid E P) (O : OvOK E P) {n : Nat} {T : Table} (h : checkT E n T = true) : Valid (E.knows T) P ∧ OvOK (E.knows T) P := by
  refine ⟨V.ov _ _, ⟨?_, O.ovI.env rfl (fun c => codeOk_ov _ _ c)⟩⟩
  intro f as r hr L w vs hl hgl ha
  simp only [Env.knows] at hr
  split at hr
  · rename_i r' hf
    cases hr
    exact call_ok V O n f as r (findT_call h hf) L w vs hl hgl ha
  · exact O.ov f as r hr L w vs hl hgl ha
end Dv
