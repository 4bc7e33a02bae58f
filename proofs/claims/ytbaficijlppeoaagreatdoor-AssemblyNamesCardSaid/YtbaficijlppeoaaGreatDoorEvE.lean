/-
  The evaluator without fuel, loops over maps, steps at data that are not known, layers of tables, rows of cells.
-/
import Derived.Test.YtbaficijlppeoaaGreatDoorEvD
import Derived.Maps.RangeRun
set_option linter.unusedSimpArgs false
set_option linter.unusedVariables false

namespace Dv
open Go Go.RowKit
set_option linter.unusedSimpArgs false
set_option linter.unusedVariables false

def PcLe (a b : Pc) : Prop := ∀ f as r, a f as = some r → b f as = some r
def IcLe (a b : Ic) : Prop := ∀ f as H r, a f as H = some r → b f as H = some r
def CdLe (a b : Cd) : Prop := ∀ c ts H r, a c ts H = some r → b c ts H = some r

theorem CdLe.refl (a : Cd) : CdLe a a := fun _ _ _ _ h => h
theorem CdLe.trans {a b c : Cd} (h : CdLe a b) (k : CdLe b c) : CdLe a c := fun _ _ _ _ q => k _ _ _ _ (h _ _ _ _ q)

section
variable {E : Env} {rec rec' : Cd}

theorem runP_le (h : CdLe rec rec') : PcLe (runP E rec) (runP E rec') := by
  intro f as r hr
  unfold runP at hr ⊢
  cases hov : E.ov f as with
  | some q => simp only [hov] at hr ⊢; exact hr
  | none =>
    simp only [hov] at hr ⊢
    cases hfi : E.fn f with
    | none => simp only [hfi] at hr; cases hr
    | some fi =>
      simp only [hfi] at hr ⊢
      by_cases hd : (!(fi.pure || fi.dual)) = true
      · rw [if_pos hd] at hr; cases hr
      · rw [if_neg hd] at hr ⊢
        cases hrec : rec fi.code (as ++ List.replicate (fi.ntmps - as.length) undefV) [] with
        | none => rw [hrec] at hr; cases hr
        | some x => rw [h _ _ _ _ hrec]; rw [hrec] at hr; exact hr

theorem runI0_le (h : CdLe rec rec') : IcLe (runI0 E rec) (runI0 E rec') := by
  intro f as H r hr
  unfold runI0 at hr ⊢
  cases hfi : E.fn f with
  | none => simp only [hfi] at hr; cases hr
  | some fi =>
    simp only [hfi] at hr ⊢
    cases hrec : rec fi.code (as ++ List.replicate (fi.ntmps - as.length) undefV) H with
    | none => rw [hrec] at hr; cases hr
    | some x => rw [h _ _ _ _ hrec]; rw [hrec] at hr; exact hr

theorem runI_le (h : CdLe rec rec') : IcLe (runI E rec) (runI E rec') := by
  intro f as H r hr
  unfold runI at hr ⊢
  cases hov : E.ovI f as H with
  | some q => simp only [hov] at hr ⊢; exact hr
  | none => simp only [hov] at hr ⊢; exact runI0_le h _ _ _ _ hr

theorem runY_le (h : CdLe rec rec') : IcLe (runY rec) (runY rec') := by
  intro l as H r hr
  simp only [runY] at hr ⊢
  cases q0 : H[l]? with
  | none => simp only [q0] at hr; cases hr
  | some b0 =>
    cases b0 with
    | cells _ _ => simp only [q0] at hr; cases hr
    | map _ _ _ => simp only [q0] at hr; cases hr
    | siter _ _ => simp only [q0] at hr; cases hr
    | loop st pend ts ps assign body =>
      cases st <;> try (simp only [q0] at hr; cases hr)
      simp only [q0] at hr ⊢
      cases q1 : setL ts ps as with
      | none => simp only [q1] at hr; cases hr
      | some ts' =>
        simp only [q1] at hr ⊢
        cases q2 : rec assign ts' H with
        | none => simp only [q2] at hr; cases hr
        | some x =>
          obtain ⟨ex, t1, H1⟩ := x
          rw [h _ _ _ _ q2]
          cases ex <;> try (simp only [q2] at hr; cases hr)
          simp only [q2] at hr ⊢
          cases q3 : H1[l]? with
          | none => simp only [q3] at hr; cases hr
          | some b1 =>
            cases b1 with
            | cells _ _ => simp only [q3] at hr; cases hr
            | map _ _ _ => simp only [q3] at hr; cases hr
            | siter _ _ => simp only [q3] at hr; cases hr
            | loop st1 pend1 ts1 ps1 as1 b1 =>
              cases st1 <;> try (simp only [q3] at hr; cases hr)
              simp only [q3] at hr ⊢
              cases q4 : rec body t1 (H1.set l (.loop .busy pend1 ts1 ps1 as1 b1)) with
              | none => rw [q4] at hr; cases hr
              | some y => rw [h _ _ _ _ q4]; rw [q4] at hr; exact hr

variable {pc pc' : Pc} {ic ic' yc yc' : Ic} {dr : Bool}

theorem map_le {α β : Type} {a b : Option α} {g : α → β} {r : β} (hab : ∀ x, a = some x → b = some x) (h : a.map g = some r) : b.map g = some r := by
  cases a with
  | none => cases h
  | some x => rw [hab x rfl]; exact h

theorem callE_le (hp : PcLe pc pc') (hi : IcLe ic ic') (hy : IcLe yc yc') {H : Hp} {fv : AV} {args : List AV} {r} (h : callE E pc ic yc dr H fv args = some r) : callE E pc' ic' yc' dr H fv args = some r := by
  unfold callE at h ⊢
  cases fv with
  | func f first cap =>
    simp only at h ⊢
    have key : ∀ (c : Bool) (h : (if c = true then match freezeL H (first ++ args ++ cap) with
        | some (as, bs) => Option.map (fun v => (v, if refFree v = true then Eff.looks bs else Eff.marks bs)) (pc f as)
        | none => none
      else Option.map (fun x => (x.fst, Eff.big x.snd)) (ic f (first ++ args ++ cap) H)) = some r),
      (if c = true then match freezeL H (first ++ args ++ cap) with
        | some (as, bs) => Option.map (fun v => (v, if refFree v = true then Eff.looks bs else Eff.marks bs)) (pc' f as)
        | none => none
      else Option.map (fun x => (x.fst, Eff.big x.snd)) (ic' f (first ++ args ++ cap) H)) = some r := by
      intro c h
      cases c with
      | true =>
        rw [if_pos rfl] at h ⊢
        cases hf : freezeL H (first ++ args ++ cap) with
        | none => rw [hf] at h; cases h
        | some x => rw [hf] at h; exact map_le (fun _ q => hp _ _ _ q) h
      | false =>
        rw [if_neg (by simp)] at h ⊢
        exact map_le (fun _ q => hi _ _ _ _ q) h
    split at h <;> exact key _ h
  | yield l => exact map_le (fun _ q => hy _ _ _ _ q) h
  | _ => cases h

theorem opE_le (hp : PcLe pc pc') (hi : IcLe ic ic') (hy : IcLe yc yc') {ts : List AV} {H : Hp} {nid : Nat} {o : Oper} {r} (h : opE E pc ic yc dr ts H nid o = some r) : opE E pc' ic' yc' dr ts H nid o = some r := by
  by_cases hc : ∃ c f, o.op = .call c ∧ c.callee = .value f
  · obtain ⟨c, f, h1, h2⟩ := hc
    unfold opE at h ⊢
    simp only [h1, h2] at h ⊢
    cases q1 : evO ts f with
    | none => simp only [q1] at h; cases h
    | some fv =>
      cases q2 : evL ts c.args.toList with
      | none => simp only [q1, q2] at h; cases h
      | some as =>
        simp only [q1, q2] at h ⊢
        exact callE_le hp hi hy h
  · rw [← h]
    unfold opE
    split <;> try rfl
    rename_i c hop
    split <;> try rfl
    rename_i f hcal
    exact absurd ⟨c, f, hop, hcal⟩ hc

theorem stepE_le (hp : PcLe pc pc') (hi : IcLe ic ic') (hy : IcLe yc yc') {ops : List Oper} {ts : List AV} {H : Hp} {nid : Nat} {o : Oper} {r} (h : stepE E pc ic yc dr ops nid o ts H = some r) : stepE E pc' ic' yc' dr ops nid o ts H = some r := by
  unfold stepE at h ⊢
  by_cases hw : wantedE ops ts o = true
  · rw [if_pos hw] at h ⊢
    cases q : opE E pc ic yc dr ts H nid o with
    | none => rw [q] at h; cases h
    | some x => rw [opE_le hp hi hy q]; rw [q] at h; exact h
  · rw [if_neg hw] at h ⊢; exact h

theorem opsE_le (hp : PcLe pc pc') (hi : IcLe ic ic') (hy : IcLe yc yc') {ops : List Oper} : ∀ {rest : List Oper} {ts : List AV} {H : Hp} {r}, opsE E pc ic yc ops rest ts H = some r → opsE E pc' ic' yc' ops rest ts H = some r
  | [], _, _, _, h => h
  | o :: rest, ts, H, r, h => by
    unfold opsE at h ⊢
    cases q : stepE E pc ic yc false ops H.length o ts H with
    | none => rw [q] at h; cases h
    | some x =>
      rw [stepE_le hp hi hy q]
      rw [q] at h
      exact opsE_le hp hi hy h

theorem opsD_le (hp : PcLe pc pc') (hi : IcLe ic ic') (hy : IcLe yc yc') {ops : List Oper} : ∀ {rest : List Oper} {nid : Nat} {ts : List AV} {H : Hp} {r}, opsD E pc ic yc ops rest nid ts H = some r → opsD E pc' ic' yc' ops rest nid ts H = some r
  | [], _, _, _, _, h => h
  | o :: rest, nid, ts, H, r, h => by
    unfold opsD at h ⊢
    by_cases hc : (laysE E o && !isRes H[nid]?) = true
    · rw [if_pos hc] at h; cases h
    rw [if_neg hc] at h ⊢
    cases q : stepE E pc ic yc true ops nid o ts H with
    | none => rw [q] at h; cases h
    | some x =>
      rw [stepE_le hp hi hy q]
      rw [q] at h
      obtain ⟨ts', e⟩ := x
      simp only at h ⊢
      cases q2 : opsD E pc ic yc ops rest (if laysE E o then nid + 1 else nid) ts' (e.app H) with
      | none => rw [q2] at h; cases h
      | some y =>
        rw [opsD_le hp hi hy q2]
        rw [q2] at h
        exact h

theorem drawE_le (hp : PcLe pc pc') (hi : IcLe ic ic') (hy : IcLe yc yc') {id : Nat} {ops : List Oper} {ts : List AV} {H : Hp} {r} (h : drawE E pc ic yc id ops ts H = some r) : drawE E pc' ic' yc' id ops ts H = some r := by
  unfold drawE at h ⊢
  cases q : opsD E pc ic yc ops ops H.length ts (H ++ List.replicate (ops.countP (laysE E)) deadB) with
  | none => rw [q] at h; cases h
  | some x => rw [opsD_le hp hi hy q]; rw [q] at h; exact h

theorem evalF_le (h : CdLe rec rec') : CdLe (evalF E rec) (evalF E rec') := by
  intro c ts H r hr
  have hp := runP_le (E := E) h
  have hi := runI_le (E := E) h
  have hy := runY_le h
  cases c with
  | skip => exact hr
  | label _ => exact hr
  | region id ops draw =>
    cases draw with
    | true =>
      simp only [evalF, if_true] at hr ⊢
      exact map_le (fun _ q => drawE_le hp hi hy q) hr
    | false =>
      simp only [evalF, Bool.false_eq_true, if_false] at hr ⊢
      exact map_le (fun _ q => opsE_le hp hi hy q) hr
  | seq a b =>
    simp only [evalF] at hr ⊢
    cases q : rec a ts H with
    | none => rw [q] at hr; cases hr
    | some x =>
      rw [h _ _ _ _ q]
      rw [q] at hr
      obtain ⟨ex, t, H'⟩ := x
      cases ex with
      | normal => exact h _ _ _ _ hr
      | exit _ => exact hr
      | ret => exact hr
  | cond c a b =>
    simp only [evalF] at hr ⊢
    cases q : evO ts c with
    | none => rw [q] at hr; cases hr
    | some v =>
      rw [q] at hr
      cases v <;> try (cases hr)
      simp only at hr ⊢
      exact h _ _ _ _ hr
  | block id body =>
    simp only [evalF] at hr ⊢
    cases q : rec body ts H with
    | none => rw [q] at hr; cases hr
    | some x => rw [h _ _ _ _ q]; rw [q] at hr; exact hr
  | loop body =>
    simp only [evalF] at hr ⊢
    cases q : rec body ts H with
    | none => rw [q] at hr; cases hr
    | some x =>
      rw [h _ _ _ _ q]
      rw [q] at hr
      obtain ⟨ex, t, H'⟩ := x
      cases ex with
      | normal => exact h _ _ _ _ hr
      | exit _ => exact hr
      | ret => exact hr
  | exit id => exact hr
  | ret => exact hr
  | rangeFunc g ps assign body =>
    simp only [evalF] at hr ⊢
    cases q : evO ts g with
    | none => rw [q] at hr; cases hr
    | some v =>
      rw [q] at hr
      cases v <;> try (cases hr)
      rename_i f first cap
      simp only at hr ⊢
      cases q1 : runI0 E rec f (first ++ [.yield H.length] ++ cap) (H ++ [.loop .ready none ts ps.toList assign body]) with
      | none => rw [q1] at hr; cases hr
      | some x =>
        rw [runI0_le h _ _ _ _ q1]
        rw [q1] at hr
        obtain ⟨v, H2⟩ := x
        simp only at hr ⊢
        cases q2 : H2[H.length]? with
        | none => rw [q2] at hr; cases hr
        | some b =>
          rw [q2] at hr
          cases b with
          | cells _ _ => cases hr
          | map _ _ _ => cases hr
          | siter _ _ => cases hr
          | loop st pend ts3 ps3 as3 b3 =>
            simp only at hr ⊢
            by_cases hb : st = .busy
            · rw [if_pos hb] at hr; cases hr
            · rw [if_neg hb] at hr ⊢
              cases pend with
              | none => exact hr
              | some c => exact h _ _ _ _ hr
  | goto _ => cases hr
  | scope _ => cases hr
  | refuse _ => cases hr

theorem evalC_le1 : ∀ n, CdLe (evalC E n) (evalC E (n + 1))
  | 0 => fun _ _ _ _ h => by cases h
  | n + 1 => by
    show CdLe (evalF E (evalC E n)) (evalF E (evalC E (n + 1)))
    exact evalF_le (evalC_le1 n)

theorem evalC_le {n m : Nat} (h : n ≤ m) : CdLe (evalC E n) (evalC E m) := by
  induction h with
  | refl => exact CdLe.refl _
  | step _ ih => exact ih.trans (evalC_le1 _)

theorem call_le {n m : Nat} (h : n ≤ m) : PcLe (call E n) (call E m) := runP_le (evalC_le h)
end

/-! ### without fuel -/
/-- a piece of code comes to an end of which Q holds -/
def Cv (E : Env) (c : Code) (ts : List AV) (H : Hp) (Q : Ex → List AV → Hp → Prop) : Prop := ∃ n ex ts' H', evalC E n c ts H = some (ex, ts', H') ∧ Q ex ts' H'
/-- a pure call comes to data of which Q holds -/
def Fn (E : Env) (f : Nat) (args : List AV) (Q : AV → Prop) : Prop := ∃ n r, call E n f args = some r ∧ Q r
/-- a call in the caller's heap -/
def Fi (E : Env) (f : Nat) (args : List AV) (H : Hp) (Q : AV → Hp → Prop) : Prop := ∃ n r H', runI E (evalC E n) f args H = some (r, H') ∧ Q r H'
/-- operations in the order of the text -/
def Ops (E : Env) (ops rest : List Oper) (ts : List AV) (H : Hp) (Q : List AV → Hp → Prop) : Prop :=
  ∃ n ts' H', opsE E (runP E (evalC E n)) (runI E (evalC E n)) (runY (evalC E n)) ops rest ts H = some (ts', H') ∧ Q ts' H'

section
variable {E : Env} {ts : List AV} {H : Hp} {Q : Ex → List AV → Hp → Prop}

theorem Cv.mono {c : Code} {Q' : Ex → List AV → Hp → Prop} (h : Cv E c ts H Q) (hq : ∀ ex ts' H', Q ex ts' H' → Q' ex ts' H') : Cv E c ts H Q' := by
  obtain ⟨n, ex, ts', H', h1, h2⟩ := h
  exact ⟨n, ex, ts', H', h1, hq _ _ _ h2⟩

theorem Fn.mono {f : Nat} {args : List AV} {Q Q' : AV → Prop} (h : Fn E f args Q) (hq : ∀ r, Q r → Q' r) : Fn E f args Q' := by
  obtain ⟨n, r, h1, h2⟩ := h
  exact ⟨n, r, h1, hq _ h2⟩

theorem Cv.skip (h : Q .normal ts H) : Cv E .skip ts H Q := ⟨1, _, _, _, rfl, h⟩
theorem Cv.label {l} (h : Q .normal ts H) : Cv E (.label l) ts H Q := ⟨1, _, _, _, rfl, h⟩
theorem Cv.exit {id : Nat} (h : Q (.exit id) ts H) : Cv E (.exit id) ts H Q := ⟨1, _, _, _, rfl, h⟩
theorem Cv.ret (h : Q .ret ts H) : Cv E .ret ts H Q := ⟨1, _, _, _, rfl, h⟩

theorem Cv.seq {a b : Code} (h : Cv E a ts H fun ex ts' H' => match ex with | .normal => Cv E b ts' H' Q | e => Q e ts' H') : Cv E (.seq a b) ts H Q := by
  obtain ⟨n, ex, ts', H', h1, h2⟩ := h
  cases ex with
  | normal =>
    obtain ⟨m, ex2, ts2, H2, k1, k2⟩ := h2
    refine ⟨max n m + 1, ex2, ts2, H2, ?_, k2⟩
    show evalF E (evalC E (max n m)) (.seq a b) ts H = _
    unfold evalF
    simp only [evalC_le (Nat.le_max_left n m) _ _ _ _ h1]
    exact evalC_le (Nat.le_max_right n m) _ _ _ _ k1
  | exit id =>
    refine ⟨n + 1, _, _, _, ?_, h2⟩
    show evalF E (evalC E n) (.seq a b) ts H = _
    unfold evalF
    simp only [h1]
  | ret =>
    refine ⟨n + 1, _, _, _, ?_, h2⟩
    show evalF E (evalC E n) (.seq a b) ts H = _
    unfold evalF
    simp only [h1]

theorem Cv.cond {c : Operand} {a b : Code} {t : Bool} (hc : evO ts c = some (.bool t)) (h : Cv E (if t then a else b) ts H Q) : Cv E (.cond c a b) ts H Q := by
  obtain ⟨n, ex, ts', H', h1, h2⟩ := h
  refine ⟨n + 1, ex, ts', H', ?_, h2⟩
  show evalF E (evalC E n) (.cond c a b) ts H = _
  unfold evalF
  simp only [hc]
  exact h1

theorem Cv.block {id : Nat} {c : Code} (h : Cv E c ts H fun ex ts' H' => match ex with | .exit id' => if id' = id then Q .normal ts' H' else Q (.exit id') ts' H' | e => Q e ts' H') : Cv E (.block id c) ts H Q := by
  obtain ⟨n, ex, ts', H', h1, h2⟩ := h
  cases ex with
  | normal =>
    refine ⟨n + 1, _, _, _, ?_, h2⟩
    show evalF E (evalC E n) (.block id c) ts H = _
    unfold evalF
    simp only [h1]
  | ret =>
    refine ⟨n + 1, _, _, _, ?_, h2⟩
    show evalF E (evalC E n) (.block id c) ts H = _
    unfold evalF
    simp only [h1]
  | exit id' =>
    simp only at h2
    by_cases he : id' = id
    · rw [if_pos he] at h2
      refine ⟨n + 1, _, _, _, ?_, h2⟩
      show evalF E (evalC E n) (.block id c) ts H = _
      unfold evalF
      simp only [h1, if_pos he]
    · rw [if_neg he] at h2
      refine ⟨n + 1, _, _, _, ?_, h2⟩
      show evalF E (evalC E n) (.block id c) ts H = _
      unfold evalF
      simp only [h1, if_neg he]

/-- a loop, with what holds ahead of each round -/
theorem Cv.loop {body : Code} (I : Nat → List AV → Hp → Prop) (hstep : ∀ k ts H, I k ts H → Cv E body ts H fun ex ts' H' => match ex with
    | .normal => ∃ k', k' < k ∧ I k' ts' H'
    | e => Q e ts' H') : ∀ (k : Nat) (ts : List AV) (H : Hp), I k ts H → Cv E (.loop body) ts H Q := by
  intro k
  induction k using Nat.strongRecOn with
  | _ k ih =>
    intro ts H hI
    obtain ⟨n, ex, ts', H', h1, h2⟩ := hstep k ts H hI
    cases ex with
    | normal =>
      obtain ⟨k', hk, hI'⟩ := h2
      obtain ⟨m, ex2, ts2, H2, k1, k2⟩ := ih k' hk ts' H' hI'
      refine ⟨max n m + 1, ex2, ts2, H2, ?_, k2⟩
      show evalF E (evalC E (max n m)) (.loop body) ts H = _
      unfold evalF
      simp only [evalC_le (Nat.le_max_left n m) _ _ _ _ h1]
      exact evalC_le (Nat.le_max_right n m) _ _ _ _ k1
    | ret =>
      refine ⟨n + 1, _, _, _, ?_, h2⟩
      show evalF E (evalC E n) (.loop body) ts H = _
      unfold evalF
      simp only [h1]
    | exit id =>
      refine ⟨n + 1, _, _, _, ?_, h2⟩
      show evalF E (evalC E n) (.loop body) ts H = _
      unfold evalF
      simp only [h1]

/-- one round, then the rest of the rounds -/
theorem Cv.round {body : Code} (h : Cv E body ts H fun ex ts' H' => match ex with | .normal => Cv E (.loop body) ts' H' Q | e => Q e ts' H') : Cv E (.loop body) ts H Q := by
  obtain ⟨n, ex, ts', H', h1, h2⟩ := h
  cases ex with
  | normal =>
    obtain ⟨m, ex2, ts2, H2, k1, k2⟩ := h2
    refine ⟨max n m + 1, ex2, ts2, H2, ?_, k2⟩
    show evalF E (evalC E (max n m)) (.loop body) ts H = _
    unfold evalF
    simp only [evalC_le (Nat.le_max_left n m) _ _ _ _ h1]
    exact evalC_le (Nat.le_max_right n m) _ _ _ _ k1
  | ret =>
    refine ⟨n + 1, _, _, _, ?_, h2⟩
    show evalF E (evalC E n) (.loop body) ts H = _
    unfold evalF
    simp only [h1]
  | exit id =>
    refine ⟨n + 1, _, _, _, ?_, h2⟩
    show evalF E (evalC E n) (.loop body) ts H = _
    unfold evalF
    simp only [h1]

theorem Cv.region {id : Nat} {ops : Array Oper} (h : Ops E ops.toList ops.toList ts H (Q .normal)) : Cv E (.region id ops false) ts H Q := by
  obtain ⟨n, ts', H', h1, h2⟩ := h
  refine ⟨n + 1, _, _, _, ?_, h2⟩
  show evalF E (evalC E n) (.region id ops false) ts H = _
  unfold evalF
  simp only [h1, Bool.false_eq_true, if_false, Option.map_some]

variable {ops rest : List Oper} {q : List AV → Hp → Prop}

theorem Ops.nil (h : q ts H) : Ops E ops [] ts H q := ⟨0, _, _, rfl, h⟩

/-- an operation that calls nothing -/
theorem Ops.step {o : Oper} {ts1 : List AV} {e : Eff} (h1 : stepE E (fun _ _ => none) (fun _ _ _ => none) (fun _ _ _ => none) false ops H.length o ts H = some (ts1, e)) (h : Ops E ops rest ts1 (e.app H) q) : Ops E ops (o :: rest) ts H q := by
  obtain ⟨n, ts', H', k1, k2⟩ := h
  refine ⟨n, ts', H', ?_, k2⟩
  unfold opsE
  rw [stepE_le (fun _ _ _ h => by cases h) (fun _ _ _ _ h => by cases h) (fun _ _ _ _ h => by cases h) h1]
  exact k1

end
end Dv

namespace Dv
open Go Go.RowKit
set_option linter.unusedSimpArgs false
set_option linter.unusedVariables false

/-- the machine's walk of a piece of code, from data that read so, comes to data of which Q holds -/
def Snd (E : Env) (P : Program) (c : Code) (ts : List AV) (H : Hp) (Q : Ex → List AV → Hp → Prop) : Prop :=
  ∀ (F : Fence), WideF F → ∀ (B : Nat) (Lo : Nat → Prop) (w0 : World) (ι : Inj) (w : World) (a : Act), w0.heap.size ≤ B → B ≤ w.heap.size → St E B Lo w0 ι H ts a w →
    ∀ K : Exit → Act → World → Prop, (∀ ex ts' H', Q ex ts' H' → Then E B Lo w0 ι H w ts' H' (K ex.up)) → c.wpIn F 0 P K a w

section
variable {E : Env} {P : Program} {ts : List AV} {H : Hp} {Q : Ex → List AV → Hp → Prop}

theorem evalC_code (V : Valid E P) (O : OvOK E P) (n : Nat) : CodeOK E P (evalC E n) := (evalC_ok V O (fun rec h => drawOK V O h) n).1

theorem Snd.of_cv (V : Valid E P) (O : OvOK E P) {c : Code} (h : Cv E c ts H Q) (hc : codeOk E c = true) (hf : flat c = true) : Snd E P c ts H Q := by
  intro F hF B Lo w0 ι w a hB hBw S K hK
  obtain ⟨n, ex, ts', H', h1, h2⟩ := h
  exact evalC_code V O n c ts H ex ts' H' h1 hc F hF (.inr hf) B Lo w0 ι w a hB hBw S K (hK ex ts' H' h2)

theorem Snd.mono {c : Code} {Q' : Ex → List AV → Hp → Prop} (h : Snd E P c ts H Q) (hq : ∀ ex ts' H', Q ex ts' H' → Q' ex ts' H') : Snd E P c ts H Q' := by
  intro F hF B Lo w0 ι w a hB hBw S K hK
  exact h F hF B Lo w0 ι w a hB hBw S K fun ex ts' H' q => hK ex ts' H' (hq _ _ _ q)

theorem Snd.seq {c d : Code} (h : Snd E P c ts H fun ex ts' H' => match ex with | .normal => Snd E P d ts' H' Q | e => Q e ts' H') : Snd E P (.seq c d) ts H Q := by
  intro F hF B Lo w0 ι w a hB hBw S K hK
  refine wpIn_seq (h F hF B Lo w0 ι w a hB hBw S _ fun ex ts' H' q a1 w1 ι1 k1 k2 k3 => ?_)
  cases ex with
  | normal => exact q F hF B Lo w0 ι1 w1 a1 hB (Nat.le_trans hBw k2.size) k3 K fun ex2 ts2 H2 q2 => (hK ex2 ts2 H2 q2).chain k1 k2
  | exit id => exact hK _ _ _ q _ _ _ k1 k2 k3
  | ret => exact hK _ _ _ q _ _ _ k1 k2 k3

/-- a function's call, off the walk of its body -/
theorem Snd.pure (V : Valid E P) {f : Nat} {fi : FnI} (hfi : E.fn f = some fi) {args : List AV} {r : AV}
    (h : Snd E P fi.code (args ++ List.replicate (fi.ntmps - args.length) undefV) [] fun ex ts2 H2 => (∀ id, ex ≠ .exit id) ∧ ∃ rs bs, resE H2 E ts2 fi.results = some rs ∧ freezeL H2 [oneE rs] = some ([r], bs))
    {L : Nat → Prop} {w : World} {vs : Array Value} (hlo : ∀ c, L c → c < w.heap.size) (hg : GlobR E L w) (ha : Rs noInj w L args vs.toList) :
    Runs P ((callFunc f vs).run P w) (fun v w' => Below w.heap.size w w' ∧ R noInj w' L r v) := by
  refine .inr (.inl ⟨f, vs, w, callFunc_run V hfi vs w, ?_⟩)
  obtain ⟨fn, f1, f2, f3, f4, f5, f6⟩ := V.fn f fi hfi
  have hL : Live L noInj ([] : Hp) = L := by
    funext c
    refine propext ⟨?_, .inl⟩
    rintro (h | ⟨b, blk, co, h, _⟩)
    · exact h
    · simp at h
  have S : Sim E L w noInj [] w := by
    refine ⟨Below.refl _ _, hlo, ?_, ?_, ?_, ?_, ?_, ?_⟩
    · intro b p h; cases h
    · intro b blk h; simp at h
    · intro b b' blk blk' c co co' h; simp at h
    · rw [hL]; exact hg
    · intro b blk h; simp at h
    · intro b p h; cases h
  refine callsIn_of_wp_marks f1 f2 trivial ?_
  have hl := ha.length
  simp only [Array.length_toList] at hl
  refine h Fence.wide (.inl rfl) w.heap.size L w noInj w _ (Nat.le_refl _) (Nat.le_refl _) ⟨S, ?_, ⟨[], by simp, rfl, by simp⟩⟩ _ fun ex ts2 H2 hq a' w' ι' k1 k2 k3 => ?_
  · simp only [Array.toList_append, Array.toList_replicate]
    rw [f3, ← hl, hL]
    exact ha.append (Rs_replicate _)
  · obtain ⟨hex, rs, bs, hres, hfz⟩ := hq
    obtain ⟨ks, n1, n2, n3⟩ := k3.mks
    have hfin : LeavesInM Fence.wide 0 P fn a'.tmps (Ret fun v w' => Below w.heap.size w w' ∧ R noInj w' L r v) a'.defers .returning w' := by
      rw [n2]
      refine leaves_marks V (by rw [f4]; exact hres) ks w' k3.sim k3.tm n1 n3 (Nat.le_refl _) fun w2 cv b1 b2 b3 b4 b5 => ?_
      refine ⟨b2.below, ?_⟩
      have hone : Rs ι' w2 (Live L ι' H2) [oneE rs] [cv] := by simp only [Rs]; exact ⟨_, _, rfl, b5, rfl⟩
      have := freezeL_sound b2 hone hfz
      simp only [Rs] at this
      obtain ⟨y, ys, q1, q2, _⟩ := this
      cases q1
      exact R.ext (ext_less fun c hc => .inl hc) _ _ _ _ (Inj.le_refl _) q2
    cases ex with
    | normal => exact hfin
    | ret => exact hfin
    | exit id => exact absurd rfl (hex id)

/-! ### a loop over a map -/
/-- an iterator of the machine's is no data -/
theorem iter_step {Lo : Nat → Prop} {w0 : World} {ι : Inj} {w : World} {B : Nat} {a : Act} (S : St E B Lo w0 ι H ts a w) {r : Nat} {m : Option Nat} {si : Nat} {seen : Array Nat} {st : Nat} {o' : Obj}
    (h : w.heap[r]? = some (.mapIter m si seen st)) (hk : w0.heap.size ≤ r) {w1 : World} (hw : w1 = w ∨ w1 = w.drew) :
    St E B Lo w0 ι H ts a (setOb w1 r o') ∧ (∀ c, c ≠ r → (setOb w1 r o').heap[c]? = w.heap[c]?) ∧ (setOb w1 r o').heap[r]? = some o' ∧ (setOb w1 r o').heap.size = w.heap.size := by
  have hh : w1.heap = w.heap := by rcases hw with rfl | rfl <;> rfl
  have S1 : Sim E Lo w0 ι H w1 ∧ Ext w (Live Lo ι H) w1 (Live Lo ι H) := by
    rcases hw with rfl | rfl
    · exact ⟨S.sim, Ext.refl _ _⟩
    · exact S.sim.drew rfl rfl rfl rfl
  have h' : w1.heap[r]? = some (.mapIter m si seen st) := by rw [hh]; exact h
  have X : ExtK w1 (Live Lo ι H) (setOb w1 r o') (Live Lo ι H) := other_extK h' (by simp) (by simp)
  have O := setOb_only (o := o') (w1 := w1) rfl rfl rfl rfl h'
  have ne : ∀ (c : Nat) (ob : Obj), w1.heap[c]? = some ob → (∀ m a b d, ob ≠ .mapIter m a b d) → (setOb w1 r o').heap[c]? = some ob := fun c ob hc hd => by
    rw [O.there c (fun q => by subst q; rw [h'] at hc; cases hc; exact hd _ _ _ _ rfl)]
    exact hc
  have Sm : Sim E Lo w0 ι H (setOb w1 r o') := by
    refine ⟨S1.1.below.trans (O.below hk), S1.1.lo, ?_, ?_, S1.1.inj, ?_, S1.1.fine, S1.1.res⟩
    · intro b p hp
      have := S1.1.dom b p hp
      exact ⟨this.1, by rw [O.size]; exact this.2⟩
    · intro b blk hb hd
      obtain ⟨cb, co, ob, g1, g2, g3, g4, g5⟩ := S1.1.obj b blk hb hd
      refine ⟨cb, co, ob, g1, ne cb ob g2 ?_, g3.extK X (Inj.le_refl _), g4, g5⟩
      intro ma mb mc md q
      subst q
      cases blk <;> simp only [ObjR] at g3
      case cells => obtain ⟨_, _, _, q, _⟩ := g3; cases q
      case map => obtain ⟨_, _, q, _⟩ := g3; cases q
      case siter => cases g3.2
      case loop => obtain ⟨_, q, _⟩ := g3; cases q
    · intro g cs hg
      obtain ⟨c, e, f, h1, h2, h3⟩ := S1.1.glob g cs hg
      exact ⟨c, e, f, (X.keepC h1 h2).1, h2, RAt.extK X _ _ _ _ _ (Inj.le_refl _) h3⟩
  refine ⟨⟨Sm, Rs.extK X _ _ _ _ (Inj.le_refl _) (Rs.ext S1.2 _ _ _ _ (Inj.le_refl _) S.tm), ?_⟩, fun c hc => by rw [O.there c hc, hh], O.here, by rw [O.size, hh]⟩
  obtain ⟨ks, n1, n2, n3⟩ := S.mks
  refine ⟨ks, n1, n2, fun k hk' => ?_⟩
  obtain ⟨g1, g2, g3⟩ := n3 k hk'
  exact ⟨ne k _ (by rw [hh]; exact g1) (by simp), g2, g3⟩

theorem Ext.iter {w w' w'' : World} {L L' : Nat → Prop} (X : Ext w L w' L') {r : Nat} (hr : w.heap.size ≤ r) (hs : w''.heap.size = w'.heap.size) (hne : ∀ c, c ≠ r → w''.heap[c]? = w'.heap[c]?) : Ext w L w'' L' := by
  refine ⟨by rw [hs]; exact X.size, fun c hc hl => ?_, fun c cs e f hc => ?_⟩
  · have := X.old c hc hl
    exact ⟨by rw [hne c (by omega)]; exact this.1, this.2⟩
  · obtain ⟨cs', f', h1, h2⟩ := X.shape c cs e f hc
    have : c < w.heap.size := lt_size_of_get hc
    exact ⟨cs', f', by rw [hne c (by omega)]; exact h1, h2⟩

/-- what stands of the iteration -/
structure Iter (w : World) (L : Nat → Prop) (r bm since : Nat) (es : Array MapEntry) (clock : Nat) (is : List Nat) : Prop where
  it : w.heap[r]? = some (.mapIter (some bm) since (is.map fun i => ((es[i]?).map (·.born)).getD 0).toArray clock)
  mp : w.heap[bm]? = some (.map es clock)
  nr : ¬ L r
  nm : ¬ L bm

theorem Iter.ext {w w' : World} {L L' : Nat → Prop} {r bm since : Nat} {es : Array MapEntry} {clock : Nat} {is : List Nat} (h : Iter w L r bm since es clock is) (X : Ext w L w' L') : Iter w' L' r bm since es clock is :=
  ⟨(X.keep h.it h.nr).1, (X.keep h.mp h.nm).1, (X.keep h.it h.nr).2, (X.keep h.mp h.nm).2⟩

theorem perm_of_all {n : Nat} {is : List Nat} (hn : is.Nodup) (hlt : ∀ i ∈ is, i < n) (hall : ∀ i, i < n → i ∈ is) : is.Perm (List.range n) := by
  refine (List.perm_ext_iff_of_nodup hn List.nodup_range).2 fun i => ⟨fun h => List.mem_range.2 (hlt i h), fun h => hall i (List.mem_range.1 h)⟩

theorem len_le_of_lt {n : Nat} {l : List Nat} (hn : l.Nodup) (hlt : ∀ i ∈ l, i < n) : l.length ≤ n := by
  have : l.Perm ((List.range n).filter fun i => decide (i ∈ l)) := (List.perm_ext_iff_of_nodup hn (List.nodup_range.filter _)).2 fun i => by
    rw [List.mem_filter]
    exact ⟨fun h => ⟨List.mem_range.2 (hlt i h), by simpa using h⟩, fun h => by simpa using h.2⟩
  rw [this.length_eq]
  exact Nat.le_trans (List.length_filter_le _ _) (by simp)

/-- the loop itself, from the machine's state on -/
theorem mapLoop_wp (V : Valid E P) (O : OvOK E P) {F : Fence} (hF : WideF F) {s d1 d2 d3 r20 r21 id b7 : Nat} {ops20 ops21 : Array Oper} {oN oX oE : Oper} {rest21 : List Oper} {c22 : Code}
    (h20 : ops20.toList = [oN, oX]) (h21 : ops21.toList = oE :: rest21)
    (hN : oN.op = .next (.tmp s) false) (hNd : oN.dst = some d1) (hNg : oN.guard = none)
    (hX : oX.op = .extract (.tmp d1) 0) (hXd : oX.dst = some d2) (hXg : oX.guard = none)
    (hEn : oE.op = .entry (.tmp s)) (hEd : oE.dst = some d3) (hEg : oE.guard = none)
    (hd1 : d1 ≠ s) (hd2 : d2 ≠ s) (hc22 : codeOk E c22 = true) (hf22 : flat c22 = true)
    {N : Nat} (hN1 : d1 < N) (hN2 : d2 < N)
    {ks vs : List AV} {es : Array MapEntry} {clock since r bm : Nat} (hWf : WfM es since) (hsc : since ≤ clock)
    (I : List Nat → List AV → Hp → Prop) (hIs : ∀ is ts H, I is ts H → ts[s]? = some (.gptr r 0) ∧ ts.length = N)
    (hbody : ∀ is i k v ts H, i ∉ is → ks[i]? = some k → vs[i]? = some v → I is ts H →
      ∃ n ts1 H1 ts2 H2, opsE E (runP E (evalC E n)) (runI E (evalC E n)) (runY (evalC E n)) ops21.toList rest21 (((ts.set d1 (.tuple [.bool true, k, v])).set d2 (.bool true)).set d3 (.tuple [k, v])) H = some (ts1, H1) ∧
        evalC E n c22 ts1 H1 = some (.normal, ts2, H2) ∧ I (is ++ [i]) ts2 H2)
    {B : Nat} {Lo : Nat → Prop} {w0 : World} (hB : w0.heap.size ≤ B) {ιS : Inj} {wS : World} {LS : Nat → Prop} (hr : wS.heap.size ≤ r) (hBS : B ≤ wS.heap.size)
    {K : Exit → Act → World → Prop}
    (hend : ∀ is ts H, is.Perm (List.range es.size) → I is ts H → ∀ a' w' ι', ιS.le ι' → Ext wS LS w' (Live Lo ι' H) → St E B Lo w0 ι' H ((ts.set d1 (.tuple [.bool false])).set d2 (.bool false)) a' w' → K (.exit id) a' w') :
    ∀ (k : Nat) (is : List Nat) (ts : List AV) (H : Hp) (a : Act) (w : World) (ι : Inj), es.size - is.length < k → is.Nodup → (∀ i ∈ is, i < es.size) → I is ts H →
      St E B Lo w0 ι H ts a w → ιS.le ι → Ext wS LS w (Live Lo ι H) → Iter w (Live Lo ι H) r bm since es clock is →
      Rs ι w (Live Lo ι H) ks (es.toList.map (·.key)) → Rs ι w (Live Lo ι H) vs (es.toList.map (·.val)) →
      Code.roundsIn F 0 P (.seq (.region r20 ops20 false) (.seq (.cond (.tmp d2) .skip (.exit id)) (.block b7 (.seq (.region r21 ops21 false) c22)))) K k a w := by
  intro k
  induction k with
  | zero => intro is ts H a w ι hk; omega
  | succ k ih =>
    intro is ts H a w ι hk hnd hlt hI S hle X It hks hvs
    rw [roundsIn_succ]
    obtain ⟨hs, hlen⟩ := hIs is ts H hI
    have hB' : w0.heap.size ≤ r := by omega
    have htl := S.tm.length
    simp only [Array.length_toList] at htl
    -- the iterator's value
    have hit : a.eval (.tmp s) = .pointer (some ⟨r, 0, none⟩) := by
      have := evO_R S.tm (x := .tmp s) (av := .gptr r 0) (by simp [evO, hs])
      simpa [R] using this
    have hop : ∀ (o : Oper) (l : List AV) (H' : Hp), opE E (runP E (evalC E 0)) (runI E (evalC E 0)) (runY (evalC E 0)) false l H' H'.length o = opE E (runP E (evalC E 0)) (runI E (evalC E 0)) (runY (evalC E 0)) false l H' H'.length o := fun _ _ _ => rfl
    have ext1 : ∀ (b : Bool) (rest : List AV), opsE E (runP E (evalC E 0)) (runI E (evalC E 0)) (runY (evalC E 0)) ops20.toList [oX] (ts.set d1 (.tuple (.bool b :: rest))) H =
        some ((ts.set d1 (.tuple (.bool b :: rest))).set d2 (.bool b), H) := by
      intro b rest
      have hg : (ts.set d1 (.tuple (.bool b :: rest)))[d1]? = some (.tuple (.bool b :: rest)) := by
        rw [List.getElem?_set_self (by omega)]
      simp only [opsE, stepE, wantedE, hXg, if_true, opE, hX, evO, hg, Option.getD_some, List.getElem?_cons_zero, Option.map_some, putE, hXd, Eff.app, List.foldl_nil]
    have hcode := evalC_code V O 0
    have hp := runP_ok V O hcode
    have hi := runI_ok V O hcode
    have hy := runY_sound V hcode
    have hexec : (execOp a.eval oN).run P w = ((Instr.next (.pointer (some ⟨r, 0, none⟩)) false oN.type).run P w).andThen fun v w' => .ok (.value v) w' := by
      simp only [execOp, hN, hit, Sem.run_bind, Sem.run_pure]
    have hdN : ∀ c, oN.op ≠ .defer c := by rw [hN]; intro c q; cases q
    have hdE : ∀ c, oE.op ≠ .defer c := by rw [hEn]; intro c q; cases q
    refine wpIn_seq (wpIn_region_list ?_)
    rw [h20]
    unfold wpListIn
    have hw1 : Region.wanted oN (yielded ops20 a.tmps) = true := by unfold Region.wanted; rw [hNg]
    rw [if_pos hw1]
    rcases run_next_at (P := P) w oN.type r bm since clock _ es clock It.it It.mp hWf.1 hsc with ⟨h0, hrun⟩ | ⟨e, he, w1, hw1', hrun⟩
    · -- over
      refine Runs.wpIn (Rr := fun cv w' => cv = .tuple #[.bool false] ∧ w' = w) hF hdN (.inl ⟨.tuple #[.bool false], w, by rw [hexec, hrun]; rfl, rfl, rfl⟩) ?_
      rintro cv w' ⟨rfl, rfl⟩
      rw [hNd]
      have hR : R ι w' (Live Lo ι H) (.tuple [.bool false]) (.tuple #[.bool false]) := by simp [R, Rs]
      have S1 : St E B Lo w0 ι H (ts.set d1 (.tuple [.bool false])) (a.put (some d1) (.tuple #[.bool false])) w' := ⟨S.sim, put_R S.tm hR (some d1), S.mks.ext (Ext.refl _ _) (put_defers _ _ _)⟩
      refine opsE_wp V hp hi hy hF [oX] _ H _ H ι w' _ (ext1 false []) S1 fun a2 w2 ι2 k1 k2 k3 => ?_
      show Code.wpIn F 0 P _ _ a2 w2
      refine wpIn_seq (wpIn_cond_false ?_ (wpIn_exit ?_))
      · have := evO_R k3.tm (x := .tmp d2) (av := .bool false) (by simp only [evO]; rw [List.getElem?_set_self (by simp; omega)]; rfl)
        simpa [R] using this
      · refine hend is ts H (perm_of_all hnd hlt fun i hi => ?_) hI a2 w2 ι2 (Inj.le_trans hle k1) (X.trans k2) k3
        have hb : (Array.filter (fun e => !((is.map fun i => ((es[i]?).map (·.born)).getD 0).toArray).contains e.born) es).size = 0 := h0
        have hb := Array.eq_empty_of_size_eq_zero hb
        rw [Array.filter_eq_empty_iff] at hb
        have := hb es[i] (Array.getElem_mem hi)
        have this : ((is.map fun i => ((es[i]?).map (·.born)).getD 0).toArray).contains es[i].born = true := by simpa using this
        rw [Array.contains_iff_mem, List.mem_toArray, List.mem_map] at this
        obtain ⟨j, hj, he⟩ := this
        have hjl := hlt j hj
        rw [Array.getElem?_eq_getElem hjl] at he
        simp only [Option.map_some, Option.getD_some] at he
        have hij : j = i := by
          have hnn := hWf.2
          rw [List.nodup_iff_pairwise_ne, List.pairwise_iff_getElem] at hnn
          rcases Nat.lt_trichotomy j i with q | q | q
          · have q' := hnn j i (by simpa using hjl) (by simpa using hi) q
            simp only [List.getElem_map, Array.getElem_toList] at q'
            exact absurd he q'
          · exact q
          · have q' := hnn i j (by simpa using hi) (by simpa using hjl) q
            simp only [List.getElem_map, Array.getElem_toList] at q'
            exact absurd he.symm q'
        rw [← hij]; exact hj
    · -- one more
      have he' : e ∈ Array.filter (fun e => !((is.map fun i => ((es[i]?).map (·.born)).getD 0).toArray).contains e.born) es := by simpa [leftOf] using he
      rw [Array.mem_filter] at he'
      obtain ⟨hem, hen⟩ := he'
      obtain ⟨i, hix, hei⟩ := Array.getElem_of_mem hem
      have hget : es[i]? = some e := by rw [Array.getElem?_eq_getElem hix, hei]
      have hni : i ∉ is := by
        intro hin
        have : ((is.map fun i => ((es[i]?).map (·.born)).getD 0).toArray).contains e.born = true := by
          rw [Array.contains_iff_mem, List.mem_toArray, List.mem_map]
          exact ⟨i, hin, by rw [hget]; rfl⟩
        rw [this] at hen
        simp at hen
      obtain ⟨kA, hkA, hkR⟩ : ∃ kA, ks[i]? = some kA ∧ R ι w (Live Lo ι H) kA e.key := by
        have hl := hks.length
        have : i < ks.length := by simp at hl; omega
        obtain ⟨v, g1, g2⟩ := hks.get i ks[i] (List.getElem?_eq_getElem this)
        rw [List.getElem?_map, Array.getElem?_toList, hget] at g1
        cases g1
        exact ⟨_, List.getElem?_eq_getElem this, g2⟩
      obtain ⟨vA, hvA, hvR⟩ : ∃ vA, vs[i]? = some vA ∧ R ι w (Live Lo ι H) vA e.val := by
        have hl := hvs.length
        have : i < vs.length := by simp at hl; omega
        obtain ⟨v, g1, g2⟩ := hvs.get i vs[i] (List.getElem?_eq_getElem this)
        rw [List.getElem?_map, Array.getElem?_toList, hget] at g1
        cases g1
        exact ⟨_, List.getElem?_eq_getElem this, g2⟩
      refine Runs.wpIn (Rr := fun cv w' => cv = .tuple #[.bool true, e.key, e.val] ∧ w' = setOb w1 r (.mapIter (some bm) since ((is.map fun i => ((es[i]?).map (·.born)).getD 0).toArray.push e.born) clock)) hF hdN
        (.inl ⟨.tuple #[.bool true, e.key, e.val], _, by rw [hexec, hrun]; rfl, rfl, rfl⟩) ?_
      rintro cv w' ⟨rfl, rfl⟩
      rw [hNd]
      obtain ⟨T, t1, t2, t3⟩ := iter_step S (o' := .mapIter (some bm) since ((is.map fun i => ((es[i]?).map (·.born)).getD 0).toArray.push e.born) clock) It.it hB' hw1'
      generalize setOb w1 r (.mapIter (some bm) since ((is.map fun i => ((es[i]?).map (·.born)).getD 0).toArray.push e.born) clock) = wn at T t1 t2 t3 ⊢
      have hne : bm ≠ r := by rintro rfl; have := It.it; rw [It.mp] at this; cases this
      have It2 : Iter wn (Live Lo ι H) r bm since es clock (is ++ [i]) := by
        refine ⟨?_, by rw [t1 bm hne]; exact It.mp, It.nr, It.nm⟩
        rw [t2, List.map_append, List.map_cons, List.map_nil, hget]
        simp
      have X2 : Ext wS LS wn (Live Lo ι H) := X.iter hr t3 t1
      have XK : ExtK w (Live Lo ι H) wn (Live Lo ι H) := by
        refine ⟨fun {c cs e f} hc hl => ⟨?_, hl⟩, fun {c es n} hc hl => ⟨?_, hl⟩, fun c cs e f hc => ⟨cs, f, ?_, rfl⟩⟩
        all_goals (rw [t1 c (by rintro rfl; rw [It.it] at hc; cases hc)]; exact hc)
      have hkR2 := R.extK XK _ _ _ _ (Inj.le_refl ι) hkR
      have hvR2 := R.extK XK _ _ _ _ (Inj.le_refl ι) hvR
      have hks2 := Rs.extK XK _ _ _ _ (Inj.le_refl ι) hks
      have hvs2 := Rs.extK XK _ _ _ _ (Inj.le_refl ι) hvs
      have hR : R ι wn (Live Lo ι H) (.tuple [.bool true, kA, vA]) (.tuple #[.bool true, e.key, e.val]) := by
        simp only [R, Rs]
        exact ⟨_, rfl, _, _, rfl, rfl, _, _, rfl, hkR2, _, _, rfl, hvR2, rfl⟩
      have S1 : St E B Lo w0 ι H (ts.set d1 (.tuple [.bool true, kA, vA])) (a.put (some d1) (.tuple #[.bool true, e.key, e.val])) wn := ⟨T.sim, put_R T.tm hR (some d1), T.mks.ext (Ext.refl _ _) (put_defers _ _ _)⟩
      refine opsE_wp V hp hi hy hF [oX] _ H _ H ι wn _ (ext1 true [kA, vA]) S1 fun a2 w2 ι2 k1 k2 k3 => ?_
      show Code.wpIn F 0 P _ _ a2 w2
      refine wpIn_seq (wpIn_cond_true ?_ (wpIn_skip ?_))
      · have := evO_R k3.tm (x := .tmp d2) (av := .bool true) (by simp only [evO]; rw [List.getElem?_set_self (by simp; omega)]; rfl)
        simpa [R] using this
      show Code.wpIn F 0 P _ _ a2 w2
      have It3 := It2.ext k2
      have X3 := X2.trans k2
      have hks3 := Rs.ext k2 _ _ _ _ k1 hks2
      have hvs3 := Rs.ext k2 _ _ _ _ k1 hvs2
      have hkR3 := R.ext k2 _ _ _ _ k1 hkR2
      have hvR3 := R.ext k2 _ _ _ _ k1 hvR2
      refine wpIn_block (wpIn_seq (wpIn_region_list ?_))
      rw [h21]
      unfold wpListIn
      have hw2 : Region.wanted oE (yielded ops21 a2.tmps) = true := by unfold Region.wanted; rw [hEg]
      rw [if_pos hw2]
      have hit2 : a2.eval (.tmp s) = .pointer (some ⟨r, 0, none⟩) := by
        have := evO_R k3.tm (x := .tmp s) (av := .gptr r 0) (by
          simp only [evO]
          rw [List.getElem?_set_ne hd2, List.getElem?_set_ne hd1, hs]; rfl)
        simpa [R] using this
      have hit3 := It3.it
      rw [List.map_append, List.map_cons, List.map_nil, hget] at hit3
      have hent := run_entry_at (P := P) w2 r bm since ((is.map fun i => ((es[i]?).map (·.born)).getD 0).toArray) es clock e (by rw [hit3]; simp) It3.mp (by simpa using hem) hWf.2
      refine Runs.wpIn (Rr := fun cv w' => cv = .tuple #[e.key, e.val] ∧ w' = w2) hF hdE (.inl ⟨.tuple #[e.key, e.val], w2, by simp only [execOp, hEn, hit2, Sem.run_bind, Sem.run_pure, hent, Result.andThen_ok], rfl, rfl⟩) ?_
      rintro cv w' ⟨rfl, rfl⟩
      rw [hEd]
      have hR2 : R ι2 w' (Live Lo ι2 H) (.tuple [kA, vA]) (.tuple #[e.key, e.val]) := by
        simp only [R, Rs]
        exact ⟨_, rfl, _, _, rfl, hkR3, _, _, rfl, hvR3, rfl⟩
      have S3 : St E B Lo w0 ι2 H (((ts.set d1 (.tuple [.bool true, kA, vA])).set d2 (.bool true)).set d3 (.tuple [kA, vA])) (a2.put (some d3) (.tuple #[e.key, e.val])) w' :=
        ⟨k3.sim, put_R k3.tm hR2 (some d3), k3.mks.ext (Ext.refl _ _) (put_defers _ _ _)⟩
      obtain ⟨n, ts1, H1, ts2, H2, b1, b2, b3⟩ := hbody is i kA vA ts H hni hkA hvA hI
      have hcn := evalC_code V O n
      have hB2 : B ≤ w'.heap.size := Nat.le_trans hBS X3.size
      refine opsE_wp V (runP_ok V O hcn) (runI_ok V O hcn) (runY_sound V hcn) hF rest21 _ H ts1 H1 ι2 w' _ b1 S3 fun a4 w4 ι4 m1 m2 m3 => ?_
      show Code.wpIn F 0 P _ _ a4 w4
      refine hcn c22 ts1 H1 .normal ts2 H2 b2 hc22 F hF (.inr hf22) B Lo w0 ι4 w4 a4 hB (Nat.le_trans hB2 m2.size) m3 _ fun a5 w5 ι5 q1 q2 q3 => ?_
      show Code.roundsIn F 0 P _ _ k a5 w5
      have XX := m2.trans q2
      have hnd2 : (is ++ [i]).Nodup := List.nodup_append.2 ⟨hnd, by simp, fun x hx y hy => by simp at hy; subst hy; rintro rfl; exact hni hx⟩
      have hlt2 : ∀ j ∈ is ++ [i], j < es.size := fun j hj => by
        rcases List.mem_append.1 hj with hj | hj
        · exact hlt j hj
        · simp at hj; omega
      have ιι := Inj.le_trans m1 q1
      refine ih (is ++ [i]) ts2 H2 a5 w5 ι5 ?_ ?_ ?_ b3 q3 (Inj.le_trans (Inj.le_trans hle k1) ιι) (X3.trans XX) (It3.ext XX) (Rs.ext XX _ _ _ _ ιι hks3) (Rs.ext XX _ _ _ _ ιι hvs3)
      · have := len_le_of_lt hnd2 hlt2
        simp at this ⊢; omega
      · exact hnd2
      · exact hlt2

/-- RANGING OVER A MAP OF THE CALL'S OWN: whatever the order; the map is only read from here on -/
theorem Snd.mapRange (V : Valid E P) (O : OvOK E P) {s dm d1 d2 d3 r19 r20 r21 id b7 t kt et : Nat} {ops19 ops20 ops21 : Array Oper} {oL oR oN oX oE : Oper} {rest21 : List Oper} {c22 : Code}
    (h19 : ops19.toList = [oL, oR]) (h20 : ops20.toList = [oN, oX]) (h21 : ops21.toList = oE :: rest21)
    (hRo : oR.op = .range t (.tmp dm)) (hRd : oR.dst = some s) (hRg : oR.guard = none) {ti : TyI} (hti : E.ty t = some ti) (hund : ti.und = .map kt et)
    (hN : oN.op = .next (.tmp s) false) (hNd : oN.dst = some d1) (hNg : oN.guard = none)
    (hX : oX.op = .extract (.tmp d1) 0) (hXd : oX.dst = some d2) (hXg : oX.guard = none)
    (hEn : oE.op = .entry (.tmp s)) (hEd : oE.dst = some d3) (hEg : oE.guard = none)
    (hd1 : d1 ≠ s) (hd2 : d2 ≠ s) (hc22 : codeOk E c22 = true) (hf22 : flat c22 = true)
    {N : Nat} (hN1 : d1 < N) (hN2 : d2 < N)
    {m : Nat} {ts1 : List AV} {e1 : Eff} {H1 : Hp} (hload : stepE E (fun _ _ => none) (fun _ _ _ => none) (fun _ _ _ => none) false ops19.toList H.length oL ts H = some (ts1, e1)) (hH1 : e1.app H = H1)
    (hm : ts1[dm]? = some (.hmap m)) {ks vs : List AV} (hb : H1[m]? = some (.map .live ks vs))
    (I : Nat → List Nat → List AV → Hp → Prop) (hIs : ∀ r is ts H, I r is ts H → ts[s]? = some (.gptr r 0) ∧ ts.length = N)
    (hI0 : ∀ r, I r [] (ts1.set s (.gptr r 0)) (mark H1 [m]))
    (hbody : ∀ r is i k v ts H, i ∉ is → ks[i]? = some k → vs[i]? = some v → I r is ts H →
      ∃ n ts1 H1 ts2 H2, opsE E (runP E (evalC E n)) (runI E (evalC E n)) (runY (evalC E n)) ops21.toList rest21 (((ts.set d1 (.tuple [.bool true, k, v])).set d2 (.bool true)).set d3 (.tuple [k, v])) H = some (ts1, H1) ∧
        evalC E n c22 ts1 H1 = some (.normal, ts2, H2) ∧ I r (is ++ [i]) ts2 H2)
    (hend : ∀ r is ts H, is.Perm (List.range vs.length) → I r is ts H → Q .normal ((ts.set d1 (.tuple [.bool false])).set d2 (.bool false)) H) :
    Snd E P (.seq (.region r19 ops19 false) (.block id (.loop (.seq (.region r20 ops20 false) (.seq (.cond (.tmp d2) .skip (.exit id)) (.block b7 (.seq (.region r21 ops21 false) c22))))))) ts H Q := by
  intro F hF B Lo w0 ι w a hB hBw S K hK
  have hcode := evalC_code V O 0
  refine wpIn_seq (wpIn_region_list ?_)
  rw [h19]
  unfold wpListIn
  have hload' := stepE_le (pc' := runP E (evalC E 0)) (ic' := runI E (evalC E 0)) (yc' := runY (evalC E 0)) (fun _ _ _ h => by cases h) (fun _ _ _ _ h => by cases h) (fun _ _ _ _ h => by cases h) hload
  refine stepE_wp V (runP_ok V O hcode) (runI_ok V O hcode) (runY_sound V hcode) S (free_len S.sim) hload' hF fun a1 w1 ι1 k1 k2 k3 => ?_
  rw [hH1] at k2 k3
  unfold wpListIn
  have hw : Region.wanted oR (yielded ops19 a1.tmps) = true := by unfold Region.wanted; rw [hRg]
  rw [if_pos hw]
  -- the map
  obtain ⟨bm, co, o, g1, g2, g3, g4, g5⟩ := k3.sim.obj m _ hb (by simp [Blk.st])
  simp only [ObjR] at g3
  obtain ⟨es, clock, rfl, g6, g7, g8⟩ := g3
  have hWf : WfM es clock := by simpa using g8
  have hlive : Live Lo ι1 H1 bm := .inr ⟨m, _, co, hb, rfl, g1⟩
  have hbm : bm < w1.heap.size := lt_size_of_get g2
  have hmv : a1.eval (.tmp dm) = .map (some bm) := by
    have := evO_R k3.tm (x := .tmp dm) (av := .hmap m) (by simp [evO, hm])
    simp only [R] at this
    obtain ⟨cb, co', q1, q2⟩ := this
    rw [g1] at q1; cases q1
    exact q2
  have hu := (V.ty t ti hti).und
  rw [hund] at hu
  have hrun := run_range_map (P := P) w1 t kt et bm es clock hu g2
  have hdR : ∀ c, oR.op ≠ .defer c := by rw [hRo]; intro c q; cases q
  refine Runs.wpIn (Rr := fun cv w' => cv = .pointer (some ⟨w1.heap.size, 0, none⟩) ∧ w' = w1.alloc (.mapIter (some bm) clock #[] clock)) hF hdR
    (.inl ⟨_, _, by simp only [execOp, hRo, hmv, Sem.run_bind, Sem.run_pure, hrun, Result.andThen_ok], rfl, rfl⟩) ?_
  rintro cv w' ⟨rfl, rfl⟩
  rw [hRd]
  have hb1 : Below w1.heap.size w1 (w1.alloc (.mapIter (some bm) clock #[] clock)) :=
    ⟨rfl, rfl, rfl, by show w1.heap.size ≤ (w1.heap.push _).size; simp, fun k hk => by show (w1.heap.push _)[k]? = _; rw [Array.getElem?_push, if_neg (by omega)]⟩
  obtain ⟨S1, X1⟩ := k3.sim.later hb1
  obtain ⟨S2, X2⟩ := S1.mark [m]
  have X12 := X1.trans X2
  have hsz : (w1.alloc (.mapIter (some bm) clock #[] clock)).heap.size = w1.heap.size + 1 := by show (w1.heap.push _).size = _; simp
  have hhere : (w1.alloc (.mapIter (some bm) clock #[] clock)).heap[w1.heap.size]? = some (.mapIter (some bm) clock #[] clock) := by show (w1.heap.push _)[w1.heap.size]? = _; simp
  have hmap : (w1.alloc (.mapIter (some bm) clock #[] clock)).heap[bm]? = some (.map es clock) := by
    show (w1.heap.push _)[bm]? = _
    rw [Array.getElem?_push, if_neg (by omega)]; exact g2
  generalize w1.alloc (.mapIter (some bm) clock #[] clock) = wA at S1 X1 S2 X2 X12 hsz hhere hmap ⊢
  have hR : R ι1 wA (Live Lo ι1 (mark H1 [m])) (.gptr w1.heap.size 0) (.pointer (some ⟨w1.heap.size, 0, none⟩)) := by simp [R]
  have SA : St E B Lo w0 ι1 (mark H1 [m]) (ts1.set s (.gptr w1.heap.size 0)) (a1.put (some s) (.pointer (some ⟨w1.heap.size, 0, none⟩))) wA :=
    ⟨S2, put_R (Rs.ext X12 _ _ _ _ (Inj.le_refl _) k3.tm) hR (some s), k3.mks.ext X12 (put_defers _ _ _)⟩
  have hmk : (mark H1 [m])[m]? = some (.map .ro ks vs) := by
    simp only [mark, List.foldl_cons, List.foldl_nil, List.getElem?_modify, hb, if_true, Option.map_some, Blk.toRo]
    simp
  have hnm : ¬ Live Lo ι1 (mark H1 [m]) bm := by
    obtain ⟨bm', co', o', q1, q2, q3, q4, q5⟩ := S2.obj m _ hmk (by simp [Blk.st])
    rw [g1] at q1; cases q1
    exact q5 rfl
  have hnr : ¬ Live Lo ι1 (mark H1 [m]) w1.heap.size := by
    intro hl
    have : Live Lo ι1 H1 w1.heap.size := by
      rcases hl with hl | ⟨b, blk, c, h1, h2, h3⟩
      · exact .inl hl
      · have := k3.sim.dom b _ h3
        omega
    have := Live_lt k3.sim this
    omega
  show Code.wpIn F 0 P _ _ _ wA
  refine wpIn_block (wpIn_loop_rounds (es.size + 1) ?_)
  have hB1 : B ≤ w1.heap.size := Nat.le_trans hBw k2.size
  have hn : vs.length = es.size := by have := g7.length; simpa using this.symm
  refine mapLoop_wp V O hF h20 h21 hN hNd hNg hX hXd hXg hEn hEd hEg hd1 hd2 hc22 hf22 hN1 hN2 hWf (Nat.le_refl _) (I w1.heap.size) (hIs _) (fun is i k v ts H h1 h2 h3 h4 => hbody _ is i k v ts H h1 h2 h3 h4) hB
    (ιS := ι1) (wS := w1) (LS := Live Lo ι1 H1) (Nat.le_refl _) hB1 (fun is ts' H' hp hi a' w' ι' j1 j2 j3 => ?_)
    (es.size + 1) [] _ _ _ wA ι1 (by simp) (by simp) (by simp) (hI0 _) SA (Inj.le_refl _) X12 ⟨by rw [hhere]; rfl, hmap, hnr, hnm⟩ (Rs.ext X12 _ _ _ _ (Inj.le_refl _) g6) (Rs.ext X12 _ _ _ _ (Inj.le_refl _) g7)
  show Exit.inBlock id K (.exit id) a' w'
  simp only [Exit.inBlock, if_true]
  exact hK .normal _ _ (hend _ is ts' H' (by rw [hn]; exact hp) hi) a' w' ι' (Inj.le_trans k1 j1) (k2.trans j2) j3
/-- pieces of code, one behind the other, and what follows -/
def seqs : List Code → Code → Code
  | [], c => c
  | x :: l, c => .seq x (seqs l c)

def evalS (E : Env) (n : Nat) : List Code → List AV → Hp → Option (List AV × Hp)
  | [], ts, H => some (ts, H)
  | x :: l, ts, H => match evalC E n x ts H with
    | some (.normal, ts', H') => evalS E n l ts' H'
    | _ => none

theorem Snd.seqs (V : Valid E P) (O : OvOK E P) {n : Nat} {c : Code} : ∀ {l : List Code} {ts : List AV} {H : Hp} {ts' : List AV} {H' : Hp}, evalS E n l ts H = some (ts', H') → (l.all fun x => codeOk E x && flat x) = true → Snd E P c ts' H' Q →
    Snd E P (Dv.seqs l c) ts H Q
  | [], ts, H, ts', H', h, _, hs => by cases h; exact hs
  | x :: l, ts, H, ts', H', h, hl, hs => by
    unfold evalS at h
    simp only [List.all_cons, Bool.and_eq_true] at hl
    cases hq : evalC E n x ts H with
    | none => rw [hq] at h; cases h
    | some q =>
      obtain ⟨ex, t1, H1⟩ := q
      rw [hq] at h
      cases ex <;> try (cases h)
      exact Snd.seq (Snd.of_cv V O ⟨n, _, _, _, hq, Snd.seqs V O h (by simpa using hl.2) hs⟩ hl.1.1 hl.1.2)

end
end Dv

namespace Dv
open Go Go.RowKit
set_option linter.unusedSimpArgs false
set_option linter.unusedVariables false

/-- a slot -/
def gt (ts : List AV) (i : Nat) : AV := ts[i]?.getD undefV

theorem gt_self {ts : List AV} {i : Nat} {v : AV} (h : i < ts.length) : gt (ts.set i v) i = v := by
  unfold gt; rw [List.getElem?_set_self h]; rfl
theorem gt_ne {ts : List AV} {i j : Nat} {v : AV} (h : i ≠ j) : gt (ts.set i v) j = gt ts j := by
  unfold gt; rw [List.getElem?_set_ne h]

section
variable {E : Env} {pc : Pc} {ic yc : Ic} {dr : Bool} {ops : List Oper} {nid : Nat} {ts : List AV} {H : Hp}

theorem evO_tmp {i : Nat} : evO ts (.tmp i) = some (gt ts i) := rfl
theorem evO_int {k : IntKind} {n : Int} : evO ts (.const (.int k n)) = some (.int k n) := rfl
theorem evO_bool {b : Bool} : evO ts (.const (.bool b)) = some (.bool b) := rfl
theorem evO_fn {f : Nat} : evO ts (.func f) = some (.func f [] []) := rfl
theorem evO_glob {g : Nat} : evO ts (.global g) = some (.gptr g 0) := rfl
theorem evO_nilS : evO ts (.const (.slice none 0 0)) = some .nilslice := rfl

theorem evL_nil : evL ts [] = some [] := rfl
theorem evL_cons {x : Operand} {xs : List Operand} {v : AV} {vs : List AV} (h1 : evO ts x = some v) (h2 : evL ts xs = some vs) : evL ts (x :: xs) = some (v :: vs) := by simp [evL, h1, h2]

/-- a guard that lets through, one that does not -/
theorem st_guard_on {d : Option Nat} {op : Op} {t : Nat} {p : String} {af : Array Edge} {j dj : Nat} {want : Bool} (hj : (ops[j]?).bind (·.dst) = some dj) (hd : gt ts dj = .bool want) :
    stepE E pc ic yc dr ops nid { dst := d, op := op, type := t, pos := p, after := af, guard := some (j, want) } ts H = stepE E pc ic yc dr ops nid { dst := d, op := op, type := t, pos := p, after := af, guard := none } ts H := by
  have h : ts[dj]? = some (.bool want) := by
    unfold gt at hd
    cases hq : ts[dj]? with
    | none => rw [hq] at hd; cases hd
    | some x => rw [hq] at hd; simp only [Option.getD_some] at hd; rw [hd]
  unfold stepE wantedE
  simp only [hj, h, beq_self_eq_true, if_true]
  rfl

theorem st_guard_off {d : Option Nat} {op : Op} {t : Nat} {p : String} {af : Array Edge} {j dj : Nat} {want b : Bool} (hj : (ops[j]?).bind (·.dst) = some dj) (hd : gt ts dj = .bool b) (hb : b ≠ want) :
    stepE E pc ic yc dr ops nid { dst := d, op := op, type := t, pos := p, after := af, guard := some (j, want) } ts H = some (putE d undefV ts, .sets []) := by
  have h : ts[dj]? = some (.bool b) := by
    unfold gt at hd
    cases hq : ts[dj]? with
    | none => rw [hq] at hd; cases hd
    | some x => rw [hq] at hd; simp only [Option.getD_some] at hd; rw [hd]
  unfold stepE wantedE
  have : (b == want) = false := by simpa using hb
  simp only [hj, h, this, Bool.false_eq_true, if_false]

variable {d : Nat} {t : Nat} {p : String} {af : Array Edge}

theorem st_move {x : Operand} {v : AV} (h : evO ts x = some v) : stepE E pc ic yc dr ops nid { dst := some d, op := .move x, type := t, pos := p, after := af, guard := none } ts H = some (ts.set d v, .sets []) := by
  simp [stepE, wantedE, opE, h, putE]
theorem st_assign {x : Operand} {v : AV} (h : evO ts x = some v) : stepE E pc ic yc dr ops nid { dst := some d, op := .assign x, type := t, pos := p, after := af, guard := none } ts H = some (ts.set d v, .sets []) := by
  simp [stepE, wantedE, opE, h, putE]
theorem st_pick {c a b : Operand} {q : Bool} {v : AV} (hc : evO ts c = some (.bool q)) (h : evO ts (if q then a else b) = some v) : stepE E pc ic yc dr ops nid { dst := some d, op := .pick c a b, type := t, pos := p, after := af, guard := none } ts H = some (ts.set d v, .sets []) := by
  simp only [stepE, wantedE, opE, hc, putE, if_true]
  cases q <;> simp_all
theorem st_binOp {op : BinOp} {t1 t2 : Nat} {x y : Operand} {u v r : AV} (hx : evO ts x = some u) (hy : evO ts y = some v) (h : binE E (isConstO x || isConstO y) op t1 u v = some r) :
    stepE E pc ic yc dr ops nid { dst := some d, op := .binOp op t1 x y t2, type := t, pos := p, after := af, guard := none } ts H = some (ts.set d r, .sets []) := by
  simp [stepE, wantedE, opE, hx, hy, h, putE]
theorem st_unOp {op : UnOp} {t1 : Nat} {x : Operand} {u r : AV} (hx : evO ts x = some u) (h : unE op u = some r) :
    stepE E pc ic yc dr ops nid { dst := some d, op := .unOp op t1 x, type := t, pos := p, after := af, guard := none } ts H = some (ts.set d r, .sets []) := by
  simp [stepE, wantedE, opE, hx, h, putE]
theorem st_indexAddr {t1 : Nat} {x y : Operand} {u v r : AV} (hx : evO ts x = some u) (hy : evO ts y = some v) (h : indexAddrE E t1 u v = some r) :
    stepE E pc ic yc dr ops nid { dst := some d, op := .indexAddr t1 x y, type := t, pos := p, after := af, guard := none } ts H = some (ts.set d r, .sets []) := by
  simp [stepE, wantedE, opE, hx, hy, h, putE]
theorem st_index {t1 : Nat} {x y : Operand} {u v r : AV} (hx : evO ts x = some u) (hy : evO ts y = some v) (h : indexE E t1 u v = some r) :
    stepE E pc ic yc dr ops nid { dst := some d, op := .index t1 x y, type := t, pos := p, after := af, guard := none } ts H = some (ts.set d r, .sets []) := by
  simp [stepE, wantedE, opE, hx, hy, h, putE]
theorem st_load {t1 : Nat} {x : Operand} {u r : AV} (hx : evO ts x = some u) (h : loadE E H t1 u = some r) :
    stepE E pc ic yc dr ops nid { dst := some d, op := .load t1 x, type := t, pos := p, after := af, guard := none } ts H = some (ts.set d r, .sets []) := by
  simp [stepE, wantedE, opE, hx, h, putE]
theorem st_store {t1 : Nat} {x y : Operand} {u v : AV} {l : List (Nat × Blk)} (hx : evO ts x = some u) (hy : evO ts y = some v) (h : storeE E H t1 u v = some l) :
    stepE E pc ic yc dr ops nid { dst := none, op := .store t1 x y, type := t, pos := p, after := af, guard := none } ts H = some (ts, .sets l) := by
  simp [stepE, wantedE, opE, hx, hy, h, putE]
theorem st_alloc {t1 : Nat} {z : AV} (h : zeroE E t1 = some z) :
    stepE E pc ic yc dr ops nid { dst := some d, op := .alloc t1, type := t, pos := p, after := af, guard := none } ts H = some (ts.set d (.hptr nid 0), .sets [(nid, .cells .live z.cells)]) := by
  simp [stepE, wantedE, opE, h, putE]
theorem st_box {t1 : Nat} {x : Operand} {z : AV} (h : evO ts x = some z) :
    stepE E pc ic yc dr ops nid { dst := some d, op := .box t1 x, type := t, pos := p, after := af, guard := none } ts H = some (ts.set d (.hptr nid 0), .sets [(nid, .cells .live z.cells)]) := by
  simp [stepE, wantedE, opE, h, putE]
theorem st_convInt {s1 d1 : Nat} {x : Operand} {k k' : IntKind} {n : Int} {si di : TyI} (hx : evO ts x = some (.int k n)) (hs : E.ty s1 = some si) (hd : E.ty d1 = some di) (hk : di.und = .int k') :
    stepE E pc ic yc dr ops nid { dst := some d, op := .convert s1 d1 x, type := t, pos := p, after := af, guard := none } ts H = some (ts.set d (.int k' (wrapK k' n)), .sets []) := by
  obtain ⟨und, isAgg, size, bytes, zero, eqOk⟩ := di
  simp only at hk; subst hk
  simp [stepE, wantedE, opE, hx, hs, hd, putE, convE]
theorem st_extract {x : Operand} {vs : List AV} {i : Nat} {v : AV} (hx : evO ts x = some (.tuple vs)) (hv : vs[i]? = some v) :
    stepE E pc ic yc dr ops nid { dst := some d, op := .extract x i, type := t, pos := p, after := af, guard := none } ts H = some (ts.set d v, .sets []) := by
  simp [stepE, wantedE, opE, hx, hv, putE]
theorem st_slice {t1 : Nat} {x : Operand} {lo hi : Option Operand} {u r : AV} {l h : Option AV} {ti : TyI} (hx : evO ts x = some u) (hl : evOpt ts lo = some l) (hh : evOpt ts hi = some h) (ht : E.ty t1 = some ti) (hna : ti.isAgg = (match ti.und with | .struct _ | .array .. => true | _ => false)) (ha : ti.isAgg = false)
    (hr : sliceE E t1 u l h = some r) :
    stepE E pc ic yc dr ops nid { dst := some d, op := .slice t1 x lo hi none, type := t, pos := p, after := af, guard := none } ts H = some (ts.set d r, .sets []) := by
  obtain ⟨und, isAgg, size, bytes, zero, eqOk⟩ := ti
  simp only at ha hna
  subst ha
  cases und <;> simp at hna <;> simp [stepE, wantedE, opE, hx, hl, hh, ht, hr, putE]
theorem st_builtin {bi : Builtin} {args : Array Operand} {ats : Array Nat} {al : List AV} {r : AV} {l : List (Nat × Blk)} (ha : evL ts args.toList = some al) (h : builtinE E H nid bi ats.toList al = some (r, l)) :
    stepE E pc ic yc dr ops nid { dst := some d, op := .call { callee := .builtin bi, args := args, argTypes := ats }, type := t, pos := p, after := af, guard := none } ts H = some (ts.set d r, .sets l) := by
  simp [stepE, wantedE, opE, ha, h, putE]

/-- a call of a pure function, at arguments that are data already -/
theorem st_callP {f : Nat} {fo : Operand} {args : Array Operand} {ats : Array Nat} {al first cap : List AV} {r : AV} (hf : evO ts fo = some (.func f first cap)) (ha : evL ts args.toList = some al)
    (hp : ∀ fi, E.fn f = some fi → fi.pure = true) (hz : isPureL (first ++ al ++ cap) = true) (hr : pc f (first ++ al ++ cap) = some r) :
    stepE E pc ic yc dr ops nid { dst := some d, op := .call { callee := .value fo, args := args, argTypes := ats }, type := t, pos := p, after := af, guard := none } ts H =
      some (ts.set d r, if refFree r then .looks [] else .marks []) := by
  cases hfn : E.fn f with
  | none => simp only [stepE, wantedE, opE, hf, ha, callE, putE, hfn, freezeL, hz, hr, if_true, Option.map_some]
  | some fi =>
    obtain ⟨code, ntmps, results, pu, du⟩ := fi
    have := hp _ hfn
    simp only at this
    subst this
    simp only [stepE, wantedE, opE, hf, ha, callE, putE, hfn, freezeL, hz, hr, if_true, Option.map_some]

theorem st_callP' {f : Nat} {fo : Operand} {args : Array Operand} {ats : Array Nat} {al : List AV} {r : AV} (hf : evO ts fo = some (.func f [] [])) (ha : evL ts args.toList = some al)
    (hp : ∀ fi, E.fn f = some fi → fi.pure = true) (hz : isPureL al = true) (hr : pc f al = some r) :
    stepE E pc ic yc dr ops nid { dst := some d, op := .call { callee := .value fo, args := args, argTypes := ats }, type := t, pos := p, after := af, guard := none } ts H =
      some (ts.set d r, if refFree r then .looks [] else .marks []) := by
  refine st_callP hf ha hp ?_ ?_
  · simpa using hz
  · simpa using hr

end

section
variable {E : Env} {ops : List Oper} {rest : List Oper} {ts : List AV} {H : Hp} {q : List AV → Hp → Prop} {nid : Nat}

theorem noPc_le (pc : Pc) : PcLe (fun _ _ => none) pc := fun _ _ _ h => by cases h
theorem noIc_le (ic : Ic) : IcLe (fun _ _ _ => none) ic := fun _ _ _ _ h => by cases h

/-- a call of a pure function -/
theorem Ops.callP {d : Option Nat} {t : Nat} {p : String} {af : Array Edge} {g : Option (Nat × Bool)} {f : Nat} {fo : Operand} {args : Array Operand} {ats : Array Nat} {al : List AV} {r : AV} {ts1 : List AV} {e : Eff}
    (hc : ∃ m, call E m f al = some r)
    (h1 : ∀ pc : Pc, pc f al = some r → stepE E pc (fun _ _ _ => none) (fun _ _ _ => none) false ops H.length { dst := d, op := .call { callee := .value fo, args := args, argTypes := ats }, type := t, pos := p, after := af, guard := g } ts H = some (ts1, e))
    (h : Ops E ops rest ts1 (e.app H) q) : Ops E ops ({ dst := d, op := .call { callee := .value fo, args := args, argTypes := ats }, type := t, pos := p, after := af, guard := g } :: rest) ts H q := by
  obtain ⟨n, ts', H', k1, k2⟩ := h
  obtain ⟨m, hm⟩ := hc
  have l1 := evalC_le (E := E) (Nat.le_max_left n m)
  have l2 := evalC_le (E := E) (Nat.le_max_right n m)
  refine ⟨max n m, ts', H', ?_, k2⟩
  unfold opsE
  have h1 := h1 (runP E (evalC E (max n m))) (call_le (Nat.le_max_right n m) _ _ _ hm)
  rw [stepE_le (fun _ _ _ h => h) (noIc_le _) (noIc_le _) h1]
  exact opsE_le (runP_le l1) (runI_le l1) (runY_le l1) k1

/-- operations of a statement whose order is open, in the order of the text -/
def OpsD (E : Env) (ops rest : List Oper) (nid : Nat) (ts : List AV) (H : Hp) (Q : List AV → Hp → List (List Nat × List Nat) → Prop) : Prop :=
  ∃ n ts' H' l, opsD E (runP E (evalC E n)) (runI E (evalC E n)) (runY (evalC E n)) ops rest nid ts H = some (ts', H', l) ∧ Q ts' H' l

variable {Q : List AV → Hp → List (List Nat × List Nat) → Prop}

theorem OpsD.nil (h : Q ts H []) : OpsD E ops [] nid ts H Q := ⟨0, _, _, _, rfl, h⟩

theorem OpsD.step {o : Oper} {ts1 : List AV} {e : Eff} (hl : laysE E o = false) (h1 : stepE E (fun _ _ => none) (fun _ _ _ => none) (fun _ _ _ => none) true ops nid o ts H = some (ts1, e))
    (h : OpsD E ops rest nid ts1 (e.app H) fun ts' H' l => Q ts' H' (touchE E ts o e :: l)) : OpsD E ops (o :: rest) nid ts H Q := by
  obtain ⟨n, ts', H', l, k1, k2⟩ := h
  refine ⟨n, ts', H', _, ?_, k2⟩
  unfold opsD
  rw [hl]
  simp only [Bool.false_and, Bool.false_eq_true, if_false]
  rw [stepE_le (noPc_le _) (noIc_le _) (noIc_le _) h1]
  simp only [k1]

theorem OpsD.callP {d : Option Nat} {t : Nat} {p : String} {af : Array Edge} {g : Option (Nat × Bool)} {f : Nat} {fo : Operand} {args : Array Operand} {ats : Array Nat} {al : List AV} {r : AV} {ts1 : List AV} {e : Eff}
    (hc : ∃ m, call E m f al = some r)
    (h1 : ∀ pc : Pc, pc f al = some r → stepE E pc (fun _ _ _ => none) (fun _ _ _ => none) true ops nid { dst := d, op := .call { callee := .value fo, args := args, argTypes := ats }, type := t, pos := p, after := af, guard := g } ts H = some (ts1, e))
    (h : OpsD E ops rest nid ts1 (e.app H) fun ts' H' l => Q ts' H' (touchE E ts { dst := d, op := .call { callee := .value fo, args := args, argTypes := ats }, type := t, pos := p, after := af, guard := g } e :: l)) :
    OpsD E ops ({ dst := d, op := .call { callee := .value fo, args := args, argTypes := ats }, type := t, pos := p, after := af, guard := g } :: rest) nid ts H Q := by
  obtain ⟨n, ts', H', l, k1, k2⟩ := h
  obtain ⟨m, hm⟩ := hc
  have l1 := evalC_le (E := E) (Nat.le_max_left n m)
  refine ⟨max n m, ts', H', _, ?_, k2⟩
  unfold opsD
  have h1 := h1 (runP E (evalC E (max n m))) (call_le (Nat.le_max_right n m) _ _ _ hm)
  rw [show laysE E { dst := d, op := .call { callee := .value fo, args := args, argTypes := ats }, type := t, pos := p, after := af, guard := g } = false from rfl]
  simp only [Bool.false_and, Bool.false_eq_true, if_false]
  rw [stepE_le (fun _ _ _ h => h) (noIc_le _) (noIc_le _) h1]
  simp only [opsD_le (runP_le l1) (runI_le l1) (runY_le l1) k1]

theorem Cv.regionD {id : Nat} {ops : Array Oper} {Q : Ex → List AV → Hp → Prop} (hz : ops.toList.countP (laysE E) = 0)
    (h : OpsD E ops.toList ops.toList H.length ts H fun ts' H' l => (E.pairs id ops.toList.length).all (pairOk l) = true ∧ Q .normal ts' H') : Cv E (.region id ops true) ts H Q := by
  obtain ⟨n, ts', H', l, h1, h2, h3⟩ := h
  refine ⟨n + 1, _, _, _, ?_, h3⟩
  show evalF E (evalC E n) (.region id ops true) ts H = _
  unfold evalF drawE
  simp only [if_true, hz, List.replicate_zero, List.append_nil, h1, h2, Option.map_some]

/-- a call in the caller's heap -/
theorem Ops.callI {d : Nat} {t : Nat} {p : String} {af : Array Edge} {f : Nat} {fo : Operand} {args : Array Operand} {ats : Array Nat} {al : List AV} {fi : FnI}
    (hf : evO ts fo = some (.func f [] [])) (ha : evL ts args.toList = some al) (hfn : E.fn f = some fi) (hpu : fi.pure = false) (hov : E.ovI f al H = none)
    (h : Cv E fi.code (al ++ List.replicate (fi.ntmps - al.length) undefV) H fun ex ts2 H2 => (∀ id, ex ≠ .exit id) ∧ ∃ rs, resE H2 E ts2 fi.results = some rs ∧ Ops E ops rest (ts.set d (oneE rs)) H2 q) :
    Ops E ops ({ dst := some d, op := .call { callee := .value fo, args := args, argTypes := ats }, type := t, pos := p, after := af, guard := none } :: rest) ts H q := by
  obtain ⟨n, ex, ts2, H2, h1, hex, rs, h2, m, ts', H', k1, k2⟩ := h
  have l1 := evalC_le (E := E) (Nat.le_max_left n m)
  have l2 := evalC_le (E := E) (Nat.le_max_right n m)
  refine ⟨max n m, ts', H', ?_, k2⟩
  unfold opsE
  obtain ⟨code, ntmps, results, pu, du⟩ := fi
  simp only at hpu
  subst hpu
  have hrun : runI E (evalC E (max n m)) f al H = some (oneE rs, H2) := by
    unfold runI runI0
    simp only [hov, hfn]
    rw [l1 _ _ _ _ h1]
    cases ex with
    | exit id => exact absurd rfl (hex id)
    | normal => simp only [h2, Option.map_some]
    | ret => simp only [h2, Option.map_some]
  have hst : stepE E (runP E (evalC E (max n m))) (runI E (evalC E (max n m))) (runY (evalC E (max n m))) false ops H.length { dst := some d, op := .call { callee := .value fo, args := args, argTypes := ats }, type := t, pos := p, after := af, guard := none } ts H = some (ts.set d (oneE rs), .big H2) := by
    simp only [stepE, wantedE, opE, hf, ha, callE, hfn, putE, if_true, Bool.false_and, Bool.and_false, Bool.false_eq_true, if_false, List.nil_append, List.append_nil, hrun, Option.map_some]
  rw [hst]
  exact opsE_le (runP_le l2) (runI_le l2) (runY_le l2) k1

/-- append to nothing -/
theorem append_nilE {H : Hp} {nid t e n : Nat} {i ei : TyI} {x : AV} {xs : List AV} (hS : E.ty t = some i) (hu : i.und = .slice e) (hE : E.ty e = some ei) (hl : lenE x = some n) (hs : srcE H ei.size x = some xs) (hn : 0 < n)
    (h0 : ei.size ≠ 0) (ho : xs.all oneA = true) (hz : ei.zero.isNone = false) (hb : n * ei.bytes ≤ roomB) (hm : n ≤ 4611686018427387904) :
    appendE E H nid false t .nilslice x = some (.hslice nid 0 n ei.size n, [(nid, .cells .live xs)]) := by
  obtain ⟨und, isAgg, size, bytes, zero, eqOk⟩ := i
  simp only at hu
  subst hu
  have h1 : (decide (ei.size = 0) || !xs.all oneA || ei.zero.isNone) = false := by simp [h0, ho, hz]
  simp only [appendE, hS, hE, srcA, Bool.false_eq_true, if_false, hl, hs]
  rw [if_neg (by omega : ¬ n = 0), h1]
  simp only [Bool.false_eq_true, if_false]
  rw [if_pos ⟨hb, hm⟩]

/-- append where there is no room -/
theorem append_growE {H : Hp} {nid t e n b off len kc : Nat} {i ei : TyI} {x : AV} {xs cs : List AV} (hS : E.ty t = some i) (hu : i.und = .slice e) (hE : E.ty e = some ei) (hl : lenE x = some n) (hs : srcE H ei.size x = some xs) (hn : 0 < n)
    (h0 : ei.size ≠ 0) (ho : xs.all oneA = true) (hz : ei.zero.isNone = false) (hb : (len + n) * ei.bytes ≤ roomB) (hm : len + n ≤ 4611686018427387904) (hH : H[b]? = some (.cells .live cs)) (hk : kc < len + n) (hc : off + len * ei.size ≤ cs.length) :
    appendE E H nid false t (.hslice b off len ei.size kc) x = some (.hslice nid 0 (len + n) ei.size (len + n), [(b, .cells .dead []), (nid, .cells .live ((cs.drop off).take (len * ei.size) ++ xs))]) := by
  obtain ⟨und, isAgg, size, bytes, zero, eqOk⟩ := i
  simp only at hu
  subst hu
  have h1 : (decide (ei.size = 0) || !xs.all oneA || ei.zero.isNone) = false := by simp [h0, ho, hz]
  simp only [appendE, hS, hE, srcA, Bool.false_eq_true, if_false, hl, hs]
  rw [if_neg (by omega : ¬ n = 0), h1]
  simp only [Bool.false_eq_true, if_false, hH]
  rw [if_neg (by omega), if_pos ⟨trivial, hc, hb, hm⟩]

theorem builtin_append {H : Hp} {nid t u : Nat} {i : TyI} {e : Nat} {s x : AV} {r} (hu : E.ty u = some i) (hi : i.und = .slice e) (h : appendE E H nid false t s x = r) : builtinE E H nid .append [t, u] [s, x] = r := by
  obtain ⟨und, isAgg, size, bytes, zero, eqOk⟩ := i
  simp only at hi
  subst hi
  simp only [builtinE, hu]
  exact h

end
end Dv

namespace Dv
open Go Go.RowKit
set_option linter.unusedSimpArgs false
set_option linter.unusedVariables false

/-- functions, by a search tree -/
inductive Tree where
  | nil
  | leaf (f : Nat) (l : List (Nat × Known))
  | node (f : Nat) (a b : Tree)      -- below f; from f on

def Tree.at : Tree → Nat → List (Nat × Known)
  | .nil, _ => []
  | .leaf g l, f => if Nat.beq f g then l else []
  | .node g a b, f => if Nat.blt f g then a.at f else b.at f

def findL (k : Nat) : List (Nat × Known) → List AV → Option AV
  | [], _ => none
  | (j, K) :: l, args => if Nat.ble j k then (match findK K args with
    | some r => some r
    | none => findL k l args) else findL k l args

/-- with what the layers up to k know -/
def Env.upto (E : Env) (T : Tree) (k : Nat) : Env := { E with ov := fun f args => match findL k (T.at f) args with
  | some r => some r
  | none => E.ov f args }

/-- a call that answers so, in every world -/
def Good (E : Env) (P : Program) (f : Nat) (as : List AV) (r : AV) : Prop := ∀ (L : Nat → Prop) (w : World) (vs : Array Value), (∀ c, L c → c < w.heap.size) → GlobR E L w →
  Rs noInj w L as vs.toList → Runs P ((callFunc f vs).run P w) (fun v w' => Below w.heap.size w w' ∧ R noInj w' L r v)

theorem findL_mem {k : Nat} : ∀ {l : List (Nat × Known)} {args : List AV} {r : AV}, findL k l args = some r → ∃ j K, (j, K) ∈ l ∧ j ≤ k ∧ (args, r) ∈ K
  | [], _, _, h => by cases h
  | (j, K) :: l, args, r, h => by
    unfold findL at h
    split at h
    · rename_i hj
      split at h
      · rename_i r' hr
        cases h
        exact ⟨j, K, by simp, Nat.le_of_ble_eq_true hj, findK_mem hr⟩
      · obtain ⟨j', K', h1, h2, h3⟩ := findL_mem h
        exact ⟨j', K', by simp [h1], h2, h3⟩
    · obtain ⟨j', K', h1, h2, h3⟩ := findL_mem h
      exact ⟨j', K', by simp [h1], h2, h3⟩

/-- all that the layers up to k hold is so -/
def AllGood (E : Env) (P : Program) (T : Tree) (k : Nat) : Prop := ∀ f j K, (j, K) ∈ T.at f → j ≤ k → ∀ as r, (as, r) ∈ K → Good E P f as r

theorem upto_ok {E : Env} {P : Program} (V : Valid E P) (O : OvOK E P) {T : Tree} {k : Nat} (h : AllGood E P T k) : Valid (E.upto T k) P ∧ OvOK (E.upto T k) P := by
  refine ⟨V.ov _ _, ⟨?_, O.ovI.env rfl (fun c => codeOk_ov _ _ c)⟩⟩
  intro f as r hr L w vs hl hgl ha
  simp only [Env.upto] at hr
  split at hr
  · rename_i r' hf
    cases hr
    obtain ⟨j, K, h1, h2, h3⟩ := findL_mem hf
    exact h f j K h1 h2 as r h3 L w vs hl hgl ha
  · exact O.ov f as r hr L w vs hl hgl ha

/-- one more layer -/
theorem AllGood.step {E : Env} {P : Program} (V : Valid E P) (O : OvOK E P) {T : Tree} {k n : Nat} (h : AllGood E P T k) (hc : ∀ f K, (k + 1, K) ∈ T.at f → checkK (E.upto T k) n f K = true) : AllGood E P T (k + 1) := by
  intro f j K hm hj as r hr
  rcases Nat.lt_or_ge k j with hlt | hge
  · have : j = k + 1 := by omega
    subst this
    have hk := List.all_eq_true.1 (hc f K hm) _ hr
    simp only at hk
    split at hk
    · rename_i v hv
      obtain ⟨V', O'⟩ := upto_ok V O h
      have := call_ok V' O' n f as v hv
      rw [← beqA_eq _ _ hk]
      exact fun L w vs hl hg ha => this L w vs hl hg ha
    · cases hk
  · exact h f j K hm hge as r hr

/-- a layer in which nothing stands -/
theorem AllGood.skip {E : Env} {P : Program} {T : Tree} {k : Nat} (h : AllGood E P T k) (hc : ∀ f K, (k + 1, K) ∉ T.at f) : AllGood E P T (k + 1) := by
  intro f j K hm hj as r hr
  rcases Nat.lt_or_ge k j with hlt | hge
  · have : j = k + 1 := by omega
    subst this
    exact absurd hm (hc f K)
  · exact h f j K hm hge as r hr

/-- all leaves -/
def Tree.leaves : Tree → List (Nat × Nat × Known)
  | .nil => []
  | .leaf f l => l.map fun x => (f, x.1, x.2)
  | .node _ a b => a.leaves ++ b.leaves

theorem at_leaves : ∀ (T : Tree) (f j : Nat) (K : Known), (j, K) ∈ T.at f → (f, j, K) ∈ T.leaves
  | .nil, _, _, _, h => by simp [Tree.at] at h
  | .leaf g l, f, j, K, h => by
    simp only [Tree.at] at h
    split at h
    · rename_i hf
      have := Nat.eq_of_beq_eq_true hf
      subst this
      exact List.mem_map.2 ⟨_, h, rfl⟩
    · simp at h
  | .node g a b, f, j, K, h => by
    simp only [Tree.at] at h
    simp only [Tree.leaves, List.mem_append]
    split at h
    · exact .inl (at_leaves a f j K h)
    · exact .inr (at_leaves b f j K h)

/-- the layer k, as a list of checks -/
theorem AllGood.next {E : Env} {P : Program} (V : Valid E P) (O : OvOK E P) {T : Tree} {k n : Nat} (h : AllGood E P T k) (hc : ∀ x, x ∈ T.leaves → x.2.1 = k + 1 → checkK (E.upto T k) n x.1 x.2.2 = true) : AllGood E P T (k + 1) :=
  h.step V O fun f K hm => hc (f, k + 1, K) (at_leaves T f _ K hm) rfl

theorem checkK_append {E : Env} {n f : Nat} {K K' : Known} : checkK E n f (K ++ K') = (checkK E n f K && checkK E n f K') := by unfold checkK; exact List.all_append

theorem AllGood.zero {E : Env} {P : Program} {T : Tree} (hl : (T.leaves.filter fun x => x.2.1 == 0).length = 0) : AllGood E P T 0 := by
  intro f j K hm hj as r hr
  have h1 := at_leaves T f j K hm
  have : (f, j, K) ∈ T.leaves.filter fun x => x.2.1 == 0 := List.mem_filter.2 ⟨h1, by simp; omega⟩
  rw [List.length_eq_zero_iff.1 hl] at this
  cases this

theorem layer_mem {T : Tree} {k : Nat} {l : Table} (hl : (T.leaves.filter fun x => x.2.1 == k).map (fun x => (x.1, x.2.2)) = l) {f : Nat} {K : Known} (hm : (k, K) ∈ T.at f) : (f, K) ∈ l := by
  rw [← hl]
  exact List.mem_map.2 ⟨(f, k, K), List.mem_filter.2 ⟨at_leaves T f k K hm, by simp⟩, rfl⟩

/-- the layer k + 1, all of whose entries are checked -/
theorem AllGood.layer {E : Env} {P : Program} (V : Valid E P) (O : OvOK E P) {T : Tree} {k n : Nat} {l : Table} (h : AllGood E P T k) (hl : (T.leaves.filter fun x => x.2.1 == k + 1).map (fun x => (x.1, x.2.2)) = l)
    (hc : checkT (E.upto T k) n l = true) : AllGood E P T (k + 1) :=
  h.step V O (n := n) fun f K hm => List.all_eq_true.1 hc (f, K) (layer_mem hl hm)

/-- .. known by other ways -/
theorem AllGood.other {E : Env} {P : Program} {T : Tree} {k : Nat} {l : Table} (h : AllGood E P T k) (hl : (T.leaves.filter fun x => x.2.1 == k + 1).map (fun x => (x.1, x.2.2)) = l)
    (hg : ∀ p, p ∈ l → ∀ e, e ∈ p.2 → Good E P p.1 e.1 e.2) : AllGood E P T (k + 1) := by
  intro f j K hm hj as r hr
  rcases Nat.lt_or_ge k j with hlt | hge
  · have : j = k + 1 := by omega
    subst this
    exact hg (f, K) (layer_mem hl hm) (as, r) hr
  · exact h f j K hm hge as r hr

theorem upto_fn {E : Env} {T : Tree} {k : Nat} : (E.upto T k).fn = E.fn := rfl
theorem upto_ty {E : Env} {T : Tree} {k : Nat} : (E.upto T k).ty = E.ty := rfl
theorem upto_ovI {E : Env} {T : Tree} {k : Nat} : (E.upto T k).ovI = E.ovI := rfl
theorem upto_pairs {E : Env} {T : Tree} {k : Nat} : (E.upto T k).pairs = E.pairs := rfl
theorem upto_glob {E : Env} {T : Tree} {k : Nat} : (E.upto T k).glob = E.glob := rfl
theorem good_upto {E : Env} {P : Program} {T : Tree} {k f : Nat} {as : List AV} {r : AV} (h : Good (E.upto T k) P f as r) : Good E P f as r := h

end Dv

namespace Dv
open Go Go.RowKit
set_option linter.unusedSimpArgs false
set_option linter.unusedVariables false

variable {s : Nat}

theorem flat_len {l : List (List AV)} (h : ∀ r ∈ l, r.length = s) : l.flatten.length = l.length * s := by
  induction l with
  | nil => simp
  | cons r l ih =>
    rw [List.flatten_cons, List.length_append, ih (fun x hx => h x (by simp [hx])), h r (by simp), List.length_cons, Nat.add_mul]
    omega

theorem flat_drop {l : List (List AV)} (h : ∀ r ∈ l, r.length = s) (j : Nat) : l.flatten.drop (j * s) = (l.drop j).flatten := by
  induction l generalizing j with
  | nil => simp
  | cons r l ih =>
    cases j with
    | zero => simp
    | succ j =>
      have hr := h r (by simp)
      rw [List.flatten_cons, List.drop_succ_cons, ← ih (fun x hx => h x (by simp [hx])) j, Nat.succ_mul, List.drop_append, List.drop_of_length_le (by omega), List.nil_append]
      congr 1; omega

theorem flat_take {l : List (List AV)} (h : ∀ r ∈ l, r.length = s) (j : Nat) : l.flatten.take (j * s) = (l.take j).flatten := by
  induction l generalizing j with
  | nil => simp
  | cons r l ih =>
    cases j with
    | zero => simp
    | succ j =>
      have hr := h r (by simp)
      rw [List.flatten_cons, List.take_succ_cons, List.flatten_cons, ← ih (fun x hx => h x (by simp [hx])) j, Nat.succ_mul, List.take_append, List.take_of_length_le (by omega)]
      congr 2; omega

theorem flat_at {l : List (List AV)} (h : ∀ r ∈ l, r.length = s) {j : Nat} {r : List AV} (hj : l[j]? = some r) : (l.flatten.drop (j * s)).take s = r := by
  have hlt := (List.getElem?_eq_some_iff.1 hj).1
  rw [flat_drop h, List.drop_eq_getElem_cons hlt, List.flatten_cons, List.take_append, List.take_of_length_le (by rw [h _ (List.getElem_mem hlt)]; exact Nat.le_refl _)]
  have : l[j] = r := (List.getElem?_eq_some_iff.1 hj).2
  rw [this, h r (this ▸ List.getElem_mem hlt), Nat.sub_self]
  simp

theorem flat_set {l : List (List AV)} (h : ∀ r ∈ l, r.length = s) {j : Nat} (hj : j < l.length) {r : List AV} (hr : r.length = s) : spliceL l.flatten (j * s) r = (l.set j r).flatten := by
  unfold spliceL
  rw [hr, flat_take h, show j * s + s = (j + 1) * s from by rw [Nat.add_mul]; omega, flat_drop h, List.set_eq_take_append_cons_drop, if_pos hj]
  simp

theorem flat_le {l : List (List AV)} (h : ∀ r ∈ l, r.length = s) {j : Nat} (hj : j < l.length) : j * s + s ≤ l.flatten.length := by
  rw [flat_len h, ← Nat.succ_mul]
  exact Nat.mul_le_mul_right s hj

/-- a sorted way through all the numbers below n is the way upwards -/
theorem eq_range {n : Nat} {l : List Nat} (hp : l.Perm (List.range n)) (hs : ∀ (p q : Nat) (hp : p < l.length) (hq : q < l.length), p < q → l[p] ≤ l[q]) : l = List.range n := by
  refine List.Perm.eq_of_pairwise (le := fun a b => a ≤ b) ?_ ?_ ?_ hp
  · intro a b _ _ h1 h2; omega
  · rw [List.pairwise_iff_getElem]; intro i j hi hj hij; exact hs i j hi hj hij
  · rw [List.pairwise_iff_getElem]; intro i j hi hj hij; simp; omega

/-- two places change places -/
theorem swap_perm {l : List Nat} {j k : Nat} (hj : j < l.length) (hk : k < l.length) : ((l.set j l[k]).set k l[j]).Perm l := by
  rw [List.perm_iff_count]
  intro a
  by_cases hjk : j = k
  · subst hjk; simp
  have hk' : k < (l.set j l[k]).length := by simpa using hk
  rw [List.count_set (h := hk'), List.count_set (h := hj)]
  have e : (l.set j l[k])[k] = l[k] := by rw [List.getElem_set_ne hjk]
  rw [e]
  have c1 : l[j] == a → 1 ≤ l.count a := fun h => by
    have : l[j] = a := by simpa using h
    exact List.count_pos_iff.2 (this ▸ List.getElem_mem hj)
  by_cases h1 : (l[j] == a) = true <;> by_cases h2 : (l[k] == a) = true <;> simp only [h1, h2, if_true, if_false, Bool.false_eq_true] <;> (try have := c1 h1) <;> omega
end Dv
