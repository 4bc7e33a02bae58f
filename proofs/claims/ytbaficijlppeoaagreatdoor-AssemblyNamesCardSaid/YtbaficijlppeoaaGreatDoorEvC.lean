/-
  Calls, statements, results and functions of the evaluator are sound.
-/
import Derived.Test.YtbaficijlppeoaaGreatDoorEvB
import Derived.RangeFuncLeaves
import Derived.OrdersIn
import Derived.TacticsIn
import Derived.RangeFuncRecord
import Derived.RangeFuncIn
import Derived.LoopNIn
set_option linter.unusedSimpArgs false
set_option linter.unusedVariables false

namespace Dv
open Go Go.RowKit
set_option linter.unusedSimpArgs false
set_option linter.unusedVariables false

/-- what data see of a later world -/
structure ExtK (w : World) (L : Nat → Prop) (w' : World) (L' : Nat → Prop) : Prop where
  keepC : ∀ {c : Nat} {cs : Array Value} {e : TypeId} {f : Nat × Nat}, w.heap[c]? = some (.cells cs e f) → ¬ L c → w'.heap[c]? = some (.cells cs e f) ∧ ¬ L' c
  keepM : ∀ {c : Nat} {es : Array MapEntry} {k : Nat}, w.heap[c]? = some (.map es k) → ¬ L c → w'.heap[c]? = some (.map es k) ∧ ¬ L' c
  shape : ∀ (c : Nat) (cs : Array Value) (e : TypeId) (f : Nat × Nat), w.heap[c]? = some (Obj.cells cs e f) → ∃ (cs' : Array Value) (f' : Nat × Nat), w'.heap[c]? = some (Obj.cells cs' e f') ∧ cs'.size = cs.size

theorem Ext.k {w w' : World} {L L' : Nat → Prop} (h : Ext w L w' L') : ExtK w L w' L' := ⟨fun h1 h2 => h.keep h1 h2, fun h1 h2 => h.keep h1 h2, h.shape⟩

mutual
theorem R.extK {w w' : World} {L L' : Nat → Prop} (he : ExtK w L w' L') : ∀ (av : AV) (ι ι' : Inj) (v : Value), ι.le ι' → R ι w L av v → R ι' w' L' av v
  | .bool _, _, _, _, _, h => by simpa [R] using h
  | .int _ _, _, _, _, _, h => by simpa [R] using h
  | .str _, _, _, _, _, h => by simpa [R] using h
  | .nilptr, _, _, _, _, h => by simpa [R] using h
  | .hptr _ _, _, _, _, hi, h => by
    simp only [R] at h ⊢
    obtain ⟨cb, co, h1, h2⟩ := h
    exact ⟨cb, co, hi _ _ h1, h2⟩
  | .vptr cs _, _, _, _, _, h => by
    simp only [R] at h ⊢
    obtain ⟨cb, o, c, e, f, h1, h2, h3, h4⟩ := h
    have := he.keepC h2 h3
    exact ⟨cb, o, c, e, f, h1, this.1, this.2, RAt.extK he cs noInj noInj c o (Inj.le_refl _) h4⟩
  | .gptr _ _, _, _, _, _, h => by simpa [R] using h
  | .nilslice, _, _, _, _, h => by simpa [R] using h
  | .eslice, _, _, _, _, h => by simpa [R] using h
  | .hslice _ _ _ _ _, _, _, _, hi, h => by
    simp only [R] at h ⊢
    obtain ⟨cb, co, cap, c, e, f, h1, h2, h3, h4, h5, h6⟩ := h
    obtain ⟨c', f', g1, g2⟩ := he.shape cb c e f h5
    exact ⟨cb, co, cap, c', e, f', hi _ _ h1, h2, h3, h4, g1, by omega⟩
  | .vslice cs _, _, _, _, _, h => by
    simp only [R] at h ⊢
    obtain ⟨cb, o, cap, c, e, f, h1, h2, h3, h4, h5⟩ := h
    have := he.keepC h3 h4
    exact ⟨cb, o, cap, c, e, f, h1, h2, this.1, this.2, RAt.extK he cs noInj noInj c o (Inj.le_refl _) h5⟩
  | .nilmap, _, _, _, _, h => by simpa [R] using h
  | .hmap _, _, _, _, hi, h => by
    simp only [R] at h ⊢
    obtain ⟨cb, co, h1, h2⟩ := h
    exact ⟨cb, co, hi _ _ h1, h2⟩
  | .vmap ks vs, _, _, _, _, h => by
    simp only [R] at h ⊢
    obtain ⟨cb, es, clock, h1, h2, h3, h4, h5⟩ := h
    have := he.keepM h2 h3
    exact ⟨cb, es, clock, h1, this.1, this.2, Rs.extK he ks noInj noInj _ (Inj.le_refl _) h4, Rs.extK he vs noInj noInj _ (Inj.le_refl _) h5⟩
  | .nilfunc, _, _, _, _, h => by simpa [R] using h
  | .func _ a b, ι, ι', _, hi, h => by
    simp only [R] at h ⊢
    obtain ⟨x, y, h1, h2, h3⟩ := h
    exact ⟨x, y, h1, Rs.extK he a ι ι' _ hi h2, Rs.extK he b ι ι' _ hi h3⟩
  | .nilIface, _, _, _, _, h => by simpa [R] using h
  | .iface _ x, ι, ι', _, hi, h => by
    simp only [R] at h ⊢
    obtain ⟨y, h1, h2⟩ := h
    exact ⟨y, h1, R.extK he x ι ι' y hi h2⟩
  | .agg cs, ι, ι', _, hi, h => by
    simp only [R] at h ⊢
    obtain ⟨y, h1, h2⟩ := h
    exact ⟨y, h1, Rs.extK he cs ι ι' _ hi h2⟩
  | .tuple cs, ι, ι', _, hi, h => by
    simp only [R] at h ⊢
    obtain ⟨y, h1, h2⟩ := h
    exact ⟨y, h1, Rs.extK he cs ι ι' _ hi h2⟩
  | .yield _, _, _, _, hi, h => by
    simp only [R] at h ⊢
    obtain ⟨cb, co, h1, h2⟩ := h
    exact ⟨cb, co, hi _ _ h1, h2⟩
theorem Rs.extK {w w' : World} {L L' : Nat → Prop} (he : ExtK w L w' L') : ∀ (xs : List AV) (ι ι' : Inj) (vs : List Value), ι.le ι' → Rs ι w L xs vs → Rs ι' w' L' xs vs
  | [], _, _, _, _, h => by simpa [Rs] using h
  | x :: xs, ι, ι', _, hi, h => by
    simp only [Rs] at h ⊢
    obtain ⟨y, ys, h1, h2, h3⟩ := h
    exact ⟨y, ys, h1, R.extK he x ι ι' y hi h2, Rs.extK he xs ι ι' ys hi h3⟩
theorem RAt.extK {w w' : World} {L L' : Nat → Prop} (he : ExtK w L w' L') : ∀ (xs : List AV) (ι ι' : Inj) (c : Array Value) (o : Nat), ι.le ι' → RAt ι w L c o xs → RAt ι' w' L' c o xs
  | [], _, _, _, _, _, _ => by simp [RAt]
  | x :: xs, ι, ι', c, o, hi, h => by
    simp only [RAt] at h ⊢
    obtain ⟨⟨y, h1, h2⟩, h3⟩ := h
    exact ⟨⟨y, h1, R.extK he x ι ι' y hi h2⟩, RAt.extK he xs ι ι' c (o + 1) hi h3⟩
end

section
variable {E : Env} {P : Program} {ι : Inj} {w : World} {L L' : Nat → Prop} {Lo : Nat → Prop} {w0 : World} {H : Hp}

/-- a block that holds no data is another one -/
theorem other_extK {k : Nat} {o o' : Obj} (h : w.heap[k]? = some o) (h1 : ∀ cs e f, o ≠ .cells cs e f) (h2 : ∀ es c, o ≠ .map es c) : ExtK w L (setOb w k o') L := by
  have key : ∀ (c : Nat) (ob : Obj), w.heap[c]? = some ob → c ≠ k → (setOb w k o').heap[c]? = some ob := fun c ob hc hn => by
    simp only [setOb]
    rw [Array.getElem?_setIfInBounds_ne (fun e => hn e.symm)]
    exact hc
  refine ⟨fun {c cs e f} hc hl => ⟨key c _ hc fun q => ?_, hl⟩, fun {c es n} hc hl => ⟨key c _ hc fun q => ?_, hl⟩, fun c cs e f hc => ⟨cs, f, key c _ hc fun q => ?_, rfl⟩⟩
  · subst q; rw [h] at hc; cases hc; exact h1 _ _ _ rfl
  · subst q; rw [h] at hc; cases hc; exact h2 _ _ rfl
  · subst q; rw [h] at hc; cases hc; exact h1 _ _ _ rfl

theorem ObjR.extK {w' : World} (he : ExtK w L w' L') {ι' : Inj} (hi : ι.le ι') {co : Nat} {blk : Blk} {o : Obj} (h : ObjR ι w L co blk o) : ObjR ι' w' L' co blk o := by
  cases blk <;> simp only [ObjR] at h ⊢
  case cells => obtain ⟨c, e, f, h1, h2, h3⟩ := h; exact ⟨c, e, f, h1, RAt.extK he _ _ _ _ _ hi h2, h3⟩
  case map => obtain ⟨es, k, h1, h2, h3, h4⟩ := h; exact ⟨es, k, h1, Rs.extK he _ _ _ _ hi h2, Rs.extK he _ _ _ _ hi h3, h4⟩
  case siter => exact h
  case loop => obtain ⟨l, h1, h2, h3, h4, h5⟩ := h; exact ⟨l, h1, h2, h3, Rs.extK he _ _ _ _ hi h4, h5⟩

theorem Sim.other (S : Sim E Lo w0 ι H w) {k : Nat} {ds : Option (List Deferred)} {o' : Obj} (h : w.heap[k]? = some (.deferred ds)) (hk : w0.heap.size ≤ k) :
    Sim E Lo w0 ι H (setOb w k o') ∧ ExtK w (Live Lo ι H) (setOb w k o') (Live Lo ι H) := by
  have X : ExtK w (Live Lo ι H) (setOb w k o') (Live Lo ι H) := other_extK h (by simp) (by simp)
  have O := setOb_only (o := o') (w1 := w) rfl rfl rfl rfl h
  have ne : ∀ (c : Nat) (ob : Obj), w.heap[c]? = some ob → (∀ ds, ob ≠ .deferred ds) → (setOb w k o').heap[c]? = some ob := fun c ob hc hd => by
    rw [O.there c (fun q => by subst q; rw [h] at hc; cases hc; exact hd _ rfl)]
    exact hc
  refine ⟨⟨S.below.trans (O.below hk), S.lo, ?_, ?_, S.inj, ?_, S.fine, S.res⟩, X⟩
  · intro b p hp
    have := S.dom b p hp
    exact ⟨this.1, by rw [O.size]; exact this.2⟩
  · intro b blk hb hd
    obtain ⟨cb, co, ob, g1, g2, g3, g4, g5⟩ := S.obj b blk hb hd
    refine ⟨cb, co, ob, g1, ne cb ob g2 ?_, g3.extK X (Inj.le_refl _), g4, g5⟩
    intro ds' q
    subst q
    cases blk <;> simp only [ObjR] at g3
    case cells => obtain ⟨_, _, _, q, _⟩ := g3; cases q
    case map => obtain ⟨_, _, q, _⟩ := g3; cases q
    case siter => cases g3.2
    case loop => obtain ⟨_, q, _⟩ := g3; cases q
  · intro g cs hg
    obtain ⟨c, e, f, h1, h2, h3⟩ := S.glob g cs hg
    exact ⟨c, e, f, (X.keepC h1 h2).1, h2, RAt.extK X _ _ _ _ _ (Inj.le_refl _) h3⟩
end
end Dv

namespace Dv
open Go Go.RowKit
set_option linter.unusedSimpArgs false
set_option linter.unusedVariables false

def Ret (Rr : Value → World → Prop) : Ending → World → Prop
  | .returned v, w => Rr v w
  | _, _ => False

/-- what an operation comes to: a value, a call that returns, a round that ends -/
def Runs (P : Program) (r : Result Next) (Rr : Value → World → Prop) : Prop :=
  (∃ v w', r = .ok (.value v) w' ∧ Rr v w') ∨
  (∃ f args w1, r = .ok (.enter f args) w1 ∧ CallsIn Fence.wide 0 P f args w1 (Ret Rr)) ∨
  (∃ l f tmps assign body w1, r = .ok (.round l f tmps assign body) w1 ∧ RoundIn Fence.wide 0 P l f tmps assign body w1 (Ret Rr))

def WideF (F : Fence) : Prop := F = Fence.wide ∨ ∃ l, F = Fence.wide.inRound l

theorem WideF.callsIn {F : Fence} (hF : WideF F) {P : Program} {f : FuncId} {args : Array Value} {w : World} {R : Ending → World → Prop} (h : CallsIn Fence.wide 0 P f args w R) : CallsIn F 0 P f args w R := by
  rcases hF with rfl | ⟨l, rfl⟩
  · exact h
  · exact h
theorem WideF.roundIn {F : Fence} (hF : WideF F) {P : Program} {l : Nat} {f : FuncId} {tmps : Array Value} {assign body : Code} {w : World} {R : Ending → World → Prop} (h : RoundIn Fence.wide 0 P l f tmps assign body w R) :
    RoundIn F 0 P l f tmps assign body w R := by
  rcases hF with rfl | ⟨l', rfl⟩
  · exact h
  · exact h
theorem WideF.fn {F : Fence} (hF : WideF F) (f : FuncId) : F.fn f := by
  rcases hF with rfl | ⟨l, rfl⟩ <;> exact trivial
theorem WideF.deep {F : Fence} (hF : WideF F) : F.depth = none := by
  rcases hF with rfl | ⟨l, rfl⟩ <;> rfl

theorem Runs.wpIn {P : Program} {F : Fence} (hF : WideF F) {o : Oper} {a : Act} {w : World} {Rr : Value → World → Prop} (hd : ∀ c, o.op ≠ .defer c)
    (h : Runs P ((execOp a.eval o).run P w) Rr) {next : Act → World → Prop} {Q : Exit → Act → World → Prop} (hn : ∀ cv w', Rr cv w' → next (a.put o.dst cv) w') :
    o.wpIn F 0 P a w next Q := by
  unfold Oper.wpIn
  refine ⟨fun f _ => hF.fn f, ?_⟩
  rw [Oper.semAt_eq _ _ _ hd]
  have hdp : F.depth.isSome = true → 1 ≤ 0 := by rw [hF.deep]; simp
  rcases h with ⟨v, w', h1, h2⟩ | ⟨f, args, w1, h1, h2⟩ | ⟨l, f, tmps, assign, body, w1, h1, h2⟩
  · rw [h1, Oper.uponIn_value]; exact hn _ _ h2
  · rw [h1, Oper.uponIn_enter]
    refine ⟨hdp, hF.callsIn (CallsIn.mono h2 fun e w' he => ?_)⟩
    cases e with
    | returned v => exact hn _ _ he
    | panicked _ => exact he.elim
    | outgrown => exact he.elim
  · rw [h1, Oper.uponIn_round]
    refine ⟨hdp, hF.roundIn (RoundIn.mono h2 fun e w' he => ?_)⟩
    cases e with
    | returned v => exact hn _ _ he
    | panicked _ => exact he.elim
    | outgrown => exact he.elim

section
variable {E : Env} {P : Program} {ι : Inj} {w : World} {L L' : Nat → Prop} {Lo : Nat → Prop} {w0 : World} {H : Hp}

def PostH (E : Env) (Lo : Nat → Prop) (w0 : World) (ι : Inj) (H : Hp) (w : World) (v : AV) (H2 : Hp) (cv : Value) (w' : World) : Prop :=
  ∃ ι' : Inj, ι.le ι' ∧ Sim E Lo w0 ι' H2 w' ∧ Ext w (Live Lo ι H) w' (Live Lo ι' H2) ∧ R ι' w' (Live Lo ι' H2) v cv

def GlobR (E : Env) (L : Nat → Prop) (w : World) : Prop := ∀ g cs, E.glob g = some cs → ∃ c e f, w.heap[g]? = some (.cells c e f) ∧ ¬ L g ∧ RAt noInj w L c 0 cs

def PureOK (E : Env) (P : Program) (pc : Pc) : Prop := ∀ f as r, pc f as = some r → ∀ (L : Nat → Prop) (w : World) (vs : Array Value), (∀ c, L c → c < w.heap.size) → GlobR E L w →
  Rs noInj w L as vs.toList → Runs P ((callFunc f vs).run P w) (fun v w' => Below w.heap.size w w' ∧ R noInj w' L r v)

def ImpOK (E : Env) (P : Program) (ic : Ic) : Prop := ∀ f as H v H2, ic f as H = some (v, H2) → ∀ (Lo : Nat → Prop) (w0 : World) (ι : Inj) (w : World) (vs : Array Value), Sim E Lo w0 ι H w →
  Rs ι w (Live Lo ι H) as vs.toList → Runs P ((callFunc f vs).run P w) (PostH E Lo w0 ι H w v H2)

def YieldOK (E : Env) (P : Program) (yc : Ic) : Prop := ∀ l as H v H2, yc l as H = some (v, H2) → ∀ (Lo : Nat → Prop) (w0 : World) (ι : Inj) (w : World) (vs : Array Value) (cb co : Nat), Sim E Lo w0 ι H w →
  Rs ι w (Live Lo ι H) as vs.toList → ι l = some (cb, co) → Runs P ((Instr.yield cb vs).run P w) (PostH E Lo w0 ι H w v H2)

theorem Runs.mono {r : Result Next} {R1 R2 : Value → World → Prop} (h : Runs P r R1) (hm : ∀ v w, R1 v w → R2 v w) : Runs P r R2 := by
  have hr : ∀ e w, Ret R1 e w → Ret R2 e w := fun e w he => by
    cases e with
    | returned v => exact hm _ _ he
    | panicked _ => exact he.elim
    | outgrown => exact he.elim
  rcases h with ⟨v, w', h1, h2⟩ | ⟨f, args, w1, h1, h2⟩ | ⟨l, f, tmps, assign, body, w1, h1, h2⟩
  · exact .inl ⟨v, w', h1, hm _ _ h2⟩
  · exact .inr (.inl ⟨f, args, w1, h1, CallsIn.mono h2 hr⟩)
  · exact .inr (.inr ⟨l, f, tmps, assign, body, w1, h1, RoundIn.mono h2 hr⟩)

theorem live_lt (S : Sim E Lo w0 ι H w) : ∀ c, Live Lo ι H c → c < w.heap.size := by
  rintro c (hc | ⟨b, bk, co, h1, h2, h3⟩)
  · exact Nat.lt_of_lt_of_le (S.lo c hc) S.below.size
  · exact (S.dom b _ h3).2

/-- the world goes on, above all that there is -/
theorem Sim.later (S : Sim E Lo w0 ι H w) {w' : World} (hb : Below w.heap.size w w') : Sim E Lo w0 ι H w' ∧ Ext w (Live Lo ι H) w' (Live Lo ι H) := by
  have hx : Ext w (Live Lo ι H) w' (Live Lo ι H) := by
    refine ⟨hb.size, fun c hc hn => ⟨hb.block c hc, hn⟩, fun c cs e f hc => ⟨cs, f, ?_, rfl⟩⟩
    rw [hb.block c (lt_size_of_get hc)]; exact hc
  refine ⟨⟨S.below.trans (hb.mono S.below.size), S.lo, ?_, ?_, S.inj, ?_, S.fine, S.res⟩, hx⟩
  · intro b p hp
    have := S.dom b p hp
    exact ⟨this.1, Nat.lt_of_lt_of_le this.2 hb.size⟩
  · intro b bk hbk hd
    obtain ⟨c1, k1, ob, h1, h2, h3, h4, h5⟩ := S.obj b bk hbk hd
    exact ⟨c1, k1, ob, h1, by rw [hb.block c1 (lt_size_of_get h2)]; exact h2, h3.ext hx (Inj.le_refl _), h4, h5⟩
  · intro g cs hg
    obtain ⟨c, e, f, h1, h2, h3⟩ := S.glob g cs hg
    have := hx.keep h1 h2
    exact ⟨c, e, f, this.1, this.2, RAt.ext hx _ _ _ _ _ (Inj.le_refl _) h3⟩

mutual
theorem R_refFree {ι' : Inj} {w' : World} : ∀ (av : AV) (v : Value), refFree av = true → R ι w L av v → R ι' w' L' av v
  | .bool _, _, _, h => by simpa [R] using h
  | .int _ _, _, _, h => by simpa [R] using h
  | .str _, _, _, h => by simpa [R] using h
  | .nilptr, _, _, h => by simpa [R] using h
  | .hptr _ _, _, p, _ => by simp [refFree] at p
  | .vptr _ _, _, p, _ => by simp [refFree] at p
  | .gptr _ _, _, p, _ => by simp [refFree] at p
  | .nilslice, _, _, h => by simpa [R] using h
  | .eslice, _, _, h => by simpa [R] using h
  | .hslice _ _ _ _ _, _, p, _ => by simp [refFree] at p
  | .vslice _ _, _, p, _ => by simp [refFree] at p
  | .nilmap, _, _, h => by simpa [R] using h
  | .hmap _, _, p, _ => by simp [refFree] at p
  | .vmap _ _, _, p, _ => by simp [refFree] at p
  | .nilfunc, _, _, h => by simpa [R] using h
  | .func _ _ _, _, p, _ => by simp [refFree] at p
  | .nilIface, _, _, h => by simpa [R] using h
  | .iface _ _, _, p, _ => by simp [refFree] at p
  | .agg cs, _, p, h => by
    simp only [refFree] at p
    simp only [R] at h ⊢
    obtain ⟨y, h1, h2⟩ := h
    exact ⟨y, h1, Rs_refFree _ _ p h2⟩
  | .tuple cs, _, p, h => by
    simp only [refFree] at p
    simp only [R] at h ⊢
    obtain ⟨y, h1, h2⟩ := h
    exact ⟨y, h1, Rs_refFree _ _ p h2⟩
  | .yield _, _, p, _ => by simp [refFree] at p
theorem Rs_refFree {ι' : Inj} {w' : World} : ∀ (xs : List AV) (vs : List Value), refFree.refFreeL xs = true → Rs ι w L xs vs → Rs ι' w' L' xs vs
  | [], _, _, h => by simpa [Rs] using h
  | x :: xs, _, p, h => by
    simp only [refFree.refFreeL, Bool.and_eq_true] at p
    simp only [Rs] at h ⊢
    obtain ⟨y, ys, h1, h2, h3⟩ := h
    exact ⟨y, ys, h1, R_refFree _ _ p.1 h2, Rs_refFree _ _ p.2 h3⟩
end

theorem callE_run {pc : Pc} {ic yc : Ic} (hp : PureOK E P pc) (hi : ImpOK E P ic) (hy : YieldOK E P yc) (S : Sim E Lo w0 ι H w) {dr : Bool} {fv v : AV} {e : Eff} {cfv : Value} {args : List AV} {cargs : Array Value}
    (hf : R ι w (Live Lo ι H) fv cfv) (ha : Rs ι w (Live Lo ι H) args cargs.toList) (h : callE E pc ic yc dr H fv args = some (v, e)) :
    Runs P ((do let d ← Deferred.ofValue cfv cargs; invoke d.target d.args : Sem Next).run P w) (PostH E Lo w0 ι H w v (e.app H)) := by
  unfold callE at h
  split at h
  · -- a round
    rename_i l
    rw [Option.map_eq_some_iff] at h
    obtain ⟨⟨v', H2⟩, h1, h2⟩ := h
    cases h2
    simp only [R] at hf
    obtain ⟨cb, co, g1, rfl⟩ := hf
    have := hy l args H v H2 h1 Lo w0 ι w cargs cb co S ha g1
    simpa [Deferred.ofValue, invoke, Eff.app] using this
  · rename_i f first cap
    simp only [R] at hf
    obtain ⟨cf, cc, rfl, r1, r2⟩ := hf
    have hall : Rs ι w (Live Lo ι H) (first ++ args ++ cap) (cf ++ cargs ++ cc).toList := by
      rw [Array.toList_append, Array.toList_append]
      exact (r1.append ha).append r2
    have hinv : (do let d ← Deferred.ofValue (.func (.func f) cf cc) cargs; invoke d.target d.args : Sem Next).run P w = (callFunc f (cf ++ cargs ++ cc)).run P w := by
      simp [Deferred.ofValue, invoke]
    rw [hinv]
    have h' : (match freezeL H (first ++ args ++ cap) with
        | some (as, bs) => (pc f as).map fun v => (v, if refFree v then Eff.looks bs else Eff.marks bs)
        | none => none) = some (v, e) ∨ ((ic f (first ++ args ++ cap) H).map fun (v, h) => (v, Eff.big h)) = some (v, e) := by
      simp only at h
      split at h <;> (try simp only at h) <;> split at h
      all_goals first | exact .inl h | exact .inr h
    clear h
    rcases h' with h | h
    · -- in a heap of its own
      split at h
      case h_2 => cases h
      rename_i as bs hfr
      rw [Option.map_eq_some_iff] at h
      obtain ⟨r, h1, h2⟩ := h
      cases h2
      have M := S.mark bs
      have G := freezeL_sound S hall hfr
      have C := hp f as v h1 (Live Lo ι (mark H bs)) w (cf ++ cargs ++ cc) (live_lt M.1) M.1.glob G
      refine C.mono fun cv w' hc => ?_
      by_cases hrf : refFree v = true
      · simp only [hrf, if_true, Eff.app]
        have T := S.later hc.1
        exact ⟨ι, Inj.le_refl _, T.1, T.2, R_refFree _ _ hrf hc.2⟩
      · simp only [hrf, Bool.false_eq_true, if_false, Eff.app]
        have T := M.1.later hc.1
        exact ⟨ι, Inj.le_refl _, T.1, M.2.trans T.2, R.ext (Ext.refl _ _) _ _ _ _ (noInj_le ι) hc.2⟩
    · rw [Option.map_eq_some_iff] at h
      obtain ⟨⟨v', H2⟩, h1, h2⟩ := h
      cases h2
      simp only [Eff.app]
      exact hi f _ H v H2 h1 Lo w0 ι w _ S hall
  · cases h

theorem opE_full (V : Valid E P) {pc : Pc} {ic yc : Ic} (hp : PureOK E P pc) (hi : ImpOK E P ic) (hy : YieldOK E P yc) (S : Sim E Lo w0 ι H w) {dr : Bool} {nid : Nat} (hf : Free ι H nid)
    {ts : List AV} {a : Act} (ht : Rs ι w (Live Lo ι H) ts a.tmps.toList) {o : Oper} {v : AV} {e : Eff} (h : opE E pc ic yc dr ts H nid o = some (v, e)) :
    ∀ {F : Fence}, WideF F → ∀ {next : Act → World → Prop} {Q : Exit → Act → World → Prop}, (∀ cv w', PostH E Lo w0 ι H w v (e.app H) cv w' → next (a.put o.dst cv) w') → o.wpIn F 0 P a w next Q := by
  intro F hF next Q hn
  have hd : ∀ c, o.op ≠ .defer c := by
    intro c q
    unfold opE at h
    rw [q] at h
    cases h
  by_cases hc : callsValue o = true
  · refine Runs.wpIn (Rr := PostH E Lo w0 ι H w v (e.app H)) hF hd ?_ hn
    unfold callsValue at hc
    unfold opE at h
    unfold execOp
    cases ho : o.op <;> simp only [ho] at h hc ⊢ <;> try (cases hc; done)
    rename_i c
    cases hcal : c.callee <;> simp only [hcal] at h hc ⊢ <;> try (cases hc; done)
    rename_i f
    split at h
    case h_2 => cases h
    rename_i fv as hfv has
    have hr : Rs ι w (Live Lo ι H) as (c.args.map a.eval).toList := by
      have := evL_R ht has
      simpa using this
    have := callE_run hp hi hy S (evO_R ht hfv) hr h
    simpa [resolve, hcal] using this
  · obtain ⟨nx, cv, w', h1, h2, h3⟩ := opE_run V S hf ht (by simpa using hc) h
    unfold Oper.wpIn
    refine ⟨fun f _ => hF.fn f, ?_⟩
    rw [Oper.semAt_eq _ _ _ hd, h1]
    rcases h2 with rfl | ⟨rfl, rfl⟩
    · rw [Oper.uponIn_value]; exact hn _ _ h3
    · rw [Oper.uponIn_skip]; exact hn _ _ h3
end
end Dv

namespace Dv
open Go Go.RowKit
set_option linter.unusedSimpArgs false
set_option linter.unusedVariables false

/-- the activation's deferred calls: marks of loops over functions, whose blocks hold nothing -/
def MarksR (B : Nat) (a : Act) (w : World) (L : Nat → Prop) : Prop :=
  ∃ ks : List Nat, ks.Nodup ∧ a.defers = ks.map (fun k => { target := .collected k, args := #[] }) ∧ ∀ k, k ∈ ks → w.heap[k]? = some (.deferred (some [])) ∧ ¬ L k ∧ B ≤ k

structure St (E : Env) (B : Nat) (Lo : Nat → Prop) (w0 : World) (ι : Inj) (H : Hp) (ts : List AV) (a : Act) (w : World) : Prop where
  sim : Sim E Lo w0 ι H w
  tm : Rs ι w (Live Lo ι H) ts a.tmps.toList
  mks : MarksR B a w (Live Lo ι H)

theorem MarksR.ext {B : Nat} {a a' : Act} {w w' : World} {L L' : Nat → Prop} (h : MarksR B a w L) (hx : Ext w L w' L') (hd : a'.defers = a.defers) : MarksR B a' w' L' := by
  obtain ⟨ks, h1, h2, h3⟩ := h
  refine ⟨ks, h1, by rw [hd, h2], fun k hk => ?_⟩
  obtain ⟨g1, g2, g3⟩ := h3 k hk
  have := hx.keep g1 g2
  exact ⟨this.1, this.2, g3⟩

/-- what is asked behind a piece of code -/
def Then (E : Env) (B : Nat) (Lo : Nat → Prop) (w0 : World) (ι : Inj) (H : Hp) (w : World) (ts' : List AV) (H' : Hp) (K : Act → World → Prop) : Prop :=
  ∀ (a' : Act) (w' : World) (ι' : Inj), ι.le ι' → Ext w (Live Lo ι H) w' (Live Lo ι' H') → St E B Lo w0 ι' H' ts' a' w' → K a' w'

theorem Then.chain {E : Env} {B : Nat} {Lo : Nat → Prop} {w0 : World} {ι ι' : Inj} {H H' H2 : Hp} {w w' : World} {ts2 : List AV} {K : Act → World → Prop} (h : Then E B Lo w0 ι H w ts2 H2 K)
    (hle : ι.le ι') (hx : Ext w (Live Lo ι H) w' (Live Lo ι' H')) : Then E B Lo w0 ι' H' w' ts2 H2 K :=
  fun a2 w2 ι2 h1 h2 h3 => h a2 w2 ι2 (Inj.le_trans hle h1) (hx.trans h2) h3

def Ex.up : Ex → Exit
  | .normal => .normal
  | .exit id => .exit id
  | .ret => .ret

def CodeOK (E : Env) (P : Program) (rec : Cd) : Prop := ∀ c ts H ex ts' H', rec c ts H = some (ex, ts', H') → codeOk E c = true → ∀ (F : Fence), WideF F → (F = Fence.wide ∨ flat c = true) → ∀ (B : Nat) (Lo : Nat → Prop) (w0 : World) (ι : Inj) (w : World) (a : Act),
  w0.heap.size ≤ B → B ≤ w.heap.size → St E B Lo w0 ι H ts a w → ∀ Q : Exit → Act → World → Prop, Then E B Lo w0 ι H w ts' H' (Q ex.up) → c.wpIn F 0 P Q a w

section
variable {E : Env} {P : Program} {ι : Inj} {w : World} {L L' : Nat → Prop} {Lo : Nat → Prop} {w0 : World} {H : Hp} {ts : List AV} {a : Act} {B : Nat}

theorem R_bool {x : AV} {b : Bool} (h : R ι w L x (.bool b)) : x = .bool b := by
  cases x <;> simp [R] at h ⊢
  exact h.symm

theorem wanted_eq {ops : Array Oper} (ht : Rs ι w L ts a.tmps.toList) (o : Oper) : Region.wanted o (yielded ops a.tmps) = wantedE ops.toList ts o := by
  unfold Region.wanted wantedE yielded
  cases o.guard with
  | none => rfl
  | some p =>
    obtain ⟨j, want⟩ := p
    simp only [Array.getElem?_toList]
    cases (ops[j]?).bind (·.dst) with
    | none => rfl
    | some d =>
      simp only [Option.bind_some]
      have hl := ht.length
      simp only [Array.length_toList] at hl
      cases hd : ts[d]? with
      | none =>
        have : a.tmps[d]? = none := by
          rw [Array.getElem?_eq_none_iff, hl]
          exact List.getElem?_eq_none_iff.1 hd
        simp [this]
      | some x =>
        obtain ⟨v, h1, h2⟩ := ht.get d x hd
        rw [Array.getElem?_toList] at h1
        rw [h1]
        by_cases hb : ∃ b, v = .bool b
        · obtain ⟨b, rfl⟩ := hb
          rw [R_bool h2]
          cases b <;> cases want <;> rfl
        · have h3 : ∀ b, v ≠ .bool b := fun b q => hb ⟨b, q⟩
          have h4 : ∀ b, x ≠ .bool b := fun b q => by subst q; simp only [R] at h2; exact h3 b h2
          cases v <;> first | exact absurd rfl (h3 _) | skip
          all_goals (cases x <;> first | exact absurd rfl (h4 _) | rfl)

theorem put_R (ht : Rs ι w L ts a.tmps.toList) {v : AV} {cv : Value} (hv : R ι w L v cv) (dst : Option Nat) : Rs ι w L (putE dst v ts) (a.put dst cv).tmps.toList := by
  cases dst with
  | none => exact ht
  | some d =>
    simp only [putE, Act.put, Array.toList_setIfInBounds]
    exact ht.set d hv

theorem put_defers (a : Act) (dst : Option Nat) (v : Value) : (a.put dst v).defers = a.defers := by
  cases dst <;> rfl

/-- one operation, its guard and its slot -/
theorem stepE_wp (V : Valid E P) {pc : Pc} {ic yc : Ic} (hp : PureOK E P pc) (hi : ImpOK E P ic) (hy : YieldOK E P yc) {dr : Bool} {nid : Nat} {ops : Array Oper} {o : Oper} {ts' : List AV} {e : Eff}
    (S : St E B Lo w0 ι H ts a w) (hf : Free ι H nid) (h : stepE E pc ic yc dr ops.toList nid o ts H = some (ts', e)) {F : Fence} (hF : WideF F) {K : Act → World → Prop} {Q : Exit → Act → World → Prop}
    (hk : Then E B Lo w0 ι H w ts' (e.app H) K) :
    if Region.wanted o (yielded ops a.tmps) then o.wpIn F 0 P a w K Q else (∀ f, o.about P w a.eval = some f → F.fn f) ∧ K (a.put o.dst undef) w := by
  unfold stepE at h
  rw [wanted_eq S.tm o]
  split at h
  · rename_i hw
    rw [if_pos hw]
    split at h
    · rename_i v e' hop
      cases h
      refine opE_full V hp hi hy S.sim hf S.tm hop hF fun cv w' hpost => ?_
      obtain ⟨ι', h1, h2, h3, h4⟩ := hpost
      refine hk _ _ ι' h1 h3 ⟨h2, ?_, S.mks.ext h3 (put_defers _ _ _)⟩
      exact put_R (Rs.ext h3 _ _ _ _ h1 S.tm) h4 _
    · cases h
  · rename_i hw
    rw [if_neg hw]
    cases h
    refine ⟨fun f _ => hF.fn f, ?_⟩
    refine hk _ _ ι (Inj.le_refl _) (Ext.refl _ _) ⟨S.sim, put_R S.tm R_undef _, S.mks.ext (Ext.refl _ _) (put_defers _ _ _)⟩

/-- the operations of a statement, in the order of the text -/
theorem opsE_wp (V : Valid E P) {pc : Pc} {ic yc : Ic} (hp : PureOK E P pc) (hi : ImpOK E P ic) (hy : YieldOK E P yc) {ops : Array Oper} {F : Fence} (hF : WideF F) {Q : Exit → Act → World → Prop} :
    ∀ (l : List Oper) (ts : List AV) (H : Hp) (ts' : List AV) (H' : Hp) (ι : Inj) (w : World) (a : Act), opsE E pc ic yc ops.toList l ts H = some (ts', H') → St E B Lo w0 ι H ts a w →
      Then E B Lo w0 ι H w ts' H' (Q .normal) → wpListIn F 0 P ops Q l a w
  | [], ts, H, ts', H', ι, w, a, h, S, hk => by
    simp only [opsE, Option.some.injEq, Prod.mk.injEq] at h
    obtain ⟨rfl, rfl⟩ := h
    exact hk _ _ ι (Inj.le_refl _) (Ext.refl _ _) S
  | o :: rest, ts, H, ts', H', ι, w, a, h, S, hk => by
    unfold opsE at h
    split at h
    · rename_i ts1 e h1
      unfold wpListIn
      exact stepE_wp V hp hi hy S (free_len S.sim) h1 hF fun a1 w1 ι1 k1 k2 k3 => opsE_wp V hp hi hy hF rest ts1 (e.app H) ts' H' ι1 w1 a1 h k3 (hk.chain k1 k2)
    · cases h

theorem region_wp (V : Valid E P) {pc : Pc} {ic yc : Ic} (hp : PureOK E P pc) (hi : ImpOK E P ic) (hy : YieldOK E P yc) {id : Nat} {ops : Array Oper} {F : Fence} (hF : WideF F) {Q : Exit → Act → World → Prop}
    {ts' : List AV} {H' : Hp} (h : opsE E pc ic yc ops.toList ops.toList ts H = some (ts', H')) (S : St E B Lo w0 ι H ts a w) (hk : Then E B Lo w0 ι H w ts' H' (Q .normal)) :
    (Code.region id ops false).wpIn F 0 P Q a w :=
  wpIn_region_list (opsE_wp V hp hi hy hF _ _ _ _ _ _ _ _ h S hk)
end
end Dv

namespace Dv
open Go Go.RowKit
set_option linter.unusedSimpArgs false
set_option linter.unusedVariables false

section
variable {E : Env} {P : Program} {ι : Inj} {w : World} {L L' : Nat → Prop} {Lo : Nat → Prop} {w0 : World} {H : Hp} {ts : List AV} {a : Act} {B : Nat}

theorem loadVar_E (V : Valid E P) (S : Sim E Lo w0 ι H w) {t : Nat} {p av : AV} {v : Value} (hp : R ι w (Live Lo ι H) p v) (h : loadE E H t p = some av) :
    ∃ cv, ((do loadVar t (← asAddr v) : Sem Value)).run P w = .ok cv w ∧ R ι w (Live Lo ι H) av cv := by
  unfold loadE at h
  split at h
  case h_2 => cases h
  rename_i cs off hpt
  obtain ⟨cb, o, c, e, f, rfl, h2, h3⟩ := ptrE_R S hp hpt
  obtain ⟨cv, g1, g2⟩ := load_run V h2 h3 h
  exact ⟨cv, by simpa [asAddr] using g1, g2⟩

/-- what one result is -/
def resM (tmps : Array Value) : ResultVar → Sem Value
  | .tmp t => pure (tmps.getD t undef)
  | .cell a t => do loadVar t (← asAddr (tmps.getD a undef))

theorem resE_run (V : Valid E P) (S : Sim E Lo w0 ι H w) {tmps : Array Value} (ht : Rs ι w (Live Lo ι H) ts tmps.toList) : ∀ (rs : List ResultVar) (vs : List AV), resE H E ts rs = some vs →
    ∃ cvs, (rs.mapM (resM tmps)).run P w = .ok cvs w ∧ Rs ι w (Live Lo ι H) vs cvs
  | [], vs, h => by
    simp only [resE, Option.some.injEq] at h; subst h
    exact ⟨[], by simp, by simp [Rs]⟩
  | .tmp t :: rs, vs, h => by
    simp only [resE, Option.map_eq_some_iff] at h
    obtain ⟨vs', h1, rfl⟩ := h
    obtain ⟨cvs, g1, g2⟩ := resE_run V S ht rs vs' h1
    have hg := ht.getD t
    refine ⟨tmps.getD t undef :: cvs, ?_, ?_⟩
    · simp only [List.mapM_cons, resM, Sem.run_bind, Sem.run_pure, Result.andThen_ok, g1]
    · simp only [Rs]
      exact ⟨_, _, rfl, by simpa using hg, g2⟩
  | .cell x t :: rs, vs, h => by
    simp only [resE] at h
    split at h
    · rename_i v vs' h1 h2
      cases h
      obtain ⟨cvs, g1, g2⟩ := resE_run V S ht rs vs' h2
      have hg := ht.getD x
      have hx : R ι w (Live Lo ι H) (ts[x]?.getD undefV) (tmps.getD x undef) := by simpa using hg
      obtain ⟨cv, k1, k2⟩ := loadVar_E V S hx h1
      refine ⟨cv :: cvs, ?_, ?_⟩
      · rw [List.mapM_cons, Sem.run_bind]
        unfold resM
        rw [k1]
        simp only [Result.andThen_ok, Sem.run_bind]
        have : (rs.mapM (resM tmps)).run P w = .ok cvs w := g1
        unfold resM at this
        rw [this]
        simp only [Result.andThen_ok, Sem.run_pure]
      · simp only [Rs]
        exact ⟨_, _, rfl, k2, g2⟩
    · cases h

theorem results_run (V : Valid E P) (S : Sim E Lo w0 ι H w) {tmps : Array Value} (ht : Rs ι w (Live Lo ι H) ts tmps.toList) {fn : Func} {vs : List AV} (h : resE H E ts fn.results.toList = some vs) :
    ∃ cv, (results fn tmps).run P w = .ok cv w ∧ R ι w (Live Lo ι H) (oneE vs) cv := by
  obtain ⟨cvs, g1, g2⟩ := resE_run V S ht _ _ h
  have hm : (fn.results.mapM (resM tmps)).run P w = .ok cvs.toArray w := by
    rw [Array.mapM_eq_mapM_toList, map_eq_pure_bind]
    simp only [Sem.run_bind, g1, Result.andThen_ok, Sem.run_pure]
  have hres : results fn tmps = (do let vs ← fn.results.mapM (resM tmps); pure (if h : vs.size = 1 then vs[0] else .tuple vs)) := by
    unfold results
    congr 2
  rw [hres, Sem.run_bind, hm]
  simp only [Result.andThen_ok, Sem.run_pure]
  refine ⟨_, rfl, ?_⟩
  have hl := g2.length
  match vs, cvs, g2, hl with
  | [], [], _, _ => simp [oneE, R, Rs]
  | [v], [c], g, _ =>
    simp only [Rs] at g
    obtain ⟨y, ys, h1, h2, _⟩ := g
    cases h1
    simpa [oneE] using h2
  | v :: v' :: vs, c :: c' :: cs, g, _ =>
    simp only [oneE, R]
    refine ⟨(c :: c' :: cs).toArray, ?_, by simpa using g⟩
    simp
end
end Dv

namespace Dv
open Go Go.RowKit
set_option linter.unusedSimpArgs false
set_option linter.unusedVariables false

section
variable {E : Env} {P : Program} {ι : Inj} {w : World} {L L' : Nat → Prop} {Lo : Nat → Prop} {w0 : World} {H : Hp} {ts : List AV} {a : Act} {B : Nat}

/-- marks are taken, one after the other; then the results are read -/
theorem leaves_marks (V : Valid E P) {fn : Func} {tmps : Array Value} {vs : List AV} (hres : resE H E ts fn.results.toList = some vs) {K : Value → World → Prop} :
    ∀ (ks : List Nat) (w : World), Sim E Lo w0 ι H w → Rs ι w (Live Lo ι H) ts tmps.toList → ks.Nodup → (∀ k, k ∈ ks → w.heap[k]? = some (.deferred (some [])) ∧ ¬ Live Lo ι H k ∧ B ≤ k) → w0.heap.size ≤ B →
      (∀ w' cv, Below B w w' → Sim E Lo w0 ι H w' → (∀ c, w.heap.size ≤ c → w'.heap[c]? = none) → (∀ (c : Nat) (cs : Array Value) (e : TypeId) (f : Nat × Nat), w.heap[c]? = some (.cells cs e f) → w'.heap[c]? = some (.cells cs e f)) →
        R ι w' (Live Lo ι H) (oneE vs) cv → K cv w') →
      LeavesInM Fence.wide 0 P fn tmps (Ret K) (ks.map fun k => { target := .collected k, args := #[] }) .returning w
  | [], w, S, ht, _, _, _, hk => by
    obtain ⟨cv, g1, g2⟩ := results_run V S ht hres
    exact ⟨cv, g1, hk w cv (Below.refl B w) S (fun c hc => Array.getElem?_eq_none hc) (fun _ _ _ _ h => h) g2⟩
  | k :: ks, w, S, ht, hn, hks, hB, hk => by
    obtain ⟨g1, g2, g3⟩ := hks k (by simp)
    have X := S.other (o' := .deferred none) g1 (Nat.le_trans hB g3)
    have O := setOb_only (o := (.deferred none : Obj)) (w1 := w) rfl rfl rfl rfl g1
    rw [List.nodup_cons] at hn
    refine ⟨by simp, .inl ⟨k, setOb w k (.deferred none), rfl, run_takeDeferred g1, ?_⟩⟩
    refine leaves_marks V hres ks _ X.1 (Rs.extK X.2 _ _ _ _ (Inj.le_refl _) ht) hn.2 (fun k' hk' => ?_) hB fun w' cv h1 h2 h3 h5 h4 => hk w' cv ((O.below g3).trans h1) h2 ?_ ?_ h4
    · obtain ⟨q1, q2, q3⟩ := hks k' (by simp [hk'])
      refine ⟨?_, q2, q3⟩
      rw [O.there k' (fun e => hn.1 (e ▸ hk'))]
      exact q1
    · intro c hc
      refine h3 c ?_
      rw [O.size]; exact hc
    · intro c cs e f hc
      refine h5 c cs e f ?_
      rw [O.there c (fun q => by subst q; rw [g1] at hc; cases hc)]
      exact hc

theorem Rs_replicate (n : Nat) : Rs ι w L (List.replicate n undefV) (List.replicate n undef) := by
  induction n with
  | zero => simp [Rs]
  | succ n ih =>
    simp only [List.replicate_succ, Rs]
    exact ⟨_, _, rfl, R_undef, ih⟩

theorem runI0_sound (V : Valid E P) {rec : Cd} (hrec : CodeOK E P rec) {f : Nat} {args : List AV} {v : AV} {H' : Hp} (h : runI0 E rec f args H = some (v, H')) (S : Sim E Lo w0 ι H w) {vs : Array Value}
    (ha : Rs ι w (Live Lo ι H) args vs.toList) : CallsIn Fence.wide 0 P f vs w (Ret (PostH E Lo w0 ι H w v H')) := by
  unfold runI0 at h
  split at h
  case h_2 => cases h
  rename_i fi hfi
  obtain ⟨fn, f1, f2, f3, f4, f5, f6⟩ := V.fn f fi hfi
  have main : ∀ ex ts H2, rec fi.code (args ++ List.replicate (fi.ntmps - args.length) undefV) H = some (ex, ts, H2) → (∀ id, ex ≠ .exit id) → ∀ rs, resE H2 E ts fi.results = some rs → v = oneE rs → H' = H2 →
      CallsIn Fence.wide 0 P f vs w (Ret (PostH E Lo w0 ι H w v H')) := by
    intro ex ts H2 hr hex rs hres hv hH
    subst hv hH
    refine callsIn_of_wp_marks f1 f2 trivial ?_
    have hl := ha.length
    simp only [Array.length_toList] at hl
    refine hrec _ _ _ _ _ _ hr f6 Fence.wide (.inl rfl) (.inl rfl) w.heap.size Lo w0 ι w _ S.below.size (Nat.le_refl _) ⟨S, ?_, ⟨[], by simp, rfl, by simp⟩⟩ _ fun a' w' ι' k1 k2 k3 => ?_
    · simp only [Array.toList_append, Array.toList_replicate]
      rw [f3, ← hl]
      exact ha.append (Rs_replicate _)
    · obtain ⟨ks, n1, n2, n3⟩ := k3.mks
      have hfin : LeavesInM Fence.wide 0 P fn a'.tmps (Ret (PostH E Lo w0 ι H w (oneE rs) H')) a'.defers .returning w' := by
        rw [n2]
        refine leaves_marks V (by rw [f4]; exact hres) ks w' k3.sim k3.tm n1 n3 S.below.size fun w2 cv b1 b2 b3 b4 b5 => ?_
        refine ⟨ι', k1, b2, ?_, b5⟩
        refine ⟨Nat.le_trans k2.size b1.size, fun c hc hnl => ?_, fun c cs e fr hc => ?_⟩
        · have := k2.old c hc hnl
          exact ⟨(b1.block c hc).trans this.1, this.2⟩
        · obtain ⟨cs', f', q1, q2⟩ := k2.shape c cs e fr hc
          exact ⟨cs', f', b4 c cs' e f' q1, q2⟩
      cases ex with
      | normal => exact hfin
      | ret => exact hfin
      | exit id => exact absurd rfl (hex id)
  split at h
  · cases h
  · rename_i ex ts H2 hne hr
    rw [Option.map_eq_some_iff] at h
    obtain ⟨rs, h1, h2⟩ := h
    cases h2
    exact main ex ts H' hr (fun id q => hne id q) rs h1 rfl rfl
  · cases h

theorem runP_sound (V : Valid E P) {rec : Cd} (hrec : CodeOK E P rec) {f : Nat} {args : List AV} {r : AV} {fi : FnI} (hfi : E.fn f = some fi) {ex : Ex} {ts2 : List AV} {H2 : Hp}
    (hr : rec fi.code (args ++ List.replicate (fi.ntmps - args.length) undefV) [] = some (ex, ts2, H2)) (hex : ∀ id, ex ≠ .exit id) {rs : List AV} (hres : resE H2 E ts2 fi.results = some rs)
    {bs : List Nat} (hfz : freezeL H2 [oneE rs] = some ([r], bs)) {vs : Array Value} (hlo : ∀ c, L c → c < w.heap.size) (hg : GlobR E L w) (ha : Rs noInj w L args vs.toList) :
    CallsIn Fence.wide 0 P f vs w (Ret fun v w' => Below w.heap.size w w' ∧ R noInj w' L r v) := by
  obtain ⟨fn, f1, f2, f3, f4, f5, f6⟩ := V.fn f fi hfi
  have hL : Live L noInj ([] : Hp) = L := by
    funext c
    refine propext ⟨?_, .inl⟩
    rintro (h | ⟨b, blk, co, h, _⟩)
    · exact h
    · simp at h
  have S : Sim E L w noInj [] w := by
    refine ⟨Below.refl _ _, hlo, ?_, ?_, ?_, ?_, ?_, ?_⟩
    · intro b p h; cases h
    · intro b blk h; simp at h
    · intro b b' blk blk' c co co' h; simp at h
    · rw [hL]; exact hg
    · intro b blk h; simp at h
    · intro b p h; cases h
  refine callsIn_of_wp_marks f1 f2 trivial ?_
  have hl := ha.length
  simp only [Array.length_toList] at hl
  refine hrec _ _ _ _ _ _ hr f6 Fence.wide (.inl rfl) (.inl rfl) w.heap.size L w noInj w _ (Nat.le_refl _) (Nat.le_refl _) ⟨S, ?_, ⟨[], by simp, rfl, by simp⟩⟩ _ fun a' w' ι' k1 k2 k3 => ?_
  · simp only [Array.toList_append, Array.toList_replicate]
    rw [f3, ← hl, hL]
    exact ha.append (Rs_replicate _)
  · obtain ⟨ks, n1, n2, n3⟩ := k3.mks
    have hfin : LeavesInM Fence.wide 0 P fn a'.tmps (Ret fun v w' => Below w.heap.size w w' ∧ R noInj w' L r v) a'.defers .returning w' := by
      rw [n2]
      refine leaves_marks V (by rw [f4]; exact hres) ks w' k3.sim k3.tm n1 n3 (Nat.le_refl _) fun w2 cv b1 b2 b3 b4 b5 => ?_
      refine ⟨b2.below, ?_⟩
      have hone : Rs ι' w2 (Live L ι' H2) [oneE rs] [cv] := by simp only [Rs]; exact ⟨_, _, rfl, b5, rfl⟩
      have := freezeL_sound b2 hone hfz
      simp only [Rs] at this
      obtain ⟨y, ys, q1, q2, _⟩ := this
      cases q1
      exact R.ext (ext_less fun c hc => .inl hc) _ _ _ _ (Inj.le_refl _) q2
    cases ex with
    | normal => exact hfin
    | ret => exact hfin
    | exit id => exact absurd rfl (hex id)
end
end Dv

namespace Dv
open Go Go.RowKit
set_option linter.unusedSimpArgs false
set_option linter.unusedVariables false

section
variable {E : Env} {P : Program} {ι : Inj} {w : World} {L L' : Nat → Prop} {Lo : Nat → Prop} {w0 : World} {H : Hp} {ts : List AV} {a : Act} {B : Nat}

theorem setL_R : ∀ (ps : List Nat) (as : List AV) (ts ts' : List AV) (vs : List Value) (tmps : Array Value), setL ts ps as = some ts' → Rs ι w L ts tmps.toList → Rs ι w L as vs →
    vs.length = ps.length ∧ Rs ι w L ts' ((ps.zip vs).foldl (fun t (p, v) => t.setIfInBounds p v) tmps).toList
  | [], [], ts, ts', vs, tmps, h, ht, ha => by
    simp only [Rs] at ha; subst ha
    simp only [setL, Option.some.injEq] at h; subst h
    exact ⟨rfl, ht⟩
  | [], _ :: _, _, _, _, _, h, _, _ => by simp [setL] at h
  | _ :: _, [], _, _, _, _, h, _, _ => by simp [setL] at h
  | p :: ps, x :: as, ts, ts', vs, tmps, h, ht, ha => by
    simp only [Rs] at ha
    obtain ⟨y, ys, rfl, h1, h2⟩ := ha
    simp only [setL] at h
    have := setL_R ps as (ts.set p x) ts' ys (tmps.setIfInBounds p y) h (by rw [Array.toList_setIfInBounds]; exact ht.set p h1) h2
    exact ⟨by simp [this.1], by simpa using this.2⟩

/-- a loop's record turns -/
theorem loop_update (S : Sim E Lo w0 ι H w) {l cb co : Nat} {st st' : LoopState} {pend pend' : Option Code} {lts : List AV} {ps : List Nat} {as bd : Code} {r : Loop}
    (hb : H[l]? = some (.loop st pend lts ps as bd)) (hi : ι l = some (cb, co)) (hr : w.heap[cb]? = some (.loop r)) (hp : ∀ c, pend' = some c → codeOk E c = true) :
    Sim E Lo w0 ι (H.set l (.loop st' pend' lts ps as bd)) (w.putObj cb (.loop { r with state := st', pending := pend' })) ∧
      Ext w (Live Lo ι H) (w.putObj cb (.loop { r with state := st', pending := pend' })) (Live Lo ι (H.set l (.loop st' pend' lts ps as bd))) := by
  obtain ⟨cb', co', o, g1, g2, g3, g4, g5⟩ := S.obj l _ hb (by simp [Blk.st])
  rw [hi] at g1; cases g1
  rw [hr] at g2; cases g2
  have F := S.fine l _ hb rfl
  simp only [ObjR] at g3
  obtain ⟨r', q0, q1, q2, q3, q4, q5, q6⟩ := g3
  cases q0
  have O : Only w (w.putObj cb (.loop { r with state := st', pending := pend' })) cb (.loop { r with state := st', pending := pend' }) :=
    setOb_only (o := .loop { r with state := st', pending := pend' }) (w1 := w) rfl rfl rfl rfl hr
  have hsh : SameShape (.loop r) (.loop { r with state := st', pending := pend' }) := fun cs e f q => by cases q
  have X : Ext w (Live Lo ι H) (w.putObj cb (.loop { r with state := st', pending := pend' })) (Live Lo ι H) := O.ext hr hsh (.inr ⟨l, _, co, hb, rfl, hi⟩) (fun _ h => h)
  exact S.update (blk' := .loop st' pend' lts ps as bd) hb rfl rfl hi hr hsh O
    (by
      simp only [ObjR]
      exact ⟨_, rfl, rfl, rfl, Rs.ext X _ _ _ _ (Inj.le_refl _) q3, q4, q5, q6⟩)
    ⟨F.1, F.2.1, F.2.2.1, F.2.2.2.1, hp⟩

theorem loop_obj (S : Sim E Lo w0 ι H w) {l cb co : Nat} {st : LoopState} {pend : Option Code} {lts : List AV} {ps : List Nat} {as bd : Code}
    (hb : H[l]? = some (.loop st pend lts ps as bd)) (hi : ι l = some (cb, co)) :
    ∃ r : Loop, w.heap[cb]? = some (.loop r) ∧ r.state = st ∧ r.pending = pend ∧ Rs ι w (Live Lo ι H) lts r.tmps.toList ∧ r.params.toList = ps ∧ r.assign = as ∧ r.body = bd := by
  obtain ⟨cb', co', o, g1, g2, g3, g4, g5⟩ := S.obj l _ hb (by simp [Blk.st])
  rw [hi] at g1; cases g1
  simp only [ObjR] at g3
  obtain ⟨r, q0, q1, q2, q3, q4, q5, q6⟩ := g3
  exact ⟨r, by rw [g2, q0], q1, q2, q3, q4, q5, q6⟩

theorem runY_sound (V : Valid E P) {rec : Cd} (hrec : CodeOK E P rec) : YieldOK E P (runY rec) := by
  intro l as H v H2 h Lo w0 ι w vs cb co S ha hi
  unfold runY at h
  split at h
  case h_2 => cases h
  rename_i pend0 ts ps assign body hb
  split at h
  case h_2 => cases h
  rename_i ts' hset
  split at h
  case h_2 => cases h
  rename_i t1 H1 hass
  split at h
  case h_2 => cases h
  rename_i pend ts2 ps2 as2 b2 hb1
  split at h
  case h_2 => cases h
  rename_i e t2 H2' hbody
  split at h
  case h_2 => cases h
  rename_i st3 pend3 ts3 ps3 as3 b3 hb2
  obtain ⟨r, r1, r2, r3, r4, r5, r6, r7⟩ := loop_obj S hb hi
  have Fi := S.fine l _ hb rfl
  obtain ⟨z1, z2⟩ := setL_R ps as ts ts' vs.toList r.tmps hset r4 ha
  have hsz : vs.size = r.params.size := by
    rw [← Array.length_toList, ← Array.length_toList, z1, r5]
  refine .inr (.inr ⟨cb, r.fn, _, r.assign, r.body, w, run_yield r1 hsz, ?_⟩)
  have hW : WideF (Fence.wide.inRound cb) := .inr ⟨cb, rfl⟩
  refine roundIn_of_wpIn trivial ?_
  rw [r6]
  refine hrec assign ts' H _ t1 H1 hass Fi.1 _ hW (.inr Fi.2.2.1) w.heap.size Lo w0 ι w _ S.below.size (Nat.le_refl _) ⟨S, ?_, ⟨[], by simp, rfl, by simp⟩⟩ _ fun a1 w1 ι1 k1 k2 k3 => ?_
  · have : ((r.params.zip vs).foldl (fun tmps (x : Tmp × Value) => tmps.setIfInBounds x.1 x.2) r.tmps) = ((ps.zip vs.toList).foldl (fun t (p, v) => t.setIfInBounds p v) r.tmps) := by
      rw [← r5, ← Array.toList_zip, Array.foldl_toList]
    simp only
    rw [this]
    exact z2
  · -- the assignments are done: the round begins
    have hi1 := k1 l _ hi
    obtain ⟨q, q1, q2, q3, q4, q5, q6, q7⟩ := loop_obj k3.sim hb1 hi1
    have Fp := k3.sim.fine l _ hb1 rfl
    have U := loop_update (st' := .busy) (pend' := pend) k3.sim hb1 hi1 q1 Fp.2.2.2.2
    have hqeq : ({ q with state := .busy, pending := pend } : Loop) = { q with state := .busy } := by rw [← q3]
    rw [hqeq] at U
    refine ⟨_, run_beginRound q1 q2, ?_⟩
    rw [r7]
    refine hrec body t1 _ _ t2 H2' hbody Fi.2.1 _ hW (.inr Fi.2.2.2.1) w.heap.size Lo w0 ι1 _ a1 S.below.size (by rw [World.putObj_size]; exact k2.size) ⟨U.1, Rs.ext U.2 _ _ _ _ (Inj.le_refl _) k3.tm, k3.mks.ext U.2 rfl⟩ _
      fun a2 w2 ι2 l1 l2 l3 => ?_
    have hi2 := l1 l _ hi1
    obtain ⟨p, p1, p2, p3, p4, p5, p6, p7⟩ := loop_obj l3.sim hb2 hi2
    have fin : ∀ (jump : Option Code) (st' : LoopState), st' = (if jump.isNone then .ready else .done) → (∀ c, jump = some c → codeOk E c = true) → v = .bool jump.isNone → H2 = H2'.set l (.loop st' jump ts3 ps3 as3 b3) →
        ∃ v' w', (Instr.endRound cb jump).run P w2 = .ok v' w' ∧ Ret (PostH E Lo w0 ι H w v H2) (.returned v') w' := by
      intro jump st' hst hj hv hH
      subst hv hH
      have U2 := loop_update (st' := st') (pend' := jump) l3.sim hb2 hi2 p1 hj
      rw [hst] at U2 ⊢
      refine ⟨_, _, run_endRound jump p1, ?_⟩
      exact ⟨ι2, Inj.le_trans k1 l1, U2.1, k2.trans (U.2.trans (l2.trans U2.2)), by simp only [R]⟩
    cases e with
    | normal =>
      simp only [Option.some.injEq, Prod.mk.injEq] at h
      exact fin none .ready rfl (fun c q => by cases q) h.1.symm h.2.symm
    | ret =>
      simp only [Option.some.injEq, Prod.mk.injEq] at h
      exact fin (some .ret) .done rfl (fun c q => by cases q; rfl) h.1.symm h.2.symm
    | exit id =>
      simp only [Option.some.injEq, Prod.mk.injEq] at h
      exact fin (some (.exit id)) .done rfl (fun c q => by cases q; rfl) h.1.symm h.2.symm
end
end Dv

namespace Dv
open Go Go.RowKit
set_option linter.unusedSimpArgs false
set_option linter.unusedVariables false

/-- functions known by contract -/
structure OvOK (E : Env) (P : Program) : Prop where
  ov : PureOK E P E.ov
  ovI : ImpOK E P E.ovI

/-- statements whose order is open -/
def DrawOK (E : Env) (P : Program) (rec : Cd) : Prop := ∀ (id : Nat) (ops : Array Oper) ts H ts' H', drawE E (runP E rec) (runI E rec) (runY rec) id ops.toList ts H = some (ts', H') → orderOk E (E.pairs id ops.size) ops = true →
  ∀ (F : Fence), WideF F → ∀ (B : Nat) (Lo : Nat → Prop) (w0 : World) (ι : Inj) (w : World) (a : Act), w0.heap.size ≤ B → B ≤ w.heap.size → St E B Lo w0 ι H ts a w →
  ∀ Q : Exit → Act → World → Prop, Then E B Lo w0 ι H w ts' H' (Q .normal) → (Code.region id ops true).wpIn F 0 P Q a w

def LoopOK (E : Env) (P : Program) (rec : Cd) (k : Nat) : Prop := ∀ c ts H ex ts' H', rec (.loop c) ts H = some (ex, ts', H') → codeOk E c = true → ∀ (F : Fence), WideF F → (F = Fence.wide ∨ flat c = true) → ∀ (B : Nat) (Lo : Nat → Prop) (w0 : World) (ι : Inj) (w : World) (a : Act),
  w0.heap.size ≤ B → B ≤ w.heap.size → St E B Lo w0 ι H ts a w → ∀ Q : Exit → Act → World → Prop, Then E B Lo w0 ι H w ts' H' (Q ex.up) → Code.roundsIn F 0 P c Q k a w

section
variable {E : Env} {P : Program} {ι : Inj} {w : World} {L L' : Nat → Prop} {Lo : Nat → Prop} {w0 : World} {H : Hp} {ts : List AV} {a : Act} {B : Nat}

theorem callFunc_run (V : Valid E P) {f : Nat} {fi : FnI} (h : E.fn f = some fi) (vs : Array Value) (w : World) : (callFunc f vs).run P w = .ok (.enter f vs) w := by
  obtain ⟨fn, f1, f2, f3, f4, f5, f6⟩ := V.fn f fi h
  unfold callFunc
  simp only [Sem.run_bind, run_program, Result.andThen_ok, f1]
  have : (fn.name == "runtime.NumGoroutine") = false := by simpa using f5
  simp [this, f2]

theorem runP_ok (V : Valid E P) (O : OvOK E P) {rec : Cd} (hrec : CodeOK E P rec) : PureOK E P (runP E rec) := by
  intro f as r h L w vs hlo hg ha
  unfold runP at h
  split at h
  · rename_i r' hov
    cases h
    exact O.ov f as r hov L w vs hlo hg ha
  · rename_i hov
    split at h
    case h_2 => cases h
    rename_i fi hfi
    split at h
    · cases h
    split at h
    · cases h
    · rename_i ex ts H hne hr
      split at h
      case h_2 => cases h
      rename_i rs hres
      split at h
      case h_2 => cases h
      rename_i v bs hfz
      cases h
      exact .inr (.inl ⟨f, vs, w, callFunc_run V hfi vs w, runP_sound V hrec hfi hr (fun id q => hne id q) hres hfz hlo hg ha⟩)
    · cases h

theorem runI_ok (V : Valid E P) (O : OvOK E P) {rec : Cd} (hrec : CodeOK E P rec) : ImpOK E P (runI E rec) := by
  intro f as H v H2 h Lo w0 ι w vs S ha
  unfold runI at h
  split at h
  · rename_i r hov
    cases h
    exact O.ovI f as H v H2 hov Lo w0 ι w vs S ha
  · have h0 := h
    unfold runI0 at h0
    split at h0
    case h_2 => cases h0
    rename_i fi hfi
    exact .inr (.inl ⟨f, vs, w, callFunc_run V hfi vs w, runI0_sound V hrec h S ha⟩)

theorem Live_lt (S : Sim E Lo w0 ι H w) {c : Nat} (h : Live Lo ι H c) : c < w.heap.size := live_lt S c h

/-- a loop over a function -/
theorem rangeFunc_wp (V : Valid E P) {rec : Cd} (hrec : CodeOK E P rec) {g : Operand} {ps : Array Nat} {assign body : Code} {fv : AV} {f : Nat} {first cap : List AV}
    (hg : evO ts g = some (.func f first cap)) {v : AV} {H2 : Hp} (hcall : runI0 E rec f (first ++ [.yield H.length] ++ cap) (H ++ [.loop .ready none ts ps.toList assign body]) = some (v, H2))
    {st : LoopState} {pend : Option Code} {ts3 : List AV} {ps3 : List Nat} {as3 b3 : Code} (hst : st ≠ .busy)
    {ex : Ex} {ts' : List AV} {H' : Hp} (hend : (match pend with
      | none => some (Ex.normal, ts, H2.set H.length (.loop .exhausted pend ts3 ps3 as3 b3))
      | some c => rec c ts (H2.set H.length (.loop .exhausted pend ts3 ps3 as3 b3))) = some (ex, ts', H')) (hl : H2[H.length]? = some (.loop st pend ts3 ps3 as3 b3))
    (c1 : codeOk E assign = true) (c2 : codeOk E body = true) (c3 : flat assign = true) (c4 : flat body = true)
    (hB : w0.heap.size ≤ B) (hBw : B ≤ w.heap.size) (S : St E B Lo w0 ι H ts a w) {Q : Exit → Act → World → Prop} (hk : Then E B Lo w0 ι H w ts' H' (Q ex.up)) :
    (Code.rangeFunc g ps assign body).wpIn Fence.wide 0 P Q a w := by
  refine wpIn_rangeFunc fun fn hfn => ?_
  have hfi : ∃ fi, E.fn f = some fi := by
    have h0 := hcall
    unfold runI0 at h0
    split at h0
    · rename_i fi hfi; exact ⟨fi, hfi⟩
    · cases h0
  obtain ⟨fi, hfi⟩ := hfi
  have hgR := evO_R S.tm hg
  simp only [R] at hgR
  obtain ⟨cf, cc, hgv, r1, r2⟩ := hgR
  -- the two blocks that are laid
  have hb1 : Below w.heap.size w (w.alloc (.deferred (some []))) :=
    ⟨rfl, rfl, rfl, by show w.heap.size ≤ (w.heap.push _).size; simp, fun k hk => by show (w.heap.push _)[k]? = _; rw [Array.getElem?_push, if_neg (by omega)]⟩
  obtain ⟨S1, X1⟩ := S.sim.later hb1
  have hsz1 : (w.alloc (.deferred (some []))).heap.size = w.heap.size + 1 := by show (w.heap.push _).size = _; simp
  have hf1 := free_len S1
  let rc : Loop := { state := .ready, pending := none, fn, tmps := a.tmps, params := ps, assign, body, defers := w.heap.size }
  let nb : Blk := .loop .ready none ts ps.toList assign body
  have hput : putB H H.length nb = H ++ [nb] := by simp [putB]
  have X2 := ext_alloc S1 (blk := nb) hf1 rfl (.loop rc) (w1 := w.alloc (.deferred (some []))) rfl
  have hle := Inj.le_put (p := ((w.alloc (.deferred (some []))).heap.size, 0)) hf1.1
  have X12 := X1.trans X2
  have S2 := S1.alloc (blk := nb) hf1 rfl (o := .loop rc) (w1 := w.alloc (.deferred (some []))) rfl rfl rfl rfl
    (by
      simp only [ObjR, nb]
      exact ⟨rc, rfl, rfl, rfl, Rs.ext X12 _ _ _ _ hle S.tm, rfl, rfl, rfl⟩)
    ⟨c1, c2, c3, c4, fun c q => by cases q⟩
  rw [hput] at S2 X12
  have hcalls := runI0_sound V hrec hcall S2 (vs := cf ++ #[.func (.yield (w.heap.size + 1)) #[] #[]] ++ cc) (by
    rw [Array.toList_append, Array.toList_append]
    refine ((Rs.ext X12 _ _ _ _ hle r1).append ?_).append (Rs.ext X12 _ _ _ _ hle r2)
    simp only [Rs]
    refine ⟨_, _, rfl, ?_, rfl⟩
    simp only [R]
    exact ⟨w.heap.size + 1, 0, by simp [Inj.put, hsz1], rfl⟩)
  have hres : (resolve a.eval (rangeCall g (w.heap.size + 1)) 0).run P ((w.alloc (.deferred (some []))).alloc (.loop rc)) =
      .ok { target := .fn (.func f) cc, args := cf ++ #[.func (.yield (w.heap.size + 1)) #[] #[]] } ((w.alloc (.deferred (some []))).alloc (.loop rc)) := by
    have hc : ∀ v : Value, a.eval (.const v) = v := fun _ => rfl
    simp [resolve, hgv, Deferred.ofValue, hc]
  have hinv : (invoke (.fn (.func f) cc) (cf ++ #[.func (.yield (w.heap.size + 1)) #[] #[]])).run P ((w.alloc (.deferred (some []))).alloc (.loop rc)) =
      .ok (.enter f (cf ++ #[.func (.yield (w.heap.size + 1)) #[] #[]] ++ cc)) ((w.alloc (.deferred (some []))).alloc (.loop rc)) := by
    simpa [invoke] using callFunc_run V hfi _ _
  have hent : (Instr.enterLoop fn a.tmps ps assign body none).run P w = .ok (w.heap.size + 1, [{ target := .collected w.heap.size, args := #[] }]) ((w.alloc (.deferred (some []))).alloc (.loop rc)) :=
    run_enterLoop_outer _ _ _ _ _
  refine ⟨_, _, _, _, _, _, _, _, hent, hres, fun f' _ => WideF.fn (.inl rfl) f', hinv, by rw [WideF.deep (.inl rfl)]; simp, ?_⟩
  refine CallsIn.mono hcalls fun e w3 he => ?_
  · cases e with
    | panicked _ => exact he.elim
    | outgrown => exact he.elim
    | returned v' =>
      obtain ⟨ι3, q1, q2, q3, q4⟩ := he
      have hi3 : ι3 H.length = some (w.heap.size + 1, 0) := q1 _ _ (by simp [Inj.put, hsz1])
      obtain ⟨r, l1, l2, l3, l4, l5, l6, l7⟩ := loop_obj q2 hl hi3
      have F3 := q2.fine _ _ hl rfl
      have U := loop_update (st' := .exhausted) (pend' := pend) q2 hl hi3 l1 F3.2.2.2.2
      have hreq : ({ r with state := .exhausted, pending := pend } : Loop) = { r with state := .exhausted } := by rw [← l3]
      rw [hreq] at U
      refine ⟨r.pending, _, run_endLoop l1 (by rw [l2]; exact hst), ?_⟩
      have X3 := X12.trans (q3.trans U.2)
      have hle3 := Inj.le_trans hle q1
      -- the marks
      have M3 : MarksR B { a with defers := [{ target := .collected w.heap.size, args := #[] }] ++ a.defers } (w3.putObj (w.heap.size + 1) (.loop { r with state := .exhausted }))
          (Live Lo ι3 (H2.set H.length (.loop .exhausted pend ts3 ps3 as3 b3))) := by
        obtain ⟨ks, n1, n2, n3⟩ := S.mks
        refine ⟨w.heap.size :: ks, ?_, by simp [n2], fun k hk => ?_⟩
        · rw [List.nodup_cons]
          refine ⟨fun hm => ?_, n1⟩
          have := lt_size_of_get (n3 _ hm).1
          omega
        · rcases List.mem_cons.1 hk with rfl | hk
          · have g1 : ((w.alloc (.deferred (some []))).alloc (.loop rc)).heap[w.heap.size]? = some (.deferred (some [])) := by
              simp only [World.alloc]
              rw [Array.getElem?_push, if_neg (by simp), Array.getElem?_push, if_pos rfl]
            have g2 : ¬ Live Lo (ι.put H.length ((w.alloc (.deferred (some []))).heap.size, 0)) (H ++ [nb]) w.heap.size := by
              rw [← hput, live_new hf1 rfl]
              rintro (hq | hq)
              · exact absurd (Live_lt S.sim hq) (by omega)
              · omega
            have := (q3.trans U.2).keep g1 g2
            exact ⟨this.1, this.2, hBw⟩
          · obtain ⟨g1, g2, g3⟩ := n3 k hk
            have := X3.keep g1 g2
            exact ⟨this.1, this.2, g3⟩
      have S3 : St E B Lo w0 ι3 (H2.set H.length (.loop .exhausted pend ts3 ps3 as3 b3)) ts { a with defers := [{ target := .collected w.heap.size, args := #[] }] ++ a.defers }
          (w3.putObj (w.heap.size + 1) (.loop { r with state := .exhausted })) := ⟨U.1, Rs.ext X3 _ _ _ _ hle3 S.tm, M3⟩
      clear U
      generalize (w3.putObj (w.heap.size + 1) (.loop { r with state := .exhausted })) = w4 at *
      rw [l3]
      cases pend with
      | none =>
        simp only [Option.some.injEq, Prod.mk.injEq] at hend
        obtain ⟨rfl, rfl, rfl⟩ := hend
        exact hk _ _ ι3 hle3 X3 S3
      | some c =>
        exact hrec c _ _ _ _ _ hend (F3.2.2.2.2 c rfl) Fence.wide (.inl rfl) (.inl rfl) B Lo w0 ι3 _ _ hB (Nat.le_trans hBw X3.size) S3 Q (hk.chain hle3 X3)

theorem evalF_ok (V : Valid E P) (O : OvOK E P) {rec : Cd} {k : Nat} (hrec : CodeOK E P rec) (hloop : LoopOK E P rec k) (hdraw : DrawOK E P rec) : CodeOK E P (evalF E rec) ∧ LoopOK E P (evalF E rec) (k + 1) := by
  have hl : LoopOK E P (evalF E rec) (k + 1) := by
    intro c ts H ex ts' H' h hc F hF hfl B Lo w0 ι w a hB hBw S Q hk
    simp only [evalF] at h
    rw [roundsIn_succ]
    cases hb : rec c ts H with
    | none => rw [hb] at h; cases h
    | some r =>
      obtain ⟨e1, ts1, H1⟩ := r
      rw [hb] at h
      refine hrec c ts H e1 ts1 H1 hb hc F hF hfl B Lo w0 ι w a hB hBw S _ fun a1 w1 ι1 k1 k2 k3 => ?_
      cases e1 with
      | normal => exact hloop c ts1 H1 ex ts' H' h hc F hF hfl B Lo w0 ι1 w1 a1 hB (Nat.le_trans hBw k2.size) k3 Q (hk.chain k1 k2)
      | exit id => cases h; exact hk _ _ _ k1 k2 k3
      | ret => cases h; exact hk _ _ _ k1 k2 k3
  refine ⟨?_, hl⟩
  intro c ts H ex ts' H' h hc F hF hfl B Lo w0 ι w a hB hBw S Q hk
  cases c with
  | skip => simp only [evalF, Option.some.injEq, Prod.mk.injEq] at h; obtain ⟨rfl, rfl, rfl⟩ := h; exact wpIn_skip (hk _ _ _ (Inj.le_refl _) (Ext.refl _ _) S)
  | label l => simp only [evalF, Option.some.injEq, Prod.mk.injEq] at h; obtain ⟨rfl, rfl, rfl⟩ := h; exact wpIn_label (hk _ _ _ (Inj.le_refl _) (Ext.refl _ _) S)
  | exit id => simp only [evalF, Option.some.injEq, Prod.mk.injEq] at h; obtain ⟨rfl, rfl, rfl⟩ := h; exact wpIn_exit (hk _ _ _ (Inj.le_refl _) (Ext.refl _ _) S)
  | ret => simp only [evalF, Option.some.injEq, Prod.mk.injEq] at h; obtain ⟨rfl, rfl, rfl⟩ := h; exact wpIn_ret (hk _ _ _ (Inj.le_refl _) (Ext.refl _ _) S)
  | scope body => simp [evalF] at h
  | goto l => simp [evalF] at h
  | refuse why => simp [evalF] at h
  | region id ops draw =>
    simp only [evalF, Option.map_eq_some_iff] at h
    obtain ⟨⟨t1, h1⟩, hr, he⟩ := h
    simp only [Prod.mk.injEq] at he
    obtain ⟨rfl, rfl, rfl⟩ := he
    cases draw with
    | false =>
      simp only [Bool.false_eq_true, if_false] at hr
      exact region_wp V (runP_ok V O hrec) (runI_ok V O hrec) (runY_sound V hrec) hF hr S hk
    | true =>
      simp only [if_true] at hr
      simp only [codeOk, Bool.not_true, Bool.false_or] at hc
      exact hdraw id ops ts H _ _ hr hc F hF B Lo w0 ι w a hB hBw S Q hk
  | seq x y =>
    simp only [codeOk, Bool.and_eq_true] at hc
    have hfl' : (F = Fence.wide ∨ flat x = true) ∧ (F = Fence.wide ∨ flat y = true) := by
      rcases hfl with q | q
      · exact ⟨.inl q, .inl q⟩
      · simp only [flat, Bool.and_eq_true] at q; exact ⟨.inr q.1, .inr q.2⟩
    simp only [evalF] at h
    cases hb : rec x ts H with
    | none => rw [hb] at h; cases h
    | some r =>
      obtain ⟨e1, ts1, H1⟩ := r
      rw [hb] at h
      refine wpIn_seq (hrec x ts H e1 ts1 H1 hb hc.1 F hF hfl'.1 B Lo w0 ι w a hB hBw S _ fun a1 w1 ι1 k1 k2 k3 => ?_)
      cases e1 with
      | normal => exact hrec y ts1 H1 ex ts' H' h hc.2 F hF hfl'.2 B Lo w0 ι1 w1 a1 hB (Nat.le_trans hBw k2.size) k3 Q (hk.chain k1 k2)
      | exit id => cases h; exact hk _ _ _ k1 k2 k3
      | ret => cases h; exact hk _ _ _ k1 k2 k3
  | cond c x y =>
    simp only [codeOk, Bool.and_eq_true] at hc
    have hfl' : (F = Fence.wide ∨ flat x = true) ∧ (F = Fence.wide ∨ flat y = true) := by
      rcases hfl with q | q
      · exact ⟨.inl q, .inl q⟩
      · simp only [flat, Bool.and_eq_true] at q; exact ⟨.inr q.1, .inr q.2⟩
    simp only [evalF] at h
    split at h
    case h_2 => cases h
    rename_i t ht
    have hev := evO_R S.tm ht
    simp only [R] at hev
    refine wpIn_cond hev ?_
    cases t with
    | true => exact hrec x ts H ex ts' H' h hc.1 F hF hfl'.1 B Lo w0 ι w a hB hBw S Q hk
    | false => exact hrec y ts H ex ts' H' h hc.2 F hF hfl'.2 B Lo w0 ι w a hB hBw S Q hk
  | block id body =>
    simp only [codeOk] at hc
    have hfl' : F = Fence.wide ∨ flat body = true := by
      rcases hfl with q | q
      · exact .inl q
      · simp only [flat] at q; exact .inr q
    simp only [evalF] at h
    cases hb : rec body ts H with
    | none => rw [hb] at h; cases h
    | some r =>
      obtain ⟨e1, ts1, H1⟩ := r
      rw [hb] at h
      refine wpIn_block (hrec body ts H e1 ts1 H1 hb hc F hF hfl' B Lo w0 ι w a hB hBw S _ fun a1 w1 ι1 k1 k2 k3 => ?_)
      cases e1 with
      | normal => cases h; exact hk _ _ _ k1 k2 k3
      | ret => cases h; exact hk _ _ _ k1 k2 k3
      | exit id' =>
        simp only [Ex.up, Exit.inBlock]
        simp only at h
        split at h
        · rename_i q; rw [if_pos q]; cases h; exact hk _ _ _ k1 k2 k3
        · rename_i q; rw [if_neg q]; cases h; exact hk _ _ _ k1 k2 k3
  | loop body =>
    simp only [codeOk] at hc
    have hfl' : F = Fence.wide ∨ flat body = true := by
      rcases hfl with q | q
      · exact .inl q
      · simp only [flat] at q; exact .inr q
    exact wpIn_loop_rounds (k + 1) (hl body ts H ex ts' H' h hc F hF hfl' B Lo w0 ι w a hB hBw S Q hk)
  | rangeFunc g ps assign body =>
    simp only [codeOk, Bool.and_eq_true] at hc
    have hFw : F = Fence.wide := by
      rcases hfl with q | q
      · exact q
      · simp [flat] at q
    subst hFw
    simp only [evalF] at h
    split at h
    case h_2 => cases h
    rename_i f first cap hg
    split at h
    case h_2 => cases h
    rename_i v H2 hcall
    split at h
    case h_2 => cases h
    rename_i st pend ts3 ps3 as3 b3 hl3
    split at h
    · cases h
    rename_i hst
    exact rangeFunc_wp V hrec (fv := .nilptr) hg hcall hst h hl3 hc.1.1.1 hc.1.1.2 hc.1.2 hc.2 hB hBw S hk

theorem evalC_ok (V : Valid E P) (O : OvOK E P) (hdraw : ∀ rec, CodeOK E P rec → DrawOK E P rec) : ∀ n, CodeOK E P (evalC E n) ∧ LoopOK E P (evalC E n) n
  | 0 => ⟨fun _ _ _ _ _ _ h => by simp [evalC] at h, fun _ _ _ _ _ _ h => by simp [evalC] at h⟩
  | n + 1 => evalF_ok V O (evalC_ok V O hdraw n).1 (evalC_ok V O hdraw n).2 (hdraw _ (evalC_ok V O hdraw n).1)
end
end Dv
