/-
  AssemblyNames returns true for every input whatever, the listed variables laid as the program's text lays them; no further condition.
-/
import Derived.Test.YtbaficijlppeoaaGreatDoorMain
import Derived.Test.YtbaficijlppeoaaGreatDoorTie
import Derived.Test.YtbaficijlppeoaaGreatDoorCards
import Derived.ProofKit
import Derived.LaidMore
import Derived.OpenShut
import Derived.Stop.Joined
import Derived.SevenTiedAt
set_option linter.unusedSimpArgs false
set_option linter.unusedVariables false

namespace Go.Proofs.YtbaficijlppeoaaGreatDoor
open Go Go.ChangeShapes Go.WideShapes Go.ChangeAt Go.RowKit Go.ChangeMaps Dv
set_option linter.unusedSimpArgs false
set_option linter.unusedVariables false

theorem own : ownKnob Tryz.prog.godebug = none := by kernel_rfl
theorem gTab : Tryz.prog.globalNamed "math/bits.deBruijn64tab" = some 2 := by kernel_rfl
theorem tTab : (Tryz.prog.globals[2]?).map (·.type) = some 314 := by kernel_rfl

/-- behind a call that only lays new blocks -/
theorem post_of_below {H : Type} {enc : TypeId × Value → H} {P : Program} {f : Func} {s : ChangeSpec} {apart fresh handsOn again : Bool} {W W' : World} {args : Array Value} {v : Value} {ds gs : List (DataW H)} {before pa pv : List MemPlace}
    (hW : DataW.Whole enc P f.params.toList s.vars apart W args.toList ds gs before)
    (hres : ∀ (b : Nat) (sp : Nat → Bool) (hd : Bool), DataW.TrodAll enc P W' b sp hd f.resultTypes.toList (v.resultList f.resultTypes.size) (s.fn H (ds ++ gs)).results [])
    (hargs : ∀ sp : Nat → Bool, (∀ p ∈ before, sp p.block = true) → DataW.TrodAll enc P W' 0 sp true f.params.toList args.toList (s.fn H (ds ++ gs)).args pa)
    (hvars : ∀ sp : Nat → Bool, (∀ p ∈ before, sp p.block = true) → DataW.TrodVars enc P W' sp s.vars (s.fn H (ds ++ gs)).vars pv)
    (hps : before = pa ++ pv) (hb : Go.RowKit.Below W.heap.size W W')
    (hok : ∀ (j : Nat) (t : TypeId) (r : Value), f.resultTypes[j]? = some t → (v.resultList f.resultTypes.size)[j]? = some r → Value.okWide P W' .any 0 t r) :
    s.post enc P f apart fresh handsOn again W args v W' := by
  have hlt := hW.lt
  have hold : ∀ p ∈ before, (fun b => decide (b < W.heap.size)) p.block = true := fun p hp => by simpa using hW.lt p hp
  refine ⟨ds, gs, before, [], pa, pv, hW, hres _ _ _, hargs _ hold, hvars _ hold, hb.frame _, fun _ => ?_⟩
  obtain ⟨_, _, _, _, _, hz, hn⟩ := hW
  refine ⟨hok, _, _, ([] ++ pa) ++ pv, ⟨[] ++ pa, pv, trodAll_append (hargs _ (fun _ _ => rfl)) (hres _ _ _), hvars _ (fun _ _ => rfl), rfl, ?_, ?_⟩, ?_⟩
  · intro b off hp
    have hm : MemPlace.cell b off ∈ before := by rw [hps]; simpa using hp
    rw [hb.frozen (hlt _ hm)]
    exact hz b off hm
  · intro ha
    have := hn ha
    rw [hps] at this
    simpa using this
  · intro p hp _
    rw [hps]
    simpa using hp

theorem u5 : Tryz.prog.underlying 5 = some (.int .u8) := by kernel_rfl
theorem u9 : Tryz.prog.underlying 9 = some .string := by kernel_rfl
theorem u4 : Tryz.prog.underlying 4 = some .bool := by kernel_rfl
theorem u125 : Tryz.prog.underlying 314 = some (.array 64 5) := by kernel_rfl
theorem c5 : Tryz.prog.cellsOf 5 = 1 := by kernel_rfl
theorem c125 : Tryz.prog.cellsOf 314 = 64 := by kernel_rfl

theorem tab_len : tab64.length = 64 := by kernel_rfl
theorem tab_data : ∀ i < 64, ∃ n, tab64[i]? = some (.int .u8 n) ∧ (match (Rows.laid_math_bits_deBruijn64tab (H := Unit)) with | .agg l => l[i]? | _ => none) = some (.lit (.int .u8 n)) := by
  intro i hi
  have : (List.range 64).all (fun i => match tab64[i]?, (match (Rows.laid_math_bits_deBruijn64tab (H := Unit)) with | .agg l => l[i]? | _ => none) with
    | some (.int .u8 n), some (.lit (.int .u8 m)) => n == m
    | _, _ => false) = true := by kernel_rfl
  have := List.all_eq_true.1 this i (List.mem_range.2 hi)
  split at this
  · rename_i n m h1 h2
    simp only [beq_iff_eq] at this
    subst this
    exact ⟨n, h1, h2⟩
  · cases this

/-- what the condition gives: the table, as cells -/
theorem glob_of_laid {W : World} (h : laidMetH Tryz.prog Rows.assemblyNamesRow.laid W) : GlobR Ef (fun _ => False) W := by
  have h' : laidMet Tryz.prog Rows.assemblyNamesRow.laid W := h
  obtain ⟨ps, ⟨g0, t0, cs0, f0, p0, q0, hg0, ht0, hv0, hd0, ⟨g1, t1, cs1, f1, p1, q1, hg1, ht1, hv1, hd1, _, _⟩, _⟩, _, _⟩ := h'
  obtain rfl := Option.some.inj (gTab.symm.trans hg1)
  obtain rfl := Option.some.inj (tTab.symm.trans ht1)
  intro g cs hg
  have hg' : globT g = some cs := by
    have : Ef.glob = E0.glob := overF.glob
    rw [this] at hg
    exact hg
  have hg2 : g = 2 ∧ cs = tab64 := by
    unfold globT at hg'
    split at hg'
    · cases hg'; exact ⟨rfl, rfl⟩
    · cases hg'
  obtain ⟨rfl, rfl⟩ := hg2
  obtain ⟨xs, m, rfl, hx1, hlen, hn, hel⟩ := DataW.trod_array u125 hd1
  rw [c5] at hel
  rw [c125] at hlen
  have hvar := hv1
  unfold World.var? at hvar
  rw [gTab] at hvar
  simp only [Option.bind_some] at hvar
  split at hvar
  case h_2 => cases hvar
  rename_i c e f hheap
  cases hvar
  refine ⟨cs1, e, f, hheap, fun h => h, RAt.of_get fun i x hx => ?_⟩
  have hi : i < 64 := by have := (List.getElem?_eq_some_iff.1 hx).1; rw [tab_len] at this; exact this
  obtain ⟨n, a1, a2⟩ := tab_data i hi
  rw [a1] at hx; cases hx
  have hc : cs1.size = 64 := by simpa using hlen
  refine ⟨.int .u8 n, ?_, rfl⟩
  rw [Nat.zero_add]
  have he := hel i hi
  have hxi : ∃ y, xs[i]? = some y := ⟨xs[i], List.getElem?_eq_getElem (by omega)⟩
  obtain ⟨y, hy⟩ := hxi
  rw [hy] at he
  obtain ⟨k, e1, e2, _⟩ := DataW.trod_int u5 he
  have hd : (DataW.agg (xs.map (·.1)) : DataW Unit) = Rows.laid_math_bits_deBruijn64tab := by
    have := congrArg Prod.fst hx1
    exact this.symm
  rw [← hd] at a2
  simp only [List.getElem?_map, hy, Option.map_some, Option.some.injEq] at a2
  rw [e2] at a2
  simp only [DataW.lit.injEq, Lit.int.injEq, true_and] at a2
  subst a2
  rw [Nat.mul_one] at e1
  have hci : cs1[i]? = some (.int .u8 k) := by
    have : (cs1.toList.drop i).take 1 = [.int .u8 k] := e1
    rw [← Array.getElem?_toList]
    have h0 := congrArg (fun l => l[0]?) this
    simpa [List.getElem?_take, List.getElem?_drop] using h0
  exact hci
/-- the pinned table's cells -/
def firstCells : Array Value := (match Go.Pinned.utf8First with
  | .agg l => (l.map fun d => match d with | .lit (.int k n) => Value.int k n | _ => undef).toArray
  | _ => #[])

/-- a start that meets the condition: what the door's run leaves, and the pinned table -/
noncomputable def laidWorld (os : Os) : World :=
  let w0 := World.doorLaid Tryz.prog 400 os
  { w0 with heap := w0.heap.modify 4 fun
      | .cells _ t frozen => .cells firstCells t frozen
      | o => o }

theorem laidWorld_met (os : Os) (args : Array Value) : laidMetH Tryz.prog Rows.assemblyNamesRow.laid ((laidWorld os).forCall (fun _ _ => 0) ⟨#[], args, []⟩).memory :=
  show laidMet Tryz.prog Rows.assemblyNamesRow.laid ((laidWorld os).forCall (fun _ _ => 0) ⟨#[], args, []⟩).memory from laidMet_of_run' 8 (by kernel_rfl) (by kernel_rfl)

set_option maxRecDepth 100000 in
theorem lifted (os : Os) (started : os.Started) (H : Type) (enc : TypeId × Value → H) :
    ReturnsInHanded {} Tryz.checked os 3 .any (fun w args => (Rows.assemblyNamesSpec.pre enc Tryz.prog Tryz.f3 [] false w args ∧ laidMetH Tryz.prog Rows.assemblyNamesRow.laid w) ∧ sizedMet enc Tryz.prog Tryz.f3 (OpenSpec.ofChange Rows.assemblyNamesSpec) false w args)
      (Rows.assemblyNamesSpec.post enc Tryz.prog Tryz.f3 false true false false) := by
  refine returnsInHanded_of_change_and (C := Tryz.checked) (X := fun w _ => laidMetH Tryz.prog Rows.assemblyNamesRow.laid w) (fun _ _ _ hh h => h.of_heap hh) own started (by kernel_rfl) Tryz.func3
    (ChangeSpec.witness_shaped (enc := enc) (C := Tryz.checked) (os := os) (X := fun w _ => laidMetH Tryz.prog Rows.assemblyNamesRow.laid w) false (laidWorld os) #[.string ⟨#[]⟩, .int .u8 0] 8 rfl (World.shaped_of_RefB (by kernel_rfl) (by kernel_rfl)) (by kernel_rfl) (by kernel_rfl) (by kernel_rfl) (laidWorld_met os _)) ?_
  intro W base args ds gs before hval0 hW _ _ hL _
  have hval : ∀ (j : Nat) t v, Tryz.f3.params[j]? = some t → args[j]? = some v → Value.okWide Tryz.prog W .any base t v := hval0
  have hW' := hW
  obtain ⟨p, q, hA0, hV, rfl, hfz, hnd⟩ := hW
  have hA : DataW.TrodAll enc Tryz.prog W 0 (fun _ => true) true Tryz.f3.params.toList args.toList ds p := hA0
  rw [Tryz.params3] at hA hval
  obtain ⟨v0, v1, d0, d1, p0, p1, rfl, rfl, rfl, h0, h1⟩ := trodAll_two hA
  obtain ⟨rfl, rfl⟩ := trodVars_none hV
  obtain ⟨str, rfl, rfl, rfl, hlen⟩ := open_string u9 (hval 0 9 v0 rfl rfl) h0
  obtain ⟨z, rfl, rfl, rfl, wz⟩ := open_int u5 (hval 1 5 v1 rfl rfl) h1
  clear hA0 hval0
  simp only [List.append_nil] at hW'
  have hz : 0 ≤ z ∧ z ≤ 255 := by
    simp only [Lit.wf, Bool.and_eq_true, decide_eq_true_eq] at wz
    have h1 : IntKind.u8.min = 0 := rfl
    have h2 : IntKind.u8.max = 255 := rfl
    rw [h1, h2] at wz
    exact wz
  obtain ⟨n, hn⟩ := names_call (s := str.data.toList) hz.1 hz.2
  have hread : Rs noInj W (fun _ => False) [.str str.data.toList, .int .u8 z] (#[Value.string str, .int .u8 z]).toList := by
    simp only [Rs, R]
    refine ⟨_, _, rfl, ?_, _, _, rfl, rfl, rfl⟩
    obtain ⟨⟨l⟩⟩ := str
    rfl
  have hrun := call_ok validF ovokF n 3 _ _ hn (fun _ => False) W #[.string str, .int .u8 z] (fun _ h => h.elim) (glob_of_laid hL) hread
  have hfn : Ef.fn 3 = some { code := namesC, ntmps := 43, results := [.tmp 4], pure := true, dual := false } := by rw [overF.fn]; exact fn3
  have hcf := callFunc_run validF hfn #[.string str, .int .u8 z] W
  have hcalls : Calls Tryz.prog 3 #[.string str, .int .u8 z] W (Ret fun v w' => Go.RowKit.Below W.heap.size W w' ∧ R noInj w' (fun _ => False) (.bool true) v) := by
    rcases hrun with ⟨v, w', h1, _⟩ | ⟨f, args, w1, h1, h2⟩ | ⟨l, f, tmps, assign, body, w1, h1, _⟩
    · rw [hcf] at h1; cases h1
    · rw [hcf] at h1; cases h1; exact callsIn_wide.1 h2
    · rw [hcf] at h1; cases h1
  refine hcalls.mono fun e W' he => ?_
  cases e with
  | panicked _ => exact he.elim
  | outgrown => exact he.elim
  | returned v =>
    obtain ⟨hb, hv⟩ := he
    simp only [R] at hv
    subst hv
    exact ⟨_, rfl, post_of_below (pa := []) (pv := []) hW' (fun _ _ _ => trodAll_mk1 (shut_bool u4 _)) (fun sp _ => trodAll_mk2 (shut_string u9 hlen) (shut_int u5 wz)) (fun _ _ => rfl) rfl hb (ok_one (by kernel_rfl) rfl (okWide_bool_mk u4 _))⟩

theorem names_holds : Rows.AssemblyNamesSaid :=
  OpenClaim.holds_of_wide 3 Tryz.f3 rfl rfl rfl rfl rfl rfl rfl ⟨rfl, rfl, rfl, rfl, rfl⟩ rfl rfl rfl rfl rfl (by kernel_rfl) Tryz.func3 (by kernel_rfl)
    (of_decide_eq_true (by kernel_rfl)) (by unfold Func.isWrapper; first | (rw [if_pos (by decide +kernel)]; kernel_rfl) | (rw [if_neg (by decide +kernel)]; exact ⟨rfl, rfl⟩))
    (fun os started H enc _ => lifted os started H enc)

/-- THE CARD: AssemblyNames answers true for every input -/
theorem names_card : Rows.AssemblyNamesCardSaid :=
  Claim7.holds_tied_plain_at .later [] [.data, .data, .data, .data, .sentinel, .sentinel, .pinned] true (true, "48d16f3963195f0a2fa27b58ca85518ae322699fc31603f12db63fcd785310bd") true
    names_holds (fun _ h => by cases h) (by kernel_rfl) (fun _ h => by cases h) assemblyNames_row_tie rfl ⟨rfl, rfl⟩ (by kernel_rfl) rfl
    (fun f fn hf hfn => by
      obtain rfl : f = 3 := Option.some.inj ((show Tryz.prog.funcNamed "dowel/dowellaw15.AssemblyNames" = some 3 by kernel_rfl).symm.trans hf) |>.symm
      obtain rfl : fn = Tryz.f3 := (Option.some.inj (Tryz.func3.symm.trans hfn)).symm
      exact ⟨by kernel_rfl, fun j t ht => by
        rw [Tryz.params3] at ht
        have hm : t ∈ [9, 5] := by simpa using Array.mem_of_getElem? ht
        have hall : ([9, 5].all fun u => !Tryz.prog.wantsStandIn u) = true := by kernel_rfl
        exact (show Tryz.prog.wantsStandIn t = false by simpa using List.all_eq_true.1 hall t hm)⟩)
    (by kernel_rfl)
#print axioms names_card

end Go.Proofs.YtbaficijlppeoaaGreatDoor
