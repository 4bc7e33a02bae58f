/-
  meeting.Axes: it ranges over a map and sorts what it found.
-/
import Derived.Test.YtbaficijlppeoaaGreatDoorSort
set_option linter.unusedSimpArgs false
set_option linter.unusedVariables false

namespace Go.Proofs.YtbaficijlppeoaaGreatDoor
open Go Dv
set_option linter.unusedSimpArgs false
set_option linter.unusedVariables false

noncomputable def axC : Code := (match Tryz.f77.body with | some c => c | none => .skip)
theorem fn77 : E0.fn 77 = some { code := axC, ntmps := 70, results := [.tmp 4], pure := true, dual := false } := by kernel_rfl

/-- the first k pieces of a sequence -/
def firsts : Nat → Code → List Code
  | 0, _ => []
  | k + 1, .seq a b => a :: firsts k b
  | _, _ => []
def behind : Nat → Code → Code
  | 0, c => c
  | k + 1, .seq _ b => behind k b
  | _, c => c
theorem seqs_firsts : ∀ (k : Nat) (c : Code), seqs (firsts k c) (behind k c) = c
  | 0, _ => rfl
  | k + 1, .seq a b => by simp only [firsts, behind, seqs, seqs_firsts k b]
  | k + 1, .skip => rfl
  | k + 1, .label _ => rfl
  | k + 1, .region .. => rfl
  | k + 1, .cond .. => rfl
  | k + 1, .block .. => rfl
  | k + 1, .loop .. => rfl
  | k + 1, .exit _ => rfl
  | k + 1, .goto _ => rfl
  | k + 1, .ret => rfl
  | k + 1, .scope _ => rfl
  | k + 1, .refuse _ => rfl
  | k + 1, .rangeFunc .. => rfl

noncomputable def rangeC : Code := (match behind 7 axC with | .seq a _ => a | _ => .skip)
noncomputable def tailC : Code := (match behind 7 axC with | .seq _ b => b | _ => .skip)

section
variable {E : Env} {n : Nat} {row : Nat → List AV}

theorem st_buildSlice1 {ops : List Oper} {dr : Bool} {nid d t tS tE : Nat} {p : String} {af : Array Edge} {ts : List AV} {H : Hp} {pc : Pc} {ic yc : Ic} {x : Operand} {cs : List AV} {iS iE : TyI} {z : List AV}
    (hS : E.ty tS = some iS) (hSu : iS.und = .slice tE) (hE : E.ty tE = some iE) (hz : iE.zero = some z) (hzl : z.length = iE.size) (hpos : 0 < iE.size) (hsm : iE.size ≤ 16777216) (hx : evO ts x = some (.agg cs)) (hc : cs.length = iE.size) :
    stepE E pc ic yc dr ops nid { dst := some d, op := .buildSlice tS 1 #[(0, x)], type := t, pos := p, after := af, guard := none } ts H = some (ts.set d (.hslice nid 0 1 iE.size 1), .sets [(nid, .cells .live cs)]) := by
  obtain ⟨und, isAgg, size, bytes, zero, eqOk⟩ := iS
  simp only at hSu
  subst hSu
  have hp : evP ts [(0, x)] = some [(0, .agg cs)] := by simp [evP, hx]
  have hf : fillE (fun i => some (i * iE.size, iE.size)) (repE z 1) [(0, .agg cs)] = some cs := by
    simp only [fillE, repE, List.append_nil, AV.cells, hc, hzl, Nat.zero_mul, Nat.zero_add, ne_eq, not_true_eq_false, decide_false, Bool.false_or, gt_iff_lt, Nat.lt_irrefl, Bool.or_self, Bool.false_eq_true, if_false, List.take_zero, List.nil_append]
    rw [List.drop_of_length_le (by omega), List.append_nil]
  simp only [stepE, wantedE, opE, hS, hE, hz, hp, putE, if_true]
  rw [if_pos ⟨hzl, hpos, by omega⟩, hf]
  simp only [Option.map_some, Nat.one_mul]

/-- cells that a freezing leaves as they are -/
def atomA : AV → Bool
  | .bool _ | .int .. | .str _ | .nilptr | .vptr .. | .gptr .. | .nilslice | .eslice | .vslice .. | .nilmap | .vmap .. | .nilfunc | .nilIface => true
  | _ => false

theorem fz_atom {H : Hp} {k : Nat} {v : AV} (h : atomA v = true) : fz H (k + 1) v = some (v, []) := by
  cases v <;> simp [atomA] at h <;> simp [fz]

theorem mapO_atom {H : Hp} {k : Nat} : ∀ {l : List AV}, l.all atomA = true → mapO (fz H (k + 1)) l = some (l.map fun v => (v, []))
  | [], _ => rfl
  | v :: l, h => by
    simp only [List.all_cons, Bool.and_eq_true] at h
    simp only [mapO, fz_atom h.1, mapO_atom h.2, List.map_cons]

theorem fz_slice {H : Hp} {b n s kc : Nat} {cs : List AV} (hb : H[b]? = some (.cells .live cs)) (hl : cs.length = n * s) (ha : cs.all atomA = true) : fz H 40 (.hslice b 0 n s kc) = some (.vslice cs n, [b]) := by
  have h1 : (cs.drop 0).take (n * s) = cs := by rw [List.drop_zero, List.take_of_length_le (by omega)]
  have h2 := mapO_atom (H := H) (k := 38) ha
  unfold fz
  simp only [hb]
  have h3 : (decide (BSt.live = BSt.dead) || decide (cs.length < 0 + n * s)) = false := by
    simp; omega
  rw [h3]
  simp only [Bool.false_eq_true, if_false, h1, h2, Option.map_some, List.map_map]
  have e1 : (cs.map ((fun x : AV × List Nat => x.1) ∘ fun v => (v, []))) = cs := by
    rw [show ((fun x : AV × List Nat => x.1) ∘ fun v => (v, [])) = id from rfl, List.map_id]
  have e2 : (cs.map (fun v => (v, ([] : List Nat)))).flatMap (fun x => x.2) = [] := by
    rw [List.flatMap_eq_nil_iff]
    intro x hx
    obtain ⟨y, _, rfl⟩ := List.mem_map.1 hx
    rfl
  rw [e1, e2]
theorem ops_cv {ops rest : List Oper} {c : Code} {ts : List AV} {H : Hp} {J : List AV → Hp → Prop} (h : Ops E ops rest ts H fun ts1 H1 => Cv E c ts1 H1 fun ex ts2 H2 => ex = .normal ∧ J ts2 H2) :
    ∃ n ts1 H1 ts2 H2, opsE E (runP E (evalC E n)) (runI E (evalC E n)) (runY (evalC E n)) ops rest ts H = some (ts1, H1) ∧ evalC E n c ts1 H1 = some (.normal, ts2, H2) ∧ J ts2 H2 := by
  obtain ⟨n, ts1, H1, h1, m, ex, ts2, H2, h2, rfl, h3⟩ := h
  have l1 := evalC_le (E := E) (Nat.le_max_left n m)
  have l2 := evalC_le (E := E) (Nat.le_max_right n m)
  exact ⟨max n m, ts1, H1, ts2, H2, opsE_le (runP_le l1) (runI_le l1) (runY_le l1) h1, l2 _ _ _ _ h2, h3⟩

theorem app_new {H : Hp} {x : Blk} : (Eff.sets [(H.length, x)]).app H = H ++ [x] := by
  simp [Eff.app, putB]
theorem app_new2 {H : Hp} {b : Nat} {x y : Blk} (h : b < H.length) : (Eff.sets [(b, x), (H.length, y)]).app H = H.set b x ++ [y] := by
  simp [Eff.app, putB, h]

/-- what the slices of vectors are made of -/
structure VecTy (E : Env) (iS iE : TyI) (z : List AV) : Prop where
  hS : E.ty 97 = some iS
  hSu : iS.und = .slice 72
  hE : E.ty 72 = some iE
  hag : iE.isAgg = true
  hsz : iE.size = 12
  hz : iE.zero = some z
  hzl : z.length = 12
  hby : iE.bytes ≤ 10000

theorem vecTy {E : Env} (h : Over E) : ∃ iS iE z, VecTy E iS iE z := by
  obtain ⟨i, hi⟩ : ∃ i, E0.ty 97 = some i := Option.isSome_iff_exists.1 (by kernel_rfl)
  obtain ⟨e, he⟩ : ∃ i, E0.ty 72 = some i := Option.isSome_iff_exists.1 (by kernel_rfl)
  have a1 : (E0.ty 97).map (·.und) = some (.slice 72) := by kernel_rfl
  have a2 : (E0.ty 72).map (·.isAgg) = some true := by kernel_rfl
  have a3 : (E0.ty 72).map (·.size) = some 12 := by kernel_rfl
  have a4 : (E0.ty 72).bind (·.zero) |>.map (·.length) |> (· == some 12) := by kernel_rfl
  have a5 : (E0.ty 72).map (fun i => Nat.ble i.bytes 10000) = some true := by kernel_rfl
  rw [hi] at a1
  rw [he] at a2 a3 a4 a5
  simp only [Option.map_some, Option.some.injEq, Option.bind_some, beq_iff_eq] at a1 a2 a3 a4 a5
  cases hz : e.zero with
  | none => rw [hz] at a4; cases a4
  | some z =>
    rw [hz] at a4
    exact ⟨i, e, z, by rw [h.ty]; exact hi, a1, by rw [h.ty]; exact he, a2, a3, hz, by simpa using a4, Nat.le_of_ble_eq_true a5⟩

/-- what stands between the rounds -/
def Inv (row : Nat → List AV) (f : Nat → Nat) (n r : Nat) (is : List Nat) (ts : List AV) (H : Hp) : Prop :=
  ts[58]? = some (.gptr r 0) ∧ ts.length = 70 ∧ (is.Nodup ∧ ∀ j ∈ is, j < n) ∧ ((is = [] ∧ gt ts 14 = .nilslice) ∨ ∃ b, gt ts 14 = .hslice b 0 is.length 12 is.length ∧ H[b]? = some (.cells .live ((is.map f).map row).flatten))

noncomputable def regsOf : Code → Array Oper × Code
  | .seq _ (.block _ (.loop (.seq _ (.seq _ (.block _ (.seq (.region _ o _) c)))))) => (o, c)
  | _ => (#[], .skip)
noncomputable def ops21 : Array Oper := (regsOf rangeC).1
noncomputable def c22 : Code := (regsOf rangeC).2

theorem round_ok {iS iE : TyI} {z : List AV} (T : VecTy E iS iE z) (D : SortData E 12 111 n row) {f : Nat → Nat} {r : Nat} {is : List Nat} {i : Nat} {kk : AV} {ts : List AV} {H : Hp} (hI : Inv row f n r is ts H) (hn : n ≤ 12) (hni : i ∉ is) (hin : i < n) :
    ∃ N ts1 H1 ts2 H2, opsE E (runP E (evalC E N)) (runI E (evalC E N)) (runY (evalC E N)) ops21.toList ops21.toList.tail (((ts.set 59 (.tuple [.bool true, kk, .agg (row (f i))])).set 60 (.bool true)).set 61 (.tuple [kk, .agg (row (f i))])) H = some (ts1, H1) ∧
      evalC E N c22 ts1 H1 = some (.normal, ts2, H2) ∧ Inv row f n r (is ++ [i]) ts2 H2 := by
  obtain ⟨h58, hl, ⟨hnd, hjn⟩, h14⟩ := hI
  have hlt : is.length < 900 := by have := len_le_of_lt hnd hjn; omega
  have hnd2 : (is ++ [i]).Nodup ∧ ∀ j ∈ is ++ [i], j < n := by
    refine ⟨List.nodup_append.2 ⟨hnd, by simp, fun x hx y hy => by simp at hy; subst hy; rintro rfl; exact hni hx⟩, fun j hj => ?_⟩
    rcases List.mem_append.1 hj with hj | hj
    · exact hjn j hj
    · simp at hj; omega
  refine ops_cv ?_
  generalize hts : ((ts.set 59 (.tuple [.bool true, kk, .agg (row (f i))])).set 60 (.bool true)).set 61 (.tuple [kk, .agg (row (f i))]) = ts'
  have hl' : ts'.length = 70 := by subst hts; simp [hl]
  have g61 : gt ts' 61 = .tuple [kk, .agg (row (f i))] := by subst hts; rw [gt_self (by simp [hl])]
  have g14 : gt ts' 14 = gt ts 14 := by subst hts; simp [gt_ne]
  have g58 : ts'[58]? = some (.gptr r 0) := by subst hts; simp [h58]
  clear hts
  have hrl := D.len (f i)
  refine Ops.step (st_extract (by rw [evO_tmp, g61]) rfl) ?_
  simp only [app_nil]
  refine Ops.step (st_alloc (z := .agg z) (by simp [zeroE, T.hE, T.hz, T.hag])) ?_
  rw [app_new]
  refine Ops.step (st_store (u := .hptr H.length 0) (v := .agg (row (f i))) (l := [(H.length, .cells .live (row (f i)))]) (by rw [evO_tmp]; simp [gt_ne, gt_self, hl']) (by rw [evO_tmp]; simp [gt_ne, gt_self, hl', g61]) (by
    simp only [storeE, T.hE, AV.cells, List.getElem?_append_right (Nat.le_refl _), Nat.sub_self, List.getElem?_cons_zero, T.hsz, hrl, T.hzl, D.one]
    simp [spliceL, hrl, T.hzl])) ?_
  rw [app_set (by simp), show (H ++ [Blk.cells .live (AV.agg z).cells]).set H.length (.cells .live (row (f i))) = H ++ [.cells .live (row (f i))] by simp]
  refine Ops.nil ?_
  refine Cv.region ?_
  refine Ops.step (st_move evO_tmp) ?_
  simp only [app_nil]
  refine Ops.step (st_load (u := .hptr H.length 0) (r := .agg (row (f i))) (by rw [evO_tmp]; simp [gt_ne, gt_self, hl']) (by
    simp only [loadE, ptrE, List.getElem?_append_right (Nat.le_refl _), Nat.sub_self, List.getElem?_cons_zero, partE, T.hE, T.hag, T.hsz, hrl]
    simp [hrl, List.take_of_length_le (Nat.le_of_eq hrl)])) ?_
  simp only [app_nil]
  refine Ops.step (st_buildSlice1 (cs := row (f i)) T.hS T.hSu T.hE T.hz (by rw [T.hzl, T.hsz]) (by rw [T.hsz]; omega) (by rw [T.hsz]; omega) (by rw [evO_tmp]; simp [gt_ne, gt_self, hl']) (by rw [T.hsz, hrl])) ?_
  rw [app_new, T.hsz]
  obtain ⟨und97, ag97, sz97, by97, zr97, eq97⟩ := iS
  have hu := T.hSu
  simp only at hu
  subst hu
  have hsrc : ∀ (H' : Hp), srcE (H' ++ [Blk.cells .live (row (f i))]) 12 (.hslice H'.length 0 1 12 1) = some (row (f i)) := by
    intro H'
    simp only [srcE, cellsE, ne_eq, not_true_eq_false, if_false, List.getElem?_append_right (Nat.le_refl _), Nat.sub_self, List.getElem?_cons_zero, hrl]
    simp [List.take_of_length_le (Nat.le_of_eq hrl)]
  have hzn : iE.zero.isNone = false := by rw [T.hz]; rfl
  have h0 : iE.size ≠ 0 := by rw [T.hsz]; omega
  have hby := T.hby
  rcases h14 with ⟨rfl, h14⟩ | ⟨b, h14, hb⟩
  · refine Ops.step (st_builtin (al := [.nilslice, .hslice (H ++ [Blk.cells .live (row (f i))]).length 0 1 12 1]) (r := .hslice (H.length + 2) 0 1 12 1) (l := [(H.length + 2, .cells .live (row (f i)))])
      (by simp [evL, evO_tmp, gt_ne, gt_self, hl', g14, h14]) (by
        rw [builtin_append T.hS rfl (append_nilE T.hS rfl T.hE (n := 1) rfl (by rw [T.hsz]; exact hsrc _) (by omega) h0 (D.one _) hzn (by unfold roomB; omega) (by omega)), T.hsz]
        simp)) ?_
    rw [show H.length + 2 = ((H ++ [Blk.cells .live (row (f i))]) ++ [Blk.cells .live (row (f i))]).length by simp, app_new]
    refine Ops.step (st_assign evO_tmp) ?_
    refine Ops.nil ⟨trivial, ?_, ?_, ?_, .inr ⟨H.length + 2, ?_, ?_⟩⟩
    · simp [g58]
    · simp [hl']
    · exact hnd2
    · simp [gt_ne, gt_self, hl']
    · simp only [app_nil]
      rw [List.getElem?_append_right (by simp)]
      simp
  · have hbl : b < H.length := (List.getElem?_eq_some_iff.1 hb).1
    have hCS := flat_len (rows_len D (is.map f))
    simp only [List.length_map] at hCS
    have hb2 : ((H ++ [Blk.cells .live (row (f i))]) ++ [Blk.cells .live (row (f i))])[b]? = some (.cells .live ((is.map f).map row).flatten) := by
      rw [List.getElem?_append_left (by simp; omega), List.getElem?_append_left hbl, hb]
    refine Ops.step (st_builtin (al := [.hslice b 0 is.length 12 is.length, .hslice (H ++ [Blk.cells .live (row (f i))]).length 0 1 12 1]) (r := .hslice (H.length + 2) 0 (is.length + 1) 12 (is.length + 1))
      (l := [(b, .cells .dead []), (H.length + 2, .cells .live (((is.map f).map row).flatten ++ row (f i)))])
      (by simp [evL, evO_tmp, gt_ne, gt_self, hl', g14, h14]) (by
        have e1 : (is.length + 1) * iE.bytes ≤ roomB := Nat.le_trans (Nat.mul_le_mul (by omega : is.length + 1 ≤ 1000) hby) (by decide)
        have := append_growE (nid := ((H ++ [Blk.cells .live (row (f i))]) ++ [Blk.cells .live (row (f i))]).length) (off := 0) (kc := is.length) T.hS rfl T.hE (n := 1) (x := .hslice (H ++ [Blk.cells .live (row (f i))]).length 0 1 12 1) rfl (by rw [T.hsz]; exact hsrc _) (by omega) h0 (D.one (f i)) hzn e1 (by omega) hb2 (by omega) (by rw [T.hsz]; omega)
        rw [T.hsz] at this
        rw [builtin_append T.hS rfl this, List.drop_zero, List.take_of_length_le (by omega)]
        simp)) ?_
    rw [show H.length + 2 = ((H ++ [Blk.cells .live (row (f i))]) ++ [Blk.cells .live (row (f i))]).length by simp, app_new2 (by simp; omega)]
    refine Ops.step (st_assign evO_tmp) ?_
    refine Ops.nil ⟨trivial, ?_, ?_, ?_, .inr ⟨H.length + 2, ?_, ?_⟩⟩
    · simp [g58]
    · simp [hl']
    · exact hnd2
    · simp [gt_ne, gt_self, hl']
    · simp only [app_nil]
      rw [List.getElem?_append_right (by simp)]
      simp

theorem getD_perm {n : Nat} {sig is : List Nat} (hs : sig.Perm (List.range n)) (hp : is.Perm (List.range sig.length)) : (is.map fun i => (sig[i]?).getD 0).Perm (List.range n) := by
  refine ((hp.map fun i => (sig[i]?).getD 0)).trans (List.Perm.trans (List.Perm.of_eq ?_) hs)
  refine List.ext_getElem (by simp) fun i h1 h2 => ?_
  simp at h1
  simp [h1]

/-- what the part ahead of the range is seen to leave -/
structure Found (E : Env) (n : Nat) (row : Nat → List AV) (args : List AV) : Prop where
  data : SortData E 12 111 n row
  atoms : ∀ p, (row p).all atomA = true
  pos : 0 < n
  few : n ≤ 12
  pre : ∃ (N : Nat) (ts0 : List AV) (H0 : Hp) (m : Nat) (ks : List AV) (sig : List Nat), evalS E N (firsts 7 axC) (args ++ List.replicate 68 undefV) [] = some (ts0, H0) ∧ loadE E H0 187 (gt ts0 5) = some (.hmap m) ∧
    H0[m]? = some (.map .live ks (sig.map fun p => .agg (row p))) ∧ sig.Perm (List.range n) ∧ gt ts0 14 = .nilslice ∧ ts0.length = 70
  lim : ∃ m lim, call E m 144 [.int .u64 n] = some lim ∧ isPure lim = true

theorem axes_good (V : Valid E Tryz.prog) (O : OvOK E Tryz.prog) (hE : Over E) {args : List AV} (hargs : args.length = 2) (F : Found E n row args) :
    Good E Tryz.prog 77 args (.vslice ((List.range n).map row).flatten n) := by
  intro L w vs hlo hg ha
  obtain ⟨N, ts0, H0, m, ks, sig, p1, p2, p3, p4, p5, p6⟩ := F.pre
  have D := F.data
  obtain ⟨iS, iE, z, T⟩ := vecTy hE
  refine Snd.pure V (fi := { code := axC, ntmps := 70, results := [.tmp 4], pure := true, dual := false }) (by rw [hE.fn]; exact fn77) ?_ hlo hg ha
  rw [hargs]
  show Snd E Tryz.prog axC (args ++ List.replicate 68 undefV) [] _
  have hcode : (firsts 7 axC).all (fun x => codeOk E0 x && flat x) = true := by kernel_rfl
  have hco : ∀ c, codeOk E c = codeOk E0 c := by
    intro c
    have : E = { E0 with ov := E.ov, ovI := E.ovI } := by
      obtain ⟨ty, fn, glob, ov, ovI, pairs⟩ := E
      have h1 := hE.fn; have h2 := hE.ty; have h3 := hE.pairs; have h4 := hE.glob
      simp only at h1 h2 h3 h4
      subst h1 h2 h3 h4
      rfl
    rw [this]
    exact codeOk_ov _ _ c
  have hseq := seqs_firsts 7 axC
  rw [← hseq]
  refine Snd.seqs V O p1 (by simp only [hco]; exact hcode) ?_
  show Snd E Tryz.prog (.seq rangeC tailC) ts0 H0 _
  have h187 : ∃ ti, E.ty 187 = some ti ∧ ti.und = .map 39 72 := by
    rw [hE.ty]
    obtain ⟨i, hi⟩ : ∃ i, E0.ty 187 = some i := Option.isSome_iff_exists.1 (by kernel_rfl)
    refine ⟨i, hi, ?_⟩
    have : (E0.ty 187).map (·.und) = some (.map 39 72) := by kernel_rfl
    rw [hi] at this; simpa using this
  obtain ⟨ti, q1, q2⟩ := h187
  let f : Nat → Nat := fun i => (sig[i]?).getD 0
  have hsl : sig.length = n := by rw [p4.length_eq]; simp
  refine Snd.seq ?_
  refine Snd.mapRange V O (s := 58) (dm := 57) (d1 := 59) (d2 := 60) (d3 := 61) (N := 70) (m := m) (ts1 := ts0.set 57 (.hmap m)) (e1 := .sets []) (H1 := H0) (ks := ks) (vs := sig.map fun p => .agg (row p)) (ti := ti) (kt := 39) (et := 72)
    rfl rfl rfl rfl rfl rfl q1 q2 rfl rfl rfl rfl rfl rfl rfl rfl rfl (by decide) (by decide) ?_ ?_ (by decide) (by decide) ?_ rfl ?_ p3 (Inv row f n) ?_ ?_ ?_ ?_
  · rw [hco]; kernel_rfl
  · kernel_rfl
  · exact st_load evO_tmp p2
  · rw [List.getElem?_set_self (by omega)]
  · intro r is ts H hI; exact ⟨hI.1, hI.2.1⟩
  · intro r
    refine ⟨?_, by simp [p6], by simp, .inl ⟨rfl, ?_⟩⟩
    · rw [List.getElem?_set_self (by simp [p6])]
    · rw [gt_ne (by omega), gt_ne (by omega), p5]
  · intro r is i k v ts H h1 h2 h3 h4
    have hv : v = .agg (row (f i)) := by
      rw [List.getElem?_map, Option.map_eq_some_iff] at h3
      obtain ⟨p, hp, rfl⟩ := h3
      show AV.agg (row p) = .agg (row ((sig[i]?).getD 0))
      rw [hp]; rfl
    subst hv
    exact round_ok T D h4 F.few h1 (by have := (List.getElem?_eq_some_iff.1 h3).1; simp at this; omega)
  · intro r is ts H hp hI
    simp only [List.length_map] at hp
    have hpn : (is.map f).Perm (List.range n) := getD_perm p4 hp
    have hil : is.length = n := by have := hpn.length_eq; simpa using this
    obtain ⟨h58, hl, _, h14⟩ := hI
    have hne : is ≠ [] := by intro q; subst q; simp at hil; have := F.pos; omega
    obtain ⟨b, g14, hb⟩ : ∃ b, gt ts 14 = .hslice b 0 is.length 12 is.length ∧ H[b]? = some (.cells .live ((is.map f).map row).flatten) := by
      rcases h14 with h | h
      · exact absurd h.1 hne
      · exact h
    rw [hil] at g14
    obtain ⟨lm, lim, l1, l2⟩ := F.lim
    have hbl : b < H.length := (List.getElem?_eq_some_iff.1 hb).1
    generalize hts : (ts.set 59 (.tuple [.bool false])).set 60 (.bool false) = ts'
    have hl' : ts'.length = 70 := by subst hts; simp [hl]
    have g14' : gt ts' 14 = .hslice b 0 n 12 n := by subst hts; simp [gt_ne, g14]
    clear hts
    refine Snd.of_cv V O ?_ (by rw [hco]; kernel_rfl) (by kernel_rfl)
    refine Cv.seq (Cv.region ?_)
    refine Ops.step (st_move evO_tmp) ?_
    refine Ops.callI (f := 110) (al := [.hslice b 0 n 12 n, .func 111 [] []]) rfl (by simp [evL, evO_tmp, evO_fn, gt_self, hl', g14']) (by rw [hE.fn]; exact fn110) rfl (by rw [hE.ovI]) ?_
    simp only [app_nil]
    refine sort_ok hE D F.few ⟨lm, l1⟩ l2 (fun fi h => ?_) hpn hb fun ts2 => ⟨fun id h => (by cases h), [], rfl, ?_⟩
    · rw [hE.fn] at h
      have : (E0.fn 144).map (·.pure) = some true := by kernel_rfl
      rw [h] at this; simpa using this
    refine Ops.nil ?_
    refine Cv.seq (Cv.region ?_)
    refine Ops.step (st_move evO_tmp) ?_
    refine Ops.step (st_assign evO_tmp) ?_
    refine Ops.nil ?_
    simp only [app_nil]
    refine Cv.ret ⟨fun id h => (by cases h), [.hslice b 0 n 12 n], [b], ?_, ?_⟩
    · show some [gt _ 4] = some [AV.hslice b 0 n 12 n]
      congr 2
      simp [gt_ne, gt_self, hl', g14']
    · have hlen := flat_len (rows_len D (List.range n))
      simp only [List.length_map, List.length_range] at hlen
      have hat : (((List.range n).map row).flatten).all atomA = true := by
        rw [List.all_eq_true]
        intro x hx
        obtain ⟨r, hr, hx⟩ := List.mem_flatten.1 hx
        obtain ⟨p, _, rfl⟩ := List.mem_map.1 hr
        exact List.all_eq_true.1 (F.atoms p) x hx
      have hz := fz_slice (H := H.set b (.cells .live ((List.range n).map row).flatten)) (b := b) (n := n) (s := 12) (kc := n) (List.getElem?_set_self hbl) hlen hat
      show freezeL _ [AV.hslice b 0 n 12 n] = _
      unfold freezeL
      rw [show isPureL [AV.hslice b 0 n 12 n] = false from rfl]
      simp only [Bool.false_eq_true, if_false, mapO, hz, List.map_cons, List.map_nil, List.flatMap_cons, List.flatMap_nil, List.append_nil]

end
end Go.Proofs.YtbaficijlppeoaaGreatDoor

namespace Go.Proofs.YtbaficijlppeoaaGreatDoor
open Go Dv
set_option linter.unusedSimpArgs false
set_option linter.unusedVariables false

def rowOf (tgt : List (List AV)) (p : Nat) : List AV := (tgt[p]?).getD (List.replicate 12 (.bool false))

def chunk : Nat → List AV → List (List AV)
  | 0, _ => []
  | n + 1, cs => cs.take 12 :: chunk n (cs.drop 12)

def rowOk (r : List AV) : Bool := Nat.beq r.length 12 && r.all oneA && isPureL r && r.all atomA

def cmpB (E : Env) (N : Nat) (tgt : List (List AV)) (p q : Nat) : Bool := match call E N 111 [.agg (rowOf tgt p), .agg (rowOf tgt q)] with
  | some (.int .i64 z) => decide (z < 0) == decide (p < q)
  | _ => false

def isNilS : AV → Bool
  | .nilslice => true
  | _ => false

def sigOf (tgt : List (List AV)) (vs : List AV) : List Nat := vs.map fun v => tgt.findIdx fun r => beqA v (.agg r)

def preB (E : Env) (n : Nat) (tgt : List (List AV)) (x : Option (List AV × Hp)) : Bool := match x with
  | some (ts0, H0) => (match loadE E H0 187 (gt ts0 5) with
    | some (.hmap m) => (match H0[m]? with
      | some (.map .live ks vs) => (sigOf tgt vs).isPerm (List.range n) && beqL vs ((sigOf tgt vs).map fun p => .agg (rowOf tgt p))
      | _ => false)
    | _ => false) && isNilS (gt ts0 14) && Nat.beq ts0.length 70
  | none => false

def limB (E : Env) (N n : Nat) : Bool := match call E N 144 [.int .u64 n] with
  | some l => isPure l
  | none => false

noncomputable def foundB (E : Env) (N n : Nat) (tgt : List (List AV)) (args : List AV) : Bool :=
  Nat.beq tgt.length n && tgt.all rowOk && Nat.ble 1 n && Nat.ble n 12 && ((List.range n).all fun p => (List.range n).all fun q => cmpB E N tgt p q) &&
  preB E n tgt (evalS E N (firsts 7 axC) (args ++ List.replicate 68 undefV) []) && limB E N n

theorem found_of {E : Env} (hE : Over E) {N n : Nat} {tgt : List (List AV)} {args : List AV} (h : foundB E N n tgt args = true) : Found E n (rowOf tgt) args := by
  unfold foundB at h
  simp only [Bool.and_eq_true] at h
  obtain ⟨⟨⟨⟨⟨⟨h1, h2⟩, h3⟩, h4⟩, h5⟩, h6⟩, h7⟩ := h
  have hrow : ∀ p, rowOk (rowOf tgt p) = true := by
    intro p
    unfold rowOf
    cases hp : tgt[p]? with
    | none => rfl
    | some r => exact List.all_eq_true.1 h2 r (List.mem_of_getElem? hp)
  have hrow' : ∀ p, (rowOf tgt p).length = 12 ∧ (rowOf tgt p).all oneA = true ∧ isPureL (rowOf tgt p) = true ∧ (rowOf tgt p).all atomA = true := by
    intro p
    have := hrow p
    unfold rowOk at this
    simp only [Bool.and_eq_true] at this
    exact ⟨Nat.eq_of_beq_eq_true this.1.1.1, this.1.1.2, this.1.2, this.2⟩
  refine ⟨⟨fun p => (hrow' p).1, fun p => (hrow' p).2.1, fun p => (hrow' p).2.2.1, fun fi hf => ?_, fun p q hp hq => ?_⟩, fun p => (hrow' p).2.2.2, Nat.le_of_ble_eq_true h3, Nat.le_of_ble_eq_true h4, ?_, ?_⟩
  · rw [hE.fn] at hf
    have : (E0.fn 111).map (·.pure) = some true := by kernel_rfl
    rw [hf] at this; simpa using this
  · have := List.all_eq_true.1 (List.all_eq_true.1 h5 p (List.mem_range.2 hp)) q (List.mem_range.2 hq)
    unfold cmpB at this
    split at this
    · rename_i z hz
      refine ⟨N, z, hz, ?_⟩
      have := beq_iff_eq.1 this
      simpa using this
    · cases this
  · unfold preB at h6
    split at h6
    · rename_i ts0 H0 he
      simp only [Bool.and_eq_true] at h6
      obtain ⟨⟨h61, h62⟩, h63⟩ := h6
      split at h61
      · rename_i m hm
        split at h61
        · rename_i ks vs hb
          simp only [Bool.and_eq_true] at h61
          have hv := beqL_eq _ _ h61.2
          refine ⟨N, ts0, H0, m, ks, sigOf tgt vs, he, hm, ?_, List.isPerm_iff.1 h61.1, ?_, Nat.eq_of_beq_eq_true h63⟩
          · rw [hb]; exact congrArg (fun x => some (Blk.map BSt.live ks x)) hv
          · revert h62; cases gt ts0 14 <;> simp [isNilS]
        · cases h61
      · cases h61
    · cases h6
  · unfold limB at h7
    split at h7
    · rename_i l hl
      exact ⟨N, l, hl, h7⟩
    · cases h7

noncomputable def entB (E : Env) (N : Nat) (e : List AV × AV) : Bool := match e.2 with
  | .vslice cs n => foundB E N n (chunk n cs) e.1 && beqL cs ((List.range n).map (rowOf (chunk n cs))).flatten && Nat.beq e.1.length 2
  | _ => false

noncomputable def layB (E : Env) (N : Nat) (l : Table) : Bool := l.all fun p => Nat.beq p.1 77 && p.2.all (entB E N)

theorem over_upto (T : Dv.Tree) (k : Nat) : Over (E0.upto T k) := ⟨upto_fn, upto_ty, upto_ovI.trans (by simp only [E0]), upto_pairs, upto_glob⟩

theorem axes_layer (V : Valid E0 Tryz.prog) (O : OvOK E0 Tryz.prog) {T : Dv.Tree} {k N : Nat} {l : Table} (hg : AllGood E0 Tryz.prog T k) (h : layB (E0.upto T k) N l = true) :
    ∀ p, p ∈ l → ∀ e, e ∈ p.2 → Good E0 Tryz.prog p.1 e.1 e.2 := by
  intro p hp e he
  have h1 := List.all_eq_true.1 h p hp
  simp only [Bool.and_eq_true] at h1
  have h2 := List.all_eq_true.1 h1.2 e he
  obtain ⟨V', O'⟩ := upto_ok V O hg
  obtain ⟨f, K⟩ := p
  obtain ⟨args, r⟩ := e
  have hf : f = 77 := Nat.eq_of_beq_eq_true h1.1
  subst hf
  unfold entB at h2
  simp only at h2
  split at h2
  · rename_i cs n
    simp only [Bool.and_eq_true] at h2
    obtain ⟨⟨h3, h4⟩, h5⟩ := h2
    have := axes_good V' O' (over_upto T k) (Nat.eq_of_beq_eq_true h5) (found_of (over_upto T k) h3)
    rw [← beqL_eq _ _ h4] at this
    exact good_upto this
  · cases h2
end Go.Proofs.YtbaficijlppeoaaGreatDoor
