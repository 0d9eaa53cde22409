/-
  'bridleway/bridlewaylaw08.LoadBlanks': for every input it returns true, and every argument reads as it read before. No condition beyond the row's own (the listed variables, tied to the program's text).
-/
import Derived.Test.YtjmlknjbhbfneaaGreatDoorRows
import Derived.Test.YtjmlknjbhbfneaaGreatDoorCards
import Derived.Test.YtjmlknjbhbfneaaGreatDoorTie
import Derived.Test.YtjmlknjbhbfneaaGreatDoorZRow
import Derived.Test.YtjmlknjbhbfneaaGreatDoorZLaidLW
import Derived.Test.YtjmlknjbhbfneaaGreatDoorZLpH
import Derived.Test.YtjmlknjbhbfneaaGreatDoorZGO
namespace Go.Proofs.YtjmlknjbhbfneaaGreatDoor.loadBlanks
open Go.ChangeShapes Go.WideShapes Go.ChangeAt Go.RowKit Go.Bw
open Go.ChangeMaps (open_string shut_string)
set_option linter.unusedVariables false
set_option linter.unusedSimpArgs false

set_option maxRecDepth 100000 in
theorem contract (H : Type) (enc : TypeId × Value → H) (W : World) (base : Nat) (args : Array Value) (ds gs : List (DataW H)) (before : List MemPlace)
    (hval0 : ∀ (j : Nat) t v, Tryz.f5.params[j]? = some t → args[j]? = some v → Value.okWide Tryz.prog W .any base t v)
    (hW : DataW.Whole enc Tryz.prog Tryz.f5.params.toList Rows.loadBlanksSpec.vars false W args.toList ds gs before)
    (hsz0 : (DataW.weightsEach Tryz.prog (Tryz.f5.params.toList ++ (Rows.OpenSpec.upto Rows.loadBlanksSpec).bare.plain.varTypes Tryz.prog) (ds ++ gs)).all (· ≤ reachBytes) = true)
    (hL : laidMetH Tryz.prog Rows.loadBlanksUptoRow.laid W) (hU : Rows.uptoBulkAll (ds ++ gs) ≤ 1048576) :
    Calls Tryz.prog 5 args W fun e W' => ∃ v, e = .returned v ∧ Rows.loadBlanksSpec.post enc Tryz.prog Tryz.f5 false true false false W args v W' := by
  have hLb : Lb W := lb_of hL
  have hsz : (DataW.weightsEach Tryz.prog (Tryz.f5.params.toList ++ Rows.loadBlanksSpec.plain.varTypes Tryz.prog) (ds ++ gs)).all (· ≤ reachBytes) = true := hsz0
  clear hsz0
  have hval : ∀ (j : Nat) t v, Tryz.f5.params[j]? = some t → args[j]? = some v → Value.okWide Tryz.prog W .any base t v := hval0
  have hW' := hW
  obtain ⟨p, q, hA0, hV, rfl, hfz, hnd⟩ := hW
  have hA : DataW.TrodAll enc Tryz.prog W 0 (fun _ => true) true Tryz.f5.params.toList args.toList ds p := hA0
  rw [Tryz.params5] at hA hval hsz
  obtain ⟨v0, vs0, d0, ds0, p0, q0, hargs, rfl, rfl, h0, t0⟩ := trodAll_cons hA
  obtain ⟨v1, vs1, d1, ds1, p1, q1, rfl, rfl, rfl, h1, t1⟩ := trodAll_cons t0
  obtain ⟨rfl, rfl, rfl⟩ := trodAll_nil t1
  obtain rfl : args = #[v0, v1] := by cases args; simp_all
  obtain ⟨rfl, rfl⟩ := trodVars_none hV
  have lt0 : ∀ x ∈ p0, x.block < W.heap.size := by obtain ⟨m, hm⟩ := h0; exact DataW.trod_lt m _ _ _ hm
  have f0 : Fits Tryz.prog 27 d0 := fits_of hsz (j := 0) rfl rfl
  have s0 := Sees.of (P := Tryz.prog) [27, 24, 43, 9, 40, 41, 105, 96, 3, 2, 94, 25, 46, 4] (by as_aux_lemma => kernel_rfl) (by decide) h0
  have o0 := hval 0 27 v0 rfl rfl
  obtain ⟨A0, c0, B0, e0, g0, rfl, hG0, hz0⟩ := open_graph o0 s0 f0
  have lt1 : ∀ x ∈ p1, x.block < W.heap.size := by obtain ⟨m, hm⟩ := h1; exact DataW.trod_lt m _ _ _ hm
  have f1 : Fits Tryz.prog 9 d1 := fits_of hsz (j := 1) rfl rfl
  have s1 := Sees.of (P := Tryz.prog) [9] (by as_aux_lemma => kernel_rfl) (by decide) h1
  have o1 := hval 1 9 v1 rfl rfl
  obtain ⟨x1, rfl, e1, _, _⟩ := open_string Tryz.underlying9 o1 h1
  obtain ⟨l1, rfl⟩ : ∃ l : List UInt8, x1 = ⟨l.toArray⟩ := ⟨x1.data.toList, by simp⟩
  have hb1 : l1.length ≤ 140737488351232 := by rw [e1] at f1; simpa using f1.str
  have hu0 := hU
  simp only [List.append_nil, Rows.uptoBulkAll] at hu0
  clear hA0 hval0
  have hwalk : Calls Tryz.prog 5 #[.agg #[.slice A0 g0.ns.length c0, .slice B0 g0.es.length e0], str l1] W fun e w' => ∃ v, e = .returned v ∧ v = .bool true ∧ Below W.heap.size W w' := LoadBlanks_r _ A0 c0 B0 e0 g0 l1 W hG0 (by omega) (Nat.le_trans hb1 (by decide)) hLb
  refine hwalk.mono fun e W' ⟨v, he, hv, bel⟩ => ?_
  subst he
  subst hv
  exact ⟨_, rfl, _, _, _, [], _, [], hW', trodAll_mk1 (shut_bool Tryz.underlying4 _), (trodAll_cons_mk (Below.trod laidOut (by as_aux_lemma => kernel_rfl) (of_decide_eq_true (by as_aux_lemma => kernel_rfl)) h0 bel lt0) (trodAll_cons_mk (Below.trod laidOut (by as_aux_lemma => kernel_rfl) (of_decide_eq_true (by as_aux_lemma => kernel_rfl)) h1 bel lt1) trodAll_mk0)), rfl, bel.frame _, fun h => by cases h⟩

theorem reads (os : Os) {H : Type} (enc : TypeId × Value → H) : ∃ places, DataW.whole enc Tryz.prog ((laidWorld os).forCall (fun _ _ => 0) ⟨#[], #[(.agg #[(.slice none 0 0), (.slice none 0 0)]), (str [])], []⟩).memory Tryz.f5.params.toList Rows.loadBlanksSpec.vars false (#[(.agg #[(.slice none 0 0), (.slice none 0 0)]), (str [])] : Array Value).toList 8 = some ([.agg [.nil, .nil], .lit (.string [])], [], places) :=
  ⟨[], by kernel_rfl⟩
set_option maxRecDepth 100000 in
theorem lifted (os : Os) (started : os.Started) (H : Type) (enc : TypeId × Value → H) (F : Stop.Interp) :
    ReturnsInHanded {} Tryz.checked os 5 .any ((Rows.OpenSpec.upto Rows.loadBlanksSpec).preRow enc Tryz.prog Tryz.f5 Rows.loadBlanksUptoRow.domain false Rows.loadBlanksUptoRow.laid) (((Rows.OpenSpec.upto Rows.loadBlanksSpec).at F).post enc Tryz.prog Tryz.f5 false true false false) := by
  obtain ⟨places, hx⟩ := reads os enc
  refine returnsInHanded_of_row (C := Tryz.checked) (s := Rows.OpenSpec.upto Rows.loadBlanksSpec) own started (by as_aux_lemma => kernel_rfl) Tryz.func5
    (witness_row_atRef (enc := enc) (C := Tryz.checked) false (laidWorld os) #[(.agg #[(.slice none 0 0), (.slice none 0 0)]), (str [])] rfl (laidWorld_vars os _) (laidWorld_rest os _) (by as_aux_lemma => kernel_rfl)
      (OpenSpec.preRow_of_cond 8 hx (by as_aux_lemma => kernel_rfl) (by intro k hk; cases hk; exact of_decide_eq_true (by as_aux_lemma => kernel_rfl)) (by as_aux_lemma => kernel_rfl) (laidWorld_met os _))) ?_
  intro W base args ds gs before hval hW _ hk hsz hL _ _
  exact contract H enc W base args ds gs before hval hW hsz hL (of_decide_eq_true (hk _ rfl))

theorem isIt : Tryz.prog.funcNamed "bridleway/bridlewaylaw08.LoadBlanks" = some 5 := by kernel_rfl

set_option maxHeartbeats 4000000 in
theorem closed : joinedFacts Tryz.pinned.checked.prog 5 Tryz.f5 (Rows.OpenSpec.upto Rows.loadBlanksSpec).bare Rows.loadBlanksUptoRow = true := by
  unfold joinedFacts
  simp only [Bool.and_eq_true]
  and_intros
  all_goals as_aux_lemma => kernel_rfl

theorem inst : Tryz.f5.isInstance Tryz.pinned.checked.prog Rows.loadBlanksUptoRow.origin Rows.loadBlanksUptoRow.targs := of_decide_eq_true (by kernel_rfl)

theorem wrap : Tryz.f5.isWrapper Tryz.pinned.checked.prog Rows.loadBlanksUptoRow.wrapper Rows.loadBlanksUptoRow.mainSum := by unfold Func.isWrapper; first | (rw [if_pos (by decide +kernel)]; kernel_rfl) | (rw [if_neg (by decide +kernel)]; exact ⟨rfl, rfl⟩)

theorem said : Rows.LoadBlanksUptoSaid :=
  OpenClaim.holds_of_cond 5 Tryz.f5 rfl rfl rfl rfl rfl rfl rfl ⟨rfl, rfl, rfl, rfl, rfl⟩ rfl rfl rfl rfl rfl isIt Tryz.func5 closed inst wrap
    (fun os started H enc _ F => by rw [OpenClaim.pre_eq_preRow]; exact lifted os started H enc F)

theorem plain (f : FuncId) (fn : Func) (hf : Tryz.pinned.checked.prog.funcNamed "bridleway/bridlewaylaw08.LoadBlanks" = some f) (hfn : Tryz.pinned.checked.prog.funcs[f]? = some fn) :
    true = Tryz.pinned.checked.prog.looks [] ∧ ∀ (j : Nat) t, fn.params[j]? = some t → Tryz.pinned.checked.prog.wantsStandIn t = false := by
  obtain rfl : f = 5 := Option.some.inj ((show Tryz.prog.funcNamed "bridleway/bridlewaylaw08.LoadBlanks" = some 5 by as_aux_lemma => kernel_rfl).symm.trans hf) |>.symm
  obtain rfl : fn = Tryz.f5 := (Option.some.inj (Tryz.func5.symm.trans hfn)).symm
  refine ⟨by kernel_rfl, fun j t ht => ?_⟩
  rw [Tryz.params5] at ht
  have hm := Array.mem_of_getElem? ht
  simp only [List.mem_toArray, List.mem_cons, List.not_mem_nil, or_false] at hm
  rcases hm with rfl | rfl
  · exact (show Tryz.prog.wantsStandIn 27 = false by as_aux_lemma => kernel_rfl)
  · exact (show Tryz.prog.wantsStandIn 9 = false by as_aux_lemma => kernel_rfl)

/-- the statement: the tied card -/
theorem proved : Rows.LoadBlanksUptoCardSaid :=
  Claim7.holds_tied_plain_at .later [] _ _ _ _ said (fun _ h => by cases h) (by as_aux_lemma => kernel_rfl) (fun _ h => by cases h) loadBlanksUpto_row_tie rfl ⟨rfl, rfl⟩ (by as_aux_lemma => kernel_rfl) rfl plain (by as_aux_lemma => kernel_rfl)
#print axioms proved
end Go.Proofs.YtjmlknjbhbfneaaGreatDoor.loadBlanks
