/-
  'bridleway/bridlewaylaw11.ParseHeads': for every input it returns true, and every argument reads as it read before. No condition beyond the row's own (the listed variables, tied to the program's text).
-/
import Derived.Test.YtjnabgddjogkbaaGreatDoorRows
import Derived.Test.YtjnabgddjogkbaaGreatDoorCards
import Derived.Test.YtjnabgddjogkbaaGreatDoorTie
import Derived.Test.YtjnabgddjogkbaaGreatDoorZRow
import Derived.Test.YtjnabgddjogkbaaGreatDoorZLaidXC
import Derived.Test.YtjnabgddjogkbaaGreatDoorZP9
namespace Go.Proofs.YtjnabgddjogkbaaGreatDoor.parseHeads
open Go.ChangeShapes Go.WideShapes Go.ChangeAt Go.RowKit Go.Bw
open Go.ChangeMaps (open_string shut_string)
set_option linter.unusedVariables false
set_option linter.unusedSimpArgs false

set_option maxRecDepth 100000 in
theorem contract (H : Type) (enc : TypeId × Value → H) (W : World) (base : Nat) (args : Array Value) (ds gs : List (DataW H)) (before : List MemPlace)
    (hval0 : ∀ (j : Nat) t v, Tryz.f5.params[j]? = some t → args[j]? = some v → Value.okWide Tryz.prog W .any base t v)
    (hW : DataW.Whole enc Tryz.prog Tryz.f5.params.toList Rows.parseHeadsSpec.vars false W args.toList ds gs before)
    (hsz0 : (DataW.weightsEach Tryz.prog (Tryz.f5.params.toList ++ (OpenSpec.ofChange Rows.parseHeadsSpec).bare.plain.varTypes Tryz.prog) (ds ++ gs)).all (· ≤ reachBytes) = true)
    (hL : laidMetH Tryz.prog Rows.parseHeadsRow.laid W) :
    Calls Tryz.prog 5 args W fun e W' => ∃ v, e = .returned v ∧ Rows.parseHeadsSpec.post enc Tryz.prog Tryz.f5 false true false false W args v W' := by
  have hLb : Lx W := lb_of hL
  have hsz : (DataW.weightsEach Tryz.prog (Tryz.f5.params.toList ++ Rows.parseHeadsSpec.plain.varTypes Tryz.prog) (ds ++ gs)).all (· ≤ reachBytes) = true := hsz0
  clear hsz0
  have hval : ∀ (j : Nat) t v, Tryz.f5.params[j]? = some t → args[j]? = some v → Value.okWide Tryz.prog W .any base t v := hval0
  have hW' := hW
  obtain ⟨p, q, hA0, hV, rfl, hfz, hnd⟩ := hW
  have hA : DataW.TrodAll enc Tryz.prog W 0 (fun _ => true) true Tryz.f5.params.toList args.toList ds p := hA0
  rw [Tryz.params5] at hA hval hsz
  obtain ⟨v0, vs0, d0, ds0, p0, q0, hargs, rfl, rfl, h0, t0⟩ := trodAll_cons hA
  obtain ⟨v1, vs1, d1, ds1, p1, q1, rfl, rfl, rfl, h1, t1⟩ := trodAll_cons t0
  obtain ⟨v2, vs2, d2, ds2, p2, q2, rfl, rfl, rfl, h2, t2⟩ := trodAll_cons t1
  obtain ⟨rfl, rfl, rfl⟩ := trodAll_nil t2
  obtain rfl : args = #[v0, v1, v2] := by cases args; simp_all
  obtain ⟨rfl, rfl⟩ := trodVars_none hV
  have lt0 : ∀ x ∈ p0, x.block < W.heap.size := by obtain ⟨m, hm⟩ := h0; exact DataW.trod_lt m _ _ _ hm
  have f0 : Fits Tryz.prog 3 d0 := fits_of hsz (j := 0) rfl rfl
  have s0 := Sees.of (P := Tryz.prog) [3] (by as_aux_lemma => kernel_rfl) (by decide) h0
  have o0 := hval 0 3 v0 rfl rfl
  obtain ⟨a0, rfl, e0, _, w0⟩ := open_int Tryz.underlying3 o0 h0
  have b0 : -9223372036854775808 ≤ a0 ∧ a0 ≤ 9223372036854775807 := by have := bounds_i64 w0; omega
  have lt1 : ∀ x ∈ p1, x.block < W.heap.size := by obtain ⟨m, hm⟩ := h1; exact DataW.trod_lt m _ _ _ hm
  have f1 : Fits Tryz.prog 3 d1 := fits_of hsz (j := 1) rfl rfl
  have s1 := Sees.of (P := Tryz.prog) [3] (by as_aux_lemma => kernel_rfl) (by decide) h1
  have o1 := hval 1 3 v1 rfl rfl
  obtain ⟨a1, rfl, e1, _, w1⟩ := open_int Tryz.underlying3 o1 h1
  have b1 : -9223372036854775808 ≤ a1 ∧ a1 ≤ 9223372036854775807 := by have := bounds_i64 w1; omega
  have lt2 : ∀ x ∈ p2, x.block < W.heap.size := by obtain ⟨m, hm⟩ := h2; exact DataW.trod_lt m _ _ _ hm
  have f2 : Fits Tryz.prog 3 d2 := fits_of hsz (j := 2) rfl rfl
  have s2 := Sees.of (P := Tryz.prog) [3] (by as_aux_lemma => kernel_rfl) (by decide) h2
  have o2 := hval 2 3 v2 rfl rfl
  obtain ⟨a2, rfl, e2, _, w2⟩ := open_int Tryz.underlying3 o2 h2
  have b2 : -9223372036854775808 ≤ a2 ∧ a2 ≤ 9223372036854775807 := by have := bounds_i64 w2; omega
  clear hA0 hval0
  have hwalk : Calls Tryz.prog 5 #[.int .i64 a0, .int .i64 a1, .int .i64 a2] W fun e w' => ∃ v, e = .returned v ∧ v = .bool true ∧ Below W.heap.size W w' := Heads_r a0 a1 a2 W hLb
  refine hwalk.mono fun e W' ⟨v, he, hv, bel⟩ => ?_
  subst he
  subst hv
  exact ⟨_, rfl, _, _, _, [], _, [], hW', trodAll_mk1 (shut_bool Tryz.underlying4 _), (trodAll_cons_mk (Below.trod laidOut (by as_aux_lemma => kernel_rfl) (of_decide_eq_true (by as_aux_lemma => kernel_rfl)) h0 bel lt0) (trodAll_cons_mk (Below.trod laidOut (by as_aux_lemma => kernel_rfl) (of_decide_eq_true (by as_aux_lemma => kernel_rfl)) h1 bel lt1) (trodAll_cons_mk (Below.trod laidOut (by as_aux_lemma => kernel_rfl) (of_decide_eq_true (by as_aux_lemma => kernel_rfl)) h2 bel lt2) trodAll_mk0))), rfl, bel.frame _, fun h => by cases h⟩

theorem reads (os : Os) {H : Type} (enc : TypeId × Value → H) : ∃ places, DataW.whole enc Tryz.prog ((laidWorld os).forCall (fun _ _ => 0) ⟨#[], #[(.int .i64 0), (.int .i64 0), (.int .i64 0)], []⟩).memory Tryz.f5.params.toList Rows.parseHeadsSpec.vars false (#[(.int .i64 0), (.int .i64 0), (.int .i64 0)] : Array Value).toList 8 = some ([.lit (.int .i64 0), .lit (.int .i64 0), .lit (.int .i64 0)], [], places) :=
  ⟨[], by kernel_rfl⟩
set_option maxRecDepth 100000 in
theorem lifted (os : Os) (started : os.Started) (H : Type) (enc : TypeId × Value → H) (F : Stop.Interp) :
    ReturnsInHanded {} Tryz.checked os 5 .any ((OpenSpec.ofChange Rows.parseHeadsSpec).preRow enc Tryz.prog Tryz.f5 Rows.parseHeadsRow.domain false Rows.parseHeadsRow.laid) (((OpenSpec.ofChange Rows.parseHeadsSpec).at F).post enc Tryz.prog Tryz.f5 false true false false) := by
  obtain ⟨places, hx⟩ := reads os enc
  refine returnsInHanded_of_row (C := Tryz.checked) (s := OpenSpec.ofChange Rows.parseHeadsSpec) own started (by as_aux_lemma => kernel_rfl) Tryz.func5
    (witness_row_atRef (enc := enc) (C := Tryz.checked) false (laidWorld os) #[(.int .i64 0), (.int .i64 0), (.int .i64 0)] rfl (laidWorld_vars os _) (laidWorld_rest os _) (by as_aux_lemma => kernel_rfl)
      (OpenSpec.preRow_of_cond 8 hx (by as_aux_lemma => kernel_rfl) (fun k hk => by cases hk) (by as_aux_lemma => kernel_rfl) (laidWorld_met os _))) ?_
  intro W base args ds gs before hval hW _ _ hsz hL _ _
  exact contract H enc W base args ds gs before hval hW hsz hL

theorem isIt : Tryz.prog.funcNamed "bridleway/bridlewaylaw11.ParseHeads" = some 5 := by kernel_rfl

set_option maxHeartbeats 4000000 in
theorem closed : joinedFacts Tryz.pinned.checked.prog 5 Tryz.f5 (OpenSpec.ofChange Rows.parseHeadsSpec).bare Rows.parseHeadsRow = true := by
  unfold joinedFacts
  simp only [Bool.and_eq_true]
  and_intros
  all_goals as_aux_lemma => kernel_rfl

theorem inst : Tryz.f5.isInstance Tryz.pinned.checked.prog Rows.parseHeadsRow.origin Rows.parseHeadsRow.targs := of_decide_eq_true (by kernel_rfl)

theorem wrap : Tryz.f5.isWrapper Tryz.pinned.checked.prog Rows.parseHeadsRow.wrapper Rows.parseHeadsRow.mainSum := by unfold Func.isWrapper; first | (rw [if_pos (by decide +kernel)]; kernel_rfl) | (rw [if_neg (by decide +kernel)]; exact ⟨rfl, rfl⟩)

theorem said : Rows.ParseHeadsSaid :=
  OpenClaim.holds_of_cond 5 Tryz.f5 rfl rfl rfl rfl rfl rfl rfl ⟨rfl, rfl, rfl, rfl, rfl⟩ rfl rfl rfl rfl rfl isIt Tryz.func5 closed inst wrap
    (fun os started H enc _ F => by rw [OpenClaim.pre_eq_preRow]; exact lifted os started H enc F)

theorem plain (f : FuncId) (fn : Func) (hf : Tryz.pinned.checked.prog.funcNamed "bridleway/bridlewaylaw11.ParseHeads" = some f) (hfn : Tryz.pinned.checked.prog.funcs[f]? = some fn) :
    true = Tryz.pinned.checked.prog.looks [] ∧ ∀ (j : Nat) t, fn.params[j]? = some t → Tryz.pinned.checked.prog.wantsStandIn t = false := by
  obtain rfl : f = 5 := Option.some.inj ((show Tryz.prog.funcNamed "bridleway/bridlewaylaw11.ParseHeads" = some 5 by as_aux_lemma => kernel_rfl).symm.trans hf) |>.symm
  obtain rfl : fn = Tryz.f5 := (Option.some.inj (Tryz.func5.symm.trans hfn)).symm
  refine ⟨by kernel_rfl, fun j t ht => ?_⟩
  rw [Tryz.params5] at ht
  have hm := Array.mem_of_getElem? ht
  simp only [List.mem_toArray, List.mem_cons, List.not_mem_nil, or_false] at hm
  rcases hm with rfl | rfl | rfl
  · exact (show Tryz.prog.wantsStandIn 3 = false by as_aux_lemma => kernel_rfl)
  · exact (show Tryz.prog.wantsStandIn 3 = false by as_aux_lemma => kernel_rfl)
  · exact (show Tryz.prog.wantsStandIn 3 = false by as_aux_lemma => kernel_rfl)

/-- the statement: the tied card -/
theorem proved : Rows.ParseHeadsCardSaid :=
  Claim7.holds_tied_plain_at .later [] _ _ _ _ said (fun _ h => by cases h) (by as_aux_lemma => kernel_rfl) (fun _ h => by cases h) parseHeads_row_tie rfl ⟨rfl, rfl⟩ (by as_aux_lemma => kernel_rfl) rfl plain (by as_aux_lemma => kernel_rfl)
#print axioms proved
end Go.Proofs.YtjnabgddjogkbaaGreatDoor.parseHeads
