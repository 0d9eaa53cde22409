/-
  'bridleway/bridlewaylaw10.LexNumbers': for every input it returns true, and every argument reads as it read before. No condition beyond the row's own (the listed variables, tied to the program's text).
-/
import Derived.Test.YtcljmclolpgdmaaGreatDoorRows
import Derived.Test.YtcljmclolpgdmaaGreatDoorCards
import Derived.Test.YtcljmclolpgdmaaGreatDoorTie
import Derived.Test.YtcljmclolpgdmaaGreatDoorRow
import Derived.Test.YtcljmclolpgdmaaGreatDoorLaidXW
import Derived.Test.YtcljmclolpgdmaaGreatDoorLawN
namespace Go.Proofs.YtcljmclolpgdmaaGreatDoor.lexNumbers
open Go.ChangeShapes Go.WideShapes Go.ChangeAt Go.RowKit Go.Bw
open Go.ChangeMaps (open_string shut_string)
set_option linter.unusedVariables false
set_option linter.unusedSimpArgs false

set_option maxRecDepth 100000 in
theorem contract (H : Type) (enc : TypeId × Value → H) (W : World) (base : Nat) (args : Array Value) (ds gs : List (DataW H)) (before : List MemPlace)
    (hval0 : ∀ (j : Nat) t v, Tryz.f10.params[j]? = some t → args[j]? = some v → Value.okWide Tryz.prog W .any base t v)
    (hW : DataW.Whole enc Tryz.prog Tryz.f10.params.toList Rows.lexNumbersSpec.vars false W args.toList ds gs before)
    (hsz0 : (DataW.weightsEach Tryz.prog (Tryz.f10.params.toList ++ (OpenSpec.ofChange Rows.lexNumbersSpec).bare.plain.varTypes Tryz.prog) (ds ++ gs)).all (· ≤ reachBytes) = true)
    (hL : laidMetH Tryz.prog Rows.lexNumbersRow.laid W) :
    Calls Tryz.prog 10 args W fun e W' => ∃ v, e = .returned v ∧ Rows.lexNumbersSpec.post enc Tryz.prog Tryz.f10 false true false false W args v W' := by
  have hLb : Lx W := lb_of hL
  have hsz : (DataW.weightsEach Tryz.prog (Tryz.f10.params.toList ++ Rows.lexNumbersSpec.plain.varTypes Tryz.prog) (ds ++ gs)).all (· ≤ reachBytes) = true := hsz0
  clear hsz0
  have hval : ∀ (j : Nat) t v, Tryz.f10.params[j]? = some t → args[j]? = some v → Value.okWide Tryz.prog W .any base t v := hval0
  have hW' := hW
  obtain ⟨p, q, hA0, hV, rfl, hfz, hnd⟩ := hW
  have hA : DataW.TrodAll enc Tryz.prog W 0 (fun _ => true) true Tryz.f10.params.toList args.toList ds p := hA0
  rw [Tryz.params10] at hA hval hsz
  obtain ⟨v0, vs0, d0, ds0, p0, q0, hargs, rfl, rfl, h0, t0⟩ := trodAll_cons hA
  obtain ⟨v1, vs1, d1, ds1, p1, q1, rfl, rfl, rfl, h1, t1⟩ := trodAll_cons t0
  obtain ⟨v2, vs2, d2, ds2, p2, q2, rfl, rfl, rfl, h2, t2⟩ := trodAll_cons t1
  obtain ⟨rfl, rfl, rfl⟩ := trodAll_nil t2
  obtain rfl : args = #[v0, v1, v2] := by cases args; simp_all
  obtain ⟨rfl, rfl⟩ := trodVars_none hV
  have lt0 : ∀ x ∈ p0, x.block < W.heap.size := by obtain ⟨m, hm⟩ := h0; exact DataW.trod_lt m _ _ _ hm
  have f0 : Fits Tryz.prog 2 d0 := fits_of hsz (j := 0) rfl rfl
  have s0 := Sees.of (P := Tryz.prog) [2] (by kernel_rfl) (by decide) h0
  have o0 := hval 0 2 v0 rfl rfl
  obtain ⟨a0, rfl, e0, _, w0⟩ := open_int Tryz.underlying2 o0 h0
  have b0 : -9223372036854775808 ≤ a0 ∧ a0 ≤ 9223372036854775807 := by have := bounds_i64 w0; omega
  have lt1 : ∀ x ∈ p1, x.block < W.heap.size := by obtain ⟨m, hm⟩ := h1; exact DataW.trod_lt m _ _ _ hm
  have f1 : Fits Tryz.prog 9 d1 := fits_of hsz (j := 1) rfl rfl
  have s1 := Sees.of (P := Tryz.prog) [9] (by kernel_rfl) (by decide) h1
  have o1 := hval 1 9 v1 rfl rfl
  obtain ⟨x1, rfl, e1, _, _⟩ := open_string Tryz.underlying9 o1 h1
  obtain ⟨l1, rfl⟩ : ∃ l : List UInt8, x1 = ⟨l.toArray⟩ := ⟨x1.data.toList, by simp⟩
  have hb1 : l1.length ≤ 140737488351232 := by rw [e1] at f1; simpa using f1.str
  have lt2 : ∀ x ∈ p2, x.block < W.heap.size := by obtain ⟨m, hm⟩ := h2; exact DataW.trod_lt m _ _ _ hm
  have f2 : Fits Tryz.prog 4 d2 := fits_of hsz (j := 2) rfl rfl
  have s2 := Sees.of (P := Tryz.prog) [4] (by kernel_rfl) (by decide) h2
  have o2 := hval 2 4 v2 rfl rfl
  obtain ⟨b2, rfl, e2⟩ := open_bool Tryz.underlying4 o2 h2
  clear hA0 hval0
  have hwalk : Calls Tryz.prog 10 #[.int .i64 a0, str l1, .bool b2] W fun e w' => ∃ v, e = .returned v ∧ v = .bool true ∧ Below W.heap.size W w' := Numbers_r a0 l1 b2 W hLb (Nat.le_trans hb1 (by decide)) b0.1 b0.2
  refine hwalk.mono fun e W' ⟨v, he, hv, bel⟩ => ?_
  subst he
  subst hv
  exact ⟨_, rfl, _, _, _, [], _, [], hW', trodAll_mk1 (shut_bool Tryz.underlying4 _), (trodAll_cons_mk (Below.trod laidOut (by kernel_rfl) (of_decide_eq_true (by kernel_rfl)) h0 bel lt0) (trodAll_cons_mk (Below.trod laidOut (by kernel_rfl) (of_decide_eq_true (by kernel_rfl)) h1 bel lt1) (trodAll_cons_mk (Below.trod laidOut (by kernel_rfl) (of_decide_eq_true (by kernel_rfl)) h2 bel lt2) trodAll_mk0))), rfl, bel.frame _, fun h => by cases h⟩

theorem reads (os : Os) {H : Type} (enc : TypeId × Value → H) : ∃ places, DataW.whole enc Tryz.prog ((laidWorld os).forCall (fun _ _ => 0) ⟨#[], #[(.int .i64 0), (str []), (.bool false)], []⟩).memory Tryz.f10.params.toList Rows.lexNumbersSpec.vars false (#[(.int .i64 0), (str []), (.bool false)] : Array Value).toList 8 = some ([.lit (.int .i64 0), .lit (.string []), .lit (.bool false)], [], places) :=
  ⟨[], by kernel_rfl⟩
set_option maxRecDepth 100000 in
theorem lifted (os : Os) (started : os.Started) (H : Type) (enc : TypeId × Value → H) (F : Stop.Interp) :
    ReturnsInHanded {} Tryz.checked os 10 .any ((OpenSpec.ofChange Rows.lexNumbersSpec).preRow enc Tryz.prog Tryz.f10 Rows.lexNumbersRow.domain false Rows.lexNumbersRow.laid) (((OpenSpec.ofChange Rows.lexNumbersSpec).at F).post enc Tryz.prog Tryz.f10 false true false false) := by
  obtain ⟨places, hx⟩ := reads os enc
  refine returnsInHanded_of_row (C := Tryz.checked) (s := OpenSpec.ofChange Rows.lexNumbersSpec) own started (by kernel_rfl) Tryz.func10
    (witness_row_atRef (enc := enc) (C := Tryz.checked) false (laidWorld os) #[(.int .i64 0), (str []), (.bool false)] rfl (laidWorld_vars os _) (laidWorld_rest os _) (by kernel_rfl)
      (OpenSpec.preRow_of_cond 8 hx (by kernel_rfl) (fun k hk => by cases hk) (by kernel_rfl) (laidWorld_met os _))) ?_
  intro W base args ds gs before hval hW _ _ hsz hL _ _
  exact contract H enc W base args ds gs before hval hW hsz hL

theorem said : Rows.LexNumbersSaid :=
  OpenClaim.holds_of_cond 10 Tryz.f10 rfl rfl rfl rfl rfl rfl rfl ⟨rfl, rfl, rfl, rfl, rfl⟩ rfl rfl rfl rfl rfl (by kernel_rfl) Tryz.func10 (by kernel_rfl)
    (of_decide_eq_true (by kernel_rfl)) (by unfold Func.isWrapper; first | (rw [if_pos (by decide +kernel)]; kernel_rfl) | (rw [if_neg (by decide +kernel)]; exact ⟨rfl, rfl⟩))
    (fun os started H enc _ F => by rw [OpenClaim.pre_eq_preRow]; exact lifted os started H enc F)

theorem plain (f : FuncId) (fn : Func) (hf : Tryz.pinned.checked.prog.funcNamed "bridleway/bridlewaylaw10.LexNumbers" = some f) (hfn : Tryz.pinned.checked.prog.funcs[f]? = some fn) :
    true = Tryz.pinned.checked.prog.looks [] ∧ ∀ (j : Nat) t, fn.params[j]? = some t → Tryz.pinned.checked.prog.wantsStandIn t = false := by
  obtain rfl : f = 10 := Option.some.inj ((show Tryz.prog.funcNamed "bridleway/bridlewaylaw10.LexNumbers" = some 10 by kernel_rfl).symm.trans hf) |>.symm
  obtain rfl : fn = Tryz.f10 := (Option.some.inj (Tryz.func10.symm.trans hfn)).symm
  refine ⟨by kernel_rfl, fun j t ht => ?_⟩
  rw [Tryz.params10] at ht
  have hm := Array.mem_of_getElem? ht
  simp only [List.mem_toArray, List.mem_cons, List.not_mem_nil, or_false] at hm
  rcases hm with rfl | rfl | rfl
  · exact (show Tryz.prog.wantsStandIn 2 = false by kernel_rfl)
  · exact (show Tryz.prog.wantsStandIn 9 = false by kernel_rfl)
  · exact (show Tryz.prog.wantsStandIn 4 = false by kernel_rfl)

/-- the statement: the tied card -/
theorem proved : Rows.LexNumbersCardSaid :=
  Claim7.holds_tied_plain_at .later [] _ _ _ _ said (fun _ h => by cases h) (by kernel_rfl) (fun _ h => by cases h) lexNumbers_row_tie rfl ⟨rfl, rfl⟩ (by kernel_rfl) rfl plain (by kernel_rfl)
#print axioms proved
end Go.Proofs.YtcljmclolpgdmaaGreatDoor.lexNumbers