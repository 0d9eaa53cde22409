/-
  'bridleway/bridlewaylaw04.LogicTells': for every input it returns true, and every argument reads as it read before. No condition beyond the row's own.
-/
import Derived.Test.YtnjjieeepfcloaaRows
import Derived.Test.YtnjjieeepfcloaaRow
import Derived.Test.YtnjjieeepfcloaaLogicD
namespace Go.Proofs.Ytnjjieeepfcloaa.logicTells
open Go.ChangeShapes Go.WideShapes Go.ChangeAt Go.RowKit Go.Bw
open Go.ChangeMaps (open_string shut_string)
set_option linter.unusedVariables false
set_option linter.unusedSimpArgs false

theorem own : ownKnob Try.prog.godebug = none := by kernel_rfl
theorem laidOut : laidOutB Try.prog = true := by kernel_rfl

set_option maxRecDepth 100000 in
theorem lifted (os : Os) (started : os.Started) (H : Type) (enc : TypeId × Value → H) :
    ReturnsInHanded {} Try.checked os 11 .any (Rows.logicTellsSpec.pre6 enc Try.prog Try.f11 Rows.logicTellsRow.domain false) (Rows.logicTellsSpec.post enc Try.prog Try.f11 false true false false) := by
  refine returnsInHanded_of_change_sized (C := Try.checked) own started (by kernel_rfl) Try.func11
    (ChangeSpec.witness6 (enc := enc) (C := Try.checked) false ⟨#[], #[(.agg #[(.int .i64 0), (.int .i64 0), (.float .f64 0), (str [])]), (.slice none 0 0), (.int .i64 0)], []⟩ 8 (by kernel_rfl) (by kernel_rfl) (by kernel_rfl) (by kernel_rfl)) ?_
  intro W base args ds gs before hval0 hW _ hsz0 _
  have hsz : (DataW.weightsEach Try.prog (Try.f11.params.toList ++ Rows.logicTellsSpec.plain.varTypes Try.prog) (ds ++ gs)).all (· ≤ reachBytes) = true := hsz0
  clear hsz0
  have hval : ∀ (j : Nat) t v, Try.f11.params[j]? = some t → args[j]? = some v → Value.okWide Try.prog W .any base t v := hval0
  have hW' := hW
  obtain ⟨p, q, hA0, hV, rfl, hfz, hnd⟩ := hW
  have hA : DataW.TrodAll enc Try.prog W 0 (fun _ => true) true Try.f11.params.toList args.toList ds p := hA0
  rw [Try.params11] at hA hval hsz
  obtain ⟨v0, vs0, d0, ds0, p0, q0, hargs, rfl, rfl, h0, r0⟩ := trodAll_cons hA
  obtain ⟨v1, vs1, d1, ds1, p1, q1, rfl, rfl, rfl, h1, r1⟩ := trodAll_cons r0
  obtain ⟨v2, vs2, d2, ds2, p2, q2, rfl, rfl, rfl, h2, r2⟩ := trodAll_cons r1
  obtain ⟨rfl, rfl, rfl⟩ := trodAll_nil r2
  obtain rfl : args = #[v0, v1, v2] := by cases args; simp_all
  obtain ⟨rfl, rfl⟩ := trodVars_none hV
  have lt0 : ∀ x ∈ p0, x.block < W.heap.size := by obtain ⟨m, hm⟩ := h0; exact DataW.trod_lt m _ _ _ hm
  have f0 : Fits Try.prog 46 d0 := fits_of hsz (j := 0) rfl rfl
  have s0 := Sees.of (P := Try.prog) [46, 3, 2, 44, 9] (by kernel_rfl) (by decide) h0
  have o0 := hval 0 46 v0 rfl rfl
  obtain ⟨vk0, vn0, vf0, vs0, rfl, wk0, wn0, wf0, ws0⟩ := open_value Try.underlying46 rfl Try.underlying3 Try.underlying2 Try.underlying44 Try.underlying9 rfl (by kernel_rfl) o0 s0 f0
  have lt1 : ∀ x ∈ p1, x.block < W.heap.size := by obtain ⟨m, hm⟩ := h1; exact DataW.trod_lt m _ _ _ hm
  have f1 : Fits Try.prog 33 d1 := fits_of hsz (j := 1) rfl rfl
  have s1 := Sees.of (P := Try.prog) [33, 3] (by kernel_rfl) (by decide) h1
  have o1 := hval 1 33 v1 rfl rfl
  obtain ⟨A1, n1, c1, l1, rfl, hn1, hc1, hl1, hr1, hw1⟩ := open_ints Try.underlying33 Try.underlying3 (by kernel_rfl) (by kernel_rfl) o1 s1 f1
  have lt2 : ∀ x ∈ p2, x.block < W.heap.size := by obtain ⟨m, hm⟩ := h2; exact DataW.trod_lt m _ _ _ hm
  have f2 : Fits Try.prog 3 d2 := fits_of hsz (j := 2) rfl rfl
  have s2 := Sees.of (P := Try.prog) [3] (by kernel_rfl) (by decide) h2
  have o2 := hval 2 3 v2 rfl rfl
  obtain ⟨a2, rfl, e2, _, w2⟩ := open_int Try.underlying3 o2 h2
  have b2 : -9223372036854775808 ≤ a2 ∧ a2 ≤ 9223372036854775807 := by have := bounds_i64 w2; omega
  clear hA0 hval0
  have hwalk : Calls Try.prog 11 #[.agg #[.int .i64 vk0, .int .i64 vn0, .float .f64 vf0, str vs0], .slice A1 n1 c1, .int .i64 a2] W fun e w' => ∃ v, e = .returned v ∧ v = .bool true ∧ Below W.heap.size W w' := LogicTells_r ⟨vk0, vn0, vf0, vs0⟩ A1 n1 c1 l1 a2 W (by omega) hc1 hr1
  refine hwalk.mono fun e W' ⟨v, he, hv, bel⟩ => ?_
  subst he
  subst hv
  exact ⟨_, rfl, _, _, _, [], _, [], hW', trodAll_mk1 (shut_bool Try.underlying4 _), (trodAll_cons_mk (Below.trod laidOut (by kernel_rfl) (of_decide_eq_true (by kernel_rfl)) h0 bel lt0) (trodAll_cons_mk (Below.trod laidOut (by kernel_rfl) (of_decide_eq_true (by kernel_rfl)) h1 bel lt1) (trodAll_cons_mk (Below.trod laidOut (by kernel_rfl) (of_decide_eq_true (by kernel_rfl)) h2 bel lt2) trodAll_mk0))), rfl, bel.frame _, fun h => by cases h⟩

theorem over : Rows.logicTellsRow.holds Try.pinned (OpenSpec.ofChange Rows.logicTellsSpec) :=
  OpenClaim.holds_of_wide 11 Try.f11 rfl rfl rfl rfl rfl rfl rfl ⟨rfl, rfl, rfl, rfl, rfl⟩ rfl rfl rfl rfl rfl (by kernel_rfl) Try.func11 (by kernel_rfl)
    (of_decide_eq_true (by kernel_rfl)) (by unfold Func.isWrapper; first | (rw [if_pos (by decide +kernel)]; kernel_rfl) | (rw [if_neg (by decide +kernel)]; exact ⟨rfl, rfl⟩))
    (fun os started H enc _ => lifted os started H enc)

/-- the statement -/
theorem proved : Rows.LogicTellsSaid := over
#print axioms proved
end Go.Proofs.Ytnjjieeepfcloaa.logicTells