/-
  'bridleway/bridlewaylaw04.LogicTurns': for every input it returns true, and every argument reads as it read before. No condition beyond the row's own.
-/
import Derived.Test.YtnjjieeepfcloaaRows
import Derived.Test.YtnjjieeepfcloaaRow
import Derived.Test.YtnjjieeepfcloaaLogicC
namespace Go.Proofs.Ytnjjieeepfcloaa.logicTurns
open Go.ChangeShapes Go.WideShapes Go.ChangeAt Go.RowKit Go.Bw
open Go.ChangeMaps (open_string shut_string)
set_option linter.unusedVariables false
set_option linter.unusedSimpArgs false

theorem own : ownKnob Try.prog.godebug = none := by kernel_rfl
theorem laidOut : laidOutB Try.prog = true := by kernel_rfl

set_option maxRecDepth 100000 in
theorem lifted (os : Os) (started : os.Started) (H : Type) (enc : TypeId × Value → H) :
    ReturnsInHanded {} Try.checked os 9 .any (Rows.logicTurnsSpec.pre6 enc Try.prog Try.f9 Rows.logicTurnsRow.domain false) (Rows.logicTurnsSpec.post enc Try.prog Try.f9 false true false false) := by
  refine returnsInHanded_of_change_sized (C := Try.checked) own started (by kernel_rfl) Try.func9
    (ChangeSpec.witness6 (enc := enc) (C := Try.checked) false ⟨#[], #[(.slice none 0 0)], []⟩ 8 (by kernel_rfl) (by kernel_rfl) (by kernel_rfl) (by kernel_rfl)) ?_
  intro W base args ds gs before hval0 hW _ hsz0 _
  have hsz : (DataW.weightsEach Try.prog (Try.f9.params.toList ++ Rows.logicTurnsSpec.plain.varTypes Try.prog) (ds ++ gs)).all (· ≤ reachBytes) = true := hsz0
  clear hsz0
  have hval : ∀ (j : Nat) t v, Try.f9.params[j]? = some t → args[j]? = some v → Value.okWide Try.prog W .any base t v := hval0
  have hW' := hW
  obtain ⟨p, q, hA0, hV, rfl, hfz, hnd⟩ := hW
  have hA : DataW.TrodAll enc Try.prog W 0 (fun _ => true) true Try.f9.params.toList args.toList ds p := hA0
  rw [Try.params9] at hA hval hsz
  obtain ⟨v0, vs0, d0, ds0, p0, q0, hargs, rfl, rfl, h0, r0⟩ := trodAll_cons hA
  obtain ⟨rfl, rfl, rfl⟩ := trodAll_nil r0
  obtain rfl : args = #[v0] := by cases args; simp_all
  obtain ⟨rfl, rfl⟩ := trodVars_none hV
  have lt0 : ∀ x ∈ p0, x.block < W.heap.size := by obtain ⟨m, hm⟩ := h0; exact DataW.trod_lt m _ _ _ hm
  have f0 : Fits Try.prog 33 d0 := fits_of hsz (j := 0) rfl rfl
  have s0 := Sees.of (P := Try.prog) [33, 3] (by kernel_rfl) (by decide) h0
  have o0 := hval 0 33 v0 rfl rfl
  obtain ⟨A0, n0, c0, l0, rfl, hn0, hc0, hl0, hr0, hw0⟩ := open_ints Try.underlying33 Try.underlying3 (by kernel_rfl) (by kernel_rfl) o0 s0 f0
  clear hA0 hval0
  have hwalk : Calls Try.prog 9 #[.slice A0 n0 c0] W fun e w' => ∃ v, e = .returned v ∧ v = .bool true ∧ Below W.heap.size W w' := LogicTurns_r A0 n0 c0 l0 W (by omega) hc0 hr0
  refine hwalk.mono fun e W' ⟨v, he, hv, bel⟩ => ?_
  subst he
  subst hv
  exact ⟨_, rfl, _, _, _, [], _, [], hW', trodAll_mk1 (shut_bool Try.underlying4 _), (trodAll_cons_mk (Below.trod laidOut (by kernel_rfl) (of_decide_eq_true (by kernel_rfl)) h0 bel lt0) trodAll_mk0), rfl, bel.frame _, fun h => by cases h⟩

theorem over : Rows.logicTurnsRow.holds Try.pinned (OpenSpec.ofChange Rows.logicTurnsSpec) :=
  OpenClaim.holds_of_wide 9 Try.f9 rfl rfl rfl rfl rfl rfl rfl ⟨rfl, rfl, rfl, rfl, rfl⟩ rfl rfl rfl rfl rfl (by kernel_rfl) Try.func9 (by kernel_rfl)
    (of_decide_eq_true (by kernel_rfl)) (by unfold Func.isWrapper; first | (rw [if_pos (by decide +kernel)]; kernel_rfl) | (rw [if_neg (by decide +kernel)]; exact ⟨rfl, rfl⟩))
    (fun os started H enc _ => lifted os started H enc)

/-- the statement -/
theorem proved : Rows.LogicTurnsSaid := over
#print axioms proved
end Go.Proofs.Ytnjjieeepfcloaa.logicTurns