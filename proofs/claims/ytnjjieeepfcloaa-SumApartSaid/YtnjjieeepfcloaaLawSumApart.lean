/-
  'bridleway/bridlewaylaw09.SumApart': for every input it returns true, and every argument reads as it read before. No condition beyond the row's own.
-/
import Derived.Test.YtnjjieeepfcloaaRows
import Derived.Test.YtnjjieeepfcloaaRow
import Derived.Test.YtnjjieeepfcloaaSumC
namespace Go.Proofs.Ytnjjieeepfcloaa.sumApart
open Go.ChangeShapes Go.WideShapes Go.ChangeAt Go.RowKit Go.Bw
open Go.ChangeMaps (open_string shut_string)
set_option linter.unusedVariables false
set_option linter.unusedSimpArgs false

theorem own : ownKnob Try.prog.godebug = none := by kernel_rfl
theorem laidOut : laidOutB Try.prog = true := by kernel_rfl

set_option maxRecDepth 100000 in
theorem lifted (os : Os) (started : os.Started) (H : Type) (enc : TypeId × Value → H) :
    ReturnsInHanded {} Try.checked os 5 .any (Rows.sumApartSpec.pre6 enc Try.prog Try.f5 Rows.sumApartRow.domain false) (Rows.sumApartSpec.post enc Try.prog Try.f5 false true false false) := by
  refine returnsInHanded_of_change_sized (C := Try.checked) own started (by kernel_rfl) Try.func5
    (ChangeSpec.witness6 (enc := enc) (C := Try.checked) false ⟨#[], #[(.int .u64 0), (.int .u64 0), (.slice none 0 0), (.int .u8 0), (.int .u8 0)], []⟩ 8 (by kernel_rfl) (by kernel_rfl) (by kernel_rfl) (by kernel_rfl)) ?_
  intro W base args ds gs before hval0 hW _ hsz0 _
  have hsz : (DataW.weightsEach Try.prog (Try.f5.params.toList ++ Rows.sumApartSpec.plain.varTypes Try.prog) (ds ++ gs)).all (· ≤ reachBytes) = true := hsz0
  clear hsz0
  have hval : ∀ (j : Nat) t v, Try.f5.params[j]? = some t → args[j]? = some v → Value.okWide Try.prog W .any base t v := hval0
  have hW' := hW
  obtain ⟨p, q, hA0, hV, rfl, hfz, hnd⟩ := hW
  have hA : DataW.TrodAll enc Try.prog W 0 (fun _ => true) true Try.f5.params.toList args.toList ds p := hA0
  rw [Try.params5] at hA hval hsz
  obtain ⟨v0, vs0, d0, ds0, p0, q0, hargs, rfl, rfl, h0, r0⟩ := trodAll_cons hA
  obtain ⟨v1, vs1, d1, ds1, p1, q1, rfl, rfl, rfl, h1, r1⟩ := trodAll_cons r0
  obtain ⟨v2, vs2, d2, ds2, p2, q2, rfl, rfl, rfl, h2, r2⟩ := trodAll_cons r1
  obtain ⟨v3, vs3, d3, ds3, p3, q3, rfl, rfl, rfl, h3, r3⟩ := trodAll_cons r2
  obtain ⟨v4, vs4, d4, ds4, p4, q4, rfl, rfl, rfl, h4, r4⟩ := trodAll_cons r3
  obtain ⟨rfl, rfl, rfl⟩ := trodAll_nil r4
  obtain rfl : args = #[v0, v1, v2, v3, v4] := by cases args; simp_all
  obtain ⟨rfl, rfl⟩ := trodVars_none hV
  have lt0 : ∀ x ∈ p0, x.block < W.heap.size := by obtain ⟨m, hm⟩ := h0; exact DataW.trod_lt m _ _ _ hm
  have f0 : Fits Try.prog 23 d0 := fits_of hsz (j := 0) rfl rfl
  have s0 := Sees.of (P := Try.prog) [23] (by kernel_rfl) (by decide) h0
  have o0 := hval 0 23 v0 rfl rfl
  obtain ⟨a0, rfl, e0, _, w0⟩ := open_int Try.underlying23 o0 h0
  have b0 : 0 ≤ a0 ∧ a0 ≤ 18446744073709551615 := by have := bounds_u64 w0; omega
  have lt1 : ∀ x ∈ p1, x.block < W.heap.size := by obtain ⟨m, hm⟩ := h1; exact DataW.trod_lt m _ _ _ hm
  have f1 : Fits Try.prog 23 d1 := fits_of hsz (j := 1) rfl rfl
  have s1 := Sees.of (P := Try.prog) [23] (by kernel_rfl) (by decide) h1
  have o1 := hval 1 23 v1 rfl rfl
  obtain ⟨a1, rfl, e1, _, w1⟩ := open_int Try.underlying23 o1 h1
  have b1 : 0 ≤ a1 ∧ a1 ≤ 18446744073709551615 := by have := bounds_u64 w1; omega
  have lt2 : ∀ x ∈ p2, x.block < W.heap.size := by obtain ⟨m, hm⟩ := h2; exact DataW.trod_lt m _ _ _ hm
  have f2 : Fits Try.prog 22 d2 := fits_of hsz (j := 2) rfl rfl
  have s2 := Sees.of (P := Try.prog) [22, 5] (by kernel_rfl) (by decide) h2
  have o2 := hval 2 22 v2 rfl rfl
  obtain ⟨A2, n2, c2, l2, rfl, hn2, hc2, hl2, hr2⟩ := open_bytes Try.underlying22 Try.underlying5 (by kernel_rfl) (by kernel_rfl) o2 s2 f2
  have lt3 : ∀ x ∈ p3, x.block < W.heap.size := by obtain ⟨m, hm⟩ := h3; exact DataW.trod_lt m _ _ _ hm
  have f3 : Fits Try.prog 5 d3 := fits_of hsz (j := 3) rfl rfl
  have s3 := Sees.of (P := Try.prog) [5] (by kernel_rfl) (by decide) h3
  have o3 := hval 3 5 v3 rfl rfl
  obtain ⟨a3, rfl, e3, _, w3⟩ := open_int Try.underlying5 o3 h3
  have b3 : 0 ≤ a3 ∧ a3 ≤ 255 := by have := bounds_u8 w3; omega
  have lt4 : ∀ x ∈ p4, x.block < W.heap.size := by obtain ⟨m, hm⟩ := h4; exact DataW.trod_lt m _ _ _ hm
  have f4 : Fits Try.prog 5 d4 := fits_of hsz (j := 4) rfl rfl
  have s4 := Sees.of (P := Try.prog) [5] (by kernel_rfl) (by decide) h4
  have o4 := hval 4 5 v4 rfl rfl
  obtain ⟨a4, rfl, e4, _, w4⟩ := open_int Try.underlying5 o4 h4
  have b4 : 0 ≤ a4 ∧ a4 ≤ 255 := by have := bounds_u8 w4; omega
  clear hA0 hval0
  have hwalk : Calls Try.prog 5 #[.int .u64 a0, .int .u64 a1, .slice A2 n2 c2, .int .u8 a3, .int .u8 a4] W fun e w' => ∃ v, e = .returned v ∧ v = .bool true ∧ Below W.heap.size W w' := by have := SumApart_r a0 a1 A2 n2 c2 l2 (UInt8.ofNat a3.toNat) (UInt8.ofNat a4.toNat) W (by omega) hn2 hc2 hr2 (by omega) (by omega) (by omega) (by omega); rw [u8_of a3 w3, u8_of a4 w4] at this; exact this
  refine hwalk.mono fun e W' ⟨v, he, hv, bel⟩ => ?_
  subst he
  subst hv
  exact ⟨_, rfl, _, _, _, [], _, [], hW', trodAll_mk1 (shut_bool Try.underlying4 _), (trodAll_cons_mk (Below.trod laidOut (by kernel_rfl) (of_decide_eq_true (by kernel_rfl)) h0 bel lt0) (trodAll_cons_mk (Below.trod laidOut (by kernel_rfl) (of_decide_eq_true (by kernel_rfl)) h1 bel lt1) (trodAll_cons_mk (Below.trod laidOut (by kernel_rfl) (of_decide_eq_true (by kernel_rfl)) h2 bel lt2) (trodAll_cons_mk (Below.trod laidOut (by kernel_rfl) (of_decide_eq_true (by kernel_rfl)) h3 bel lt3) (trodAll_cons_mk (Below.trod laidOut (by kernel_rfl) (of_decide_eq_true (by kernel_rfl)) h4 bel lt4) trodAll_mk0))))), rfl, bel.frame _, fun h => by cases h⟩

theorem over : Rows.sumApartRow.holds Try.pinned (OpenSpec.ofChange Rows.sumApartSpec) :=
  OpenClaim.holds_of_wide 5 Try.f5 rfl rfl rfl rfl rfl rfl rfl ⟨rfl, rfl, rfl, rfl, rfl⟩ rfl rfl rfl rfl rfl (by kernel_rfl) Try.func5 (by kernel_rfl)
    (of_decide_eq_true (by kernel_rfl)) (by unfold Func.isWrapper; first | (rw [if_pos (by decide +kernel)]; kernel_rfl) | (rw [if_neg (by decide +kernel)]; exact ⟨rfl, rfl⟩))
    (fun os started H enc _ => lifted os started H enc)

/-- the statement -/
theorem proved : Rows.SumApartSaid := over
#print axioms proved
end Go.Proofs.Ytnjjieeepfcloaa.sumApart