/- The statements about values: what those with operators share. -/
import Derived.Test.YtijkbinjdgjioaaGreatDoorLawA
namespace Go.Proofs.YtijkbinjdgjioaaGreatDoor
open Go.RowKit Go.Bw Go.Bw.Fl
set_option linter.unusedVariables false
set_option linter.unusedSimpArgs false

theorem okT (t : Bool) : (truthV t).Ok := by cases t <;> exact ⟨by decide, by decide, by decide⟩
def opsL : List (List UInt8) := [[61], [60, 62], [60], [60, 61], [62], [62, 61], [43], [45], [42], [47], []]
theorem ops_r (w : World) : Ret Tryz.prog 16 [] w fun v w' => (∃ g, v = .slice (some ⟨g, 0, none⟩) 11 11 ∧ w.heap.size ≤ g ∧ Blk w' g 9 (opsL.map str)) ∧ Below w.heap.size w w' := by
  have hb := Below.refl w.heap.size w
  refine enter Tryz.func16 rfl rfl rfl ?_
  refine Wc.seq fun _ hK_1 => ?_
  refine Wc.region ?_
  refine Wl.y (y_assign rfl) rfl ?_
  refine Wl.nil ?_
  refine Wq.next hK_1 ?_
  refine Wc.seq fun _ hK_3 => ?_
  refine Wc.region ?_
  refine Wl.litN (sz := 1) (vs := [_, _, _, _, _, _, _, _, _, _, _]) Tryz.underlying30 (by kernel_rfl) rfl rfl rfl rfl rfl rfl ?_
  rintro g_b0 w_b0 hg_b0 hn_b0 hs_b0
  have hz_b0 := hs_b0.size
  have hb := hb.trans (hs_b0.mono hb.size)
  have hB_b0 := hn_b0
  have hl_b0 := hB_b0.lt
  refine Wl.y (y_assign rfl) rfl ?_
  refine Wl.nil ?_
  refine Wq.next hK_3 ?_
  refine Wc.ret ?_
  refine ret1 rfl rfl ?_
  exact ⟨_, rfl, ⟨_, rfl, hg_b0, hB_b0⟩, hb⟩
theorem ok_null : nullV.Ok := ⟨by decide, by decide, by decide⟩
theorem ok_test (op : List UInt8) (x y : Val) : (testV op x y).1.Ok := by
  unfold testV; repeat' split
  all_goals first | exact ok_null | exact okT _
theorem ok_reck (op : List UInt8) (x y : Val) : (reckonV op x y).1.Ok := by
  unfold reckonV; repeat' split
  all_goals first | exact ok_null | skip
  · rename_i h; have := fits_iff.1 h; exact ⟨this.1, this.2, show (0 : Nat) < 18446744073709551616 by decide⟩
  · exact ⟨show (-9223372036854775808 : Int) ≤ 0 by decide, show (0 : Int) ≤ 9223372036854775807 by decide, by show floatV _ _ _ < _; unfold floatV; split; exact fop_lt _ _ _; split; exact fop_lt _ _ _; exact fop_lt _ _ _⟩
theorem fop_canon (b : BinOp) (m n : Nat) : canon (fop b m n) = fop b m n := canon_idem _
theorem right_reck (op : List UInt8) (x y : Val) : rightV (reckonV op x y).1 = true := by
  unfold reckonV; repeat' split
  all_goals first | rfl | skip
  rw [right3 rfl, decide_eq_true_eq]
  refine ⟨rfl, rfl, ?_⟩
  show canon (floatV _ _ _) = floatV _ _ _
  unfold floatV; repeat' split
  all_goals exact fop_canon _ _ _
theorem strs_at {l : List (List UInt8)} {k : Nat} {v : Value} (h : (l.map str)[k]? = some v) : v = str (l.getD k []) := by
  rw [List.getElem?_map] at h
  cases hl : l[k]? with
  | none => rw [hl] at h; cases h
  | some x => rw [hl] at h; cases h; simp [List.getD, hl]
end Go.Proofs.YtijkbinjdgjioaaGreatDoor
