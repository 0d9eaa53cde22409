/- cmp.Or, a whole number against a float. -/
import Derived.Test.YtcljmclolpgdmaaGreatDoorValM
import Derived.Test.YtcljmclolpgdmaaGreatDoorMaps
namespace Go.Proofs.YtcljmclolpgdmaaGreatDoor
open Go.RowKit Go.Bw Go.Bw.Fl
set_option linter.unusedVariables false
set_option linter.unusedSimpArgs false
theorem txt118OrdB : Txt Tryz.prog 118 := ⟨_, Tryz.func118, by kernel_rfl, rfl⟩   -- cmp.Compare[int64]
theorem txt71OrdB : Txt Tryz.prog 71 := ⟨_, Tryz.func71, by kernel_rfl, rfl⟩   -- math.Floor
def i64s (l : List Int) : List Value := l.map (Value.int .i64)
theorem i64s_length (l : List Int) : (i64s l).length = l.length := by simp [i64s]
theorem i64s_get (l : List Int) (k : Nat) (h : k < l.length) : (i64s l)[k]? = some (.int .i64 (l.getD k 0)) := by simp [i64s, List.getD, h]
theorem orI_zero : ∀ (l : List Int), (∀ x ∈ l, x = 0) → orI l = 0
  | [], _ => rfl
  | x :: r, h => by unfold orI; rw [if_pos (h x (by simp))]; exact orI_zero r fun y hy => h y (by simp [hy])
theorem orI_at : ∀ (l : List Int) (k : Nat), k < l.length → (∀ j, j < k → l.getD j 0 = 0) → l.getD k 0 ≠ 0 → orI l = l.getD k 0
  | x :: r, 0, _, _, h => by simp at h; unfold orI; rw [if_neg h]; rfl
  | x :: r, k + 1, hk, h0, h => by
    have hx : x = 0 := by simpa using h0 0 (by omega)
    unfold orI; rw [if_pos hx]
    have := orI_at r k (by simpa using hk) (fun j hj => by simpa using h0 (j + 1) (by omega)) (by simpa using h)
    simpa using this
theorem val_big : val 4890909195324358656 = 9223372036854775808 * (D : Int) := by decide +kernel
theorem val_low : val 14114281232179134464 = -9223372036854775808 * (D : Int) := by decide +kernel
theorem geq_big (b : Nat) : (FloatKind.f64.format.order b 4890909195324358656 == some .gt || FloatKind.f64.format.order b 4890909195324358656 == some .eq) = (!isNan b && decide (9223372036854775808 * (D : Int) ≤ val b)) := by
  show (Ieee.double.order b 4890909195324358656 == some .gt || Ieee.double.order b 4890909195324358656 == some .eq) = _
  rw [gt_val, eq_val, show isNan 4890909195324358656 = false by decide, val_big]
  cases isNan b
  · rw [Bool.eq_iff_iff]; simp only [Bool.not_false, Bool.true_and, Bool.and_true, Bool.or_eq_true, decide_eq_true_eq]; omega
  · rfl
theorem lt_low (b : Nat) : (FloatKind.f64.format.order b 14114281232179134464 == some .lt) = (!isNan b && decide (val b < -9223372036854775808 * (D : Int))) := by
  show (Ieee.double.order b 14114281232179134464 == some .lt) = _
  rw [lt_val, show isNan 14114281232179134464 = false by decide, val_low]
  cases isNan b <;> simp
theorem V_inf : V 9218868437227405312 = 2 ^ 1024 * D := by decide +kernel
theorem fin_of {b : Nat} (hn : isNan b = false) (h0 : ¬ 9223372036854775808 * (D : Int) ≤ val b) (h1 : ¬ val b < -9223372036854775808 * (D : Int)) : rung b < 9218868437227405312 := by
  have h : rung b ≤ 9218868437227405312 := by unfold isNan at hn; unfold rung; simpa using hn
  rcases Nat.lt_or_ge (rung b) 9218868437227405312 with h2 | h2
  · exact h2
  · have e : rung b = 9218868437227405312 := by omega
    have hb : (9223372036854775808 : Int) * (D : Int) < ((2 ^ 1024 * D : Nat) : Int) := by decide +kernel
    exfalso
    cases hg : isNeg b
    · have : val b = ((2 ^ 1024 * D : Nat) : Int) := by unfold val; rw [e, V_inf, hg]; rfl
      omega
    · have : val b = -((2 ^ 1024 * D : Nat) : Int) := by unfold val; rw [e, V_inf, hg]; rfl
      omega
theorem fl_range {b : Nat} (h0 : ¬ 9223372036854775808 * (D : Int) ≤ val b) (h1 : ¬ val b < -9223372036854775808 * (D : Int)) : -9223372036854775808 ≤ flI b ∧ flI b ≤ 9223372036854775807 := by
  obtain ⟨f0, f1⟩ := fl_spec b
  have hD : (0 : Int) < (D : Int) := by have := D_pos; omega
  constructor
  · have : -9223372036854775808 * (D : Int) < (flI b + 1) * (D : Int) := by omega
    have := Int.lt_of_mul_lt_mul_right this (Int.le_of_lt hD); omega
  · have : flI b * (D : Int) < 9223372036854775808 * (D : Int) := by omega
    have := Int.lt_of_mul_lt_mul_right this (Int.le_of_lt hD); omega
theorem ag_big {n : Int} {b : Nat} (hn : n ≤ 9223372036854775807) (h : 9223372036854775808 * (D : Int) ≤ val b) : agI n b = -1 := by
  have hD : (0 : Int) < (D : Int) := by have := D_pos; omega
  have := Int.mul_lt_mul_of_pos_right (show n < 9223372036854775808 by omega) hD
  unfold agI cmpI; rw [if_pos (by omega)]
theorem ag_low {n : Int} {b : Nat} (hn : -9223372036854775808 ≤ n) (h : val b < -9223372036854775808 * (D : Int)) : agI n b = 1 := by
  have hD : (0 : Int) < (D : Int) := by have := D_pos; omega
  have := Int.mul_le_mul_of_nonneg_right hn (Int.le_of_lt hD)
  unfold agI cmpI; rw [if_neg (by omega), if_pos (by omega)]
theorem floor_eq {b : Nat} (hn : isNan b = false) (h : rung b < 9218868437227405312) : (FloatKind.f64.format.order (floorW b) b == some .eq) = decide (val b = flI b * (D : Int)) := by
  obtain ⟨h1, h2, h3, h4⟩ := val_floor h
  show (Ieee.double.order (floorW b) b == some .eq) = _
  rw [eq_val, h1, hn, h2]; simp [eq_comm]
theorem cmp_ag (n : Int) (b : Nat) : (cmpI n (flI b) ≠ 0 → cmpI n (flI b) = agI n b) ∧ (cmpI n (flI b) = 0 → val b = flI b * (D : Int) → cmpI n (flI b) = agI n b) ∧ (cmpI n (flI b) = 0 → val b ≠ flI b * (D : Int) → -1 = agI n b) := by
  obtain ⟨a1, a2, a3, a4⟩ := ag_fl n b
  have h3 : cmpI n (flI b) = 0 ↔ n = flI b := by unfold cmpI; split <;> (try split) <;> omega
  refine ⟨fun h => ?_, fun h e => ?_, fun h e => ?_⟩
  · rcases Int.lt_trichotomy n (flI b) with g | g | g
    · rw [a1 g]; unfold cmpI; rw [if_pos g]
    · exact absurd (h3.2 g) h
    · rw [a2 g]; unfold cmpI; rw [if_neg (by omega), if_pos g]
  · rw [h, a3 (h3.1 h) e]
  · rw [a4 (h3.1 h) e]
theorem tup2 {x y : Int} {t : Bool} (h : x = y) : Value.tuple #[.int .i64 x, .bool t] = Value.tuple #[.int .i64 y, .bool t] := by rw [h]
theorem Against_r (n : Int) (b : Nat) (h0 : -9223372036854775808 ≤ n) (h1 : n ≤ 9223372036854775807) (w : World) : Ret Tryz.prog 115 [.int .i64 n, .float .f64 b] w fun v w' => v = .tuple #[.int .i64 (agV n b), .bool (!isNan b)] ∧ w' = w := by
  refine enter Tryz.func115 rfl rfl rfl ?_
  refine Wc.seq fun _ hK_1 => ?_
  refine Wc.region ?_
  refine Wl.y (y_assign rfl) rfl ?_
  refine Wl.y (y_assign rfl) rfl ?_
  refine Wl.nil ?_
  refine Wq.next hK_1 ?_
  refine Wc.seq fun _ hK_4 => ?_
  refine Wc.block ?_
  refine Wc.seq fun _ hK_5 => ?_
  refine Wc.region ?_
  refine Wl.y (y_move rfl) rfl ?_
  refine Wl.y (y_move rfl) rfl ?_
  refine Wl.y (y_neqf rfl rfl) rfl ?_
  refine Wl.y (y_assign rfl) rfl ?_
  refine Wl.nil ?_
  refine Wq.next hK_5 ?_
  rw [ne_self_f]
  refine Wc.cond rfl (fun c0_10 => ?_) (fun c0_10 => ?_)
  ·
   have c0_10_ := c0_10
   try simp only [decide_eq_true_eq, decide_eq_false_iff_not, beq_iff_eq, beq_eq_false_iff_ne, bne_iff_ne, bne_eq_false_iff_eq, Bool.not_eq_true', Bool.not_eq_false', Bool.not_eq_eq_eq_not, Bool.not_true, Bool.not_false, ne_eq, Int.not_lt, Int.not_le] at c0_10
   refine Wc.seq fun _ hK_11 => ?_
   refine Wc.region ?_
   refine Wl.y (y_assign rfl) rfl ?_
   refine Wl.y (y_assign rfl) rfl ?_
   refine Wl.nil ?_
   refine Wq.next hK_11 ?_
   refine Wc.ret ?_
   refine Wq.block_ret (Wq.then_ret ?_)
   refine ret2 rfl rfl rfl ?_
   exact ⟨_, rfl, by rw [c0_10_]; unfold agV; rw [if_pos c0_10_]; rfl, rfl⟩
  ·
   have c0_10_ := c0_10
   try simp only [decide_eq_true_eq, decide_eq_false_iff_not, beq_iff_eq, beq_eq_false_iff_ne, bne_iff_ne, bne_eq_false_iff_eq, Bool.not_eq_true', Bool.not_eq_false', Bool.not_eq_eq_eq_not, Bool.not_true, Bool.not_false, ne_eq, Int.not_lt, Int.not_le] at c0_10
   have hn : isNan b = false := c0_10_
   refine Wc.seq fun _ hK_14 => ?_
   refine Wc.region ?_
   refine Wl.y (y_move rfl) rfl ?_
   refine Wl.y (y_geqf rfl rfl) rfl ?_
   refine Wl.y (y_assign rfl) rfl ?_
   refine Wl.nil ?_
   refine Wq.next hK_14 ?_
   rw [geq_big]
   refine Wc.cond rfl (fun c1_18 => ?_) (fun c1_18 => ?_)
   ·
    have c1_18_ := c1_18
    try simp only [decide_eq_true_eq, decide_eq_false_iff_not, beq_iff_eq, beq_eq_false_iff_ne, bne_iff_ne, bne_eq_false_iff_eq, Bool.not_eq_true', Bool.not_eq_false', Bool.not_eq_eq_eq_not, Bool.not_true, Bool.not_false, ne_eq, Int.not_lt, Int.not_le] at c1_18
    have hv : 9223372036854775808 * (D : Int) ≤ val b := by have h := c1_18_; rw [hn] at h; simpa using h
    refine Wc.seq fun _ hK_19 => ?_
    refine Wc.region ?_
    refine Wl.y (y_assign rfl) rfl ?_
    refine Wl.y (y_assign rfl) rfl ?_
    refine Wl.nil ?_
    refine Wq.next hK_19 ?_
    refine Wc.ret ?_
    refine Wq.block_ret (Wq.then_ret ?_)
    refine ret2 rfl rfl rfl ?_
    exact ⟨_, rfl, by rw [hn]; unfold agV; rw [if_neg (ne_tt hn), ag_big h1 hv]; rfl, rfl⟩
   ·
    have c1_18_ := c1_18
    try simp only [decide_eq_true_eq, decide_eq_false_iff_not, beq_iff_eq, beq_eq_false_iff_ne, bne_iff_ne, bne_eq_false_iff_eq, Bool.not_eq_true', Bool.not_eq_false', Bool.not_eq_eq_eq_not, Bool.not_true, Bool.not_false, ne_eq, Int.not_lt, Int.not_le] at c1_18
    have hv : ¬ 9223372036854775808 * (D : Int) ≤ val b := by have h := c1_18_; rw [hn] at h; simpa using h
    refine Wc.seq fun _ hK_22 => ?_
    refine Wc.region ?_
    refine Wl.y (y_move rfl) rfl ?_
    refine Wl.y (y_lssf rfl rfl) rfl ?_
    refine Wl.y (y_assign rfl) rfl ?_
    refine Wl.nil ?_
    refine Wq.next hK_22 ?_
    rw [lt_low]
    refine Wc.cond rfl (fun c2_26 => ?_) (fun c2_26 => ?_)
    ·
     have c2_26_ := c2_26
     try simp only [decide_eq_true_eq, decide_eq_false_iff_not, beq_iff_eq, beq_eq_false_iff_ne, bne_iff_ne, bne_eq_false_iff_eq, Bool.not_eq_true', Bool.not_eq_false', Bool.not_eq_eq_eq_not, Bool.not_true, Bool.not_false, ne_eq, Int.not_lt, Int.not_le] at c2_26
     have hv2 : val b < -9223372036854775808 * (D : Int) := by have h := c2_26_; rw [hn] at h; simpa using h
     refine Wc.seq fun _ hK_27 => ?_
     refine Wc.region ?_
     refine Wl.y (y_assign rfl) rfl ?_
     refine Wl.y (y_assign rfl) rfl ?_
     refine Wl.nil ?_
     refine Wq.next hK_27 ?_
     refine Wc.ret ?_
     refine Wq.block_ret (Wq.then_ret ?_)
     refine ret2 rfl rfl rfl ?_
     exact ⟨_, rfl, by rw [hn]; unfold agV; rw [if_neg (ne_tt hn), ag_low h0 hv2]; rfl, rfl⟩
    ·
     have c2_26_ := c2_26
     try simp only [decide_eq_true_eq, decide_eq_false_iff_not, beq_iff_eq, beq_eq_false_iff_ne, bne_iff_ne, bne_eq_false_iff_eq, Bool.not_eq_true', Bool.not_eq_false', Bool.not_eq_eq_eq_not, Bool.not_true, Bool.not_false, ne_eq, Int.not_lt, Int.not_le] at c2_26
     have hv2 : ¬ val b < -9223372036854775808 * (D : Int) := by have h := c2_26_; rw [hn] at h; simpa using h
     have hr := fin_of hn hv hv2
     obtain ⟨r0, r1⟩ := fl_range hv hv2
     refine Wc.skip ?_
     refine Wq.block_normal ?_
     refine Wq.next hK_4 ?_
     refine Wc.seq fun _ hK_30 => ?_
     refine Wc.region ?_
     refine Wl.y (y_move rfl) rfl ?_
     refine Wl.call txt71OrdB rfl rfl (Floor_r b hn _) rfl ?_
     rintro _ w_ ⟨rfl, hw_⟩
     have hw_ := hw_.symm; subst hw_
     refine Wl.y (y_assign rfl) rfl ?_
     refine Wl.nil ?_
     refine Wq.next hK_30 ?_
     refine Wc.seq fun _ hK_34 => ?_
     refine Wc.seq fun _ hK_35 => ?_
     refine Wc.region ?_
     refine Wl.y (y_move rfl) rfl ?_
     refine Wl.y (y_move rfl) rfl ?_
     refine Wl.y (y_f2i (by kernel_rfl) Tryz.underlying2 rfl (f2i64 hr r0 r1)) rfl ?_
     refine Wl.call txt118OrdB rfl rfl (Cmpl_r _ _ _) rfl ?_
     rintro _ w_ ⟨rfl, hw_⟩
     have hw_ := hw_.symm; subst hw_
     refine Wl.y (y_assign rfl) rfl ?_
     refine Wl.nil ?_
     refine Wq.next hK_35 ?_
     refine Wc.seq fun _ hK_41 => ?_
     refine Wc.region ?_
     refine Wl.y (y_move rfl) rfl ?_
     refine Wl.y (y_neqi rfl rfl) rfl ?_
     refine Wl.y (y_move rfl) rfl ?_
     refine Wl.guardF rfl rfl rfl (fun g_45 => ?_) (fun g_45 => ?_)
     ·
      have g_45_ := g_45
      try simp only [decide_eq_true_eq, decide_eq_false_iff_not, beq_iff_eq, beq_eq_false_iff_ne, bne_iff_ne, bne_eq_false_iff_eq, Bool.not_eq_true', Bool.not_eq_false', Bool.not_eq_eq_eq_not, Bool.not_true, Bool.not_false, ne_eq, Int.not_lt, Int.not_le] at g_45
      refine Wl.off' rfl rfl g_45_ rfl rfl ?_
      refine Wl.off' rfl rfl g_45_ rfl rfl ?_
      refine Wl.y (y_pickT rfl g_45_ rfl) rfl ?_
      refine Wl.nil ?_
      refine Wq.next hK_41 ?_
      refine Wc.condT rfl rfl ?_
      refine Wc.seq fun _ hK_47 => ?_
      refine Wc.region ?_
      refine Wl.y (y_move rfl) rfl ?_
      refine Wl.y (y_assign rfl) rfl ?_
      refine Wl.y (y_assign rfl) rfl ?_
      refine Wl.nil ?_
      refine Wq.next hK_47 ?_
      refine Wc.ret ?_
      refine Wq.then_ret ?_
      refine ret2 rfl rfl rfl ?_
      exact ⟨_, rfl, by rw [hn]; unfold agV; rw [if_neg (ne_tt hn)]; exact tup2 ((cmp_ag n b).1 g_45), rfl⟩
     ·
      have g_45_ := g_45
      try simp only [decide_eq_true_eq, decide_eq_false_iff_not, beq_iff_eq, beq_eq_false_iff_ne, bne_iff_ne, bne_eq_false_iff_eq, Bool.not_eq_true', Bool.not_eq_false', Bool.not_eq_eq_eq_not, Bool.not_true, Bool.not_false, ne_eq, Int.not_lt, Int.not_le] at g_45
      refine Wl.y (y_move rfl) rfl ?_
      refine Wl.on' rfl rfl g_45_ ?_
      refine Wl.y (y_move rfl) rfl ?_
      refine Wl.on' rfl rfl g_45_ ?_
      refine Wl.y (y_eqlf rfl rfl) rfl ?_
      refine Wl.y (y_pickF rfl g_45_ rfl) rfl ?_
      refine Wl.nil ?_
      refine Wq.next hK_41 ?_
      rw [floor_eq hn hr]
      refine Wc.cond rfl (fun c3_55 => ?_) (fun c3_55 => ?_)
      ·
       have c3_55_ := c3_55
       try simp only [decide_eq_true_eq, decide_eq_false_iff_not, beq_iff_eq, beq_eq_false_iff_ne, bne_iff_ne, bne_eq_false_iff_eq, Bool.not_eq_true', Bool.not_eq_false', Bool.not_eq_eq_eq_not, Bool.not_true, Bool.not_false, ne_eq, Int.not_lt, Int.not_le] at c3_55
       refine Wc.seq fun _ hK_56 => ?_
       refine Wc.region ?_
       refine Wl.y (y_move rfl) rfl ?_
       refine Wl.y (y_assign rfl) rfl ?_
       refine Wl.y (y_assign rfl) rfl ?_
       refine Wl.nil ?_
       refine Wq.next hK_56 ?_
       refine Wc.ret ?_
       refine Wq.then_ret ?_
       refine ret2 rfl rfl rfl ?_
       exact ⟨_, rfl, by rw [hn]; unfold agV; rw [if_neg (ne_tt hn)]; exact tup2 ((cmp_ag n b).2.1 g_45 c3_55), rfl⟩
      ·
       have c3_55_ := c3_55
       try simp only [decide_eq_true_eq, decide_eq_false_iff_not, beq_iff_eq, beq_eq_false_iff_ne, bne_iff_ne, bne_eq_false_iff_eq, Bool.not_eq_true', Bool.not_eq_false', Bool.not_eq_eq_eq_not, Bool.not_true, Bool.not_false, ne_eq, Int.not_lt, Int.not_le] at c3_55
       refine Wc.skip ?_
       refine Wq.next hK_34 ?_
       refine Wc.seq fun _ hK_60 => ?_
       refine Wc.region ?_
       refine Wl.y (y_assign rfl) rfl ?_
       refine Wl.y (y_assign rfl) rfl ?_
       refine Wl.nil ?_
       refine Wq.next hK_60 ?_
       refine Wc.ret ?_
       refine ret2 rfl rfl rfl ?_
       exact ⟨_, rfl, by rw [hn]; unfold agV; rw [if_neg (ne_tt hn)]; exact tup2 ((cmp_ag n b).2.2 g_45 c3_55), rfl⟩
end Go.Proofs.YtcljmclolpgdmaaGreatDoor
