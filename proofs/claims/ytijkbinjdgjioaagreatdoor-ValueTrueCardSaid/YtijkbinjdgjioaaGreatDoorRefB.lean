/- The reference: a whole number against a float, by the calculus. -/
import Derived.Test.YtijkbinjdgjioaaGreatDoorOrdB
import Derived.Test.YtijkbinjdgjioaaGreatDoorRefA
namespace Go.Proofs.YtijkbinjdgjioaaGreatDoor
open Go.RowKit Go.Bw Go.Bw.Fl
set_option linter.unusedVariables false
set_option linter.unusedSimpArgs false
theorem txt118RefB : Txt Tryz.prog 118 := ⟨_, Tryz.func118, by kernel_rfl, rfl⟩   -- bridleway/bridlewayref01.Sign
theorem txt119RefB : Txt Tryz.prog 119 := ⟨_, Tryz.func119, by kernel_rfl, rfl⟩   -- bridleway/bridlewayref01.between
theorem txt94RefB : Txt Tryz.prog 94 := ⟨_, Tryz.func94, by kernel_rfl, rfl⟩   -- bridleway/bridlewayref01.Parts
theorem ag_whole {n x : Int} {b : Nat} (h : val b = x * (D : Int)) : agI n b = cmpI n x := by
  have hD : (0 : Int) < (D : Int) := by have := D_pos; omega
  unfold agI cmpI
  rw [h]
  have e1 : n * (D : Int) < x * (D : Int) ↔ n < x := ⟨fun h => Int.lt_of_mul_lt_mul_right h (Int.le_of_lt hD), fun h => Int.mul_lt_mul_of_pos_right h hD⟩
  have e2 : x * (D : Int) < n * (D : Int) ↔ x < n := ⟨fun h => Int.lt_of_mul_lt_mul_right h (Int.le_of_lt hD), fun h => Int.mul_lt_mul_of_pos_right h hD⟩
  simp only [e1, e2]
theorem V_big : V 4890909195324358656 = 9223372036854775808 * D := by decide +kernel
theorem ag_huge {n : Int} {b : Nat} (h0 : -9223372036854775808 ≤ n) (h1 : n ≤ 9223372036854775807) (h : 4890909195324358656 ≤ rung b) (hx : ¬ (isNeg b = true ∧ rung b = 4890909195324358656)) : agI n b = -(if isNeg b = true then -1 else 1) := by
  have hD := D_pos
  cases hg : isNeg b
  · have : val b = (V (rung b) : Int) := by unfold val; rw [hg]; rfl
    have hv : 9223372036854775808 * D ≤ V (rung b) := by
      rw [← V_big]
      rcases Nat.eq_or_lt_of_le h with e | e
      · rw [← e]; exact Nat.le_refl _
      · exact Nat.le_of_lt (V_lt e)
    rw [ag_big h1 (by rw [this]; omega)]; rfl
  · have : val b = -(V (rung b) : Int) := by unfold val; rw [hg]; rfl
    have hv : 9223372036854775808 * D < V (rung b) := by
      rw [← V_big]
      exact V_lt (by have : rung b ≠ 4890909195324358656 := fun e => hx ⟨hg, e⟩
                     omega)
    rw [ag_low h0 (by rw [this]; omega)]; rfl
theorem val_sg {b : Nat} {x : Nat} (h : V (rung b) = x * D) : val b = (if isNeg b = true then -(x : Int) else (x : Int)) * (D : Int) := by
  unfold val; rw [h]; cases isNeg b <;> simp [Int.neg_mul]
theorem V_od {r : Nat} (h0 : r ≠ 0) {j : Nat} (hj : j ≤ v2 (mant0 r)) (he : 0 ≤ exp0 r + 1074) : V r = od (mant0 r) * 2 ^ (v2 (mant0 r) - j) * 2 ^ (exp0 r + 1074 + j).toNat := by
  obtain ⟨h1, _⟩ := od_spec _ (mant0_ne h0)
  rw [V_mant, Nat.mul_assoc, ← Nat.pow_add, show v2 (mant0 r) - j + (exp0 r + 1074 + (j : Int)).toNat = v2 (mant0 r) + (exp0 r + 1074).toNat by omega, Nat.pow_add, ← Nat.mul_assoc]
  congr 1
theorem whole_law {n : Int} {b : Nat} {j : Nat} (h0 : rung b ≠ 0) (hr : rung b < 4890909195324358656) (hj : j ≤ v2 (mant0 (rung b))) (he : 0 ≤ exp0 (rung b) + (j : Int)) (h10 : -1074 ≤ exp0 (rung b)) :
    od (mant0 (rung b)) * 2 ^ (v2 (mant0 (rung b)) - j) * 2 ^ (exp0 (rung b) + (j : Int)).toNat < 9223372036854775808 ∧
    agI n b = cmpI n (if isNeg b = true then -((od (mant0 (rung b)) * 2 ^ (v2 (mant0 (rung b)) - j) * 2 ^ (exp0 (rung b) + (j : Int)).toNat : Nat) : Int) else ((od (mant0 (rung b)) * 2 ^ (v2 (mant0 (rung b)) - j) * 2 ^ (exp0 (rung b) + (j : Int)).toNat : Nat) : Int)) := by
  have hV := V_od h0 hj (by omega)
  have hV' : V (rung b) = (od (mant0 (rung b)) * 2 ^ (v2 (mant0 (rung b)) - j) * 2 ^ (exp0 (rung b) + (j : Int)).toNat) * D := by
    rw [hV, show (exp0 (rung b) + 1074 + (j : Int)).toNat = (exp0 (rung b) + (j : Int)).toNat + 1074 by omega, Nat.pow_add, ← Nat.mul_assoc, D_pow 1074 rfl]
  refine ⟨?_, ag_whole (val_sg hV')⟩
  have := V_lt hr
  rw [V_big, hV'] at this
  exact Nat.lt_of_mul_lt_mul_right this
def lowB (neg : Bool) (m k : Nat) : Int := if neg = true then -((m / 2 ^ k : Nat) : Int) - 1 else ((m / 2 ^ k : Nat) : Int)
theorem between_law (n : Int) {b m k : Nat} (hV : V (rung b) = m * 2 ^ (1074 - k)) (hk : 1 ≤ k) (hk2 : k ≤ 1074) (ho : m % 2 = 1) : agI n b = if n ≤ lowB (isNeg b) m k then -1 else 1 := by
  have hD : D = 2 ^ k * 2 ^ (1074 - k) := by rw [← Nat.pow_add]; exact (D_pow _ (by omega)).symm
  have h1 : V (rung b) / D = m / 2 ^ k := by rw [hV, hD, Nat.mul_div_mul_right _ _ (Nat.two_pow_pos _)]
  have h2 : V (rung b) % D ≠ 0 := by
    rw [hV, hD, Nat.mul_mod_mul_right, ne_eq, Nat.mul_eq_zero, not_or]
    refine ⟨fun h => ?_, Nat.ne_of_gt (Nat.two_pow_pos _)⟩
    obtain ⟨k', rfl⟩ : ∃ k', k = k' + 1 := ⟨k - 1, by omega⟩
    have : 2 ∣ m := Nat.dvd_trans ⟨2 ^ k', by rw [Nat.pow_succ, Nat.mul_comm]⟩ (Nat.dvd_of_mod_eq_zero h)
    omega
  have hf : flI b = lowB (isNeg b) m k := by
    unfold flI flN lowB; rw [h1]
    cases isNeg b
    · simp
    · simp only [true_and, h2, ne_eq, not_false_eq_true, if_true]; omega
  have hne : val b ≠ flI b * (D : Int) := by
    obtain ⟨hq1, hq2⟩ := fl_spec b
    intro e
    have hdm := Nat.div_add_mod (V (rung b)) D
    unfold val flI flN at e
    rw [h1] at hdm e
    cases hg : isNeg b
    · rw [hg] at e
      simp only [Bool.false_eq_true, false_and, if_false, Nat.add_zero] at e
      rw [← Int.natCast_mul, Int.ofNat_inj, Nat.mul_comm] at e
      omega
    · rw [hg] at e
      simp only [true_and, h2, ne_eq, not_false_eq_true, if_true] at e
      rw [Int.neg_mul, Int.neg_inj, ← Int.natCast_mul, Int.ofNat_inj, Nat.add_mul, Nat.one_mul, Nat.mul_comm] at e
      have := Nat.mod_lt (V (rung b)) D_pos
      omega
  obtain ⟨a1, a2, a3, a4⟩ := ag_fl n b
  rw [← hf]
  rcases Int.lt_trichotomy n (flI b) with g | g | g
  · rw [a1 g, if_pos (by omega)]
  · rw [a4 g hne, if_pos (by omega)]
  · rw [a2 g, if_neg (by omega)]

theorem Sign_r (x y : Int) (w : World) : Ret Tryz.prog 118 [.int .i64 x, .int .i64 y] w fun v w' => v = .int .i64 (cmpI x y) ∧ w' = w := by
  refine enter Tryz.func118 rfl rfl rfl ?_
  refine Wc.seq fun _ hK_1 => ?_
  refine Wc.region ?_
  refine Wl.y (y_assign rfl) rfl ?_
  refine Wl.nil ?_
  refine Wq.next hK_1 ?_
  refine Wc.seq fun _ hK_3 => ?_
  refine Wc.seq fun _ hK_4 => ?_
  refine Wc.region ?_
  refine Wl.y (y_move rfl) rfl ?_
  refine Wl.y (y_move rfl) rfl ?_
  refine Wl.y (y_lssi rfl rfl) rfl ?_
  refine Wl.nil ?_
  refine Wq.next hK_4 ?_
  refine Wc.cond rfl (fun c0_8 => ?_) (fun c0_8 => ?_)
  ·
   have c0_8_ := c0_8
   try simp only [decide_eq_true_eq, decide_eq_false_iff_not, beq_iff_eq, beq_eq_false_iff_ne, bne_iff_ne, bne_eq_false_iff_eq, Bool.not_eq_true', Bool.not_eq_false', Bool.not_eq_eq_eq_not, Bool.not_true, Bool.not_false, ne_eq, Int.not_lt, Int.not_le] at c0_8
   refine Wc.seq fun _ hK_9 => ?_
   refine Wc.region ?_
   refine Wl.y (y_assign rfl) rfl ?_
   refine Wl.nil ?_
   refine Wq.next hK_9 ?_
   refine Wc.ret ?_
   refine Wq.then_ret ?_
   refine ret1 rfl rfl ?_
   exact ⟨_, rfl, int_eq (by unfold cmpI; rw [if_pos c0_8]), rfl⟩
  ·
   have c0_8_ := c0_8
   try simp only [decide_eq_true_eq, decide_eq_false_iff_not, beq_iff_eq, beq_eq_false_iff_ne, bne_iff_ne, bne_eq_false_iff_eq, Bool.not_eq_true', Bool.not_eq_false', Bool.not_eq_eq_eq_not, Bool.not_true, Bool.not_false, ne_eq, Int.not_lt, Int.not_le] at c0_8
   refine Wc.skip ?_
   refine Wq.next hK_3 ?_
   refine Wc.seq fun _ hK_11 => ?_
   refine Wc.seq fun _ hK_12 => ?_
   refine Wc.region ?_
   refine Wl.y (y_move rfl) rfl ?_
   refine Wl.y (y_move rfl) rfl ?_
   refine Wl.y (y_gtri rfl rfl) rfl ?_
   refine Wl.nil ?_
   refine Wq.next hK_12 ?_
   refine Wc.cond rfl (fun c1_16 => ?_) (fun c1_16 => ?_)
   ·
    have c1_16_ := c1_16
    try simp only [decide_eq_true_eq, decide_eq_false_iff_not, beq_iff_eq, beq_eq_false_iff_ne, bne_iff_ne, bne_eq_false_iff_eq, Bool.not_eq_true', Bool.not_eq_false', Bool.not_eq_eq_eq_not, Bool.not_true, Bool.not_false, ne_eq, Int.not_lt, Int.not_le] at c1_16
    refine Wc.seq fun _ hK_17 => ?_
    refine Wc.region ?_
    refine Wl.y (y_assign rfl) rfl ?_
    refine Wl.nil ?_
    refine Wq.next hK_17 ?_
    refine Wc.ret ?_
    refine Wq.then_ret ?_
    refine ret1 rfl rfl ?_
    exact ⟨_, rfl, int_eq (by unfold cmpI; have := c0_8; rw [if_neg (by omega), if_pos c1_16]), rfl⟩
   ·
    have c1_16_ := c1_16
    try simp only [decide_eq_true_eq, decide_eq_false_iff_not, beq_iff_eq, beq_eq_false_iff_ne, bne_iff_ne, bne_eq_false_iff_eq, Bool.not_eq_true', Bool.not_eq_false', Bool.not_eq_eq_eq_not, Bool.not_true, Bool.not_false, ne_eq, Int.not_lt, Int.not_le] at c1_16
    refine Wc.skip ?_
    refine Wq.next hK_11 ?_
    refine Wc.seq fun _ hK_19 => ?_
    refine Wc.region ?_
    refine Wl.y (y_assign rfl) rfl ?_
    refine Wl.nil ?_
    refine Wq.next hK_19 ?_
    refine Wc.ret ?_
    refine ret1 rfl rfl ?_
    exact ⟨_, rfl, int_eq (by unfold cmpI; have := c0_8; have := c1_16; rw [if_neg (by omega), if_neg (by omega)]), rfl⟩
theorem shr_low {m k : Nat} (hm : m < 9007199254740992) (hk : 63 ≤ k) : m / 2 ^ k = 0 := Nat.div_eq_of_lt (Nat.lt_of_lt_of_le hm (Nat.le_trans (by decide : 9007199254740992 ≤ 2 ^ 63) (Nat.pow_le_pow_right (by decide) hk)))
theorem neg_q {q : Nat} (h : q < 9007199254740992) : IntKind.i64.wrap (0 - (q : Int)) = -(q : Int) := by rw [wrap_i64 _ (by omega) (by omega)]; omega
theorem between_r (n : Int) (neg : Bool) (m k : Nat) (hm : m < 9007199254740992) (hk : 1 ≤ k) (hk2 : k ≤ 1074) (w : World) : Ret Tryz.prog 119 [.int .i64 n, .bool neg, .int .i64 (m : Int), .int .i64 (-(k : Int))] w fun v w' => v = .int .i64 (if n ≤ lowB neg m k then -1 else 1) ∧ w' = w := by
  have hq : m / 2 ^ k < 9007199254740992 := Nat.lt_of_le_of_lt (Nat.div_le_self _ _) hm
  unfold lowB
  obtain ⟨q, hqe⟩ : ∃ q : Nat, q = m / 2 ^ k := ⟨_, rfl⟩
  rw [← hqe] at hq ⊢
  refine enter Tryz.func119 rfl rfl rfl ?_
  refine Wc.seq fun _ hK_1 => ?_
  refine Wc.region ?_
  refine Wl.y (y_assign rfl) rfl ?_
  refine Wl.nil ?_
  refine Wq.next hK_1 ?_
  refine Wc.seq fun _ hK_3 => ?_
  refine Wc.region ?_
  refine Wl.y (y_assign rfl) rfl ?_
  refine Wl.nil ?_
  refine Wq.next hK_3 ?_
  refine Wc.seq fun _ hK_5 => ?_
  refine Wc.seq fun _ hK_6 => ?_
  refine Wc.region ?_
  refine Wl.y (y_move rfl) rfl ?_
  refine Wl.y (y_gtri rfl rfl) rfl ?_
  refine Wl.nil ?_
  refine Wq.next hK_6 ?_
  refine Wc.meet (X := Unit) (fun u_ => [(0, .int .i64 n), (1, .bool neg), (9, .int .i64 (q : Int))]) (fun u_ wr => wr = w) (fun _ hM_9 => ?_) ?_
  ·
   refine Wc.cond rfl (fun c0_10 => ?_) (fun c0_10 => ?_)
   ·
    have c0_10_ := c0_10
    try simp only [decide_eq_true_eq, decide_eq_false_iff_not, beq_iff_eq, beq_eq_false_iff_ne, bne_iff_ne, bne_eq_false_iff_eq, Bool.not_eq_true', Bool.not_eq_false', Bool.not_eq_eq_eq_not, Bool.not_true, Bool.not_false, ne_eq, Int.not_lt, Int.not_le] at c0_10
    refine Wc.region ?_
    refine Wl.y (y_move rfl) rfl ?_
    refine Wl.y (y_move rfl) rfl ?_
    have hk62 : k < 63 := by have := c0_10; omega
    refine Wl.y (y_eq (y_negi rfl) (int_eq (show IntKind.i64.wrap (0 - -(k : Int)) = (k : Int) by rw [wrap_i64 _ (by omega) (by omega)]; omega))) rfl ?_
    refine Wl.y (y_eq (y_convi Tryz.underlying3 Tryz.underlying94 rfl) (int_eq (show IntKind.u64.wrap (k : Int) = (k : Int) by rw [wrap_u64 _ (by omega) (by omega)]))) rfl ?_
    refine Wl.y (y_eq (y_shr rfl rfl (by omega) (by show (k : Int) ≤ 64; omega)) (int_eq (show (m : Int) / 2 ^ (k : Int).toNat = ((q : Nat) : Int) by rw [Int.toNat_natCast, hqe, Int.natCast_ediv, Int.natCast_pow]; rfl))) rfl ?_
    refine Wl.y (y_assign rfl) rfl ?_
    refine Wl.nil ?_
    refine Wq.meet hM_9 (()) (Sub.cons' rfl (by first | rfl | exact int_eq (by rw [hqe, shr_low hm (by have := c0_10; omega)]; rfl)) (Sub.cons' rfl (by first | rfl | exact int_eq (by rw [hqe, shr_low hm (by have := c0_10; omega)]; rfl)) (Sub.cons' rfl (by first | rfl | exact int_eq (by rw [hqe, shr_low hm (by have := c0_10; omega)]; rfl)) (Sub.nil)))) ?_
    rfl
   ·
    have c0_10_ := c0_10
    try simp only [decide_eq_true_eq, decide_eq_false_iff_not, beq_iff_eq, beq_eq_false_iff_ne, bne_iff_ne, bne_eq_false_iff_eq, Bool.not_eq_true', Bool.not_eq_false', Bool.not_eq_eq_eq_not, Bool.not_true, Bool.not_false, ne_eq, Int.not_lt, Int.not_le] at c0_10
    refine Wc.skip ?_
    refine Wq.meet hM_9 (()) (Sub.cons' rfl (by first | rfl | exact int_eq (by rw [hqe, shr_low hm (by have := c0_10; omega)]; rfl)) (Sub.cons' rfl (by first | rfl | exact int_eq (by rw [hqe, shr_low hm (by have := c0_10; omega)]; rfl)) (Sub.cons' rfl (by first | rfl | exact int_eq (by rw [hqe, shr_low hm (by have := c0_10; omega)]; rfl)) (Sub.nil)))) ?_
    rfl
  ·
   rintro u_ wr hI_17
   replace hI_17 : wr = w := hI_17
   have hw := hI_17
   show Wq _ _ _ _ [(0, .int .i64 n), (1, .bool neg), (9, .int .i64 (q : Int))] _
   refine Wq.next hK_5 ?_
   refine Wc.seq fun _ hK_18 => ?_
   refine Wc.seq fun _ hK_19 => ?_
   refine Wc.region ?_
   refine Wl.y (y_move rfl) rfl ?_
   refine Wl.nil ?_
   refine Wq.next hK_19 ?_
   refine Wc.cond rfl (fun c1_21 => ?_) (fun c1_21 => ?_)
   ·
    have c1_21_ := c1_21
    try simp only [decide_eq_true_eq, decide_eq_false_iff_not, beq_iff_eq, beq_eq_false_iff_ne, bne_iff_ne, bne_eq_false_iff_eq, Bool.not_eq_true', Bool.not_eq_false', Bool.not_eq_eq_eq_not, Bool.not_true, Bool.not_false, ne_eq, Int.not_lt, Int.not_le] at c1_21
    refine Wc.region ?_
    refine Wl.y (y_move rfl) rfl ?_
    refine Wl.y (y_eq (y_negi rfl) (int_eq (neg_q hq))) rfl ?_
    refine Wl.y (y_subI rfl rfl (by first | omega | (simp; done) | (simp; omega)) (by first | omega | (simp; done) | (simp; omega))) rfl ?_
    refine Wl.y (y_assign rfl) rfl ?_
    refine Wl.nil ?_
    refine Wq.next hK_18 ?_
    refine Wc.seq fun _ hK_26 => ?_
    refine Wc.seq fun _ hK_27 => ?_
    refine Wc.region ?_
    refine Wl.y (y_move rfl) rfl ?_
    refine Wl.y (y_move rfl) rfl ?_
    refine Wl.y (y_leqi rfl rfl) rfl ?_
    refine Wl.nil ?_
    refine Wq.next hK_27 ?_
    refine Wc.cond rfl (fun c2_31 => ?_) (fun c2_31 => ?_)
    ·
     have c2_31_ := c2_31
     try simp only [decide_eq_true_eq, decide_eq_false_iff_not, beq_iff_eq, beq_eq_false_iff_ne, bne_iff_ne, bne_eq_false_iff_eq, Bool.not_eq_true', Bool.not_eq_false', Bool.not_eq_eq_eq_not, Bool.not_true, Bool.not_false, ne_eq, Int.not_lt, Int.not_le] at c2_31
     refine Wc.seq fun _ hK_32 => ?_
     refine Wc.region ?_
     refine Wl.y (y_assign rfl) rfl ?_
     refine Wl.nil ?_
     refine Wq.next hK_32 ?_
     refine Wc.ret ?_
     refine Wq.then_ret ?_
     refine ret1 rfl rfl ?_
     exact ⟨_, rfl, int_eq (by rw [if_pos c1_21_, if_pos c2_31]), hw⟩
    ·
     have c2_31_ := c2_31
     try simp only [decide_eq_true_eq, decide_eq_false_iff_not, beq_iff_eq, beq_eq_false_iff_ne, bne_iff_ne, bne_eq_false_iff_eq, Bool.not_eq_true', Bool.not_eq_false', Bool.not_eq_eq_eq_not, Bool.not_true, Bool.not_false, ne_eq, Int.not_lt, Int.not_le] at c2_31
     refine Wc.skip ?_
     refine Wq.next hK_26 ?_
     refine Wc.seq fun _ hK_34 => ?_
     refine Wc.region ?_
     refine Wl.y (y_assign rfl) rfl ?_
     refine Wl.nil ?_
     refine Wq.next hK_34 ?_
     refine Wc.ret ?_
     refine ret1 rfl rfl ?_
     exact ⟨_, rfl, int_eq (by rw [if_pos c1_21_, if_neg (by have := c2_31; omega)]), hw⟩
   ·
    have c1_21_ := c1_21
    try simp only [decide_eq_true_eq, decide_eq_false_iff_not, beq_iff_eq, beq_eq_false_iff_ne, bne_iff_ne, bne_eq_false_iff_eq, Bool.not_eq_true', Bool.not_eq_false', Bool.not_eq_eq_eq_not, Bool.not_true, Bool.not_false, ne_eq, Int.not_lt, Int.not_le] at c1_21
    refine Wc.skip ?_
    refine Wq.next hK_18 ?_
    refine Wc.seq fun _ hK_36 => ?_
    refine Wc.seq fun _ hK_37 => ?_
    refine Wc.region ?_
    refine Wl.y (y_move rfl) rfl ?_
    refine Wl.y (y_move rfl) rfl ?_
    refine Wl.y (y_leqi rfl rfl) rfl ?_
    refine Wl.nil ?_
    refine Wq.next hK_37 ?_
    refine Wc.cond rfl (fun c2_41 => ?_) (fun c2_41 => ?_)
    ·
     have c2_41_ := c2_41
     try simp only [decide_eq_true_eq, decide_eq_false_iff_not, beq_iff_eq, beq_eq_false_iff_ne, bne_iff_ne, bne_eq_false_iff_eq, Bool.not_eq_true', Bool.not_eq_false', Bool.not_eq_eq_eq_not, Bool.not_true, Bool.not_false, ne_eq, Int.not_lt, Int.not_le] at c2_41
     refine Wc.seq fun _ hK_42 => ?_
     refine Wc.region ?_
     refine Wl.y (y_assign rfl) rfl ?_
     refine Wl.nil ?_
     refine Wq.next hK_42 ?_
     refine Wc.ret ?_
     refine Wq.then_ret ?_
     refine ret1 rfl rfl ?_
     exact ⟨_, rfl, int_eq (by rw [if_neg (ne_tt c1_21_), if_pos c2_41]), hw⟩
    ·
     have c2_41_ := c2_41
     try simp only [decide_eq_true_eq, decide_eq_false_iff_not, beq_iff_eq, beq_eq_false_iff_ne, bne_iff_ne, bne_eq_false_iff_eq, Bool.not_eq_true', Bool.not_eq_false', Bool.not_eq_eq_eq_not, Bool.not_true, Bool.not_false, ne_eq, Int.not_lt, Int.not_le] at c2_41
     refine Wc.skip ?_
     refine Wq.next hK_36 ?_
     refine Wc.seq fun _ hK_44 => ?_
     refine Wc.region ?_
     refine Wl.y (y_assign rfl) rfl ?_
     refine Wl.nil ?_
     refine Wq.next hK_44 ?_
     refine Wc.ret ?_
     refine ret1 rfl rfl ?_
     exact ⟨_, rfl, int_eq (by rw [if_neg (ne_tt c1_21_), if_neg (by have := c2_41; omega)]), hw⟩
def sg (b : Nat) : Int := if isNeg b = true then -1 else 1
theorem shl_eq {m q : Nat} (h : m * 2 ^ q < 9223372036854775808) : IntKind.i64.wrap ((m : Int) * 2 ^ (q : Int).toNat) = ((m * 2 ^ q : Nat) : Int) := by
  rw [Int.toNat_natCast, show (m : Int) * 2 ^ q = ((m * 2 ^ q : Nat) : Int) by rw [Int.natCast_mul, Int.natCast_pow]; rfl, wrap_i64 _ (by omega) (by omega)]
theorem sg_mul (b : Nat) {x : Nat} (h : x < 9223372036854775808) : IntKind.i64.wrap (sg b * (x : Int)) = if isNeg b = true then -(x : Int) else (x : Int) := by
  unfold sg; split
  · rw [wrap_i64 _ (by omega) (by omega)]; omega
  · rw [wrap_i64 _ (by omega) (by omega)]; omega
theorem ag_low63 {n : Int} {b : Nat} (h : b = 14114281232179134464) : agI n b = cmpI n (-9223372036854775808) := by
  refine ag_whole ?_
  subst h; rw [val_low]
theorem ag_zero {n : Int} {b : Nat} (h : rung b = 0) : agI n b = cmpI n 0 := ag_whole (by rw [val_zero.2 h, Int.zero_mul])
theorem eq_nan {b e m : Nat} (he : e = b / 4503599627370496 % 2048) (hm : m = b % 4503599627370496) (h : (e : Int) = 2047) : isNan b = ((m : Int) != 0) := by
  unfold isNan; rw [Bool.eq_iff_iff, decide_eq_true_eq, bne_iff_ne]; omega
theorem ne_nan {b e m : Nat} (he : e = b / 4503599627370496 % 2048) (hm : m = b % 4503599627370496) (h : ¬ (e : Int) = 2047) : isNan b = false := by
  unfold isNan; rw [decide_eq_false_iff_not]; omega
theorem eq_m63 {b e m : Nat} (hb0 : b < 18446744073709551616) (he : e = b / 4503599627370496 % 2048) (hm : m = b % 4503599627370496) (h1 : isNeg b = true) (h2 : (e : Int) = 1086) : decide (b = 14114281232179134464) = ((m : Int) == 0) := by
  unfold isNeg at h1; rw [beq_iff_eq] at h1
  rw [Bool.eq_iff_iff, decide_eq_true_eq, beq_iff_eq]; omega
theorem ne_m63 {b e m : Nat} (he : e = b / 4503599627370496 % 2048) (hm : m = b % 4503599627370496) (h : isNeg b = false ∨ ¬ (e : Int) = 1086) : decide (b = 14114281232179134464) = false := by
  rw [decide_eq_false_iff_not]
  rintro rfl
  rcases h with h | h
  · exact absurd h (by decide)
  · exact h (by rw [he]; decide)
theorem eq_r0 {b e m : Nat} (he : e = b / 4503599627370496 % 2048) (hm : m = b % 4503599627370496) (h : (e : Int) = 0) : decide (rung b = 0) = ((m : Int) == 0) := by
  rw [Bool.eq_iff_iff, decide_eq_true_eq, beq_iff_eq]; unfold rung; omega
theorem ne_r0 {b e m : Nat} (he : e = b / 4503599627370496 % 2048) (hm : m = b % 4503599627370496) (h : ¬ (e : Int) = 0) : decide (rung b = 0) = false := by
  rw [decide_eq_false_iff_not]; unfold rung; omega
theorem neg_sg (b : Nat) : IntKind.i64.wrap (0 - sg b) = -(if isNeg b = true then -1 else 1) := by unfold sg; cases isNeg b <;> decide
theorem of_m63 {b : Nat} (hb0 : b < 18446744073709551616) (h : isNeg b = true ∧ rung b = 4890909195324358656) : b = 14114281232179134464 := by
  obtain ⟨h1, h2⟩ := h; unfold isNeg at h1; rw [beq_iff_eq] at h1; unfold rung at h2; omega
theorem V_k {b j k : Nat} (h0 : rung b ≠ 0) (hj : j = v2 (mant0 (rung b))) (h10 : -1074 ≤ exp0 (rung b)) (hk : exp0 (rung b) + (j : Int) = -(k : Int)) : V (rung b) = od (mant0 (rung b)) * 2 ^ (1074 - k) := by
  rw [V_od h0 (Nat.le_of_eq hj) (by omega), ← hj, Nat.sub_self, Nat.pow_zero, Nat.mul_one]
  congr 2; omega
theorem mod_even {x : Nat} (h : ¬ (x : Int).tmod 2 = 1) : (x : Int).tmod 2 = 0 := by rw [Int.tmod_eq_emod_of_nonneg (by omega)] at h ⊢; omega
theorem RAgainst_r (n : Int) (b : Nat) (hb0 : b < 18446744073709551616) (h0 : -9223372036854775808 ≤ n) (h1 : n ≤ 9223372036854775807) (w : World) : Ret Tryz.prog 80 [.int .i64 n, .float .f64 b] w fun v w' => v = .tuple #[.int .i64 (agV n b), .bool (!isNan b)] ∧ w' = w := by
  refine enter Tryz.func80 rfl rfl rfl ?_
  refine Wc.seq fun _ hK_1 => ?_
  refine Wc.region ?_
  refine Wl.y (y_assign rfl) rfl ?_
  refine Wl.y (y_assign rfl) rfl ?_
  refine Wl.nil ?_
  refine Wq.next hK_1 ?_
  refine Wc.seq fun _ hK_4 => ?_
  refine Wc.region ?_
  refine Wl.y (y_move rfl) rfl ?_
  refine Wl.call txt94RefB rfl rfl (Parts_r b hb0 _) rfl ?_
  rintro _ w_ ⟨rfl, hw_⟩
  have hw_ := hw_.symm; subst hw_
  refine Wl.y (y_move rfl) rfl ?_
  refine Wl.y (y_extract rfl rfl) rfl ?_
  refine Wl.y (y_extract rfl rfl) rfl ?_
  refine Wl.y (y_extract rfl rfl) rfl ?_
  refine Wl.y (y_assign rfl) rfl ?_
  refine Wl.y (y_assign rfl) rfl ?_
  refine Wl.y (y_assign rfl) rfl ?_
  refine Wl.nil ?_
  refine Wq.next hK_4 ?_
  refine Wc.seq fun _ hK_14 => ?_
  refine Wc.seq fun _ hK_15 => ?_
  obtain ⟨e, he⟩ : ∃ e : Nat, e = b / 4503599627370496 % 2048 := ⟨_, rfl⟩
  obtain ⟨m, hm⟩ : ∃ m : Nat, m = b % 4503599627370496 := ⟨_, rfl⟩
  rw [← he, ← hm]
  refine Wc.meet (X := Unit) (fun u_ => [(0, .int .i64 n), (6, .bool (isNeg b)), (7, .int .i64 (e : Int)), (8, .int .i64 (m : Int)), (22, .bool (isNan b))]) (fun u_ wr => wr = w) (fun _ hM_16 => ?_) ?_
  ·
   refine Wc.region ?_
   refine Wl.y (y_move rfl) rfl ?_
   refine Wl.y (y_eqli rfl rfl) rfl ?_
   refine Wl.y (y_move rfl) rfl ?_
   refine Wl.guardT rfl rfl rfl (fun g_20 => ?_) (fun g_20 => ?_)
   ·
    have g_20_ := g_20
    try simp only [decide_eq_true_eq, decide_eq_false_iff_not, beq_iff_eq, beq_eq_false_iff_ne, bne_iff_ne, bne_eq_false_iff_eq, Bool.not_eq_true', Bool.not_eq_false', Bool.not_eq_eq_eq_not, Bool.not_true, Bool.not_false, ne_eq, Int.not_lt, Int.not_le] at g_20
    refine Wl.y (y_move rfl) rfl ?_
    refine Wl.on' rfl rfl g_20_ ?_
    refine Wl.y (y_neqi rfl rfl) rfl ?_
    refine Wl.y (y_pickT rfl g_20_ rfl) rfl ?_
    refine Wl.nil ?_
    refine Wq.meet hM_16 (()) (Sub.cons' rfl (by first | rfl | exact bool_eq (eq_nan he hm g_20).symm | exact bool_eq (ne_nan he hm g_20).symm) (Sub.cons' rfl (by first | rfl | exact bool_eq (eq_nan he hm g_20).symm | exact bool_eq (ne_nan he hm g_20).symm) (Sub.cons' rfl (by first | rfl | exact bool_eq (eq_nan he hm g_20).symm | exact bool_eq (ne_nan he hm g_20).symm) (Sub.cons' rfl (by first | rfl | exact bool_eq (eq_nan he hm g_20).symm | exact bool_eq (ne_nan he hm g_20).symm) (Sub.cons' rfl (by first | rfl | exact bool_eq (eq_nan he hm g_20).symm | exact bool_eq (ne_nan he hm g_20).symm) (Sub.nil)))))) ?_
    rfl
   ·
    have g_20_ := g_20
    try simp only [decide_eq_true_eq, decide_eq_false_iff_not, beq_iff_eq, beq_eq_false_iff_ne, bne_iff_ne, bne_eq_false_iff_eq, Bool.not_eq_true', Bool.not_eq_false', Bool.not_eq_eq_eq_not, Bool.not_true, Bool.not_false, ne_eq, Int.not_lt, Int.not_le] at g_20
    refine Wl.off' rfl rfl g_20_ rfl rfl ?_
    refine Wl.y (y_pickF rfl g_20_ rfl) rfl ?_
    refine Wl.nil ?_
    refine Wq.meet hM_16 (()) (Sub.cons' rfl (by first | rfl | exact bool_eq (eq_nan he hm g_20).symm | exact bool_eq (ne_nan he hm g_20).symm) (Sub.cons' rfl (by first | rfl | exact bool_eq (eq_nan he hm g_20).symm | exact bool_eq (ne_nan he hm g_20).symm) (Sub.cons' rfl (by first | rfl | exact bool_eq (eq_nan he hm g_20).symm | exact bool_eq (ne_nan he hm g_20).symm) (Sub.cons' rfl (by first | rfl | exact bool_eq (eq_nan he hm g_20).symm | exact bool_eq (ne_nan he hm g_20).symm) (Sub.cons' rfl (by first | rfl | exact bool_eq (eq_nan he hm g_20).symm | exact bool_eq (ne_nan he hm g_20).symm) (Sub.nil)))))) ?_
    rfl
  ·
   rintro u_ wr hI_25
   replace hI_25 : wr = w := hI_25
   have hw := hI_25
   show Wq _ _ _ _ [(0, .int .i64 n), (6, .bool (isNeg b)), (7, .int .i64 (e : Int)), (8, .int .i64 (m : Int)), (22, .bool (isNan b))] _
   refine Wq.next hK_15 ?_
   refine Wc.cond rfl (fun c0_26 => ?_) (fun c0_26 => ?_)
   ·
    have c0_26_ := c0_26
    try simp only [decide_eq_true_eq, decide_eq_false_iff_not, beq_iff_eq, beq_eq_false_iff_ne, bne_iff_ne, bne_eq_false_iff_eq, Bool.not_eq_true', Bool.not_eq_false', Bool.not_eq_eq_eq_not, Bool.not_true, Bool.not_false, ne_eq, Int.not_lt, Int.not_le] at c0_26
    refine Wc.seq fun _ hK_27 => ?_
    refine Wc.region ?_
    refine Wl.y (y_assign rfl) rfl ?_
    refine Wl.y (y_assign rfl) rfl ?_
    refine Wl.nil ?_
    refine Wq.next hK_27 ?_
    refine Wc.ret ?_
    refine Wq.then_ret ?_
    refine ret2 rfl rfl rfl ?_
    exact ⟨_, rfl, by rw [c0_26_]; unfold agV; rw [if_pos c0_26_]; rfl, hw⟩
   ·
    have c0_26_ := c0_26
    try simp only [decide_eq_true_eq, decide_eq_false_iff_not, beq_iff_eq, beq_eq_false_iff_ne, bne_iff_ne, bne_eq_false_iff_eq, Bool.not_eq_true', Bool.not_eq_false', Bool.not_eq_eq_eq_not, Bool.not_true, Bool.not_false, ne_eq, Int.not_lt, Int.not_le] at c0_26
    have hnn : isNan b = false := c0_26_
    have hag : agV n b = agI n b := by unfold agV; rw [if_neg (ne_tt hnn)]
    have hT : ∀ x : Int, x = agI n b → Value.tuple #[.int .i64 x, .bool true] = Value.tuple #[.int .i64 (agV n b), .bool (!isNan b)] := fun x hx => by rw [hag, hnn, hx]; rfl
    refine Wc.skip ?_
    refine Wq.next hK_14 ?_
    refine Wc.seq fun _ hK_30 => ?_
    refine Wc.region ?_
    refine Wl.y (y_assign rfl) rfl ?_
    refine Wl.nil ?_
    refine Wq.next hK_30 ?_
    refine Wc.seq fun _ hK_32 => ?_
    refine Wc.seq fun _ hK_33 => ?_
    refine Wc.region ?_
    refine Wl.y (y_move rfl) rfl ?_
    refine Wl.nil ?_
    refine Wq.next hK_33 ?_
    refine Wc.meet (X := Unit) (fun u_ => [(0, .int .i64 n), (6, .bool (isNeg b)), (7, .int .i64 (e : Int)), (8, .int .i64 (m : Int)), (9, .int .i64 (sg b))]) (fun u_ wr => wr = w) (fun _ hM_35 => ?_) ?_
    ·
     refine Wc.cond rfl (fun c1_36 => ?_) (fun c1_36 => ?_)
     ·
      have c1_36_ := c1_36
      try simp only [decide_eq_true_eq, decide_eq_false_iff_not, beq_iff_eq, beq_eq_false_iff_ne, bne_iff_ne, bne_eq_false_iff_eq, Bool.not_eq_true', Bool.not_eq_false', Bool.not_eq_eq_eq_not, Bool.not_true, Bool.not_false, ne_eq, Int.not_lt, Int.not_le] at c1_36
      refine Wc.region ?_
      refine Wl.y (y_assign rfl) rfl ?_
      refine Wl.nil ?_
      refine Wq.meet hM_35 (()) (Sub.cons' rfl (by first | rfl | exact int_eq (by unfold sg; rw [if_pos c1_36_]) | exact int_eq (by unfold sg; rw [if_neg (ne_tt c1_36_)])) (Sub.cons' rfl (by first | rfl | exact int_eq (by unfold sg; rw [if_pos c1_36_]) | exact int_eq (by unfold sg; rw [if_neg (ne_tt c1_36_)])) (Sub.cons' rfl (by first | rfl | exact int_eq (by unfold sg; rw [if_pos c1_36_]) | exact int_eq (by unfold sg; rw [if_neg (ne_tt c1_36_)])) (Sub.cons' rfl (by first | rfl | exact int_eq (by unfold sg; rw [if_pos c1_36_]) | exact int_eq (by unfold sg; rw [if_neg (ne_tt c1_36_)])) (Sub.cons' rfl (by first | rfl | exact int_eq (by unfold sg; rw [if_pos c1_36_]) | exact int_eq (by unfold sg; rw [if_neg (ne_tt c1_36_)])) (Sub.nil)))))) ?_
      exact hw
     ·
      have c1_36_ := c1_36
      try simp only [decide_eq_true_eq, decide_eq_false_iff_not, beq_iff_eq, beq_eq_false_iff_ne, bne_iff_ne, bne_eq_false_iff_eq, Bool.not_eq_true', Bool.not_eq_false', Bool.not_eq_eq_eq_not, Bool.not_true, Bool.not_false, ne_eq, Int.not_lt, Int.not_le] at c1_36
      refine Wc.skip ?_
      refine Wq.meet hM_35 (()) (Sub.cons' rfl (by first | rfl | exact int_eq (by unfold sg; rw [if_pos c1_36_]) | exact int_eq (by unfold sg; rw [if_neg (ne_tt c1_36_)])) (Sub.cons' rfl (by first | rfl | exact int_eq (by unfold sg; rw [if_pos c1_36_]) | exact int_eq (by unfold sg; rw [if_neg (ne_tt c1_36_)])) (Sub.cons' rfl (by first | rfl | exact int_eq (by unfold sg; rw [if_pos c1_36_]) | exact int_eq (by unfold sg; rw [if_neg (ne_tt c1_36_)])) (Sub.cons' rfl (by first | rfl | exact int_eq (by unfold sg; rw [if_pos c1_36_]) | exact int_eq (by unfold sg; rw [if_neg (ne_tt c1_36_)])) (Sub.cons' rfl (by first | rfl | exact int_eq (by unfold sg; rw [if_pos c1_36_]) | exact int_eq (by unfold sg; rw [if_neg (ne_tt c1_36_)])) (Sub.nil)))))) ?_
      exact hw
    ·
     rintro u_ wr hI_38
     replace hI_38 : wr = w := hI_38
     have hw := hI_38
     show Wq _ _ _ _ [(0, .int .i64 n), (6, .bool (isNeg b)), (7, .int .i64 (e : Int)), (8, .int .i64 (m : Int)), (9, .int .i64 (sg b))] _
     refine Wq.next hK_32 ?_
     refine Wc.seq fun _ hK_39 => ?_
     refine Wc.seq fun _ hK_40 => ?_
     refine Wc.meet (X := Unit) (fun u_ => [(0, .int .i64 n), (6, .bool (isNeg b)), (7, .int .i64 (e : Int)), (8, .int .i64 (m : Int)), (9, .int .i64 (sg b)), (32, .bool (decide (b = 14114281232179134464)))]) (fun u_ wr => wr = w) (fun _ hM_41 => ?_) ?_
     ·
      refine Wc.region ?_
      refine Wl.y (y_move rfl) rfl ?_
      refine Wl.y (y_move rfl) rfl ?_
      refine Wl.guardT rfl rfl rfl (fun g_44 => ?_) (fun g_44 => ?_)
      ·
       have g_44_ := g_44
       try simp only [decide_eq_true_eq, decide_eq_false_iff_not, beq_iff_eq, beq_eq_false_iff_ne, bne_iff_ne, bne_eq_false_iff_eq, Bool.not_eq_true', Bool.not_eq_false', Bool.not_eq_eq_eq_not, Bool.not_true, Bool.not_false, ne_eq, Int.not_lt, Int.not_le] at g_44
       refine Wl.y (y_move rfl) rfl ?_
       refine Wl.on' rfl rfl g_44_ ?_
       refine Wl.y (y_eqli rfl rfl) rfl ?_
       refine Wl.y (y_pickT rfl g_44_ rfl) rfl ?_
       refine Wl.y (y_move rfl) rfl ?_
       refine Wl.guardT rfl rfl rfl (fun g_49 => ?_) (fun g_49 => ?_)
       ·
        have g_49_ := g_49
        try simp only [decide_eq_true_eq, decide_eq_false_iff_not, beq_iff_eq, beq_eq_false_iff_ne, bne_iff_ne, bne_eq_false_iff_eq, Bool.not_eq_true', Bool.not_eq_false', Bool.not_eq_eq_eq_not, Bool.not_true, Bool.not_false, ne_eq, Int.not_lt, Int.not_le] at g_49
        refine Wl.y (y_move rfl) rfl ?_
        refine Wl.on' rfl rfl g_49_ ?_
        refine Wl.y (y_eqli rfl rfl) rfl ?_
        refine Wl.y (y_pickT rfl g_49_ rfl) rfl ?_
        refine Wl.nil ?_
        refine Wq.meet hM_41 (()) (Sub.cons' rfl (by first | rfl | exact bool_eq (eq_m63 hb0 he hm g_44_ g_49).symm | exact bool_eq (ne_m63 he hm (.inl g_44_)).symm | exact bool_eq (ne_m63 he hm (.inr g_49)).symm) (Sub.cons' rfl (by first | rfl | exact bool_eq (eq_m63 hb0 he hm g_44_ g_49).symm | exact bool_eq (ne_m63 he hm (.inl g_44_)).symm | exact bool_eq (ne_m63 he hm (.inr g_49)).symm) (Sub.cons' rfl (by first | rfl | exact bool_eq (eq_m63 hb0 he hm g_44_ g_49).symm | exact bool_eq (ne_m63 he hm (.inl g_44_)).symm | exact bool_eq (ne_m63 he hm (.inr g_49)).symm) (Sub.cons' rfl (by first | rfl | exact bool_eq (eq_m63 hb0 he hm g_44_ g_49).symm | exact bool_eq (ne_m63 he hm (.inl g_44_)).symm | exact bool_eq (ne_m63 he hm (.inr g_49)).symm) (Sub.cons' rfl (by first | rfl | exact bool_eq (eq_m63 hb0 he hm g_44_ g_49).symm | exact bool_eq (ne_m63 he hm (.inl g_44_)).symm | exact bool_eq (ne_m63 he hm (.inr g_49)).symm) (Sub.cons' rfl (by first | rfl | exact bool_eq (eq_m63 hb0 he hm g_44_ g_49).symm | exact bool_eq (ne_m63 he hm (.inl g_44_)).symm | exact bool_eq (ne_m63 he hm (.inr g_49)).symm) (Sub.nil))))))) ?_
        exact hw
       ·
        have g_49_ := g_49
        try simp only [decide_eq_true_eq, decide_eq_false_iff_not, beq_iff_eq, beq_eq_false_iff_ne, bne_iff_ne, bne_eq_false_iff_eq, Bool.not_eq_true', Bool.not_eq_false', Bool.not_eq_eq_eq_not, Bool.not_true, Bool.not_false, ne_eq, Int.not_lt, Int.not_le] at g_49
        refine Wl.off' rfl rfl g_49_ rfl rfl ?_
        refine Wl.y (y_pickF rfl g_49_ rfl) rfl ?_
        refine Wl.nil ?_
        refine Wq.meet hM_41 (()) (Sub.cons' rfl (by first | rfl | exact bool_eq (eq_m63 hb0 he hm g_44_ g_49).symm | exact bool_eq (ne_m63 he hm (.inl g_44_)).symm | exact bool_eq (ne_m63 he hm (.inr g_49)).symm) (Sub.cons' rfl (by first | rfl | exact bool_eq (eq_m63 hb0 he hm g_44_ g_49).symm | exact bool_eq (ne_m63 he hm (.inl g_44_)).symm | exact bool_eq (ne_m63 he hm (.inr g_49)).symm) (Sub.cons' rfl (by first | rfl | exact bool_eq (eq_m63 hb0 he hm g_44_ g_49).symm | exact bool_eq (ne_m63 he hm (.inl g_44_)).symm | exact bool_eq (ne_m63 he hm (.inr g_49)).symm) (Sub.cons' rfl (by first | rfl | exact bool_eq (eq_m63 hb0 he hm g_44_ g_49).symm | exact bool_eq (ne_m63 he hm (.inl g_44_)).symm | exact bool_eq (ne_m63 he hm (.inr g_49)).symm) (Sub.cons' rfl (by first | rfl | exact bool_eq (eq_m63 hb0 he hm g_44_ g_49).symm | exact bool_eq (ne_m63 he hm (.inl g_44_)).symm | exact bool_eq (ne_m63 he hm (.inr g_49)).symm) (Sub.cons' rfl (by first | rfl | exact bool_eq (eq_m63 hb0 he hm g_44_ g_49).symm | exact bool_eq (ne_m63 he hm (.inl g_44_)).symm | exact bool_eq (ne_m63 he hm (.inr g_49)).symm) (Sub.nil))))))) ?_
        exact hw
      ·
       have g_44_ := g_44
       try simp only [decide_eq_true_eq, decide_eq_false_iff_not, beq_iff_eq, beq_eq_false_iff_ne, bne_iff_ne, bne_eq_false_iff_eq, Bool.not_eq_true', Bool.not_eq_false', Bool.not_eq_eq_eq_not, Bool.not_true, Bool.not_false, ne_eq, Int.not_lt, Int.not_le] at g_44
       refine Wl.off' rfl rfl g_44_ rfl rfl ?_
       refine Wl.y (y_pickF rfl g_44_ rfl) rfl ?_
       refine Wl.y (y_move rfl) rfl ?_
       refine Wl.off' rfl rfl rfl rfl rfl ?_
       refine Wl.off' rfl rfl rfl rfl rfl ?_
       refine Wl.y (y_pickF rfl rfl rfl) rfl ?_
       refine Wl.nil ?_
       refine Wq.meet hM_41 (()) (Sub.cons' rfl (by first | rfl | exact bool_eq (eq_m63 hb0 he hm g_44_ MISSING_o27).symm | exact bool_eq (ne_m63 he hm (.inl g_44_)).symm | exact bool_eq (ne_m63 he hm (.inr MISSING_o27)).symm) (Sub.cons' rfl (by first | rfl | exact bool_eq (eq_m63 hb0 he hm g_44_ MISSING_o27).symm | exact bool_eq (ne_m63 he hm (.inl g_44_)).symm | exact bool_eq (ne_m63 he hm (.inr MISSING_o27)).symm) (Sub.cons' rfl (by first | rfl | exact bool_eq (eq_m63 hb0 he hm g_44_ MISSING_o27).symm | exact bool_eq (ne_m63 he hm (.inl g_44_)).symm | exact bool_eq (ne_m63 he hm (.inr MISSING_o27)).symm) (Sub.cons' rfl (by first | rfl | exact bool_eq (eq_m63 hb0 he hm g_44_ MISSING_o27).symm | exact bool_eq (ne_m63 he hm (.inl g_44_)).symm | exact bool_eq (ne_m63 he hm (.inr MISSING_o27)).symm) (Sub.cons' rfl (by first | rfl | exact bool_eq (eq_m63 hb0 he hm g_44_ MISSING_o27).symm | exact bool_eq (ne_m63 he hm (.inl g_44_)).symm | exact bool_eq (ne_m63 he hm (.inr MISSING_o27)).symm) (Sub.cons' rfl (by first | rfl | exact bool_eq (eq_m63 hb0 he hm g_44_ MISSING_o27).symm | exact bool_eq (ne_m63 he hm (.inl g_44_)).symm | exact bool_eq (ne_m63 he hm (.inr MISSING_o27)).symm) (Sub.nil))))))) ?_
       exact hw
     ·
      rintro u_ wr hI_57
      replace hI_57 : wr = w := hI_57
      have hw := hI_57
      show Wq _ _ _ _ [(0, .int .i64 n), (6, .bool (isNeg b)), (7, .int .i64 (e : Int)), (8, .int .i64 (m : Int)), (9, .int .i64 (sg b)), (32, .bool (decide (b = 14114281232179134464)))] _
      refine Wq.next hK_40 ?_
      refine Wc.cond rfl (fun c2_58 => ?_) (fun c2_58 => ?_)
      ·
       have c2_58_ := c2_58
       try simp only [decide_eq_true_eq, decide_eq_false_iff_not, beq_iff_eq, beq_eq_false_iff_ne, bne_iff_ne, bne_eq_false_iff_eq, Bool.not_eq_true', Bool.not_eq_false', Bool.not_eq_eq_eq_not, Bool.not_true, Bool.not_false, ne_eq, Int.not_lt, Int.not_le] at c2_58
       refine Wc.seq fun _ hK_59 => ?_
       refine Wc.region ?_
       refine Wl.y (y_move rfl) rfl ?_
       refine Wl.call txt118RefB rfl rfl (Sign_r _ _ _) rfl ?_
       rintro _ w_ ⟨rfl, hw_⟩
       have hw_ := hw_.symm; subst hw_
       refine Wl.y (y_assign rfl) rfl ?_
       refine Wl.y (y_assign rfl) rfl ?_
       refine Wl.nil ?_
       refine Wq.next hK_59 ?_
       refine Wc.ret ?_
       refine Wq.then_ret ?_
       refine ret2 rfl rfl rfl ?_
       exact ⟨_, rfl, hT _ (ag_low63 c2_58).symm, hw⟩
      ·
       have c2_58_ := c2_58
       try simp only [decide_eq_true_eq, decide_eq_false_iff_not, beq_iff_eq, beq_eq_false_iff_ne, bne_iff_ne, bne_eq_false_iff_eq, Bool.not_eq_true', Bool.not_eq_false', Bool.not_eq_eq_eq_not, Bool.not_true, Bool.not_false, ne_eq, Int.not_lt, Int.not_le] at c2_58
       refine Wc.skip ?_
       refine Wq.next hK_39 ?_
       refine Wc.seq fun _ hK_64 => ?_
       refine Wc.seq fun _ hK_65 => ?_
       refine Wc.region ?_
       refine Wl.y (y_move rfl) rfl ?_
       refine Wl.y (y_geqi rfl rfl) rfl ?_
       refine Wl.nil ?_
       refine Wq.next hK_65 ?_
       refine Wc.cond rfl (fun c3_68 => ?_) (fun c3_68 => ?_)
       ·
        have c3_68_ := c3_68
        try simp only [decide_eq_true_eq, decide_eq_false_iff_not, beq_iff_eq, beq_eq_false_iff_ne, bne_iff_ne, bne_eq_false_iff_eq, Bool.not_eq_true', Bool.not_eq_false', Bool.not_eq_eq_eq_not, Bool.not_true, Bool.not_false, ne_eq, Int.not_lt, Int.not_le] at c3_68
        have hbig : 4890909195324358656 ≤ rung b := by have := c3_68; unfold rung; omega
        refine Wc.seq fun _ hK_69 => ?_
        refine Wc.region ?_
        refine Wl.y (y_move rfl) rfl ?_
        refine Wl.y (y_negi rfl) rfl ?_
        refine Wl.y (y_assign rfl) rfl ?_
        refine Wl.y (y_assign rfl) rfl ?_
        refine Wl.nil ?_
        refine Wq.next hK_69 ?_
        refine Wc.ret ?_
        refine Wq.then_ret ?_
        refine ret2 rfl rfl rfl ?_
        exact ⟨_, rfl, hT _ ((neg_sg b).trans (ag_huge h0 h1 hbig (fun h => c2_58 (of_m63 hb0 h))).symm), hw⟩
       ·
        have c3_68_ := c3_68
        try simp only [decide_eq_true_eq, decide_eq_false_iff_not, beq_iff_eq, beq_eq_false_iff_ne, bne_iff_ne, bne_eq_false_iff_eq, Bool.not_eq_true', Bool.not_eq_false', Bool.not_eq_eq_eq_not, Bool.not_true, Bool.not_false, ne_eq, Int.not_lt, Int.not_le] at c3_68
        refine Wc.skip ?_
        refine Wq.next hK_64 ?_
        refine Wc.seq fun _ hK_74 => ?_
        refine Wc.seq fun _ hK_75 => ?_
        refine Wc.meet (X := Unit) (fun u_ => [(0, .int .i64 n), (6, .bool (isNeg b)), (7, .int .i64 (e : Int)), (8, .int .i64 (m : Int)), (9, .int .i64 (sg b)), (44, .bool (decide (rung b = 0)))]) (fun u_ wr => wr = w) (fun _ hM_76 => ?_) ?_
        ·
         refine Wc.region ?_
         refine Wl.y (y_move rfl) rfl ?_
         refine Wl.y (y_eqli rfl rfl) rfl ?_
         refine Wl.y (y_move rfl) rfl ?_
         refine Wl.guardT rfl rfl rfl (fun g_80 => ?_) (fun g_80 => ?_)
         ·
          have g_80_ := g_80
          try simp only [decide_eq_true_eq, decide_eq_false_iff_not, beq_iff_eq, beq_eq_false_iff_ne, bne_iff_ne, bne_eq_false_iff_eq, Bool.not_eq_true', Bool.not_eq_false', Bool.not_eq_eq_eq_not, Bool.not_true, Bool.not_false, ne_eq, Int.not_lt, Int.not_le] at g_80
          refine Wl.y (y_move rfl) rfl ?_
          refine Wl.on' rfl rfl g_80_ ?_
          refine Wl.y (y_eqli rfl rfl) rfl ?_
          refine Wl.y (y_pickT rfl g_80_ rfl) rfl ?_
          refine Wl.nil ?_
          refine Wq.meet hM_76 (()) (Sub.cons' rfl (by first | rfl | exact bool_eq (eq_r0 he hm g_80).symm | exact bool_eq (ne_r0 he hm g_80).symm) (Sub.cons' rfl (by first | rfl | exact bool_eq (eq_r0 he hm g_80).symm | exact bool_eq (ne_r0 he hm g_80).symm) (Sub.cons' rfl (by first | rfl | exact bool_eq (eq_r0 he hm g_80).symm | exact bool_eq (ne_r0 he hm g_80).symm) (Sub.cons' rfl (by first | rfl | exact bool_eq (eq_r0 he hm g_80).symm | exact bool_eq (ne_r0 he hm g_80).symm) (Sub.cons' rfl (by first | rfl | exact bool_eq (eq_r0 he hm g_80).symm | exact bool_eq (ne_r0 he hm g_80).symm) (Sub.cons' rfl (by first | rfl | exact bool_eq (eq_r0 he hm g_80).symm | exact bool_eq (ne_r0 he hm g_80).symm) (Sub.nil))))))) ?_
          exact hw
         ·
          have g_80_ := g_80
          try simp only [decide_eq_true_eq, decide_eq_false_iff_not, beq_iff_eq, beq_eq_false_iff_ne, bne_iff_ne, bne_eq_false_iff_eq, Bool.not_eq_true', Bool.not_eq_false', Bool.not_eq_eq_eq_not, Bool.not_true, Bool.not_false, ne_eq, Int.not_lt, Int.not_le] at g_80
          refine Wl.off' rfl rfl g_80_ rfl rfl ?_
          refine Wl.y (y_pickF rfl g_80_ rfl) rfl ?_
          refine Wl.nil ?_
          refine Wq.meet hM_76 (()) (Sub.cons' rfl (by first | rfl | exact bool_eq (eq_r0 he hm g_80).symm | exact bool_eq (ne_r0 he hm g_80).symm) (Sub.cons' rfl (by first | rfl | exact bool_eq (eq_r0 he hm g_80).symm | exact bool_eq (ne_r0 he hm g_80).symm) (Sub.cons' rfl (by first | rfl | exact bool_eq (eq_r0 he hm g_80).symm | exact bool_eq (ne_r0 he hm g_80).symm) (Sub.cons' rfl (by first | rfl | exact bool_eq (eq_r0 he hm g_80).symm | exact bool_eq (ne_r0 he hm g_80).symm) (Sub.cons' rfl (by first | rfl | exact bool_eq (eq_r0 he hm g_80).symm | exact bool_eq (ne_r0 he hm g_80).symm) (Sub.cons' rfl (by first | rfl | exact bool_eq (eq_r0 he hm g_80).symm | exact bool_eq (ne_r0 he hm g_80).symm) (Sub.nil))))))) ?_
          exact hw
        ·
         rintro u_ wr hI_85
         replace hI_85 : wr = w := hI_85
         have hw := hI_85
         show Wq _ _ _ _ [(0, .int .i64 n), (6, .bool (isNeg b)), (7, .int .i64 (e : Int)), (8, .int .i64 (m : Int)), (9, .int .i64 (sg b)), (44, .bool (decide (rung b = 0)))] _
         refine Wq.next hK_75 ?_
         refine Wc.cond rfl (fun c4_86 => ?_) (fun c4_86 => ?_)
         ·
          have c4_86_ := c4_86
          try simp only [decide_eq_true_eq, decide_eq_false_iff_not, beq_iff_eq, beq_eq_false_iff_ne, bne_iff_ne, bne_eq_false_iff_eq, Bool.not_eq_true', Bool.not_eq_false', Bool.not_eq_eq_eq_not, Bool.not_true, Bool.not_false, ne_eq, Int.not_lt, Int.not_le] at c4_86
          refine Wc.seq fun _ hK_87 => ?_
          refine Wc.region ?_
          refine Wl.y (y_move rfl) rfl ?_
          refine Wl.call txt118RefB rfl rfl (Sign_r _ _ _) rfl ?_
          rintro _ w_ ⟨rfl, hw_⟩
          have hw_ := hw_.symm; subst hw_
          refine Wl.y (y_assign rfl) rfl ?_
          refine Wl.y (y_assign rfl) rfl ?_
          refine Wl.nil ?_
          refine Wq.next hK_87 ?_
          refine Wc.ret ?_
          refine Wq.then_ret ?_
          refine ret2 rfl rfl rfl ?_
          exact ⟨_, rfl, hT _ (ag_zero c4_86).symm, hw⟩
         ·
          have c4_86_ := c4_86
          try simp only [decide_eq_true_eq, decide_eq_false_iff_not, beq_iff_eq, beq_eq_false_iff_ne, bne_iff_ne, bne_eq_false_iff_eq, Bool.not_eq_true', Bool.not_eq_false', Bool.not_eq_eq_eq_not, Bool.not_true, Bool.not_false, ne_eq, Int.not_lt, Int.not_le] at c4_86
          refine Wc.skip ?_
          refine Wq.next hK_74 ?_
          refine Wc.seq fun _ hK_92 => ?_
          refine Wc.seq fun _ hK_93 => ?_
          refine Wc.region ?_
          refine Wl.y (y_move rfl) rfl ?_
          refine Wl.y (y_eqli rfl rfl) rfl ?_
          refine Wl.nil ?_
          refine Wq.next hK_93 ?_
          have hr1 : rung b < 4890909195324358656 := by have := c3_68; unfold rung; omega
          have hr2 : rung b ≠ 0 := c4_86
          refine Wc.meet (X := Unit) (fun u_ => [(0, .int .i64 n), (6, .bool (isNeg b)), (9, .int .i64 (sg b)), (7, .int .i64 (exp0 (rung b) + 1075)), (8, .int .i64 (mant0 (rung b) : Nat))]) (fun u_ wr => wr = w) (fun _ hM_96 => ?_) ?_
          ·
           refine Wc.cond rfl (fun c5_97 => ?_) (fun c5_97 => ?_)
           ·
            have c5_97_ := c5_97
            try simp only [decide_eq_true_eq, decide_eq_false_iff_not, beq_iff_eq, beq_eq_false_iff_ne, bne_iff_ne, bne_eq_false_iff_eq, Bool.not_eq_true', Bool.not_eq_false', Bool.not_eq_eq_eq_not, Bool.not_true, Bool.not_false, ne_eq, Int.not_lt, Int.not_le] at c5_97
            refine Wc.region ?_
            refine Wl.y (y_assign rfl) rfl ?_
            refine Wl.nil ?_
            refine Wq.meet hM_96 (()) (Sub.cons' rfl (by first | rfl | exact int_eq (exp_low he c5_97).symm | exact int_eq (exp_high he (by omega) c5_97).symm | exact int_eq (mant_low he hm c5_97).symm | exact int_eq (mant_high he hm c5_97).symm) (Sub.cons' rfl (by first | rfl | exact int_eq (exp_low he c5_97).symm | exact int_eq (exp_high he (by omega) c5_97).symm | exact int_eq (mant_low he hm c5_97).symm | exact int_eq (mant_high he hm c5_97).symm) (Sub.cons' rfl (by first | rfl | exact int_eq (exp_low he c5_97).symm | exact int_eq (exp_high he (by omega) c5_97).symm | exact int_eq (mant_low he hm c5_97).symm | exact int_eq (mant_high he hm c5_97).symm) (Sub.cons' rfl (by first | rfl | exact int_eq (exp_low he c5_97).symm | exact int_eq (exp_high he (by omega) c5_97).symm | exact int_eq (mant_low he hm c5_97).symm | exact int_eq (mant_high he hm c5_97).symm) (Sub.cons' rfl (by first | rfl | exact int_eq (exp_low he c5_97).symm | exact int_eq (exp_high he (by omega) c5_97).symm | exact int_eq (mant_low he hm c5_97).symm | exact int_eq (mant_high he hm c5_97).symm) (Sub.nil)))))) ?_
            first | rfl | exact hw
           ·
            have c5_97_ := c5_97
            try simp only [decide_eq_true_eq, decide_eq_false_iff_not, beq_iff_eq, beq_eq_false_iff_ne, bne_iff_ne, bne_eq_false_iff_eq, Bool.not_eq_true', Bool.not_eq_false', Bool.not_eq_eq_eq_not, Bool.not_true, Bool.not_false, ne_eq, Int.not_lt, Int.not_le] at c5_97
            refine Wc.region ?_
            refine Wl.y (y_move rfl) rfl ?_
            refine Wl.y (y_addI rfl rfl (by first | omega | (simp; done) | (simp; omega)) (by first | omega | (simp; done) | (simp; omega))) rfl ?_
            refine Wl.y (y_assign rfl) rfl ?_
            refine Wl.nil ?_
            refine Wq.meet hM_96 (()) (Sub.cons' rfl (by first | rfl | exact int_eq (exp_low he c5_97).symm | exact int_eq (exp_high he (by omega) c5_97).symm | exact int_eq (mant_low he hm c5_97).symm | exact int_eq (mant_high he hm c5_97).symm) (Sub.cons' rfl (by first | rfl | exact int_eq (exp_low he c5_97).symm | exact int_eq (exp_high he (by omega) c5_97).symm | exact int_eq (mant_low he hm c5_97).symm | exact int_eq (mant_high he hm c5_97).symm) (Sub.cons' rfl (by first | rfl | exact int_eq (exp_low he c5_97).symm | exact int_eq (exp_high he (by omega) c5_97).symm | exact int_eq (mant_low he hm c5_97).symm | exact int_eq (mant_high he hm c5_97).symm) (Sub.cons' rfl (by first | rfl | exact int_eq (exp_low he c5_97).symm | exact int_eq (exp_high he (by omega) c5_97).symm | exact int_eq (mant_low he hm c5_97).symm | exact int_eq (mant_high he hm c5_97).symm) (Sub.cons' rfl (by first | rfl | exact int_eq (exp_low he c5_97).symm | exact int_eq (exp_high he (by omega) c5_97).symm | exact int_eq (mant_low he hm c5_97).symm | exact int_eq (mant_high he hm c5_97).symm) (Sub.nil)))))) ?_
            first | rfl | exact hw
          ·
           rintro u_ wr hI_102
           replace hI_102 : wr = w := hI_102
           have hw := hI_102
           show Wq _ _ _ _ [(0, .int .i64 n), (6, .bool (isNeg b)), (9, .int .i64 (sg b)), (7, .int .i64 (exp0 (rung b) + 1075)), (8, .int .i64 (mant0 (rung b) : Nat))] _
           obtain ⟨ho1, ho2⟩ := od_spec _ (mant0_ne hr2)
           have hml := mant0_lt (show rung b < 9218868437227405312 by omega)
           have hex := exp0_bd (show rung b < 9218868437227405312 by omega)
           have hv := v2_le (show rung b < 9218868437227405312 by omega) hr2
           refine Wq.next hK_92 ?_
           refine Wc.seq fun _ hK_103 => ?_
           refine Wc.region ?_
           refine Wl.y (y_move rfl) rfl ?_
           refine Wl.y (y_subI rfl rfl (by first | omega | (simp; done) | (simp; omega)) (by first | omega | (simp; done) | (simp; omega))) rfl ?_
           refine Wl.y (y_assign rfl) rfl ?_
           refine Wl.nil ?_
           refine Wq.next hK_103 ?_
           refine Wc.seq fun _ hK_107 => ?_
           refine Wc.block ?_
           refine Wc.loop (X := Nat) (fun j => [(0, .int .i64 n), (6, .bool (isNeg b)), (9, .int .i64 (sg b)), (8, .int .i64 ((od (mant0 (rung b)) * 2 ^ (v2 (mant0 (rung b)) - j) : Nat) : Int)), (7, .int .i64 (exp0 (rung b) + (j : Int)))]) (fun j wr => j ≤ v2 (mant0 (rung b)) ∧ (j = 0 ∨ exp0 (rung b) + (j : Int) ≤ 0) ∧ wr = w) (fun j => v2 (mant0 (rung b)) - j) (0) ?_ ?_ ?_
           · exact Sub.cons' rfl (by first | rfl | exact int_eq (by rw [Nat.sub_zero, ← ho1]) | exact int_eq (by omega) | exact int_eq hhalf) (Sub.cons' rfl (by first | rfl | exact int_eq (by rw [Nat.sub_zero, ← ho1]) | exact int_eq (by omega) | exact int_eq hhalf) (Sub.cons' rfl (by first | rfl | exact int_eq (by rw [Nat.sub_zero, ← ho1]) | exact int_eq (by omega) | exact int_eq hhalf) (Sub.cons' rfl (by first | rfl | exact int_eq (by rw [Nat.sub_zero, ← ho1]) | exact int_eq (by omega) | exact int_eq hhalf) (Sub.cons' rfl (by first | rfl | exact int_eq (by rw [Nat.sub_zero, ← ho1]) | exact int_eq (by omega) | exact int_eq hhalf) (Sub.nil)))))
           · exact ⟨by omega, .inl rfl, hw⟩
           ·
            rintro j wr hI_109 _ hL_108
            replace hI_109 : j ≤ v2 (mant0 (rung b)) ∧ (j = 0 ∨ exp0 (rung b) + (j : Int) ≤ 0) ∧ wr = w := hI_109
            obtain ⟨hj, hj0, hw⟩ := hI_109
            show Wc _ _ _ _ _ [(0, .int .i64 n), (6, .bool (isNeg b)), (9, .int .i64 (sg b)), (8, .int .i64 ((od (mant0 (rung b)) * 2 ^ (v2 (mant0 (rung b)) - j) : Nat) : Int)), (7, .int .i64 (exp0 (rung b) + (j : Int)))] _
            obtain ⟨hp1, hp2, hp3⟩ := half_of ho1 ho2 hml hj
            refine Wc.seq fun _ hK_110 => ?_
            refine Wc.seq fun _ hK_111 => ?_
            refine Wc.region ?_
            refine Wl.y (y_move rfl) rfl ?_
            refine Wl.y (y_lssi rfl rfl) rfl ?_
            refine Wl.nil ?_
            refine Wq.next hK_111 ?_
            refine Wc.cond rfl (fun c6_114 => ?_) (fun c6_114 => ?_)
            ·
             have c6_114_ := c6_114
             try simp only [decide_eq_true_eq, decide_eq_false_iff_not, beq_iff_eq, beq_eq_false_iff_ne, bne_iff_ne, bne_eq_false_iff_eq, Bool.not_eq_true', Bool.not_eq_false', Bool.not_eq_eq_eq_not, Bool.not_true, Bool.not_false, ne_eq, Int.not_lt, Int.not_le] at c6_114
             have he6 : exp0 (rung b) + (j : Int) < 0 := c6_114
             refine Wc.skip ?_
             refine Wq.next hK_110 ?_
             refine Wc.block ?_
             refine Wc.seq fun _ hK_115 => ?_
             refine Wc.seq fun _ hK_116 => ?_
             refine Wc.region ?_
             refine Wl.y (y_move rfl) rfl ?_
             refine Wl.y (y_rem rfl rfl (by first | decide | omega)) rfl ?_
             refine Wl.y (y_eqli rfl rfl) rfl ?_
             refine Wl.nil ?_
             refine Wq.next hK_116 ?_
             refine Wc.cond rfl (fun c7_120 => ?_) (fun c7_120 => ?_)
             ·
              have c7_120_ := c7_120
              try simp only [decide_eq_true_eq, decide_eq_false_iff_not, beq_iff_eq, beq_eq_false_iff_ne, bne_iff_ne, bne_eq_false_iff_eq, Bool.not_eq_true', Bool.not_eq_false', Bool.not_eq_eq_eq_not, Bool.not_true, Bool.not_false, ne_eq, Int.not_lt, Int.not_le] at c7_120
              have hjt : j = v2 (mant0 (rung b)) := by have h7 := c7_120; have := mt hp1.2; omega
              obtain ⟨k, hk⟩ : ∃ k : Nat, exp0 (rung b) + (j : Int) = -(k : Int) := ⟨(-(exp0 (rung b) + (j : Int))).toNat, by omega⟩
              have hod : od (mant0 (rung b)) * 2 ^ (v2 (mant0 (rung b)) - j) = od (mant0 (rung b)) := by rw [hjt, Nat.sub_self, Nat.pow_zero, Nat.mul_one]
              rw [hk, hod]
              refine Wc.seq fun _ hK_121 => ?_
              refine Wc.region ?_
              refine Wl.y (y_move rfl) rfl ?_
              refine Wl.y (y_move rfl) rfl ?_
              refine Wl.y (y_move rfl) rfl ?_
              refine Wl.y (y_move rfl) rfl ?_
              refine Wl.call txt119RefB rfl rfl (between_r _ _ _ k (by omega) (by omega) (by omega) _) rfl ?_
              rintro _ w_ ⟨rfl, hw_⟩
              have hw_ := hw_.symm; subst hw_
              refine Wl.y (y_assign rfl) rfl ?_
              refine Wl.y (y_assign rfl) rfl ?_
              refine Wl.nil ?_
              refine Wq.next hK_121 ?_
              refine Wc.ret ?_
              refine Wq.then_ret (Wq.block_ret (Wq.then_ret (Wq.block_ret (Wq.then_ret ?_))))
              refine ret2 rfl rfl rfl ?_
              exact ⟨_, rfl, hT _ (between_law n (V_k hr2 hjt hex.1 hk) (by omega) (by omega) ho2).symm, hw⟩
             ·
              have c7_120_ := c7_120
              try simp only [decide_eq_true_eq, decide_eq_false_iff_not, beq_iff_eq, beq_eq_false_iff_ne, bne_iff_ne, bne_eq_false_iff_eq, Bool.not_eq_true', Bool.not_eq_false', Bool.not_eq_eq_eq_not, Bool.not_true, Bool.not_false, ne_eq, Int.not_lt, Int.not_le] at c7_120
              have hjt : j < v2 (mant0 (rung b)) := hp1.1 (mod_even c7_120)
              have hhalf := hp2 hjt
              refine Wc.skip ?_
              refine Wq.next hK_115 ?_
              refine Wc.seq fun _ hK_129 => ?_
              refine Wc.region ?_
              refine Wl.y (y_move rfl) rfl ?_
              refine Wl.y (y_quo rfl rfl (by first | decide | omega)) rfl ?_
              refine Wl.y (y_assign rfl) rfl ?_
              refine Wl.nil ?_
              refine Wq.next hK_129 ?_
              refine Wc.region ?_
              refine Wl.y (y_move rfl) rfl ?_
              refine Wl.y (y_addI rfl rfl (by first | omega | (simp; done) | (simp; omega)) (by first | omega | (simp; done) | (simp; omega))) rfl ?_
              refine Wl.y (y_assign rfl) rfl ?_
              refine Wl.nil ?_
              refine Wq.block_normal ?_
              refine fun a_ ha_ => hL_108 _ _ (j + 1) (by first | omega | (simp; omega)) (Sub.cons' rfl (by first | rfl | exact int_eq (by rw [Nat.sub_zero, ← ho1]) | exact int_eq (by omega) | exact int_eq hhalf) (Sub.cons' rfl (by first | rfl | exact int_eq (by rw [Nat.sub_zero, ← ho1]) | exact int_eq (by omega) | exact int_eq hhalf) (Sub.cons' rfl (by first | rfl | exact int_eq (by rw [Nat.sub_zero, ← ho1]) | exact int_eq (by omega) | exact int_eq hhalf) (Sub.cons' rfl (by first | rfl | exact int_eq (by rw [Nat.sub_zero, ← ho1]) | exact int_eq (by omega) | exact int_eq hhalf) (Sub.cons' rfl (by first | rfl | exact int_eq (by rw [Nat.sub_zero, ← ho1]) | exact int_eq (by omega) | exact int_eq hhalf) (Sub.nil)))))) ?_ a_ ha_
              exact ⟨by omega, .inr (by omega), hw⟩
            ·
             have c6_114_ := c6_114
             try simp only [decide_eq_true_eq, decide_eq_false_iff_not, beq_iff_eq, beq_eq_false_iff_ne, bne_iff_ne, bne_eq_false_iff_eq, Bool.not_eq_true', Bool.not_eq_false', Bool.not_eq_eq_eq_not, Bool.not_true, Bool.not_false, ne_eq, Int.not_lt, Int.not_le] at c6_114
             have he6 : 0 ≤ exp0 (rung b) + (j : Int) := c6_114
             refine Wc.exit ?_
             refine Wq.then_exit ?_
             refine Wq.then_exit ?_
             refine Wq.block_exit ?_
             refine Wq.next hK_107 ?_
             refine Wc.seq fun _ hK_136 => ?_
             refine Wc.region ?_
             refine Wl.y (y_move rfl) rfl ?_
             refine Wl.y (y_move rfl) rfl ?_
             obtain ⟨hx1, hx2⟩ := whole_law (n := n) hr2 hr1 hj he6 hex.1
             have he11 : exp0 (rung b) + (j : Int) ≤ 11 := by unfold exp0 at *; split at * <;> omega
             obtain ⟨q, hq⟩ : ∃ q : Nat, exp0 (rung b) + (j : Int) = (q : Int) := ⟨(exp0 (rung b) + (j : Int)).toNat, by omega⟩
             rw [hq] at hx1 hx2
             rw [Int.toNat_natCast] at hx1 hx2
             rw [hq]
             refine Wl.y (y_eq (y_convi Tryz.underlying3 Tryz.underlying94 rfl) (int_eq (show IntKind.u64.wrap (q : Int) = (q : Int) by rw [wrap_u64 _ (by omega) (by omega)]))) rfl ?_
             refine Wl.y (y_eq (y_shl rfl rfl (by omega) (by show (q : Int) ≤ 64; omega)) (int_eq (shl_eq hx1))) rfl ?_
             refine Wl.y (y_assign rfl) rfl ?_
             refine Wl.nil ?_
             refine Wq.next hK_136 ?_
             refine Wc.seq fun _ hK_142 => ?_
             refine Wc.region ?_
             refine Wl.y (y_move rfl) rfl ?_
             refine Wl.y (y_move rfl) rfl ?_
             refine Wl.y (y_move rfl) rfl ?_
             refine Wl.y (y_eq (y_mul rfl rfl) (int_eq (sg_mul b hx1))) rfl ?_
             refine Wl.call txt118RefB rfl rfl (Sign_r _ _ _) rfl ?_
             rintro _ w_ ⟨rfl, hw_⟩
             have hw_ := hw_.symm; subst hw_
             refine Wl.y (y_assign rfl) rfl ?_
             refine Wl.y (y_assign rfl) rfl ?_
             refine Wl.nil ?_
             refine Wq.next hK_142 ?_
             refine Wc.ret ?_
             refine ret2 rfl rfl rfl ?_
             exact ⟨_, rfl, hT _ hx2.symm, hw⟩
end Go.Proofs.YtijkbinjdgjioaaGreatDoor
