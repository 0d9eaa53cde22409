/- math.Frexp, and a float's text, by the calculus. -/
import Derived.Test.YtcljmclolpgdmaaGreatDoorTextM
import Derived.Test.YtcljmclolpgdmaaGreatDoorLibA
namespace Go.Proofs.YtcljmclolpgdmaaGreatDoor
open Go.RowKit Go.Bw Go.Bw.Fl
set_option linter.unusedVariables false
set_option linter.unusedSimpArgs false
theorem exn32NumB : Extn Tryz.prog 32 Extern.MathFloatBits.float64frombits := fun args w => run_callFunc_extern Tryz.func32 (by kernel_rfl) (by kernel_rfl) (by kernel_rfl) (by kernel_rfl) args w
theorem exn53NumB : Extn Tryz.prog 53 Extern.MathFloatBits.float64bits := fun args w => run_callFunc_extern Tryz.func53 (by kernel_rfl) (by kernel_rfl) (by kernel_rfl) (by kernel_rfl) args w
theorem txt125NumB : Txt Tryz.prog 125 := ⟨_, Tryz.func125, by kernel_rfl, rfl⟩   -- math.frexp
theorem txt160NumB : Txt Tryz.prog 160 := ⟨_, Tryz.func160, by kernel_rfl, rfl⟩   -- math.IsNaN
theorem txt161NumB : Txt Tryz.prog 161 := ⟨_, Tryz.func161, by kernel_rfl, rfl⟩   -- math.normalize
theorem txt67NumB : Txt Tryz.prog 67 := ⟨_, Tryz.func67, by kernel_rfl, rfl⟩   -- math.Signbit
theorem txt68NumB : Txt Tryz.prog 68 := ⟨_, Tryz.func68, by kernel_rfl, rfl⟩   -- math.IsInf
theorem txt69NumB : Txt Tryz.prog 69 := ⟨_, Tryz.func69, by kernel_rfl, rfl⟩   -- math.Frexp
theorem txt70NumB : Txt Tryz.prog 70 := ⟨_, Tryz.func70, by kernel_rfl, rfl⟩   -- math.Abs
theorem txt71NumB : Txt Tryz.prog 71 := ⟨_, Tryz.func71, by kernel_rfl, rfl⟩   -- math.Floor
theorem txt72NumB : Txt Tryz.prog 72 := ⟨_, Tryz.func72, by kernel_rfl, rfl⟩   -- strconv.FormatUint
theorem txt73NumB : Txt Tryz.prog 73 := ⟨_, Tryz.func73, by kernel_rfl, rfl⟩   -- strconv.Itoa
theorem rung_pos {r : Nat} (h : r < 9218868437227405313) : rung r = r := Nat.mod_eq_of_lt (by omega)
theorem neg_pos {r : Nat} (h : r < 9218868437227405313) : isNeg r = false := by unfold isNeg; rw [Nat.div_eq_of_lt (by omega)]; rfl
theorem nan_pos {r : Nat} (h : r < 9218868437227405313) : isNan r = false := by unfold isNan; rw [Nat.mod_eq_of_lt (by omega)]; simp; omega
theorem val_pos {r : Nat} (h : r < 9218868437227405313) : val r = (V r : Int) := by unfold val; rw [neg_pos h, rung_pos h]; rfl
theorem lt_pos {r s : Nat} (h : r < 9218868437227405313) (hs : s < 9218868437227405313) : (Ieee.double.order r s == some .lt) = decide (r < s) := by
  rw [lt_val, nan_pos h, nan_pos hs, val_pos h, val_pos hs]
  simp only [Bool.not_false, Bool.true_and]
  apply decide_eq_decide.2
  rw [← V_lt_iff (r := r)]; omega
theorem eq_zero_f (b : Nat) : (Ieee.double.order b 0 == some .eq) = (!isNan b && decide (rung b = 0)) := by
  have h0 : val 0 = 0 := by decide
  have h1 : isNan 0 = false := by decide
  rw [eq_val, h0, h1]
  simp only [Bool.not_false, Bool.and_true]
  congr 1
  exact decide_eq_decide.2 val_zero
theorem ne_self_f (b : Nat) : (FloatKind.f64.format.order b b != some .eq) = isNan b := by
  show (!(Ieee.double.order b b == some .eq)) = _
  rw [eq_val]; simp

theorem normalize_r (r : Nat) (h0 : r ≠ 0) (h1 : r < 9218868437227405312) (w : World) : Ret Tryz.prog 161 [.float .f64 r] w fun v w' => (∃ r' s, v = .tuple #[.float .f64 r', .int .i64 s] ∧ Nrm r r' s) ∧ w' = w := by
  have hr : rung r = r := rung_pos (by omega)
  have hc : (FloatKind.f64.format.order (rung r) 4503599627370496 == some .lt) = decide (r < 4503599627370496) := by rw [hr]; exact lt_pos (by omega) (by decide)
  obtain ⟨r', hr'⟩ : ∃ r', r < 4503599627370496 → (r' < 9218868437227405312 ∧ 4503599627370496 ≤ r' ∧ V r' = r * 2 ^ 52 ∧ floatBits .mul .f64 r 4841369599423283200 = some r') := by
    by_cases h : r < 4503599627370496
    · obtain ⟨r', a, b, _, c, d⟩ := normal_of h0 h
      exact ⟨r', fun _ => ⟨a, b, c, d⟩⟩
    · exact ⟨0, fun h' => absurd h' h⟩
  refine enter Tryz.func161 rfl rfl rfl ?_
  refine Wc.seq fun _ hK_1 => ?_
  refine Wc.region ?_
  refine Wl.y (y_assign rfl) rfl ?_
  refine Wl.y (y_assign rfl) rfl ?_
  refine Wl.nil ?_
  refine Wq.next hK_1 ?_
  refine Wc.seq fun _ hK_4 => ?_
  refine Wc.seq fun _ hK_5 => ?_
  refine Wc.region ?_
  refine Wl.y (y_move rfl) rfl ?_
  refine Wl.call txt70NumB rfl rfl (Abs_r r (by omega) _) rfl ?_
  rintro _ _ ⟨rfl, rfl⟩
  refine Wl.y (y_lssf rfl rfl) rfl ?_
  refine Wl.nil ?_
  refine Wq.next hK_5 ?_
  rw [hc]
  refine Wc.cond rfl (fun c0_9 => ?_) (fun c0_9 => ?_)
  ·
   have c0_9_ := c0_9
   try simp only [decide_eq_true_eq, decide_eq_false_iff_not, beq_iff_eq, beq_eq_false_iff_ne, bne_iff_ne, bne_eq_false_iff_eq, Bool.not_eq_true', Bool.not_eq_false', Bool.not_eq_eq_eq_not, Bool.not_true, Bool.not_false, ne_eq, Int.not_lt, Int.not_le] at c0_9
   refine Wc.seq fun _ hK_10 => ?_
   refine Wc.region ?_
   refine Wl.y (y_move rfl) rfl ?_
   refine Wl.y (y_mulf rfl rfl ((hr' c0_9).2.2.2)) rfl ?_
   refine Wl.y (y_assign rfl) rfl ?_
   refine Wl.y (y_assign rfl) rfl ?_
   refine Wl.nil ?_
   refine Wq.next hK_10 ?_
   refine Wc.ret ?_
   refine Wq.then_ret ?_
   refine ret2 rfl rfl rfl ?_
   exact ⟨_, rfl, ⟨_, _, rfl, (hr' c0_9).1, (hr' c0_9).2.1, .inl ⟨c0_9, rfl, (hr' c0_9).2.2.1⟩⟩, rfl⟩
  ·
   have c0_9_ := c0_9
   try simp only [decide_eq_true_eq, decide_eq_false_iff_not, beq_iff_eq, beq_eq_false_iff_ne, bne_iff_ne, bne_eq_false_iff_eq, Bool.not_eq_true', Bool.not_eq_false', Bool.not_eq_eq_eq_not, Bool.not_true, Bool.not_false, ne_eq, Int.not_lt, Int.not_le] at c0_9
   refine Wc.skip ?_
   refine Wq.next hK_4 ?_
   refine Wc.seq fun _ hK_15 => ?_
   refine Wc.region ?_
   refine Wl.y (y_move rfl) rfl ?_
   refine Wl.y (y_assign rfl) rfl ?_
   refine Wl.y (y_assign rfl) rfl ?_
   refine Wl.nil ?_
   refine Wq.next hK_15 ?_
   refine Wc.ret ?_
   refine ret2 rfl rfl rfl ?_
   exact ⟨_, rfl, ⟨_, _, rfl, h1, Nat.le_of_not_lt c0_9, .inr ⟨Nat.le_of_not_lt c0_9, rfl, rfl⟩⟩, rfl⟩

theorem frexp_r (r : Nat) (h0 : r ≠ 0) (h1 : r < 9218868437227405312) (w : World) : Ret Tryz.prog 125 [.float .f64 r] w fun v w' => (∃ M e, v = .tuple #[.float .f64 (Wk 0 M), .int .i64 e] ∧ Frx r M e ∧ -2000 ≤ e ∧ e ≤ 2000) ∧ w' = w := by
  have hr : rung r = r := rung_pos (by omega)
  have hc0 : (FloatKind.f64.format.order r 0 == some .eq) = false := by
    have := eq_zero_f r
    rw [hr, decide_eq_false h0, Bool.and_false] at this; exact this
  refine enter Tryz.func125 rfl rfl rfl ?_
  refine Wc.seq fun _ hK_1 => ?_
  refine Wc.region ?_
  refine Wl.y (y_assign rfl) rfl ?_
  refine Wl.y (y_assign rfl) rfl ?_
  refine Wl.nil ?_
  refine Wq.next hK_1 ?_
  refine Wc.seq fun _ hK_4 => ?_
  refine Wc.block ?_
  refine Wc.seq fun _ hK_5 => ?_
  refine Wc.region ?_
  refine Wl.y (y_move rfl) rfl ?_
  refine Wl.y (y_eqlf rfl rfl) rfl ?_
  refine Wl.y (y_assign rfl) rfl ?_
  refine Wl.nil ?_
  refine Wq.next hK_5 ?_
  rw [hc0]
  refine Wc.cond rfl (fun c0_9 => ?_) (fun c0_9 => ?_)
  ·
   have c0_9_ := c0_9
   try simp only [decide_eq_true_eq, decide_eq_false_iff_not, beq_iff_eq, beq_eq_false_iff_ne, bne_iff_ne, bne_eq_false_iff_eq, Bool.not_eq_true', Bool.not_eq_false', Bool.not_eq_eq_eq_not, Bool.not_true, Bool.not_false, ne_eq, Int.not_lt, Int.not_le] at c0_9
   cases c0_9_
  ·
   have c0_9_ := c0_9
   try simp only [decide_eq_true_eq, decide_eq_false_iff_not, beq_iff_eq, beq_eq_false_iff_ne, bne_iff_ne, bne_eq_false_iff_eq, Bool.not_eq_true', Bool.not_eq_false', Bool.not_eq_eq_eq_not, Bool.not_true, Bool.not_false, ne_eq, Int.not_lt, Int.not_le] at c0_9
   refine Wc.seq fun _ hK_10 => ?_
   refine Wc.region ?_
   refine Wl.y (y_move rfl) rfl ?_
   refine Wl.call txt68NumB rfl rfl (IsInf_r r (by omega) _) rfl ?_
   rintro _ _ ⟨rfl, rfl⟩
   rw [hr, decide_eq_false (by omega)]
   refine Wl.y (y_move rfl) rfl ?_
   refine Wl.guardF rfl rfl rfl (fun g_14 => ?_) (fun g_14 => ?_)
   ·
    have g_14_ := g_14
    try simp only [decide_eq_true_eq, decide_eq_false_iff_not, beq_iff_eq, beq_eq_false_iff_ne, bne_iff_ne, bne_eq_false_iff_eq, Bool.not_eq_true', Bool.not_eq_false', Bool.not_eq_eq_eq_not, Bool.not_true, Bool.not_false, ne_eq, Int.not_lt, Int.not_le] at g_14
    cases g_14_
   ·
    have g_14_ := g_14
    try simp only [decide_eq_true_eq, decide_eq_false_iff_not, beq_iff_eq, beq_eq_false_iff_ne, bne_iff_ne, bne_eq_false_iff_eq, Bool.not_eq_true', Bool.not_eq_false', Bool.not_eq_eq_eq_not, Bool.not_true, Bool.not_false, ne_eq, Int.not_lt, Int.not_le] at g_14
    refine Wl.y (y_move rfl) rfl ?_
    refine Wl.on' rfl rfl g_14_ ?_
    refine Wl.call txt160NumB rfl rfl (IsNaN_r r _) rfl ?_
    rintro _ _ ⟨rfl, rfl⟩
    rw [nan_pos (by omega)]
    refine Wl.y (y_pickF rfl g_14_ rfl) rfl ?_
    refine Wl.y (y_assign rfl) rfl ?_
    refine Wl.nil ?_
    refine Wq.next hK_10 ?_
    refine Wc.cond rfl (fun c1_19 => ?_) (fun c1_19 => ?_)
    ·
     have c1_19_ := c1_19
     try simp only [decide_eq_true_eq, decide_eq_false_iff_not, beq_iff_eq, beq_eq_false_iff_ne, bne_iff_ne, bne_eq_false_iff_eq, Bool.not_eq_true', Bool.not_eq_false', Bool.not_eq_eq_eq_not, Bool.not_true, Bool.not_false, ne_eq, Int.not_lt, Int.not_le] at c1_19
     cases c1_19_
    ·
     have c1_19_ := c1_19
     try simp only [decide_eq_true_eq, decide_eq_false_iff_not, beq_iff_eq, beq_eq_false_iff_ne, bne_iff_ne, bne_eq_false_iff_eq, Bool.not_eq_true', Bool.not_eq_false', Bool.not_eq_eq_eq_not, Bool.not_true, Bool.not_false, ne_eq, Int.not_lt, Int.not_le] at c1_19
     refine Wc.skip ?_
     refine Wq.block_normal ?_
     refine Wq.next hK_4 ?_
     refine Wc.seq fun _ hK_20 => ?_
     refine Wc.region ?_
     refine Wl.y (y_move rfl) rfl ?_
     refine Wl.call txt161NumB rfl rfl (normalize_r r h0 h1 _) rfl ?_
     rintro _ _ ⟨⟨r', s, rfl, hN⟩, rfl⟩
     have hq1 := hN.1
     have hq2 : r' / 4503599627370496 < 2047 := by omega
     have hq4 : 1 ≤ r' / 4503599627370496 := by have := hN.2.1; omega
     have hq3 : s = -52 ∨ s = 0 := by rcases hN.2.2 with h | h <;> simp [h.2.1]
     refine Wl.y (y_move rfl) rfl ?_
     refine Wl.y (y_extract rfl rfl) rfl ?_
     refine Wl.y (y_extract rfl rfl) rfl ?_
     refine Wl.y (y_assign rfl) rfl ?_
     refine Wl.y (y_assign rfl) rfl ?_
     refine Wl.nil ?_
     refine Wq.next hK_20 ?_
     refine Wc.seq fun _ hK_28 => ?_
     refine Wc.region ?_
     refine Wl.y (y_move rfl) rfl ?_
     refine Wl.y (y_f2b exn53NumB rfl rfl) rfl ?_
     refine Wl.y (y_assign rfl) rfl ?_
     refine Wl.nil ?_
     refine Wq.next hK_28 ?_
     refine Wc.seq fun _ hK_32 => ?_
     refine Wc.region ?_
     refine Wl.y (y_move rfl) rfl ?_
     refine Wl.y (y_move rfl) rfl ?_
     refine Wl.y (y_eq (y_shr rfl rfl (by first | decide | omega) (by first | decide | omega)) (int_eq (sh52 r'))) rfl ?_
     refine Wl.y (y_eq (y_and rfl rfl) (int_eq ((and2047 _ (by omega)).trans (by rw [Nat.mod_eq_of_lt (show r' / 4503599627370496 < 2048 by omega)])))) rfl ?_
     refine Wl.y (y_eq (y_convi Tryz.underlying22 Tryz.underlying3 rfl) (int_eq (conv_u64_i64 _ (by omega)))) rfl ?_
     refine Wl.y (y_subI rfl rfl (by first | omega | (simp; done) | (simp; omega)) (by first | omega | (simp; done) | (simp; omega))) rfl ?_
     refine Wl.y (y_addI rfl rfl (by first | omega | (simp; done) | (simp; omega)) (by first | omega | (simp; done) | (simp; omega))) rfl ?_
     refine Wl.y (y_addI rfl rfl (by first | omega | (simp; done) | (simp; omega)) (by first | omega | (simp; done) | (simp; omega))) rfl ?_
     refine Wl.y (y_assign rfl) rfl ?_
     refine Wl.nil ?_
     refine Wq.next hK_32 ?_
     refine Wc.seq fun _ hK_42 => ?_
     refine Wc.region ?_
     refine Wl.y (y_move rfl) rfl ?_
     refine Wl.y (y_eq (y_andNot rfl rfl) (int_eq (clearExp r' (by omega)))) rfl ?_
     refine Wl.y (y_assign rfl) rfl ?_
     refine Wl.nil ?_
     refine Wq.next hK_42 ?_
     refine Wc.seq fun _ hK_46 => ?_
     refine Wc.region ?_
     refine Wl.y (y_move rfl) rfl ?_
     refine Wl.y (y_eq (y_or rfl rfl) (int_eq (orHalf _ (Nat.mod_lt _ (by decide))))) rfl ?_
     refine Wl.y (y_assign rfl) rfl ?_
     refine Wl.nil ?_
     refine Wq.next hK_46 ?_
     refine Wc.seq fun _ hK_50 => ?_
     refine Wc.region ?_
     refine Wl.y (y_move rfl) rfl ?_
     refine Wl.y (y_b2f exn32NumB rfl rfl) rfl ?_
     refine Wl.y (y_assign rfl) rfl ?_
     refine Wl.nil ?_
     refine Wq.next hK_50 ?_
     refine Wc.ret ?_
     refine ret2 rfl rfl rfl ?_
     exact ⟨_, rfl, ⟨4503599627370496 + r' % 4503599627370496, s + (((r' / 4503599627370496 : Nat) : Int) - 1022), by
  rw [Int.toNat_natCast, show Wk 0 (4503599627370496 + r' % 4503599627370496) = 4602678819172646912 + r' % 4503599627370496 by unfold Wk; omega]
  rw [show s + (((r' / 4503599627370496 : Nat) : Int) - 1023 + 1) = s + (((r' / 4503599627370496 : Nat) : Int) - 1022) by omega], frx_of h0 hN, by omega, by omega⟩, rfl⟩

theorem Frexp_r (r : Nat) (h0 : r ≠ 0) (h1 : r < 9218868437227405312) (w : World) : Ret Tryz.prog 69 [.float .f64 r] w fun v w' => (∃ M e, v = .tuple #[.float .f64 (Wk 0 M), .int .i64 e] ∧ Frx r M e ∧ -2000 ≤ e ∧ e ≤ 2000) ∧ w' = w := by
  refine enter Tryz.func69 rfl rfl rfl ?_
  refine Wc.seq fun _ hK_1 => ?_
  refine Wc.region ?_
  refine Wl.y (y_assign rfl) rfl ?_
  refine Wl.y (y_assign rfl) rfl ?_
  refine Wl.nil ?_
  refine Wq.next hK_1 ?_
  refine Wc.seq fun _ hK_4 => ?_
  refine Wc.condF rfl rfl ?_
  refine Wc.skip ?_
  refine Wq.next hK_4 ?_
  refine Wc.seq fun _ hK_5 => ?_
  refine Wc.region ?_
  refine Wl.y (y_move rfl) rfl ?_
  refine Wl.call txt125NumB rfl rfl (frexp_r r h0 h1 _) rfl ?_
  rintro _ _ ⟨⟨M, e, rfl, hF⟩, rfl⟩
  refine Wl.y (y_extract rfl rfl) rfl ?_
  refine Wl.y (y_extract rfl rfl) rfl ?_
  refine Wl.y (y_assign rfl) rfl ?_
  refine Wl.y (y_assign rfl) rfl ?_
  refine Wl.nil ?_
  refine Wq.next hK_5 ?_
  refine Wc.ret ?_
  refine ret2 rfl rfl rfl ?_
  exact ⟨_, rfl, ⟨M, e, rfl, hF⟩, rfl⟩

theorem sgn_le (b : Nat) : (sgn b).length ≤ 1 := by unfold sgn; split <;> simp
theorem ne_tt {b : Bool} (h : b = false) : ¬ b = true := by simp [h]
theorem text_nan {b : Nat} (h : isNan b = true) : str [110, 97, 110] = str (textF b) := by unfold textF; rw [if_pos h]
theorem text_inf {b : Nat} (h : isNan b = false) (h2 : rung b = 9218868437227405312) : textF b = sgn b ++ [105, 110, 102] := by unfold textF; rw [if_neg (ne_tt h), if_pos h2]
theorem text_zero {b : Nat} (h : isNan b = false) (h2 : ¬ rung b = 9218868437227405312) (h3 : rung b = 0) : textF b = sgn b ++ [48, 112, 48] := by unfold textF; rw [if_neg (ne_tt h), if_neg h2, if_pos h3]
theorem text_num {b : Nat} (h : isNan b = false) (h2 : ¬ rung b = 9218868437227405312) (h3 : ¬ rung b = 0) : textF b = sgn b ++ Lib.decDigits (od (mant0 (rung b))) ++ [112] ++ Lib.itoa (exp0 (rung b) + v2 (mant0 (rung b))) := by unfold textF; rw [if_neg (ne_tt h), if_neg h2, if_neg h3]
theorem Text_r (b : Nat) (hb0 : b < 18446744073709551616) (w : World) (hL : Lb w) : Ret Tryz.prog 35 [.float .f64 b] w fun v w' => v = str (textF b) ∧ Below w.heap.size w w' := by
  have hz : (FloatKind.f64.format.order b 0 == some .eq) = (!isNan b && decide (rung b = 0)) := eq_zero_f b
  have hsl := sgn_le b
  have hb := Below.refl w.heap.size w
  have hL_hb := hL
  refine enter Tryz.func35 rfl rfl rfl ?_
  refine Wc.seq fun _ hK_1 => ?_
  refine Wc.region ?_
  refine Wl.y (y_assign rfl) rfl ?_
  refine Wl.nil ?_
  refine Wq.next hK_1 ?_
  refine Wc.seq fun _ hK_3 => ?_
  refine Wc.region ?_
  refine Wl.y (y_assign rfl) rfl ?_
  refine Wl.nil ?_
  refine Wq.next hK_3 ?_
  refine Wc.seq fun _ hK_5 => ?_
  refine Wc.seq fun _ hK_6 => ?_
  refine Wc.region ?_
  refine Wl.y (y_move rfl) rfl ?_
  refine Wl.call txt67NumB rfl rfl (Signbit_r b hb0 _) rfl ?_
  rintro _ w_ ⟨rfl, hw_⟩
  have hw_ := hw_.symm; subst hw_
  refine Wl.nil ?_
  refine Wq.next hK_6 ?_
  refine Wc.cond rfl (fun c0_9 => ?_) (fun c0_9 => ?_)
  ·
   have c0_9_ := c0_9
   try simp only [decide_eq_true_eq, decide_eq_false_iff_not, beq_iff_eq, beq_eq_false_iff_ne, bne_iff_ne, bne_eq_false_iff_eq, Bool.not_eq_true', Bool.not_eq_false', Bool.not_eq_eq_eq_not, Bool.not_true, Bool.not_false, ne_eq, Int.not_lt, Int.not_le] at c0_9
   have hs : sgn b = [45] := if_pos c0_9_
   refine Wc.region ?_
   refine Wl.y (y_assign rfl) rfl ?_
   refine Wl.nil ?_
   refine Wq.next hK_5 ?_
   refine Wc.seq fun _ hK_11 => ?_
   refine Wc.block ?_
   refine Wc.seq fun _ hK_12 => ?_
   refine Wc.region ?_
   refine Wl.y (y_move rfl) rfl ?_
   refine Wl.y (y_move rfl) rfl ?_
   refine Wl.y (y_neqf rfl rfl) rfl ?_
   refine Wl.y (y_assign rfl) rfl ?_
   refine Wl.nil ?_
   refine Wq.next hK_12 ?_
   rw [ne_self_f]
   refine Wc.cond rfl (fun c1_17 => ?_) (fun c1_17 => ?_)
   ·
    have c1_17_ := c1_17
    try simp only [decide_eq_true_eq, decide_eq_false_iff_not, beq_iff_eq, beq_eq_false_iff_ne, bne_iff_ne, bne_eq_false_iff_eq, Bool.not_eq_true', Bool.not_eq_false', Bool.not_eq_eq_eq_not, Bool.not_true, Bool.not_false, ne_eq, Int.not_lt, Int.not_le] at c1_17
    refine Wc.seq fun _ hK_18 => ?_
    refine Wc.region ?_
    refine Wl.y (y_assign rfl) rfl ?_
    refine Wl.nil ?_
    refine Wq.next hK_18 ?_
    refine Wc.ret ?_
    refine Wq.block_ret (Wq.then_ret ?_)
    refine ret1 rfl rfl ?_
    exact ⟨_, rfl, text_nan c1_17_, hb⟩
   ·
    have c1_17_ := c1_17
    try simp only [decide_eq_true_eq, decide_eq_false_iff_not, beq_iff_eq, beq_eq_false_iff_ne, bne_iff_ne, bne_eq_false_iff_eq, Bool.not_eq_true', Bool.not_eq_false', Bool.not_eq_eq_eq_not, Bool.not_true, Bool.not_false, ne_eq, Int.not_lt, Int.not_le] at c1_17
    refine Wc.seq fun _ hK_20 => ?_
    refine Wc.region ?_
    refine Wl.y (y_move rfl) rfl ?_
    refine Wl.call txt68NumB rfl rfl (IsInf_r b hb0 _) rfl ?_
    rintro _ w_ ⟨rfl, hw_⟩
    have hw_ := hw_.symm; subst hw_
    refine Wl.y (y_assign rfl) rfl ?_
    refine Wl.nil ?_
    refine Wq.next hK_20 ?_
    refine Wc.cond rfl (fun c2_24 => ?_) (fun c2_24 => ?_)
    ·
     have c2_24_ := c2_24
     try simp only [decide_eq_true_eq, decide_eq_false_iff_not, beq_iff_eq, beq_eq_false_iff_ne, bne_iff_ne, bne_eq_false_iff_eq, Bool.not_eq_true', Bool.not_eq_false', Bool.not_eq_eq_eq_not, Bool.not_true, Bool.not_false, ne_eq, Int.not_lt, Int.not_le] at c2_24
     refine Wc.seq fun _ hK_25 => ?_
     refine Wc.region ?_
     refine Wl.y (y_move rfl) rfl ?_
     refine Wl.y (y_adds rfl rfl (by first | omega | (simp; done) | (simp; omega))) rfl ?_
     refine Wl.y (y_assign rfl) rfl ?_
     refine Wl.nil ?_
     refine Wq.next hK_25 ?_
     refine Wc.ret ?_
     refine Wq.block_ret (Wq.then_ret ?_)
     refine ret1 rfl rfl ?_
     exact ⟨_, rfl, by rw [text_inf c1_17_ c2_24, hs], hb⟩
    ·
     have c2_24_ := c2_24
     try simp only [decide_eq_true_eq, decide_eq_false_iff_not, beq_iff_eq, beq_eq_false_iff_ne, bne_iff_ne, bne_eq_false_iff_eq, Bool.not_eq_true', Bool.not_eq_false', Bool.not_eq_eq_eq_not, Bool.not_true, Bool.not_false, ne_eq, Int.not_lt, Int.not_le] at c2_24
     refine Wc.seq fun _ hK_29 => ?_
     refine Wc.region ?_
     refine Wl.y (y_move rfl) rfl ?_
     refine Wl.y (y_eqlf rfl rfl) rfl ?_
     refine Wl.y (y_assign rfl) rfl ?_
     refine Wl.nil ?_
     refine Wq.next hK_29 ?_
     rw [hz, c1_17_, Bool.not_false, Bool.true_and]
     refine Wc.cond rfl (fun c3_33 => ?_) (fun c3_33 => ?_)
     ·
      have c3_33_ := c3_33
      try simp only [decide_eq_true_eq, decide_eq_false_iff_not, beq_iff_eq, beq_eq_false_iff_ne, bne_iff_ne, bne_eq_false_iff_eq, Bool.not_eq_true', Bool.not_eq_false', Bool.not_eq_eq_eq_not, Bool.not_true, Bool.not_false, ne_eq, Int.not_lt, Int.not_le] at c3_33
      refine Wc.seq fun _ hK_34 => ?_
      refine Wc.region ?_
      refine Wl.y (y_move rfl) rfl ?_
      refine Wl.y (y_adds rfl rfl (by first | omega | (simp; done) | (simp; omega))) rfl ?_
      refine Wl.y (y_assign rfl) rfl ?_
      refine Wl.nil ?_
      refine Wq.next hK_34 ?_
      refine Wc.ret ?_
      refine Wq.block_ret (Wq.then_ret ?_)
      refine ret1 rfl rfl ?_
      exact ⟨_, rfl, by rw [text_zero c1_17_ c2_24 c3_33, hs], hb⟩
     ·
      have c3_33_ := c3_33
      try simp only [decide_eq_true_eq, decide_eq_false_iff_not, beq_iff_eq, beq_eq_false_iff_ne, bne_iff_ne, bne_eq_false_iff_eq, Bool.not_eq_true', Bool.not_eq_false', Bool.not_eq_eq_eq_not, Bool.not_true, Bool.not_false, ne_eq, Int.not_lt, Int.not_le] at c3_33
      have hr0 : rung b ≠ 0 := c3_33
      have hr1 : rung b < 9218868437227405312 := by have h5 : isNan b = false := c1_17_; have h6 : rung b ≤ 9218868437227405312 := by { simpa [isNan, rung] using h5 }; have h7 := c2_24; omega
      refine Wc.skip ?_
      refine Wq.block_normal ?_
      refine Wq.next hK_11 ?_
      refine Wc.seq fun _ hK_38 => ?_
      refine Wc.region ?_
      refine Wl.y (y_move rfl) rfl ?_
      refine Wl.call txt70NumB rfl rfl (Abs_r b hb0 _) rfl ?_
      rintro _ w_ ⟨rfl, hw_⟩
      have hw_ := hw_.symm; subst hw_
      refine Wl.call txt69NumB rfl rfl (Frexp_r (rung b) hr0 hr1 _) rfl ?_
      rintro _ w_ ⟨⟨M, e, rfl, ⟨hM, s, hs52, hMs, hes⟩, he0, he1⟩, hw_⟩
      have hw_ := hw_.symm; subst hw_
      refine Wl.y (y_move rfl) rfl ?_
      refine Wl.y (y_extract rfl rfl) rfl ?_
      refine Wl.y (y_extract rfl rfl) rfl ?_
      refine Wl.y (y_assign rfl) rfl ?_
      refine Wl.y (y_assign rfl) rfl ?_
      refine Wl.nil ?_
      refine Wq.next hK_38 ?_
      refine Wc.seq fun _ hK_47 => ?_
      refine Wc.block ?_
      have hod := (od_spec _ (mant0_ne hr0)).2
      have hdv : ∀ k, k ≤ 53 → (2 ^ (53 - k) ∣ M ↔ 53 - k ≤ s) := fun k _ => by rw [hMs]; exact dvd_pow hod
      refine Wc.loop (X := Nat) (fun k => [(3, str (sgn b)), (4, .float .f64 (Wk k M)), (5, .int .i64 (e - (k : Int)))]) (fun k wr => k + s ≤ 53 ∧ w = wr) (fun k => 53 - k) (0) ?_ ?_ ?_
      · exact Sub.cons' rfl (by first | rfl | exact str_eq hs.symm | exact str_eq hs | exact int_eq (by omega) | exact int_eq (by simp)) (Sub.cons' rfl (by first | rfl | exact str_eq hs.symm | exact str_eq hs | exact int_eq (by omega) | exact int_eq (by simp)) (Sub.cons' rfl (by first | rfl | exact str_eq hs.symm | exact str_eq hs | exact int_eq (by omega) | exact int_eq (by simp)) (Sub.nil)))
      · exact ⟨by omega, rfl⟩
      ·
       rintro k wr hI_49 _ hL_48
       replace hI_49 : k + s ≤ 53 ∧ w = wr := hI_49
       obtain ⟨hk, hw_⟩ := hI_49
       show Wc _ _ _ _ _ [(3, str (sgn b)), (4, .float .f64 (Wk k M)), (5, .int .i64 (e - (k : Int)))] _
       have hL := hL_hb.below hb
       try have hzhb_L0 := hb.size
       subst hw_
       have hb := Below.refl w.heap.size w
       refine Wc.seq fun _ hK_50 => ?_
       refine Wc.seq fun _ hK_51 => ?_
       refine Wc.region ?_
       refine Wl.y (y_move rfl) rfl ?_
       refine Wl.y (y_move rfl) rfl ?_
       refine Wl.call txt71NumB rfl rfl (Floor_r (Wk k M) (Wk_nan hM (by omega)) _) rfl ?_
       rintro _ w_ ⟨rfl, hw_⟩
       have hw_ := hw_.symm; subst hw_
       refine Wl.y (y_neqf rfl rfl) rfl ?_
       refine Wl.nil ?_
       refine Wq.next hK_51 ?_
       rw [show (FloatKind.f64.format.order (Wk k M) (floorW (Wk k M)) != some .eq) = !decide (2 ^ (53 - k) ∣ M) from congrArg (fun x => !x) (whole_Wk hM (by omega))]
       refine Wc.cond rfl (fun c4_56 => ?_) (fun c4_56 => ?_)
       ·
        have c4_56_ := c4_56
        try simp only [decide_eq_true_eq, decide_eq_false_iff_not, beq_iff_eq, beq_eq_false_iff_ne, bne_iff_ne, bne_eq_false_iff_eq, Bool.not_eq_true', Bool.not_eq_false', Bool.not_eq_eq_eq_not, Bool.not_true, Bool.not_false, ne_eq, Int.not_lt, Int.not_le] at c4_56
        have hkl := mt (hdv k (by omega)).2 c4_56
        refine Wc.skip ?_
        refine Wq.next hK_50 ?_
        refine Wc.block ?_
        refine Wc.seq fun _ hK_57 => ?_
        refine Wc.region ?_
        refine Wl.y (y_move rfl) rfl ?_
        refine Wl.y (y_mulf rfl rfl (mul_two hM (by omega))) rfl ?_
        refine Wl.y (y_assign rfl) rfl ?_
        refine Wl.nil ?_
        refine Wq.next hK_57 ?_
        refine Wc.region ?_
        refine Wl.y (y_move rfl) rfl ?_
        refine Wl.y (y_subI rfl rfl (by first | omega | (simp; done) | (simp; omega)) (by first | omega | (simp; done) | (simp; omega))) rfl ?_
        refine Wl.y (y_assign rfl) rfl ?_
        refine Wl.nil ?_
        refine Wq.block_normal ?_
        refine fun a_ ha_ => hL_48 _ _ (k + 1) (by first | omega | (simp; omega)) (Sub.cons' rfl (by first | rfl | exact str_eq hs.symm | exact str_eq hs | exact int_eq (by omega) | exact int_eq (by simp)) (Sub.cons' rfl (by first | rfl | exact str_eq hs.symm | exact str_eq hs | exact int_eq (by omega) | exact int_eq (by simp)) (Sub.cons' rfl (by first | rfl | exact str_eq hs.symm | exact str_eq hs | exact int_eq (by omega) | exact int_eq (by simp)) (Sub.nil)))) ?_ a_ ha_
        exact ⟨by omega, rfl⟩
       ·
        have c4_56_ := c4_56
        try simp only [decide_eq_true_eq, decide_eq_false_iff_not, beq_iff_eq, beq_eq_false_iff_ne, bne_iff_ne, bne_eq_false_iff_eq, Bool.not_eq_true', Bool.not_eq_false', Bool.not_eq_eq_eq_not, Bool.not_true, Bool.not_false, ne_eq, Int.not_lt, Int.not_le] at c4_56
        have hkd := (hdv k (by omega)).1 c4_56
        have hks : 53 - k = s := by omega
        have hq : M / 2 ^ (53 - k) = od (mant0 (rung b)) := by rw [hks, hMs, Nat.mul_div_cancel _ (Nat.two_pow_pos s)]
        have hee : e - (k : Int) = exp0 (rung b) + v2 (mant0 (rung b)) := by omega
        have hM2 : M / 2 ^ (53 - k) < 9007199254740992 := Nat.lt_of_le_of_lt (Nat.div_le_self _ _) hM.hi
        have hl1 := decDigits_le (M / 2 ^ (53 - k)) (by omega)
        have hl2 := itoa_le (e - (k : Int)) (by omega) (by omega)
        refine Wc.exit ?_
        refine Wq.then_exit ?_
        refine Wq.then_exit ?_
        refine Wq.block_exit ?_
        refine Wq.next hK_47 ?_
        refine Wc.seq fun _ hK_64 => ?_
        refine Wc.region ?_
        refine Wl.y (y_move rfl) rfl ?_
        refine Wl.y (y_move rfl) rfl ?_
        refine Wl.y (y_f2i (by kernel_rfl) Tryz.underlying22 rfl (int_Wk hM (by omega))) rfl ?_
        refine Wl.call txt72NumB rfl rfl (FormatUint_r _ (by omega) _ hL) rfl ?_
        rintro _ w_k5 ⟨rfl, hs_k5⟩
        have hz_k5 := hs_k5.size
        have hb := hb.trans (hs_k5.mono hb.size)
        have hL := hL_hb.below hb
        refine Wl.y (y_adds rfl rfl (by first | omega | (simp; done) | (simp; omega))) rfl ?_
        refine Wl.y (y_adds rfl rfl (by first | omega | (simp; done) | (simp; omega))) rfl ?_
        refine Wl.y (y_move rfl) rfl ?_
        refine Wl.call txt73NumB rfl rfl (Itoa_r _ (by omega) (by omega) _ hL) rfl ?_
        rintro _ w_k6 ⟨rfl, hs_k6⟩
        have hz_k6 := hs_k6.size
        have hb := hb.trans (hs_k6.mono hb.size)
        have hL := hL_hb.below hb
        refine Wl.y (y_adds rfl rfl (by first | omega | (simp; done) | (simp; omega))) rfl ?_
        refine Wl.y (y_assign rfl) rfl ?_
        refine Wl.nil ?_
        refine Wq.next hK_64 ?_
        refine Wc.ret ?_
        refine ret1 rfl rfl ?_
        exact ⟨_, rfl, by rw [text_num c1_17_ c2_24 c3_33, hq, hee], hb⟩
  ·
   have c0_9_ := c0_9
   try simp only [decide_eq_true_eq, decide_eq_false_iff_not, beq_iff_eq, beq_eq_false_iff_ne, bne_iff_ne, bne_eq_false_iff_eq, Bool.not_eq_true', Bool.not_eq_false', Bool.not_eq_eq_eq_not, Bool.not_true, Bool.not_false, ne_eq, Int.not_lt, Int.not_le] at c0_9
   have hs : sgn b = [] := if_neg (by rw [c0_9_]; simp)
   refine Wc.skip ?_
   refine Wq.next hK_5 ?_
   refine Wc.seq fun _ hK_75 => ?_
   refine Wc.block ?_
   refine Wc.seq fun _ hK_76 => ?_
   refine Wc.region ?_
   refine Wl.y (y_move rfl) rfl ?_
   refine Wl.y (y_move rfl) rfl ?_
   refine Wl.y (y_neqf rfl rfl) rfl ?_
   refine Wl.y (y_assign rfl) rfl ?_
   refine Wl.nil ?_
   refine Wq.next hK_76 ?_
   rw [ne_self_f]
   refine Wc.cond rfl (fun c1_81 => ?_) (fun c1_81 => ?_)
   ·
    have c1_81_ := c1_81
    try simp only [decide_eq_true_eq, decide_eq_false_iff_not, beq_iff_eq, beq_eq_false_iff_ne, bne_iff_ne, bne_eq_false_iff_eq, Bool.not_eq_true', Bool.not_eq_false', Bool.not_eq_eq_eq_not, Bool.not_true, Bool.not_false, ne_eq, Int.not_lt, Int.not_le] at c1_81
    refine Wc.seq fun _ hK_82 => ?_
    refine Wc.region ?_
    refine Wl.y (y_assign rfl) rfl ?_
    refine Wl.nil ?_
    refine Wq.next hK_82 ?_
    refine Wc.ret ?_
    refine Wq.block_ret (Wq.then_ret ?_)
    refine ret1 rfl rfl ?_
    exact ⟨_, rfl, text_nan c1_81_, hb⟩
   ·
    have c1_81_ := c1_81
    try simp only [decide_eq_true_eq, decide_eq_false_iff_not, beq_iff_eq, beq_eq_false_iff_ne, bne_iff_ne, bne_eq_false_iff_eq, Bool.not_eq_true', Bool.not_eq_false', Bool.not_eq_eq_eq_not, Bool.not_true, Bool.not_false, ne_eq, Int.not_lt, Int.not_le] at c1_81
    refine Wc.seq fun _ hK_84 => ?_
    refine Wc.region ?_
    refine Wl.y (y_move rfl) rfl ?_
    refine Wl.call txt68NumB rfl rfl (IsInf_r b hb0 _) rfl ?_
    rintro _ w_ ⟨rfl, hw_⟩
    have hw_ := hw_.symm; subst hw_
    refine Wl.y (y_assign rfl) rfl ?_
    refine Wl.nil ?_
    refine Wq.next hK_84 ?_
    refine Wc.cond rfl (fun c2_88 => ?_) (fun c2_88 => ?_)
    ·
     have c2_88_ := c2_88
     try simp only [decide_eq_true_eq, decide_eq_false_iff_not, beq_iff_eq, beq_eq_false_iff_ne, bne_iff_ne, bne_eq_false_iff_eq, Bool.not_eq_true', Bool.not_eq_false', Bool.not_eq_eq_eq_not, Bool.not_true, Bool.not_false, ne_eq, Int.not_lt, Int.not_le] at c2_88
     refine Wc.seq fun _ hK_89 => ?_
     refine Wc.region ?_
     refine Wl.y (y_move rfl) rfl ?_
     refine Wl.y (y_adds rfl rfl (by first | omega | (simp; done) | (simp; omega))) rfl ?_
     refine Wl.y (y_assign rfl) rfl ?_
     refine Wl.nil ?_
     refine Wq.next hK_89 ?_
     refine Wc.ret ?_
     refine Wq.block_ret (Wq.then_ret ?_)
     refine ret1 rfl rfl ?_
     exact ⟨_, rfl, by rw [text_inf c1_81_ c2_88, hs], hb⟩
    ·
     have c2_88_ := c2_88
     try simp only [decide_eq_true_eq, decide_eq_false_iff_not, beq_iff_eq, beq_eq_false_iff_ne, bne_iff_ne, bne_eq_false_iff_eq, Bool.not_eq_true', Bool.not_eq_false', Bool.not_eq_eq_eq_not, Bool.not_true, Bool.not_false, ne_eq, Int.not_lt, Int.not_le] at c2_88
     refine Wc.seq fun _ hK_93 => ?_
     refine Wc.region ?_
     refine Wl.y (y_move rfl) rfl ?_
     refine Wl.y (y_eqlf rfl rfl) rfl ?_
     refine Wl.y (y_assign rfl) rfl ?_
     refine Wl.nil ?_
     refine Wq.next hK_93 ?_
     rw [hz, c1_81_, Bool.not_false, Bool.true_and]
     refine Wc.cond rfl (fun c3_97 => ?_) (fun c3_97 => ?_)
     ·
      have c3_97_ := c3_97
      try simp only [decide_eq_true_eq, decide_eq_false_iff_not, beq_iff_eq, beq_eq_false_iff_ne, bne_iff_ne, bne_eq_false_iff_eq, Bool.not_eq_true', Bool.not_eq_false', Bool.not_eq_eq_eq_not, Bool.not_true, Bool.not_false, ne_eq, Int.not_lt, Int.not_le] at c3_97
      refine Wc.seq fun _ hK_98 => ?_
      refine Wc.region ?_
      refine Wl.y (y_move rfl) rfl ?_
      refine Wl.y (y_adds rfl rfl (by first | omega | (simp; done) | (simp; omega))) rfl ?_
      refine Wl.y (y_assign rfl) rfl ?_
      refine Wl.nil ?_
      refine Wq.next hK_98 ?_
      refine Wc.ret ?_
      refine Wq.block_ret (Wq.then_ret ?_)
      refine ret1 rfl rfl ?_
      exact ⟨_, rfl, by rw [text_zero c1_81_ c2_88 c3_97, hs], hb⟩
     ·
      have c3_97_ := c3_97
      try simp only [decide_eq_true_eq, decide_eq_false_iff_not, beq_iff_eq, beq_eq_false_iff_ne, bne_iff_ne, bne_eq_false_iff_eq, Bool.not_eq_true', Bool.not_eq_false', Bool.not_eq_eq_eq_not, Bool.not_true, Bool.not_false, ne_eq, Int.not_lt, Int.not_le] at c3_97
      have hr0 : rung b ≠ 0 := c3_97
      have hr1 : rung b < 9218868437227405312 := by have h5 : isNan b = false := c1_81_; have h6 : rung b ≤ 9218868437227405312 := by { simpa [isNan, rung] using h5 }; have h7 := c2_88; omega
      refine Wc.skip ?_
      refine Wq.block_normal ?_
      refine Wq.next hK_75 ?_
      refine Wc.seq fun _ hK_102 => ?_
      refine Wc.region ?_
      refine Wl.y (y_move rfl) rfl ?_
      refine Wl.call txt70NumB rfl rfl (Abs_r b hb0 _) rfl ?_
      rintro _ w_ ⟨rfl, hw_⟩
      have hw_ := hw_.symm; subst hw_
      refine Wl.call txt69NumB rfl rfl (Frexp_r (rung b) hr0 hr1 _) rfl ?_
      rintro _ w_ ⟨⟨M, e, rfl, ⟨hM, s, hs52, hMs, hes⟩, he0, he1⟩, hw_⟩
      have hw_ := hw_.symm; subst hw_
      refine Wl.y (y_move rfl) rfl ?_
      refine Wl.y (y_extract rfl rfl) rfl ?_
      refine Wl.y (y_extract rfl rfl) rfl ?_
      refine Wl.y (y_assign rfl) rfl ?_
      refine Wl.y (y_assign rfl) rfl ?_
      refine Wl.nil ?_
      refine Wq.next hK_102 ?_
      refine Wc.seq fun _ hK_111 => ?_
      refine Wc.block ?_
      have hod := (od_spec _ (mant0_ne hr0)).2
      have hdv : ∀ k, k ≤ 53 → (2 ^ (53 - k) ∣ M ↔ 53 - k ≤ s) := fun k _ => by rw [hMs]; exact dvd_pow hod
      refine Wc.loop (X := Nat) (fun k => [(3, str (sgn b)), (4, .float .f64 (Wk k M)), (5, .int .i64 (e - (k : Int)))]) (fun k wr => k + s ≤ 53 ∧ w = wr) (fun k => 53 - k) (0) ?_ ?_ ?_
      · exact Sub.cons' rfl (by first | rfl | exact str_eq hs.symm | exact str_eq hs | exact int_eq (by omega) | exact int_eq (by simp)) (Sub.cons' rfl (by first | rfl | exact str_eq hs.symm | exact str_eq hs | exact int_eq (by omega) | exact int_eq (by simp)) (Sub.cons' rfl (by first | rfl | exact str_eq hs.symm | exact str_eq hs | exact int_eq (by omega) | exact int_eq (by simp)) (Sub.nil)))
      · exact ⟨by omega, rfl⟩
      ·
       rintro k wr hI_113 _ hL_112
       replace hI_113 : k + s ≤ 53 ∧ w = wr := hI_113
       obtain ⟨hk, hw_⟩ := hI_113
       show Wc _ _ _ _ _ [(3, str (sgn b)), (4, .float .f64 (Wk k M)), (5, .int .i64 (e - (k : Int)))] _
       have hL := hL_hb.below hb
       try have hzhb_L0 := hb.size
       subst hw_
       have hb := Below.refl w.heap.size w
       refine Wc.seq fun _ hK_114 => ?_
       refine Wc.seq fun _ hK_115 => ?_
       refine Wc.region ?_
       refine Wl.y (y_move rfl) rfl ?_
       refine Wl.y (y_move rfl) rfl ?_
       refine Wl.call txt71NumB rfl rfl (Floor_r (Wk k M) (Wk_nan hM (by omega)) _) rfl ?_
       rintro _ w_ ⟨rfl, hw_⟩
       have hw_ := hw_.symm; subst hw_
       refine Wl.y (y_neqf rfl rfl) rfl ?_
       refine Wl.nil ?_
       refine Wq.next hK_115 ?_
       rw [show (FloatKind.f64.format.order (Wk k M) (floorW (Wk k M)) != some .eq) = !decide (2 ^ (53 - k) ∣ M) from congrArg (fun x => !x) (whole_Wk hM (by omega))]
       refine Wc.cond rfl (fun c4_120 => ?_) (fun c4_120 => ?_)
       ·
        have c4_120_ := c4_120
        try simp only [decide_eq_true_eq, decide_eq_false_iff_not, beq_iff_eq, beq_eq_false_iff_ne, bne_iff_ne, bne_eq_false_iff_eq, Bool.not_eq_true', Bool.not_eq_false', Bool.not_eq_eq_eq_not, Bool.not_true, Bool.not_false, ne_eq, Int.not_lt, Int.not_le] at c4_120
        have hkl := mt (hdv k (by omega)).2 c4_120
        refine Wc.skip ?_
        refine Wq.next hK_114 ?_
        refine Wc.block ?_
        refine Wc.seq fun _ hK_121 => ?_
        refine Wc.region ?_
        refine Wl.y (y_move rfl) rfl ?_
        refine Wl.y (y_mulf rfl rfl (mul_two hM (by omega))) rfl ?_
        refine Wl.y (y_assign rfl) rfl ?_
        refine Wl.nil ?_
        refine Wq.next hK_121 ?_
        refine Wc.region ?_
        refine Wl.y (y_move rfl) rfl ?_
        refine Wl.y (y_subI rfl rfl (by first | omega | (simp; done) | (simp; omega)) (by first | omega | (simp; done) | (simp; omega))) rfl ?_
        refine Wl.y (y_assign rfl) rfl ?_
        refine Wl.nil ?_
        refine Wq.block_normal ?_
        refine fun a_ ha_ => hL_112 _ _ (k + 1) (by first | omega | (simp; omega)) (Sub.cons' rfl (by first | rfl | exact str_eq hs.symm | exact str_eq hs | exact int_eq (by omega) | exact int_eq (by simp)) (Sub.cons' rfl (by first | rfl | exact str_eq hs.symm | exact str_eq hs | exact int_eq (by omega) | exact int_eq (by simp)) (Sub.cons' rfl (by first | rfl | exact str_eq hs.symm | exact str_eq hs | exact int_eq (by omega) | exact int_eq (by simp)) (Sub.nil)))) ?_ a_ ha_
        exact ⟨by omega, rfl⟩
       ·
        have c4_120_ := c4_120
        try simp only [decide_eq_true_eq, decide_eq_false_iff_not, beq_iff_eq, beq_eq_false_iff_ne, bne_iff_ne, bne_eq_false_iff_eq, Bool.not_eq_true', Bool.not_eq_false', Bool.not_eq_eq_eq_not, Bool.not_true, Bool.not_false, ne_eq, Int.not_lt, Int.not_le] at c4_120
        have hkd := (hdv k (by omega)).1 c4_120
        have hks : 53 - k = s := by omega
        have hq : M / 2 ^ (53 - k) = od (mant0 (rung b)) := by rw [hks, hMs, Nat.mul_div_cancel _ (Nat.two_pow_pos s)]
        have hee : e - (k : Int) = exp0 (rung b) + v2 (mant0 (rung b)) := by omega
        have hM2 : M / 2 ^ (53 - k) < 9007199254740992 := Nat.lt_of_le_of_lt (Nat.div_le_self _ _) hM.hi
        have hl1 := decDigits_le (M / 2 ^ (53 - k)) (by omega)
        have hl2 := itoa_le (e - (k : Int)) (by omega) (by omega)
        refine Wc.exit ?_
        refine Wq.then_exit ?_
        refine Wq.then_exit ?_
        refine Wq.block_exit ?_
        refine Wq.next hK_111 ?_
        refine Wc.seq fun _ hK_128 => ?_
        refine Wc.region ?_
        refine Wl.y (y_move rfl) rfl ?_
        refine Wl.y (y_move rfl) rfl ?_
        refine Wl.y (y_f2i (by kernel_rfl) Tryz.underlying22 rfl (int_Wk hM (by omega))) rfl ?_
        refine Wl.call txt72NumB rfl rfl (FormatUint_r _ (by omega) _ hL) rfl ?_
        rintro _ w_k5 ⟨rfl, hs_k5⟩
        have hz_k5 := hs_k5.size
        have hb := hb.trans (hs_k5.mono hb.size)
        have hL := hL_hb.below hb
        refine Wl.y (y_adds rfl rfl (by first | omega | (simp; done) | (simp; omega))) rfl ?_
        refine Wl.y (y_adds rfl rfl (by first | omega | (simp; done) | (simp; omega))) rfl ?_
        refine Wl.y (y_move rfl) rfl ?_
        refine Wl.call txt73NumB rfl rfl (Itoa_r _ (by omega) (by omega) _ hL) rfl ?_
        rintro _ w_k6 ⟨rfl, hs_k6⟩
        have hz_k6 := hs_k6.size
        have hb := hb.trans (hs_k6.mono hb.size)
        have hL := hL_hb.below hb
        refine Wl.y (y_adds rfl rfl (by first | omega | (simp; done) | (simp; omega))) rfl ?_
        refine Wl.y (y_assign rfl) rfl ?_
        refine Wl.nil ?_
        refine Wq.next hK_128 ?_
        refine Wc.ret ?_
        refine ret1 rfl rfl ?_
        exact ⟨_, rfl, by rw [text_num c1_81_ c2_88 c3_97, hq, hee], hb⟩
end Go.Proofs.YtcljmclolpgdmaaGreatDoor
