/- Package math's small functions, and the bits of floats, by the calculus. -/
import Derived.Test.YtcljmclolpgdmaaGreatDoorProg
import Derived.Test.YtcljmclolpgdmaaGreatDoorFloat
namespace Go.Proofs.YtcljmclolpgdmaaGreatDoor
open Go.RowKit Go.Bw Go.Bw.Fl
set_option linter.unusedVariables false
set_option linter.unusedSimpArgs false
theorem exn126NumA : Extn Tryz.prog 126 (Extern.MathFloor.toIntegral "math.archFloor" .down) := fun args w => run_callFunc_extern Tryz.func126 (by kernel_rfl) (by kernel_rfl) (by kernel_rfl) (by kernel_rfl) args w
theorem exn32NumA : Extn Tryz.prog 32 Extern.MathFloatBits.float64frombits := fun args w => run_callFunc_extern Tryz.func32 (by kernel_rfl) (by kernel_rfl) (by kernel_rfl) (by kernel_rfl) args w
theorem exn53NumA : Extn Tryz.prog 53 Extern.MathFloatBits.float64bits := fun args w => run_callFunc_extern Tryz.func53 (by kernel_rfl) (by kernel_rfl) (by kernel_rfl) (by kernel_rfl) args w
theorem txt31NumA : Txt Tryz.prog 31 := ⟨_, Tryz.func31, by kernel_rfl, rfl⟩   -- math.NaN
theorem txt70NumA : Txt Tryz.prog 70 := ⟨_, Tryz.func70, by kernel_rfl, rfl⟩   -- math.Abs
theorem txt76NumA : Txt Tryz.prog 76 := ⟨_, Tryz.func76, by kernel_rfl, rfl⟩   -- bridleway/bridlewayref01.Parts
theorem txt93NumA : Txt Tryz.prog 93 := ⟨_, Tryz.func93, by kernel_rfl, rfl⟩   -- bridleway/bridlewayref01.Nan
theorem sh52 (b : Nat) : ((b : Int) / 2 ^ (52 : Int).toNat) = ((b / 4503599627370496 : Nat) : Int) := by
  have : (2 : Int) ^ (52 : Int).toNat = 4503599627370496 := by decide
  rw [this]; omega
theorem sh63 (b : Nat) : ((b : Int) / 2 ^ (63 : Int).toNat) = ((b / 9223372036854775808 : Nat) : Int) := by
  have : (2 : Int) ^ (63 : Int).toNat = 9223372036854775808 := by decide
  rw [this]; omega
theorem and2047 (b : Nat) (h : b < 18446744073709551616) : bits .and .u64 (b : Int) 2047 = ((b % 2048 : Nat) : Int) := by
  have h1 := u64_and_nat b 2047 h (by decide)
  rw [show ((2047 : Nat) : Int) = 2047 from rfl] at h1
  rw [h1, show (2047 : Nat) = 2 ^ 11 - 1 by decide, Nat.and_two_pow_sub_one_eq_mod]
theorem and52 (b : Nat) (h : b < 18446744073709551616) : bits .and .u64 (b : Int) 4503599627370495 = ((b % 4503599627370496 : Nat) : Int) := by
  have h1 := u64_and_nat b 4503599627370495 h (by decide)
  rw [show ((4503599627370495 : Nat) : Int) = 4503599627370495 from rfl] at h1
  rw [h1, show (4503599627370495 : Nat) = 2 ^ 52 - 1 by decide, Nat.and_two_pow_sub_one_eq_mod]
theorem clear63 (b : Nat) (h : b < 18446744073709551616) : bits .andNot .u64 (b : Int) 9223372036854775808 = ((b % 9223372036854775808 : Nat) : Int) := by
  have h1 := u64_andNot_nat b 9223372036854775808 h (by decide)
  rw [show ((9223372036854775808 : Nat) : Int) = 9223372036854775808 from rfl] at h1
  rw [h1, show (18446744073709551615 - 9223372036854775808 : Nat) = 2 ^ 63 - 1 by decide, Nat.and_two_pow_sub_one_eq_mod]
/-- the exponent's field struck -/
theorem clearExp (b : Nat) (h : b < 9223372036854775808) : bits .andNot .u64 (b : Int) 9218868437227405312 = ((b % 4503599627370496 : Nat) : Int) := by
  have h1 := u64_andNot_nat b 9218868437227405312 (by omega) (by decide)
  rw [show ((9218868437227405312 : Nat) : Int) = 9218868437227405312 from rfl] at h1
  rw [h1]
  congr 1
  have h2 : b = b &&& (2 ^ 63 - 1) := by rw [Nat.and_two_pow_sub_one_eq_mod]; omega
  conv => lhs; rw [h2]
  rw [Nat.and_assoc, show ((2 ^ 63 - 1) &&& (18446744073709551615 - 9218868437227405312) : Nat) = 2 ^ 52 - 1 by decide, Nat.and_two_pow_sub_one_eq_mod]
theorem or_low (a b i : Nat) (hb : b < 2 ^ i) : a * 2 ^ i ||| b = a * 2 ^ i + b := by
  rw [Nat.mul_comm, Nat.two_pow_add_eq_or_of_lt hb]
theorem orHalf (b : Nat) (h : b < 4503599627370496) : bits .or .u64 (b : Int) 4602678819172646912 = ((4602678819172646912 + b : Nat) : Int) := by
  have h1 := u64_or_nat b 4602678819172646912 (by omega) (by decide)
  rw [show ((4602678819172646912 : Nat) : Int) = 4602678819172646912 from rfl] at h1
  rw [h1, Nat.or_comm, show (4602678819172646912 : Nat) = 1022 * 2 ^ 52 by decide, or_low _ _ _ (by simpa using h)]
theorem conv_u64_i64 (b : Nat) (h : b < 9223372036854775808) : IntKind.i64.wrap (b : Int) = (b : Int) := wrap_i64 _ (by omega) (by omega)

theorem isInf_eq (b : Nat) : (FloatKind.f64.format.order (rung b) 9218868437227405311 == some .gt) = decide (rung b = 9218868437227405312) := by
  show (Ieee.double.order (rung b) 9218868437227405311 == some .gt) = _
  rw [gt_val]
  have h0 : rung b < 9223372036854775808 := Nat.mod_lt _ (by decide)
  have h1 : isNan 9218868437227405311 = false := by decide
  have h2 : rung (rung b) = rung b := Nat.mod_eq_of_lt h0
  have h3 : isNan (rung b) = decide (9218868437227405312 < rung b) := by unfold isNan; rw [show rung b % 9223372036854775808 = rung b from h2]
  have h4 : isNeg (rung b) = false := by unfold isNeg; rw [Nat.div_eq_of_lt h0]; rfl
  have h5 : isNeg 9218868437227405311 = false := by decide
  have h6 : rung 9218868437227405311 = 9218868437227405311 := by decide
  have h7 : val 9218868437227405311 < val (rung b) ↔ 9218868437227405311 < rung b := by
    unfold val; rw [h4, h5, h2, h6]
    simp only [Bool.false_eq_true, if_false]
    rw [← V_lt_iff (r := 9218868437227405311) (s := rung b)]; omega
  rw [h1, h3, show decide (val 9218868437227405311 < val (rung b)) = decide (9218868437227405311 < rung b) from decide_eq_decide.2 h7, Bool.eq_iff_iff]
  simp only [and_true, Bool.and_eq_true, Bool.not_eq_true', decide_eq_false_iff_not, Bool.not_false, decide_eq_true_eq]
  omega

theorem NaN_r (w : World) : Ret Tryz.prog 31 [] w fun v w' => v = .float .f64 9221120237041090561 ∧ w' = w := by
  refine enter Tryz.func31 rfl rfl rfl ?_
  refine Wc.seq fun _ hK_1 => ?_
  refine Wc.region ?_
  refine Wl.y (y_assign rfl) rfl ?_
  refine Wl.nil ?_
  refine Wq.next hK_1 ?_
  refine Wc.seq fun _ hK_3 => ?_
  refine Wc.region ?_
  refine Wl.y (y_b2f exn32NumA rfl rfl) rfl ?_
  refine Wl.y (y_assign rfl) rfl ?_
  refine Wl.nil ?_
  refine Wq.next hK_3 ?_
  refine Wc.ret ?_
  refine ret1 rfl rfl ?_
  exact ⟨_, rfl, rfl, rfl⟩

theorem Signbit_r (b : Nat) (hb : b < 18446744073709551616) (w : World) : Ret Tryz.prog 67 [.float .f64 b] w fun v w' => v = .bool (isNeg b) ∧ w' = w := by
  refine enter Tryz.func67 rfl rfl rfl ?_
  refine Wc.seq fun _ hK_1 => ?_
  refine Wc.region ?_
  refine Wl.y (y_assign rfl) rfl ?_
  refine Wl.nil ?_
  refine Wq.next hK_1 ?_
  refine Wc.seq fun _ hK_3 => ?_
  refine Wc.region ?_
  refine Wl.y (y_move rfl) rfl ?_
  refine Wl.y (y_f2b exn53NumA rfl rfl) rfl ?_
  refine Wl.y (y_convi Tryz.underlying22 Tryz.underlying2 rfl) rfl ?_
  refine Wl.y (y_lssi rfl rfl) rfl ?_
  refine Wl.y (y_assign rfl) rfl ?_
  refine Wl.nil ?_
  refine Wq.next hK_3 ?_
  refine Wc.ret ?_
  refine ret1 rfl rfl ?_
  exact ⟨_, rfl, bool_eq (by
  unfold isNeg
  rw [IntKind.wrap_i64, Bool.eq_iff_iff]
  simp only [decide_eq_true_eq, beq_iff_eq]
  omega), rfl⟩

theorem Abs_r (b : Nat) (hb : b < 18446744073709551616) (w : World) : Ret Tryz.prog 70 [.float .f64 b] w fun v w' => v = .float .f64 (rung b) ∧ w' = w := by
  refine enter Tryz.func70 rfl rfl rfl ?_
  refine Wc.seq fun _ hK_1 => ?_
  refine Wc.region ?_
  refine Wl.y (y_assign rfl) rfl ?_
  refine Wl.nil ?_
  refine Wq.next hK_1 ?_
  refine Wc.seq fun _ hK_3 => ?_
  refine Wc.region ?_
  refine Wl.y (y_move rfl) rfl ?_
  refine Wl.y (y_f2b exn53NumA rfl rfl) rfl ?_
  refine Wl.y (y_eq (y_andNot rfl rfl) (int_eq (clear63 b hb))) rfl ?_
  refine Wl.y (y_b2f exn32NumA rfl rfl) rfl ?_
  refine Wl.y (y_assign rfl) rfl ?_
  refine Wl.nil ?_
  refine Wq.next hK_3 ?_
  refine Wc.ret ?_
  refine ret1 rfl rfl ?_
  exact ⟨_, rfl, rfl, rfl⟩

theorem IsNaN_r (b : Nat) (w : World) : Ret Tryz.prog 160 [.float .f64 b] w fun v w' => v = .bool (isNan b) ∧ w' = w := by
  refine enter Tryz.func160 rfl rfl rfl ?_
  refine Wc.seq fun _ hK_1 => ?_
  refine Wc.region ?_
  refine Wl.y (y_assign rfl) rfl ?_
  refine Wl.nil ?_
  refine Wq.next hK_1 ?_
  refine Wc.seq fun _ hK_3 => ?_
  refine Wc.region ?_
  refine Wl.y (y_move rfl) rfl ?_
  refine Wl.y (y_move rfl) rfl ?_
  refine Wl.y (y_neqf rfl rfl) rfl ?_
  refine Wl.y (y_assign rfl) rfl ?_
  refine Wl.nil ?_
  refine Wq.next hK_3 ?_
  refine Wc.ret ?_
  refine ret1 rfl rfl ?_
  exact ⟨_, rfl, bool_eq (by show (!(Ieee.double.order b b == some .eq)) = _; rw [eq_val]; simp), rfl⟩

theorem IsInf_r (b : Nat) (hb : b < 18446744073709551616) (w : World) : Ret Tryz.prog 68 [.float .f64 b, .int .i64 0] w fun v w' => v = .bool (decide (rung b = 9218868437227405312)) ∧ w' = w := by
  refine enter Tryz.func68 rfl rfl rfl ?_
  refine Wc.seq fun _ hK_1 => ?_
  refine Wc.region ?_
  refine Wl.y (y_assign rfl) rfl ?_
  refine Wl.nil ?_
  refine Wq.next hK_1 ?_
  refine Wc.seq fun _ hK_3 => ?_
  refine Wc.seq fun _ hK_4 => ?_
  refine Wc.region ?_
  refine Wl.y (y_move rfl) rfl ?_
  refine Wl.y (y_eqli rfl rfl) rfl ?_
  refine Wl.nil ?_
  refine Wq.next hK_4 ?_
  refine Wc.cond rfl (fun c0_7 => ?_) (fun c0_7 => ?_)
  ·
   have c0_7_ := c0_7
   try simp only [decide_eq_true_eq, decide_eq_false_iff_not, beq_iff_eq, beq_eq_false_iff_ne, bne_iff_ne, bne_eq_false_iff_eq, Bool.not_eq_true', Bool.not_eq_false', Bool.not_eq_eq_eq_not, Bool.not_true, Bool.not_false, ne_eq, Int.not_lt, Int.not_le] at c0_7
   refine Wc.region ?_
   refine Wl.y (y_move rfl) rfl ?_
   refine Wl.call txt70NumA rfl rfl (Abs_r b hb _) rfl ?_
   rintro _ _ ⟨rfl, rfl⟩
   refine Wl.y (y_assign rfl) rfl ?_
   refine Wl.nil ?_
   refine Wq.next hK_3 ?_
   refine Wc.seq fun _ hK_11 => ?_
   refine Wc.region ?_
   refine Wl.y (y_move rfl) rfl ?_
   refine Wl.y (y_gtrf rfl rfl) rfl ?_
   refine Wl.y (y_assign rfl) rfl ?_
   refine Wl.nil ?_
   refine Wq.next hK_11 ?_
   refine Wc.ret ?_
   refine ret1 rfl rfl ?_
   exact ⟨_, rfl, bool_eq (isInf_eq b), rfl⟩
  ·
   have c0_7_ := c0_7
   try simp only [decide_eq_true_eq, decide_eq_false_iff_not, beq_iff_eq, beq_eq_false_iff_ne, bne_iff_ne, bne_eq_false_iff_eq, Bool.not_eq_true', Bool.not_eq_false', Bool.not_eq_eq_eq_not, Bool.not_true, Bool.not_false, ne_eq, Int.not_lt, Int.not_le] at c0_7
   exact absurd trivial c0_7

theorem Floor_r (b : Nat) (hn : isNan b = false) (w : World) : Ret Tryz.prog 71 [.float .f64 b] w fun v w' => v = .float .f64 (floorW b) ∧ w' = w := by
  refine enter Tryz.func71 rfl rfl rfl ?_
  refine Wc.seq fun _ hK_1 => ?_
  refine Wc.region ?_
  refine Wl.y (y_assign rfl) rfl ?_
  refine Wl.nil ?_
  refine Wq.next hK_1 ?_
  refine Wc.seq fun _ hK_3 => ?_
  refine Wc.condT rfl rfl ?_
  refine Wc.seq fun _ hK_4 => ?_
  refine Wc.region ?_
  refine Wl.y (y_move rfl) rfl ?_
  refine Wl.y (y_floor exn126NumA rfl rfl (hn)) rfl ?_
  refine Wl.y (y_assign rfl) rfl ?_
  refine Wl.nil ?_
  refine Wq.next hK_4 ?_
  refine Wc.ret ?_
  refine Wq.then_ret ?_
  refine ret1 rfl rfl ?_
  exact ⟨_, rfl, rfl, rfl⟩

theorem Parts_r (b : Nat) (hb : b < 18446744073709551616) (w : World) : Ret Tryz.prog 76 [.float .f64 b] w fun v w' => v = .tuple #[.bool (isNeg b), .int .i64 ((b / 4503599627370496 % 2048 : Nat) : Int), .int .i64 ((b % 4503599627370496 : Nat) : Int)] ∧ w' = w := by
  refine enter Tryz.func76 rfl rfl rfl ?_
  refine Wc.seq fun _ hK_1 => ?_
  refine Wc.region ?_
  refine Wl.y (y_assign rfl) rfl ?_
  refine Wl.y (y_assign rfl) rfl ?_
  refine Wl.y (y_assign rfl) rfl ?_
  refine Wl.nil ?_
  refine Wq.next hK_1 ?_
  refine Wc.seq fun _ hK_5 => ?_
  refine Wc.region ?_
  refine Wl.y (y_move rfl) rfl ?_
  refine Wl.y (y_f2b exn53NumA rfl rfl) rfl ?_
  refine Wl.y (y_assign rfl) rfl ?_
  refine Wl.nil ?_
  refine Wq.next hK_5 ?_
  refine Wc.seq fun _ hK_9 => ?_
  refine Wc.region ?_
  refine Wl.y (y_move rfl) rfl ?_
  refine Wl.y (y_eq (y_shr rfl rfl (by first | decide | omega) (by first | decide | omega)) (int_eq (sh63 b))) rfl ?_
  refine Wl.y (y_eq (y_eqli rfl rfl) (bool_eq (show ((((b / 9223372036854775808 : Nat) : Int)) == 1) = isNeg b by unfold isNeg; rw [Bool.eq_iff_iff]; simp only [beq_iff_eq]; omega))) rfl ?_
  refine Wl.y (y_move rfl) rfl ?_
  refine Wl.y (y_eq (y_shr rfl rfl (by first | decide | omega) (by first | decide | omega)) (int_eq (sh52 b))) rfl ?_
  refine Wl.y (y_eq (y_and rfl rfl) (int_eq (and2047 _ (by omega)))) rfl ?_
  refine Wl.y (y_eq (y_convi Tryz.underlying22 Tryz.underlying3 rfl) (int_eq (conv_u64_i64 _ (by omega)))) rfl ?_
  refine Wl.y (y_move rfl) rfl ?_
  refine Wl.y (y_eq (y_and rfl rfl) (int_eq (and52 _ hb))) rfl ?_
  refine Wl.y (y_eq (y_convi Tryz.underlying22 Tryz.underlying3 rfl) (int_eq (conv_u64_i64 _ (by omega)))) rfl ?_
  refine Wl.y (y_assign rfl) rfl ?_
  refine Wl.y (y_assign rfl) rfl ?_
  refine Wl.y (y_assign rfl) rfl ?_
  refine Wl.nil ?_
  refine Wq.next hK_9 ?_
  refine Wc.ret ?_
  refine ret3 rfl rfl rfl rfl ?_
  exact ⟨_, rfl, rfl, rfl⟩

theorem Nan_r (b : Nat) (hb : b < 18446744073709551616) (w : World) : Ret Tryz.prog 93 [.float .f64 b] w fun v w' => v = .bool (isNan b) ∧ w' = w := by
  have hk : isNan b = (decide (b / 4503599627370496 % 2048 = 2047) && decide (b % 4503599627370496 ≠ 0)) := by
    unfold isNan; rw [Bool.eq_iff_iff]; simp only [Bool.and_eq_true, decide_eq_true_eq]; omega
  refine enter Tryz.func93 rfl rfl rfl ?_
  refine Wc.seq fun _ hK_1 => ?_
  refine Wc.region ?_
  refine Wl.y (y_assign rfl) rfl ?_
  refine Wl.nil ?_
  refine Wq.next hK_1 ?_
  refine Wc.seq fun _ hK_3 => ?_
  refine Wc.region ?_
  refine Wl.y (y_move rfl) rfl ?_
  refine Wl.call txt76NumA rfl rfl (Parts_r b hb _) rfl ?_
  rintro _ _ ⟨rfl, rfl⟩
  refine Wl.y (y_move rfl) rfl ?_
  refine Wl.y (y_extract rfl rfl) rfl ?_
  refine Wl.y (y_extract rfl rfl) rfl ?_
  refine Wl.y (y_extract rfl rfl) rfl ?_
  refine Wl.y (y_assign rfl) rfl ?_
  refine Wl.y (y_assign rfl) rfl ?_
  refine Wl.y (y_assign rfl) rfl ?_
  refine Wl.nil ?_
  refine Wq.next hK_3 ?_
  refine Wc.seq fun _ hK_13 => ?_
  refine Wc.region ?_
  refine Wl.y (y_move rfl) rfl ?_
  refine Wl.y (y_eqli rfl rfl) rfl ?_
  refine Wl.y (y_move rfl) rfl ?_
  refine Wl.guardT rfl rfl rfl (fun g_17 => ?_) (fun g_17 => ?_)
  ·
   have g_17_ := g_17
   try simp only [decide_eq_true_eq, decide_eq_false_iff_not, beq_iff_eq, beq_eq_false_iff_ne, bne_iff_ne, bne_eq_false_iff_eq, Bool.not_eq_true', Bool.not_eq_false', Bool.not_eq_eq_eq_not, Bool.not_true, Bool.not_false, ne_eq, Int.not_lt, Int.not_le] at g_17
   refine Wl.y (y_move rfl) rfl ?_
   refine Wl.on' rfl rfl g_17_ ?_
   refine Wl.y (y_neqi rfl rfl) rfl ?_
   refine Wl.y (y_pickT rfl g_17_ rfl) rfl ?_
   refine Wl.y (y_assign rfl) rfl ?_
   refine Wl.nil ?_
   refine Wq.next hK_13 ?_
   refine Wc.ret ?_
   refine ret1 rfl rfl ?_
   exact ⟨_, rfl, bool_eq (by rw [hk, Bool.eq_iff_iff]; simp only [Bool.and_eq_true, decide_eq_true_eq, bne_iff_ne, ne_eq]; constructor <;> intro h <;> omega), rfl⟩
  ·
   have g_17_ := g_17
   try simp only [decide_eq_true_eq, decide_eq_false_iff_not, beq_iff_eq, beq_eq_false_iff_ne, bne_iff_ne, bne_eq_false_iff_eq, Bool.not_eq_true', Bool.not_eq_false', Bool.not_eq_eq_eq_not, Bool.not_true, Bool.not_false, ne_eq, Int.not_lt, Int.not_le] at g_17
   refine Wl.off' rfl rfl g_17_ rfl rfl ?_
   refine Wl.y (y_pickF rfl g_17_ rfl) rfl ?_
   refine Wl.y (y_assign rfl) rfl ?_
   refine Wl.nil ?_
   refine Wq.next hK_13 ?_
   refine Wc.ret ?_
   refine ret1 rfl rfl ?_
   exact ⟨_, rfl, bool_eq (by rw [hk, Bool.eq_iff_iff]; simp only [Bool.and_eq_true, decide_eq_true_eq]; constructor <;> intro h <;> (first | omega | cases h)), rfl⟩

def canon (b : Nat) : Nat := if isNan b = true then 9221120237041090561 else b
theorem Bits_r (b : Nat) (hb : b < 18446744073709551616) (w : World) : Ret Tryz.prog 51 [.float .f64 b] w fun v w' => v = .int .u64 (canon b : Nat) ∧ w' = w := by
  refine enter Tryz.func51 rfl rfl rfl ?_
  refine Wc.seq fun _ hK_1 => ?_
  refine Wc.region ?_
  refine Wl.y (y_assign rfl) rfl ?_
  refine Wl.nil ?_
  refine Wq.next hK_1 ?_
  refine Wc.seq fun _ hK_3 => ?_
  refine Wc.region ?_
  refine Wl.y (y_move rfl) rfl ?_
  refine Wl.call txt93NumA rfl rfl (Nan_r b hb _) rfl ?_
  rintro _ _ ⟨rfl, rfl⟩
  refine Wl.y (y_assign rfl) rfl ?_
  refine Wl.nil ?_
  refine Wq.next hK_3 ?_
  refine Wc.seq fun _ hK_7 => ?_
  refine Wc.seq fun _ hK_8 => ?_
  refine Wc.region ?_
  refine Wl.y (y_move rfl) rfl ?_
  refine Wl.nil ?_
  refine Wq.next hK_8 ?_
  refine Wc.cond rfl (fun c0_10 => ?_) (fun c0_10 => ?_)
  ·
   have c0_10_ := c0_10
   try simp only [decide_eq_true_eq, decide_eq_false_iff_not, beq_iff_eq, beq_eq_false_iff_ne, bne_iff_ne, bne_eq_false_iff_eq, Bool.not_eq_true', Bool.not_eq_false', Bool.not_eq_eq_eq_not, Bool.not_true, Bool.not_false, ne_eq, Int.not_lt, Int.not_le] at c0_10
   refine Wc.seq fun _ hK_11 => ?_
   refine Wc.region ?_
   refine Wl.y (y_assign rfl) rfl ?_
   refine Wl.nil ?_
   refine Wq.next hK_11 ?_
   refine Wc.ret ?_
   refine Wq.then_ret ?_
   refine ret1 rfl rfl ?_
   exact ⟨_, rfl, int_eq (by unfold canon; rw [if_pos c0_10_]; rfl), rfl⟩
  ·
   have c0_10_ := c0_10
   try simp only [decide_eq_true_eq, decide_eq_false_iff_not, beq_iff_eq, beq_eq_false_iff_ne, bne_iff_ne, bne_eq_false_iff_eq, Bool.not_eq_true', Bool.not_eq_false', Bool.not_eq_eq_eq_not, Bool.not_true, Bool.not_false, ne_eq, Int.not_lt, Int.not_le] at c0_10
   refine Wc.skip ?_
   refine Wq.next hK_7 ?_
   refine Wc.seq fun _ hK_13 => ?_
   refine Wc.region ?_
   refine Wl.y (y_move rfl) rfl ?_
   refine Wl.y (y_f2b exn53NumA rfl rfl) rfl ?_
   refine Wl.y (y_assign rfl) rfl ?_
   refine Wl.nil ?_
   refine Wq.next hK_13 ?_
   refine Wc.ret ?_
   refine ret1 rfl rfl ?_
   exact ⟨_, rfl, int_eq (by unfold canon; rw [if_neg (by rw [c0_10_]; simp)]), rfl⟩

theorem Canon_r (b : Nat) (w : World) : Ret Tryz.prog 52 [.float .f64 b] w fun v w' => v = .float .f64 (canon b) ∧ w' = w := by
  have hk : (!(Ieee.double.order b b == some .eq)) = isNan b := by rw [eq_val]; simp
  refine enter Tryz.func52 rfl rfl rfl ?_
  refine Wc.seq fun _ hK_1 => ?_
  refine Wc.region ?_
  refine Wl.y (y_assign rfl) rfl ?_
  refine Wl.nil ?_
  refine Wq.next hK_1 ?_
  refine Wc.seq fun _ hK_3 => ?_
  refine Wc.seq fun _ hK_4 => ?_
  refine Wc.region ?_
  refine Wl.y (y_move rfl) rfl ?_
  refine Wl.y (y_move rfl) rfl ?_
  refine Wl.y (y_neqf rfl rfl) rfl ?_
  refine Wl.nil ?_
  refine Wq.next hK_4 ?_
  rw [show (FloatKind.f64.format.order b b != some .eq) = isNan b from hk]
  refine Wc.cond rfl (fun c0_8 => ?_) (fun c0_8 => ?_)
  ·
   have c0_8_ := c0_8
   try simp only [decide_eq_true_eq, decide_eq_false_iff_not, beq_iff_eq, beq_eq_false_iff_ne, bne_iff_ne, bne_eq_false_iff_eq, Bool.not_eq_true', Bool.not_eq_false', Bool.not_eq_eq_eq_not, Bool.not_true, Bool.not_false, ne_eq, Int.not_lt, Int.not_le] at c0_8
   refine Wc.seq fun _ hK_9 => ?_
   refine Wc.region ?_
   refine Wl.call txt31NumA rfl rfl (NaN_r _) rfl ?_
   rintro _ _ ⟨rfl, rfl⟩
   refine Wl.y (y_assign rfl) rfl ?_
   refine Wl.nil ?_
   refine Wq.next hK_9 ?_
   refine Wc.ret ?_
   refine Wq.then_ret ?_
   refine ret1 rfl rfl ?_
   exact ⟨_, rfl, by unfold canon; rw [if_pos c0_8_], rfl⟩
  ·
   have c0_8_ := c0_8
   try simp only [decide_eq_true_eq, decide_eq_false_iff_not, beq_iff_eq, beq_eq_false_iff_ne, bne_iff_ne, bne_eq_false_iff_eq, Bool.not_eq_true', Bool.not_eq_false', Bool.not_eq_eq_eq_not, Bool.not_true, Bool.not_false, ne_eq, Int.not_lt, Int.not_le] at c0_8
   refine Wc.skip ?_
   refine Wq.next hK_3 ?_
   refine Wc.seq fun _ hK_12 => ?_
   refine Wc.region ?_
   refine Wl.y (y_move rfl) rfl ?_
   refine Wl.y (y_assign rfl) rfl ?_
   refine Wl.nil ?_
   refine Wq.next hK_12 ?_
   refine Wc.ret ?_
   refine ret1 rfl rfl ?_
   exact ⟨_, rfl, by unfold canon; rw [if_neg (by rw [c0_8_]; simp)], rfl⟩
end Go.Proofs.YtcljmclolpgdmaaGreatDoor
