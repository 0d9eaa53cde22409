/- Package math's small functions, and the bits of floats, by the calculus. · The library's contracts in the calculus's words: numerals. · math.Frexp, and a float's text, by the calculus. · The document's answer for floats' texts, by the calculus. -/
import Derived.Test.YtjmlknjbhbfneaaGreatDoorProg
import Derived.Test.YtjmlknjbhbfneaaGreatDoorZB
import Derived.Test.YtjmlknjbhbfneaaGreatDoorZShelf
import Derived.Lib.ItoaMem
import Derived.Laws.Slices
import Derived.Laws.IdiomStrings
namespace Go.Proofs.YtjmlknjbhbfneaaGreatDoor
open Go.RowKit Go.Bw Go.Bw.Fl
set_option linter.unusedVariables false
set_option linter.unusedSimpArgs false
theorem exn150NumA : Extn Tryz.prog 150 Extern.MathFloatBits.float64frombits := fun args w => run_callFunc_extern Tryz.func150 (by kernel_rfl) (by kernel_rfl) (by kernel_rfl) (by kernel_rfl) args w
theorem exn163NumA : Extn Tryz.prog 163 (Extern.MathFloor.toIntegral "math.archFloor" .down) := fun args w => run_callFunc_extern Tryz.func163 (by kernel_rfl) (by kernel_rfl) (by kernel_rfl) (by kernel_rfl) args w
theorem exn91NumA : Extn Tryz.prog 91 Extern.MathFloatBits.float64bits := fun args w => run_callFunc_extern Tryz.func91 (by kernel_rfl) (by kernel_rfl) (by kernel_rfl) (by kernel_rfl) args w
theorem txt111NumA : Txt Tryz.prog 111 := ⟨_, Tryz.func111, by kernel_rfl, rfl⟩   -- bridleway/bridlewayref01.Nan
theorem txt118NumA : Txt Tryz.prog 118 := ⟨_, Tryz.func118, by kernel_rfl, rfl⟩   -- math.Abs
theorem txt124NumA : Txt Tryz.prog 124 := ⟨_, Tryz.func124, by kernel_rfl, rfl⟩   -- math.NaN
theorem txt156NumA : Txt Tryz.prog 156 := ⟨_, Tryz.func156, by kernel_rfl, rfl⟩   -- bridleway/bridlewayref01.Parts
theorem sh52 (b : Nat) : ((b : Int) / 2 ^ (52 : Int).toNat) = ((b / 4503599627370496 : Nat) : Int) := by
  have : (2 : Int) ^ (52 : Int).toNat = 4503599627370496 := by decide
  rw [this]; omega
theorem sh63 (b : Nat) : ((b : Int) / 2 ^ (63 : Int).toNat) = ((b / 9223372036854775808 : Nat) : Int) := by
  have : (2 : Int) ^ (63 : Int).toNat = 9223372036854775808 := by decide
  rw [this]; omega
theorem and2047 (b : Nat) (h : b < 18446744073709551616) : bits .and .u64 (b : Int) 2047 = ((b % 2048 : Nat) : Int) := by
  have h1 := u64_and_nat b 2047 h (by decide)
  rw [show ((2047 : Nat) : Int) = 2047 from rfl] at h1
  rw [h1, show (2047 : Nat) = 2 ^ 11 - 1 by decide, Nat.and_two_pow_sub_one_eq_mod]
theorem and52 (b : Nat) (h : b < 18446744073709551616) : bits .and .u64 (b : Int) 4503599627370495 = ((b % 4503599627370496 : Nat) : Int) := by
  have h1 := u64_and_nat b 4503599627370495 h (by decide)
  rw [show ((4503599627370495 : Nat) : Int) = 4503599627370495 from rfl] at h1
  rw [h1, show (4503599627370495 : Nat) = 2 ^ 52 - 1 by decide, Nat.and_two_pow_sub_one_eq_mod]
theorem clear63 (b : Nat) (h : b < 18446744073709551616) : bits .andNot .u64 (b : Int) 9223372036854775808 = ((b % 9223372036854775808 : Nat) : Int) := by
  have h1 := u64_andNot_nat b 9223372036854775808 h (by decide)
  rw [show ((9223372036854775808 : Nat) : Int) = 9223372036854775808 from rfl] at h1
  rw [h1, show (18446744073709551615 - 9223372036854775808 : Nat) = 2 ^ 63 - 1 by decide, Nat.and_two_pow_sub_one_eq_mod]
/-- the exponent's field struck -/
theorem clearExp (b : Nat) (h : b < 9223372036854775808) : bits .andNot .u64 (b : Int) 9218868437227405312 = ((b % 4503599627370496 : Nat) : Int) := by
  have h1 := u64_andNot_nat b 9218868437227405312 (by omega) (by decide)
  rw [show ((9218868437227405312 : Nat) : Int) = 9218868437227405312 from rfl] at h1
  rw [h1]
  congr 1
  have h2 : b = b &&& (2 ^ 63 - 1) := by rw [Nat.and_two_pow_sub_one_eq_mod]; omega
  conv => lhs; rw [h2]
  rw [Nat.and_assoc, show ((2 ^ 63 - 1) &&& (18446744073709551615 - 9218868437227405312) : Nat) = 2 ^ 52 - 1 by decide, Nat.and_two_pow_sub_one_eq_mod]
theorem or_low (a b i : Nat) (hb : b < 2 ^ i) : a * 2 ^ i ||| b = a * 2 ^ i + b := by
  rw [Nat.mul_comm, Nat.two_pow_add_eq_or_of_lt hb]
theorem orHalf (b : Nat) (h : b < 4503599627370496) : bits .or .u64 (b : Int) 4602678819172646912 = ((4602678819172646912 + b : Nat) : Int) := by
  have h1 := u64_or_nat b 4602678819172646912 (by omega) (by decide)
  rw [show ((4602678819172646912 : Nat) : Int) = 4602678819172646912 from rfl] at h1
  rw [h1, Nat.or_comm, show (4602678819172646912 : Nat) = 1022 * 2 ^ 52 by decide, or_low _ _ _ (by simpa using h)]
theorem conv_u64_i64 (b : Nat) (h : b < 9223372036854775808) : IntKind.i64.wrap (b : Int) = (b : Int) := wrap_i64 _ (by omega) (by omega)

theorem isInf_eq (b : Nat) : (FloatKind.f64.format.order (rung b) 9218868437227405311 == some .gt) = decide (rung b = 9218868437227405312) := by
  show (Ieee.double.order (rung b) 9218868437227405311 == some .gt) = _
  rw [gt_val]
  have h0 : rung b < 9223372036854775808 := Nat.mod_lt _ (by decide)
  have h1 : isNan 9218868437227405311 = false := by decide
  have h2 : rung (rung b) = rung b := Nat.mod_eq_of_lt h0
  have h3 : isNan (rung b) = decide (9218868437227405312 < rung b) := by unfold isNan; rw [show rung b % 9223372036854775808 = rung b from h2]
  have h4 : isNeg (rung b) = false := by unfold isNeg; rw [Nat.div_eq_of_lt h0]; rfl
  have h5 : isNeg 9218868437227405311 = false := by decide
  have h6 : rung 9218868437227405311 = 9218868437227405311 := by decide
  have h7 : val 9218868437227405311 < val (rung b) ↔ 9218868437227405311 < rung b := by
    unfold val; rw [h4, h5, h2, h6]
    simp only [Bool.false_eq_true, if_false]
    rw [← V_lt_iff (r := 9218868437227405311) (s := rung b)]; omega
  rw [h1, h3, show decide (val 9218868437227405311 < val (rung b)) = decide (9218868437227405311 < rung b) from decide_eq_decide.2 h7, Bool.eq_iff_iff]
  simp only [and_true, Bool.and_eq_true, Bool.not_eq_true', decide_eq_false_iff_not, Bool.not_false, decide_eq_true_eq]
  omega

theorem NaN_r (w : World) : Ret Tryz.prog 124 [] w fun v w' => v = .float .f64 9221120237041090561 ∧ w' = w := by
  refine enter Tryz.func124 rfl rfl rfl <| Wc.seq fun _ hK_1 => Wc.region <| Wl.sg rfl rfl <| Wl.nil <| Wq.next hK_1 <| Wc.seq fun _ hK_3 => Wc.region <| Wl.y (y_b2f exn150NumA rfl rfl) rfl <| Wl.sg rfl rfl <| Wl.nil <| Wq.next hK_3 <| Wc.ret <| ret1 rfl rfl ?_
  exact ⟨_, rfl, rfl, rfl⟩

theorem Signbit_r (b : Nat) (hb : b < 18446744073709551616) (w : World) : Ret Tryz.prog 115 [.float .f64 b] w fun v w' => v = .bool (isNeg b) ∧ w' = w := by
  refine enter Tryz.func115 rfl rfl rfl <| Wc.seq fun _ hK_1 => Wc.region <| Wl.sg rfl rfl <| Wl.nil <| Wq.next hK_1 <| Wc.seq fun _ hK_3 => Wc.region <| Wl.mv rfl rfl <| Wl.y (y_f2b exn91NumA rfl rfl) rfl <| Wl.y (y_convi Tryz.underlying135 Tryz.underlying2 rfl) rfl <| Wl.y (y_lssi rfl rfl) rfl <| Wl.sg rfl rfl <| Wl.nil <| Wq.next hK_3 <| Wc.ret <| ret1 rfl rfl ?_
  exact ⟨_, rfl, bool_eq (by
  unfold isNeg
  rw [IntKind.wrap_i64, Bool.eq_iff_iff]
  simp only [decide_eq_true_eq, beq_iff_eq]
  omega), rfl⟩

theorem Abs_r (b : Nat) (hb : b < 18446744073709551616) (w : World) : Ret Tryz.prog 118 [.float .f64 b] w fun v w' => v = .float .f64 (rung b) ∧ w' = w := by
  refine enter Tryz.func118 rfl rfl rfl <| Wc.seq fun _ hK_1 => Wc.region <| Wl.sg rfl rfl <| Wl.nil <| Wq.next hK_1 <| Wc.seq fun _ hK_3 => Wc.region <| Wl.mv rfl rfl <| Wl.y (y_f2b exn91NumA rfl rfl) rfl <| Wl.y (y_eq (y_andNot rfl rfl) (int_eq (clear63 b hb))) rfl <| Wl.y (y_b2f exn150NumA rfl rfl) rfl <| Wl.sg rfl rfl <| Wl.nil <| Wq.next hK_3 <| Wc.ret <| ret1 rfl rfl ?_
  exact ⟨_, rfl, rfl, rfl⟩

theorem IsNaN_r (b : Nat) (w : World) : Ret Tryz.prog 192 [.float .f64 b] w fun v w' => v = .bool (isNan b) ∧ w' = w := by
  refine enter Tryz.func192 rfl rfl rfl <| Wc.seq fun _ hK_1 => Wc.region <| Wl.sg rfl rfl <| Wl.nil <| Wq.next hK_1 <| Wc.seq fun _ hK_3 => Wc.region <| Wl.mv rfl rfl <| Wl.mv rfl rfl <| Wl.y (y_neqf rfl rfl) rfl <| Wl.sg rfl rfl <| Wl.nil <| Wq.next hK_3 <| Wc.ret <| ret1 rfl rfl ?_
  exact ⟨_, rfl, bool_eq (by show (!(Ieee.double.order b b == some .eq)) = _; rw [eq_val]; simp), rfl⟩

theorem IsInf_r (b : Nat) (hb : b < 18446744073709551616) (w : World) : Ret Tryz.prog 116 [.float .f64 b, .int .i64 0] w fun v w' => v = .bool (decide (rung b = 9218868437227405312)) ∧ w' = w := by
  refine enter Tryz.func116 rfl rfl rfl <| Wc.seq fun _ hK_1 => Wc.region <| Wl.sg rfl rfl <| Wl.nil <| Wq.next hK_1 <| Wc.seq fun _ hK_3 => Wc.seq fun _ hK_4 => Wc.region <| Wl.mv rfl rfl <| Wl.y (y_eqli rfl rfl) rfl <| Wl.nil <| Wq.next hK_4 <| Wc.cond rfl (fun c0_7 => ?_) (fun c0_7 => ?_)
  ·
   have c0_7_ := c0_7
   simp only [DZ] at c0_7
   refine Wc.region <| Wl.mv rfl rfl <| Wl.call txt118NumA rfl rfl (Abs_r b hb _) rfl ?_
   rintro _ _ ⟨rfl, rfl⟩
   refine Wl.sg rfl rfl <| Wl.nil <| Wq.next hK_3 <| Wc.seq fun _ hK_11 => Wc.region <| Wl.mv rfl rfl <| Wl.y (y_gtrf rfl rfl) rfl <| Wl.sg rfl rfl <| Wl.nil <| Wq.next hK_11 <| Wc.ret <| ret1 rfl rfl ?_
   exact ⟨_, rfl, bool_eq (isInf_eq b), rfl⟩
  have c0_7_ := c0_7
  simp only [DZ] at c0_7
  exact absurd trivial c0_7

theorem Floor_r (b : Nat) (hn : isNan b = false) (w : World) : Ret Tryz.prog 119 [.float .f64 b] w fun v w' => v = .float .f64 (floorW b) ∧ w' = w := by
  refine enter Tryz.func119 rfl rfl rfl <| Wc.seq fun _ hK_1 => Wc.region <| Wl.sg rfl rfl <| Wl.nil <| Wq.next hK_1 <| Wc.seq fun _ hK_3 => Wc.condT rfl rfl <| Wc.seq fun _ hK_4 => Wc.region <| Wl.mv rfl rfl <| Wl.y (y_floor exn163NumA rfl rfl (hn)) rfl <| Wl.sg rfl rfl <| Wl.nil <| Wq.next hK_4 <| Wc.ret <| Wq.then_ret <| ret1 rfl rfl ?_
  exact ⟨_, rfl, rfl, rfl⟩

theorem Parts_r (b : Nat) (hb : b < 18446744073709551616) (w : World) : Ret Tryz.prog 156 [.float .f64 b] w fun v w' => v = .tuple #[.bool (isNeg b), .int .i64 ((b / 4503599627370496 % 2048 : Nat) : Int), .int .i64 ((b % 4503599627370496 : Nat) : Int)] ∧ w' = w := by
  refine enter Tryz.func156 rfl rfl rfl <| Wc.seq fun _ hK_1 => Wc.region <| Wl.sg rfl rfl <| Wl.sg rfl rfl <| Wl.sg rfl rfl <| Wl.nil <| Wq.next hK_1 <| Wc.seq fun _ hK_5 => Wc.region <| Wl.mv rfl rfl <| Wl.y (y_f2b exn91NumA rfl rfl) rfl <| Wl.sg rfl rfl <| Wl.nil <| Wq.next hK_5 <| Wc.seq fun _ hK_9 => Wc.region <| Wl.mv rfl rfl <| Wl.y (y_eq (y_shr rfl rfl (by decide) (by decide)) (int_eq (sh63 b))) rfl <| Wl.y (y_eq (y_eqli rfl rfl) (bool_eq (show ((((b / 9223372036854775808 : Nat) : Int)) == 1) = isNeg b by unfold isNeg; rw [Bool.eq_iff_iff]; simp only [beq_iff_eq]; omega))) rfl <| Wl.mv rfl rfl <| Wl.y (y_eq (y_shr rfl rfl (by decide) (by decide)) (int_eq (sh52 b))) rfl <| Wl.y (y_eq (y_and rfl rfl) (int_eq (and2047 _ (by omega)))) rfl <| Wl.y (y_eq (y_convi Tryz.underlying135 Tryz.underlying3 rfl) (int_eq (conv_u64_i64 _ (by omega)))) rfl <| Wl.mv rfl rfl <| Wl.y (y_eq (y_and rfl rfl) (int_eq (and52 _ hb))) rfl <| Wl.y (y_eq (y_convi Tryz.underlying135 Tryz.underlying3 rfl) (int_eq (conv_u64_i64 _ (by omega)))) rfl <| Wl.sg rfl rfl <| Wl.sg rfl rfl <| Wl.sg rfl rfl <| Wl.nil <| Wq.next hK_9 <| Wc.ret <| ret3 rfl rfl rfl rfl ?_
  exact ⟨_, rfl, rfl, rfl⟩

theorem Nan_r (b : Nat) (hb : b < 18446744073709551616) (w : World) : Ret Tryz.prog 111 [.float .f64 b] w fun v w' => v = .bool (isNan b) ∧ w' = w := by
  have hk : isNan b = (decide (b / 4503599627370496 % 2048 = 2047) && decide (b % 4503599627370496 ≠ 0)) := by
    unfold isNan; rw [Bool.eq_iff_iff]; simp only [Bool.and_eq_true, decide_eq_true_eq]; omega
  refine enter Tryz.func111 rfl rfl rfl <| Wc.seq fun _ hK_1 => Wc.region <| Wl.sg rfl rfl <| Wl.nil <| Wq.next hK_1 <| Wc.seq fun _ hK_3 => Wc.region <| Wl.mv rfl rfl <| Wl.call txt156NumA rfl rfl (Parts_r b hb _) rfl ?_
  rintro _ _ ⟨rfl, rfl⟩
  refine Wl.mv rfl rfl <| Wl.y (y_extract rfl rfl) rfl <| Wl.y (y_extract rfl rfl) rfl <| Wl.y (y_extract rfl rfl) rfl <| Wl.sg rfl rfl <| Wl.sg rfl rfl <| Wl.sg rfl rfl <| Wl.nil <| Wq.next hK_3 <| Wc.seq fun _ hK_13 => Wc.region <| Wl.mv rfl rfl <| Wl.y (y_eqli rfl rfl) rfl <| Wl.mv rfl rfl <| Wl.guardT rfl rfl rfl (fun g_17 => ?_) (fun g_17 => ?_)
  ·
   have g_17_ := g_17
   simp only [DZ] at g_17
   refine Wl.mv rfl rfl <| Wl.on' rfl rfl g_17_ <| Wl.y (y_neqi rfl rfl) rfl <| Wl.y (y_pickT rfl g_17_ rfl) rfl <| Wl.sg rfl rfl <| Wl.nil <| Wq.next hK_13 <| Wc.ret <| ret1 rfl rfl ?_
   exact ⟨_, rfl, bool_eq (by rw [hk, Bool.eq_iff_iff]; simp only [Bool.and_eq_true, decide_eq_true_eq, bne_iff_ne, ne_eq]; constructor <;> intro h <;> omega), rfl⟩
  have g_17_ := g_17
  simp only [DZ] at g_17
  refine Wl.off' rfl rfl g_17_ rfl rfl <| Wl.y (y_pickF rfl g_17_ rfl) rfl <| Wl.sg rfl rfl <| Wl.nil <| Wq.next hK_13 <| Wc.ret <| ret1 rfl rfl ?_
  exact ⟨_, rfl, bool_eq (by rw [hk, Bool.eq_iff_iff]; simp only [Bool.and_eq_true, decide_eq_true_eq]; constructor <;> intro h <;> (first | omega | cases h)), rfl⟩

def canon (b : Nat) : Nat := if isNan b = true then 9221120237041090561 else b
theorem Bits_r (b : Nat) (hb : b < 18446744073709551616) (w : World) : Ret Tryz.prog 82 [.float .f64 b] w fun v w' => v = .int .u64 (canon b : Nat) ∧ w' = w := by
  refine enter Tryz.func82 rfl rfl rfl <| Wc.seq fun _ hK_1 => Wc.region <| Wl.sg rfl rfl <| Wl.nil <| Wq.next hK_1 <| Wc.seq fun _ hK_3 => Wc.region <| Wl.mv rfl rfl <| Wl.call txt111NumA rfl rfl (Nan_r b hb _) rfl ?_
  rintro _ _ ⟨rfl, rfl⟩
  refine Wl.sg rfl rfl <| Wl.nil <| Wq.next hK_3 <| Wc.seq fun _ hK_7 => Wc.seq fun _ hK_8 => Wc.region <| Wl.mv rfl rfl <| Wl.nil <| Wq.next hK_8 <| Wc.cond rfl (fun c0_10 => ?_) (fun c0_10 => ?_)
  ·
   have c0_10_ := c0_10
   refine Wc.seq fun _ hK_11 => Wc.region <| Wl.sg rfl rfl <| Wl.nil <| Wq.next hK_11 <| Wc.ret <| Wq.then_ret <| ret1 rfl rfl ?_
   exact ⟨_, rfl, int_eq (by unfold canon; rw [if_pos c0_10_]; rfl), rfl⟩
  have c0_10_ := c0_10
  refine Wc.skip <| Wq.next hK_7 <| Wc.seq fun _ hK_13 => Wc.region <| Wl.mv rfl rfl <| Wl.y (y_f2b exn91NumA rfl rfl) rfl <| Wl.sg rfl rfl <| Wl.nil <| Wq.next hK_13 <| Wc.ret <| ret1 rfl rfl ?_
  exact ⟨_, rfl, int_eq (by unfold canon; rw [if_neg (by rw [c0_10_]; simp)]), rfl⟩

theorem Canon_r (b : Nat) (w : World) : Ret Tryz.prog 90 [.float .f64 b] w fun v w' => v = .float .f64 (canon b) ∧ w' = w := by
  have hk : (!(Ieee.double.order b b == some .eq)) = isNan b := by rw [eq_val]; simp
  refine enter Tryz.func90 rfl rfl rfl <| Wc.seq fun _ hK_1 => Wc.region <| Wl.sg rfl rfl <| Wl.nil <| Wq.next hK_1 <| Wc.seq fun _ hK_3 => Wc.seq fun _ hK_4 => Wc.region <| Wl.mv rfl rfl <| Wl.mv rfl rfl <| Wl.y (y_neqf rfl rfl) rfl <| Wl.nil <| Wq.next hK_4 ?_
  rw [show (FloatKind.f64.format.order b b != some .eq) = isNan b from hk]
  refine Wc.cond rfl (fun c0_8 => ?_) (fun c0_8 => ?_)
  ·
   have c0_8_ := c0_8
   refine Wc.seq fun _ hK_9 => Wc.region <| Wl.call txt124NumA rfl rfl (NaN_r _) rfl ?_
   rintro _ _ ⟨rfl, rfl⟩
   refine Wl.sg rfl rfl <| Wl.nil <| Wq.next hK_9 <| Wc.ret <| Wq.then_ret <| ret1 rfl rfl ?_
   exact ⟨_, rfl, by unfold canon; rw [if_pos c0_8_], rfl⟩
  have c0_8_ := c0_8
  refine Wc.skip <| Wq.next hK_3 <| Wc.seq fun _ hK_12 => Wc.region <| Wl.mv rfl rfl <| Wl.sg rfl rfl <| Wl.nil <| Wq.next hK_12 <| Wc.ret <| ret1 rfl rfl ?_
  exact ⟨_, rfl, by unfold canon; rw [if_neg (by rw [c0_8_]; simp)], rfl⟩
end Go.Proofs.YtjmlknjbhbfneaaGreatDoor
namespace Go.Proofs.YtjmlknjbhbfneaaGreatDoor
open Go.RowKit Go.Bw Go.Bw.Fl
set_option linter.unusedVariables false
set_option linter.unusedSimpArgs false
theorem sz5LibA : (Tryz.prog.info? 5).map (·.size) = some 1 := by kernel_rfl
theorem txt157LibA : Txt Tryz.prog 157 := ⟨_, Tryz.func157, by kernel_rfl, rfl⟩   -- internal/strconv.small
theorem txt158LibA : Txt Tryz.prog 158 := ⟨_, Tryz.func158, by kernel_rfl, rfl⟩   -- internal/strconv.numDigits
theorem txt159LibA : Txt Tryz.prog 159 := ⟨_, Tryz.func159, by kernel_rfl, rfl⟩   -- internal/strconv.formatBase10
theorem txt165LibA : Txt Tryz.prog 165 := ⟨_, Tryz.func165, by kernel_rfl, rfl⟩   -- internal/strconv.FormatUint
theorem var_below {P : Program} {w w' : World} {name : String} {cs : Array Value} (h : World.var? P w name = some cs) (hb : Below w.heap.size w w') : World.var? P w' name = some cs := by
  unfold World.var? at h ⊢
  cases hg : P.globalNamed name with
  | none => rw [hg] at h; cases h
  | some g =>
    rw [hg] at h
    have hlt : g < w.heap.size := by
      rcases Nat.lt_or_ge g w.heap.size with h1 | h1
      · exact h1
      · simp [Array.getElem?_eq_none h1] at h
    simp only [Option.bind_some] at h ⊢
    rw [hb.block g hlt]; exact h
/-- what the table of powers of ten holds -/
structure Lt (w : World) : Prop where
  tab : Lib.TabIs Tryz.prog w "internal/strconv.uint64pow10" .u64 Lib.pow10Tab
theorem Lt.below {w w' : World} (h : Lt w) (hb : Below w.heap.size w w') : Lt w' := ⟨var_below h.tab hb⟩
/-- what the library's variables hold -/
structure Lb (w : World) : Prop where
  tab : Lib.TabIs Tryz.prog w "internal/strconv.uint64pow10" .u64 Lib.pow10Tab
  syn : ∃ tp p, World.var? Tryz.prog w "strconv.ErrSyntax" = some #[.iface tp p]
  rng : ∃ tp p, World.var? Tryz.prog w "strconv.ErrRange" = some #[.iface tp p]
theorem Lb.below {w w' : World} (h : Lb w) (hb : Below w.heap.size w w') : Lb w' :=
  ⟨var_below h.tab hb, h.syn.elim fun tp h1 => h1.elim fun p h2 => ⟨tp, p, var_below h2 hb⟩, h.rng.elim fun tp h1 => h1.elim fun p h2 => ⟨tp, p, var_below h2 hb⟩⟩
theorem Lb.lt {w : World} (h : Lb w) : Lt w := ⟨h.tab⟩
instance {w : World} : CoeOut (Lb w) (Lt w) := ⟨Lb.lt⟩
theorem below_grow (w : World) (k : Nat) (os : Array Obj) : Below w.heap.size w (Sort.grow (w.drewN k) os) :=
  ⟨rfl, rfl, rfl, by show w.heap.size ≤ (w.heap ++ os).size; simp, fun i hi => by show (w.heap ++ os)[i]? = _; rw [Array.getElem?_append, if_pos hi]⟩
theorem Ret.calls {f : FuncId} {args : List Value} {w : World} {v : Value} {R : World → Prop} (h : Calls Tryz.prog f args.toArray w fun e w' => e = .returned v ∧ R w') (hR : ∀ w', R w' → Below w.heap.size w w') : Ret Tryz.prog f args w fun u w' => u = v ∧ Below w.heap.size w w' :=
  h.mono fun e w' ⟨he, hw⟩ => ⟨v, he, rfl, hR w' hw⟩
theorem Ret.pure {f : FuncId} {args : List Value} {w : World} {v : Value} (h : Calls Tryz.prog f args.toArray w fun e w' => e = .returned v ∧ w' = w) : Ret Tryz.prog f args w fun u w' => u = v ∧ w' = w :=
  h.mono fun e w' ⟨he, hw⟩ => ⟨v, he, rfl, hw⟩
theorem Itoa_r (n : Int) (h0 : -9223372036854775808 ≤ n) (h1 : n ≤ 9223372036854775807) (w : World) (hL : Lt w) : Ret Tryz.prog 121 [.int .i64 n] w fun v w' => v = str (Lib.itoa n) ∧ Below w.heap.size w w' :=
  Ret.calls (Tryz.strconv_Itoa n h0 h1 w hL.tab) fun w' ⟨k, os, e⟩ => e ▸ below_grow w k os
theorem FormatInt_r (n : Int) (h0 : -9223372036854775808 ≤ n) (h1 : n ≤ 9223372036854775807) (w : World) (hL : Lt w) : Ret Tryz.prog 86 [.int .i64 n, .int .i64 10] w fun v w' => v = str (Lib.itoa n) ∧ Below w.heap.size w w' :=
  Ret.calls (Tryz.strconv_FormatInt_10 n h0 h1 w hL.tab) fun w' ⟨k, os, e⟩ => e ▸ below_grow w k os
theorem HasPrefix_r (s p : List UInt8) (w : World) : Ret Tryz.prog 41 [str s, str p] w fun v w' => v = .bool (Lib.hasPrefix s p) ∧ w' = w := Ret.pure (Tryz.strings_HasPrefix ⟨s.toArray⟩ ⟨p.toArray⟩ w)
theorem TrimPrefix_r (s p : List UInt8) (w : World) : Ret Tryz.prog 140 [str s, str p] w fun v w' => v = str (Lib.trimPrefix s p) ∧ w' = w := Ret.pure (Tryz.strings_TrimPrefix ⟨s.toArray⟩ ⟨p.toArray⟩ w)
theorem CutPrefix_r (s p : List UInt8) (w : World) : Ret Tryz.prog 35 [str s, str p] w fun v w' => v = .tuple #[str (Lib.trimPrefix s p), .bool (Lib.hasPrefix s p)] ∧ w' = w := Ret.pure (Tryz.strings_CutPrefix ⟨s.toArray⟩ ⟨p.toArray⟩ w)
theorem IndexByte_r (s : List UInt8) (c : Int) (w : World) : Ret Tryz.prog 42 [str s, .int .u8 c] w fun v w' => v = .int .i64 (Lib.indexByte s c.toNat.toUInt8) ∧ w' = w := Ret.pure (Tryz.strings_IndexByte ⟨s.toArray⟩ c w)
theorem FormatBool_r (b : Bool) (w : World) : Ret Tryz.prog 85 [.bool b] w fun v w' => v = str (if b then [116, 114, 117, 101] else [102, 97, 108, 115, 101]) ∧ w' = w := by
  cases b
  · exact Ret.pure (Tryz.strconv_FormatBool false w)
  · exact Ret.pure (Tryz.strconv_FormatBool true w)
theorem hz_of {w : World} {g : Nat} {e : TypeId} (h : Blk w g e Lib.zeros24.toList) (nd : Nat) (hn : nd ≤ 24) : Sort.Holds (fun (b : UInt8) => Value.int .u8 (b.toNat : Int)) w g 0 (Array.replicate nd (0 : UInt8)) := fun j hj => by
  have hj' : j < nd := by simpa using hj
  refine ⟨?_, h.frozen _⟩
  rw [h.cell, Nat.zero_add, Array.getElem?_toList, Lib.zeros24_at _ (by omega), getElem!_pos _ j hj]
  simp
/-- formatBase10 on a row of zeros of one's own -/
theorem fmt_r (g cap u nd : Nat) (w : World) (hu : u < 18446744073709551616) (hnd : nd = Lib.nDigits u) (hc : nd ≤ 24) (hH : Sort.Holds (fun (b : UInt8) => Value.int .u8 (b.toNat : Int)) w g 0 (Array.replicate nd (0 : UInt8))) :
    Ret Tryz.prog 159 [.slice (some ⟨g, 0, none⟩) nd cap, .int .u64 u] w fun v w' => v = .tuple #[] ∧ (∀ j (hj : j < (Lib.decDigits u).length), w'.cell? ((⟨g, 0, none⟩ : Addr).add j) = some (.int .u8 ((Lib.decDigits u)[j].toNat : Int))) ∧ w.grownBy w' (some g) := by
  have h := Tryz.internal_strconv_formatBase10 g 0 cap u (Array.replicate nd 0) w hH (by rw [Array.size_replicate, hnd]; exact Lib.lt_pow_nDigits u) hu (by rw [Array.size_replicate]; omega)
  rw [Array.size_replicate] at h
  refine Calls.mono h fun e w' ⟨he, n, v', dk, hw, hF⟩ => ⟨_, he, rfl, fun j hj => ?_, ?_⟩
  · subst hw
    rw [Lib.row_is_numeral (hnd ▸ hF) j hj, add_zero_off, World.cell?_drewN]
    have hd : dk.size = nd := hF.size
    have := Sort.cell?_putRow (fun (b : UInt8) => Value.int .u8 (b.toNat : Int)) w g 0 _ dk hH (by rw [hd, Array.size_replicate]) j (by rw [hd, hnd]; rwa [Lib.decDigits_length] at hj)
    rwa [Nat.zero_add] at this
  · subst hw
    refine ⟨rfl, rfl, rfl, ?_, fun k hk hne => ?_⟩
    · show _ ≤ (Sort.mapBlock w g _).heap.size
      simp [Sort.mapBlock]
    · show (Sort.mapBlock w g _).heap[k]? = _
      have : g ≠ k := fun e => hne (by rw [e])
      simp only [Sort.mapBlock, Array.getElem?_modify, if_neg this]
theorem rd_cells {w : World} {p : Addr} {l : List UInt8} (h : ∀ j (hj : j < l.length), w.cell? (p.add j) = some (.int .u8 (l[j].toNat : Int))) {n : Nat} (hn : n = l.length) : Rd w 1 (some p) n (u8s l) :=
  ⟨by rw [u8s_length, Nat.mul_one, hn], fun _ => ⟨_, rfl, fun j u hu => by
    obtain ⟨hj, e⟩ := List.getElem?_eq_some_iff.1 hu
    rw [u8s_length] at hj
    rw [h j hj, ← e]
    simp [u8s]⟩⟩
theorem iFormatUint_r (u : Nat) (hu : u < 18446744073709551616) (w : World) (hL : Lt w) : Ret Tryz.prog 165 [.int .u64 u, .int .i64 10] w fun v w' => v = str (Lib.decDigits u) ∧ Below w.heap.size w w' := by
  have h20 : 1 ≤ u → Lib.nDigits u ≤ 20 := fun h1 => by have := Lib.numDigits_eq u h1 hu; split at this <;> omega
  have hb := Below.refl w.heap.size w
  have hL_hb := hL
  refine enter Tryz.func165 rfl rfl rfl <| Wc.seq fun _ hK_1 => Wc.region <| Wl.sg rfl rfl <| Wl.nil <| Wq.next hK_1 <| Wc.seq fun _ hK_3 => Wc.seq fun _ hK_4 => Wc.region <| Wl.mv rfl rfl <| Wl.y (y_eqli rfl rfl) rfl <| Wl.nil <| Wq.next hK_4 <| Wc.cond rfl (fun c0_7 => ?_) (fun c0_7 => ?_)
  ·
   have c0_7_ := c0_7
   simp only [DZ] at c0_7
   refine Wc.seq fun _ hK_8 => Wc.seq fun _ hK_9 => Wc.region <| Wl.mv rfl rfl <| Wl.y (y_lssi rfl rfl) rfl <| Wl.nil <| Wq.next hK_9 <| Wc.cond rfl (fun c1_12 => ?_) (fun c1_12 => ?_)
   ·
    have c1_12_ := c1_12
    simp only [DZ] at c1_12
    refine Wc.seq fun _ hK_13 => Wc.region <| Wl.mv rfl rfl <| Wl.y (y_eq (y_convi Tryz.underlying135 Tryz.underlying3 rfl) (int_eq (conv_u64_i64 u (by have := c1_12; omega)))) rfl <| Wl.call txt157LibA rfl rfl (Ret.pure (Tryz.internal_strconv_small u (by have := c1_12; omega) _)) rfl ?_
    rintro _ w_ ⟨rfl, hw_⟩
    have hw_ := hw_.symm; subst hw_
    refine Wl.sg rfl rfl <| Wl.nil <| Wq.next hK_13 <| Wc.ret <| Wq.then_ret (Wq.then_ret ?_)
    refine ret1 rfl rfl ?_
    exact ⟨_, rfl, rfl, hb⟩
   have c1_12_ := c1_12
   simp only [DZ] at c1_12
   have hu1 : 1 ≤ u := by omega
   have hnd := h20 hu1
   refine Wc.skip <| Wq.next hK_8 <| Wc.seq fun _ hK_18 => Wc.region <| Wl.allocN (z := (.agg #[(.int .u8 0), (.int .u8 0), (.int .u8 0), (.int .u8 0), (.int .u8 0), (.int .u8 0), (.int .u8 0), (.int .u8 0), (.int .u8 0), (.int .u8 0), (.int .u8 0), (.int .u8 0), (.int .u8 0), (.int .u8 0), (.int .u8 0), (.int .u8 0), (.int .u8 0), (.int .u8 0), (.int .u8 0), (.int .u8 0), (.int .u8 0), (.int .u8 0), (.int .u8 0), (.int .u8 0)])) (by kernel_rfl) rfl ?_
   rintro g_o8 w_o8 hg_o8 hn_o8 hs_o8
   have hz_o8 := hs_o8.size
   have hb := hb.trans (hs_o8.mono hb.size)
   have hL := hL_hb.below hb
   have hB_o8 := hn_o8
   have hl_o8 := hB_o8.lt
   refine Wl.nil <| Wq.next hK_18 <| Wc.seq fun _ hK_20 => Wc.region <| Wl.mv rfl rfl <| Wl.call txt158LibA rfl rfl (Ret.pure (Tryz.internal_strconv_numDigits u hu1 hu _ hL.tab)) rfl ?_
   rintro _ w_ ⟨rfl, hw_⟩
   have hw_ := hw_.symm; subst hw_
   refine Wl.sg rfl rfl <| Wl.nil <| Wq.next hK_20 <| Wc.seq fun _ hK_24 => Wc.region <| Wl.mv rfl rfl <| Wl.y (y_sliceAH Tryz.underlying188 sz5LibA rfl rfl (by omega) (by omega)) rfl <| Wl.mv rfl rfl <| Wl.call txt159LibA rfl rfl (fmt_r g_o8 24 u (Lib.nDigits u) _ hu rfl (by omega) (hz_of hB_o8 (Lib.nDigits u) (by omega))) rfl ?_
   rintro _ w3 ⟨rfl, hfm, hg3⟩
   refine Wl.nil <| Wq.next hK_24 <| Wc.seq fun _ hK_29 => Wc.region <| Wl.mv rfl rfl <| Wl.y (y_sliceAH Tryz.underlying188 sz5LibA rfl rfl (by omega) (by omega)) rfl <| Wl.l (l_str Tryz.underlying22 Tryz.underlying5 Tryz.underlying9 rfl (by exact rd_cells hfm (by rw [Lib.decDigits_length]; simp))) rfl <| Wl.sg rfl rfl <| Wl.nil <| Wq.next hK_29 <| Wc.ret <| Wq.then_ret <| ret1 rfl rfl ?_
   exact ⟨_, rfl, rfl, below_blk hb hg3 hb.size (by omega)⟩
  have c0_7_ := c0_7
  simp only [DZ] at c0_7
  cases c0_7_
theorem FormatUint_r (u : Nat) (hu : u < 18446744073709551616) (w : World) (hL : Lt w) : Ret Tryz.prog 120 [.int .u64 u, .int .i64 10] w fun v w' => v = str (Lib.decDigits u) ∧ Below w.heap.size w w' := by
  have hb := Below.refl w.heap.size w
  refine enter Tryz.func120 rfl rfl rfl <| Wc.seq fun _ hK_1 => Wc.region <| Wl.sg rfl rfl <| Wl.nil <| Wq.next hK_1 <| Wc.seq fun _ hK_3 => Wc.region <| Wl.mv rfl rfl <| Wl.mv rfl rfl <| Wl.call txt165LibA rfl rfl (iFormatUint_r u hu _ hL) rfl ?_
  rintro _ w_k0 ⟨rfl, hs_k0⟩
  have hz_k0 := hs_k0.size
  have hb := hb.trans (hs_k0.mono hb.size)
  refine Wl.sg rfl rfl <| Wl.nil <| Wq.next hK_3 <| Wc.ret <| ret1 rfl rfl ?_
  exact ⟨_, rfl, rfl, hb⟩
theorem decDigits_le (u : Nat) (hu : u < 18446744073709551616) : (Lib.decDigits u).length ≤ 20 := by
  rw [Lib.decDigits_length]
  rcases Nat.eq_zero_or_pos u with h | h
  · subst h; rw [Lib.nDigits_small (by decide)]; decide
  · have := Lib.numDigits_eq u h hu; split at this <;> omega
theorem itoa_le (n : Int) (h0 : -9223372036854775808 ≤ n) (h1 : n ≤ 9223372036854775807) : (Lib.itoa n).length ≤ 21 := by
  unfold Lib.itoa; split
  · have := decDigits_le n.natAbs (by omega); simp; omega
  · have := decDigits_le n.toNat (by omega); omega
end Go.Proofs.YtjmlknjbhbfneaaGreatDoor
namespace Go.Proofs.YtjmlknjbhbfneaaGreatDoor
open Go.RowKit Go.Bw Go.Bw.Fl
set_option linter.unusedVariables false
set_option linter.unusedSimpArgs false
theorem exn150NumB : Extn Tryz.prog 150 Extern.MathFloatBits.float64frombits := fun args w => run_callFunc_extern Tryz.func150 (by kernel_rfl) (by kernel_rfl) (by kernel_rfl) (by kernel_rfl) args w
theorem exn91NumB : Extn Tryz.prog 91 Extern.MathFloatBits.float64bits := fun args w => run_callFunc_extern Tryz.func91 (by kernel_rfl) (by kernel_rfl) (by kernel_rfl) (by kernel_rfl) args w
theorem txt115NumB : Txt Tryz.prog 115 := ⟨_, Tryz.func115, by kernel_rfl, rfl⟩   -- math.Signbit
theorem txt116NumB : Txt Tryz.prog 116 := ⟨_, Tryz.func116, by kernel_rfl, rfl⟩   -- math.IsInf
theorem txt117NumB : Txt Tryz.prog 117 := ⟨_, Tryz.func117, by kernel_rfl, rfl⟩   -- math.Frexp
theorem txt118NumB : Txt Tryz.prog 118 := ⟨_, Tryz.func118, by kernel_rfl, rfl⟩   -- math.Abs
theorem txt119NumB : Txt Tryz.prog 119 := ⟨_, Tryz.func119, by kernel_rfl, rfl⟩   -- math.Floor
theorem txt120NumB : Txt Tryz.prog 120 := ⟨_, Tryz.func120, by kernel_rfl, rfl⟩   -- strconv.FormatUint
theorem txt121NumB : Txt Tryz.prog 121 := ⟨_, Tryz.func121, by kernel_rfl, rfl⟩   -- strconv.Itoa
theorem txt162NumB : Txt Tryz.prog 162 := ⟨_, Tryz.func162, by kernel_rfl, rfl⟩   -- math.frexp
theorem txt192NumB : Txt Tryz.prog 192 := ⟨_, Tryz.func192, by kernel_rfl, rfl⟩   -- math.IsNaN
theorem txt193NumB : Txt Tryz.prog 193 := ⟨_, Tryz.func193, by kernel_rfl, rfl⟩   -- math.normalize
theorem rung_pos {r : Nat} (h : r < 9218868437227405313) : rung r = r := Nat.mod_eq_of_lt (by omega)
theorem neg_pos {r : Nat} (h : r < 9218868437227405313) : isNeg r = false := by unfold isNeg; rw [Nat.div_eq_of_lt (by omega)]; rfl
theorem nan_pos {r : Nat} (h : r < 9218868437227405313) : isNan r = false := by unfold isNan; rw [Nat.mod_eq_of_lt (by omega)]; simp; omega
theorem val_pos {r : Nat} (h : r < 9218868437227405313) : val r = (V r : Int) := by unfold val; rw [neg_pos h, rung_pos h]; rfl
theorem lt_pos {r s : Nat} (h : r < 9218868437227405313) (hs : s < 9218868437227405313) : (Ieee.double.order r s == some .lt) = decide (r < s) := by
  rw [lt_val, nan_pos h, nan_pos hs, val_pos h, val_pos hs]
  simp only [Bool.not_false, Bool.true_and]
  apply decide_eq_decide.2
  rw [← V_lt_iff (r := r)]; omega
theorem eq_zero_f (b : Nat) : (Ieee.double.order b 0 == some .eq) = (!isNan b && decide (rung b = 0)) := by
  have h0 : val 0 = 0 := by decide
  have h1 : isNan 0 = false := by decide
  rw [eq_val, h0, h1]
  simp only [Bool.not_false, Bool.and_true]
  congr 1
  exact decide_eq_decide.2 val_zero
theorem ne_self_f (b : Nat) : (FloatKind.f64.format.order b b != some .eq) = isNan b := by
  show (!(Ieee.double.order b b == some .eq)) = _
  rw [eq_val]; simp

theorem normalize_r (r : Nat) (h0 : r ≠ 0) (h1 : r < 9218868437227405312) (w : World) : Ret Tryz.prog 193 [.float .f64 r] w fun v w' => (∃ r' s, v = .tuple #[.float .f64 r', .int .i64 s] ∧ Nrm r r' s) ∧ w' = w := by
  have hr : rung r = r := rung_pos (by omega)
  have hc : (FloatKind.f64.format.order (rung r) 4503599627370496 == some .lt) = decide (r < 4503599627370496) := by rw [hr]; exact lt_pos (by omega) (by decide)
  obtain ⟨r', hr'⟩ : ∃ r', r < 4503599627370496 → (r' < 9218868437227405312 ∧ 4503599627370496 ≤ r' ∧ V r' = r * 2 ^ 52 ∧ floatBits .mul .f64 r 4841369599423283200 = some r') := by
    by_cases h : r < 4503599627370496
    · obtain ⟨r', a, b, _, c, d⟩ := normal_of h0 h
      exact ⟨r', fun _ => ⟨a, b, c, d⟩⟩
    · exact ⟨0, fun h' => absurd h' h⟩
  refine enter Tryz.func193 rfl rfl rfl <| Wc.seq fun _ hK_1 => Wc.region <| Wl.sg rfl rfl <| Wl.sg rfl rfl <| Wl.nil <| Wq.next hK_1 <| Wc.seq fun _ hK_4 => Wc.seq fun _ hK_5 => Wc.region <| Wl.mv rfl rfl <| Wl.call txt118NumB rfl rfl (Abs_r r (by omega) _) rfl ?_
  rintro _ _ ⟨rfl, rfl⟩
  refine Wl.y (y_lssf rfl rfl) rfl <| Wl.nil <| Wq.next hK_5 ?_
  rw [hc]
  refine Wc.cond rfl (fun c0_9 => ?_) (fun c0_9 => ?_)
  ·
   have c0_9_ := c0_9
   simp only [DZ] at c0_9
   refine Wc.seq fun _ hK_10 => Wc.region <| Wl.mv rfl rfl <| Wl.y (y_mulf rfl rfl ((hr' c0_9).2.2.2)) rfl <| Wl.sg rfl rfl <| Wl.sg rfl rfl <| Wl.nil <| Wq.next hK_10 <| Wc.ret <| Wq.then_ret <| ret2 rfl rfl rfl ?_
   exact ⟨_, rfl, ⟨_, _, rfl, (hr' c0_9).1, (hr' c0_9).2.1, .inl ⟨c0_9, rfl, (hr' c0_9).2.2.1⟩⟩, rfl⟩
  have c0_9_ := c0_9
  simp only [DZ] at c0_9
  refine Wc.skip <| Wq.next hK_4 <| Wc.seq fun _ hK_15 => Wc.region <| Wl.mv rfl rfl <| Wl.sg rfl rfl <| Wl.sg rfl rfl <| Wl.nil <| Wq.next hK_15 <| Wc.ret <| ret2 rfl rfl rfl ?_
  exact ⟨_, rfl, ⟨_, _, rfl, h1, Nat.le_of_not_lt c0_9, .inr ⟨Nat.le_of_not_lt c0_9, rfl, rfl⟩⟩, rfl⟩

theorem frexp_r (r : Nat) (h0 : r ≠ 0) (h1 : r < 9218868437227405312) (w : World) : Ret Tryz.prog 162 [.float .f64 r] w fun v w' => (∃ M e, v = .tuple #[.float .f64 (Wk 0 M), .int .i64 e] ∧ Frx r M e ∧ -2000 ≤ e ∧ e ≤ 2000) ∧ w' = w := by
  have hr : rung r = r := rung_pos (by omega)
  have hc0 : (FloatKind.f64.format.order r 0 == some .eq) = false := by
    have := eq_zero_f r
    rw [hr, decide_eq_false h0, Bool.and_false] at this; exact this
  refine enter Tryz.func162 rfl rfl rfl <| Wc.seq fun _ hK_1 => Wc.region <| Wl.sg rfl rfl <| Wl.sg rfl rfl <| Wl.nil <| Wq.next hK_1 <| Wc.seq fun _ hK_4 => Wc.block <| Wc.seq fun _ hK_5 => Wc.region <| Wl.mv rfl rfl <| Wl.y (y_eqlf rfl rfl) rfl <| Wl.sg rfl rfl <| Wl.nil <| Wq.next hK_5 ?_
  rw [hc0]
  refine Wc.cond rfl (fun c0_9 => ?_) (fun c0_9 => ?_)
  ·
   have c0_9_ := c0_9
   cases c0_9_
  have c0_9_ := c0_9
  simp only [DZ] at c0_9
  refine Wc.seq fun _ hK_10 => Wc.region <| Wl.mv rfl rfl <| Wl.call txt116NumB rfl rfl (IsInf_r r (by omega) _) rfl ?_
  rintro _ _ ⟨rfl, rfl⟩
  rw [hr, decide_eq_false (by omega)]
  refine Wl.mv rfl rfl <| Wl.guardF rfl rfl rfl (fun g_14 => ?_) (fun g_14 => ?_)
  ·
   have g_14_ := g_14
   cases g_14_
  have g_14_ := g_14
  simp only [DZ] at g_14
  refine Wl.mv rfl rfl <| Wl.on' rfl rfl g_14_ <| Wl.call txt192NumB rfl rfl (IsNaN_r r _) rfl ?_
  rintro _ _ ⟨rfl, rfl⟩
  rw [nan_pos (by omega)]
  refine Wl.y (y_pickF rfl g_14_ rfl) rfl <| Wl.sg rfl rfl <| Wl.nil <| Wq.next hK_10 <| Wc.cond rfl (fun c1_19 => ?_) (fun c1_19 => ?_)
  ·
   have c1_19_ := c1_19
   cases c1_19_
  have c1_19_ := c1_19
  simp only [DZ] at c1_19
  refine Wc.skip <| Wq.block_normal <| Wq.next hK_4 <| Wc.seq fun _ hK_20 => Wc.region <| Wl.mv rfl rfl <| Wl.call txt193NumB rfl rfl (normalize_r r h0 h1 _) rfl ?_
  rintro _ _ ⟨⟨r', s, rfl, hN⟩, rfl⟩
  have hq1 := hN.1
  have hq2 : r' / 4503599627370496 < 2047 := by omega
  have hq4 : 1 ≤ r' / 4503599627370496 := by have := hN.2.1; omega
  have hq3 : s = -52 ∨ s = 0 := by rcases hN.2.2 with h | h <;> simp [h.2.1]
  refine Wl.mv rfl rfl <| Wl.y (y_extract rfl rfl) rfl <| Wl.y (y_extract rfl rfl) rfl <| Wl.sg rfl rfl <| Wl.sg rfl rfl <| Wl.nil <| Wq.next hK_20 <| Wc.seq fun _ hK_28 => Wc.region <| Wl.mv rfl rfl <| Wl.y (y_f2b exn91NumB rfl rfl) rfl <| Wl.sg rfl rfl <| Wl.nil <| Wq.next hK_28 <| Wc.seq fun _ hK_32 => Wc.region <| Wl.mv rfl rfl <| Wl.mv rfl rfl <| Wl.y (y_eq (y_shr rfl rfl (by decide) (by decide)) (int_eq (sh52 r'))) rfl <| Wl.y (y_eq (y_and rfl rfl) (int_eq ((and2047 _ (by omega)).trans (by rw [Nat.mod_eq_of_lt (show r' / 4503599627370496 < 2048 by omega)])))) rfl <| Wl.y (y_eq (y_convi Tryz.underlying135 Tryz.underlying3 rfl) (int_eq (conv_u64_i64 _ (by omega)))) rfl <| Wl.y (y_subI rfl rfl (by omega) (by omega)) rfl <| Wl.y (y_addI rfl rfl (by omega) (by omega)) rfl <| Wl.y (y_addI rfl rfl (by omega) (by omega)) rfl <| Wl.sg rfl rfl <| Wl.nil <| Wq.next hK_32 <| Wc.seq fun _ hK_42 => Wc.region <| Wl.mv rfl rfl <| Wl.y (y_eq (y_andNot rfl rfl) (int_eq (clearExp r' (by omega)))) rfl <| Wl.sg rfl rfl <| Wl.nil <| Wq.next hK_42 <| Wc.seq fun _ hK_46 => Wc.region <| Wl.mv rfl rfl <| Wl.y (y_eq (y_or rfl rfl) (int_eq (orHalf _ (Nat.mod_lt _ (by decide))))) rfl <| Wl.sg rfl rfl <| Wl.nil <| Wq.next hK_46 <| Wc.seq fun _ hK_50 => Wc.region <| Wl.mv rfl rfl <| Wl.y (y_b2f exn150NumB rfl rfl) rfl <| Wl.sg rfl rfl <| Wl.nil <| Wq.next hK_50 <| Wc.ret <| ret2 rfl rfl rfl ?_
  exact ⟨_, rfl, ⟨4503599627370496 + r' % 4503599627370496, s + (((r' / 4503599627370496 : Nat) : Int) - 1022), by
  rw [Int.toNat_natCast, show Wk 0 (4503599627370496 + r' % 4503599627370496) = 4602678819172646912 + r' % 4503599627370496 by unfold Wk; omega]
  rw [show s + (((r' / 4503599627370496 : Nat) : Int) - 1023 + 1) = s + (((r' / 4503599627370496 : Nat) : Int) - 1022) by omega], frx_of h0 hN, by omega, by omega⟩, rfl⟩

theorem Frexp_r (r : Nat) (h0 : r ≠ 0) (h1 : r < 9218868437227405312) (w : World) : Ret Tryz.prog 117 [.float .f64 r] w fun v w' => (∃ M e, v = .tuple #[.float .f64 (Wk 0 M), .int .i64 e] ∧ Frx r M e ∧ -2000 ≤ e ∧ e ≤ 2000) ∧ w' = w := by
  refine enter Tryz.func117 rfl rfl rfl <| Wc.seq fun _ hK_1 => Wc.region <| Wl.sg rfl rfl <| Wl.sg rfl rfl <| Wl.nil <| Wq.next hK_1 <| Wc.seq fun _ hK_4 => Wc.condF rfl rfl <| Wc.skip <| Wq.next hK_4 <| Wc.seq fun _ hK_5 => Wc.region <| Wl.mv rfl rfl <| Wl.call txt162NumB rfl rfl (frexp_r r h0 h1 _) rfl ?_
  rintro _ _ ⟨⟨M, e, rfl, hF⟩, rfl⟩
  refine Wl.y (y_extract rfl rfl) rfl <| Wl.y (y_extract rfl rfl) rfl <| Wl.sg rfl rfl <| Wl.sg rfl rfl <| Wl.nil <| Wq.next hK_5 <| Wc.ret <| ret2 rfl rfl rfl ?_
  exact ⟨_, rfl, ⟨M, e, rfl, hF⟩, rfl⟩

theorem sgn_le (b : Nat) : (sgn b).length ≤ 1 := by unfold sgn; split <;> simp
theorem ne_tt {b : Bool} (h : b = false) : ¬ b = true := by simp [h]
theorem text_nan {b : Nat} (h : isNan b = true) : str [110, 97, 110] = str (textF b) := by unfold textF; rw [if_pos h]
theorem text_inf {b : Nat} (h : isNan b = false) (h2 : rung b = 9218868437227405312) : textF b = sgn b ++ [105, 110, 102] := by unfold textF; rw [if_neg (ne_tt h), if_pos h2]
theorem text_zero {b : Nat} (h : isNan b = false) (h2 : ¬ rung b = 9218868437227405312) (h3 : rung b = 0) : textF b = sgn b ++ [48, 112, 48] := by unfold textF; rw [if_neg (ne_tt h), if_neg h2, if_pos h3]
theorem text_num {b : Nat} (h : isNan b = false) (h2 : ¬ rung b = 9218868437227405312) (h3 : ¬ rung b = 0) : textF b = sgn b ++ Lib.decDigits (od (mant0 (rung b))) ++ [112] ++ Lib.itoa (exp0 (rung b) + v2 (mant0 (rung b))) := by unfold textF; rw [if_neg (ne_tt h), if_neg h2, if_neg h3]
theorem Text_r (b : Nat) (hb0 : b < 18446744073709551616) (w : World) (hL : Lt w) : Ret Tryz.prog 87 [.float .f64 b] w fun v w' => v = str (textF b) ∧ Below w.heap.size w w' := by
  have hz : (FloatKind.f64.format.order b 0 == some .eq) = (!isNan b && decide (rung b = 0)) := eq_zero_f b
  have hsl := sgn_le b
  have hb := Below.refl w.heap.size w
  have hL_hb := hL
  refine enter Tryz.func87 rfl rfl rfl <| Wc.seq fun _ hK_1 => Wc.region <| Wl.sg rfl rfl <| Wl.nil <| Wq.next hK_1 <| Wc.seq fun _ hK_3 => Wc.region <| Wl.sg rfl rfl <| Wl.nil <| Wq.next hK_3 <| Wc.seq fun _ hK_5 => Wc.seq fun _ hK_6 => Wc.region <| Wl.mv rfl rfl <| Wl.call txt115NumB rfl rfl (Signbit_r b hb0 _) rfl ?_
  rintro _ w_ ⟨rfl, hw_⟩
  have hw_ := hw_.symm; subst hw_
  refine Wl.nil <| Wq.next hK_6 <| Wc.cond rfl (fun c0_9 => ?_) (fun c0_9 => ?_)
  ·
   have c0_9_ := c0_9
   have hs : sgn b = [45] := if_pos c0_9_
   refine Wc.region <| Wl.sg rfl rfl <| Wl.nil <| Wq.next hK_5 <| Wc.seq fun _ hK_11 => Wc.block <| Wc.seq fun _ hK_12 => Wc.region <| Wl.mv rfl rfl <| Wl.mv rfl rfl <| Wl.y (y_neqf rfl rfl) rfl <| Wl.sg rfl rfl <| Wl.nil <| Wq.next hK_12 ?_
   rw [ne_self_f]
   refine Wc.cond rfl (fun c1_17 => ?_) (fun c1_17 => ?_)
   ·
    have c1_17_ := c1_17
    refine Wc.seq fun _ hK_18 => Wc.region <| Wl.sg rfl rfl <| Wl.nil <| Wq.next hK_18 <| Wc.ret <| Wq.block_ret (Wq.then_ret ?_)
    refine ret1 rfl rfl ?_
    exact ⟨_, rfl, text_nan c1_17_, hb⟩
   have c1_17_ := c1_17
   refine Wc.seq fun _ hK_20 => Wc.region <| Wl.mv rfl rfl <| Wl.call txt116NumB rfl rfl (IsInf_r b hb0 _) rfl ?_
   rintro _ w_ ⟨rfl, hw_⟩
   have hw_ := hw_.symm; subst hw_
   refine Wl.sg rfl rfl <| Wl.nil <| Wq.next hK_20 <| Wc.cond rfl (fun c2_24 => ?_) (fun c2_24 => ?_)
   ·
    have c2_24_ := c2_24
    simp only [DZ] at c2_24
    refine Wc.seq fun _ hK_25 => Wc.region <| Wl.mv rfl rfl <| Wl.y (y_adds rfl rfl (by simp; done)) rfl <| Wl.sg rfl rfl <| Wl.nil <| Wq.next hK_25 <| Wc.ret <| Wq.block_ret (Wq.then_ret ?_)
    refine ret1 rfl rfl ?_
    exact ⟨_, rfl, by rw [text_inf c1_17_ c2_24, hs], hb⟩
   have c2_24_ := c2_24
   simp only [DZ] at c2_24
   refine Wc.seq fun _ hK_29 => Wc.region <| Wl.mv rfl rfl <| Wl.y (y_eqlf rfl rfl) rfl <| Wl.sg rfl rfl <| Wl.nil <| Wq.next hK_29 ?_
   rw [hz, c1_17_, Bool.not_false, Bool.true_and]
   refine Wc.cond rfl (fun c3_33 => ?_) (fun c3_33 => ?_)
   ·
    have c3_33_ := c3_33
    simp only [DZ] at c3_33
    refine Wc.seq fun _ hK_34 => Wc.region <| Wl.mv rfl rfl <| Wl.y (y_adds rfl rfl (by simp; done)) rfl <| Wl.sg rfl rfl <| Wl.nil <| Wq.next hK_34 <| Wc.ret <| Wq.block_ret (Wq.then_ret ?_)
    refine ret1 rfl rfl ?_
    exact ⟨_, rfl, by rw [text_zero c1_17_ c2_24 c3_33, hs], hb⟩
   have c3_33_ := c3_33
   simp only [DZ] at c3_33
   have hr0 : rung b ≠ 0 := c3_33
   have hr1 : rung b < 9218868437227405312 := by have h5 : isNan b = false := c1_17_; have h6 : rung b ≤ 9218868437227405312 := by { simpa [isNan, rung] using h5 }; have h7 := c2_24; omega
   refine Wc.skip <| Wq.block_normal <| Wq.next hK_11 <| Wc.seq fun _ hK_38 => Wc.region <| Wl.mv rfl rfl <| Wl.call txt118NumB rfl rfl (Abs_r b hb0 _) rfl ?_
   rintro _ w_ ⟨rfl, hw_⟩
   have hw_ := hw_.symm; subst hw_
   refine Wl.call txt117NumB rfl rfl (Frexp_r (rung b) hr0 hr1 _) rfl ?_
   rintro _ w_ ⟨⟨M, e, rfl, ⟨hM, s, hs52, hMs, hes⟩, he0, he1⟩, hw_⟩
   have hw_ := hw_.symm; subst hw_
   refine Wl.mv rfl rfl <| Wl.y (y_extract rfl rfl) rfl <| Wl.y (y_extract rfl rfl) rfl <| Wl.sg rfl rfl <| Wl.sg rfl rfl <| Wl.nil <| Wq.next hK_38 <| Wc.seq fun _ hK_47 => Wc.block ?_
   have hod := (od_spec _ (mant0_ne hr0)).2
   have hdv : ∀ k, k ≤ 53 → (2 ^ (53 - k) ∣ M ↔ 53 - k ≤ s) := fun k _ => by rw [hMs]; exact dvd_pow hod
   refine Wc.loop (X := Nat) (fun k => [(3, str (sgn b)), (4, .float .f64 (Wk k M)), (5, .int .i64 (e - (k : Int)))]) (fun k wr => k + s ≤ 53 ∧ w = wr) (fun k => 53 - k) (0) ?_ ?_ ?_
   · exact by repeat first | exact Sub.nil | refine Sub.cons' rfl (by first | rfl | exact str_eq hs.symm | exact str_eq hs | exact int_eq (by omega) | exact int_eq (by simp)) ?_
   · exact ⟨by omega, rfl⟩
   rintro k wr hI_49 _ hL_48
   replace hI_49 : k + s ≤ 53 ∧ w = wr := hI_49
   obtain ⟨hk, hw_⟩ := hI_49
   show Wc _ _ _ _ _ [(3, str (sgn b)), (4, .float .f64 (Wk k M)), (5, .int .i64 (e - (k : Int)))] _
   have hL := hL_hb.below hb
   have hzhb_L0 := hb.size
   subst hw_
   have hb := Below.refl w.heap.size w
   refine Wc.seq fun _ hK_50 => Wc.seq fun _ hK_51 => Wc.region <| Wl.mv rfl rfl <| Wl.mv rfl rfl <| Wl.call txt119NumB rfl rfl (Floor_r (Wk k M) (Wk_nan hM (by omega)) _) rfl ?_
   rintro _ w_ ⟨rfl, hw_⟩
   have hw_ := hw_.symm; subst hw_
   refine Wl.y (y_neqf rfl rfl) rfl <| Wl.nil <| Wq.next hK_51 ?_
   rw [show (FloatKind.f64.format.order (Wk k M) (floorW (Wk k M)) != some .eq) = !decide (2 ^ (53 - k) ∣ M) from congrArg (fun x => !x) (whole_Wk hM (by omega))]
   refine Wc.cond rfl (fun c4_56 => ?_) (fun c4_56 => ?_)
   ·
    have c4_56_ := c4_56
    simp only [DZ] at c4_56
    have hkl := mt (hdv k (by omega)).2 c4_56
    refine Wc.skip <| Wq.next hK_50 <| Wc.block <| Wc.seq fun _ hK_57 => Wc.region <| Wl.mv rfl rfl <| Wl.y (y_mulf rfl rfl (mul_two hM (by omega))) rfl <| Wl.sg rfl rfl <| Wl.nil <| Wq.next hK_57 <| Wc.region <| Wl.mv rfl rfl <| Wl.y (y_subI rfl rfl (by omega) (by omega)) rfl <| Wl.sg rfl rfl <| Wl.nil <| Wq.block_normal <| fun a_ ha_ => hL_48 _ _ (k + 1) (by omega) (by repeat first | exact Sub.nil | refine Sub.cons' rfl (by first | rfl | exact str_eq hs.symm | exact str_eq hs | exact int_eq (by omega) | exact int_eq (by simp)) ?_) ?_ a_ ha_
    exact ⟨by omega, rfl⟩
   have c4_56_ := c4_56
   simp only [DZ] at c4_56
   have hkd := (hdv k (by omega)).1 c4_56
   have hks : 53 - k = s := by omega
   have hq : M / 2 ^ (53 - k) = od (mant0 (rung b)) := by rw [hks, hMs, Nat.mul_div_cancel _ (Nat.two_pow_pos s)]
   have hee : e - (k : Int) = exp0 (rung b) + v2 (mant0 (rung b)) := by omega
   have hM2 : M / 2 ^ (53 - k) < 9007199254740992 := Nat.lt_of_le_of_lt (Nat.div_le_self _ _) hM.hi
   have hl1 := decDigits_le (M / 2 ^ (53 - k)) (by omega)
   have hl2 := itoa_le (e - (k : Int)) (by omega) (by omega)
   refine Wc.exit <| Wq.then_exit <| Wq.then_exit <| Wq.block_exit <| Wq.next hK_47 <| Wc.seq fun _ hK_64 => Wc.region <| Wl.mv rfl rfl <| Wl.mv rfl rfl <| Wl.y (y_f2i (by kernel_rfl) Tryz.underlying135 rfl (int_Wk hM (by omega))) rfl <| Wl.call txt120NumB rfl rfl (FormatUint_r _ (by omega) _ hL) rfl ?_
   rintro _ w_k5 ⟨rfl, hs_k5⟩
   have hz_k5 := hs_k5.size
   have hb := hb.trans (hs_k5.mono hb.size)
   have hL := hL_hb.below hb
   refine Wl.y (y_adds rfl rfl (by omega)) rfl <| Wl.y (y_adds rfl rfl (by simp; omega)) rfl <| Wl.mv rfl rfl <| Wl.call txt121NumB rfl rfl (Itoa_r _ (by omega) (by omega) _ hL) rfl ?_
   rintro _ w_k6 ⟨rfl, hs_k6⟩
   have hz_k6 := hs_k6.size
   have hb := hb.trans (hs_k6.mono hb.size)
   have hL := hL_hb.below hb
   refine Wl.y (y_adds rfl rfl (by simp; omega)) rfl <| Wl.sg rfl rfl <| Wl.nil <| Wq.next hK_64 <| Wc.ret <| ret1 rfl rfl ?_
   exact ⟨_, rfl, by rw [text_num c1_17_ c2_24 c3_33, hq, hee], hb⟩
  have c0_9_ := c0_9
  have hs : sgn b = [] := if_neg (by rw [c0_9_]; simp)
  refine Wc.skip <| Wq.next hK_5 <| Wc.seq fun _ hK_75 => Wc.block <| Wc.seq fun _ hK_76 => Wc.region <| Wl.mv rfl rfl <| Wl.mv rfl rfl <| Wl.y (y_neqf rfl rfl) rfl <| Wl.sg rfl rfl <| Wl.nil <| Wq.next hK_76 ?_
  rw [ne_self_f]
  refine Wc.cond rfl (fun c1_81 => ?_) (fun c1_81 => ?_)
  ·
   have c1_81_ := c1_81
   refine Wc.seq fun _ hK_82 => Wc.region <| Wl.sg rfl rfl <| Wl.nil <| Wq.next hK_82 <| Wc.ret <| Wq.block_ret (Wq.then_ret ?_)
   refine ret1 rfl rfl ?_
   exact ⟨_, rfl, text_nan c1_81_, hb⟩
  have c1_81_ := c1_81
  refine Wc.seq fun _ hK_84 => Wc.region <| Wl.mv rfl rfl <| Wl.call txt116NumB rfl rfl (IsInf_r b hb0 _) rfl ?_
  rintro _ w_ ⟨rfl, hw_⟩
  have hw_ := hw_.symm; subst hw_
  refine Wl.sg rfl rfl <| Wl.nil <| Wq.next hK_84 <| Wc.cond rfl (fun c2_88 => ?_) (fun c2_88 => ?_)
  ·
   have c2_88_ := c2_88
   simp only [DZ] at c2_88
   refine Wc.seq fun _ hK_89 => Wc.region <| Wl.mv rfl rfl <| Wl.y (y_adds rfl rfl (by simp; done)) rfl <| Wl.sg rfl rfl <| Wl.nil <| Wq.next hK_89 <| Wc.ret <| Wq.block_ret (Wq.then_ret ?_)
   refine ret1 rfl rfl ?_
   exact ⟨_, rfl, by rw [text_inf c1_81_ c2_88, hs], hb⟩
  have c2_88_ := c2_88
  simp only [DZ] at c2_88
  refine Wc.seq fun _ hK_93 => Wc.region <| Wl.mv rfl rfl <| Wl.y (y_eqlf rfl rfl) rfl <| Wl.sg rfl rfl <| Wl.nil <| Wq.next hK_93 ?_
  rw [hz, c1_81_, Bool.not_false, Bool.true_and]
  refine Wc.cond rfl (fun c3_97 => ?_) (fun c3_97 => ?_)
  ·
   have c3_97_ := c3_97
   simp only [DZ] at c3_97
   refine Wc.seq fun _ hK_98 => Wc.region <| Wl.mv rfl rfl <| Wl.y (y_adds rfl rfl (by simp; done)) rfl <| Wl.sg rfl rfl <| Wl.nil <| Wq.next hK_98 <| Wc.ret <| Wq.block_ret (Wq.then_ret ?_)
   refine ret1 rfl rfl ?_
   exact ⟨_, rfl, by rw [text_zero c1_81_ c2_88 c3_97, hs], hb⟩
  have c3_97_ := c3_97
  simp only [DZ] at c3_97
  have hr0 : rung b ≠ 0 := c3_97
  have hr1 : rung b < 9218868437227405312 := by have h5 : isNan b = false := c1_81_; have h6 : rung b ≤ 9218868437227405312 := by { simpa [isNan, rung] using h5 }; have h7 := c2_88; omega
  refine Wc.skip <| Wq.block_normal <| Wq.next hK_75 <| Wc.seq fun _ hK_102 => Wc.region <| Wl.mv rfl rfl <| Wl.call txt118NumB rfl rfl (Abs_r b hb0 _) rfl ?_
  rintro _ w_ ⟨rfl, hw_⟩
  have hw_ := hw_.symm; subst hw_
  refine Wl.call txt117NumB rfl rfl (Frexp_r (rung b) hr0 hr1 _) rfl ?_
  rintro _ w_ ⟨⟨M, e, rfl, ⟨hM, s, hs52, hMs, hes⟩, he0, he1⟩, hw_⟩
  have hw_ := hw_.symm; subst hw_
  refine Wl.mv rfl rfl <| Wl.y (y_extract rfl rfl) rfl <| Wl.y (y_extract rfl rfl) rfl <| Wl.sg rfl rfl <| Wl.sg rfl rfl <| Wl.nil <| Wq.next hK_102 <| Wc.seq fun _ hK_111 => Wc.block ?_
  have hod := (od_spec _ (mant0_ne hr0)).2
  have hdv : ∀ k, k ≤ 53 → (2 ^ (53 - k) ∣ M ↔ 53 - k ≤ s) := fun k _ => by rw [hMs]; exact dvd_pow hod
  refine Wc.loop (X := Nat) (fun k => [(3, str (sgn b)), (4, .float .f64 (Wk k M)), (5, .int .i64 (e - (k : Int)))]) (fun k wr => k + s ≤ 53 ∧ w = wr) (fun k => 53 - k) (0) ?_ ?_ ?_
  · exact by repeat first | exact Sub.nil | refine Sub.cons' rfl (by first | rfl | exact str_eq hs.symm | exact str_eq hs | exact int_eq (by omega) | exact int_eq (by simp)) ?_
  · exact ⟨by omega, rfl⟩
  rintro k wr hI_113 _ hL_112
  replace hI_113 : k + s ≤ 53 ∧ w = wr := hI_113
  obtain ⟨hk, hw_⟩ := hI_113
  show Wc _ _ _ _ _ [(3, str (sgn b)), (4, .float .f64 (Wk k M)), (5, .int .i64 (e - (k : Int)))] _
  have hL := hL_hb.below hb
  have hzhb_L0 := hb.size
  subst hw_
  have hb := Below.refl w.heap.size w
  refine Wc.seq fun _ hK_114 => Wc.seq fun _ hK_115 => Wc.region <| Wl.mv rfl rfl <| Wl.mv rfl rfl <| Wl.call txt119NumB rfl rfl (Floor_r (Wk k M) (Wk_nan hM (by omega)) _) rfl ?_
  rintro _ w_ ⟨rfl, hw_⟩
  have hw_ := hw_.symm; subst hw_
  refine Wl.y (y_neqf rfl rfl) rfl <| Wl.nil <| Wq.next hK_115 ?_
  rw [show (FloatKind.f64.format.order (Wk k M) (floorW (Wk k M)) != some .eq) = !decide (2 ^ (53 - k) ∣ M) from congrArg (fun x => !x) (whole_Wk hM (by omega))]
  refine Wc.cond rfl (fun c4_120 => ?_) (fun c4_120 => ?_)
  ·
   have c4_120_ := c4_120
   simp only [DZ] at c4_120
   have hkl := mt (hdv k (by omega)).2 c4_120
   refine Wc.skip <| Wq.next hK_114 <| Wc.block <| Wc.seq fun _ hK_121 => Wc.region <| Wl.mv rfl rfl <| Wl.y (y_mulf rfl rfl (mul_two hM (by omega))) rfl <| Wl.sg rfl rfl <| Wl.nil <| Wq.next hK_121 <| Wc.region <| Wl.mv rfl rfl <| Wl.y (y_subI rfl rfl (by omega) (by omega)) rfl <| Wl.sg rfl rfl <| Wl.nil <| Wq.block_normal <| fun a_ ha_ => hL_112 _ _ (k + 1) (by omega) (by repeat first | exact Sub.nil | refine Sub.cons' rfl (by first | rfl | exact str_eq hs.symm | exact str_eq hs | exact int_eq (by omega) | exact int_eq (by simp)) ?_) ?_ a_ ha_
   exact ⟨by omega, rfl⟩
  have c4_120_ := c4_120
  simp only [DZ] at c4_120
  have hkd := (hdv k (by omega)).1 c4_120
  have hks : 53 - k = s := by omega
  have hq : M / 2 ^ (53 - k) = od (mant0 (rung b)) := by rw [hks, hMs, Nat.mul_div_cancel _ (Nat.two_pow_pos s)]
  have hee : e - (k : Int) = exp0 (rung b) + v2 (mant0 (rung b)) := by omega
  have hM2 : M / 2 ^ (53 - k) < 9007199254740992 := Nat.lt_of_le_of_lt (Nat.div_le_self _ _) hM.hi
  have hl1 := decDigits_le (M / 2 ^ (53 - k)) (by omega)
  have hl2 := itoa_le (e - (k : Int)) (by omega) (by omega)
  refine Wc.exit <| Wq.then_exit <| Wq.then_exit <| Wq.block_exit <| Wq.next hK_111 <| Wc.seq fun _ hK_128 => Wc.region <| Wl.mv rfl rfl <| Wl.mv rfl rfl <| Wl.y (y_f2i (by kernel_rfl) Tryz.underlying135 rfl (int_Wk hM (by omega))) rfl <| Wl.call txt120NumB rfl rfl (FormatUint_r _ (by omega) _ hL) rfl ?_
  rintro _ w_k5 ⟨rfl, hs_k5⟩
  have hz_k5 := hs_k5.size
  have hb := hb.trans (hs_k5.mono hb.size)
  have hL := hL_hb.below hb
  refine Wl.y (y_adds rfl rfl (by omega)) rfl <| Wl.y (y_adds rfl rfl (by simp; omega)) rfl <| Wl.mv rfl rfl <| Wl.call txt121NumB rfl rfl (Itoa_r _ (by omega) (by omega) _ hL) rfl ?_
  rintro _ w_k6 ⟨rfl, hs_k6⟩
  have hz_k6 := hs_k6.size
  have hb := hb.trans (hs_k6.mono hb.size)
  have hL := hL_hb.below hb
  refine Wl.y (y_adds rfl rfl (by simp; omega)) rfl <| Wl.sg rfl rfl <| Wl.nil <| Wq.next hK_128 <| Wc.ret <| ret1 rfl rfl ?_
  exact ⟨_, rfl, by rw [text_num c1_81_ c2_88 c3_97, hq, hee], hb⟩
end Go.Proofs.YtjmlknjbhbfneaaGreatDoor
namespace Go.Proofs.YtjmlknjbhbfneaaGreatDoor
open Go.RowKit Go.Bw Go.Bw.Fl
set_option linter.unusedVariables false
set_option linter.unusedSimpArgs false
theorem mant0_lt {r : Nat} (h : r < 9218868437227405312) : mant0 r < 9007199254740992 := by
  unfold mant0; have := Nat.mod_lt r (show 0 < 4503599627370496 by decide); split <;> omega
theorem exp0_bd {r : Nat} (h : r < 9218868437227405312) : -1074 ≤ exp0 r ∧ exp0 r ≤ 971 := by
  unfold exp0; split <;> omega
theorem v2_le {r : Nat} (h : r < 9218868437227405312) (h0 : r ≠ 0) : v2 (mant0 r) ≤ 53 := by
  obtain ⟨h1, h2⟩ := od_spec _ (mant0_ne h0)
  have h3 := mant0_lt h
  rcases Nat.lt_or_ge 53 (v2 (mant0 r)) with h4 | h4
  · have : 2 ^ 53 ≤ 2 ^ v2 (mant0 r) := Nat.pow_le_pow_right (by decide) (by omega)
    have h5 : 1 * 2 ^ v2 (mant0 r) ≤ od (mant0 r) * 2 ^ v2 (mant0 r) := Nat.mul_le_mul_right _ (by omega)
    omega
  · exact h4
end Go.Proofs.YtjmlknjbhbfneaaGreatDoor
