/- Plain: the whole part of a float, and a whole number against a float. -/
import Derived.Test.YtcljmclolpgdmaaGreatDoorTextM
namespace Go.Proofs.YtcljmclolpgdmaaGreatDoor
open Go.RowKit Go.Bw Go.Bw.Fl Ieee
set_option linter.unusedVariables false
set_option linter.unusedSimpArgs false
def cmpI (x y : Int) : Int := if x < y then -1 else if y < x then 1 else 0
def pw (n : Nat) : Nat := 2 ^ n
theorem pw_pos (n : Nat) : 0 < pw n := Nat.two_pow_pos n
def D : Nat := pw 1074
theorem D_pos : 0 < D := pw_pos 1074
theorem pw_eq (n : Nat) : 2 ^ n = pw n := rfl
theorem D_def : D = pw 1074 := rfl
theorem D_pow (n : Nat) (h : n = 1074) : 2 ^ n = D := by rw [pw_eq, h, D_def]
theorem D_split {k : Nat} (h : 1074 ≤ k) : 2 ^ k = 2 ^ (k - 1074) * D := by
  obtain ⟨t, ht⟩ : ∃ t, t = 1074 := ⟨_, rfl⟩
  rw [← D_pow t ht, ← Nat.pow_add]; congr 1; omega
theorem cut_gen (way : Toward) (hw : way = .down ∨ way = .zero) (neg : Bool) (n c : Nat) : way.cut neg n c = n / 2 ^ c + (if way = .down ∧ neg = true ∧ n % 2 ^ c ≠ 0 then 1 else 0) := by
  have key : n / (1 <<< min c (n.log2 + 2)) = n / 2 ^ c ∧ n % (1 <<< min c (n.log2 + 2)) = n % 2 ^ c := by
    rw [Nat.shiftLeft_eq, Nat.one_mul]
    rcases Nat.le_total c (n.log2 + 2) with h | h
    · rw [Nat.min_eq_left h]; exact ⟨rfl, rfl⟩
    · rw [Nat.min_eq_right h]
      have h1 : n < 2 ^ (n.log2 + 1) := Nat.lt_log2_self
      have h2 : n < 2 ^ (n.log2 + 2) := Nat.lt_of_lt_of_le h1 (Nat.pow_le_pow_right (by decide) (by omega))
      have h3 : n < 2 ^ c := Nat.lt_of_lt_of_le h2 (Nat.pow_le_pow_right (by decide) h)
      rw [Nat.div_eq_of_lt h2, Nat.div_eq_of_lt h3, Nat.mod_eq_of_lt h2, Nat.mod_eq_of_lt h3]; exact ⟨rfl, rfl⟩
  unfold Toward.cut; simp only [key.1, key.2]
  rcases hw with rfl | rfl
  · cases neg <;> by_cases h : n % 2 ^ c = 0 <;> simp [h]
  · simp
theorem cut_V (way : Toward) (hw : way = .down ∨ way = .zero) (neg : Bool) (m k : Nat) : way.cut neg (m <<< (-1074 + (k : Int)).toNat) (-(-1074 + (k : Int))).toNat = (m * 2 ^ k) / D + (if way = .down ∧ neg = true ∧ (m * 2 ^ k) % D ≠ 0 then 1 else 0) := by
  rw [cut_gen way hw, Nat.shiftLeft_eq]
  rcases Nat.le_total k 1074 with h | h
  · have e1 : (-1074 + (k : Int)).toNat = 0 := by omega
    have e2 : (-(-1074 + (k : Int))).toNat = 1074 - k := by omega
    have e3 : D = 2 ^ (1074 - k) * 2 ^ k := by rw [← Nat.pow_add]; exact (D_pow _ (by omega)).symm
    rw [e1, e2, e3, Nat.pow_zero, Nat.mul_one, Nat.mul_div_mul_right _ _ (Nat.two_pow_pos _), Nat.mul_mod_mul_right]
    have hp := Nat.two_pow_pos k
    generalize m % 2 ^ (1074 - k) = r
    generalize 2 ^ k = q at *
    have hz : (r * q ≠ 0) ↔ (r ≠ 0) := by rw [ne_eq, ne_eq, Nat.mul_eq_zero]; omega
    simp only [hz]
  · have e1 : (-1074 + (k : Int)).toNat = k - 1074 := by omega
    have e2 : (-(-1074 + (k : Int))).toNat = 0 := by omega
    have e3 : m * 2 ^ k = m * 2 ^ (k - 1074) * D := by rw [Nat.mul_assoc, ← D_split h]
    rw [e1, e2, e3, Nat.mul_div_cancel _ D_pos, Nat.mul_mod_left, Nat.pow_zero, Nat.div_one, Nat.mod_one]
/-- the whole part, without sign -/
def flN (b : Nat) : Nat := V (rung b) / D + (if isNeg b = true ∧ V (rung b) % D ≠ 0 then 1 else 0)
def flI (b : Nat) : Int := if isNeg b then -(flN b : Int) else (flN b : Int)
theorem floor_fin {b : Nat} (h : rung b < 9218868437227405312) : ∃ r, floorW b = Ieee.double.word (isNeg b) r ∧ r < 9218868437227405312 ∧ V r = flN b * D := by
  obtain ⟨m, k, h1, h2, h3, h4, h5⟩ := read_fin h
  have hF : floorW b = Ieee.double.nearest (isNeg b) (flN b) 0 := by
    unfold floorW
    rw [h1]
    show Ieee.double.nearest (isNeg b) (Toward.down.cut (isNeg b) (m <<< (-1074 + (k : Int)).toNat) (-(-1074 + (k : Int))).toNat) 0 = _
    rw [cut_V .down (.inl rfl), h2]
    unfold flN
    simp
  rw [hF]
  by_cases h0 : flN b = 0
  · rw [h0, nearest_zero]; exact ⟨0, rfl, by decide, by rw [Nat.zero_mul]; decide⟩
  · obtain ⟨r, r0, r1, r2⟩ : ∃ r, r ≠ 0 ∧ r < 9218868437227405312 ∧ V r = flN b * D := by
      rcases Nat.lt_or_ge 1074 k with hk | hk
      · refine ⟨rung b, ?_, h, ?_⟩
        · intro e; apply h0; unfold flN; rw [e, show V 0 = 0 by decide, Nat.zero_div, Nat.zero_mod]; simp
        · have e3 : V (rung b) = m * 2 ^ (k - 1074) * D := by rw [← h2, Nat.mul_assoc, ← D_split (by omega)]
          unfold flN; rw [e3, Nat.mul_div_cancel _ D_pos, Nat.mul_mod_left, if_neg (by simp), Nat.add_zero]
      · have e3 : D = 2 ^ (1074 - k) * 2 ^ k := by rw [← Nat.pow_add]; exact (D_pow _ (by omega)).symm
        have hlt : flN b < 9007199254740992 := by
          unfold flN
          rw [← h2, e3, Nat.mul_div_mul_right _ _ (Nat.two_pow_pos _), Nat.mul_mod_mul_right]
          rcases Nat.eq_zero_or_pos (1074 - k) with hc | hc
          · rw [hc, Nat.pow_zero, Nat.mod_one, Nat.div_one, if_neg (by simp)]; omega
          · obtain ⟨c, hc'⟩ : ∃ c, 1074 - k = c + 1 := ⟨1074 - k - 1, by omega⟩
            have : m / 2 ^ (1074 - k) ≤ m / 2 := by
              rw [hc', Nat.pow_succ, Nat.mul_comm, ← Nat.div_div_eq_div_mul]; exact Nat.div_le_self _ _
            split <;> omega
        have hl : Nat.log2 (flN b) ≤ 52 := by have := (Nat.log2_lt h0 (k := 53)).2 (by simpa using hlt); omega
        obtain ⟨r, r0, r1, r2⟩ := rung_of (t := 1074) h0 hlt (by omega)
        exact ⟨r, r0, r1, by rw [r2, D_pow 1074 rfl]⟩
    exact ⟨r, nearest_exact (r := r) _ r1 r0 1074 0 (by omega) (by rw [r2, Nat.pow_zero, Nat.mul_one, D_pow 1074 rfl]), r1, r2⟩
theorem toInt_fin {b : Nat} (h : rung b < 9218868437227405312) : (Ieee.double.read b).toInt .zero = some (if isNeg b then -((V (rung b) / D : Nat) : Int) else ((V (rung b) / D : Nat) : Int)) := by
  obtain ⟨m, k, h1, h2, h3, h4, h5⟩ := read_fin h
  rw [h1]
  show some (signed (isNeg b) (Toward.zero.cut (isNeg b) (m <<< (-1074 + (k : Int)).toNat) (-(-1074 + (k : Int))).toNat) 0) = _
  rw [cut_V .zero (.inr rfl), h2, signed_eq, Nat.pow_zero, Nat.mul_one]
  simp
theorem fl_spec (b : Nat) : flI b * (D : Int) ≤ val b ∧ val b < (flI b + 1) * (D : Int) := by
  have h1 := Nat.div_add_mod (V (rung b)) D
  have h2 := Nat.mod_lt (V (rung b)) D_pos
  unfold flI val flN
  generalize V (rung b) % D = r at *
  generalize V (rung b) / D = q at *
  generalize V (rung b) = v at *
  have hD := D_pos
  generalize D = d at *
  subst h1
  cases isNeg b
  · simp only [Bool.false_eq_true, false_and, if_false, Nat.add_zero]
    push_cast
    rw [Int.mul_comm (q : Int), Int.add_mul, Int.mul_comm (q : Int)]; omega
  · by_cases hr : r = 0
    · subst hr; simp only [true_and, ne_eq, not_true, if_true, if_false, Nat.add_zero]
      push_cast
      rw [Int.neg_mul, Int.mul_comm (q : Int), Int.add_mul, Int.neg_mul, Int.mul_comm (q : Int)]; omega
    · simp only [true_and, ne_eq, hr, not_false_eq_true, if_true]
      push_cast
      rw [Int.neg_mul, Int.add_mul, Int.add_mul, Int.neg_mul, Int.add_mul, Int.mul_comm (q : Int)]; omega
theorem val_floor {b : Nat} (h : rung b < 9218868437227405312) : isNan (floorW b) = false ∧ val (floorW b) = flI b * (D : Int) ∧ rung (floorW b) < 9218868437227405312 ∧ floorW b < 18446744073709551616 := by
  obtain ⟨r, h1, h2, h3⟩ := floor_fin h
  have hn : isNeg (floorW b) = isNeg b := by rw [h1]; exact isNeg_word (by omega)
  have hr : rung (floorW b) = r := by rw [h1]; exact rung_word (by omega)
  refine ⟨?_, ?_, by omega, ?_⟩
  · unfold isNan; rw [show floorW b % 9223372036854775808 = r from hr]; simp; omega
  · unfold val flI; rw [hn, hr, h3]; cases isNeg b <;> simp [Int.neg_mul]
  · rw [h1, word_eq]; split <;> omega
theorem f2i64 {b : Nat} (h : rung b < 9218868437227405312) (h0 : -9223372036854775808 ≤ flI b) (h1 : flI b ≤ 9223372036854775807) : floatToIntVal .f64 (floorW b) .i64 = some (flI b) := by
  have hd : FloatKind.f64.decode (floorW b) = Ieee.double.read (floorW b) := rfl
  have hmin : IntKind.i64.min = -9223372036854775808 := by decide
  have hmax : IntKind.i64.max = 9223372036854775807 := by decide
  obtain ⟨r, e1, e2, e3⟩ := floor_fin h
  have hn : isNeg (floorW b) = isNeg b := by rw [e1]; exact isNeg_word (by omega)
  have hr : rung (floorW b) = r := by rw [e1]; exact rung_word (by omega)
  have hi : (Ieee.double.read (floorW b)).toInt .zero = some (flI b) := by
    rw [toInt_fin (by omega), hn, hr, e3, Nat.mul_div_cancel _ D_pos]; rfl
  unfold floatToIntVal
  rw [hd, hi]
  show (if _ then _ else _) = _
  rw [hmin, hmax, if_pos ⟨h0, h1⟩]
/-- a whole number against a float that is no nan -/
def agI (n : Int) (b : Nat) : Int := cmpI (n * (D : Int)) (val b)
theorem ag_fl (n : Int) (b : Nat) : (n < flI b → agI n b = -1) ∧ (flI b < n → agI n b = 1) ∧ (n = flI b → val b = flI b * (D : Int) → agI n b = 0) ∧ (n = flI b → val b ≠ flI b * (D : Int) → agI n b = -1) := by
  obtain ⟨h1, h2⟩ := fl_spec b
  have hD : (0 : Int) ≤ (D : Int) := Int.natCast_nonneg _
  have hD' : (0 : Int) < (D : Int) := by have := D_pos; omega
  unfold agI cmpI
  refine ⟨fun h => ?_, fun h => ?_, fun h e => ?_, fun h e => ?_⟩
  · have := Int.mul_lt_mul_of_pos_right h hD'
    rw [if_pos (by omega)]
  · have := Int.mul_le_mul_of_nonneg_right (show flI b + 1 ≤ n by omega) hD
    rw [if_neg (by omega), if_pos (by omega)]
  · rw [h, e, if_neg (by omega), if_neg (by omega)]
  · rw [h, if_pos (by omega)]
theorem V_mant (r : Nat) : V r = mant0 r * 2 ^ (exp0 r + 1074).toNat := by
  unfold V mant0 exp0
  split
  · rw [show ((-1074 : Int) + 1074).toNat = 0 by decide, Nat.pow_zero, Nat.mul_one]
  · rename_i h
    rw [show (((r / 4503599627370496 : Nat) : Int) - 1075 + 1074).toNat = r / 4503599627370496 - 1 by omega]
end Go.Proofs.YtcljmclolpgdmaaGreatDoor
