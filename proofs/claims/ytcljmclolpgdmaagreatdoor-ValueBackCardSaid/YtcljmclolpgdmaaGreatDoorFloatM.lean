/- Floats in plain numbers: what a word of 64 bits stands for, and when a word is hit exactly. -/
import Ieee.Arith
import GoSem.Core.Float
namespace Go.Bw
def floorW (b : Nat) : Nat := Ieee.double.write ((Ieee.double.read b).integral .down)
end Go.Bw
namespace Go.Bw.Fl
open Ieee

theorem sw_eq : Ieee.double.signWeight = 9223372036854775808 := by decide +kernel
theorem bin_eq : Ieee.double.binade = 4503599627370496 := by decide +kernel
theorem inf_eq : Ieee.double.infRung = 9218868437227405312 := by decide +kernel
theorem lp_eq : Ieee.double.leastPlace = -1074 := by decide +kernel
theorem fb_eq : Ieee.double.fractionBits = 52 := rfl

/-- a rung's magnitude, in units of 2 ^ -1074 -/
def V (r : Nat) : Nat := if r < 4503599627370496 then r else (4503599627370496 + r % 4503599627370496) * 2 ^ (r / 4503599627370496 - 1)
def isNan (b : Nat) : Bool := decide (9218868437227405312 < b % 9223372036854775808)
def isNeg (b : Nat) : Bool := b / 9223372036854775808 % 2 == 1
def rung (b : Nat) : Nat := b % 9223372036854775808
/-- a word's value, in units of 2 ^ -1074 (infinity: a great number) -/
def val (b : Nat) : Int := if isNeg b then -(V (rung b) : Int) else (V (rung b) : Int)

theorem read_small {b : Nat} (h : rung b < 4503599627370496) : Ieee.double.read b = .number (isNeg b) (rung b) (-1074) := by
  unfold Format.read
  simp only [sw_eq, bin_eq, lp_eq]
  unfold rung at h
  rw [if_pos h]; rfl
theorem read_normal {b : Nat} (h0 : 4503599627370496 ≤ rung b) (h1 : rung b < 9218868437227405312) :
    Ieee.double.read b = .number (isNeg b) (4503599627370496 + rung b % 4503599627370496) (-1074 + ((rung b / 4503599627370496 - 1 : Nat) : Int)) := by
  unfold Format.read
  simp only [sw_eq, bin_eq, lp_eq, inf_eq]
  unfold rung at h0 h1
  rw [if_neg (by omega), if_pos h1]; rfl
theorem read_inf {b : Nat} (h : rung b = 9218868437227405312) : Ieee.double.read b = .infinity (isNeg b) := by
  unfold Format.read
  simp only [sw_eq, bin_eq, lp_eq, inf_eq]
  unfold rung at h
  rw [if_neg (by omega), if_neg (by omega), if_pos h]; rfl
theorem read_nan {b : Nat} (h : isNan b = true) : Ieee.double.read b = .nan (isNeg b) (rung b - 9218868437227405312) := by
  unfold Format.read
  simp only [sw_eq, bin_eq, lp_eq, inf_eq]
  have h' : 9218868437227405312 < b % 9223372036854775808 := by simpa [isNan] using h
  rw [if_neg (by omega), if_neg (by omega), if_neg (by omega)]; rfl

/-- a finite word's reading, by one place for all -/
theorem read_fin {b : Nat} (h : rung b < 9218868437227405312) : ∃ (m k : Nat), Ieee.double.read b = .number (isNeg b) m (-1074 + (k : Int)) ∧ m * 2 ^ k = V (rung b) ∧ m < 9007199254740992 ∧ (k = 0 ∨ (4503599627370496 ≤ m ∧ k = rung b / 4503599627370496 - 1)) ∧ k ≤ 2045 := by
  by_cases h0 : rung b < 4503599627370496
  · exact ⟨rung b, 0, by rw [read_small h0]; rfl, by rw [V, if_pos h0]; simp, by omega, .inl rfl, by omega⟩
  · refine ⟨_, _, read_normal (by omega) h, ?_, ?_, .inr ⟨?_, rfl⟩, ?_⟩
    · rw [V, if_neg h0]
    · have := Nat.mod_lt (rung b) (show 0 < 4503599627370496 by decide); omega
    · omega
    · have : rung b / 4503599627370496 < 2047 := by rw [Nat.div_lt_iff_lt_mul (by decide)]; omega
      omega

theorem V_zero {r : Nat} : V r = 0 ↔ r = 0 := by
  unfold V
  split
  · rfl
  · constructor
    · intro h
      have h1 : 0 < 2 ^ (r / 4503599627370496 - 1) := Nat.two_pow_pos _
      have h2 := Nat.mul_pos (show 0 < 4503599627370496 + r % 4503599627370496 by omega) h1
      omega
    · intro h; omega
theorem V_step (r : Nat) : V r < V (r + 1) := by
  unfold V
  by_cases h0 : r + 1 < 4503599627370496
  · rw [if_pos (by omega), if_pos h0]; omega
  · by_cases h1 : r < 4503599627370496
    · rw [if_pos h1, if_neg h0]
      have : r + 1 = 4503599627370496 := by omega
      rw [this]; simp; omega
    · rw [if_neg h1, if_neg h0]
      by_cases h2 : (r + 1) % 4503599627370496 = 0
      · have e1 : r % 4503599627370496 = 4503599627370495 := by omega
        have e2 : (r + 1) / 4503599627370496 = r / 4503599627370496 + 1 := by omega
        have e3 : (r + 1) / 4503599627370496 - 1 = (r / 4503599627370496 - 1) + 1 := by omega
        rw [h2, e1, e3, Nat.pow_succ]
        have := Nat.two_pow_pos (r / 4503599627370496 - 1)
        omega
      · have e1 : (r + 1) % 4503599627370496 = r % 4503599627370496 + 1 := by omega
        have e2 : (r + 1) / 4503599627370496 = r / 4503599627370496 := by omega
        rw [e1, e2, ← Nat.add_assoc, Nat.add_mul _ 1]
        have := Nat.two_pow_pos (r / 4503599627370496 - 1)
        omega
theorem V_lt {r s : Nat} (h : r < s) : V r < V s := by
  induction s with
  | zero => omega
  | succ s ih =>
    rcases Nat.lt_or_ge r s with h1 | h1
    · exact Nat.lt_trans (ih h1) (V_step s)
    · have : r = s := by omega
      subst this; exact V_step r
theorem V_lt_iff {r s : Nat} : V r < V s ↔ r < s := by
  constructor
  · intro h
    rcases Nat.lt_trichotomy r s with h1 | h1 | h1
    · exact h1
    · subst h1; omega
    · have := V_lt h1; omega
  · exact V_lt
theorem V_inj {r s : Nat} : V r = V s ↔ r = s := by
  constructor
  · intro h
    rcases Nat.lt_trichotomy r s with h1 | h1 | h1
    · have := V_lt h1; omega
    · exact h1
    · have := V_lt h1; omega
  · rintro rfl; rfl

/-! ### comparisons -/
theorem compare_mul (a b : Int) (n : Nat) (h : 0 < n) : compare (a * n) (b * n) = compare a b := by
  have hn : (0 : Int) < n := by omega
  rcases Int.lt_trichotomy a b with h1 | h1 | h1
  · have h2 := Int.mul_lt_mul_of_pos_right h1 hn
    rw [Int.compare_eq_lt.2 h1, Int.compare_eq_lt.2 h2]
  · subst h1; simp
  · have h2 := Int.mul_lt_mul_of_pos_right h1 hn
    rw [Int.compare_eq_gt.2 h1, Int.compare_eq_gt.2 h2]
theorem signed_eq (s : Bool) (m k : Nat) : signed s m k = (if s then -((m * 2 ^ k : Nat) : Int) else ((m * 2 ^ k : Nat) : Int)) := by
  unfold signed; rw [Nat.shiftLeft_eq]
theorem order_val {a b : Nat} (ha : isNan a = false) (hb : isNan b = false) : Ieee.double.order a b = some (compare (val a) (val b)) := by
  have ha' : rung a ≤ 9218868437227405312 := by simpa [isNan, rung] using ha
  have hb' : rung b ≤ 9218868437227405312 := by simpa [isNan, rung] using hb
  unfold Format.order
  by_cases ia : rung a = 9218868437227405312
  · rw [read_inf ia]
    by_cases ib : rung b = 9218868437227405312
    · rw [read_inf ib]
      simp only [Datum.order, val, ia, ib]
      cases isNeg a <;> cases isNeg b <;> simp <;> decide +kernel
    · obtain ⟨m, k, hr, hv, _⟩ := read_fin (b := b) (by omega)
      rw [hr]
      have h1 := V_lt (show rung b < rung a by omega)
      simp only [Datum.order, val, ia]
      rw [ia] at h1
      cases isNeg a <;> cases isNeg b <;> simp only [Bool.false_eq_true, if_true, if_false, Option.some.injEq]
      · exact (Int.compare_eq_gt.2 (by omega)).symm
      · exact (Int.compare_eq_gt.2 (by omega)).symm
      · exact (Int.compare_eq_lt.2 (by omega)).symm
      · exact (Int.compare_eq_lt.2 (by omega)).symm
  · obtain ⟨m, k, hr, hv, _⟩ := read_fin (b := a) (by omega)
    rw [hr]
    by_cases ib : rung b = 9218868437227405312
    · rw [read_inf ib]
      have h1 := V_lt (show rung a < rung b by omega)
      simp only [Datum.order, val, ib]
      rw [ib] at h1
      cases isNeg a <;> cases isNeg b <;> simp only [Bool.false_eq_true, if_true, if_false, Option.some.injEq]
      · exact (Int.compare_eq_lt.2 (by omega)).symm
      · exact (Int.compare_eq_gt.2 (by omega)).symm
      · exact (Int.compare_eq_lt.2 (by omega)).symm
      · exact (Int.compare_eq_gt.2 (by omega)).symm
    · obtain ⟨n, l, hs, hw, _⟩ := read_fin (b := b) (by omega)
      rw [hs]
      simp only [Datum.order, Option.some.injEq]
      rw [signed_eq, signed_eq]
      obtain ⟨c, hc⟩ : ∃ c : Nat, min (-1074 + (k : Int)) (-1074 + (l : Int)) = -1074 + (c : Int) ∧ c ≤ k ∧ c ≤ l := ⟨min k l, by omega, by omega, by omega⟩
      rw [hc.1]
      have e1 : (-1074 + (k : Int) - (-1074 + (c : Int))).toNat = k - c := by omega
      have e2 : (-1074 + (l : Int) - (-1074 + (c : Int))).toNat = l - c := by omega
      rw [e1, e2]
      have hv' : V (rung a) = m * 2 ^ (k - c) * 2 ^ c := by rw [Nat.mul_assoc, ← Nat.pow_add, ← hv]; congr 2; omega
      have hw' : V (rung b) = n * 2 ^ (l - c) * 2 ^ c := by rw [Nat.mul_assoc, ← Nat.pow_add, ← hw]; congr 2; omega
      unfold val
      rw [hv', hw', ← compare_mul _ _ (2 ^ c) (Nat.two_pow_pos c)]
      cases isNeg a <;> cases isNeg b <;> simp [Int.neg_mul]
theorem order_nan {a b : Nat} (h : isNan a = true ∨ isNan b = true) : Ieee.double.order a b = none := by
  unfold Format.order
  rcases h with h | h
  · rw [read_nan h]; cases Ieee.double.read b <;> rfl
  · rw [read_nan h]; cases Ieee.double.read a <;> rfl
theorem eq_val {a b : Nat} : (Ieee.double.order a b == some .eq) = (!isNan a && !isNan b && decide (val a = val b)) := by
  by_cases ha : isNan a = true
  · rw [order_nan (.inl ha), ha]; rfl
  · by_cases hb : isNan b = true
    · rw [order_nan (.inr hb), hb]; simp
    · simp only [Bool.not_eq_true] at ha hb
      rw [order_val ha hb, ha, hb]
      rcases Int.lt_trichotomy (val a) (val b) with h | h | h
      · rw [Int.compare_eq_lt.2 h]; simp; omega
      · rw [h]; simp
      · rw [Int.compare_eq_gt.2 h]; simp; omega
theorem lt_val {a b : Nat} : (Ieee.double.order a b == some .lt) = (!isNan a && !isNan b && decide (val a < val b)) := by
  by_cases ha : isNan a = true
  · rw [order_nan (.inl ha), ha]; rfl
  · by_cases hb : isNan b = true
    · rw [order_nan (.inr hb), hb]; simp
    · simp only [Bool.not_eq_true] at ha hb
      rw [order_val ha hb, ha, hb]
      rcases Int.lt_trichotomy (val a) (val b) with h | h | h
      · rw [Int.compare_eq_lt.2 h]; simp; omega
      · rw [h]; simp
      · rw [Int.compare_eq_gt.2 h]; simp; omega
theorem gt_val {a b : Nat} : (Ieee.double.order a b == some .gt) = (!isNan a && !isNan b && decide (val b < val a)) := by
  by_cases ha : isNan a = true
  · rw [order_nan (.inl ha), ha]; rfl
  · by_cases hb : isNan b = true
    · rw [order_nan (.inr hb), hb]; simp
    · simp only [Bool.not_eq_true] at ha hb
      rw [order_val ha hb, ha, hb]
      rcases Int.lt_trichotomy (val a) (val b) with h | h | h
      · rw [Int.compare_eq_lt.2 h]; simp; omega
      · rw [h]; simp
      · rw [Int.compare_eq_gt.2 h]; simp; omega

/-! ### words hit exactly -/
theorem cut_exact (way : Toward) (neg : Bool) (q d : Nat) : way.cut neg (q * 2 ^ d) d = q := by
  unfold Toward.cut
  by_cases hq : q = 0
  · subst hq
    simp only [Nat.zero_mul, Nat.zero_div, Nat.zero_mod]
    have hg : 0 < 1 <<< min d (Nat.log2 0 + 2) := by rw [Nat.shiftLeft_eq]; have := Nat.two_pow_pos (min d (Nat.log2 0 + 2)); omega
    cases way <;> simp <;> omega
  · have hne : q * 2 ^ d ≠ 0 := Nat.mul_ne_zero hq (Nat.ne_of_gt (Nat.two_pow_pos d))
    have hl : d ≤ Nat.log2 (q * 2 ^ d) := (Nat.le_log2 hne).2 (Nat.le_mul_of_pos_left _ (Nat.pos_of_ne_zero hq))
    have e : min d ((q * 2 ^ d).log2 + 2) = d := by omega
    rw [e]
    have eg : 1 <<< d = 2 ^ d := by rw [Nat.shiftLeft_eq]; omega
    simp only [eg]
    rw [Nat.mul_div_cancel _ (Nat.two_pow_pos d), Nat.mul_mod_left]
    have := Nat.two_pow_pos d
    cases way <;> simp <;> omega
theorem log2_mul (q d : Nat) (hq : q ≠ 0) : Nat.log2 (q * 2 ^ d) = Nat.log2 q + d := by
  have hne : q * 2 ^ d ≠ 0 := Nat.mul_ne_zero hq (Nat.ne_of_gt (Nat.two_pow_pos d))
  apply Nat.le_antisymm
  · have : Nat.log2 (q * 2 ^ d) < Nat.log2 q + d + 1 := by
      rw [Nat.log2_lt hne]
      have h1 := (Nat.log2_lt hq (k := Nat.log2 q + 1)).1 (by omega)
      calc q * 2 ^ d < 2 ^ (Nat.log2 q + 1) * 2 ^ d := Nat.mul_lt_mul_of_pos_right h1 (Nat.two_pow_pos d)
        _ = 2 ^ (Nat.log2 q + d + 1) := by rw [← Nat.pow_add]; congr 1; omega
    omega
  · rw [Nat.le_log2 hne, Nat.pow_add]
    exact Nat.mul_le_mul_right _ (Nat.log2_self_le hq)
theorem log2_mant {m : Nat} (h0 : 4503599627370496 ≤ m) (h1 : m < 9007199254740992) : Nat.log2 m = 52 := by
  have hne : m ≠ 0 := by omega
  have a : 52 ≤ Nat.log2 m := (Nat.le_log2 hne).2 (by simpa using h0)
  have b : Nat.log2 m < 53 := (Nat.log2_lt hne).2 (by simpa using h1)
  omega
/-- a number that a rung stands for is written as that rung -/
theorem nearest_exact (neg : Bool) {r mag : Nat} {place : Int} (hr : r < 9218868437227405312) (h0 : r ≠ 0) (t u : Nat) (hp : place + 1074 = (t : Int) - (u : Int)) (hv : mag * 2 ^ t = V r * 2 ^ u) : Ieee.double.nearest neg mag place = Ieee.double.word neg r := by
  have hV : V r ≠ 0 := fun h => h0 (V_zero.1 h)
  have hm : mag ≠ 0 := by
    rintro rfl
    have := Nat.mul_pos (Nat.pos_of_ne_zero hV) (Nat.two_pow_pos u)
    omega
  have hlog : (Nat.log2 mag : Int) + t = Nat.log2 (V r) + u := by
    have := congrArg Nat.log2 hv
    rw [log2_mul _ _ hm, log2_mul _ _ hV] at this
    omega
  -- the rung's own mantissa and place
  obtain ⟨m, k, hmk, hm1, hk⟩ : ∃ m k : Nat, m * 2 ^ k = V r ∧ m < 9007199254740992 ∧ ((k = 0 ∧ r = m) ∨ (4503599627370496 ≤ m ∧ m = 4503599627370496 + r % 4503599627370496 ∧ k = r / 4503599627370496 - 1 ∧ 4503599627370496 ≤ r)) := by
    by_cases h : r < 4503599627370496
    · exact ⟨r, 0, by rw [V, if_pos h]; simp, by omega, .inl ⟨rfl, rfl⟩⟩
    · exact ⟨4503599627370496 + r % 4503599627370496, r / 4503599627370496 - 1, by rw [V, if_neg h], by have := Nat.mod_lt r (show 0 < 4503599627370496 by decide); omega, .inr ⟨by omega, rfl, rfl, by omega⟩⟩
  have hm0 : m ≠ 0 := by rintro rfl; rw [Nat.zero_mul] at hmk; exact hV hmk.symm
  have hlv : Nat.log2 (V r) = Nat.log2 m + k := by rw [← hmk, log2_mul _ _ hm0]
  have hlm : Nat.log2 m ≤ 52 := by
    have := (Nat.log2_lt hm0 (k := 53)).2 (by simpa using hm1); omega
  have hlast : max (place + (Nat.log2 mag : Int) - 52) (-1074) = -1074 + (k : Int) := by
    rcases hk with ⟨hk, _⟩ | ⟨hk, _, _, _⟩
    · subst hk; omega
    · have := log2_mant hk hm1; omega
  unfold Format.nearest
  rw [if_neg hm]
  simp only [fb_eq, lp_eq, bin_eq, inf_eq]
  have hl2 : (max (place + (Nat.log2 mag : Int) - ((52 : Nat) : Int)) (-1074)) = -1074 + (k : Int) := hlast
  rw [hl2]
  -- what is kept is m
  have hkept : Toward.even.cut neg (mag <<< (place - (-1074 + (k : Int))).toNat) ((-1074 + (k : Int)) - place).toNat = m := by
    rw [Nat.shiftLeft_eq]
    rw [← hmk] at hv
    by_cases hc : place + 1074 ≤ (k : Int)
    · have e1 : (place - (-1074 + (k : Int))).toNat = 0 := by omega
      have e2 : ((-1074 + (k : Int)) - place).toNat = k + u - t := by omega
      rw [e1, e2, Nat.pow_zero, Nat.mul_one]
      have : mag = m * 2 ^ (k + u - t) := by
        have h3 : mag * 2 ^ t = m * 2 ^ (k + u - t) * 2 ^ t := by
          rw [hv, Nat.mul_assoc, Nat.mul_assoc, ← Nat.pow_add, ← Nat.pow_add]; congr 2; omega
        exact Nat.eq_of_mul_eq_mul_right (Nat.two_pow_pos t) h3
      rw [this, cut_exact]
    · have e1 : (place - (-1074 + (k : Int))).toNat = t - u - k := by omega
      have e2 : ((-1074 + (k : Int)) - place).toNat = 0 := by omega
      rw [e1, e2]
      have : mag * 2 ^ (t - u - k) = m := by
        have h3 : mag * 2 ^ (t - u - k) * 2 ^ (k + u) = m * 2 ^ (k + u) := by
          rw [Nat.mul_assoc, ← Nat.pow_add, show t - u - k + (k + u) = t by omega, hv, Nat.mul_assoc, ← Nat.pow_add]
        exact Nat.eq_of_mul_eq_mul_right (Nat.two_pow_pos _) h3
      rw [this]
      have := cut_exact .even neg m 0
      simpa using this
  rw [hkept]
  have e3 : ((-1074 + (k : Int)) - (-1074)).toNat = k := by omega
  rw [e3]
  have hres : k * 4503599627370496 + m = r := by
    clear hkept hlast hl2 hlm hlv hm0 hmk hlog hm hV hv hp
    rcases hk with ⟨rfl, rfl⟩ | ⟨_, h1, h2, h3⟩
    · simp
    · have := Nat.div_add_mod r 4503599627370496
      have : 1 ≤ r / 4503599627370496 := (Nat.le_div_iff_mul_le (by decide)).2 (by omega)
      rw [h1, h2, Nat.sub_mul]; omega
  rw [hres, Nat.min_eq_left (by omega)]
theorem nearest_zero (neg : Bool) (place : Int) : Ieee.double.nearest neg 0 place = Ieee.double.word neg 0 := by
  unfold Format.nearest; rw [if_pos rfl]
theorem word_eq (neg : Bool) (r : Nat) : Ieee.double.word neg r = (if neg then 9223372036854775808 + r else r) := by unfold Format.word; rw [sw_eq]
theorem rung_word {neg : Bool} {r : Nat} (h : r < 9223372036854775808) : rung (Ieee.double.word neg r) = r := by
  rw [word_eq]; unfold rung; cases neg <;> simp <;> omega
theorem isNeg_word {neg : Bool} {r : Nat} (h : r < 9223372036854775808) : isNeg (Ieee.double.word neg r) = neg := by
  rw [word_eq]; unfold isNeg
  have h1 : r / 9223372036854775808 = 0 := Nat.div_eq_of_lt h
  have h2 : (9223372036854775808 + r) / 9223372036854775808 = 1 := by omega
  cases neg <;> simp [h1, h2]
theorem word_of {b : Nat} (h : b < 18446744073709551616) : Ieee.double.word (isNeg b) (rung b) = b := by
  rw [word_eq]; unfold isNeg rung
  have h1 : b / 9223372036854775808 < 2 := by omega
  by_cases e : b / 9223372036854775808 % 2 = 1
  · simp [e]; omega
  · simp [e]; omega
/-- every small number times a power is some rung's -/
theorem rung_of {q t : Nat} (hq : q ≠ 0) (h1 : q < 9007199254740992) (h2 : Nat.log2 q + t ≤ 2097) : ∃ r, r ≠ 0 ∧ r < 9218868437227405312 ∧ V r = q * 2 ^ t := by
  have hl : Nat.log2 q ≤ 52 := by have := (Nat.log2_lt hq (k := 53)).2 (by simpa using h1); omega
  have hlo : 2 ^ Nat.log2 q ≤ q := Nat.log2_self_le hq
  have hhi : q < 2 ^ (Nat.log2 q + 1) := (Nat.log2_lt hq).1 (by omega)
  by_cases h : Nat.log2 q + t ≤ 51
  · have hlt : q * 2 ^ t < 4503599627370496 := by
      calc q * 2 ^ t < 2 ^ (Nat.log2 q + 1) * 2 ^ t := Nat.mul_lt_mul_of_pos_right hhi (Nat.two_pow_pos t)
        _ = 2 ^ (Nat.log2 q + 1 + t) := by rw [← Nat.pow_add]
        _ ≤ 2 ^ 52 := Nat.pow_le_pow_right (by decide) (by omega)
        _ = 4503599627370496 := by decide
    refine ⟨q * 2 ^ t, Nat.mul_ne_zero hq (Nat.ne_of_gt (Nat.two_pow_pos t)), by omega, ?_⟩
    rw [V, if_pos hlt]
  · -- mantissa m = q * 2 ^ (52 - log2 q), exponent k = log2 q + t - 52
    have hm0 : 4503599627370496 ≤ q * 2 ^ (52 - Nat.log2 q) := by
      calc 4503599627370496 = 2 ^ Nat.log2 q * 2 ^ (52 - Nat.log2 q) := by rw [← Nat.pow_add, show Nat.log2 q + (52 - Nat.log2 q) = 52 by omega]
        _ ≤ _ := Nat.mul_le_mul_right _ hlo
    have hm1 : q * 2 ^ (52 - Nat.log2 q) < 9007199254740992 := by
      calc q * 2 ^ (52 - Nat.log2 q) < 2 ^ (Nat.log2 q + 1) * 2 ^ (52 - Nat.log2 q) := Nat.mul_lt_mul_of_pos_right hhi (Nat.two_pow_pos _)
        _ = 2 ^ 53 := by rw [← Nat.pow_add]; congr 1; omega
        _ = 9007199254740992 := by decide
    obtain ⟨m, hm⟩ : ∃ m, m = q * 2 ^ (52 - Nat.log2 q) := ⟨_, rfl⟩
    obtain ⟨k, hk⟩ : ∃ k, k = Nat.log2 q + t - 52 := ⟨_, rfl⟩
    rw [← hm] at hm0 hm1
    refine ⟨(k + 1) * 4503599627370496 + (m - 4503599627370496), by omega, ?_, ?_⟩
    · have : k ≤ 2045 := by omega
      omega
    · have e1 : ((k + 1) * 4503599627370496 + (m - 4503599627370496)) / 4503599627370496 = k + 1 := by omega
      have e2 : ((k + 1) * 4503599627370496 + (m - 4503599627370496)) % 4503599627370496 = m - 4503599627370496 := by omega
      rw [V, if_neg (by omega), e1, e2, show 4503599627370496 + (m - 4503599627370496) = m by omega, hm, Nat.mul_assoc, ← Nat.pow_add]
      rw [show 52 - Nat.log2 q + (k + 1 - 1) = t by clear hm0 hm1 e1 e2 hm; omega]
end Go.Bw.Fl
