/- Floats in plain numbers: what a word of 64 bits stands for, and when a word is hit exactly. · One lemma an operation: floats, bits, library functions that have no text. · A float's text in plain numbers. · Plain: the whole part of a float, and a whole number against a float. -/
import Ieee.Arith
import GoSem.Core.Float
import Derived.Test.YtjmlknjbhbfneaaGreatDoorZA
import Derived.Laws.Externs
import Derived.Laws.FloatArith
import Derived.Laws.BitsAllLaws
import GoSem.Extern.MathFloor
import GoSem.Extern.MathFloatBits
import Derived.Lib.ItoaNum
namespace Go.Bw
def floorW (b : Nat) : Nat := Ieee.double.write ((Ieee.double.read b).integral .down)
end Go.Bw
namespace Go.Bw.Fl
open Ieee

theorem sw_eq : Ieee.double.signWeight = 9223372036854775808 := by decide +kernel
theorem bin_eq : Ieee.double.binade = 4503599627370496 := by decide +kernel
theorem inf_eq : Ieee.double.infRung = 9218868437227405312 := by decide +kernel
theorem lp_eq : Ieee.double.leastPlace = -1074 := by decide +kernel
theorem fb_eq : Ieee.double.fractionBits = 52 := rfl

/-- a rung's magnitude, in units of 2 ^ -1074 -/
def V (r : Nat) : Nat := if r < 4503599627370496 then r else (4503599627370496 + r % 4503599627370496) * 2 ^ (r / 4503599627370496 - 1)
def isNan (b : Nat) : Bool := decide (9218868437227405312 < b % 9223372036854775808)
def isNeg (b : Nat) : Bool := b / 9223372036854775808 % 2 == 1
def rung (b : Nat) : Nat := b % 9223372036854775808
/-- a word's value, in units of 2 ^ -1074 (infinity: a great number) -/
def val (b : Nat) : Int := if isNeg b then -(V (rung b) : Int) else (V (rung b) : Int)

theorem read_small {b : Nat} (h : rung b < 4503599627370496) : Ieee.double.read b = .number (isNeg b) (rung b) (-1074) := by
  unfold Format.read
  simp only [sw_eq, bin_eq, lp_eq]
  unfold rung at h
  rw [if_pos h]; rfl
theorem read_normal {b : Nat} (h0 : 4503599627370496 ≤ rung b) (h1 : rung b < 9218868437227405312) :
    Ieee.double.read b = .number (isNeg b) (4503599627370496 + rung b % 4503599627370496) (-1074 + ((rung b / 4503599627370496 - 1 : Nat) : Int)) := by
  unfold Format.read
  simp only [sw_eq, bin_eq, lp_eq, inf_eq]
  unfold rung at h0 h1
  rw [if_neg (by omega), if_pos h1]; rfl
theorem read_inf {b : Nat} (h : rung b = 9218868437227405312) : Ieee.double.read b = .infinity (isNeg b) := by
  unfold Format.read
  simp only [sw_eq, bin_eq, lp_eq, inf_eq]
  unfold rung at h
  rw [if_neg (by omega), if_neg (by omega), if_pos h]; rfl
theorem read_nan {b : Nat} (h : isNan b = true) : Ieee.double.read b = .nan (isNeg b) (rung b - 9218868437227405312) := by
  unfold Format.read
  simp only [sw_eq, bin_eq, lp_eq, inf_eq]
  have h' : 9218868437227405312 < b % 9223372036854775808 := by simpa [isNan] using h
  rw [if_neg (by omega), if_neg (by omega), if_neg (by omega)]; rfl

/-- a finite word's reading, by one place for all -/
theorem read_fin {b : Nat} (h : rung b < 9218868437227405312) : ∃ (m k : Nat), Ieee.double.read b = .number (isNeg b) m (-1074 + (k : Int)) ∧ m * 2 ^ k = V (rung b) ∧ m < 9007199254740992 ∧ (k = 0 ∨ (4503599627370496 ≤ m ∧ k = rung b / 4503599627370496 - 1)) ∧ k ≤ 2045 := by
  by_cases h0 : rung b < 4503599627370496
  · exact ⟨rung b, 0, by rw [read_small h0]; rfl, by rw [V, if_pos h0]; simp, by omega, .inl rfl, by omega⟩
  · refine ⟨_, _, read_normal (by omega) h, ?_, ?_, .inr ⟨?_, rfl⟩, ?_⟩
    · rw [V, if_neg h0]
    · have := Nat.mod_lt (rung b) (show 0 < 4503599627370496 by decide); omega
    · omega
    · have : rung b / 4503599627370496 < 2047 := by rw [Nat.div_lt_iff_lt_mul (by decide)]; omega
      omega

theorem V_zero {r : Nat} : V r = 0 ↔ r = 0 := by
  unfold V
  split
  · rfl
  · constructor
    · intro h
      have h1 : 0 < 2 ^ (r / 4503599627370496 - 1) := Nat.two_pow_pos _
      have h2 := Nat.mul_pos (show 0 < 4503599627370496 + r % 4503599627370496 by omega) h1
      omega
    · intro h; omega
theorem V_step (r : Nat) : V r < V (r + 1) := by
  unfold V
  by_cases h0 : r + 1 < 4503599627370496
  · rw [if_pos (by omega), if_pos h0]; omega
  · by_cases h1 : r < 4503599627370496
    · rw [if_pos h1, if_neg h0]
      have : r + 1 = 4503599627370496 := by omega
      rw [this]; simp; omega
    · rw [if_neg h1, if_neg h0]
      by_cases h2 : (r + 1) % 4503599627370496 = 0
      · have e1 : r % 4503599627370496 = 4503599627370495 := by omega
        have e2 : (r + 1) / 4503599627370496 = r / 4503599627370496 + 1 := by omega
        have e3 : (r + 1) / 4503599627370496 - 1 = (r / 4503599627370496 - 1) + 1 := by omega
        rw [h2, e1, e3, Nat.pow_succ]
        have := Nat.two_pow_pos (r / 4503599627370496 - 1)
        omega
      · have e1 : (r + 1) % 4503599627370496 = r % 4503599627370496 + 1 := by omega
        have e2 : (r + 1) / 4503599627370496 = r / 4503599627370496 := by omega
        rw [e1, e2, ← Nat.add_assoc, Nat.add_mul _ 1]
        have := Nat.two_pow_pos (r / 4503599627370496 - 1)
        omega
theorem V_lt {r s : Nat} (h : r < s) : V r < V s := by
  induction s with
  | zero => omega
  | succ s ih =>
    rcases Nat.lt_or_ge r s with h1 | h1
    · exact Nat.lt_trans (ih h1) (V_step s)
    · have : r = s := by omega
      subst this; exact V_step r
theorem V_lt_iff {r s : Nat} : V r < V s ↔ r < s := by
  constructor
  · intro h
    rcases Nat.lt_trichotomy r s with h1 | h1 | h1
    · exact h1
    · subst h1; omega
    · have := V_lt h1; omega
  · exact V_lt
theorem V_inj {r s : Nat} : V r = V s ↔ r = s := by
  constructor
  · intro h
    rcases Nat.lt_trichotomy r s with h1 | h1 | h1
    · have := V_lt h1; omega
    · exact h1
    · have := V_lt h1; omega
  · rintro rfl; rfl

/-! ### comparisons -/
theorem compare_mul (a b : Int) (n : Nat) (h : 0 < n) : compare (a * n) (b * n) = compare a b := by
  have hn : (0 : Int) < n := by omega
  rcases Int.lt_trichotomy a b with h1 | h1 | h1
  · have h2 := Int.mul_lt_mul_of_pos_right h1 hn
    rw [Int.compare_eq_lt.2 h1, Int.compare_eq_lt.2 h2]
  · subst h1; simp
  · have h2 := Int.mul_lt_mul_of_pos_right h1 hn
    rw [Int.compare_eq_gt.2 h1, Int.compare_eq_gt.2 h2]
theorem signed_eq (s : Bool) (m k : Nat) : signed s m k = (if s then -((m * 2 ^ k : Nat) : Int) else ((m * 2 ^ k : Nat) : Int)) := by
  unfold signed; rw [Nat.shiftLeft_eq]
theorem order_val {a b : Nat} (ha : isNan a = false) (hb : isNan b = false) : Ieee.double.order a b = some (compare (val a) (val b)) := by
  have ha' : rung a ≤ 9218868437227405312 := by simpa [isNan, rung] using ha
  have hb' : rung b ≤ 9218868437227405312 := by simpa [isNan, rung] using hb
  unfold Format.order
  by_cases ia : rung a = 9218868437227405312
  · rw [read_inf ia]
    by_cases ib : rung b = 9218868437227405312
    · rw [read_inf ib]
      simp only [Datum.order, val, ia, ib]
      cases isNeg a <;> cases isNeg b <;> simp <;> decide +kernel
    · obtain ⟨m, k, hr, hv, _⟩ := read_fin (b := b) (by omega)
      rw [hr]
      have h1 := V_lt (show rung b < rung a by omega)
      simp only [Datum.order, val, ia]
      rw [ia] at h1
      cases isNeg a <;> cases isNeg b <;> simp only [Bool.false_eq_true, if_true, if_false, Option.some.injEq]
      · exact (Int.compare_eq_gt.2 (by omega)).symm
      · exact (Int.compare_eq_gt.2 (by omega)).symm
      · exact (Int.compare_eq_lt.2 (by omega)).symm
      · exact (Int.compare_eq_lt.2 (by omega)).symm
  · obtain ⟨m, k, hr, hv, _⟩ := read_fin (b := a) (by omega)
    rw [hr]
    by_cases ib : rung b = 9218868437227405312
    · rw [read_inf ib]
      have h1 := V_lt (show rung a < rung b by omega)
      simp only [Datum.order, val, ib]
      rw [ib] at h1
      cases isNeg a <;> cases isNeg b <;> simp only [Bool.false_eq_true, if_true, if_false, Option.some.injEq]
      · exact (Int.compare_eq_lt.2 (by omega)).symm
      · exact (Int.compare_eq_gt.2 (by omega)).symm
      · exact (Int.compare_eq_lt.2 (by omega)).symm
      · exact (Int.compare_eq_gt.2 (by omega)).symm
    · obtain ⟨n, l, hs, hw, _⟩ := read_fin (b := b) (by omega)
      rw [hs]
      simp only [Datum.order, Option.some.injEq]
      rw [signed_eq, signed_eq]
      obtain ⟨c, hc⟩ : ∃ c : Nat, min (-1074 + (k : Int)) (-1074 + (l : Int)) = -1074 + (c : Int) ∧ c ≤ k ∧ c ≤ l := ⟨min k l, by omega, by omega, by omega⟩
      rw [hc.1]
      have e1 : (-1074 + (k : Int) - (-1074 + (c : Int))).toNat = k - c := by omega
      have e2 : (-1074 + (l : Int) - (-1074 + (c : Int))).toNat = l - c := by omega
      rw [e1, e2]
      have hv' : V (rung a) = m * 2 ^ (k - c) * 2 ^ c := by rw [Nat.mul_assoc, ← Nat.pow_add, ← hv]; congr 2; omega
      have hw' : V (rung b) = n * 2 ^ (l - c) * 2 ^ c := by rw [Nat.mul_assoc, ← Nat.pow_add, ← hw]; congr 2; omega
      unfold val
      rw [hv', hw', ← compare_mul _ _ (2 ^ c) (Nat.two_pow_pos c)]
      cases isNeg a <;> cases isNeg b <;> simp [Int.neg_mul]
theorem order_nan {a b : Nat} (h : isNan a = true ∨ isNan b = true) : Ieee.double.order a b = none := by
  unfold Format.order
  rcases h with h | h
  · rw [read_nan h]; cases Ieee.double.read b <;> rfl
  · rw [read_nan h]; cases Ieee.double.read a <;> rfl
theorem eq_val {a b : Nat} : (Ieee.double.order a b == some .eq) = (!isNan a && !isNan b && decide (val a = val b)) := by
  by_cases ha : isNan a = true
  · rw [order_nan (.inl ha), ha]; rfl
  · by_cases hb : isNan b = true
    · rw [order_nan (.inr hb), hb]; simp
    · simp only [Bool.not_eq_true] at ha hb
      rw [order_val ha hb, ha, hb]
      rcases Int.lt_trichotomy (val a) (val b) with h | h | h
      · rw [Int.compare_eq_lt.2 h]; simp; omega
      · rw [h]; simp
      · rw [Int.compare_eq_gt.2 h]; simp; omega
theorem lt_val {a b : Nat} : (Ieee.double.order a b == some .lt) = (!isNan a && !isNan b && decide (val a < val b)) := by
  by_cases ha : isNan a = true
  · rw [order_nan (.inl ha), ha]; rfl
  · by_cases hb : isNan b = true
    · rw [order_nan (.inr hb), hb]; simp
    · simp only [Bool.not_eq_true] at ha hb
      rw [order_val ha hb, ha, hb]
      rcases Int.lt_trichotomy (val a) (val b) with h | h | h
      · rw [Int.compare_eq_lt.2 h]; simp; omega
      · rw [h]; simp
      · rw [Int.compare_eq_gt.2 h]; simp; omega
theorem gt_val {a b : Nat} : (Ieee.double.order a b == some .gt) = (!isNan a && !isNan b && decide (val b < val a)) := by
  by_cases ha : isNan a = true
  · rw [order_nan (.inl ha), ha]; rfl
  · by_cases hb : isNan b = true
    · rw [order_nan (.inr hb), hb]; simp
    · simp only [Bool.not_eq_true] at ha hb
      rw [order_val ha hb, ha, hb]
      rcases Int.lt_trichotomy (val a) (val b) with h | h | h
      · rw [Int.compare_eq_lt.2 h]; simp; omega
      · rw [h]; simp
      · rw [Int.compare_eq_gt.2 h]; simp; omega

/-! ### words hit exactly -/
theorem cut_exact (way : Toward) (neg : Bool) (q d : Nat) : way.cut neg (q * 2 ^ d) d = q := by
  unfold Toward.cut
  by_cases hq : q = 0
  · subst hq
    simp only [Nat.zero_mul, Nat.zero_div, Nat.zero_mod]
    have hg : 0 < 1 <<< min d (Nat.log2 0 + 2) := by rw [Nat.shiftLeft_eq]; have := Nat.two_pow_pos (min d (Nat.log2 0 + 2)); omega
    cases way <;> simp <;> omega
  · have hne : q * 2 ^ d ≠ 0 := Nat.mul_ne_zero hq (Nat.ne_of_gt (Nat.two_pow_pos d))
    have hl : d ≤ Nat.log2 (q * 2 ^ d) := (Nat.le_log2 hne).2 (Nat.le_mul_of_pos_left _ (Nat.pos_of_ne_zero hq))
    have e : min d ((q * 2 ^ d).log2 + 2) = d := by omega
    rw [e]
    have eg : 1 <<< d = 2 ^ d := by rw [Nat.shiftLeft_eq]; omega
    simp only [eg]
    rw [Nat.mul_div_cancel _ (Nat.two_pow_pos d), Nat.mul_mod_left]
    have := Nat.two_pow_pos d
    cases way <;> simp <;> omega
theorem log2_mul (q d : Nat) (hq : q ≠ 0) : Nat.log2 (q * 2 ^ d) = Nat.log2 q + d := by
  have hne : q * 2 ^ d ≠ 0 := Nat.mul_ne_zero hq (Nat.ne_of_gt (Nat.two_pow_pos d))
  apply Nat.le_antisymm
  · have : Nat.log2 (q * 2 ^ d) < Nat.log2 q + d + 1 := by
      rw [Nat.log2_lt hne]
      have h1 := (Nat.log2_lt hq (k := Nat.log2 q + 1)).1 (by omega)
      calc q * 2 ^ d < 2 ^ (Nat.log2 q + 1) * 2 ^ d := Nat.mul_lt_mul_of_pos_right h1 (Nat.two_pow_pos d)
        _ = 2 ^ (Nat.log2 q + d + 1) := by rw [← Nat.pow_add]; congr 1; omega
    omega
  · rw [Nat.le_log2 hne, Nat.pow_add]
    exact Nat.mul_le_mul_right _ (Nat.log2_self_le hq)
theorem log2_mant {m : Nat} (h0 : 4503599627370496 ≤ m) (h1 : m < 9007199254740992) : Nat.log2 m = 52 := by
  have hne : m ≠ 0 := by omega
  have a : 52 ≤ Nat.log2 m := (Nat.le_log2 hne).2 (by simpa using h0)
  have b : Nat.log2 m < 53 := (Nat.log2_lt hne).2 (by simpa using h1)
  omega
/-- a number that a rung stands for is written as that rung -/
theorem nearest_exact (neg : Bool) {r mag : Nat} {place : Int} (hr : r < 9218868437227405312) (h0 : r ≠ 0) (t u : Nat) (hp : place + 1074 = (t : Int) - (u : Int)) (hv : mag * 2 ^ t = V r * 2 ^ u) : Ieee.double.nearest neg mag place = Ieee.double.word neg r := by
  have hV : V r ≠ 0 := fun h => h0 (V_zero.1 h)
  have hm : mag ≠ 0 := by
    rintro rfl
    have := Nat.mul_pos (Nat.pos_of_ne_zero hV) (Nat.two_pow_pos u)
    omega
  have hlog : (Nat.log2 mag : Int) + t = Nat.log2 (V r) + u := by
    have := congrArg Nat.log2 hv
    rw [log2_mul _ _ hm, log2_mul _ _ hV] at this
    omega
  -- the rung's own mantissa and place
  obtain ⟨m, k, hmk, hm1, hk⟩ : ∃ m k : Nat, m * 2 ^ k = V r ∧ m < 9007199254740992 ∧ ((k = 0 ∧ r = m) ∨ (4503599627370496 ≤ m ∧ m = 4503599627370496 + r % 4503599627370496 ∧ k = r / 4503599627370496 - 1 ∧ 4503599627370496 ≤ r)) := by
    by_cases h : r < 4503599627370496
    · exact ⟨r, 0, by rw [V, if_pos h]; simp, by omega, .inl ⟨rfl, rfl⟩⟩
    · exact ⟨4503599627370496 + r % 4503599627370496, r / 4503599627370496 - 1, by rw [V, if_neg h], by have := Nat.mod_lt r (show 0 < 4503599627370496 by decide); omega, .inr ⟨by omega, rfl, rfl, by omega⟩⟩
  have hm0 : m ≠ 0 := by rintro rfl; rw [Nat.zero_mul] at hmk; exact hV hmk.symm
  have hlv : Nat.log2 (V r) = Nat.log2 m + k := by rw [← hmk, log2_mul _ _ hm0]
  have hlm : Nat.log2 m ≤ 52 := by
    have := (Nat.log2_lt hm0 (k := 53)).2 (by simpa using hm1); omega
  have hlast : max (place + (Nat.log2 mag : Int) - 52) (-1074) = -1074 + (k : Int) := by
    rcases hk with ⟨hk, _⟩ | ⟨hk, _, _, _⟩
    · subst hk; omega
    · have := log2_mant hk hm1; omega
  unfold Format.nearest
  rw [if_neg hm]
  simp only [fb_eq, lp_eq, bin_eq, inf_eq]
  have hl2 : (max (place + (Nat.log2 mag : Int) - ((52 : Nat) : Int)) (-1074)) = -1074 + (k : Int) := hlast
  rw [hl2]
  -- what is kept is m
  have hkept : Toward.even.cut neg (mag <<< (place - (-1074 + (k : Int))).toNat) ((-1074 + (k : Int)) - place).toNat = m := by
    rw [Nat.shiftLeft_eq]
    rw [← hmk] at hv
    by_cases hc : place + 1074 ≤ (k : Int)
    · have e1 : (place - (-1074 + (k : Int))).toNat = 0 := by omega
      have e2 : ((-1074 + (k : Int)) - place).toNat = k + u - t := by omega
      rw [e1, e2, Nat.pow_zero, Nat.mul_one]
      have : mag = m * 2 ^ (k + u - t) := by
        have h3 : mag * 2 ^ t = m * 2 ^ (k + u - t) * 2 ^ t := by
          rw [hv, Nat.mul_assoc, Nat.mul_assoc, ← Nat.pow_add, ← Nat.pow_add]; congr 2; omega
        exact Nat.eq_of_mul_eq_mul_right (Nat.two_pow_pos t) h3
      rw [this, cut_exact]
    · have e1 : (place - (-1074 + (k : Int))).toNat = t - u - k := by omega
      have e2 : ((-1074 + (k : Int)) - place).toNat = 0 := by omega
      rw [e1, e2]
      have : mag * 2 ^ (t - u - k) = m := by
        have h3 : mag * 2 ^ (t - u - k) * 2 ^ (k + u) = m * 2 ^ (k + u) := by
          rw [Nat.mul_assoc, ← Nat.pow_add, show t - u - k + (k + u) = t by omega, hv, Nat.mul_assoc, ← Nat.pow_add]
        exact Nat.eq_of_mul_eq_mul_right (Nat.two_pow_pos _) h3
      rw [this]
      have := cut_exact .even neg m 0
      simpa using this
  rw [hkept]
  have e3 : ((-1074 + (k : Int)) - (-1074)).toNat = k := by omega
  rw [e3]
  have hres : k * 4503599627370496 + m = r := by
    clear hkept hlast hl2 hlm hlv hm0 hmk hlog hm hV hv hp
    rcases hk with ⟨rfl, rfl⟩ | ⟨_, h1, h2, h3⟩
    · simp
    · have := Nat.div_add_mod r 4503599627370496
      have : 1 ≤ r / 4503599627370496 := (Nat.le_div_iff_mul_le (by decide)).2 (by omega)
      rw [h1, h2, Nat.sub_mul]; omega
  rw [hres, Nat.min_eq_left (by omega)]
theorem nearest_zero (neg : Bool) (place : Int) : Ieee.double.nearest neg 0 place = Ieee.double.word neg 0 := by
  unfold Format.nearest; rw [if_pos rfl]
theorem word_eq (neg : Bool) (r : Nat) : Ieee.double.word neg r = (if neg then 9223372036854775808 + r else r) := by unfold Format.word; rw [sw_eq]
theorem rung_word {neg : Bool} {r : Nat} (h : r < 9223372036854775808) : rung (Ieee.double.word neg r) = r := by
  rw [word_eq]; unfold rung; cases neg <;> simp <;> omega
theorem isNeg_word {neg : Bool} {r : Nat} (h : r < 9223372036854775808) : isNeg (Ieee.double.word neg r) = neg := by
  rw [word_eq]; unfold isNeg
  have h1 : r / 9223372036854775808 = 0 := Nat.div_eq_of_lt h
  have h2 : (9223372036854775808 + r) / 9223372036854775808 = 1 := by omega
  cases neg <;> simp [h1, h2]
theorem word_of {b : Nat} (h : b < 18446744073709551616) : Ieee.double.word (isNeg b) (rung b) = b := by
  rw [word_eq]; unfold isNeg rung
  have h1 : b / 9223372036854775808 < 2 := by omega
  by_cases e : b / 9223372036854775808 % 2 = 1
  · simp [e]; omega
  · simp [e]; omega
/-- every small number times a power is some rung's -/
theorem rung_of {q t : Nat} (hq : q ≠ 0) (h1 : q < 9007199254740992) (h2 : Nat.log2 q + t ≤ 2097) : ∃ r, r ≠ 0 ∧ r < 9218868437227405312 ∧ V r = q * 2 ^ t := by
  have hl : Nat.log2 q ≤ 52 := by have := (Nat.log2_lt hq (k := 53)).2 (by simpa using h1); omega
  have hlo : 2 ^ Nat.log2 q ≤ q := Nat.log2_self_le hq
  have hhi : q < 2 ^ (Nat.log2 q + 1) := (Nat.log2_lt hq).1 (by omega)
  by_cases h : Nat.log2 q + t ≤ 51
  · have hlt : q * 2 ^ t < 4503599627370496 := by
      calc q * 2 ^ t < 2 ^ (Nat.log2 q + 1) * 2 ^ t := Nat.mul_lt_mul_of_pos_right hhi (Nat.two_pow_pos t)
        _ = 2 ^ (Nat.log2 q + 1 + t) := by rw [← Nat.pow_add]
        _ ≤ 2 ^ 52 := Nat.pow_le_pow_right (by decide) (by omega)
        _ = 4503599627370496 := by decide
    refine ⟨q * 2 ^ t, Nat.mul_ne_zero hq (Nat.ne_of_gt (Nat.two_pow_pos t)), by omega, ?_⟩
    rw [V, if_pos hlt]
  · -- mantissa m = q * 2 ^ (52 - log2 q), exponent k = log2 q + t - 52
    have hm0 : 4503599627370496 ≤ q * 2 ^ (52 - Nat.log2 q) := by
      calc 4503599627370496 = 2 ^ Nat.log2 q * 2 ^ (52 - Nat.log2 q) := by rw [← Nat.pow_add, show Nat.log2 q + (52 - Nat.log2 q) = 52 by omega]
        _ ≤ _ := Nat.mul_le_mul_right _ hlo
    have hm1 : q * 2 ^ (52 - Nat.log2 q) < 9007199254740992 := by
      calc q * 2 ^ (52 - Nat.log2 q) < 2 ^ (Nat.log2 q + 1) * 2 ^ (52 - Nat.log2 q) := Nat.mul_lt_mul_of_pos_right hhi (Nat.two_pow_pos _)
        _ = 2 ^ 53 := by rw [← Nat.pow_add]; congr 1; omega
        _ = 9007199254740992 := by decide
    obtain ⟨m, hm⟩ : ∃ m, m = q * 2 ^ (52 - Nat.log2 q) := ⟨_, rfl⟩
    obtain ⟨k, hk⟩ : ∃ k, k = Nat.log2 q + t - 52 := ⟨_, rfl⟩
    rw [← hm] at hm0 hm1
    refine ⟨(k + 1) * 4503599627370496 + (m - 4503599627370496), by omega, ?_, ?_⟩
    · have : k ≤ 2045 := by omega
      omega
    · have e1 : ((k + 1) * 4503599627370496 + (m - 4503599627370496)) / 4503599627370496 = k + 1 := by omega
      have e2 : ((k + 1) * 4503599627370496 + (m - 4503599627370496)) % 4503599627370496 = m - 4503599627370496 := by omega
      rw [V, if_neg (by omega), e1, e2, show 4503599627370496 + (m - 4503599627370496) = m by omega, hm, Nat.mul_assoc, ← Nat.pow_add]
      rw [show 52 - Nat.log2 q + (k + 1 - 1) = t by clear hm0 hm1 e1 e2 hm; omega]
end Go.Bw.Fl
namespace Go.Bw
open Go.RowKit
set_option linter.unusedVariables false
set_option linter.unusedSimpArgs false

section
variable {P : Program} {N : Nat} {D : List Deferred} {env env' : Env} {a : Act} {w w' : World} {Q : Exit → Act → World → Prop}
variable {ops : Array Oper} {rest : List Oper} {d : Nat} {op : Op} {ty : TypeId} {pos : String} {af : Array Edge}

/-- a function that has no text: E says what it does -/
def Extn (P : Program) (f : FuncId) (E : Array Value → Sem Value) : Prop := ∀ (args : Array Value) (w : World), (callFunc f args).run P w = ((E args).run P w).andThen fun v w' => .ok (.value v) w'
theorem y_extV {x : Operand} {f : FuncId} {xs : Array Operand} {ts : Array TypeId} {vs : List Value} {v : Value} {E : Array Value → Sem Value} (he : Extn P f E) (hx : ev env x = some (.func (.func f) #[] #[])) (hxs : evs env xs.toList = some vs) (hv : ∀ w, (E vs.toArray).run P w = .ok v w) : Yl P N D env (.call ⟨.value x, xs, ts⟩) ty v :=
  y_ext (fun w => by rw [he, hv w]; rfl) hx hxs
theorem y_f2b {x : Operand} {f : FuncId} {y : Operand} {ts : Array TypeId} {b : Nat} (he : Extn P f Extern.MathFloatBits.float64bits) (hx : ev env x = some (.func (.func f) #[] #[])) (hy : evs env [y] = some [.float .f64 b]) : Yl P N D env (.call ⟨.value x, #[y], ts⟩) ty (.int .u64 b) :=
  y_extV he hx hy (fun w => rfl)
theorem y_b2f {x : Operand} {f : FuncId} {y : Operand} {ts : Array TypeId} {n : Int} (he : Extn P f Extern.MathFloatBits.float64frombits) (hx : ev env x = some (.func (.func f) #[] #[])) (hy : evs env [y] = some [.int .u64 n]) : Yl P N D env (.call ⟨.value x, #[y], ts⟩) ty (.float .f64 n.toNat) :=
  y_extV he hx hy (fun w => rfl)
theorem y_floor {x : Operand} {f : FuncId} {y : Operand} {ts : Array TypeId} {b : Nat} (he : Extn P f (Extern.MathFloor.toIntegral "math.archFloor" .down)) (hx : ev env x = some (.func (.func f) #[] #[])) (hy : evs env [y] = some [.float .f64 b]) (hn : Fl.isNan b = false) : Yl P N D env (.call ⟨.value x, #[y], ts⟩) ty (.float .f64 (floorW b)) :=
  y_extV he hx hy (fun w => by
    have hr : FloatKind.f64.decode b = Ieee.double.read b := rfl
    have h1 : ∀ s t, Ieee.double.read b ≠ .nan s t := fun s t e => by
      by_cases h : Fl.rung b < 9218868437227405312
      · obtain ⟨m, k, h2, _⟩ := Fl.read_fin h; rw [h2] at e; cases e
      · have h3 : Fl.rung b ≤ 9218868437227405312 := by simpa [Fl.isNan, Fl.rung] using hn
        rw [Fl.read_inf (by omega)] at e; cases e
    show (match FloatKind.f64.decode b with | .nan s t => _ | d => _ : Sem Value).run P w = _
    rw [hr]
    unfold floorW
    cases hd : Ieee.double.read b with
    | nan s t => exact absurd hd (h1 s t)
    | number s m i => rfl
    | infinity s => rfl)

/-! ### arithmetic -/
theorem y_mulf {x y : Operand} {k : FloatKind} {m n r : Nat} {t u : TypeId} (hx : ev env x = some (.float k m)) (hy : ev env y = some (.float k n)) (h : floatBits .mul k m n = some r) : Yl P N D env (.binOp .mul t x y u) ty (.float k r) := fun a ha w dst pos af g => by
  simp [execOp, ha.eval hx, ha.eval hy, eqGuard_mul, run_float_arith w .mul t k m n r h]
theorem y_negf {x : Operand} {b : Nat} {t : TypeId} (hx : ev env x = some (.float .f64 b)) : Yl P N D env (.unOp .neg t x) ty (.float .f64 (b ^^^ 9223372036854775808)) := fun a ha w dst pos af g => by
  have : Op.negFloat .f64 b = b ^^^ 9223372036854775808 := rfl
  simp [execOp, ha.eval hx, Op.unary, this]
theorem y_andNot {x y : Operand} {k : IntKind} {m n : Int} {t u : TypeId} (hx : ev env x = some (.int k m)) (hy : ev env y = some (.int k n)) : Yl P N D env (.binOp .andNot t x y u) ty (.int k (bits .andNot k m n)) := fun a ha w dst pos af g => by
  simp [execOp, ha.eval hx, ha.eval hy, eqGuard_andNot, binOp_andNot, intBits_andNot]
theorem y_f2i {x : Operand} {s : FloatKind} {k : IntKind} {b : Nat} {n : Int} {t u : TypeId} (hs : (P.underlying t).isSome = true) (hd : P.underlying u = some (.int k)) (hx : ev env x = some (.float s b)) (h : floatToIntVal s b k = some n) : Yl P N D env (.convert t u x) ty (.int k n) := fun a ha w dst pos af g => by
  simp [execOp, ha.eval hx, run_convert_float_int w t u s k b n hs hd h]
end
end Go.Bw
namespace Go.Bw.Fl
open Ieee Go

/-! ### odd parts -/
def v2 (m : Nat) : Nat := if h : m ≠ 0 ∧ m % 2 = 0 then v2 (m / 2) + 1 else 0
termination_by m
decreasing_by omega
def od (m : Nat) : Nat := m / 2 ^ v2 m
theorem v2_even {m : Nat} (h0 : m ≠ 0) (h : m % 2 = 0) : v2 m = v2 (m / 2) + 1 := by rw [v2, dif_pos ⟨h0, h⟩]
theorem v2_odd {m : Nat} (h : m % 2 = 1) : v2 m = 0 := by rw [v2, dif_neg (by omega)]
theorem od_spec (m : Nat) (h : m ≠ 0) : m = od m * 2 ^ v2 m ∧ od m % 2 = 1 := by
  induction m using Nat.strongRecOn with
  | ind m ih =>
    by_cases e : m % 2 = 0
    · obtain ⟨h1, h2⟩ := ih (m / 2) (by omega) (by omega)
      have hv := v2_even h e
      have ho : od m = od (m / 2) := by unfold od; rw [hv, Nat.pow_succ, Nat.mul_comm (2 ^ _) 2, ← Nat.div_div_eq_div_mul]
      refine ⟨?_, ho ▸ h2⟩
      rw [ho, hv, Nat.pow_succ, ← Nat.mul_assoc, ← h1]; omega
    · have hv : v2 m = 0 := v2_odd (by omega)
      have ho : od m = m := by unfold od; rw [hv]; simp
      rw [ho, hv]; exact ⟨by simp, by omega⟩
theorem dvd_pow {o t j : Nat} (ho : o % 2 = 1) : 2 ^ j ∣ o * 2 ^ t ↔ j ≤ t := by
  constructor
  · rintro ⟨c, hc⟩
    rcases Nat.lt_or_ge t j with h | h
    · exfalso
      have : o * 2 ^ t = (2 * 2 ^ (j - t - 1) * c) * 2 ^ t := by
        rw [hc, Nat.mul_right_comm, ← Nat.pow_succ', ← Nat.pow_add]; congr 2; omega
      have := Nat.eq_of_mul_eq_mul_right (Nat.two_pow_pos t) this
      rw [Nat.mul_assoc] at this
      omega
    · exact h
  · intro h
    exact ⟨o * 2 ^ (t - j), by rw [Nat.mul_left_comm, ← Nat.pow_add]; congr 2; omega⟩
/-! ### a mantissa times 2 ^ (k - 53) -/
def Wk (k M : Nat) : Nat := (1022 + k) * 4503599627370496 + (M - 4503599627370496)
structure Mant (M : Nat) : Prop where
  lo : 4503599627370496 ≤ M
  hi : M < 9007199254740992
section
variable {M k : Nat}
theorem Wk_div (h : Mant M) : Wk k M / 4503599627370496 = 1022 + k := by have := h.lo; have := h.hi; unfold Wk; omega
theorem Wk_mod (h : Mant M) : Wk k M % 4503599627370496 = M - 4503599627370496 := by have := h.lo; have := h.hi; unfold Wk; omega
theorem Wk_lt (h : Mant M) (hk : k ≤ 60) : Wk k M < 9218868437227405312 := by have := h.lo; have := h.hi; unfold Wk; omega
theorem Wk_rung (h : Mant M) (hk : k ≤ 60) : rung (Wk k M) = Wk k M := Nat.mod_eq_of_lt (by have := Wk_lt h hk; omega)
theorem Wk_neg (h : Mant M) (hk : k ≤ 60) : isNeg (Wk k M) = false := by
  unfold isNeg; rw [Nat.div_eq_of_lt (by have := Wk_lt h hk; omega)]; rfl
theorem Wk_nan (h : Mant M) (hk : k ≤ 60) : isNan (Wk k M) = false := by
  have h1 := Wk_lt h hk
  unfold isNan; rw [Nat.mod_eq_of_lt (by omega)]; simp; omega
theorem V_Wk (h : Mant M) : V (Wk k M) = M * 2 ^ (1021 + k) := by
  have h0 := h.lo
  have h1 : ¬ Wk k M < 4503599627370496 := by unfold Wk; omega
  rw [V, if_neg h1, Wk_div h, Wk_mod h, show 4503599627370496 + (M - 4503599627370496) = M by omega, show 1022 + k - 1 = 1021 + k by omega]
theorem val_Wk (h : Mant M) (hk : k ≤ 60) : val (Wk k M) = ((M * 2 ^ (1021 + k) : Nat) : Int) := by
  unfold val; rw [Wk_neg h hk, Wk_rung h hk, V_Wk h]; rfl
theorem read_Wk (h : Mant M) (hk : k ≤ 60) : Ieee.double.read (Wk k M) = .number false M ((k : Int) - 53) := by
  have h0 := h.lo
  rw [read_normal (by rw [Wk_rung h hk]; unfold Wk; omega) (by rw [Wk_rung h hk]; exact Wk_lt h hk), Wk_neg h hk, Wk_rung h hk, Wk_div h, Wk_mod h]
  rw [show 4503599627370496 + (M - 4503599627370496) = M by omega]
  congr 1; omega
theorem read_two : Ieee.double.read 4611686018427387904 = .number false 4503599627370496 (-51) := by
  rw [read_normal (by decide) (by decide)]; rfl
theorem mul_two (h : Mant M) (hk : k ≤ 59) : floatBits .mul .f64 (Wk k M) 4611686018427387904 = some (Wk (k + 1) M) := by
  show Ieee.double.mul (Wk k M) 4611686018427387904 = _
  unfold Format.mul
  rw [read_Wk h (by omega), read_two]
  show some (Ieee.double.nearest (false ^^ false) (M * 4503599627370496) ((k : Int) - 53 + -51)) = _
  rw [nearest_exact (r := Wk (k + 1) M) _ (Wk_lt h (by omega)) (by unfold Wk; omega) (k + 970) 0 (by omega)]
  · rfl
  · rw [V_Wk h, show (4503599627370496 : Nat) = 2 ^ 52 by decide, Nat.mul_assoc, Nat.mul_assoc, ← Nat.pow_add, ← Nat.pow_add]
    congr 2; omega
theorem cut_floor (way : Toward) (hw : way = .down ∨ way = .zero) {n d : Nat} (hd : d ≤ Nat.log2 n + 2) : way.cut false n d = n / 2 ^ d := by
  unfold Toward.cut
  rw [Nat.min_eq_left hd, Nat.shiftLeft_eq, Nat.one_mul]
  rcases hw with rfl | rfl <;> simp
theorem floor_Wk (h : Mant M) (hk : k ≤ 53) : floorW (Wk k M) = Ieee.double.nearest false (M / 2 ^ (53 - k)) 0 := by
  unfold floorW
  rw [read_Wk h (by omega)]
  show Ieee.double.nearest false (Toward.down.cut false (M <<< ((k : Int) - 53).toNat) (-((k : Int) - 53)).toNat) 0 = _
  have e1 : ((k : Int) - 53).toNat = 0 := by omega
  have e2 : (-((k : Int) - 53)).toNat = 53 - k := by omega
  rw [e1, e2, Nat.shiftLeft_zero, cut_floor .down (.inl rfl) (by rw [log2_mant h.lo h.hi]; omega)]
theorem nearest_whole {q : Nat} (h1 : q < 9007199254740992) : isNan (Ieee.double.nearest false q 0) = false ∧ val (Ieee.double.nearest false q 0) = ((q * 2 ^ 1074 : Nat) : Int) := by
  by_cases h0 : q = 0
  · subst h0; rw [nearest_zero]; decide +kernel
  · have hl : Nat.log2 q ≤ 52 := by have := (Nat.log2_lt h0 (k := 53)).2 (by simpa using h1); omega
    obtain ⟨r, r0, r1, r2⟩ := rung_of (t := 1074) h0 h1 (by omega)
    rw [nearest_exact (r := r) _ r1 r0 1074 0 (by omega) (by rw [r2, Nat.pow_zero, Nat.mul_one])]
    have hn : isNeg (Ieee.double.word false r) = false := isNeg_word (by omega)
    have hr : rung (Ieee.double.word false r) = r := rung_word (by omega)
    constructor
    · unfold isNan; rw [show Ieee.double.word false r % 9223372036854775808 = r from hr]; simp; omega
    · unfold val; rw [hn, hr, r2]; rfl
/-- is it whole? -/
theorem whole_Wk (h : Mant M) (hk : k ≤ 53) : (Ieee.double.order (Wk k M) (floorW (Wk k M)) == some .eq) = decide (2 ^ (53 - k) ∣ M) := by
  have hq : M / 2 ^ (53 - k) < 9007199254740992 := Nat.lt_of_le_of_lt (Nat.div_le_self _ _) h.hi
  obtain ⟨h1, h2⟩ := nearest_whole hq
  rw [eq_val, floor_Wk h hk, h1, Wk_nan h (by omega), h2, val_Wk h (by omega)]
  simp only [Bool.not_false, Bool.true_and]
  apply decide_eq_decide.2
  rw [Int.ofNat_inj]
  constructor
  · intro e
    have e' : M * 2 ^ (1021 + k) = (M / 2 ^ (53 - k) * 2 ^ (53 - k)) * 2 ^ (1021 + k) := by
      rw [e, Nat.mul_assoc, ← Nat.pow_add]; congr 2; omega
    have := Nat.eq_of_mul_eq_mul_right (Nat.two_pow_pos _) e'
    exact ⟨_, by rw [Nat.mul_comm]; exact this⟩
  · rintro ⟨c, rfl⟩
    rw [Nat.mul_div_cancel_left _ (Nat.two_pow_pos _), Nat.mul_comm (2 ^ _) c, Nat.mul_assoc, ← Nat.pow_add]
    congr 2; omega
theorem toInt_num (M : Nat) (i : Int) : (Datum.number false M i).toInt .zero = some (signed false (Toward.zero.cut false (M <<< i.toNat) (-i).toNat) 0) := rfl
theorem toInt_Wk (h : Mant M) (hk : k ≤ 53) : (Datum.number false M ((k : Int) - 53)).toInt .zero = some ((M / 2 ^ (53 - k) : Nat) : Int) := by
  have e1 : ((k : Int) - 53).toNat = 0 := by omega
  have e2 : (-((k : Int) - 53)).toNat = 53 - k := by omega
  rw [toInt_num, e1, e2, Nat.shiftLeft_zero, cut_floor .zero (.inr rfl) (by rw [log2_mant h.lo h.hi]; omega), signed_eq, if_neg (by decide), Nat.pow_zero, Nat.mul_one]
theorem f2i_of {b q : Nat} (h : (Ieee.double.read b).toInt .zero = some (q : Int)) (hq : q < 18446744073709551616) : floatToIntVal .f64 b .u64 = some (q : Int) := by
  have hd : FloatKind.f64.decode b = Ieee.double.read b := rfl
  have hmin : IntKind.u64.min = 0 := by decide
  have hmax : IntKind.u64.max = 18446744073709551615 := by decide
  unfold floatToIntVal
  rw [hd, h]
  show (if _ then _ else _) = _
  rw [hmin, hmax, if_pos ⟨by omega, by omega⟩]
theorem int_Wk (h : Mant M) (hk : k ≤ 53) : floatToIntVal .f64 (Wk k M) .u64 = some ((M / 2 ^ (53 - k) : Nat) : Int) :=
  f2i_of (by rw [read_Wk h (by omega)]; exact toInt_Wk h hk) (Nat.lt_of_le_of_lt (Nat.div_le_self _ _) (by have := h.hi; omega))
end

/-! ### a finite number that is not nought, made normal -/
def mant0 (r : Nat) : Nat := if r < 4503599627370496 then r else 4503599627370496 + r % 4503599627370496
def exp0 (r : Nat) : Int := if r < 4503599627370496 then -1074 else ((r / 4503599627370496 : Nat) : Int) - 1075
theorem mant0_ne {r : Nat} (h : r ≠ 0) : mant0 r ≠ 0 := by unfold mant0; split <;> omega
/-- the normal rung, and the exponent's correction -/
theorem normal_of {r : Nat} (h0 : r ≠ 0) (h1 : r < 4503599627370496) : ∃ r', r' < 9218868437227405312 ∧ 4503599627370496 ≤ r' ∧ r' < 4503599627370496 * 54 ∧ V r' = r * 2 ^ 52 ∧ floatBits .mul .f64 r 4841369599423283200 = some r' := by
  have hl : Nat.log2 r ≤ 51 := by have := (Nat.log2_lt h0 (k := 52)).2 (by simpa using h1); omega
  obtain ⟨r', a, b, c⟩ := rung_of (t := 52) h0 (by omega) (by omega)
  have hV : V 4503599627370496 = 4503599627370496 := by decide
  have hlow : ¬ r' < 4503599627370496 := fun hlt => by
    have e := V_lt hlt
    rw [hV, c] at e
    have : 1 * 2 ^ 52 ≤ r * 2 ^ 52 := Nat.mul_le_mul_right _ (by omega)
    omega
  have hhi : r' < 4503599627370496 * 54 := by
    rw [← V_lt_iff, c]
    have e : V (4503599627370496 * 54) = 4503599627370496 * 2 ^ 53 := by decide
    rw [e]
    have : r * 2 ^ 52 < 4503599627370496 * 2 ^ 52 := Nat.mul_lt_mul_of_pos_right h1 (by decide)
    omega
  refine ⟨r', b, by omega, hhi, c, ?_⟩
  show Ieee.double.mul r 4841369599423283200 = _
  unfold Format.mul
  have hr : rung r = r := Nat.mod_eq_of_lt (by omega)
  have hn : isNeg r = false := by unfold isNeg; rw [Nat.div_eq_of_lt (by omega)]; rfl
  rw [read_small (by rw [hr]; exact h1), hr, hn, show Ieee.double.read 4841369599423283200 = .number false 4503599627370496 0 by rw [read_normal (by decide) (by decide)]; rfl]
  show some (Ieee.double.nearest (false ^^ false) (r * 4503599627370496) (-1074 + 0)) = _
  rw [nearest_exact (r := r') _ b a 0 0 (by omega)]
  · rfl
  · rw [c, show (4503599627370496 : Nat) = 2 ^ 52 by decide]

/-- what math.normalize makes of a rung -/
def Nrm (r r' : Nat) (s : Int) : Prop := r' < 9218868437227405312 ∧ 4503599627370496 ≤ r' ∧ ((r < 4503599627370496 ∧ s = -52 ∧ V r' = r * 2 ^ 52) ∨ (4503599627370496 ≤ r ∧ s = 0 ∧ r' = r))
/-- what math.Frexp makes of it: M times 2 ^ (e - 53) -/
def Frx (r M : Nat) (e : Int) : Prop := Mant M ∧ ∃ s : Nat, s ≤ 52 ∧ M = od (mant0 r) * 2 ^ s ∧ e - 53 + s = exp0 r + v2 (mant0 r)
theorem frx_of {r r' : Nat} {s : Int} (h0 : r ≠ 0) (h : Nrm r r' s) : Frx r (4503599627370496 + r' % 4503599627370496) (s + (((r' / 4503599627370496 : Nat) : Int) - 1022)) := by
  obtain ⟨h1, h2, h3⟩ := h
  have hM : Mant (4503599627370496 + r' % 4503599627370496) := ⟨by omega, by have := Nat.mod_lt r' (show 0 < 4503599627370496 by decide); omega⟩
  obtain ⟨ho1, ho2⟩ := od_spec _ (mant0_ne h0)
  have small : ∀ t, 4503599627370496 + r' % 4503599627370496 = od (mant0 r) * 2 ^ t → t ≤ 52 := fun t e => by
    rcases Nat.lt_or_ge 52 t with h | h
    · have : 2 ^ 53 ≤ 2 ^ t := Nat.pow_le_pow_right (by decide) h
      have h5 : 1 * 2 ^ t ≤ od (mant0 r) * 2 ^ t := Nat.mul_le_mul_right _ (by omega)
      have := hM.hi
      omega
    · exact h
  refine ⟨hM, ?_⟩
  rcases h3 with ⟨ha, rfl, hV⟩ | ⟨ha, rfl, rfl⟩
  · have hm : mant0 r = r := if_pos ha
    have he : exp0 r = -1074 := if_pos ha
    obtain ⟨j, hj⟩ : ∃ j, r' / 4503599627370496 = j + 1 := ⟨r' / 4503599627370496 - 1, by have : 1 ≤ r' / 4503599627370496 := (Nat.le_div_iff_mul_le (by omega)).2 (by omega); omega⟩
    have hVr : V r' = (4503599627370496 + r' % 4503599627370496) * 2 ^ j := by rw [V, if_neg (by omega), hj]; rfl
    have key : (4503599627370496 + r' % 4503599627370496) * 2 ^ j = od (mant0 r) * 2 ^ (v2 (mant0 r) + 52) := by
      rw [← hVr, hV, Nat.pow_add, ← Nat.mul_assoc, ← ho1, hm]
    have hjt : j ≤ v2 (mant0 r) + 52 := (dvd_pow ho2).1 ⟨_, by rw [← key, Nat.mul_comm]⟩
    have hMe : 4503599627370496 + r' % 4503599627370496 = od (mant0 r) * 2 ^ (v2 (mant0 r) + 52 - j) := by
      have : (4503599627370496 + r' % 4503599627370496) * 2 ^ j = (od (mant0 r) * 2 ^ (v2 (mant0 r) + 52 - j)) * 2 ^ j := by
        rw [key, Nat.mul_assoc, ← Nat.pow_add]
        rw [show v2 (mant0 r) + 52 - j + j = v2 (mant0 r) + 52 by omega]
      exact Nat.eq_of_mul_eq_mul_right (Nat.two_pow_pos j) this
    exact ⟨_, small _ hMe, hMe, by rw [he, hj]; omega⟩
  · have hm : mant0 r' = 4503599627370496 + r' % 4503599627370496 := if_neg (by omega)
    have he : exp0 r' = ((r' / 4503599627370496 : Nat) : Int) - 1075 := if_neg (by omega)
    have hMe : 4503599627370496 + r' % 4503599627370496 = od (mant0 r') * 2 ^ v2 (mant0 r') := by rw [← ho1, hm]
    exact ⟨_, small _ hMe, hMe, by rw [he]; omega⟩
def sgn (b : Nat) : List UInt8 := if isNeg b = true then [45] else []
/-- a float's text -/
def textF (b : Nat) : List UInt8 :=
  if isNan b = true then [110, 97, 110] else if rung b = 9218868437227405312 then sgn b ++ [105, 110, 102] else if rung b = 0 then sgn b ++ [48, 112, 48]
  else sgn b ++ Lib.decDigits (od (mant0 (rung b))) ++ [112] ++ Lib.itoa (exp0 (rung b) + v2 (mant0 (rung b)))
theorem val_zero {b : Nat} : val b = 0 ↔ rung b = 0 := by
  unfold val
  have h := V_zero (r := rung b)
  split <;> (rw [← h]; omega)
end Go.Bw.Fl
namespace Go.Proofs.YtjmlknjbhbfneaaGreatDoor
open Go.RowKit Go.Bw Go.Bw.Fl Ieee
set_option linter.unusedVariables false
set_option linter.unusedSimpArgs false
def pw (n : Nat) : Nat := 2 ^ n
def D : Nat := pw 1074
end Go.Proofs.YtjmlknjbhbfneaaGreatDoor
