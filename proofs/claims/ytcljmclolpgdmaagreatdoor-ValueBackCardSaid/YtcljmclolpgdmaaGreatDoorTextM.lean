/- A float's text in plain numbers. -/
import Derived.Test.YtcljmclolpgdmaaGreatDoorFloatM
import Derived.Laws.FloatArith
import Derived.Lib.ItoaNum
namespace Go.Bw.Fl
open Ieee Go

/-! ### odd parts -/
def v2 (m : Nat) : Nat := if h : m ≠ 0 ∧ m % 2 = 0 then v2 (m / 2) + 1 else 0
termination_by m
decreasing_by omega
def od (m : Nat) : Nat := m / 2 ^ v2 m
theorem v2_even {m : Nat} (h0 : m ≠ 0) (h : m % 2 = 0) : v2 m = v2 (m / 2) + 1 := by rw [v2, dif_pos ⟨h0, h⟩]
theorem v2_odd {m : Nat} (h : m % 2 = 1) : v2 m = 0 := by rw [v2, dif_neg (by omega)]
theorem od_spec (m : Nat) (h : m ≠ 0) : m = od m * 2 ^ v2 m ∧ od m % 2 = 1 := by
  induction m using Nat.strongRecOn with
  | ind m ih =>
    by_cases e : m % 2 = 0
    · obtain ⟨h1, h2⟩ := ih (m / 2) (by omega) (by omega)
      have hv := v2_even h e
      have ho : od m = od (m / 2) := by unfold od; rw [hv, Nat.pow_succ, Nat.mul_comm (2 ^ _) 2, ← Nat.div_div_eq_div_mul]
      refine ⟨?_, ho ▸ h2⟩
      rw [ho, hv, Nat.pow_succ, ← Nat.mul_assoc, ← h1]; omega
    · have hv : v2 m = 0 := v2_odd (by omega)
      have ho : od m = m := by unfold od; rw [hv]; simp
      rw [ho, hv]; exact ⟨by simp, by omega⟩
theorem dvd_pow {o t j : Nat} (ho : o % 2 = 1) : 2 ^ j ∣ o * 2 ^ t ↔ j ≤ t := by
  constructor
  · rintro ⟨c, hc⟩
    rcases Nat.lt_or_ge t j with h | h
    · exfalso
      have : o * 2 ^ t = (2 * 2 ^ (j - t - 1) * c) * 2 ^ t := by
        rw [hc, Nat.mul_right_comm, ← Nat.pow_succ', ← Nat.pow_add]; congr 2; omega
      have := Nat.eq_of_mul_eq_mul_right (Nat.two_pow_pos t) this
      rw [Nat.mul_assoc] at this
      omega
    · exact h
  · intro h
    exact ⟨o * 2 ^ (t - j), by rw [Nat.mul_left_comm, ← Nat.pow_add]; congr 2; omega⟩
theorem od_unique {o t : Nat} (ho : o % 2 = 1) : v2 (o * 2 ^ t) = t ∧ od (o * 2 ^ t) = o := by
  have hne : o * 2 ^ t ≠ 0 := Nat.mul_ne_zero (by omega) (Nat.ne_of_gt (Nat.two_pow_pos t))
  obtain ⟨h1, h2⟩ := od_spec _ hne
  have a : v2 (o * 2 ^ t) ≤ t := (dvd_pow ho).1 ⟨od (o * 2 ^ t), h1.trans (Nat.mul_comm _ _)⟩
  have b : t ≤ v2 (o * 2 ^ t) := (dvd_pow h2).1 ⟨o, by rw [Nat.mul_comm (2 ^ t) o]; exact h1.symm⟩
  have e : v2 (o * 2 ^ t) = t := by omega
  refine ⟨e, ?_⟩
  unfold od; rw [e, Nat.mul_div_cancel _ (Nat.two_pow_pos t)]

/-! ### a mantissa times 2 ^ (k - 53) -/
def Wk (k M : Nat) : Nat := (1022 + k) * 4503599627370496 + (M - 4503599627370496)
structure Mant (M : Nat) : Prop where
  lo : 4503599627370496 ≤ M
  hi : M < 9007199254740992
section
variable {M k : Nat}
theorem Wk_div (h : Mant M) : Wk k M / 4503599627370496 = 1022 + k := by have := h.lo; have := h.hi; unfold Wk; omega
theorem Wk_mod (h : Mant M) : Wk k M % 4503599627370496 = M - 4503599627370496 := by have := h.lo; have := h.hi; unfold Wk; omega
theorem Wk_lt (h : Mant M) (hk : k ≤ 60) : Wk k M < 9218868437227405312 := by have := h.lo; have := h.hi; unfold Wk; omega
theorem Wk_rung (h : Mant M) (hk : k ≤ 60) : rung (Wk k M) = Wk k M := Nat.mod_eq_of_lt (by have := Wk_lt h hk; omega)
theorem Wk_neg (h : Mant M) (hk : k ≤ 60) : isNeg (Wk k M) = false := by
  unfold isNeg; rw [Nat.div_eq_of_lt (by have := Wk_lt h hk; omega)]; rfl
theorem Wk_nan (h : Mant M) (hk : k ≤ 60) : isNan (Wk k M) = false := by
  have h1 := Wk_lt h hk
  unfold isNan; rw [Nat.mod_eq_of_lt (by omega)]; simp; omega
theorem V_Wk (h : Mant M) : V (Wk k M) = M * 2 ^ (1021 + k) := by
  have h0 := h.lo
  have h1 : ¬ Wk k M < 4503599627370496 := by unfold Wk; omega
  rw [V, if_neg h1, Wk_div h, Wk_mod h, show 4503599627370496 + (M - 4503599627370496) = M by omega, show 1022 + k - 1 = 1021 + k by omega]
theorem val_Wk (h : Mant M) (hk : k ≤ 60) : val (Wk k M) = ((M * 2 ^ (1021 + k) : Nat) : Int) := by
  unfold val; rw [Wk_neg h hk, Wk_rung h hk, V_Wk h]; rfl
theorem read_Wk (h : Mant M) (hk : k ≤ 60) : Ieee.double.read (Wk k M) = .number false M ((k : Int) - 53) := by
  have h0 := h.lo
  rw [read_normal (by rw [Wk_rung h hk]; unfold Wk; omega) (by rw [Wk_rung h hk]; exact Wk_lt h hk), Wk_neg h hk, Wk_rung h hk, Wk_div h, Wk_mod h]
  rw [show 4503599627370496 + (M - 4503599627370496) = M by omega]
  congr 1; omega
theorem read_two : Ieee.double.read 4611686018427387904 = .number false 4503599627370496 (-51) := by
  rw [read_normal (by decide) (by decide)]; rfl
theorem mul_two (h : Mant M) (hk : k ≤ 59) : floatBits .mul .f64 (Wk k M) 4611686018427387904 = some (Wk (k + 1) M) := by
  show Ieee.double.mul (Wk k M) 4611686018427387904 = _
  unfold Format.mul
  rw [read_Wk h (by omega), read_two]
  show some (Ieee.double.nearest (false ^^ false) (M * 4503599627370496) ((k : Int) - 53 + -51)) = _
  rw [nearest_exact (r := Wk (k + 1) M) _ (Wk_lt h (by omega)) (by unfold Wk; omega) (k + 970) 0 (by omega)]
  · rfl
  · rw [V_Wk h, show (4503599627370496 : Nat) = 2 ^ 52 by decide, Nat.mul_assoc, Nat.mul_assoc, ← Nat.pow_add, ← Nat.pow_add]
    congr 2; omega
theorem cut_floor (way : Toward) (hw : way = .down ∨ way = .zero) {n d : Nat} (hd : d ≤ Nat.log2 n + 2) : way.cut false n d = n / 2 ^ d := by
  unfold Toward.cut
  rw [Nat.min_eq_left hd, Nat.shiftLeft_eq, Nat.one_mul]
  rcases hw with rfl | rfl <;> simp
theorem floor_Wk (h : Mant M) (hk : k ≤ 53) : floorW (Wk k M) = Ieee.double.nearest false (M / 2 ^ (53 - k)) 0 := by
  unfold floorW
  rw [read_Wk h (by omega)]
  show Ieee.double.nearest false (Toward.down.cut false (M <<< ((k : Int) - 53).toNat) (-((k : Int) - 53)).toNat) 0 = _
  have e1 : ((k : Int) - 53).toNat = 0 := by omega
  have e2 : (-((k : Int) - 53)).toNat = 53 - k := by omega
  rw [e1, e2, Nat.shiftLeft_zero, cut_floor .down (.inl rfl) (by rw [log2_mant h.lo h.hi]; omega)]
theorem nearest_whole {q : Nat} (h1 : q < 9007199254740992) : isNan (Ieee.double.nearest false q 0) = false ∧ val (Ieee.double.nearest false q 0) = ((q * 2 ^ 1074 : Nat) : Int) := by
  by_cases h0 : q = 0
  · subst h0; rw [nearest_zero]; decide +kernel
  · have hl : Nat.log2 q ≤ 52 := by have := (Nat.log2_lt h0 (k := 53)).2 (by simpa using h1); omega
    obtain ⟨r, r0, r1, r2⟩ := rung_of (t := 1074) h0 h1 (by omega)
    rw [nearest_exact (r := r) _ r1 r0 1074 0 (by omega) (by rw [r2, Nat.pow_zero, Nat.mul_one])]
    have hn : isNeg (Ieee.double.word false r) = false := isNeg_word (by omega)
    have hr : rung (Ieee.double.word false r) = r := rung_word (by omega)
    constructor
    · unfold isNan; rw [show Ieee.double.word false r % 9223372036854775808 = r from hr]; simp; omega
    · unfold val; rw [hn, hr, r2]; rfl
/-- is it whole? -/
theorem whole_Wk (h : Mant M) (hk : k ≤ 53) : (Ieee.double.order (Wk k M) (floorW (Wk k M)) == some .eq) = decide (2 ^ (53 - k) ∣ M) := by
  have hq : M / 2 ^ (53 - k) < 9007199254740992 := Nat.lt_of_le_of_lt (Nat.div_le_self _ _) h.hi
  obtain ⟨h1, h2⟩ := nearest_whole hq
  rw [eq_val, floor_Wk h hk, h1, Wk_nan h (by omega), h2, val_Wk h (by omega)]
  simp only [Bool.not_false, Bool.true_and]
  apply decide_eq_decide.2
  rw [Int.ofNat_inj]
  constructor
  · intro e
    have e' : M * 2 ^ (1021 + k) = (M / 2 ^ (53 - k) * 2 ^ (53 - k)) * 2 ^ (1021 + k) := by
      rw [e, Nat.mul_assoc, ← Nat.pow_add]; congr 2; omega
    have := Nat.eq_of_mul_eq_mul_right (Nat.two_pow_pos _) e'
    exact ⟨_, by rw [Nat.mul_comm]; exact this⟩
  · rintro ⟨c, rfl⟩
    rw [Nat.mul_div_cancel_left _ (Nat.two_pow_pos _), Nat.mul_comm (2 ^ _) c, Nat.mul_assoc, ← Nat.pow_add]
    congr 2; omega
theorem toInt_num (M : Nat) (i : Int) : (Datum.number false M i).toInt .zero = some (signed false (Toward.zero.cut false (M <<< i.toNat) (-i).toNat) 0) := rfl
theorem toInt_Wk (h : Mant M) (hk : k ≤ 53) : (Datum.number false M ((k : Int) - 53)).toInt .zero = some ((M / 2 ^ (53 - k) : Nat) : Int) := by
  have e1 : ((k : Int) - 53).toNat = 0 := by omega
  have e2 : (-((k : Int) - 53)).toNat = 53 - k := by omega
  rw [toInt_num, e1, e2, Nat.shiftLeft_zero, cut_floor .zero (.inr rfl) (by rw [log2_mant h.lo h.hi]; omega), signed_eq, if_neg (by decide), Nat.pow_zero, Nat.mul_one]
theorem f2i_of {b q : Nat} (h : (Ieee.double.read b).toInt .zero = some (q : Int)) (hq : q < 18446744073709551616) : floatToIntVal .f64 b .u64 = some (q : Int) := by
  have hd : FloatKind.f64.decode b = Ieee.double.read b := rfl
  have hmin : IntKind.u64.min = 0 := by decide
  have hmax : IntKind.u64.max = 18446744073709551615 := by decide
  unfold floatToIntVal
  rw [hd, h]
  show (if _ then _ else _) = _
  rw [hmin, hmax, if_pos ⟨by omega, by omega⟩]
theorem int_Wk (h : Mant M) (hk : k ≤ 53) : floatToIntVal .f64 (Wk k M) .u64 = some ((M / 2 ^ (53 - k) : Nat) : Int) :=
  f2i_of (by rw [read_Wk h (by omega)]; exact toInt_Wk h hk) (Nat.lt_of_le_of_lt (Nat.div_le_self _ _) (by have := h.hi; omega))
end

/-! ### a finite number that is not nought, made normal -/
def mant0 (r : Nat) : Nat := if r < 4503599627370496 then r else 4503599627370496 + r % 4503599627370496
def exp0 (r : Nat) : Int := if r < 4503599627370496 then -1074 else ((r / 4503599627370496 : Nat) : Int) - 1075
theorem mant0_ne {r : Nat} (h : r ≠ 0) : mant0 r ≠ 0 := by unfold mant0; split <;> omega
/-- the normal rung, and the exponent's correction -/
theorem normal_of {r : Nat} (h0 : r ≠ 0) (h1 : r < 4503599627370496) : ∃ r', r' < 9218868437227405312 ∧ 4503599627370496 ≤ r' ∧ r' < 4503599627370496 * 54 ∧ V r' = r * 2 ^ 52 ∧ floatBits .mul .f64 r 4841369599423283200 = some r' := by
  have hl : Nat.log2 r ≤ 51 := by have := (Nat.log2_lt h0 (k := 52)).2 (by simpa using h1); omega
  obtain ⟨r', a, b, c⟩ := rung_of (t := 52) h0 (by omega) (by omega)
  have hV : V 4503599627370496 = 4503599627370496 := by decide
  have hlow : ¬ r' < 4503599627370496 := fun hlt => by
    have e := V_lt hlt
    rw [hV, c] at e
    have : 1 * 2 ^ 52 ≤ r * 2 ^ 52 := Nat.mul_le_mul_right _ (by omega)
    omega
  have hhi : r' < 4503599627370496 * 54 := by
    rw [← V_lt_iff, c]
    have e : V (4503599627370496 * 54) = 4503599627370496 * 2 ^ 53 := by decide
    rw [e]
    have : r * 2 ^ 52 < 4503599627370496 * 2 ^ 52 := Nat.mul_lt_mul_of_pos_right h1 (by decide)
    omega
  refine ⟨r', b, by omega, hhi, c, ?_⟩
  show Ieee.double.mul r 4841369599423283200 = _
  unfold Format.mul
  have hr : rung r = r := Nat.mod_eq_of_lt (by omega)
  have hn : isNeg r = false := by unfold isNeg; rw [Nat.div_eq_of_lt (by omega)]; rfl
  rw [read_small (by rw [hr]; exact h1), hr, hn, show Ieee.double.read 4841369599423283200 = .number false 4503599627370496 0 by rw [read_normal (by decide) (by decide)]; rfl]
  show some (Ieee.double.nearest (false ^^ false) (r * 4503599627370496) (-1074 + 0)) = _
  rw [nearest_exact (r := r') _ b a 0 0 (by omega)]
  · rfl
  · rw [c, show (4503599627370496 : Nat) = 2 ^ 52 by decide]

/-- what math.normalize makes of a rung -/
def Nrm (r r' : Nat) (s : Int) : Prop := r' < 9218868437227405312 ∧ 4503599627370496 ≤ r' ∧ ((r < 4503599627370496 ∧ s = -52 ∧ V r' = r * 2 ^ 52) ∨ (4503599627370496 ≤ r ∧ s = 0 ∧ r' = r))
/-- what math.Frexp makes of it: M times 2 ^ (e - 53) -/
def Frx (r M : Nat) (e : Int) : Prop := Mant M ∧ ∃ s : Nat, s ≤ 52 ∧ M = od (mant0 r) * 2 ^ s ∧ e - 53 + s = exp0 r + v2 (mant0 r)
theorem frx_of {r r' : Nat} {s : Int} (h0 : r ≠ 0) (h : Nrm r r' s) : Frx r (4503599627370496 + r' % 4503599627370496) (s + (((r' / 4503599627370496 : Nat) : Int) - 1022)) := by
  obtain ⟨h1, h2, h3⟩ := h
  have hM : Mant (4503599627370496 + r' % 4503599627370496) := ⟨by omega, by have := Nat.mod_lt r' (show 0 < 4503599627370496 by decide); omega⟩
  obtain ⟨ho1, ho2⟩ := od_spec _ (mant0_ne h0)
  have small : ∀ t, 4503599627370496 + r' % 4503599627370496 = od (mant0 r) * 2 ^ t → t ≤ 52 := fun t e => by
    rcases Nat.lt_or_ge 52 t with h | h
    · have : 2 ^ 53 ≤ 2 ^ t := Nat.pow_le_pow_right (by decide) h
      have h5 : 1 * 2 ^ t ≤ od (mant0 r) * 2 ^ t := Nat.mul_le_mul_right _ (by omega)
      have := hM.hi
      omega
    · exact h
  refine ⟨hM, ?_⟩
  rcases h3 with ⟨ha, rfl, hV⟩ | ⟨ha, rfl, rfl⟩
  · have hm : mant0 r = r := if_pos ha
    have he : exp0 r = -1074 := if_pos ha
    obtain ⟨j, hj⟩ : ∃ j, r' / 4503599627370496 = j + 1 := ⟨r' / 4503599627370496 - 1, by have : 1 ≤ r' / 4503599627370496 := (Nat.le_div_iff_mul_le (by omega)).2 (by omega); omega⟩
    have hVr : V r' = (4503599627370496 + r' % 4503599627370496) * 2 ^ j := by rw [V, if_neg (by omega), hj]; rfl
    have key : (4503599627370496 + r' % 4503599627370496) * 2 ^ j = od (mant0 r) * 2 ^ (v2 (mant0 r) + 52) := by
      rw [← hVr, hV, Nat.pow_add, ← Nat.mul_assoc, ← ho1, hm]
    have hjt : j ≤ v2 (mant0 r) + 52 := (dvd_pow ho2).1 ⟨_, by rw [← key, Nat.mul_comm]⟩
    have hMe : 4503599627370496 + r' % 4503599627370496 = od (mant0 r) * 2 ^ (v2 (mant0 r) + 52 - j) := by
      have : (4503599627370496 + r' % 4503599627370496) * 2 ^ j = (od (mant0 r) * 2 ^ (v2 (mant0 r) + 52 - j)) * 2 ^ j := by
        rw [key, Nat.mul_assoc, ← Nat.pow_add]
        rw [show v2 (mant0 r) + 52 - j + j = v2 (mant0 r) + 52 by omega]
      exact Nat.eq_of_mul_eq_mul_right (Nat.two_pow_pos j) this
    exact ⟨_, small _ hMe, hMe, by rw [he, hj]; omega⟩
  · have hm : mant0 r' = 4503599627370496 + r' % 4503599627370496 := if_neg (by omega)
    have he : exp0 r' = ((r' / 4503599627370496 : Nat) : Int) - 1075 := if_neg (by omega)
    have hMe : 4503599627370496 + r' % 4503599627370496 = od (mant0 r') * 2 ^ v2 (mant0 r') := by rw [← ho1, hm]
    exact ⟨_, small _ hMe, hMe, by rw [he]; omega⟩
def sgn (b : Nat) : List UInt8 := if isNeg b = true then [45] else []
/-- a float's text -/
def textF (b : Nat) : List UInt8 :=
  if isNan b = true then [110, 97, 110] else if rung b = 9218868437227405312 then sgn b ++ [105, 110, 102] else if rung b = 0 then sgn b ++ [48, 112, 48]
  else sgn b ++ Lib.decDigits (od (mant0 (rung b))) ++ [112] ++ Lib.itoa (exp0 (rung b) + v2 (mant0 (rung b)))
theorem val_zero {b : Nat} : val b = 0 ↔ rung b = 0 := by
  unfold val
  have h := V_zero (r := rung b)
  split <;> (rw [← h]; omega)
end Go.Bw.Fl
