/- Plain: numerals and floats' texts read back. -/
import Derived.Test.YtcljmclolpgdmaaGreatDoorNumB
import Derived.Test.YtcljmclolpgdmaaGreatDoorRefA
import Derived.Lib.IndexLaws
import Derived.Lib.AtoiAllCases
namespace Go.Bw.Fl
open Ieee Go
set_option linter.unusedVariables false
set_option linter.unusedSimpArgs false
/-! ### numerals -/
def dval (n : Nat) : List UInt8 → Nat
  | [] => n
  | c :: r => dval (n * 10 + (c.toNat - 48)) r
def AllDig (l : List UInt8) : Prop := ∀ c, c ∈ l → 48 ≤ c.toNat ∧ c.toNat ≤ 57
theorem dval_append (b : List UInt8) : ∀ (a : List UInt8) (n : Nat), dval n (a ++ b) = dval (dval n a) b
  | [], _ => rfl
  | c :: r, n => dval_append b r _
theorem dval_ge : ∀ (l : List UInt8) (n : Nat), n ≤ dval n l
  | [], n => Nat.le_refl n
  | c :: r, n => Nat.le_trans (by omega) (dval_ge r (n * 10 + (c.toNat - 48)))
theorem dig_toNat {k : Nat} (h : k < 10) : (UInt8.ofNat (48 + k)).toNat = 48 + k := by
  rw [UInt8.toNat_ofNat']; exact Nat.mod_eq_of_lt (by omega)
theorem decDigits_spec (u : Nat) : AllDig (Lib.decDigits u) ∧ dval 0 (Lib.decDigits u) = u ∧ Lib.decDigits u ≠ [] := by
  induction u using Nat.strongRecOn with
  | ind u ih =>
    by_cases h : u < 10
    · rw [Lib.decDigits_one h]
      refine ⟨fun c hc => ?_, ?_, by simp⟩
      · rw [List.mem_singleton.1 hc, dig_toNat h]; omega
      · show 0 * 10 + ((UInt8.ofNat (48 + u)).toNat - 48) = u
        rw [dig_toNat h]; omega
    · obtain ⟨h1, h2, h3⟩ := ih (u / 10) (by omega)
      rw [Lib.decDigits, dif_neg h]
      refine ⟨fun c hc => ?_, ?_, by simp⟩
      · rcases List.mem_append.1 hc with hc | hc
        · exact h1 c hc
        · rw [List.mem_singleton.1 hc, dig_toNat (by omega)]; omega
      · rw [dval_append, h2]
        show u / 10 * 10 + ((UInt8.ofNat (48 + u % 10)).toNat - 48) = u
        rw [dig_toNat (by omega)]; omega
theorem dval_take {l : List UInt8} {i : Nat} (h : i < l.length) : dval 0 (l.take (i + 1)) = dval 0 (l.take i) * 10 + ((l.getD i 0).toNat - 48) := by
  have e : l.take (i + 1) = l.take i ++ [l.getD i 0] := by rw [List.take_add_one, List.getElem?_eq_getElem h]; simp [List.getD, List.getElem?_eq_getElem h]
  rw [e, dval_append]; rfl
theorem dval_take_le (l : List UInt8) (i : Nat) : dval 0 (l.take i) ≤ dval 0 l := by
  have := dval_append (l.drop i) (l.take i) 0
  rw [List.take_append_drop] at this
  rw [this]; exact dval_ge _ _
theorem parse10 : ∀ (l : List UInt8) (n : Nat), AllDig l → dval n l < 18446744073709551616 → Lib.parseUint10 n l = .ok (dval n l)
  | [], _, _, _ => rfl
  | c :: r, n, ha, hl => by
    have hc := ha c (List.mem_cons_self ..)
    have hg := dval_ge r (n * 10 + (c.toNat - 48))
    have hl' : dval (n * 10 + (c.toNat - 48)) r < 18446744073709551616 := hl
    rw [Lib.parseUint10, if_pos hc, if_neg (by omega), if_neg (by omega)]
    exact parse10 r _ (fun x hx => ha x (List.mem_cons_of_mem _ hx)) hl'
theorem parseMag_dec {u : Nat} (h : u < 18446744073709551616) : Lib.parseMag (Lib.decDigits u) = .ok u := by
  obtain ⟨h1, h2, h3⟩ := decDigits_spec u
  rw [Lib.parseMag, if_neg h3, parse10 _ _ h1 (by rw [h2]; exact h), h2]
theorem atoi_itoa {e : Int} (h0 : -9223372036854775808 ≤ e) (h1 : e ≤ 9223372036854775807) : Lib.atoiAll (Lib.itoa e) = .ok e := by
  unfold Lib.itoa
  by_cases h : e < 0
  · rw [if_pos h, Lib.atoiAll_minus, parseMag_dec (by omega)]
    show (if 9223372036854775808 < e.natAbs then Lib.NumEnd.range else Lib.NumEnd.ok (-(e.natAbs : Int))) = _
    rw [if_neg (by omega)]; congr 1; omega
  · rw [if_neg h]
    obtain ⟨a, b, c⟩ := decDigits_spec e.toNat
    cases hd : Lib.decDigits e.toNat with
    | nil => exact absurd hd c
    | cons x r =>
      have hx := a x (by rw [hd]; exact List.mem_cons_self ..)
      rw [Lib.atoiAll_plain x r (by omega) (by omega), ← hd, parseMag_dec (by omega)]
      show (if 9223372036854775808 ≤ e.toNat then Lib.NumEnd.range else Lib.NumEnd.ok (e.toNat : Int)) = _
      rw [if_neg (by omega)]; congr 1; omega
theorem index_mid {a b : List UInt8} {c : UInt8} (h : c ∉ a) : Lib.indexByte (a ++ c :: b) c = (a.length : Nat) := by
  induction a with
  | nil => show (if (c == c) = true then (0 : Int) else _) = _; simp
  | cons x r ih =>
    have hx : x ≠ c := fun e => h (by rw [e]; exact List.mem_cons_self ..)
    have ih' := ih (fun m => h (List.mem_cons_of_mem _ m))
    show (if (x == c) = true then (0 : Int) else if (Lib.indexByte (r ++ c :: b) c == -1) = true then -1 else Lib.indexByte (r ++ c :: b) c + 1) = _
    rw [if_neg (by simpa using hx), ih', if_neg (by simp)]
    simp
theorem noP {u : Nat} : (112 : UInt8) ∉ Lib.decDigits u := fun h => by
  have := (decDigits_spec u).1 _ h
  have e : (112 : UInt8).toNat = 112 := rfl
  omega

/-! ### powers -/
theorem pow_cancel {a b k : Nat} (h : a * 2 ^ k = b * 2 ^ k) : a = b := Nat.eq_of_mul_eq_mul_right (Nat.two_pow_pos k) h
theorem pow_cmp {a b p q : Nat} (h : a * 2 ^ p = b * 2 ^ q) (ha : 4503599627370496 ≤ a) (hb : b < 9007199254740992) : p ≤ q := by
  rcases Nat.lt_or_ge q p with hlt | hge
  · exfalso
    have e : a * 2 ^ p = a * 2 * 2 ^ (p - q - 1) * 2 ^ q := by
      rw [Nat.mul_assoc (a * 2), ← Nat.pow_add, Nat.mul_assoc a 2, ← Nat.pow_succ']; congr 2; omega
    rw [e] at h
    have h2 := pow_cancel h
    have h3 : 1 ≤ 2 ^ (p - q - 1) := Nat.one_le_two_pow
    have h4 : a * 2 * 1 ≤ a * 2 * 2 ^ (p - q - 1) := Nat.mul_le_mul_left _ h3
    omega
  · exact hge
theorem pow_small {a b p q : Nat} (h : a * 2 ^ p = b * 2 ^ q) (ha : a < 9007199254740992) (hb : b ≠ 0) : q < p + 53 := by
  rcases Nat.lt_or_ge q (p + 53) with hlt | hge
  · exact hlt
  · exfalso
    have e : b * 2 ^ q = b * 2 ^ (q - p) * 2 ^ p := by rw [Nat.mul_assoc, ← Nat.pow_add]; congr 2; omega
    rw [e] at h
    have h2 := pow_cancel h
    have h3 : 2 ^ 53 ≤ 2 ^ (q - p) := Nat.pow_le_pow_right (by decide) (by omega)
    have h4 : 1 * 2 ^ (q - p) ≤ b * 2 ^ (q - p) := Nat.mul_le_mul_right _ (by omega)
    have h5 : (2 : Nat) ^ 53 = 9007199254740992 := by decide
    omega
theorem V_form {r : Nat} (h : r < 9218868437227405312) : ∃ m e, V r = m * 2 ^ e ∧ m < 9007199254740992 ∧ e ≤ 2045 ∧ (4503599627370496 ≤ r → 4503599627370496 ≤ m ∧ e = r / 4503599627370496 - 1 ∧ m = 4503599627370496 + r % 4503599627370496) := by
  by_cases hs : r < 4503599627370496
  · exact ⟨r, 0, by rw [V, if_pos hs]; simp, by omega, by omega, fun h => by omega⟩
  · exact ⟨4503599627370496 + r % 4503599627370496, r / 4503599627370496 - 1, by rw [V, if_neg hs], by omega, by omega, fun _ => ⟨by omega, rfl, rfl⟩⟩
theorem V_mant0 {r : Nat} : V r = mant0 r * 2 ^ (exp0 r + 1074).toNat := by
  unfold V mant0 exp0
  split
  · simp
  · congr 2; omega

/-! ### Ldexp -/
/-- f is r times 2 to the power of k -/
def Exact (r : Nat) (k : Int) (f : Nat) : Prop := ∃ t u : Nat, k = (t : Int) - (u : Int) ∧ V r * 2 ^ t = V f * 2 ^ u
theorem ldmul {x m j : Nat} (h0 : 4503599627370496 ≤ x) (h1 : x < 9218868437227405312) (hm : (m = 4607182418800017408 ∧ j = 0) ∨ (m = 4368491638549381120 ∧ j = 53)) :
    ∃ r, floatBits .mul .f64 m x = some r ∧ r < 18446744073709551616 ∧ ∀ f, f ≠ 0 → f < 9218868437227405312 → V f * 2 ^ j = V x → r = f := by
  have hrm : Ieee.double.read m = .number false 4503599627370496 (-52 - (j : Int)) := by
    rcases hm with ⟨rfl, rfl⟩ | ⟨rfl, rfl⟩
    · rw [read_normal (by decide) (by decide)]; rfl
    · rw [read_normal (by decide) (by decide)]; rfl
  have hx : rung x = x := Nat.mod_eq_of_lt (by omega)
  have hn : isNeg x = false := by unfold isNeg; rw [Nat.div_eq_of_lt (by omega)]; rfl
  have hrx : Ieee.double.read x = .number false (4503599627370496 + x % 4503599627370496) (((x / 4503599627370496 : Nat) : Int) - 1075) := by
    rw [read_normal (by rw [hx]; exact h0) (by rw [hx]; exact h1), hx, hn]
    congr 1; omega
  have hmul : floatBits .mul .f64 m x = some (Ieee.double.nearest (false ^^ false) (4503599627370496 * (4503599627370496 + x % 4503599627370496)) (-52 - (j : Int) + (((x / 4503599627370496 : Nat) : Int) - 1075))) := by
    show Ieee.double.mul m x = _
    unfold Format.mul
    rw [hrm, hrx]; rfl
  refine ⟨_, hmul, by simpa [Lit.wf] using floatBits_wf hmul, fun f hf0 hf1 hV => ?_⟩
  rw [nearest_exact (r := f) _ hf1 hf0 (x / 4503599627370496 - 1) (52 + j) (by omega)]
  · rfl
  · have hvx : V x = (4503599627370496 + x % 4503599627370496) * 2 ^ (x / 4503599627370496 - 1) := by rw [V, if_neg (by omega)]
    rw [Nat.mul_assoc, ← hvx, ← hV, Nat.pow_add, show (4503599627370496 : Nat) = 2 ^ 52 by decide, Nat.mul_comm (2 ^ 52) (V f * 2 ^ j), Nat.mul_assoc, Nat.mul_comm (2 ^ j)]
/-- where the exponent is below all floats: none -/
theorem exact_low {r f : Nat} {k : Int} (h0 : 4503599627370496 ≤ r) (h1 : r < 9218868437227405312) (hf : f ≠ 0) (h : Exact r k f) : -52 ≤ ((r / 4503599627370496 : Nat) : Int) + k := by
  obtain ⟨t, u, hk, hv⟩ := h
  obtain ⟨m, e, hV, hm, he, hb⟩ := V_form h1
  obtain ⟨b1, b2, b3⟩ := hb h0
  rw [hV, Nat.mul_assoc, ← Nat.pow_add] at hv
  have := pow_small hv hm (fun h => hf (V_zero.1 h))
  omega
theorem exact_high {r f : Nat} {k : Int} (h0 : 4503599627370496 ≤ r) (h1 : r < 9218868437227405312) (hf : f < 9218868437227405312) (h : Exact r k f) : ((r / 4503599627370496 : Nat) : Int) + k ≤ 2046 := by
  obtain ⟨t, u, hk, hv⟩ := h
  obtain ⟨m, e, hV, hm, he, hb⟩ := V_form h1
  obtain ⟨b1, b2, b3⟩ := hb h0
  obtain ⟨m', e', hV', hm', he', _⟩ := V_form hf
  rw [hV, hV', Nat.mul_assoc, Nat.mul_assoc, ← Nat.pow_add, ← Nat.pow_add] at hv
  have := pow_cmp hv b1 hm'
  omega
theorem exact_mid {r f j : Nat} {k : Int} (h0 : 4503599627370496 ≤ r) (h1 : r < 9218868437227405312) (h : Exact r k f) (hE : 1 ≤ ((r / 4503599627370496 : Nat) : Int) + k + j) :
    V f * 2 ^ j = V (r % 4503599627370496 + (((r / 4503599627370496 : Nat) : Int) + k + j).toNat * 4503599627370496) := by
  obtain ⟨t, u, hk, hv⟩ := h
  obtain ⟨m, e, hV, hm, he, hb⟩ := V_form h1
  obtain ⟨b1, b2, b3⟩ := hb h0
  generalize hq : (((r / 4503599627370496 : Nat) : Int) + k + j).toNat = q
  have hlt := Nat.mod_lt r (show 0 < 4503599627370496 by decide)
  have hq1 : 1 ≤ q := by omega
  rw [show V (r % 4503599627370496 + q * 4503599627370496) = _ from if_neg (by omega), show (r % 4503599627370496 + q * 4503599627370496) % 4503599627370496 = r % 4503599627370496 by omega, show (r % 4503599627370496 + q * 4503599627370496) / 4503599627370496 = q by omega, ← b3]
  apply pow_cancel (k := u)
  rw [Nat.mul_right_comm, ← hv, hV, Nat.mul_assoc m, Nat.mul_assoc m, Nat.mul_assoc m, ← Nat.pow_add, ← Nat.pow_add, ← Nat.pow_add]
  congr 2; omega
theorem exact_zero {r f : Nat} {k : Int} (h : Exact r k f) (hf : f = 0) : r = 0 := by
  obtain ⟨t, u, _, hv⟩ := h
  subst hf
  rw [show V 0 = 0 by decide, Nat.zero_mul] at hv
  rcases Nat.mul_eq_zero.1 hv with h | h
  · exact V_zero.1 h
  · exact absurd h (Nat.ne_of_gt (Nat.two_pow_pos t))
theorem V00 (p : Nat) : V 0 = 0 * p := by rw [Nat.zero_mul]; decide
/-- a whole number as a float -/
theorem f_of0 {n : Nat} (h : n < 9007199254740992) (p : Nat) (hp : p = 1074) : ∃ r, FloatKind.f64.nearest (n : Int) = r ∧ (r = 0 ∨ (4503599627370496 ≤ r ∧ r < 9218868437227405312)) ∧ V r = n * 2 ^ p := by
  have e0 : FloatKind.f64.nearest (n : Int) = Ieee.double.nearest false n 0 := by
    show Ieee.double.write (.number (decide ((n : Int) < 0)) (n : Int).natAbs 0) = _
    rw [decide_eq_false (by omega), Int.natAbs_natCast]; rfl
  rw [e0]
  by_cases h0 : n = 0
  · subst h0; exact ⟨0, by rw [nearest_zero]; rfl, .inl rfl, V00 _⟩
  · have hl : Nat.log2 n ≤ 52 := by have := (Nat.log2_lt h0 (k := 53)).2 (by simpa using h); omega
    obtain ⟨r, r0, r1, r2⟩ := rung_of (t := p) h0 h (by omega)
    refine ⟨r, ?_, .inr ⟨?_, r1⟩, r2⟩
    · rw [nearest_exact (r := r) _ r1 r0 p 0 (by omega) (by rw [r2, Nat.pow_zero, Nat.mul_one])]; rfl
    · rcases Nat.lt_or_ge r 4503599627370496 with hlt | hge
      · exfalso
        have e : V r = r := if_pos hlt
        have h5 : 2 ^ 52 ≤ 2 ^ p := Nat.pow_le_pow_right (by decide) (by omega)
        have h6 : 1 * 2 ^ p ≤ n * 2 ^ p := Nat.mul_le_mul_right _ (by omega)
        have h7 : (2 : Nat) ^ 52 = 4503599627370496 := by decide
        rw [r2] at e
        generalize 2 ^ p = q at *
        omega
      · exact hge
theorem f_of {n : Nat} (h : n < 9007199254740992) : ∃ r, FloatKind.f64.nearest (n : Int) = r ∧ (r = 0 ∨ (4503599627370496 ≤ r ∧ r < 9218868437227405312)) ∧ V r = n * 2 ^ 1074 := f_of0 h 1074 rfl
end Go.Bw.Fl
