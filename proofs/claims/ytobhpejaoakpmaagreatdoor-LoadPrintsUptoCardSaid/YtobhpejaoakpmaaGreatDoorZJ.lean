/- Plain: how a text is quoted; digits; whole numbers' texts are read. · Plain: what is written is read, and what is read is written. -/
import Derived.Test.YtobhpejaoakpmaaGreatDoorZG
import Derived.Test.YtobhpejaoakpmaaGreatDoorZH
namespace Go.Proofs.YtobhpejaoakpmaaGreatDoor
open Go.RowKit Go.Bw Go.Bw.Fl
set_option linter.unusedVariables false
set_option linter.unusedSimpArgs false
def qc (c : UInt8) : List UInt8 := if c = 92 then [92, 92] else if c = 39 then [92, 39] else if c = 10 then [92, 110] else [c]
def quoteV (s : List UInt8) : List UInt8 := 39 :: (s.flatMap qc ++ [39])
theorem qc_len (s : List UInt8) : (s.flatMap qc).length ≤ 2 * s.length := by
  induction s with
  | nil => simp
  | cons c r ih =>
    rw [List.flatMap_cons, List.length_append, List.length_cons]
    have : (qc c).length ≤ 2 := by unfold qc; split <;> (try split) <;> (try split) <;> simp
    omega
theorem dd_len : ∀ (k u : Nat), u < 10 ^ (k + 1) → (Lib.decDigits u).length ≤ k + 1
  | 0, u, h => by
    rw [Lib.decDigits.eq_def u, dif_pos (by simpa using h)]; simp
  | k + 1, u, h => by
    rw [Lib.decDigits.eq_def u]
    split
    · simp
    · have h2 : u / 10 < 10 ^ (k + 1) := by
        rw [Nat.div_lt_iff_lt_mul (by decide), ← Nat.pow_succ]; exact h
      have := dd_len k (u / 10) h2
      simp only [List.length_append, List.length_cons, List.length_nil]; omega
theorem digs_le19 (u : Nat) (h : u ≤ 9223372036854775808) : (Lib.decDigits u).length ≤ 19 := dd_len 18 u (by have h2 : (10 : Nat) ^ (18 + 1) = 10000000000000000000 := (by decide); omega)
end Go.Proofs.YtobhpejaoakpmaaGreatDoor
namespace Go.Proofs.YtobhpejaoakpmaaGreatDoor
open Go.RowKit Go.Bw Go.Bw.Fl
set_option linter.unusedVariables false
set_option linter.unusedSimpArgs false
theorem qc_plain {c : UInt8} (h1 : c ≠ 39) (h2 : c ≠ 10) (h3 : c ≠ 92) : qc c = [c] := by unfold qc; rw [if_neg h3, if_neg h1, if_neg h2]
/-- a value's text -/
def textQ (v : Val) : List UInt8 := (textV (quoteV v.s) v).1
theorem itoa_shape (e : Int) (h0 : -9999 ≤ e) (h1 : e ≤ 9999) : ∃ D, AllDig D ∧ D ≠ [] ∧ D.length ≤ 4 ∧ (Lib.itoa e = D ∨ Lib.itoa e = 45 :: D) := by
  unfold Lib.itoa
  by_cases h : e < 0
  · obtain ⟨a, _, b⟩ := decDigits_spec e.natAbs
    exact ⟨_, a, b, dd_len 3 _ (by show _ < 10000; omega), .inr (if_pos h)⟩
  · obtain ⟨a, _, b⟩ := decDigits_spec e.toNat
    exact ⟨_, a, b, dd_len 3 _ (by show _ < 10000; omega), .inl (if_neg h)⟩
theorem textQ_len {x : Val} (o : x.Ok) (h : rightV x = true) : (textQ x).length ≤ 2 * x.s.length + 60 := by
  obtain ⟨k, n, f, s⟩ := x
  show (textV (quoteV s) ⟨k, n, f, s⟩).1.length ≤ 2 * s.length + 60
  have hf : (textF f).length ≤ 60 := by
    by_cases h1 : isNan f = true
    · rw [text_nan2 h1]; decide
    have h1' : isNan f = false := by simpa using h1
    have hsg : (sgn f).length ≤ 1 := by unfold sgn; split <;> simp
    by_cases h2 : rung f = 9218868437227405312
    · rw [text_inf h1' h2, List.length_append]; simp; omega
    have h6 : rung f ≤ 9218868437227405312 := by simpa [isNan, rung] using h1'
    have hr : rung f < 9218868437227405312 := by omega
    by_cases h3 : rung f = 0
    · rw [text_zero h1' h2 h3, List.length_append]; simp; omega
    rw [text_num h1' h2 h3]
    have hm := mant0_lt hr
    have h7 : (Lib.decDigits (od (mant0 (rung f)))).length ≤ 19 := digs_le19 _ (Nat.le_trans (Nat.div_le_self _ _) (by omega))
    have e1 := exp0_bd hr
    have e2 := v2_le hr h3
    obtain ⟨D, _, _, hl, hi⟩ := itoa_shape (exp0 (rung f) + v2 (mant0 (rung f))) (by omega) (by omega)
    have hil : (Lib.itoa (exp0 (rung f) + v2 (mant0 (rung f)))).length ≤ 5 := by
      rcases hi with hi | hi <;> rw [hi]
      · omega
      · rw [List.length_cons]; omega
    simp only [List.length_append, List.length_cons, List.length_nil]; omega
  have hq : (quoteV s).length ≤ 2 * s.length + 2 := by have := qc_len s; unfold quoteV; simp only [List.length_cons, List.length_append, List.length_nil]; omega
  have hi : (Lib.itoa n).length ≤ 20 := by
    have o0 : -9223372036854775808 ≤ n := o.n0
    have o1 : n ≤ 9223372036854775807 := o.n1
    unfold Lib.itoa
    by_cases h : n < 0
    · rw [if_pos h]; have := digs_le19 n.natAbs (by omega); rw [List.length_cons]; omega
    · rw [if_neg h]; have := digs_le19 n.toNat (by omega); omega
  unfold textV
  simp only
  split
  · simp
  split
  · split <;> simp
  split
  · simp only; omega
  split
  · simp only; omega
  split
  · simp only; omega
  · simp
end Go.Proofs.YtobhpejaoakpmaaGreatDoor
