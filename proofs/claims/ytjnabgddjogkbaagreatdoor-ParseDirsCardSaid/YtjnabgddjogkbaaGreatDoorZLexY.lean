/- What Lex tells, in the form that the statements use. -/
import Derived.Test.YtjnabgddjogkbaaGreatDoorZLexP
namespace Go.Proofs.YtjnabgddjogkbaaGreatDoor
open Go.RowKit Go.Bw Go.Bw.Fl
set_option linter.unusedVariables false
set_option linter.unusedSimpArgs false

/-- what Lex tells, of a text that is not too long -/
def LxIs (s : List UInt8) (l : List Tok) (i e : Int) : Prop := (e = 2 ∧ l = [] ∧ ∃ k : Nat, i = k ∧ lexV s 0 = .error k) ∨ (e = 0 ∧ i = 0 ∧ lexV s 0 = .ok l)
theorem LxIs.bad {s : List UInt8} {l : List Tok} {i e : Int} (h : LxIs s l i e) (he : e ≠ 0) : e = 2 ∧ l = [] ∧ ∃ k : Nat, i = k ∧ lexV s 0 = .error k := by
  rcases h with h | h
  · exact h
  · exact absurd h.1 he
theorem LxIs.good {s : List UInt8} {l : List Tok} {i e : Int} (h : LxIs s l i e) (he : e = 0) : i = 0 ∧ lexV s 0 = .ok l := by
  rcases h with h | h
  · have := h.1; omega
  · exact h.2
theorem LxIs.err {s : List UInt8} {l : List Tok} {i e : Int} {k : Nat} (h : LxIs s l i e) (hk : lexV s 0 = .error k) : e = 2 ∧ i = k := by
  rcases h with ⟨h1, _, k', h2, h3⟩ | ⟨_, _, h3⟩
  · rw [hk] at h3; cases h3; exact ⟨h1, h2⟩
  · rw [hk] at h3; cases h3
theorem andm (x : Int) (k : Nat) (hk : k ≤ 16) : bits .and .i64 x ((2 ^ k - 1 : Nat) : Int) = (((BitVec.ofInt 64 x).toNat % 2 ^ k : Nat) : Int) := by
  have h1 : 2 ^ k ≤ 2 ^ 16 := Nat.pow_le_pow_right (by decide) hk
  have h0 : 0 < 2 ^ k := Nat.two_pow_pos k
  have e : (2 : Nat) ^ 16 = 65536 := by decide
  have hc : (BitVec.ofInt 64 ((2 ^ k - 1 : Nat) : Int)).toNat = 2 ^ k - 1 := by rw [BitVec.toNat_ofInt]; omega
  show IntKind.i64.wrap ((BitVec.ofInt 64 x &&& BitVec.ofInt 64 ((2 ^ k - 1 : Nat) : Int)).toNat : Int) = _
  have h2 : (BitVec.ofInt 64 x).toNat % 2 ^ k < 2 ^ k := Nat.mod_lt _ h0
  rw [BitVec.toNat_and, hc, Nat.and_two_pow_sub_one_eq_mod, wrap_i64 _ (by omega) (by omega)]
theorem and3 (x : Int) : ∃ n : Nat, bits .and .i64 x 3 = n ∧ n < 4 := ⟨_, andm x 2 (by decide), Nat.mod_lt _ (by decide)⟩
end Go.Proofs.YtjnabgddjogkbaaGreatDoor
