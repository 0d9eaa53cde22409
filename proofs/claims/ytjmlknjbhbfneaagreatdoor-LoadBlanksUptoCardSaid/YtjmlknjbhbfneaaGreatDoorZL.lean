/- Plain: what lex tells. · lex.letters, slices.Contains, slices.IndexFunc, label.Word at letters, by the calculus. -/
import Derived.Test.YtjmlknjbhbfneaaGreatDoorZG
import Derived.Test.YtjmlknjbhbfneaaGreatDoorZA
namespace Go.Proofs.YtjmlknjbhbfneaaGreatDoor
open Go.RowKit Go.Bw Go.Bw.Fl
set_option linter.unusedVariables false
set_option linter.unusedSimpArgs false
/-- a letter, a digit or _ -/
def isLet (c : UInt8) : Bool := decide (c.toNat = 95 ∨ (48 ≤ c.toNat ∧ c.toNat ≤ 57) ∨ (97 ≤ bits .or .u8 (c.toNat : Int) 32 ∧ bits .or .u8 (c.toNat : Int) 32 ≤ 122))
/-- a word (of letters, digits and _) -/
def wordV (s : List UInt8) : Bool := decide (s ≠ [] ∧ s.length ≤ 40 ∧ ¬ (48 ≤ (s.getD 0 0).toNat ∧ (s.getD 0 0).toNat ≤ 57))
/-- is a text a word? -/
def wordA (s : List UInt8) : Bool := wordV s && s.all isLet
def blank (c : UInt8) : Bool := decide (c ∈ ([32, 9, 13, 10] : List UInt8))
end Go.Proofs.YtjmlknjbhbfneaaGreatDoor
namespace Go.Proofs.YtjmlknjbhbfneaaGreatDoor
open Go.RowKit Go.Bw Go.Bw.Fl
set_option linter.unusedVariables false
set_option linter.unusedSimpArgs false
/-- the texts in a row -/
def strs (l : List (List UInt8)) : List Value := l.map str
theorem strs_val {l : List (List UInt8)} {i : Nat} {v : Value} (hi : i < l.length) (h : (strs l)[i]? = some v) : v = str (l.getD i []) := by
  simp [strs, List.getElem?_eq_getElem hi] at h
  simp [List.getD, List.getElem?_eq_getElem hi, ← h]
theorem isLet_iff {c : UInt8} (h : isLet c = true) : c.toNat = 95 ∨ (48 ≤ c.toNat ∧ c.toNat ≤ 57) ∨ (65 ≤ c.toNat ∧ c.toNat ≤ 90) ∨ (97 ≤ c.toNat ∧ c.toNat ≤ 122) := by
  have key : ∀ n : Fin 256, isLet (UInt8.ofNat n.val) = true → n.val = 95 ∨ (48 ≤ n.val ∧ n.val ≤ 57) ∨ (65 ≤ n.val ∧ n.val ≤ 90) ∨ (97 ≤ n.val ∧ n.val ≤ 122) := by decide +kernel
  have h2 := key ⟨c.toNat, UInt8.toNat_lt c⟩
  rw [show UInt8.ofNat c.toNat = c from UInt8.ofNat_toNat] at h2
  exact h2 h
end Go.Proofs.YtjmlknjbhbfneaaGreatDoor
