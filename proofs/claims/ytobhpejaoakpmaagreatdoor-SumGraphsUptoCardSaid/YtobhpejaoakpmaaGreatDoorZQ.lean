/- bridlewayref01.number, by the calculus; canonical numerals. · Plain: the document's way to read a float's text. · bridlewayref01.Parse, by the calculus. · Plain: Read tells the longest beginning that is a value's text. · bridlewayref02.one, quoted, Read, by the calculus. -/
import Derived.Test.YtobhpejaoakpmaaGreatDoorZK
import Derived.Test.YtobhpejaoakpmaaGreatDoorZF
import Derived.Test.YtobhpejaoakpmaaGreatDoorZJ
import Derived.Test.YtobhpejaoakpmaaGreatDoorZA
namespace Go.Proofs.YtobhpejaoakpmaaGreatDoor
open Go.RowKit Go.Bw Go.Bw.Fl
set_option linter.unusedVariables false
set_option linter.unusedSimpArgs false

theorem AllDig.take {l : List UInt8} (h : AllDig l) (i : Nat) : AllDig (l.take i) := fun c hc => h c (List.mem_of_mem_take hc)
theorem getD_mem {l : List UInt8} {i : Nat} (hi : i < l.length) : l.getD i 0 ∈ l := by simp [List.getD, List.getElem?_eq_getElem hi]
end Go.Proofs.YtobhpejaoakpmaaGreatDoor
namespace Go.Proofs.YtobhpejaoakpmaaGreatDoor
open Go.RowKit Go.Bw Go.Bw.Fl
set_option linter.unusedVariables false
set_option linter.unusedSimpArgs false
/-- where the first p is, or the end -/
structure PmAt (t : List UInt8) (i : Nat) : Prop where
  le : i ≤ t.length
  no : (112 : UInt8) ∉ t.take i
  at_ : i < t.length → t.getD i 0 = 112
theorem PmAt.num {M : Nat} {e : Int} {i : Nat} (h : PmAt (numT M e) i) : i = (Lib.decDigits M).length := by
  have hl : (numT M e).length = (Lib.decDigits M).length + 1 + (Lib.itoa e).length := by unfold numT; simp; omega
  rcases Nat.lt_trichotomy i (Lib.decDigits M).length with h1 | h1 | h1
  · exfalso
    have h2 := h.at_ (by omega)
    have h3 : (numT M e).getD i 0 = (Lib.decDigits M).getD i 0 := by unfold numT; simp [List.getD, List.getElem?_append_left h1]
    rw [h3] at h2
    have h4 := getD_mem h1
    rw [h2] at h4
    exact noP h4
  · exact h1
  · exfalso
    refine h.no (List.mem_iff_getElem?.2 ⟨(Lib.decDigits M).length, ?_⟩)
    rw [List.getElem?_take, if_pos h1]
    unfold numT; simp
theorem itoa_cut (e : Int) : Lib.hasPrefix (Lib.itoa e) [45] = decide (e < 0) ∧ Lib.trimPrefix (Lib.itoa e) [45] = Lib.decDigits e.natAbs := by
  obtain ⟨a, _, b⟩ := decDigits_spec e.natAbs
  obtain ⟨c, r, hc, h1, h2⟩ := dig_head a b
  have h := trim_sgn (n := decide (e < 0)) (x := Lib.decDigits e.natAbs) (head_ne ⟨c, r, hc, h1, h2⟩ (.inl (by decide)))
  have e2 : sgnB (decide (e < 0)) ++ Lib.decDigits e.natAbs = Lib.itoa e := by
    rw [itoa_sgn]; unfold sgnB
    by_cases hn : e < 0
    · rw [if_pos (decide_eq_true hn), if_pos hn]
    · rw [if_neg (by simp [hn]), if_neg hn]
  rw [e2] at h; exact h
section
variable {s : List UInt8} {i : Nat} {z : Int} (h0 : s ≠ [110, 97, 110]) (h1 : Lib.trimPrefix s [45] ≠ [105, 110, 102]) (h2 : Lib.trimPrefix s [45] ≠ [48, 112, 48]) (hi : PmAt (Lib.trimPrefix s [45]) i)
include h0 h1 h2 hi
end
/-- the loop's end -/
structure LEnd (m : Nat) (E : Int) (j : Nat) : Prop where
  j0 : j = 0 ∨ (m * 2 ^ (j - 1) < 4503599627370496 ∧ -1074 < E - ((j - 1 : Nat) : Int))
  end_ : ¬ (m * 2 ^ j < 4503599627370496 ∧ -1074 < E - (j : Int))
theorem pow_step (m j : Nat) (h : 0 < j) : m * 2 ^ j = 2 * (m * 2 ^ (j - 1)) := by
  obtain ⟨k, rfl⟩ : ∃ k, j = k + 1 := ⟨j - 1, by omega⟩
  rw [Nat.pow_succ, show k + 1 - 1 = k by omega, ← Nat.mul_assoc]; omega
theorem LEnd.lt {m j : Nat} {E : Int} (h : LEnd m E j) (hm : m ≤ 9007199254740991) : m * 2 ^ j < 9007199254740992 := by
  rcases Nat.eq_zero_or_pos j with h0 | h0
  · subst h0; omega
  · have := pow_step m j h0
    rcases h.j0 with h1 | h1
    · omega
    · omega
end Go.Proofs.YtobhpejaoakpmaaGreatDoor
namespace Go.Proofs.YtobhpejaoakpmaaGreatDoor
open Go.RowKit Go.Bw Go.Bw.Fl
set_option linter.unusedVariables false
set_option linter.unusedSimpArgs false
theorem trim45_t {s : List UInt8} (h : Lib.hasPrefix s [45] = true) : Lib.trimPrefix s [45] = s.drop 1 := by unfold Lib.trimPrefix; rw [if_pos h]; rfl
theorem trim45_f {s : List UInt8} (h : Lib.hasPrefix s [45] = false) : Lib.trimPrefix s [45] = s := by unfold Lib.trimPrefix; rw [if_neg (by rw [h]; simp)]
end Go.Proofs.YtobhpejaoakpmaaGreatDoor
namespace Go.Proofs.YtobhpejaoakpmaaGreatDoor
open Go.RowKit Go.Bw Go.Bw.Fl
set_option linter.unusedVariables false
set_option linter.unusedSimpArgs false
/-- t is the text of v, that is no text in quotes -/
structure IsOne (v : Val) (t : List UInt8) : Prop where
  ok : v.Ok
  right : rightV v = true
  k4 : v.k ≠ 4
  text : textQ v = t
theorem IsOne.inj {u v : Val} {t : List UInt8} (a : IsOne u t) (b : IsOne v t) : u = v := by
  have h1 := read_text a.ok a.right
  have h2 := read_text b.ok b.right
  rw [a.text] at h1
  rw [b.text, h1] at h2
  injection h2 with h2
  injection h2
theorem textQ_eq {k n : Int} {f : Nat} {s : List UInt8} (hr : rightV ⟨k, n, f, s⟩ = true) : textQ ⟨k, n, f, s⟩ = if k = 1 then (if (n == 1) = true then [116, 114, 117, 101] else [102, 97, 108, 115, 101]) else if k = 2 then Lib.itoa n else if k = 3 then textF f else if k = 4 then quoteV s else [110, 117, 108, 108] := by
  unfold textQ textV
  rw [if_neg (by rw [hr]; simp)]
  simp only
  split
  · rfl
  split
  · rfl
  split
  · rfl
  split <;> rfl
inductive OneIs (v : Val) (t : List UInt8) : Prop
  | null (hv : v = nullV) (ht : t = wNull)
  | true (hv : v = truthV Bool.true) (ht : t = wTrue)
  | false (hv : v = truthV Bool.false) (ht : t = wFalse)
  | int (n : Int) (h0 : -9223372036854775808 ≤ n) (h1 : n ≤ 9223372036854775807) (hv : v = ⟨2, n, 0, []⟩) (ht : t = Lib.itoa n)
  | float (f : Nat) (hf : Cn f) (hv : v = ⟨3, 0, f, []⟩) (ht : t = textF f)
theorem IsOne.is {v : Val} {t : List UInt8} (a : IsOne v t) : OneIs v t := by
  obtain ⟨o, hr, h4, ht⟩ := a
  obtain ⟨k, n, f, s⟩ := v
  rw [textQ_eq hr] at ht
  have h := hr
  unfold rightV at h
  simp only at h h4
  by_cases k0 : k = 0
  · subst k0
    rw [if_pos rfl] at h
    obtain ⟨rfl, rfl, rfl⟩ := of_decide_eq_true h
    exact .null rfl ht.symm
  rw [if_neg k0] at h
  by_cases k1 : k = 1
  · subst k1
    rw [if_pos rfl] at h ht
    obtain ⟨hn, rfl, rfl⟩ := of_decide_eq_true h
    rcases hn with rfl | rfl
    · exact .false rfl ht.symm
    · exact .true rfl ht.symm
  rw [if_neg k1] at h ht
  by_cases k2 : k = 2
  · subst k2
    rw [if_pos rfl] at h ht
    obtain ⟨rfl, rfl⟩ := of_decide_eq_true h
    exact .int n o.n0 o.n1 rfl ht.symm
  rw [if_neg k2] at h ht
  by_cases k3 : k = 3
  · subst k3
    rw [if_pos rfl] at h ht
    obtain ⟨rfl, rfl, hc⟩ := of_decide_eq_true h
    exact .float f ⟨o.f1, hc⟩ rfl ht.symm
  rw [if_neg k3, if_neg h4] at h
  cases h
end Go.Proofs.YtobhpejaoakpmaaGreatDoor
namespace Go.Proofs.YtobhpejaoakpmaaGreatDoor
open Go.RowKit Go.Bw Go.Bw.Fl
set_option linter.unusedVariables false
set_option linter.unusedSimpArgs false
/-- what one tells -/
def OneV (s : List UInt8) (u : Val) (ok : Bool) : Prop := (ok = true ∧ IsOne u s) ∨ (ok = false ∧ u = nullV ∧ ∀ v, ¬ IsOne v s)
theorem OneV.ok {s : List UInt8} {u : Val} {ok : Bool} (h : OneV s u ok) : u.Ok := by
  rcases h with ⟨_, h⟩ | ⟨_, h, _⟩
  · exact h.ok
  · rw [h]; exact ⟨by decide, by decide, by decide⟩
/-- the digits of s from its sign on -/
def sgl (s : List UInt8) : Nat := if Lib.hasPrefix s [45] = true then 1 else 0
theorem itoa_sgl (n : Int) : sgl (Lib.itoa n) = (if n < 0 then 1 else 0) ∧ (Lib.itoa n).drop (sgl (Lib.itoa n)) = Lib.decDigits n.natAbs := by
  obtain ⟨h1, h2⟩ := itoa_cut n
  unfold sgl
  rw [h1]
  by_cases hn : n < 0
  · rw [if_pos (decide_eq_true hn), if_pos hn]
    refine ⟨rfl, ?_⟩
    rw [← h2, trim45_t (by rw [h1]; exact decide_eq_true hn)]
  · rw [if_neg (by simp [hn]), if_neg hn]
    refine ⟨rfl, ?_⟩
    rw [← h2, trim45_f (by rw [h1]; exact decide_eq_false hn)]; rfl
/-- what the loop holds of a whole number's text: the negative of the digits so far -/
def Acc (s : List UInt8) (i : Nat) (z : Int) : Prop := ∀ n, -9223372036854775808 ≤ n → n ≤ 9223372036854775807 → s = Lib.itoa n → z = -((dval 0 ((s.take i).drop (sgl s)) : Nat) : Int) ∧ dval 0 ((s.take i).drop (sgl s)) ≤ n.natAbs
theorem Acc.skip {s : List UInt8} (h : Lib.hasPrefix s [45] = true) : Acc s 1 0 := fun n _ _ _ => by
  have : sgl s = 1 := if_pos h
  rw [this, List.drop_eq_nil_of_le (List.length_take_le 1 s)]; exact ⟨rfl, Nat.zero_le _⟩
theorem Acc.done {s : List UInt8} {z : Int} (h : Acc s s.length z) {n : Int} (h0 : -9223372036854775808 ≤ n) (h1 : n ≤ 9223372036854775807) (hs : s = Lib.itoa n) : z = -(n.natAbs : Int) ∧ (sgl s = 1 ↔ n < 0) := by
  obtain ⟨e1, _⟩ := h n h0 h1 hs
  have hall : dval 0 (s.drop (sgl s)) = n.natAbs := by
    conv => lhs; rw [hs, (itoa_sgl n).2]
    exact (decDigits_spec n.natAbs).2.1
  rw [List.take_length, hall] at e1
  refine ⟨e1, ?_⟩
  rw [hs, (itoa_sgl n).1]
  by_cases hn : n < 0
  · rw [if_pos hn]; simp [hn]
  · rw [if_neg hn]; simp [hn]
end Go.Proofs.YtobhpejaoakpmaaGreatDoor
