/- Plain: how a text is quoted; digits; whole numbers' texts are read. -/
import Derived.Test.YtcljmclolpgdmaaGreatDoorReadL
namespace Go.Proofs.YtcljmclolpgdmaaGreatDoor
open Go.RowKit Go.Bw Go.Bw.Fl
set_option linter.unusedVariables false
set_option linter.unusedSimpArgs false
def qc (c : UInt8) : List UInt8 := if c = 92 then [92, 92] else if c = 39 then [92, 39] else if c = 10 then [92, 110] else [c]
def quoteV (s : List UInt8) : List UInt8 := 39 :: (s.flatMap qc ++ [39])
theorem qc_len (s : List UInt8) : (s.flatMap qc).length ≤ 2 * s.length := by
  induction s with
  | nil => simp
  | cons c r ih =>
    rw [List.flatMap_cons, List.length_append, List.length_cons]
    have : (qc c).length ≤ 2 := by unfold qc; split <;> (try split) <;> (try split) <;> simp
    omega
theorem uq_quoted (x : List UInt8) : ∀ (s : List UInt8) (i : Nat) (a : List UInt8), uqGo (s.flatMap qc ++ 39 :: x) i a = (a ++ s, i + (s.flatMap qc).length + 1)
  | [], i, a => by
    show uqGo (39 :: x) i a = _
    cases x with
    | nil => rw [uqGo, if_pos rfl]; simp
    | cons d r => rw [uqGo, if_pos rfl]; simp
  | c :: r, i, a => by
    have key : ∀ (d e : UInt8), escV d = some e → uqGo (92 :: d :: (r.flatMap qc ++ 39 :: x)) i a = (a ++ e :: r, i + (2 + (r.flatMap qc).length) + 1) := fun d e he => by
      rw [uqGo, if_neg (by decide), if_neg (by decide), if_pos rfl, he]
      show uqGo (r.flatMap qc ++ 39 :: x) (i + 2) (a ++ [e]) = _
      rw [uq_quoted x r (i + 2) (a ++ [e])]
      simp; omega
    rw [List.flatMap_cons]
    by_cases h1 : c = 92
    · subst h1; exact (key 92 92 (by decide)).trans (by show _ = (a ++ 92 :: r, i + ([92, 92] ++ r.flatMap qc).length + 1); simp; omega)
    · by_cases h2 : c = 39
      · subst h2; exact (key 39 39 (by decide)).trans (by show _ = (a ++ 39 :: r, i + ([92, 39] ++ r.flatMap qc).length + 1); simp; omega)
      · by_cases h3 : c = 10
        · subst h3; exact (key 110 10 (by decide)).trans (by show _ = (a ++ 10 :: r, i + ([92, 110] ++ r.flatMap qc).length + 1); simp; omega)
        · have hq : qc c = [c] := by unfold qc; rw [if_neg h1, if_neg h2, if_neg h3]
          rw [hq]
          show uqGo (c :: (r.flatMap qc ++ 39 :: x)) i a = _
          have hih := uq_quoted x r (i + 1) (a ++ [c])
          cases hd : r.flatMap qc ++ 39 :: x with
          | nil => simp at hd
          | cons d t =>
            rw [uqGo, if_neg h2, if_neg h3, if_neg h1, ← hd, hih]
            simp; omega
theorem uqV_quote (s x : List UInt8) : uqV (quoteV s ++ x) = (s, (quoteV s).length) := by
  have e : quoteV s ++ x = 39 :: (s.flatMap qc ++ 39 :: x) := by unfold quoteV; simp
  rw [e]
  show uqGo (s.flatMap qc ++ 39 :: x) 1 [] = _
  rw [uq_quoted]
  unfold quoteV
  simp; omega
/-- digits -/
theorem dig_head {l : List UInt8} (h : AllDig l) (hne : l ≠ []) : ∃ c r, l = c :: r ∧ 48 ≤ c.toNat ∧ c.toNat ≤ 57 := by
  cases l with
  | nil => exact absurd rfl hne
  | cons c r => exact ⟨c, r, rfl, h c (List.mem_cons_self ..)⟩
theorem digs_of {c : UInt8} (h : 48 ≤ c.toNat ∧ c.toNat ≤ 57) : digs.contains c = true := by
  have key : ∀ n : Fin 256, 48 ≤ n.val → n.val ≤ 57 → digs.contains (UInt8.ofNat n.val) = true := by decide +kernel
  have h2 := key ⟨c.toNat, UInt8.toNat_lt c⟩ h.1 h.2
  rw [show UInt8.ofNat c.toNat = c from UInt8.ofNat_toNat] at h2
  exact h2
theorem nDig_all {l : List UInt8} (h : AllDig l) : nDig l = l.length := by
  induction l with
  | nil => rfl
  | cons c r ih => rw [nDig_cons, if_pos (digs_of (h c (List.mem_cons_self ..))), ih (fun x hx => h x (List.mem_cons_of_mem _ hx)), List.length_cons]
theorem pre_no {s w : List UInt8} {c d : UInt8} {r x : List UInt8} (hs : s = c :: r) (hw : w = d :: x) (h : c ≠ d) : Lib.hasPrefix s w = false := by
  subst hs; subst hw
  cases hp : Lib.hasPrefix (c :: r) (d :: x) with
  | false => rfl
  | true =>
    rw [pre_iff] at hp
    obtain ⟨t, ht⟩ := hp
    cases ht; exact absurd rfl h
theorem dd_len : ∀ (k u : Nat), u < 10 ^ (k + 1) → (Lib.decDigits u).length ≤ k + 1
  | 0, u, h => by
    rw [Lib.decDigits.eq_def u, dif_pos (by simpa using h)]; simp
  | k + 1, u, h => by
    rw [Lib.decDigits.eq_def u]
    split
    · simp
    · have h2 : u / 10 < 10 ^ (k + 1) := by
        rw [Nat.div_lt_iff_lt_mul (by decide), ← Nat.pow_succ]; exact h
      have := dd_len k (u / 10) h2
      simp only [List.length_append, List.length_cons, List.length_nil]; omega
theorem digs_le19 (u : Nat) (h : u ≤ 9223372036854775808) : (Lib.decDigits u).length ≤ 19 := dd_len 18 u (by have h2 : (10 : Nat) ^ (18 + 1) = 10000000000000000000 := (by decide); omega)
/-- a whole number's text is read whole -/
theorem read_intV {s : List UInt8} {n : Int} (hs : s = Lib.itoa n) (h0 : -9223372036854775808 ≤ n) (h1 : n ≤ 9223372036854775807) : readV pf uqV s = some (⟨2, n, 0, []⟩, s.length) := by
  have hp : parseI s = some n := by unfold parseI; rw [Lib.parseIntB_64, hs, atoi_itoa h0 h1]
  have hlen : s.length ≤ 20 := by
    rw [hs]
    unfold Lib.itoa
    by_cases h : n < 0
    · rw [if_pos h]
      have := digs_le19 n.natAbs (by omega)
      rw [List.length_cons]; omega
    · rw [if_neg h]
      have := decDigits_le n.toNat (by omega); omega
  have hne : ∃ c r, s = c :: r ∧ (c = 45 ∧ (∃ d r', r = d :: r' ∧ 48 ≤ d.toNat ∧ d.toNat ≤ 57) ∧ AllDig r ∨ (48 ≤ c.toNat ∧ c.toNat ≤ 57) ∧ AllDig s) := by
    rw [hs]
    unfold Lib.itoa
    by_cases h : n < 0
    · rw [if_pos h]
      obtain ⟨a, _, b⟩ := decDigits_spec n.natAbs
      exact ⟨45, _, rfl, .inl ⟨rfl, dig_head a b, a⟩⟩
    · rw [if_neg h]
      obtain ⟨a, _, b⟩ := decDigits_spec n.toNat
      obtain ⟨c, r, e, h2⟩ := dig_head a b
      exact ⟨c, r, e, .inr ⟨h2, a⟩⟩
  obtain ⟨c, r, hcr, hc⟩ := hne
  have hlead : lead s = s.length := by
    rcases hc with ⟨rfl, _, ha⟩ | ⟨h2, ha⟩
    · rw [hcr, lead_minus, nDig_all ha]; simp
    · rw [lead_other (by rw [hcr]; exact pre_no rfl rfl (fun e => by subst e; exact absurd h2.1 (by decide))), nDig_all ha]
  have hno : ∀ (w x : List UInt8) (d : UInt8), w = d :: x → d ≠ 45 → (d.toNat < 48 ∨ 57 < d.toNat) → Lib.hasPrefix s w = false := fun w x d hw h45 hd => by
    refine pre_no hcr hw (fun e => ?_)
    subst e
    rcases hc with ⟨h2, _⟩ | ⟨h2, _⟩
    · exact h45 h2
    · omega
  have hw3 : words3.find? (fun x => Lib.hasPrefix s x) = none := by
    rw [List.find?_eq_none]
    intro x hx
    simp only [words3, List.mem_cons, List.not_mem_nil, or_false] at hx
    rcases hx with rfl | rfl | rfl
    · rw [hno _ _ 110 rfl (by decide) (by decide)]; simp
    · rw [hno _ _ 105 rfl (by decide) (by decide)]; simp
    · have : Lib.hasPrefix s [45, 105, 110, 102] = false := by
        rcases hc with ⟨rfl, ⟨d, r', hd, h3⟩, _⟩ | ⟨h2, _⟩
        · cases hq : Lib.hasPrefix s [45, 105, 110, 102] with
          | false => rfl
          | true =>
            rw [pre_iff] at hq
            obtain ⟨t, ht⟩ := hq
            rw [hcr, hd] at ht
            injection ht with _ ht2
            injection ht2 with ht3 _
            subst ht3; exact absurd h3.2 (by decide)
        · exact pre_no hcr rfl (fun e => by subst e; exact absurd h2.1 (by decide))
      rw [this]; simp
  have hfl : floatAt pf s = none := by
    unfold floatAt
    rw [hlead, List.getElem?_eq_none (Nat.le_refl _)]; rfl
  have hdn : downI s (min (lead s) 20) = some (⟨2, n, 0, []⟩, s.length) := by
    have hpos : 0 < s.length := by rw [hcr]; simp
    rw [hlead, Nat.min_eq_left hlen]
    obtain ⟨j, hj⟩ : ∃ j, s.length = j + 1 := ⟨s.length - 1, by omega⟩
    rw [hj, downI, ← hj, List.take_length, hp]
    simp [hs]
  unfold readV
  rw [hno [39] [] 39 rfl (by decide) (by decide), hno wNull _ 110 rfl (by decide) (by decide), hno wFalse _ 102 rfl (by decide) (by decide), hno wTrue _ 116 rfl (by decide) (by decide), hw3, hfl, hdn]; rfl
end Go.Proofs.YtcljmclolpgdmaaGreatDoor
