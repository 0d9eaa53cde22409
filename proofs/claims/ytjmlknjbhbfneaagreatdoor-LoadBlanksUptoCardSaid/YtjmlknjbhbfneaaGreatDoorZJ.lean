/- Plain: how a text is quoted; digits; whole numbers' texts are read. · Plain: what is written is read, and what is read is written. -/
import Derived.Test.YtjmlknjbhbfneaaGreatDoorZG
import Derived.Test.YtjmlknjbhbfneaaGreatDoorZH
namespace Go.Proofs.YtjmlknjbhbfneaaGreatDoor
open Go.RowKit Go.Bw Go.Bw.Fl
set_option linter.unusedVariables false
set_option linter.unusedSimpArgs false
def qc (c : UInt8) : List UInt8 := if c = 92 then [92, 92] else if c = 39 then [92, 39] else if c = 10 then [92, 110] else [c]
def quoteV (s : List UInt8) : List UInt8 := 39 :: (s.flatMap qc ++ [39])
theorem qc_len (s : List UInt8) : (s.flatMap qc).length ≤ 2 * s.length := by
  induction s with
  | nil => simp
  | cons c r ih =>
    rw [List.flatMap_cons, List.length_append, List.length_cons]
    have : (qc c).length ≤ 2 := by unfold qc; split <;> (try split) <;> (try split) <;> simp
    omega
theorem uq_quoted (x : List UInt8) : ∀ (s : List UInt8) (i : Nat) (a : List UInt8), uqGo (s.flatMap qc ++ 39 :: x) i a = (a ++ s, i + (s.flatMap qc).length + 1)
  | [], i, a => by
    show uqGo (39 :: x) i a = _
    cases x with
    | nil => rw [uqGo, if_pos rfl]; simp
    | cons d r => rw [uqGo, if_pos rfl]; simp
  | c :: r, i, a => by
    have key : ∀ (d e : UInt8), escV d = some e → uqGo (92 :: d :: (r.flatMap qc ++ 39 :: x)) i a = (a ++ e :: r, i + (2 + (r.flatMap qc).length) + 1) := fun d e he => by
      rw [uqGo, if_neg (by decide), if_neg (by decide), if_pos rfl, he]
      show uqGo (r.flatMap qc ++ 39 :: x) (i + 2) (a ++ [e]) = _
      rw [uq_quoted x r (i + 2) (a ++ [e])]
      simp; omega
    rw [List.flatMap_cons]
    by_cases h1 : c = 92
    · subst h1; exact (key 92 92 (by decide)).trans (by show _ = (a ++ 92 :: r, i + ([92, 92] ++ r.flatMap qc).length + 1); simp; omega)
    · by_cases h2 : c = 39
      · subst h2; exact (key 39 39 (by decide)).trans (by show _ = (a ++ 39 :: r, i + ([92, 39] ++ r.flatMap qc).length + 1); simp; omega)
      · by_cases h3 : c = 10
        · subst h3; exact (key 110 10 (by decide)).trans (by show _ = (a ++ 10 :: r, i + ([92, 110] ++ r.flatMap qc).length + 1); simp; omega)
        · have hq : qc c = [c] := by unfold qc; rw [if_neg h1, if_neg h2, if_neg h3]
          rw [hq]
          show uqGo (c :: (r.flatMap qc ++ 39 :: x)) i a = _
          have hih := uq_quoted x r (i + 1) (a ++ [c])
          cases hd : r.flatMap qc ++ 39 :: x with
          | nil => simp at hd
          | cons d t =>
            rw [uqGo, if_neg h2, if_neg h3, if_neg h1, ← hd, hih]
            simp; omega
theorem uqV_quote (s x : List UInt8) : uqV (quoteV s ++ x) = (s, (quoteV s).length) := by
  have e : quoteV s ++ x = 39 :: (s.flatMap qc ++ 39 :: x) := by unfold quoteV; simp
  rw [e]
  show uqGo (s.flatMap qc ++ 39 :: x) 1 [] = _
  rw [uq_quoted]
  unfold quoteV
  simp; omega
/-- digits -/
theorem dig_head {l : List UInt8} (h : AllDig l) (hne : l ≠ []) : ∃ c r, l = c :: r ∧ 48 ≤ c.toNat ∧ c.toNat ≤ 57 := by
  cases l with
  | nil => exact absurd rfl hne
  | cons c r => exact ⟨c, r, rfl, h c (List.mem_cons_self ..)⟩
theorem digs_of {c : UInt8} (h : 48 ≤ c.toNat ∧ c.toNat ≤ 57) : digs.contains c = true := by
  have key : ∀ n : Fin 256, 48 ≤ n.val → n.val ≤ 57 → digs.contains (UInt8.ofNat n.val) = true := by decide +kernel
  have h2 := key ⟨c.toNat, UInt8.toNat_lt c⟩ h.1 h.2
  rw [show UInt8.ofNat c.toNat = c from UInt8.ofNat_toNat] at h2
  exact h2
theorem nDig_all {l : List UInt8} (h : AllDig l) : nDig l = l.length := by
  induction l with
  | nil => rfl
  | cons c r ih => rw [nDig_cons, if_pos (digs_of (h c (List.mem_cons_self ..))), ih (fun x hx => h x (List.mem_cons_of_mem _ hx)), List.length_cons]
theorem pre_no {s w : List UInt8} {c d : UInt8} {r x : List UInt8} (hs : s = c :: r) (hw : w = d :: x) (h : c ≠ d) : Lib.hasPrefix s w = false := by
  subst hs; subst hw
  cases hp : Lib.hasPrefix (c :: r) (d :: x) with
  | false => rfl
  | true =>
    rw [pre_iff] at hp
    obtain ⟨t, ht⟩ := hp
    cases ht; exact absurd rfl h
theorem dd_len : ∀ (k u : Nat), u < 10 ^ (k + 1) → (Lib.decDigits u).length ≤ k + 1
  | 0, u, h => by
    rw [Lib.decDigits.eq_def u, dif_pos (by simpa using h)]; simp
  | k + 1, u, h => by
    rw [Lib.decDigits.eq_def u]
    split
    · simp
    · have h2 : u / 10 < 10 ^ (k + 1) := by
        rw [Nat.div_lt_iff_lt_mul (by decide), ← Nat.pow_succ]; exact h
      have := dd_len k (u / 10) h2
      simp only [List.length_append, List.length_cons, List.length_nil]; omega
theorem digs_le19 (u : Nat) (h : u ≤ 9223372036854775808) : (Lib.decDigits u).length ≤ 19 := dd_len 18 u (by have h2 : (10 : Nat) ^ (18 + 1) = 10000000000000000000 := (by decide); omega)
/-- a whole number's text is read whole -/
theorem read_intV {s : List UInt8} {n : Int} (hs : s = Lib.itoa n) (h0 : -9223372036854775808 ≤ n) (h1 : n ≤ 9223372036854775807) : readV pf uqV s = some (⟨2, n, 0, []⟩, s.length) := by
  have hp : parseI s = some n := by unfold parseI; rw [Lib.parseIntB_64, hs, atoi_itoa h0 h1]
  have hlen : s.length ≤ 20 := by
    rw [hs]
    unfold Lib.itoa
    by_cases h : n < 0
    · rw [if_pos h]
      have := digs_le19 n.natAbs (by omega)
      rw [List.length_cons]; omega
    · rw [if_neg h]
      have := decDigits_le n.toNat (by omega); omega
  have hne : ∃ c r, s = c :: r ∧ (c = 45 ∧ (∃ d r', r = d :: r' ∧ 48 ≤ d.toNat ∧ d.toNat ≤ 57) ∧ AllDig r ∨ (48 ≤ c.toNat ∧ c.toNat ≤ 57) ∧ AllDig s) := by
    rw [hs]
    unfold Lib.itoa
    by_cases h : n < 0
    · rw [if_pos h]
      obtain ⟨a, _, b⟩ := decDigits_spec n.natAbs
      exact ⟨45, _, rfl, .inl ⟨rfl, dig_head a b, a⟩⟩
    · rw [if_neg h]
      obtain ⟨a, _, b⟩ := decDigits_spec n.toNat
      obtain ⟨c, r, e, h2⟩ := dig_head a b
      exact ⟨c, r, e, .inr ⟨h2, a⟩⟩
  obtain ⟨c, r, hcr, hc⟩ := hne
  have hlead : lead s = s.length := by
    rcases hc with ⟨rfl, _, ha⟩ | ⟨h2, ha⟩
    · rw [hcr, lead_minus, nDig_all ha]; simp
    · rw [lead_other (by rw [hcr]; exact pre_no rfl rfl (fun e => by subst e; exact absurd h2.1 (by decide))), nDig_all ha]
  have hno : ∀ (w x : List UInt8) (d : UInt8), w = d :: x → d ≠ 45 → (d.toNat < 48 ∨ 57 < d.toNat) → Lib.hasPrefix s w = false := fun w x d hw h45 hd => by
    refine pre_no hcr hw (fun e => ?_)
    subst e
    rcases hc with ⟨h2, _⟩ | ⟨h2, _⟩
    · exact h45 h2
    · omega
  have hw3 : words3.find? (fun x => Lib.hasPrefix s x) = none := by
    rw [List.find?_eq_none]
    intro x hx
    simp only [words3, List.mem_cons, List.not_mem_nil, or_false] at hx
    rcases hx with rfl | rfl | rfl
    · rw [hno _ _ 110 rfl (by decide) (by decide)]; simp
    · rw [hno _ _ 105 rfl (by decide) (by decide)]; simp
    · have : Lib.hasPrefix s [45, 105, 110, 102] = false := by
        rcases hc with ⟨rfl, ⟨d, r', hd, h3⟩, _⟩ | ⟨h2, _⟩
        · cases hq : Lib.hasPrefix s [45, 105, 110, 102] with
          | false => rfl
          | true =>
            rw [pre_iff] at hq
            obtain ⟨t, ht⟩ := hq
            rw [hcr, hd] at ht
            injection ht with _ ht2
            injection ht2 with ht3 _
            subst ht3; exact absurd h3.2 (by decide)
        · exact pre_no hcr rfl (fun e => by subst e; exact absurd h2.1 (by decide))
      rw [this]; simp
  have hfl : floatAt pf s = none := by
    unfold floatAt
    rw [hlead, List.getElem?_eq_none (Nat.le_refl _)]; rfl
  have hdn : downI s (min (lead s) 20) = some (⟨2, n, 0, []⟩, s.length) := by
    have hpos : 0 < s.length := by rw [hcr]; simp
    rw [hlead, Nat.min_eq_left hlen]
    obtain ⟨j, hj⟩ : ∃ j, s.length = j + 1 := ⟨s.length - 1, by omega⟩
    rw [hj, downI, ← hj, List.take_length, hp]
    simp [hs]
  unfold readV
  rw [hno [39] [] 39 rfl (by decide) (by decide), hno wNull _ 110 rfl (by decide) (by decide), hno wFalse _ 102 rfl (by decide) (by decide), hno wTrue _ 116 rfl (by decide) (by decide), hw3, hfl, hdn]; rfl
end Go.Proofs.YtjmlknjbhbfneaaGreatDoor
namespace Go.Proofs.YtjmlknjbhbfneaaGreatDoor
open Go.RowKit Go.Bw Go.Bw.Fl
set_option linter.unusedVariables false
set_option linter.unusedSimpArgs false
theorem qc_plain {c : UInt8} (h1 : c ≠ 39) (h2 : c ≠ 10) (h3 : c ≠ 92) : qc c = [c] := by unfold qc; rw [if_neg h3, if_neg h1, if_neg h2]
/-- a value's text -/
def textQ (v : Val) : List UInt8 := (textV (quoteV v.s) v).1
theorem itoa_shape (e : Int) (h0 : -9999 ≤ e) (h1 : e ≤ 9999) : ∃ D, AllDig D ∧ D ≠ [] ∧ D.length ≤ 4 ∧ (Lib.itoa e = D ∨ Lib.itoa e = 45 :: D) := by
  unfold Lib.itoa
  by_cases h : e < 0
  · obtain ⟨a, _, b⟩ := decDigits_spec e.natAbs
    exact ⟨_, a, b, dd_len 3 _ (by show _ < 10000; omega), .inr (if_pos h)⟩
  · obtain ⟨a, _, b⟩ := decDigits_spec e.toNat
    exact ⟨_, a, b, dd_len 3 _ (by show _ < 10000; omega), .inl (if_neg h)⟩
theorem dig_not {D : List UInt8} (h : AllDig D) {r : List UInt8} (hne : D ≠ []) {k : UInt8} (hk : k.toNat < 48 ∨ 57 < k.toNat) : ¬ (D ++ r)[0]? = some k := fun e => by
  obtain ⟨c, x, rfl, h1, h2⟩ := dig_head h hne
  simp only [List.cons_append, List.getElem?_cons_zero, Option.some.injEq] at e
  subst e; omega
theorem read_num {s : List UInt8} {f : Nat} {n : Bool} {M : Nat} {e : Int} (hp : pf s = some f) (hs : s = sgnB n ++ numT M e) (h0 : -9999 ≤ e) (h1 : e ≤ 9999) : readV pf uqV s = some (⟨3, 0, f, []⟩, s.length) := by
  obtain ⟨dm, _, dn⟩ := decDigits_spec M
  obtain ⟨D, ha, hb, hl, hi⟩ := itoa_shape e h0 h1
  have hlead : lead s = (sgnB n).length + (Lib.decDigits M).length := by
    have hd : nDig (numT M e) = (Lib.decDigits M).length := by unfold numT; rw [nDig_app 112 _ (by decide), nDig_all dm]
    rw [hs]
    cases n
    · show lead (numT M e) = _
      obtain ⟨c, r, hc, h2, h3⟩ := numT_head M e
      rw [lead_other (by rw [hc]; exact pre_no rfl rfl (fun e => by subst e; exact absurd h2 (by decide))), hd]; simp [sgnB]
    · show lead (45 :: numT M e) = _
      rw [lead_minus, hd]; simp [sgnB]; omega
  have hsd : s.drop (lead s) = 112 :: Lib.itoa e := by
    rw [hlead, hs]; unfold numT
    rw [← List.append_assoc, List.drop_left' (by rw [List.length_append])]
  have hslen : s.length = lead s + 1 + (Lib.itoa e).length := by
    have := congrArg List.length hsd
    rw [List.length_drop, List.length_cons] at this
    have := lead_le s; omega
  have hat : ∀ k, s[lead s + k]? = (112 :: Lib.itoa e)[k]? := fun k => by rw [← hsd, List.getElem?_drop]
  have hP : s[lead s]? = some 112 := by have := hat 0; simpa using this
  have hK : floatK s + D.length = s.length ∧ s.drop (floatK s) = D := by
    have h2 := hat 1
    simp only [List.getElem?_cons_succ] at h2
    unfold floatK
    rcases hi with hi | hi
    · rw [if_neg (by rw [h2, hi]; have := dig_not ha (r := []) hb (k := 45) (.inl (by decide)); simpa using this)]
      refine ⟨by rw [hslen, hi], ?_⟩
      rw [← List.drop_drop, hsd, hi]; rfl
    · rw [if_pos (by rw [h2, hi]; rfl)]
      refine ⟨by rw [hslen, hi, List.length_cons]; omega, ?_⟩
      rw [← List.drop_drop, hsd, hi]; rfl
  have hM : floatM s = D.length := by unfold floatM; rw [hK.2, nDig_all ha]; omega
  have hpos : 0 < D.length := List.length_pos_iff.2 hb
  have hfl : floatAt pf s = some (⟨3, 0, f, []⟩, s.length) := by
    unfold floatAt
    rw [if_pos hP]
    have ht : pf (s.take (floatK s + floatM s)) = some f := by rw [hM, hK.1, List.take_length]; exact hp
    rw [downF_hit (by rw [ht]; rfl) (by omega), ht, hM, hK.1]; rfl
  have hne : ∃ c r, s = c :: r ∧ (c = 45 ∧ (∃ d r', r = d :: r' ∧ 48 ≤ d.toNat ∧ d.toNat ≤ 57) ∨ (48 ≤ c.toNat ∧ c.toNat ≤ 57)) := by
    obtain ⟨c, r, hc, h2, h3⟩ := numT_head M e
    rw [hs, hc]
    cases n
    · exact ⟨c, r, rfl, .inr ⟨h2, h3⟩⟩
    · exact ⟨45, _, rfl, .inl ⟨rfl, c, r, rfl, h2, h3⟩⟩
  obtain ⟨c, r, hcr, hc⟩ := hne
  have hno : ∀ (w x : List UInt8) (d : UInt8), w = d :: x → d ≠ 45 → (d.toNat < 48 ∨ 57 < d.toNat) → Lib.hasPrefix s w = false := fun w x d hw h45 hd => by
    refine pre_no hcr hw (fun e => ?_)
    subst e
    rcases hc with ⟨h2, _⟩ | h2
    · exact h45 h2
    · omega
  have hw3 : words3.find? (fun x => Lib.hasPrefix s x) = none := by
    rw [List.find?_eq_none]
    intro x hx
    simp only [words3, List.mem_cons, List.not_mem_nil, or_false] at hx
    rcases hx with rfl | rfl | rfl
    · rw [hno _ _ 110 rfl (by decide) (by decide)]; simp
    · rw [hno _ _ 105 rfl (by decide) (by decide)]; simp
    · have : Lib.hasPrefix s [45, 105, 110, 102] = false := by
        rcases hc with ⟨rfl, ⟨d, r', hd, h3⟩⟩ | h2
        · cases hq : Lib.hasPrefix s [45, 105, 110, 102] with
          | false => rfl
          | true =>
            rw [pre_iff] at hq
            obtain ⟨t, ht⟩ := hq
            rw [hcr, hd] at ht
            injection ht with _ ht2
            injection ht2 with ht3 _
            subst ht3; exact absurd h3.2 (by decide)
        · exact pre_no hcr rfl (fun e => by subst e; exact absurd h2.1 (by decide))
      rw [this]; simp
  unfold readV
  rw [hno [39] [] 39 rfl (by decide) (by decide), hno wNull _ 110 rfl (by decide) (by decide), hno wFalse _ 102 rfl (by decide) (by decide), hno wTrue _ 116 rfl (by decide) (by decide), hw3, hfl]; rfl
theorem read_float {f : Nat} (hf : Cn f) : readV pf uqV (textF f) = some (⟨3, 0, f, []⟩, (textF f).length) := by
  have hp := pf_hit hf rfl
  by_cases h1 : isNan f = true
  · have ht := text_nan2 h1
    rw [ht] at hp ⊢
    have : readV pf uqV [110, 97, 110] = some (⟨3, 0, (pf [110, 97, 110]).getD 0, []⟩, 3) := rfl
    rw [this, hp]; rfl
  have h1' : isNan f = false := by simpa using h1
  by_cases h2 : rung f = 9218868437227405312
  · have ht : textF f = sgnB (isNeg f) ++ [105, 110, 102] := text_inf h1' h2
    cases hn : isNeg f
    · rw [hn] at ht
      have ht : textF f = [105, 110, 102] := ht
      rw [ht] at hp ⊢
      have : readV pf uqV [105, 110, 102] = some (⟨3, 0, (pf [105, 110, 102]).getD 0, []⟩, 3) := rfl
      rw [this, hp]; rfl
    · rw [hn] at ht
      have ht : textF f = [45, 105, 110, 102] := ht
      rw [ht] at hp ⊢
      have : readV pf uqV [45, 105, 110, 102] = some (⟨3, 0, (pf [45, 105, 110, 102]).getD 0, []⟩, 4) := rfl
      rw [this, hp]; rfl
  have h6 : rung f ≤ 9218868437227405312 := by simpa [isNan, rung] using h1'
  have hr : rung f < 9218868437227405312 := by omega
  by_cases h3 : rung f = 0
  · refine read_num (n := isNeg f) (M := 0) (e := 0) hp ?_ (by decide) (by decide)
    rw [text_zero h1' h2 h3]
    have : numT 0 0 = [48, 112, 48] := by
      have e0 : Lib.decDigits 0 = [48] := Lib.decDigits_one (by decide)
      have e1 : Lib.itoa 0 = Lib.decDigits 0 := rfl
      unfold numT; rw [e1, e0]; rfl
    rw [this]; rfl
  · have e1 := exp0_bd hr
    have e2 := v2_le hr h3
    refine read_num (n := isNeg f) (M := od (mant0 (rung f))) (e := exp0 (rung f) + v2 (mant0 (rung f))) hp ?_ (by omega) (by omega)
    rw [text_num h1' h2 h3]; unfold numT; rw [sgn_eq]; simp
/-- what is written is read -/
theorem read_text {x : Val} (o : x.Ok) (h : rightV x = true) : readV pf uqV (textQ x) = some (x, (textQ x).length) := by
  obtain ⟨k, n, f, s⟩ := x
  have hr := h
  unfold rightV at h
  simp only at h
  have ht : textQ ⟨k, n, f, s⟩ = if k = 1 then (if (n == 1) = true then [116, 114, 117, 101] else [102, 97, 108, 115, 101]) else if k = 2 then Lib.itoa n else if k = 3 then textF f else if k = 4 then quoteV s else [110, 117, 108, 108] := by
    unfold textQ textV
    rw [if_neg (by rw [hr]; simp)]
    simp only
    split
    · rfl
    split
    · rfl
    split
    · rfl
    split <;> rfl
  rw [ht]
  by_cases k0 : k = 0
  · subst k0
    rw [if_pos rfl] at h
    obtain ⟨rfl, rfl, rfl⟩ := of_decide_eq_true h
    rfl
  rw [if_neg k0] at h
  by_cases k1 : k = 1
  · subst k1
    rw [if_pos rfl] at h ⊢
    obtain ⟨hn, rfl, rfl⟩ := of_decide_eq_true h
    rcases hn with rfl | rfl <;> rfl
  rw [if_neg k1] at h ⊢
  by_cases k2 : k = 2
  · subst k2
    rw [if_pos rfl] at h ⊢
    obtain ⟨rfl, rfl⟩ := of_decide_eq_true h
    exact read_intV rfl o.n0 o.n1
  rw [if_neg k2] at h ⊢
  by_cases k3 : k = 3
  · subst k3
    rw [if_pos rfl] at h ⊢
    obtain ⟨rfl, rfl, hc⟩ := of_decide_eq_true h
    exact read_float ⟨o.f1, hc⟩
  rw [if_neg k3] at h ⊢
  by_cases k4 : k = 4
  · subst k4
    rw [if_pos rfl] at h ⊢
    obtain ⟨rfl, rfl⟩ := of_decide_eq_true h
    have h0 : uqV (quoteV s) = (s, (quoteV s).length) := by have := uqV_quote s []; rwa [List.append_nil] at this
    have hp : Lib.hasPrefix (quoteV s) [39] = true := (pre_one _ _).2 ⟨_, rfl⟩
    unfold readV
    rw [if_pos hp, h0, if_neg (by show ¬ (quoteV s).length = 0; unfold quoteV; simp)]
  · rw [if_neg k4] at h; cases h
theorem textQ_len {x : Val} (o : x.Ok) (h : rightV x = true) : (textQ x).length ≤ 2 * x.s.length + 60 := by
  obtain ⟨k, n, f, s⟩ := x
  show (textV (quoteV s) ⟨k, n, f, s⟩).1.length ≤ 2 * s.length + 60
  have hf : (textF f).length ≤ 60 := by
    by_cases h1 : isNan f = true
    · rw [text_nan2 h1]; decide
    have h1' : isNan f = false := by simpa using h1
    have hsg : (sgn f).length ≤ 1 := by unfold sgn; split <;> simp
    by_cases h2 : rung f = 9218868437227405312
    · rw [text_inf h1' h2, List.length_append]; simp; omega
    have h6 : rung f ≤ 9218868437227405312 := by simpa [isNan, rung] using h1'
    have hr : rung f < 9218868437227405312 := by omega
    by_cases h3 : rung f = 0
    · rw [text_zero h1' h2 h3, List.length_append]; simp; omega
    rw [text_num h1' h2 h3]
    have hm := mant0_lt hr
    have h7 : (Lib.decDigits (od (mant0 (rung f)))).length ≤ 19 := digs_le19 _ (Nat.le_trans (Nat.div_le_self _ _) (by omega))
    have e1 := exp0_bd hr
    have e2 := v2_le hr h3
    obtain ⟨D, _, _, hl, hi⟩ := itoa_shape (exp0 (rung f) + v2 (mant0 (rung f))) (by omega) (by omega)
    have hil : (Lib.itoa (exp0 (rung f) + v2 (mant0 (rung f)))).length ≤ 5 := by
      rcases hi with hi | hi <;> rw [hi]
      · omega
      · rw [List.length_cons]; omega
    simp only [List.length_append, List.length_cons, List.length_nil]; omega
  have hq : (quoteV s).length ≤ 2 * s.length + 2 := by have := qc_len s; unfold quoteV; simp only [List.length_cons, List.length_append, List.length_nil]; omega
  have hi : (Lib.itoa n).length ≤ 20 := by
    have o0 : -9223372036854775808 ≤ n := o.n0
    have o1 : n ≤ 9223372036854775807 := o.n1
    unfold Lib.itoa
    by_cases h : n < 0
    · rw [if_pos h]; have := digs_le19 n.natAbs (by omega); rw [List.length_cons]; omega
    · rw [if_neg h]; have := digs_le19 n.toNat (by omega); omega
  unfold textV
  simp only
  split
  · simp
  split
  · split <;> simp
  split
  · simp only; omega
  split
  · simp only; omega
  split
  · simp only; omega
  · simp
end Go.Proofs.YtjmlknjbhbfneaaGreatDoor
