/- Plain: what Read tells leans on no byte behind the value, but for its first one. -/
import Derived.Test.YtcljmclolpgdmaaGreatDoorUnq
namespace Go.Proofs.YtcljmclolpgdmaaGreatDoor
open Go.RowKit Go.Bw Go.Bw.Fl
set_option linter.unusedVariables false
set_option linter.unusedSimpArgs false
/-! ### the longest one first -/
def downG {α : Type} (f : Nat → Option α) : Nat → Option α
  | 0 => none
  | j + 1 => match f j with
    | some a => some a
    | none => downG f j
theorem downG_some {α : Type} {f : Nat → Option α} {a : α} : ∀ {M : Nat}, downG f M = some a → ∃ j, j < M ∧ f j = some a ∧ ∀ i, j < i → i < M → f i = none
  | 0, h => by cases h
  | M + 1, h => by
    rw [downG] at h
    cases hf : f M with
    | some b => rw [hf] at h; exact ⟨M, by omega, by rw [hf]; exact h, fun i h1 h2 => by omega⟩
    | none =>
      rw [hf] at h
      obtain ⟨j, h1, h2, h3⟩ := downG_some h
      exact ⟨j, by omega, h2, fun i h4 h5 => by
        by_cases e : i = M
        · rw [e]; exact hf
        · exact h3 i h4 (by omega)⟩
theorem downG_of {α : Type} {f : Nat → Option α} {a : α} {j : Nat} (hj : f j = some a) : ∀ {M : Nat}, j < M → (∀ i, j < i → i < M → f i = none) → downG f M = some a
  | 0, h, _ => by omega
  | M + 1, h, hn => by
    rw [downG]
    by_cases e : j = M
    · rw [← e, hj]
    · rw [hn M (by omega) (by omega)]; exact downG_of hj (by omega) fun i h1 h2 => hn i h1 (by omega)
theorem downG_none {α : Type} {f : Nat → Option α} : ∀ {M : Nat}, downG f M = none ↔ ∀ i, i < M → f i = none
  | 0 => ⟨fun _ i h => by omega, fun _ => rfl⟩
  | M + 1 => by
    rw [downG]
    cases hf : f M with
    | some b => simp only [reduceCtorEq, false_iff]; exact fun h => by have := h M (by omega); rw [hf] at this; cases this
    | none =>
      simp only
      rw [downG_none]
      exact ⟨fun h i hi => by
        by_cases e : i = M
        · rw [e]; exact hf
        · exact h i (by omega), fun h i hi => h i (by omega)⟩
def fltG (pf : List UInt8 → Option Nat) (s : List UInt8) (k j : Nat) : Option (Val × Nat) := (pf (s.take (k + j + 1))).map fun f => (⟨3, 0, f, []⟩, k + j + 1)
def intG (s : List UInt8) (j : Nat) : Option (Val × Nat) := (parseI (s.take (j + 1))).bind fun v => if Lib.itoa v = s.take (j + 1) then some (⟨2, v, 0, []⟩, j + 1) else none
theorem downF_eq (pf : List UInt8 → Option Nat) (s : List UInt8) (k : Nat) : ∀ M, downF pf s k M = downG (fltG pf s k) M
  | 0 => rfl
  | M + 1 => by
    rw [downF, downG, fltG, downF_eq pf s k M]
    cases pf (s.take (k + M + 1)) <;> rfl
theorem downI_eq (s : List UInt8) : ∀ M, downI s M = downG (intG s) M
  | 0 => rfl
  | M + 1 => by
    rw [downI, downG, intG, downI_eq s M]
    cases parseI (s.take (M + 1)) with
    | none => rfl
    | some v =>
      simp only [Option.bind_some]
      split <;> rfl

/-! ### a text's beginning -/
theorem pre_iff (s p : List UInt8) : Lib.hasPrefix s p = true ↔ p <+: s := List.isPrefixOf_iff_prefix
theorem pre_take (s w : List UInt8) (q : Nat) : Lib.hasPrefix (s.take q) w = (Lib.hasPrefix s w && decide (w.length ≤ q)) := by
  rw [Bool.eq_iff_iff, Bool.and_eq_true, pre_iff, pre_iff, decide_eq_true_eq, List.prefix_take_iff]
theorem pre_take_f {s w : List UInt8} (q : Nat) (h : Lib.hasPrefix s w = false) : Lib.hasPrefix (s.take q) w = false := by rw [pre_take, h]; rfl
theorem pre_take_t {s w : List UInt8} {q : Nat} (h : Lib.hasPrefix s w = true) (hq : w.length ≤ q) : Lib.hasPrefix (s.take q) w = true := by rw [pre_take, h, decide_eq_true hq]; rfl
theorem pre_app (s w m : List UInt8) (c : UInt8) (hc : c ∉ w) : Lib.hasPrefix (s ++ c :: m) w = Lib.hasPrefix s w := by
  rw [Bool.eq_iff_iff, pre_iff, pre_iff]
  constructor
  · intro h
    by_cases hl : w.length ≤ s.length
    · exact List.prefix_of_prefix_length_le h (List.prefix_append _ _) hl
    · exfalso
      obtain ⟨r, hr⟩ := h
      have h1 : (w ++ r)[s.length]? = (s ++ c :: m)[s.length]? := by rw [hr]
      rw [List.getElem?_append_left (by omega)] at h1
      simp at h1
      exact hc (List.mem_of_getElem? h1)
  · exact fun h => h.trans (List.prefix_append _ _)
theorem nDig_eq (s : List UInt8) : nDig s = (s.takeWhile (digs.contains ·)).length := by
  unfold nDig Lib.trimLeftS
  have h := congrArg List.length (List.takeWhile_append_dropWhile (p := (digs.contains ·)) (l := s))
  rw [List.length_append] at h
  omega
theorem nDig_nil : nDig [] = 0 := rfl
theorem nDig_cons (c : UInt8) (s : List UInt8) : nDig (c :: s) = if digs.contains c = true then nDig s + 1 else 0 := by
  rw [nDig_eq, nDig_eq, List.takeWhile_cons]; split <;> simp
theorem nDig_app (c : UInt8) (m : List UInt8) (hc : digs.contains c = false) : ∀ s, nDig (s ++ c :: m) = nDig s
  | [] => by rw [List.nil_append, nDig_cons, hc]; rfl
  | x :: r => by rw [List.cons_append, nDig_cons, nDig_cons, nDig_app c m hc r]
theorem nDig_take : ∀ (s : List UInt8) (q : Nat), nDig (s.take q) = min (nDig s) q
  | [], q => by rw [List.take_nil, nDig_nil]; omega
  | x :: r, 0 => by rw [List.take_zero, nDig_nil]; omega
  | x :: r, q + 1 => by
    rw [List.take_succ_cons, nDig_cons, nDig_cons, nDig_take r q]
    split <;> omega
theorem lead_minus (r : List UInt8) : lead (45 :: r) = nDig r + 1 := by
  have h : Lib.hasPrefix (45 :: r) [45] = true := by rw [pre_iff]; exact ⟨r, rfl⟩
  unfold lead Lib.trimPrefix; rw [if_pos h]; simp
theorem lead_other {s : List UInt8} (h : Lib.hasPrefix s [45] = false) : lead s = nDig s := by
  unfold lead Lib.trimPrefix; rw [if_neg (by rw [h]; simp)]; omega
theorem pre_one (s : List UInt8) (c : UInt8) : Lib.hasPrefix s [c] = true ↔ ∃ r, s = c :: r := by
  rw [pre_iff]
  constructor
  · rintro ⟨r, h⟩; exact ⟨r, h.symm⟩
  · rintro ⟨r, h⟩; exact ⟨r, h.symm⟩
theorem lead_app (c : UInt8) (m s : List UInt8) (hc : digs.contains c = false) (h45 : c ≠ 45) : lead (s ++ c :: m) = lead s := by
  by_cases h : Lib.hasPrefix s [45] = true
  · obtain ⟨r, rfl⟩ := (pre_one _ _).1 h
    rw [List.cons_append, lead_minus, lead_minus, nDig_app c m hc]
  · have h0 : Lib.hasPrefix s [45] = false := by simpa using h
    rw [lead_other h0, lead_other (by rw [pre_app _ _ _ _ (by simpa using h45)]; exact h0), nDig_app c m hc]
theorem lead_take (s : List UInt8) (q : Nat) : lead (s.take q) = min (lead s) q := by
  by_cases h : Lib.hasPrefix s [45] = true
  · obtain ⟨r, rfl⟩ := (pre_one _ _).1 h
    cases q with
    | zero => rw [List.take_zero]; rw [show lead [] = 0 from rfl]; omega
    | succ q => rw [List.take_succ_cons, lead_minus, lead_minus, nDig_take]; omega
  · have h0 : Lib.hasPrefix s [45] = false := by simpa using h
    rw [lead_other h0, lead_other (pre_take_f q h0), nDig_take]

/-! ### more behind it -/
/-- what ends each value that is not in quotes -/
structure Stop (c : UInt8) : Prop where
  dig : digs.contains c = false
  min : c ≠ 45
  p : c ≠ 112
  w1 : c ∉ wNull
  w2 : c ∉ wFalse
  w3 : c ∉ wTrue
  w4 : ∀ x, x ∈ words3 → c ∉ x
  q : c ≠ 39
theorem stop32 : Stop 32 := ⟨by decide, by decide, by decide, by decide, by decide, by decide, by decide, by decide⟩
theorem stop10 : Stop 10 := ⟨by decide, by decide, by decide, by decide, by decide, by decide, by decide, by decide⟩
theorem find_eq {p p' : List UInt8 → Bool} : ∀ {l : List (List UInt8)}, (∀ x, x ∈ l → p x = p' x) → l.find? p = l.find? p'
  | [], _ => rfl
  | x :: r, h => by
    rw [List.find?_cons, List.find?_cons, h x (List.mem_cons_self ..), find_eq fun y hy => h y (List.mem_cons_of_mem _ hy)]
theorem at_app {s m : List UInt8} {c x : UInt8} (hx : c ≠ x) {i : Nat} (hi : i ≤ s.length) : (s ++ c :: m)[i]? = some x ↔ s[i]? = some x := by
  rcases Nat.lt_or_ge i s.length with h | h
  · rw [List.getElem?_append_left h]
  · have : i = s.length := by omega
    subst this; simp [hx]
theorem floatAt_app (pf : List UInt8 → Option Nat) (s m : List UInt8) {c : UInt8} (hc : Stop c) : floatAt pf (s ++ c :: m) = floatAt pf s := by
  have hl := lead_le s
  have e1 : lead (s ++ c :: m) = lead s := lead_app c m s hc.dig hc.min
  unfold floatAt
  by_cases h : s[lead s]? = some 112
  · have hlt : lead s < s.length := (List.getElem?_eq_some_iff.1 h).1
    have hk : floatK (s ++ c :: m) = floatK s := by
      unfold floatK; rw [e1]
      by_cases h2 : s[lead s + 1]? = some 45
      · rw [if_pos ((at_app hc.min (by omega)).2 h2), if_pos h2]
      · rw [if_neg (fun h3 => h2 ((at_app hc.min (by omega)).1 h3)), if_neg h2]
    obtain ⟨b1, b2, b3⟩ := floatK_bd s h
    obtain ⟨b4, b5⟩ := floatM_bd s h
    have hm : floatM (s ++ c :: m) = floatM s := by
      unfold floatM; rw [hk, List.drop_append_of_le_length b2, nDig_app c m hc.dig]
    rw [e1, if_pos h, if_pos ((at_app hc.p (by omega)).2 h), hk, hm, downF_eq, downF_eq]
    have hcg : ∀ M, M ≤ floatM s → downG (fltG pf (s ++ c :: m) (floatK s)) M = downG (fltG pf s (floatK s)) M := by
      intro M
      induction M with
      | zero => intro _; rfl
      | succ M ih =>
        intro hM
        rw [downG, downG, ih (by omega), fltG, fltG, List.take_append_of_le_length (by omega)]
    exact hcg _ (Nat.le_refl _)
  · rw [e1, if_neg h, if_neg (fun h2 => h ((at_app hc.p hl).1 h2))]
theorem downI_app (s m : List UInt8) (c : UInt8) : ∀ M, M ≤ s.length → downI (s ++ c :: m) M = downI s M
  | 0, _ => rfl
  | M + 1, h => by rw [downI, downI, List.take_append_of_le_length (by omega), downI_app s m c M (by omega)]
theorem readV_app (pf : List UInt8 → Option Nat) (uq : List UInt8 → List UInt8 × Nat) (s m : List UInt8) {c : UInt8} (hc : Stop c) (hq : Lib.hasPrefix s [39] = false) : readV pf uq (s ++ c :: m) = readV pf uq s := by
  have hq' : Lib.hasPrefix (s ++ c :: m) [39] = false := by rw [pre_app _ _ _ _ (by simpa using hc.q)]; exact hq
  unfold readV
  rw [hq', hq, if_neg (show ¬ (false = true) by decide), if_neg (show ¬ (false = true) by decide), pre_app _ _ _ _ hc.w1, pre_app _ _ _ _ hc.w2, pre_app _ _ _ _ hc.w3, find_eq (p' := fun x => Lib.hasPrefix s x) (fun x hx => pre_app _ _ _ _ (hc.w4 x hx)), floatAt_app pf s m hc, lead_app c m s hc.dig hc.min, downI_app s m c _ (by have := lead_le s; omega)]
theorem uqGo_len : ∀ (r : List UInt8) (i : Nat) (a : List UInt8), (uqGo r i a).2 ≠ 0 → i < (uqGo r i a).2 ∧ (uqGo r i a).2 ≤ i + r.length
  | [], i, a, h => by simp [uqGo] at h
  | [c], i, a, h => by
    rw [uqGo] at h ⊢
    split at h
    · rename_i hc; rw [if_pos hc]; simp
    · simp at h
  | c :: d :: r, i, a, h => by
    rw [uqGo] at h ⊢
    split at h
    · rename_i hc; rw [if_pos hc]; simp
    · rename_i hc
      rw [if_neg hc]
      split at h
      · simp at h
      · rename_i hc2
        rw [if_neg hc2]
        split at h
        · rename_i hc3
          rw [if_pos hc3]
          cases he : escV d with
          | none => rw [he] at h; simp at h
          | some e =>
            rw [he] at h
            have := uqGo_len r (i + 2) (a ++ [e]) h
            simp only [List.length_cons]; omega
        · rename_i hc3
          rw [if_neg hc3]
          have := uqGo_len (d :: r) (i + 1) (a ++ [c]) h
          simp only [List.length_cons] at this ⊢; omega
/-- more behind a text in quotes, or less -/
theorem uqGo_same : ∀ (r x : List UInt8) (i : Nat) (a : List UInt8), (uqGo r i a).2 ≠ 0 → r.take ((uqGo r i a).2 - i) = x.take ((uqGo r i a).2 - i) → uqGo x i a = uqGo r i a
  | [], x, i, a, h, _ => by simp [uqGo] at h
  | [c], x, i, a, h, ht => by
    rw [uqGo] at h ht ⊢
    split at h
    · rename_i hc
      rw [if_pos hc] at ht ⊢
      rw [show i + 1 - i = 1 by omega] at ht
      cases x with
      | nil => simp at ht
      | cons y z =>
        simp at ht
        obtain ⟨rfl⟩ := ht
        cases z with
        | nil => rw [uqGo, if_pos hc]
        | cons z1 z2 => rw [uqGo, if_pos hc]
    · simp at h
  | c :: d :: r, x, i, a, h, ht => by
    have hlen := uqGo_len (c :: d :: r) i a h
    rw [uqGo] at h ht hlen ⊢
    split at h
    · rename_i hc
      rw [if_pos hc] at ht ⊢
      rw [show i + 1 - i = 1 by omega] at ht
      cases x with
      | nil => simp at ht
      | cons y z =>
        simp at ht
        obtain ⟨rfl⟩ := ht
        cases z with
        | nil => rw [uqGo, if_pos hc]
        | cons z1 z2 => rw [uqGo, if_pos hc]
    · rename_i hc
      rw [if_neg hc] at ht hlen ⊢
      split at h
      · simp at h
      · rename_i hc2
        rw [if_neg hc2] at ht hlen ⊢
        split at h
        · rename_i hc3
          rw [if_pos hc3] at ht hlen ⊢
          cases he : escV d with
          | none => rw [he] at h; simp at h
          | some e =>
            rw [he] at h ht hlen
            have hl2 := uqGo_len r (i + 2) (a ++ [e]) h
            simp only at ht hlen ⊢
            obtain ⟨k, hk⟩ : ∃ k, (uqGo r (i + 2) (a ++ [e])).2 - i = k + 2 := ⟨(uqGo r (i + 2) (a ++ [e])).2 - i - 2, by omega⟩
            rw [hk] at ht
            cases x with
            | nil => simp at ht
            | cons y z =>
              cases z with
              | nil => simp at ht
              | cons z1 z2 =>
                simp only [List.take_succ_cons, List.cons.injEq] at ht
                obtain ⟨rfl, rfl, ht⟩ := ht
                rw [uqGo, if_neg hc, if_neg hc2, if_pos hc3, he]
                exact uqGo_same r z2 (i + 2) (a ++ [e]) h (by rw [show (uqGo r (i + 2) (a ++ [e])).2 - (i + 2) = k by omega]; exact ht)
        · rename_i hc3
          rw [if_neg hc3] at ht hlen ⊢
          have hl2 := uqGo_len (d :: r) (i + 1) (a ++ [c]) h
          obtain ⟨k, hk⟩ : ∃ k, (uqGo (d :: r) (i + 1) (a ++ [c])).2 - i = k + 2 := ⟨(uqGo (d :: r) (i + 1) (a ++ [c])).2 - i - 2, by
            omega⟩
          rw [hk] at ht
          cases x with
          | nil => simp at ht
          | cons y z =>
            cases z with
            | nil => simp at ht
            | cons z1 z2 =>
              simp only [List.take_succ_cons, List.cons.injEq] at ht
              obtain ⟨rfl, rfl, ht⟩ := ht
              rw [uqGo, if_neg hc, if_neg hc2, if_neg hc3]
              exact uqGo_same (d :: r) (d :: z2) (i + 1) (a ++ [c]) h (by rw [show (uqGo (d :: r) (i + 1) (a ++ [c])).2 - (i + 1) = k + 1 by omega]; simp only [List.take_succ_cons, List.cons.injEq, true_and]; exact ht)
theorem uqV_app {s : List UInt8} (x : List UInt8) (h : (uqV s).2 ≠ 0) : uqV (s ++ x) = uqV s := by
  have hl := uqGo_len _ _ _ h
  have e : (uqGo (s.drop 1) 1 []).2 = (uqV s).2 := rfl
  rw [e] at hl
  have hs : 1 ≤ s.length := by
    rcases Nat.eq_zero_or_pos s.length with h0 | h0
    · rw [List.length_eq_zero_iff.1 h0] at h; exact absurd rfl h
    · exact h0
  refine uqGo_same (s.drop 1) ((s ++ x).drop 1) 1 [] h ?_
  rw [e, List.drop_append_of_le_length hs, List.take_append_of_le_length (by omega)]
theorem uqV_take {s : List UInt8} {q : Nat} (h : (uqV s).2 ≠ 0) (hq : (uqV s).2 ≤ q) : uqV (s.take q) = uqV s := by
  have hl := uqGo_len _ _ _ h
  have e : (uqGo (s.drop 1) 1 []).2 = (uqV s).2 := rfl
  rw [e] at hl
  refine uqGo_same (s.drop 1) ((s.take q).drop 1) 1 [] h ?_
  rw [e, List.drop_take, List.take_take, Nat.min_eq_left (by omega)]
theorem uqV_len {s : List UInt8} (h : (uqV s).2 ≠ 0) : 2 ≤ (uqV s).2 ∧ (uqV s).2 ≤ s.length := by
  have hl := uqGo_len _ _ _ h
  have e : (uqGo (s.drop 1) 1 []).2 = (uqV s).2 := rfl
  rw [e] at hl
  have hs : 1 ≤ s.length := by
    rcases Nat.eq_zero_or_pos s.length with h0 | h0
    · rw [List.length_eq_zero_iff.1 h0] at h; exact absurd rfl h
    · exact h0
  rw [List.length_drop] at hl
  omega

/-! ### less behind it -/
theorem find_take {p p' : List UInt8 → Bool} {x : List UInt8} : ∀ {l : List (List UInt8)}, (∀ y, p' y = true → p y = true) → p' x = true → l.find? p = some x → l.find? p' = some x
  | [], _, _, h => by cases h
  | y :: r, hp, hx, h => by
    rw [List.find?_cons] at h ⊢
    cases hy : p y with
    | true => rw [hy] at h; cases h; rw [hx]
    | false =>
      rw [hy] at h
      have : p' y = false := by
        cases h2 : p' y with
        | false => rfl
        | true => rw [hp y h2] at hy; cases hy
      rw [this]; exact find_take hp hx h
theorem find_none {p p' : List UInt8 → Bool} {l : List (List UInt8)} (hp : ∀ y, p' y = true → p y = true) (h : l.find? p = none) : l.find? p' = none := by
  rw [List.find?_eq_none] at h ⊢
  exact fun x hx h2 => h x hx (hp x h2)
theorem floatK_take {s : List UInt8} {q : Nat} (h : s[lead s]? = some 112) (hq : lead s < q) (hk : floatK s ≤ q) : lead (s.take q) = lead s ∧ (s.take q)[lead (s.take q)]? = some 112 ∧ floatK (s.take q) = floatK s ∧ floatM (s.take q) = min (floatM s) (q - floatK s) := by
  have e1 : lead (s.take q) = lead s := by rw [lead_take]; omega
  have e2 : (s.take q)[lead (s.take q)]? = some 112 := by rw [e1, List.getElem?_take, if_pos hq]; exact h
  have e3 : floatK (s.take q) = floatK s := by
    unfold floatK at hk ⊢
    rw [e1]
    by_cases h2 : s[lead s + 1]? = some 45
    · rw [if_pos h2] at hk ⊢; rw [if_pos (by rw [List.getElem?_take, if_pos (by omega)]; exact h2)]
    · rw [if_neg h2, if_neg (fun h3 => h2 (by
        rw [List.getElem?_take] at h3
        split at h3
        · exact h3
        · cases h3))]
  refine ⟨e1, e2, e3, ?_⟩
  unfold floatM
  rw [e3, List.drop_take, nDig_take]
  omega
theorem floatAt_some {pf : List UInt8 → Option Nat} {s : List UInt8} {r : Val × Nat} (h : floatAt pf s = some r) : s[lead s]? = some 112 ∧ ∃ j f, j < floatM s ∧ pf (s.take (floatK s + j + 1)) = some f ∧ r = (⟨3, 0, f, []⟩, floatK s + j + 1) ∧ ∀ i, j < i → i < floatM s → pf (s.take (floatK s + i + 1)) = none := by
  unfold floatAt at h
  split at h
  · rename_i hp
    rw [downF_eq] at h
    obtain ⟨j, h1, h2, h3⟩ := downG_some h
    unfold fltG at h2
    obtain ⟨f, hf, hr⟩ := Option.map_eq_some_iff.1 h2
    exact ⟨hp, j, f, h1, hf, hr.symm, fun i h4 h5 => by
      have := h3 i h4 h5
      unfold fltG at this
      exact Option.map_eq_none_iff.1 this⟩
  · cases h
theorem floatAt_take_some {pf : List UInt8 → Option Nat} {s : List UInt8} {v : Val} {n q : Nat} (h : floatAt pf s = some (v, n)) (hq : n ≤ q) : floatAt pf (s.take q) = some (v, n) := by
  obtain ⟨hp, j, f, h1, h2, h3, h4⟩ := floatAt_some h
  obtain ⟨b1, b2, b3⟩ := floatK_bd s hp
  have hn : n = floatK s + j + 1 := congrArg Prod.snd h3
  obtain ⟨e1, e2, e3, e4⟩ := floatK_take (q := q) hp (by omega) (by omega)
  unfold floatAt
  rw [if_pos e2, downF_eq, e3, e4]
  have ht : ∀ i, floatK s + i + 1 ≤ q → (s.take q).take (floatK s + i + 1) = s.take (floatK s + i + 1) := fun i hi => by rw [List.take_take, Nat.min_eq_left hi]
  refine downG_of (j := j) ?_ (by omega) fun i h5 h6 => ?_
  · rw [fltG, ht j (by omega), h2, h3]; rfl
  · rw [fltG, ht i (by omega), h4 i h5 (by omega)]; rfl
theorem floatAt_take_none {pf : List UInt8 → Option Nat} {s : List UInt8} (q : Nat) (h : floatAt pf s = none) : floatAt pf (s.take q) = none := by
  unfold floatAt
  split
  · rename_i hp
    have hlt : lead (s.take q) < (s.take q).length := (List.getElem?_eq_some_iff.1 hp).1
    rw [List.length_take, lead_take] at hlt
    have e1 : lead (s.take q) = lead s := by rw [lead_take]; omega
    have hp2 : s[lead s]? = some 112 := by
      rw [e1, List.getElem?_take] at hp
      split at hp
      · exact hp
      · cases hp
    unfold floatAt at h
    rw [if_pos hp2, downF_eq, downG_none] at h
    obtain ⟨c1, c2⟩ := floatM_bd _ hp
    obtain ⟨c3, c4, c5⟩ := floatK_bd _ hp
    have hlen := List.length_take_le q s
    rw [downF_eq, downG_none]
    intro i hi
    have hK : floatK (s.take q) + i + 1 ≤ q := by have := c2; rw [List.length_take] at this; omega
    have hk2 : floatK s ≤ q := by
      by_cases hk : floatK s ≤ q
      · exact hk
      · exfalso
        have h7 : floatK s ≤ lead s + 2 := by unfold floatK; split <;> omega
        have h8 : lead s + 1 ≤ floatK (s.take q) := by rw [← e1]; exact c3
        omega
    obtain ⟨_, _, e3, e4⟩ := floatK_take (q := q) hp2 (by omega) hk2
    have := h i (by rw [e4] at hi; omega)
    rw [fltG] at this ⊢
    rw [e3] at hK ⊢
    rw [List.take_take, Nat.min_eq_left hK]; exact this
  · rfl
theorem downI_some {s : List UInt8} {M : Nat} {r : Val × Nat} (h : downI s M = some r) : ∃ j v, j < M ∧ parseI (s.take (j + 1)) = some v ∧ Lib.itoa v = s.take (j + 1) ∧ r = (⟨2, v, 0, []⟩, j + 1) ∧ ∀ i, j < i → i < M → intG s i = none := by
  rw [downI_eq] at h
  obtain ⟨j, h1, h2, h3⟩ := downG_some h
  unfold intG at h2
  obtain ⟨v, hv, hr⟩ := Option.bind_eq_some_iff.1 h2
  split at hr
  · rename_i hi; cases hr; exact ⟨j, v, h1, hv, hi, rfl, h3⟩
  · cases hr
theorem downI_take {s : List UInt8} {v : Val} {n q : Nat} (h : downI s (min (lead s) 20) = some (v, n)) (hq : n ≤ q) : downI (s.take q) (min (lead (s.take q)) 20) = some (v, n) := by
  obtain ⟨j, u, h1, h2, h3, h4, h5⟩ := downI_some h
  have hn : n = j + 1 := congrArg Prod.snd h4
  have ht : ∀ i, i + 1 ≤ q → (s.take q).take (i + 1) = s.take (i + 1) := fun i hi => by rw [List.take_take, Nat.min_eq_left hi]
  rw [downI_eq, lead_take]
  refine downG_of (j := j) ?_ (by omega) fun i h6 h7 => ?_
  · rw [intG, ht j (by omega), h2, Option.bind_some, if_pos h3, h4]
  · have := h5 i h6 (by omega)
    unfold intG at this ⊢
    rw [ht i (by omega)]; exact this
theorem readV_take {pf : List UInt8 → Option Nat} {s : List UInt8} {v : Val} {n q : Nat} (h : readV pf uqV s = some (v, n)) (hq : n ≤ q) : readV pf uqV (s.take q) = some (v, n) := by
  unfold readV at h ⊢
  have hmono : ∀ y, Lib.hasPrefix (s.take q) y = true → Lib.hasPrefix s y = true := fun y hy => by rw [pre_take, Bool.and_eq_true] at hy; exact hy.1
  by_cases h0 : Lib.hasPrefix s [39] = true
  · rw [if_pos h0] at h
    by_cases hz : (uqV s).2 = 0
    · rw [if_pos hz] at h; cases h
    · rw [if_neg hz] at h; cases h
      have := uqV_len hz
      rw [if_pos (pre_take_t h0 (by simp; omega)), uqV_take hz hq, if_neg hz]
  · have h0' : Lib.hasPrefix s [39] = false := by simpa using h0
    rw [if_neg h0] at h
    rw [pre_take_f q h0', if_neg (show ¬ (false = true) by decide)]
    by_cases h1 : Lib.hasPrefix s wNull = true
    · rw [if_pos h1] at h; cases h; rw [if_pos (pre_take_t h1 hq)]
    · have h1' : Lib.hasPrefix s wNull = false := by simpa using h1
      rw [if_neg h1] at h
      rw [pre_take_f q h1', if_neg (show ¬ (false = true) by decide)]
      by_cases h2 : Lib.hasPrefix s wFalse = true
      · rw [if_pos h2] at h; cases h; rw [if_pos (pre_take_t h2 hq)]
      · have h2' : Lib.hasPrefix s wFalse = false := by simpa using h2
        rw [if_neg h2] at h
        rw [pre_take_f q h2', if_neg (show ¬ (false = true) by decide)]
        by_cases h3 : Lib.hasPrefix s wTrue = true
        · rw [if_pos h3] at h; cases h; rw [if_pos (pre_take_t h3 hq)]
        · have h3' : Lib.hasPrefix s wTrue = false := by simpa using h3
          rw [if_neg h3] at h
          rw [pre_take_f q h3', if_neg (show ¬ (false = true) by decide)]
          cases hf : words3.find? (fun x => Lib.hasPrefix s x) with
          | some x =>
            rw [hf] at h; cases h
            have hx := List.find?_some hf
            rw [find_take hmono (pre_take_t hx hq) hf]
          | none =>
            rw [hf] at h
            rw [find_none hmono hf]
            cases hg : floatAt pf s with
            | some r => rw [hg] at h; cases h; rw [floatAt_take_some hg hq]
            | none =>
              rw [hg] at h
              rw [floatAt_take_none q hg]
              exact downI_take h hq
theorem pre_len {s w : List UInt8} (h : Lib.hasPrefix s w = true) : w.length ≤ s.length := ((pre_iff _ _).1 h).length_le
theorem readV_len {pf : List UInt8 → Option Nat} {s : List UInt8} {v : Val} {n : Nat} (h : readV pf uqV s = some (v, n)) : 0 < n ∧ n ≤ s.length := by
  unfold readV at h
  split at h
  · split at h
    · cases h
    · rename_i hz; cases h; have := uqV_len hz; omega
  · split at h
    · rename_i h1; cases h; exact ⟨by decide, pre_len h1⟩
    · split at h
      · rename_i h1; cases h; exact ⟨by decide, pre_len h1⟩
      · split at h
        · rename_i h1; cases h; exact ⟨by decide, pre_len h1⟩
        · split at h
          · rename_i x hx; cases h
            refine ⟨?_, pre_len (List.find?_some hx)⟩
            have := List.mem_of_find?_eq_some hx
            simp only [words3, List.mem_cons, List.not_mem_nil, or_false] at this
            rcases this with rfl | rfl | rfl <;> decide
          · split at h
            · rename_i r hr; cases h
              obtain ⟨hp, j, f, h1, h2, h3, h4⟩ := floatAt_some hr
              have := floatM_bd s hp
              have hn : n = floatK s + j + 1 := congrArg Prod.snd h3
              omega
            · obtain ⟨j, u, h1, h2, h3, h4, h5⟩ := downI_some h
              have hn : n = j + 1 := congrArg Prod.snd h4
              have := lead_le s
              omega
theorem okV {k n : Int} {f : Nat} {s : List UInt8} (h0 : -9223372036854775808 ≤ n) (h1 : n ≤ 9223372036854775807) (h2 : f < 18446744073709551616) : (⟨k, n, f, s⟩ : Val).Ok := ⟨h0, h1, h2⟩
theorem readV_ok {s : List UInt8} {v : Val} {n : Nat} (h : readV pf uqV s = some (v, n)) : v.Ok := by
  have o0 : nullV.Ok := okV (by decide) (by decide) (by decide)
  have o1 : ∀ b, (truthV b).Ok := fun b => by cases b <;> exact okV (by decide) (by decide) (by decide)
  have of : ∀ x f, pf x = some f → (⟨3, 0, f, []⟩ : Val).Ok := fun x f hf => okV (by decide) (by decide) (pf_some hf).1.lt
  unfold readV at h
  split at h
  · split at h
    · cases h
    · cases h; exact okV (by decide) (by decide) (by decide)
  · split at h
    · cases h; exact o0
    · split at h
      · cases h; exact o1 _
      · split at h
        · cases h; exact o1 _
        · split at h
          · rename_i x hx; cases h
            cases hp : pf x with
            | none => exact okV (by decide) (by decide) (by decide)
            | some f => exact of x f hp
          · split at h
            · rename_i r hr; cases h
              obtain ⟨hp, j, f, h1, h2, h3, h4⟩ := floatAt_some hr
              have hv : v = ⟨3, 0, f, []⟩ := congrArg Prod.fst h3
              subst hv; exact of _ f h2
            · obtain ⟨j, u, h1, h2, h3, h4, h5⟩ := downI_some h
              have hv : v = ⟨2, u, 0, []⟩ := congrArg Prod.fst h4
              subst hv
              have := parseI_bd h2
              exact okV this.1 this.2 (by decide)
/-- Read, whole -/
theorem callees {s : List UInt8} (hs : s.length ≤ 140737488355328) : Callees pf uqV s where
  unq := fun _ w _ => unquoted_r s hs w
  word := fun x hx _ w hL => Parse_r x (by
    simp only [words3, List.mem_cons, List.not_mem_nil, or_false] at hx
    rcases hx with rfl | rfl | rfl <;> decide) w hL
  prs := fun e _ w hL => Parse_r _ (by have := List.length_take_le e s; have := List.length_take_le' e s; omega) w hL
theorem Read_w (s : List UInt8) (hs : s.length ≤ 140737488355328) (w : World) (hL : Lb w) : Ret Tryz.prog 16 [str s] w fun v w' => v = rdV (readV pf uqV s) ∧ Below w.heap.size w w' :=
  Read_r pf uqV s (by omega) (callees hs) w hL
def RdIs (r : Option (Val × Nat)) (u : Val) (n : Nat) (ok : Bool) : Prop := (ok = true ∧ r = some (u, n)) ∨ (ok = false ∧ r = none ∧ u = nullV ∧ n = 0)
theorem Read_x (s : List UInt8) (hs : s.length ≤ 140737488355328) (w : World) (hL : Lb w) : Ret Tryz.prog 16 [str s] w fun v w' => (∃ u n ok, v = .tuple #[Val.enc u, .int .i64 (n : Nat), .bool ok] ∧ RdIs (readV pf uqV s) u n ok) ∧ Below w.heap.size w w' :=
  (Read_w s hs w hL).mono fun v w' ⟨h1, h2⟩ => ⟨by
    subst h1
    cases h : readV pf uqV s with
    | none => exact ⟨nullV, 0, false, rfl, .inr ⟨rfl, rfl, rfl, rfl⟩⟩
    | some r => exact ⟨r.1, r.2, true, rfl, .inl ⟨rfl, rfl⟩⟩, h2⟩
theorem readV_more {s : List UInt8} {v : Val} {n : Nat} (y : List UInt8) {c : UInt8} (hc : Stop c) (h : readV pf uqV s = some (v, n)) : readV pf uqV (s ++ c :: y) = some (v, n) := by
  by_cases h0 : Lib.hasPrefix s [39] = true
  · have hz : (uqV s).2 ≠ 0 := fun hz => by unfold readV at h; rw [if_pos h0, if_pos hz] at h; cases h
    have h1 : Lib.hasPrefix (s ++ c :: y) [39] = true := by rw [pre_iff] at h0 ⊢; exact h0.trans (List.prefix_append _ _)
    unfold readV at h ⊢
    rw [if_pos h0] at h
    rw [if_pos h1, uqV_app (c :: y) hz]; exact h
  · rw [readV_app pf uqV s y hc (by simpa using h0)]; exact h
theorem RdIs.hit {r : Option (Val × Nat)} {u u' : Val} {n n' : Nat} {ok : Bool} (h : RdIs r u n ok) (hr : r = some (u', n')) : ok = true ∧ u = u' ∧ n = n' := by
  rcases h with ⟨h1, h2⟩ | ⟨_, h2, _⟩
  · rw [h2] at hr; cases hr; exact ⟨h1, rfl, rfl⟩
  · rw [h2] at hr; cases hr
theorem sameV_self (x : Val) : sameV x x = true := by unfold sameV; simp
end Go.Proofs.YtcljmclolpgdmaaGreatDoor
