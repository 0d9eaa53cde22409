/- Plain: what lex tells. -/
import Derived.Test.YtcljmclolpgdmaaGreatDoorReadL
namespace Go.Proofs.YtcljmclolpgdmaaGreatDoor
open Go.RowKit Go.Bw Go.Bw.Fl
set_option linter.unusedVariables false
set_option linter.unusedSimpArgs false
def keysV : List (List UInt8) := [[87, 65, 76, 75], [84, 82, 65, 73, 76], [65, 67, 89, 67, 76, 73, 67], [83, 73, 77, 80, 76, 69], [65, 76, 76], [65, 78, 89], [83, 72, 79, 82, 84, 69, 83, 84], [87, 72, 69, 82, 69], [79, 82], [65, 78, 68], [78, 79, 84], [73, 83], [110, 117, 108, 108], [116, 114, 117, 101], [102, 97, 108, 115, 101], [105, 110, 102], [110, 97, 110]]
def signsV : List (List UInt8) := [[60, 45, 91], [60, 126, 91], [93, 45, 62], [93, 126, 62], [60, 45, 62], [45, 91], [126, 91], [93, 45], [93, 126], [45, 62], [60, 45], [60, 126], [126, 62], [60, 61], [62, 61], [60, 62], [40], [41], [91], [93], [123], [125], [44], [58], [124], [38], [33], [37], [42], [43], [63], [61], [60], [62], [45], [126]]
/-- a letter, a digit or _ -/
def isLet (c : UInt8) : Bool := decide (c.toNat = 95 ∨ (48 ≤ c.toNat ∧ c.toNat ≤ 57) ∨ (97 ≤ bits .or .u8 (c.toNat : Int) 32 ∧ bits .or .u8 (c.toNat : Int) 32 ≤ 122))
def letN (s : List UInt8) : Nat := (s.takeWhile isLet).length
theorem isLet_low (c : UInt8) (h : isLet c = true) : c.toNat < 123 := by
  have key : ∀ n : Fin 256, isLet (UInt8.ofNat n.val) = true → n.val < 123 := by decide +kernel
  have h2 := key ⟨c.toNat, UInt8.toNat_lt c⟩
  rw [show UInt8.ofNat c.toNat = c from UInt8.ofNat_toNat] at h2
  exact h2 h
theorem letN_le (s : List UInt8) : letN s ≤ s.length := (List.takeWhile_sublist _).length_le
theorem letN_of {s : List UInt8} {i : Nat} (hi : i ≤ s.length) (h : ∀ j, j < i → isLet (s.getD j 0) = true) (hn : i < s.length → isLet (s.getD i 0) = false) : letN s = i := by
  induction s generalizing i with
  | nil => simp at hi; subst hi; rfl
  | cons c r ih =>
    cases i with
    | zero =>
      have := hn (by simp)
      simp [List.getD] at this
      simp [letN, List.takeWhile_cons, this]
    | succ i =>
      have h0 := h 0 (by omega)
      simp [List.getD] at h0
      have hih := ih (i := i) (by simpa using hi) (fun j hj => by have := h (j + 1) (by omega); simpa [List.getD] using this) (fun hlt => by have := hn (by simpa using hlt); simpa [List.getD] using this)
      unfold letN at hih ⊢
      rw [List.takeWhile_cons, h0]; simp [hih]
theorem letN_all (s : List UInt8) : ∀ c, c ∈ s.take (letN s) → isLet c = true := by
  intro c hc
  have e : s.take (letN s) = s.takeWhile isLet := (List.prefix_iff_eq_take.1 (List.takeWhile_prefix isLet)).symm
  rw [e] at hc
  exact List.all_eq_true.1 List.all_takeWhile c hc
/-- a word (of letters, digits and _) -/
def wordV (s : List UInt8) : Bool := decide (s ≠ [] ∧ s.length ≤ 40 ∧ ¬ (48 ≤ (s.getD 0 0).toNat ∧ (s.getD 0 0).toNat ≤ 57))
/-- how many bytes Read takes -/
noncomputable def rdN (s : List UInt8) : Nat := ((readV pf uqV s).map (·.2)).getD 0
/-- the token at the beginning: its kind, and how many bytes it has -/
noncomputable def tokV (s : List UInt8) : Nat × Nat :=
  if (s.getD 0 0).toNat = 39 ∨ (48 ≤ (s.getD 0 0).toNat ∧ (s.getD 0 0).toNat ≤ 57) then
    (if (s.getD 0 0).toNat = 39 ∧ 0 < rdN s then (4, rdN s)
     else if 0 < max (rdN s) (rdN (45 :: s) - 1) ∧ (s.getD 0 0).toNat ≠ 39 then (3, max (rdN s) (rdN (45 :: s) - 1)) else (0, 0))
  else if 0 < letN s then (if s.take (letN s) ∈ keysV then (2, letN s) else if wordV (s.take (letN s)) = true then (1, letN s) else (0, 0))
  else match signsV.find? (fun x => Lib.hasPrefix s x) with
    | some x => (5, x.length)
    | none => (0, 0)
structure Tok where
  k : Nat
  t : List UInt8
  a : Nat
def Tok.cells (t : Tok) : List Value := [.int .i64 (t.k : Int), str t.t, .int .i64 (t.a : Int)]
def Tok.enc (t : Tok) : Value := .agg t.cells.toArray
def blank (c : UInt8) : Bool := decide (c ∈ ([32, 9, 13, 10] : List UInt8))
/-- the tokens from a place on, or where none is -/
noncomputable def lexR (s : List UInt8) (at_ : Nat) : Nat → Except Nat (List Tok)
  | 0 => .ok []
  | f + 1 => match s with
    | [] => .ok []
    | c :: r => if blank c = true then lexR r (at_ + 1) f
      else if (tokV (c :: r)).1 = 0 ∨ (tokV (c :: r)).2 = 0 then .error at_
      else (lexR ((c :: r).drop (tokV (c :: r)).2) (at_ + (tokV (c :: r)).2) f).map fun l => ⟨(tokV (c :: r)).1, (c :: r).take (tokV (c :: r)).2, at_⟩ :: l
theorem rdN_le (s : List UInt8) : rdN s ≤ s.length := by
  unfold rdN
  cases h : readV pf uqV s with
  | none => simp
  | some r => have := readV_len (v := r.1) (n := r.2) h; simpa using this.2
theorem find_sign {s x : List UInt8} (h : signsV.find? (fun x => Lib.hasPrefix s x) = some x) : Lib.hasPrefix s x = true ∧ 0 < x.length ∧ x.length ≤ 3 := by
  refine ⟨List.find?_some h, ?_⟩
  have hm := List.mem_of_find?_eq_some h
  have key : ∀ y, y ∈ signsV → 0 < y.length ∧ y.length ≤ 3 := by decide
  exact key x hm
theorem tokV_len (s : List UInt8) (hs : s ≠ []) : (tokV s).2 ≤ s.length ∧ ((tokV s).1 = 0 ↔ (tokV s).2 = 0) ∧ (tokV s).1 ≤ 5 := by
  have h1 := rdN_le s
  have h2 := rdN_le (45 :: s)
  simp only [List.length_cons] at h2
  have h3 := letN_le s
  unfold tokV
  split
  · split
    · simp only; omega
    · split
      · simp only; omega
      · simp
  · split
    · split
      · simp only; omega
      · split
        · simp only; omega
        · simp
    · split
      · rename_i x hx
        obtain ⟨hp, h0, _⟩ := find_sign hx
        have := pre_len hp
        simp only; omega
      · simp
/-- with more fuel, the same -/
theorem lexR_fuel : ∀ (f g : Nat) (s : List UInt8) (i : Nat), s.length ≤ f → f ≤ g → lexR s i g = lexR s i f
  | 0, 0, s, i, _, _ => rfl
  | 0, g + 1, s, i, h, _ => by
    have : s = [] := List.length_eq_zero_iff.1 (by omega)
    subst this; rfl
  | f + 1, 0, s, i, _, h => by omega
  | f + 1, g + 1, s, i, hs, hg => by
    cases s with
    | nil => rfl
    | cons c r =>
      simp only [List.length_cons] at hs
      rw [lexR, lexR]
      split
      · exact lexR_fuel f g r (i + 1) (by omega) (by omega)
      · split
        · rfl
        · rw [lexR_fuel f g _ _ (by simp only [List.length_drop, List.length_cons]; omega) (by omega)]
/-- the whole -/
noncomputable def lexV (s : List UInt8) (i : Nat) : Except Nat (List Tok) := lexR s i s.length
theorem lexV_nil (i : Nat) : lexV [] i = .ok [] := rfl
theorem lexV_blank {c : UInt8} {r : List UInt8} (i : Nat) (h : blank c = true) : lexV (c :: r) i = lexV r (i + 1) := by
  unfold lexV
  rw [List.length_cons, lexR, if_pos h]
theorem lexV_bad {c : UInt8} {r : List UInt8} (i : Nat) (h : blank c = false) (h0 : (tokV (c :: r)).1 = 0) : lexV (c :: r) i = .error i := by
  unfold lexV
  rw [List.length_cons, lexR, if_neg (by rw [h]; simp), if_pos (.inl h0)]
theorem lexV_tok {c : UInt8} {r : List UInt8} (i : Nat) (h : blank c = false) (h0 : (tokV (c :: r)).1 ≠ 0) : lexV (c :: r) i = (lexV ((c :: r).drop (tokV (c :: r)).2) (i + (tokV (c :: r)).2)).map fun l => ⟨(tokV (c :: r)).1, (c :: r).take (tokV (c :: r)).2, i⟩ :: l := by
  have hl := tokV_len (c :: r) (by simp)
  unfold lexV
  rw [List.length_cons, lexR, if_neg (by rw [h]; simp), if_neg (by omega), lexR_fuel _ r.length _ _ (Nat.le_refl _) (by simp only [List.length_drop, List.length_cons]; omega)]
end Go.Proofs.YtcljmclolpgdmaaGreatDoor
