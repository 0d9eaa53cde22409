/- What Lex tells, in the form that the statements use. -/
import Derived.Test.YtcljmclolpgdmaaGreatDoorLexP
namespace Go.Proofs.YtcljmclolpgdmaaGreatDoor
open Go.RowKit Go.Bw Go.Bw.Fl
set_option linter.unusedVariables false
set_option linter.unusedSimpArgs false

/-- what Lex tells, of a text that is not too long -/
def LxIs (s : List UInt8) (l : List Tok) (i e : Int) : Prop := (e = 2 ∧ l = [] ∧ ∃ k : Nat, i = k ∧ lexV s 0 = .error k) ∨ (e = 0 ∧ i = 0 ∧ lexV s 0 = .ok l)
theorem Lex_y (s : List UInt8) (hs : s.length ≤ 65536) (w : World) (hX : Lx w) : Ret Tryz.prog 22 [str s] w fun v w' => (∃ A c l i e, v = .tuple #[.slice A l.length c, .int .i64 i, .int .i64 e] ∧ Rd w' 3 A l.length (l.flatMap Tok.cells) ∧ l.length ≤ 65536 ∧ l.length ≤ c ∧ LxIs s l i e) ∧ Below w.heap.size w w' :=
  (Lex_r s (by omega) w hX).mono fun v w' ⟨h1, h2⟩ => by
    rcases h1 with ⟨h3, _⟩ | ⟨_, i, h3, h4⟩ | ⟨_, l', A, c, h3, h4, h5, h6, h7⟩
    · omega
    · exact ⟨⟨none, 0, [], i, 2, h4, Rd.nil _ _ _, by simp, by simp, .inl ⟨rfl, rfl, i, rfl, h3⟩⟩, h2⟩
    · exact ⟨⟨A, c, l', 0, 0, h4, h7, h5, h6, .inr ⟨rfl, rfl, h3⟩⟩, h2⟩
theorem LxIs.bad {s : List UInt8} {l : List Tok} {i e : Int} (h : LxIs s l i e) (he : e ≠ 0) : e = 2 ∧ l = [] ∧ ∃ k : Nat, i = k ∧ lexV s 0 = .error k := by
  rcases h with h | h
  · exact h
  · exact absurd h.1 he
theorem LxIs.good {s : List UInt8} {l : List Tok} {i e : Int} (h : LxIs s l i e) (he : e = 0) : i = 0 ∧ lexV s 0 = .ok l := by
  rcases h with h | h
  · have := h.1; omega
  · exact h.2
theorem LxIs.err {s : List UInt8} {l : List Tok} {i e : Int} {k : Nat} (h : LxIs s l i e) (hk : lexV s 0 = .error k) : e = 2 ∧ i = k := by
  rcases h with ⟨h1, _, k', h2, h3⟩ | ⟨_, _, h3⟩
  · rw [hk] at h3; cases h3; exact ⟨h1, h2⟩
  · rw [hk] at h3; cases h3
theorem LxIs.fine {s : List UInt8} {l l' : List Tok} {i e : Int} (h : LxIs s l i e) (hk : lexV s 0 = .ok l') : e = 0 ∧ i = 0 ∧ l = l' := by
  rcases h with ⟨h1, _, k', h2, h3⟩ | ⟨h1, h2, h3⟩
  · rw [hk] at h3; cases h3
  · rw [hk] at h3; cases h3; exact ⟨h1, h2, rfl⟩
theorem at3 {w : World} {p : Addr} {i j : Nat} {v : Value} (h : w.cell? ((p.add (i * 3)).add j) = some v) : w.cell? ((p.add ((i : Int).toNat * 3)).add j) = some v := by rw [Int.toNat_natCast]; exact h
theorem lexV_err : ∀ (f : Nat) (s : List UInt8) (i k : Nat), s.length ≤ f → lexV s i = .error k → i ≤ k ∧ k < i + s.length
  | f, [], i, k, _, h => by rw [lexV_nil] at h; cases h
  | 0, c :: r, i, k, h, _ => by simp at h
  | f + 1, c :: r, i, k, h, he => by
    simp only [List.length_cons] at h ⊢
    cases hb : blank c with
    | true =>
      rw [lexV_blank i hb] at he
      have := lexV_err f r (i + 1) k (by omega) he
      omega
    | false =>
      have hl := tokV_len (c :: r) (by simp)
      by_cases h0 : (tokV (c :: r)).1 = 0
      · rw [lexV_bad i hb h0] at he; cases he; omega
      · rw [lexV_tok i hb h0] at he
        cases hr : lexV ((c :: r).drop (tokV (c :: r)).2) (i + (tokV (c :: r)).2) with
        | error e =>
          rw [hr] at he
          have e2 : e = k := by cases he; rfl
          have := lexV_err f _ _ e (by rw [List.length_drop]; simp only [List.length_cons]; omega) hr
          rw [List.length_drop] at this
          simp only [List.length_cons] at this hl; omega
        | ok l => rw [hr] at he; cases he
theorem andm (x : Int) (k : Nat) (hk : k ≤ 16) : bits .and .i64 x ((2 ^ k - 1 : Nat) : Int) = (((BitVec.ofInt 64 x).toNat % 2 ^ k : Nat) : Int) := by
  have h1 : 2 ^ k ≤ 2 ^ 16 := Nat.pow_le_pow_right (by decide) hk
  have h0 : 0 < 2 ^ k := Nat.two_pow_pos k
  have e : (2 : Nat) ^ 16 = 65536 := by decide
  have hc : (BitVec.ofInt 64 ((2 ^ k - 1 : Nat) : Int)).toNat = 2 ^ k - 1 := by rw [BitVec.toNat_ofInt]; omega
  show IntKind.i64.wrap ((BitVec.ofInt 64 x &&& BitVec.ofInt 64 ((2 ^ k - 1 : Nat) : Int)).toNat : Int) = _
  have h2 : (BitVec.ofInt 64 x).toNat % 2 ^ k < 2 ^ k := Nat.mod_lt _ h0
  rw [BitVec.toNat_and, hc, Nat.and_two_pow_sub_one_eq_mod, wrap_i64 _ (by omega) (by omega)]
theorem and65535 (x : Int) : ∃ n : Nat, bits .and .i64 x 65535 = n := ⟨_, andm x 16 (by decide)⟩
theorem and3 (x : Int) : ∃ n : Nat, bits .and .i64 x 3 = n ∧ n < 4 := ⟨_, andm x 2 (by decide), Nat.mod_lt _ (by decide)⟩
end Go.Proofs.YtcljmclolpgdmaaGreatDoor
