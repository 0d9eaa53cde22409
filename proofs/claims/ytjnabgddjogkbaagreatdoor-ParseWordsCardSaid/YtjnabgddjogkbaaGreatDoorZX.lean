/- Plain: tokens behind tokens, ahead of a cut, written again. · What Lex tells, in the form that the statements use. -/
import Derived.Test.YtjnabgddjogkbaaGreatDoorZT
namespace Go.Proofs.YtjnabgddjogkbaaGreatDoor
open Go.RowKit Go.Bw Go.Bw.Fl
set_option linter.unusedVariables false
set_option linter.unusedSimpArgs false
theorem readV_take_none {pf' : List UInt8 → Option Nat} {s : List UInt8} (q : Nat) (hq : Lib.hasPrefix s [39] = false) (h : readV pf' uqV s = none) : readV pf' uqV (s.take q) = none := by
  have hmono : ∀ y, Lib.hasPrefix (s.take q) y = true → Lib.hasPrefix s y = true := fun y hy => by rw [pre_take, Bool.and_eq_true] at hy; exact hy.1
  unfold readV at h ⊢
  rw [hq, if_neg (show ¬ (false = true) by decide)] at h
  rw [pre_take_f q hq, if_neg (show ¬ (false = true) by decide)]
  by_cases h1 : Lib.hasPrefix s wNull = true
  · rw [if_pos h1] at h; cases h
  · rw [if_neg h1] at h
    rw [pre_take_f q (by simpa using h1), if_neg (show ¬ (false = true) by decide)]
    by_cases h2 : Lib.hasPrefix s wFalse = true
    · rw [if_pos h2] at h; cases h
    · rw [if_neg h2] at h
      rw [pre_take_f q (by simpa using h2), if_neg (show ¬ (false = true) by decide)]
      by_cases h3 : Lib.hasPrefix s wTrue = true
      · rw [if_pos h3] at h; cases h
      · rw [if_neg h3] at h
        rw [pre_take_f q (by simpa using h3), if_neg (show ¬ (false = true) by decide)]
        cases hf : words3.find? (fun x => Lib.hasPrefix s x) with
        | some x => rw [hf] at h; cases h
        | none =>
          rw [hf] at h
          rw [find_none hmono hf]
          cases hg : floatAt pf' s with
          | some r => rw [hg] at h; cases h
          | none =>
            rw [hg] at h
            rw [floatAt_take_none q hg]
            simp only at h ⊢
            rw [downI_eq, downG_none] at h ⊢
            intro i hi
            rw [lead_take] at hi
            have := h i (by omega)
            unfold intG at this ⊢
            rw [List.take_take, Nat.min_eq_left (by omega)]; exact this
theorem rdN_some {s : List UInt8} {v : Val} {n : Nat} (h : readV pf uqV s = some (v, n)) : rdN s = n := by unfold rdN; rw [h]; rfl
theorem rdN_pos {s : List UInt8} (h : 0 < rdN s) : ∃ v, readV pf uqV s = some (v, rdN s) := by
  cases hr : readV pf uqV s with
  | none => unfold rdN at h; rw [hr] at h; simp at h
  | some r => exact ⟨r.1, by rw [rdN_some (v := r.1) (n := r.2) hr]⟩
theorem rdN_zero {s : List UInt8} (h : rdN s = 0) : readV pf uqV s = none := by
  cases hr : readV pf uqV s with
  | none => rfl
  | some r =>
    have h1 := readV_len (v := r.1) (n := r.2) hr
    have h2 := rdN_some (v := r.1) (n := r.2) hr
    omega
theorem rdN_take {s : List UInt8} {q : Nat} (hq : Lib.hasPrefix s [39] = false) (h : rdN s ≤ q) : rdN (s.take q) = rdN s := by
  rcases Nat.eq_zero_or_pos (rdN s) with h0 | h0
  · have := readV_take_none q hq (rdN_zero h0)
    rw [h0]; unfold rdN; rw [this]; rfl
  · obtain ⟨v, hv⟩ := rdN_pos h0
    exact rdN_some (readV_take hv h)
theorem letN_cons (c : UInt8) (s : List UInt8) : letN (c :: s) = if isLet c = true then letN s + 1 else 0 := by
  unfold letN; rw [List.takeWhile_cons]; split <;> simp
theorem letN_take : ∀ (s : List UInt8) (q : Nat), letN (s.take q) = min (letN s) q
  | [], q => by rw [List.take_nil]; show 0 = min 0 q; omega
  | x :: r, 0 => by rw [List.take_zero]; show 0 = _; omega
  | x :: r, q + 1 => by
    rw [List.take_succ_cons, letN_cons, letN_cons, letN_take r q]
    split <;> omega
theorem letN_app (c : UInt8) (m : List UInt8) (hc : isLet c = false) : ∀ s, letN (s ++ c :: m) = letN s
  | [] => by rw [List.nil_append, letN_cons, hc]; rfl
  | x :: r => by rw [List.cons_append, letN_cons, letN_cons, letN_app c m hc r]
theorem pre39 {s : List UInt8} (h : (s.getD 0 0).toNat ≠ 39) : Lib.hasPrefix s [39] = false := by
  cases hp : Lib.hasPrefix s [39] with
  | false => rfl
  | true => obtain ⟨r, rfl⟩ := (pre_one _ _).1 hp; exact absurd rfl h
theorem pre39c (s : List UInt8) : Lib.hasPrefix (45 :: s) [39] = false := pre39 (s := 45 :: s) (by show (45 : UInt8).toNat ≠ 39; decide)
theorem getD_take {s : List UInt8} {q : Nat} (h : 0 < q) : (s.take q).getD 0 0 = s.getD 0 0 := by
  cases s with
  | nil => simp
  | cons c r => cases q with
    | zero => omega
    | succ q => rfl
theorem getD_app {s m : List UInt8} (h : s ≠ []) : (s ++ m).getD 0 0 = s.getD 0 0 := by
  cases s with
  | nil => exact absurd rfl h
  | cons c r => rfl
/-- ahead of a cut behind it the token is the same -/
theorem tokV_take {s : List UInt8} {k n q : Nat} (h : tokV s = (k, n)) (hk : k ≠ 0) (hn : 0 < n) (hq : n ≤ q) : tokV (s.take q) = (k, n) := by
  have hg := getD_take (s := s) (q := q) (by omega)
  unfold tokV at h
  split at h
  · rename_i hc
    split at h
    · rename_i h4
      cases h
      obtain ⟨v, hv⟩ := rdN_pos h4.2
      have e := rdN_some (readV_take hv hq)
      rw [← e]
      exact tokV_q (by rw [hg]; exact h4.1) (by rw [e]; exact h4.2)
    · rename_i h4
      split at h
      · rename_i h3
        cases h
        have e1 := rdN_take (s := s) (q := q) (pre39 h3.2) (by omega)
        have e2 := rdN_take (s := 45 :: s) (q := q + 1) (pre39c s) (by omega)
        rw [List.take_succ_cons] at e2
        have h5 := tokV_n (s := s.take q) (by rw [hg]; exact hc) (by rw [hg, e1]; exact h4) (by rw [hg, e1, e2]; exact h3)
        rw [e1, e2] at h5; exact h5
      · cases h; exact absurd rfl hk
  · rename_i hc
    have hl := letN_take s q
    have hc' : ¬ (((s.take q).getD 0 0).toNat = 39 ∨ (48 ≤ ((s.take q).getD 0 0).toNat ∧ ((s.take q).getD 0 0).toNat ≤ 57)) := by rw [hg]; exact hc
    split at h
    · rename_i h0
      split at h
      · rename_i h2
        cases h
        have e : letN (s.take q) = letN s := by omega
        have e2 : (s.take q).take (letN (s.take q)) = s.take (letN s) := by rw [e, List.take_take, Nat.min_eq_left hq]
        rw [← e]; exact tokV_k hc' (by omega) (by rw [e2]; exact h2)
      · rename_i h2
        split at h
        · rename_i h1
          cases h
          have e : letN (s.take q) = letN s := by omega
          have e2 : (s.take q).take (letN (s.take q)) = s.take (letN s) := by rw [e, List.take_take, Nat.min_eq_left hq]
          rw [← e]; exact tokV_w hc' (by omega) (by rw [e2]; exact h2) (by rw [e2]; exact h1)
        · cases h; exact absurd rfl hk
    · rename_i h0
      split at h
      · rename_i x hx
        cases h
        have hp := (find_sign hx).1
        exact tokV_s hc' (by omega) (find_take (fun y hy => by rw [pre_take, Bool.and_eq_true] at hy; exact hy.1) (pre_take_t hp hq) hx)
      · cases h; exact absurd rfl hk
/-- more behind it, the token is the same -/
theorem tokV_appc {s : List UInt8} (m : List UInt8) {c : UInt8} (hc : Stop c) (hl : isLet c = false) (hs : ∀ x, x ∈ signsV → c ∉ x) (hne : s ≠ []) (hq : (s.getD 0 0).toNat = 39 → rdN (s ++ c :: m) = rdN s) : tokV (s ++ c :: m) = tokV s := by
  have e0 : (s ++ c :: m).getD 0 0 = s.getD 0 0 := getD_app hne
  have e1 : rdN (s ++ c :: m) = rdN s := by
    by_cases h : (s.getD 0 0).toNat = 39
    · exact hq h
    · unfold rdN; rw [readV_app pf uqV s m hc (pre39 h)]
  have e2 : rdN (45 :: (s ++ c :: m)) = rdN (45 :: s) := by
    unfold rdN; rw [← List.cons_append, readV_app pf uqV (45 :: s) m hc (pre39c s)]
  have e3 := letN_app c m hl s
  have e4 : (s ++ c :: m).take (letN s) = s.take (letN s) := List.take_append_of_le_length (letN_le s)
  unfold tokV
  rw [e0, e1, e2, e3, e4, find_eq (p' := fun x => Lib.hasPrefix s x) (fun x hx => pre_app _ _ _ _ (hs x hx))]
theorem sign_no32 : ∀ x, x ∈ signsV → (32 : UInt8) ∉ x := by decide
theorem tokV_blank {s : List UInt8} (m : List UInt8) {k n : Nat} (h : tokV s = (k, n)) (hk : k ≠ 0) (hne : s ≠ []) : tokV (s ++ 32 :: m) = (k, n) := by
  rw [← h]
  refine tokV_appc m stop32 (by decide +kernel) sign_no32 hne (fun hc => ?_)
  have h0 : 0 < rdN s := by
    rcases Nat.eq_zero_or_pos (rdN s) with h0 | h0
    · exfalso
      have := tokV_m (s := s) (.inl hc) (by rw [h0]; omega) (fun h => h.2 hc)
      rw [this] at h; cases h; exact hk rfl
    · exact h0
  obtain ⟨v, hv⟩ := rdN_pos h0
  exact rdN_some (readV_more m stop32 hv)

/-! ### rows of tokens -/
def Tok.up (d : Nat) (t : Tok) : Tok := ⟨t.k, t.t, t.a + d⟩
/-- further on, the same -/
theorem lexV_shift (d : Nat) : ∀ (f : Nat) (s : List UInt8) (i : Nat), s.length ≤ f → lexV s (i + d) = match lexV s i with
    | .error e => .error (e + d)
    | .ok l => .ok (l.map (Tok.up d))
  | f, [], i, _ => rfl
  | 0, c :: r, i, h => by simp at h
  | f + 1, c :: r, i, h => by
    simp only [List.length_cons] at h
    cases hb : blank c with
    | true => rw [lexV_blank _ hb, lexV_blank _ hb, show i + d + 1 = i + 1 + d by omega, lexV_shift d f r (i + 1) (by omega)]
    | false =>
      have hl := tokV_len (c :: r) (by simp)
      by_cases h0 : (tokV (c :: r)).1 = 0
      · rw [lexV_bad _ hb h0, lexV_bad _ hb h0]
      · rw [lexV_tok _ hb h0, lexV_tok _ hb h0, show i + d + (tokV (c :: r)).2 = i + (tokV (c :: r)).2 + d by omega, lexV_shift d f _ _ (by rw [List.length_drop]; simp only [List.length_cons]; omega)]
        cases lexV ((c :: r).drop (tokV (c :: r)).2) (i + (tokV (c :: r)).2) <;> rfl
end Go.Proofs.YtjnabgddjogkbaaGreatDoor
namespace Go.Proofs.YtjnabgddjogkbaaGreatDoor
open Go.RowKit Go.Bw Go.Bw.Fl
set_option linter.unusedVariables false
set_option linter.unusedSimpArgs false

/-- what Lex tells, of a text that is not too long -/
def LxIs (s : List UInt8) (l : List Tok) (i e : Int) : Prop := (e = 2 ∧ l = [] ∧ ∃ k : Nat, i = k ∧ lexV s 0 = .error k) ∨ (e = 0 ∧ i = 0 ∧ lexV s 0 = .ok l)
theorem Lex_y (s : List UInt8) (hs : s.length ≤ 65536) (w : World) (hX : Lx w) : Ret Tryz.prog 15 [str s] w fun v w' => (∃ A c l i e, v = .tuple #[.slice A l.length c, .int .i64 i, .int .i64 e] ∧ Rd w' 3 A l.length (l.flatMap Tok.cells) ∧ l.length ≤ 65536 ∧ l.length ≤ c ∧ LxIs s l i e) ∧ Below w.heap.size w w' :=
  (Lex_r s (by omega) w hX).mono fun v w' ⟨h1, h2⟩ => by
    rcases h1 with ⟨h3, _⟩ | ⟨_, i, h3, h4⟩ | ⟨_, l', A, c, h3, h4, h5, h6, h7, _⟩
    · omega
    · exact ⟨⟨none, 0, [], i, 2, h4, Rd.nil _ _ _, by simp, by simp, .inl ⟨rfl, rfl, i, rfl, h3⟩⟩, h2⟩
    · exact ⟨⟨A, c, l', 0, 0, h4, h7, h5, h6, .inr ⟨rfl, rfl, h3⟩⟩, h2⟩
theorem LxIs.bad {s : List UInt8} {l : List Tok} {i e : Int} (h : LxIs s l i e) (he : e ≠ 0) : e = 2 ∧ l = [] ∧ ∃ k : Nat, i = k ∧ lexV s 0 = .error k := by
  rcases h with h | h
  · exact h
  · exact absurd h.1 he
theorem LxIs.good {s : List UInt8} {l : List Tok} {i e : Int} (h : LxIs s l i e) (he : e = 0) : i = 0 ∧ lexV s 0 = .ok l := by
  rcases h with h | h
  · have := h.1; omega
  · exact h.2
theorem LxIs.err {s : List UInt8} {l : List Tok} {i e : Int} {k : Nat} (h : LxIs s l i e) (hk : lexV s 0 = .error k) : e = 2 ∧ i = k := by
  rcases h with ⟨h1, _, k', h2, h3⟩ | ⟨_, _, h3⟩
  · rw [hk] at h3; cases h3; exact ⟨h1, h2⟩
  · rw [hk] at h3; cases h3
theorem LxIs.fine {s : List UInt8} {l l' : List Tok} {i e : Int} (h : LxIs s l i e) (hk : lexV s 0 = .ok l') : e = 0 ∧ i = 0 ∧ l = l' := by
  rcases h with ⟨h1, _, k', h2, h3⟩ | ⟨h1, h2, h3⟩
  · rw [hk] at h3; cases h3
  · rw [hk] at h3; cases h3; exact ⟨h1, h2, rfl⟩
theorem at3 {w : World} {p : Addr} {i j : Nat} {v : Value} (h : w.cell? ((p.add (i * 3)).add j) = some v) : w.cell? ((p.add ((i : Int).toNat * 3)).add j) = some v := by rw [Int.toNat_natCast]; exact h
theorem andm (x : Int) (k : Nat) (hk : k ≤ 16) : bits .and .i64 x ((2 ^ k - 1 : Nat) : Int) = (((BitVec.ofInt 64 x).toNat % 2 ^ k : Nat) : Int) := by
  have h1 : 2 ^ k ≤ 2 ^ 16 := Nat.pow_le_pow_right (by decide) hk
  have h0 : 0 < 2 ^ k := Nat.two_pow_pos k
  have e : (2 : Nat) ^ 16 = 65536 := by decide
  have hc : (BitVec.ofInt 64 ((2 ^ k - 1 : Nat) : Int)).toNat = 2 ^ k - 1 := by rw [BitVec.toNat_ofInt]; omega
  show IntKind.i64.wrap ((BitVec.ofInt 64 x &&& BitVec.ofInt 64 ((2 ^ k - 1 : Nat) : Int)).toNat : Int) = _
  have h2 : (BitVec.ofInt 64 x).toNat % 2 ^ k < 2 ^ k := Nat.mod_lt _ h0
  rw [BitVec.toNat_and, hc, Nat.and_two_pow_sub_one_eq_mod, wrap_i64 _ (by omega) (by omega)]
theorem and65535 (x : Int) : ∃ n : Nat, bits .and .i64 x 65535 = n := ⟨_, andm x 16 (by decide)⟩
theorem and3 (x : Int) : ∃ n : Nat, bits .and .i64 x 3 = n ∧ n < 4 := ⟨_, andm x 2 (by decide), Nat.mod_lt _ (by decide)⟩
end Go.Proofs.YtjnabgddjogkbaaGreatDoor
