/- Plain: words as variables, labels, properties. · The statement ParseWords, by the calculus. -/
import Derived.Test.YtjnabgddjogkbaaGreatDoorZP6
import Derived.Test.YtjnabgddjogkbaaGreatDoorZX
import Derived.Test.YtjnabgddjogkbaaGreatDoorZM
namespace Go.Proofs.YtjnabgddjogkbaaGreatDoor
open Go.RowKit Go.Bw Go.Bw.Fl
set_option linter.unusedVariables false
set_option linter.unusedSimpArgs false
def wd1 (s : List UInt8) : List UInt8 := [40, 120, 58] ++ s ++ [41]
def wd2 (s : List UInt8) : List UInt8 := [40] ++ s ++ [58, 76, 41]
def wd3 (s : List UInt8) : List UInt8 := [40, 87, 72, 69, 82, 69, 32] ++ s ++ [32, 61, 32, 49, 41]
/-- may it be a name -/
def nameV (s : List UInt8) : Bool := wordA s && !decide (s ∈ keysV)
theorem letN_self {s : List UInt8} (h : ∀ c, c ∈ s → isLet c = true) : letN s = s.length :=
  letN_of (Nat.le_refl _) (fun j hj => h _ (by simp [List.getD, hj])) (fun hj => absurd hj (Nat.lt_irrefl _))
/-- the token at a row of letters -/
theorem word_tok {s : List UInt8} (h : ∀ c, c ∈ s → isLet c = true) (hne : s ≠ []) (hd : ¬ (48 ≤ (s.getD 0 0).toNat ∧ (s.getD 0 0).toNat ≤ 57)) {c : UInt8} (hc : isLet c = false) (m : List UInt8) : tokV (s ++ c :: m) = if s ∈ keysV then (2, s.length) else if wordV s = true then (1, s.length) else (0, 0) := by
  have hl : letN (s ++ c :: m) = s.length := by rw [letN_app c m hc, letN_self h]
  have hg : (s ++ c :: m).getD 0 0 = s.getD 0 0 := getD_app hne
  have h0 := List.length_pos_iff.2 hne
  have h39 : ¬ (s.getD 0 0).toNat = 39 := fun e => by
    have h1 : isLet (s.getD 0 0) = true := h _ (by cases s with | nil => exact absurd rfl hne | cons x r => simp [List.getD])
    have h2 : s.getD 0 0 = 39 := UInt8.toNat_inj.1 e
    rw [h2] at h1; exact absurd h1 (by decide +kernel)
  unfold tokV
  rw [hg, if_neg (fun e => by rcases e with e | e; exact h39 e; exact hd e), hl, if_pos h0, List.take_left]
theorem letter_nb {s : List UInt8} (h : ∀ c, c ∈ s → isLet c = true) (hne : s ≠ []) : blank (s.getD 0 0) = false := by
  have h1 : isLet (s.getD 0 0) = true := h _ (by cases s with | nil => exact absurd rfl hne | cons x r => simp [List.getD])
  have key : ∀ n : Fin 256, isLet (UInt8.ofNat n.val) = true → blank (UInt8.ofNat n.val) = false := by decide +kernel
  have h2 := key ⟨(s.getD 0 0).toNat, UInt8.toNat_lt _⟩
  rw [show UInt8.ofNat (s.getD 0 0).toNat = s.getD 0 0 from UInt8.ofNat_toNat] at h2
  exact h2 h1
theorem digit_tok {s : List UInt8} (hd : 48 ≤ (s.getD 0 0).toNat ∧ (s.getD 0 0).toNat ≤ 57) (m : List UInt8) (hne : s ≠ []) : (tokV (s ++ m)).1 = 3 ∨ (tokV (s ++ m)).1 = 0 := by
  have hg : (s ++ m).getD 0 0 = s.getD 0 0 := getD_app hne
  unfold tokV
  rw [hg, if_pos (.inr hd), if_neg (fun e => by omega)]
  split
  · exact .inl rfl
  · exact .inr rfl
theorem parse_bad {s : List UInt8} {i : Nat} (h : lexV s 0 = .error i) : ∃ q a e, parseV s = (q, a, e) ∧ e ≠ 0 := by
  unfold parseV
  split
  · exact ⟨_, _, _, rfl, by decide⟩
  · rw [h]; exact ⟨_, _, _, rfl, by decide⟩
theorem parse_tok {s : List UInt8} {l : List Tok} (h : lexV s 0 = .ok l) (hs : s.length ≤ 65536) : parseV s = parseT s.length l := by unfold parseV; rw [if_neg (by omega), h]
theorem lex_p1 (m : List UInt8) : lexV ([40, 120, 58] ++ m) 0 = (lexV m 3).map fun l => ⟨5, [40], 0⟩ :: ⟨1, [120], 1⟩ :: ⟨5, [58], 2⟩ :: l := by
  have h1 : tokV (40 :: 120 :: 58 :: m) = (5, 1) := by kernel_rfl
  have h2 : tokV (120 :: 58 :: m) = (1, 1) := by kernel_rfl
  have h3 : tokV (58 :: m) = (5, 1) := by kernel_rfl
  show lexV (40 :: 120 :: 58 :: m) 0 = _
  rw [lexV_step h1 ⟨by simp, show blank 40 = false by decide⟩ (by decide), show (40 :: 120 :: 58 :: m).drop 1 = 120 :: 58 :: m from rfl, lexV_step h2 ⟨by simp, show blank 120 = false by decide⟩ (by decide), show (120 :: 58 :: m).drop 1 = 58 :: m from rfl, lexV_step h3 ⟨by simp, show blank 58 = false by decide⟩ (by decide), show (58 :: m).drop 1 = m from rfl]
  cases lexV m (0 + 1 + 1 + 1) <;> rfl
theorem lex_p2 {s : List UInt8} (h : ∀ c, c ∈ s → isLet c = true) (hne : s ≠ []) (m : List UInt8) : lexV ([40] ++ (s ++ m)) 0 = (lexV (s ++ m) 1).map fun l => ⟨5, [40], 0⟩ :: l := by
  obtain ⟨c, r, rfl⟩ : ∃ c r, s = c :: r := by cases s with | nil => exact absurd rfl hne | cons c r => exact ⟨c, r, rfl⟩
  have hc := h c (List.mem_cons_self ..)
  have h1 : tokV (40 :: (c :: r ++ m)) = (5, 1) := by kernel_rfl
  show lexV (40 :: (c :: r ++ m)) 0 = _
  rw [lexV_step h1 ⟨by simp, show blank 40 = false by decide⟩ (by decide), show (40 :: (c :: r ++ m)).drop 1 = c :: r ++ m from rfl]
  cases lexV (c :: r ++ m) (0 + 1) <;> rfl
theorem lex_bad {t : List UInt8} (i : Nat) (hne : t ≠ []) (hb : blank (t.getD 0 0) = false) (h : (tokV t).1 = 0) : lexV t i = .error i := by
  obtain ⟨c, r, rfl⟩ : ∃ c r, t = c :: r := by cases t with | nil => exact absurd rfl hne | cons c r => exact ⟨c, r, rfl⟩
  exact lexV_bad i hb h
/-- a token of kind 3 where a word must stand -/
theorem q_num1 (en i : Nat) (t : List UInt8) (r : List Tok) : pQuery en (⟨5, [40], 0⟩ :: ⟨1, [120], 1⟩ :: ⟨5, [58], 2⟩ :: ⟨3, t, i⟩ :: r) = .err (i : Int) 2 := by kernel_rfl
theorem q_num2 (en i : Nat) (t : List UInt8) (r : List Tok) : pQuery en (⟨5, [40], 0⟩ :: ⟨3, t, i⟩ :: r) = .err (i : Int) 2 := by kernel_rfl
theorem q_w1 (en i j : Nat) (s : List UInt8) : pQuery en [⟨5, [40], 0⟩, ⟨1, [120], 1⟩, ⟨5, [58], 2⟩, ⟨1, s, i⟩, ⟨5, [41], j⟩] = .ok ⟨0, 0, 0, .mk 1 [120] 0 (.mk 4 s nullV []) noE 0 0 []⟩ [] := by kernel_rfl
theorem q_w2 (en i j k l : Nat) (s : List UInt8) : pQuery en [⟨5, [40], 0⟩, ⟨1, s, i⟩, ⟨5, [58], j⟩, ⟨1, [76], k⟩, ⟨5, [41], l⟩] = .ok ⟨0, 0, 0, .mk 1 s 0 (.mk 4 [76] nullV []) noE 0 0 []⟩ [] := by kernel_rfl
theorem q_w3 (en i j k l m : Nat) (s : List UInt8) : pQuery en [⟨5, [40], 0⟩, ⟨2, wWhere, m⟩, ⟨1, s, i⟩, ⟨5, [61], j⟩, ⟨3, [49], k⟩, ⟨5, [41], l⟩] = .ok ⟨0, 0, 0, .mk 1 [] 0 noE (.mk 3 [61] nullV [.mk 2 s nullV [], .mk 1 [] ⟨2, 1, 0, []⟩ []]) 0 0 []⟩ [] := by kernel_rfl
theorem keys_no : ∀ s, s ∈ keysV → (parseV (wd1 s)).2.2 ≠ 0 ∧ (parseV (wd2 s)).2.2 ≠ 0 := by decide +kernel
theorem none_eq : (parseV (wd1 [])).2.2 ≠ 0 ∧ (parseV (wd2 [])).2.2 = 0 := by decide +kernel
/-- nothing that is no name is one -/
theorem words_no {s : List UInt8} (hl : s.length ≤ 50) (h : ∀ c, c ∈ s → isLet c = true) (hn : nameV s = false) : (parseV (wd1 s)).2.2 ≠ 0 ∧ ((parseV (wd2 s)).2.2 = 0 ↔ s = []) := by
  by_cases h0 : s = []
  · subst h0; exact ⟨none_eq.1, fun _ => rfl, fun _ => none_eq.2⟩
  · suffices hh : (parseV (wd1 s)).2.2 ≠ 0 ∧ (parseV (wd2 s)).2.2 ≠ 0 from ⟨hh.1, fun e => absurd e hh.2, fun e => absurd e h0⟩
    have hb := letter_nb h h0
    have e1 : wd1 s = [40, 120, 58] ++ (s ++ [41]) := by unfold wd1; rw [List.append_assoc]
    have e2 : wd2 s = [40] ++ (s ++ [58, 76, 41]) := by unfold wd2; rw [List.append_assoc]
    have hg1 : (s ++ [41]).getD 0 0 = s.getD 0 0 := getD_app h0
    have hg2 : (s ++ [58, 76, 41]).getD 0 0 = s.getD 0 0 := getD_app h0
    have l1 : (wd1 s).length ≤ 65536 := by rw [e1]; simp; omega
    have l2 : (wd2 s).length ≤ 65536 := by rw [e2]; simp; omega
    have bad1 : (tokV (s ++ [41])).1 = 0 → (parseV (wd1 s)).2.2 ≠ 0 := fun ht => by
      obtain ⟨q, a, e, h1, h2⟩ := parse_bad (s := wd1 s) (i := 3) (by rw [e1, lex_p1, lex_bad 3 (by simp [h0]) (by rw [hg1]; exact hb) ht]; rfl)
      rw [h1]; exact h2
    have bad2 : (tokV (s ++ [58, 76, 41])).1 = 0 → (parseV (wd2 s)).2.2 ≠ 0 := fun ht => by
      obtain ⟨q, a, e, h1, h2⟩ := parse_bad (s := wd2 s) (i := 1) (by rw [e2, lex_p2 h h0, lex_bad 1 (by simp [h0]) (by rw [hg2]; exact hb) ht]; rfl)
      rw [h1]; exact h2
    by_cases hd : 48 ≤ (s.getD 0 0).toNat ∧ (s.getD 0 0).toNat ≤ 57
    · constructor
      · rcases digit_tok hd [41] h0 with ht | ht
        · have hs := lexV_step (s := s ++ [41]) (i := 3) (k := 3) (n := (tokV (s ++ [41])).2) (by rw [← ht]) ⟨by simp [h0], by rw [hg1]; exact hb⟩ (by decide)
          cases hr : lexV ((s ++ [41]).drop (tokV (s ++ [41])).2) (3 + (tokV (s ++ [41])).2) with
          | error i =>
            rw [hr] at hs
            obtain ⟨q, a, e, h1, h2⟩ := parse_bad (s := wd1 s) (i := i) (by rw [e1, lex_p1, hs]; rfl)
            rw [h1]; exact h2
          | ok l =>
            rw [hr] at hs
            have h1 := parse_tok (s := wd1 s) (by rw [e1, lex_p1, hs]; rfl) l1
            rw [h1]; unfold parseT; rw [q_num1]; show (2 : Int) ≠ 0; decide
        · exact bad1 ht
      · rcases digit_tok hd [58, 76, 41] h0 with ht | ht
        · have hs := lexV_step (s := s ++ [58, 76, 41]) (i := 1) (k := 3) (n := (tokV (s ++ [58, 76, 41])).2) (by rw [← ht]) ⟨by simp [h0], by rw [hg2]; exact hb⟩ (by decide)
          cases hr : lexV ((s ++ [58, 76, 41]).drop (tokV (s ++ [58, 76, 41])).2) (1 + (tokV (s ++ [58, 76, 41])).2) with
          | error i =>
            rw [hr] at hs
            obtain ⟨q, a, e, h1, h2⟩ := parse_bad (s := wd2 s) (i := i) (by rw [e2, lex_p2 h h0, hs]; rfl)
            rw [h1]; exact h2
          | ok l =>
            rw [hr] at hs
            have h1 := parse_tok (s := wd2 s) (by rw [e2, lex_p2 h h0, hs]; rfl) l2
            rw [h1]; unfold parseT; rw [q_num2]; show (2 : Int) ≠ 0; decide
        · exact bad2 ht
    · by_cases hk : s ∈ keysV
      · exact keys_no s hk
      · have hw : ¬ wordV s = true := fun e => by
          unfold nameV at hn
          rw [wordA_let h, e] at hn
          simp [hk] at hn
        have t1 := word_tok h h0 hd (c := 41) (by decide +kernel) []
        have t2 := word_tok h h0 hd (c := 58) (by decide +kernel) [76, 41]
        rw [if_neg hk, if_neg hw] at t1 t2
        exact ⟨bad1 (by rw [t1]), bad2 (by rw [t2])⟩
theorem words_yes {s : List UInt8} (hl : s.length ≤ 50) (h : ∀ c, c ∈ s → isLet c = true) (hn : nameV s = true) : parseV (wd1 s) = (⟨0, 0, 0, .mk 1 [120] 0 (.mk 4 s nullV []) noE 0 0 []⟩, 0, 0) ∧ parseV (wd2 s) = (⟨0, 0, 0, .mk 1 s 0 (.mk 4 [76] nullV []) noE 0 0 []⟩, 0, 0) ∧ parseV (wd3 s) = (⟨0, 0, 0, .mk 1 [] 0 noE (.mk 3 [61] nullV [.mk 2 s nullV [], .mk 1 [] ⟨2, 1, 0, []⟩ []]) 0 0 []⟩, 0, 0) := by
  obtain ⟨hw, hk⟩ : wordV s = true ∧ ¬ s ∈ keysV := by
    unfold nameV at hn
    rw [wordA_let h] at hn
    simpa using hn
  obtain ⟨h0, _, hd⟩ : s ≠ [] ∧ s.length ≤ 40 ∧ ¬ (48 ≤ (s.getD 0 0).toNat ∧ (s.getD 0 0).toNat ≤ 57) := of_decide_eq_true hw
  have hb := letter_nb h h0
  have e1 : wd1 s = [40, 120, 58] ++ (s ++ [41]) := by unfold wd1; rw [List.append_assoc]
  have e2 : wd2 s = [40] ++ (s ++ [58, 76, 41]) := by unfold wd2; rw [List.append_assoc]
  have e3 : wd3 s = [40, 87, 72, 69, 82, 69, 32] ++ (s ++ [32, 61, 32, 49, 41]) := by unfold wd3; rw [List.append_assoc]
  have tk : ∀ (c : UInt8) (m : List UInt8) (i : Nat), isLet c = false → lexV (s ++ c :: m) i = (lexV (c :: m) (i + s.length)).map fun l => ⟨1, s, i⟩ :: l := fun c m i hc => by
    have ht := word_tok h h0 hd hc m
    rw [if_neg hk, if_pos hw] at ht
    rw [lexV_step ht ⟨by simp, by rw [getD_app h0]; exact hb⟩ (by decide), List.drop_left, List.take_left]
  have c1 : ∀ i, lexV [41] i = .ok [⟨5, [41], i⟩] := fun i => by rw [lexV_step (k := 5) (n := 1) (by kernel_rfl) (by decide) (by decide)]; rfl
  have c2 : ∀ i, lexV [58, 76, 41] i = .ok [⟨5, [58], i⟩, ⟨1, [76], i + 1⟩, ⟨5, [41], i + 2⟩] := fun i => by
    rw [lexV_step (k := 5) (n := 1) (by kernel_rfl) (by decide) (by decide), show ([58, 76, 41] : List UInt8).drop 1 = [76, 41] from rfl, lexV_step (k := 1) (n := 1) (by kernel_rfl) (by decide) (by decide), show ([76, 41] : List UInt8).drop 1 = [41] from rfl, c1]; rfl
  have c3 : ∀ i, lexV [32, 61, 32, 49, 41] i = .ok [⟨5, [61], i + 1⟩, ⟨3, [49], i + 3⟩, ⟨5, [41], i + 4⟩] := fun i => by
    rw [lexV_blank i (by decide), lexV_step (k := 5) (n := 1) (by kernel_rfl) (by decide) (by decide), show ([61, 32, 49, 41] : List UInt8).drop 1 = [32, 49, 41] from rfl, lexV_blank _ (by decide), lexV_step (k := 3) (n := 1) (by kernel_rfl) (by decide) (by decide), show ([49, 41] : List UInt8).drop 1 = [41] from rfl, c1]; rfl
  have l1 : (wd1 s).length ≤ 65536 := by rw [e1]; simp; omega
  have l2 : (wd2 s).length ≤ 65536 := by rw [e2]; simp; omega
  have l3 : (wd3 s).length ≤ 65536 := by rw [e3]; simp; omega
  refine ⟨?_, ?_, ?_⟩
  · have h1 := parse_tok (s := wd1 s) (l := [⟨5, [40], 0⟩, ⟨1, [120], 1⟩, ⟨5, [58], 2⟩, ⟨1, s, 3⟩, ⟨5, [41], 3 + s.length⟩]) (by rw [e1, lex_p1, tk 41 [] 3 (by decide +kernel), c1]; rfl) l1
    rw [h1]; unfold parseT; rw [q_w1]; exact if_neg (by show ¬ (50 < 1 ∨ tooDeep (.mk 1 [120] 0 (.mk 4 s nullV []) noE 0 0 []) = true); rw [show tooDeep (.mk 1 [120] 0 (.mk 4 s nullV []) noE 0 0 []) = false by kernel_rfl]; decide)
  · have h1 := parse_tok (s := wd2 s) (l := [⟨5, [40], 0⟩, ⟨1, s, 1⟩, ⟨5, [58], 1 + s.length⟩, ⟨1, [76], 1 + s.length + 1⟩, ⟨5, [41], 1 + s.length + 2⟩]) (by rw [e2, lex_p2 h h0, tk 58 [76, 41] 1 (by decide +kernel), c2]; rfl) l2
    rw [h1]; unfold parseT; rw [q_w2]; exact if_neg (by show ¬ (50 < 1 ∨ tooDeep (.mk 1 s 0 (.mk 4 [76] nullV []) noE 0 0 []) = true); rw [show tooDeep (.mk 1 s 0 (.mk 4 [76] nullV []) noE 0 0 []) = false by kernel_rfl]; decide)
  · have hlex : lexV (wd3 s) 0 = .ok [⟨5, [40], 0⟩, ⟨2, wWhere, 1⟩, ⟨1, s, 7⟩, ⟨5, [61], 7 + s.length + 1⟩, ⟨3, [49], 7 + s.length + 3⟩, ⟨5, [41], 7 + s.length + 4⟩] := by
      have h1 : tokV (40 :: 87 :: 72 :: 69 :: 82 :: 69 :: 32 :: (s ++ [32, 61, 32, 49, 41])) = (5, 1) := by kernel_rfl
      have h2 : tokV (87 :: 72 :: 69 :: 82 :: 69 :: 32 :: (s ++ [32, 61, 32, 49, 41])) = (2, 5) := by kernel_rfl
      rw [e3]
      show lexV (40 :: 87 :: 72 :: 69 :: 82 :: 69 :: 32 :: (s ++ [32, 61, 32, 49, 41])) 0 = _
      rw [lexV_step h1 ⟨by simp, show blank 40 = false by decide⟩ (by decide), show (40 :: 87 :: 72 :: 69 :: 82 :: 69 :: 32 :: (s ++ [32, 61, 32, 49, 41])).drop 1 = 87 :: 72 :: 69 :: 82 :: 69 :: 32 :: (s ++ [32, 61, 32, 49, 41]) from rfl, lexV_step h2 ⟨by simp, show blank 87 = false by decide⟩ (by decide), show (87 :: 72 :: 69 :: 82 :: 69 :: 32 :: (s ++ [32, 61, 32, 49, 41])).drop 5 = 32 :: (s ++ [32, 61, 32, 49, 41]) from rfl, lexV_blank _ (by decide), tk 32 [61, 32, 49, 41] _ (by decide +kernel), c3]; rfl
    have h1 := parse_tok hlex l3
    rw [h1]; unfold parseT; rw [q_w3]; exact if_neg (by show ¬ (50 < 1 ∨ tooDeep (.mk 1 [] 0 noE (.mk 3 [61] nullV [.mk 2 s nullV [], .mk 1 [] ⟨2, 1, 0, []⟩ []]) 0 0 []) = true); rw [show tooDeep (.mk 1 [] 0 noE (.mk 3 [61] nullV [.mk 2 s nullV [], .mk 1 [] ⟨2, 1, 0, []⟩ []]) 0 0 []) = false by kernel_rfl]; decide)
end Go.Proofs.YtjnabgddjogkbaaGreatDoor
namespace Go.Proofs.YtjnabgddjogkbaaGreatDoor
open Go.RowKit Go.Bw Go.Bw.Fl
set_option linter.unusedVariables false
set_option linter.unusedSimpArgs false
theorem fa28_1PlW (p : Addr) (w : World) : (Instr.fieldAt 28 (.pointer (some p)) 1).run Tryz.prog w = .ok (.pointer (some (p.add 1))) w := run_fieldAt (i := 1) (sz := 0) Tryz.underlying28 rfl (by kernel_rfl) p w
theorem fa28_3PlW (p : Addr) (w : World) : (Instr.fieldAt 28 (.pointer (some p)) 3).run Tryz.prog w = .ok (.pointer (some (p.add 6))) w := run_fieldAt (i := 3) (sz := 0) Tryz.underlying28 rfl (by kernel_rfl) p w
theorem fa31_1PlW (p : Addr) (w : World) : (Instr.fieldAt 31 (.pointer (some p)) 1).run Tryz.prog w = .ok (.pointer (some (p.add 1))) w := run_fieldAt (i := 1) (sz := 0) Tryz.underlying31 rfl (by kernel_rfl) p w
theorem fa31_3PlW (p : Addr) (w : World) : (Instr.fieldAt 31 (.pointer (some p)) 3).run Tryz.prog w = .ok (.pointer (some (p.add 3))) w := run_fieldAt (i := 3) (sz := 6) Tryz.underlying31 rfl (by kernel_rfl) p w
theorem fa31_4PlW (p : Addr) (w : World) : (Instr.fieldAt 31 (.pointer (some p)) 4).run Tryz.prog w = .ok (.pointer (some (p.add 10))) w := run_fieldAt (i := 4) (sz := 6) Tryz.underlying31 rfl (by kernel_rfl) p w
theorem fa33_3PlW (p : Addr) (w : World) : (Instr.fieldAt 33 (.pointer (some p)) 3).run Tryz.prog w = .ok (.pointer (some (p.add 3))) w := run_fieldAt (i := 3) (sz := 19) Tryz.underlying33 rfl (by kernel_rfl) p w
theorem one26PlW : One Tryz.prog 26 := ⟨_, Tryz.underlying26, rfl, by kernel_rfl⟩
theorem one9PlW : One Tryz.prog 9 := ⟨_, Tryz.underlying9, rfl, by kernel_rfl⟩
theorem sz28PlW : (Tryz.prog.info? 28).map (·.size) = some 7 := by kernel_rfl
theorem txt11PlW : Txt Tryz.prog 11 := ⟨_, Tryz.func11, by kernel_rfl, rfl⟩   -- bridleway/bridlewaylaw11.shown
theorem txt12PlW : Txt Tryz.prog 12 := ⟨_, Tryz.func12, by kernel_rfl, rfl⟩   -- bridleway/parse.Parse
theorem txt18PlW : Txt Tryz.prog 18 := ⟨_, Tryz.func18, by kernel_rfl, rfl⟩   -- bridleway/bridlewayref10.Word
theorem txt32PlW : Txt Tryz.prog 32 := ⟨_, Tryz.func32, by kernel_rfl, rfl⟩   -- bridleway/bridlewayref06.Word
theorem txt33PlW : Txt Tryz.prog 33 := ⟨_, Tryz.func33, by kernel_rfl, rfl⟩   -- bridleway/bridlewayref06.In
theorem txt34PlW : Txt Tryz.prog 34 := ⟨_, Tryz.func34, by kernel_rfl, rfl⟩   -- bridleway/bridlewayref10.Keys
theorem RName_r (s : List UInt8) (hs : s.length ≤ 281474976710656) (w : World) : Ret Tryz.prog 18 [str s] w fun v w' => v = .bool (nameV s) ∧ Below w.heap.size w w' := by
  have hb := Below.refl w.heap.size w
  refine enter Tryz.func18 rfl rfl rfl ?_
  refine Wc.seq fun _ hK_1 => Wc.region <| Wl.sg rfl rfl <| Wl.nil <| Wq.next hK_1 <| Wc.seq fun _ hK_3 => Wc.region <| Wl.mv rfl rfl ?_
  refine Wl.call txt32PlW rfl rfl (RWord_r s hs _) rfl ?_
  rintro _ w_k0 ⟨rfl, hs_k0⟩
  have hz_k0 := hs_k0.size
  have hb := hb.trans (hs_k0.mono hb.size)
  refine Wl.sg rfl rfl <| Wl.nil <| Wq.next hK_3 <| Wc.seq fun _ hK_7 => Wc.region ?_
  refine Wl.call txt34PlW rfl rfl (RKeys_r _) rfl ?_
  rintro _ w_k1 ⟨⟨A, rfl, hR⟩, hs_k1⟩
  have hz_k1 := hs_k1.size
  have hb := hb.trans (hs_k1.mono hb.size)
  refine Wl.mv rfl rfl ?_
  refine Wl.call txt33PlW rfl rfl (RIn_r A 17 keysV s (by decide) _ hR) rfl ?_
  rintro _ w_k2 ⟨rfl, hs_k2⟩
  have hz_k2 := hs_k2.size
  have hb := hb.trans (hs_k2.mono hb.size)
  refine Wl.sg rfl rfl <| Wl.nil <| Wq.next hK_7 <| Wc.seq fun _ hK_12 => Wc.region <| Wl.mv rfl rfl <| Wl.mv rfl rfl ?_
  refine Wl.guardT rfl rfl rfl (fun g_15 => ?_) (fun g_15 => ?_)
  ·
   have g_15_ := g_15
   try simp only [DZ] at g_15
   have hw : wordA s = true := g_15_
   refine Wl.mv rfl rfl <| Wl.on' rfl rfl g_15_ <| Wl.y (y_not rfl) rfl ?_
   refine Wl.y (y_pickT rfl g_15_ rfl) rfl ?_
   refine Wl.sg rfl rfl <| Wl.nil <| Wq.next hK_12 <| Wc.ret ?_
   refine ret1 rfl rfl ?_
   exact ⟨_, rfl, bool_eq (by unfold nameV; rw [hw]; rfl), hb⟩
  have g_15_ := g_15
  try simp only [DZ] at g_15
  have hw : wordA s = false := g_15_
  refine Wl.off' rfl rfl g_15_ rfl rfl ?_
  refine Wl.y (y_pickF rfl g_15_ rfl) rfl ?_
  refine Wl.sg rfl rfl <| Wl.nil <| Wq.next hK_12 <| Wc.ret ?_
  refine ret1 rfl rfl ?_
  exact ⟨_, rfl, bool_eq (by unfold nameV; rw [hw]; rfl), hb⟩
theorem words_all {s : List UInt8} (hl : s.length ≤ 50) (h : ∀ c, c ∈ s → isLet c = true) : ∃ (q1 : QryD) (a1 e1 : Int) (q2 : QryD) (a2 e2 : Int) (q3 : QryD) (a3 e3 : Int), parseV (wd1 s) = (q1, a1, e1) ∧ parseV (wd2 s) = (q2, a2, e2) ∧ parseV (wd3 s) = (q3, a3, e3) ∧ (e1 == 0) = nameV s ∧ (e2 == 0) = (nameV s || decide (s = [])) ∧ (nameV s = true → q1 = ⟨0, 0, 0, .mk 1 [120] 0 (.mk 4 s nullV []) noE 0 0 []⟩ ∧ q2 = ⟨0, 0, 0, .mk 1 s 0 (.mk 4 [76] nullV []) noE 0 0 []⟩ ∧ q3 = ⟨0, 0, 0, .mk 1 [] 0 noE (.mk 3 [61] nullV [.mk 2 s nullV [], .mk 1 [] ⟨2, 1, 0, []⟩ []]) 0 0 []⟩ ∧ e3 = 0) := by
  refine ⟨(parseV (wd1 s)).1, (parseV (wd1 s)).2.1, (parseV (wd1 s)).2.2, (parseV (wd2 s)).1, (parseV (wd2 s)).2.1, (parseV (wd2 s)).2.2, (parseV (wd3 s)).1, (parseV (wd3 s)).2.1, (parseV (wd3 s)).2.2, rfl, rfl, rfl, ?_⟩
  cases hn : nameV s with
  | true =>
    obtain ⟨h1, h2, h3⟩ := words_yes hl h hn
    rw [h1, h2, h3]
    exact ⟨rfl, rfl, fun _ => ⟨rfl, rfl, rfl, rfl⟩⟩
  | false =>
    obtain ⟨h1, h2⟩ := words_no hl h hn
    refine ⟨by simpa using h1, ?_, fun h => by cases h⟩
    rw [Bool.false_or, Bool.eq_iff_iff]
    simpa using h2
theorem Words_r (s : List UInt8) (w : World) (hX : Lx w) (hs : s.length ≤ 140737488355328) : Ret Tryz.prog 8 [str s] w fun v w' => v = .bool true ∧ Below w.heap.size w w' := by
  obtain ⟨x, hx⟩ : ∃ x, x = s.take 50 := ⟨_, rfl⟩
  have hxl : x.length ≤ 50 := by rw [hx]; exact List.length_take_le _ _
  have hb := Below.refl w.heap.size w
  have hX_hb := hX
  refine enter Tryz.func8 rfl rfl rfl ?_
  refine Wc.seq fun _ hK_1 => Wc.region <| Wl.sg rfl rfl <| Wl.nil <| Wq.next hK_1 <| Wc.seq fun _ hK_3 => Wc.region ?_
  refine Wl.call txt11PlW rfl rfl (pshown_r _ hX) rfl ?_
  rintro _ w_k0 ⟨rfl, hs_k0⟩
  have hz_k0 := hs_k0.size
  have hb := hb.trans (hs_k0.mono hb.size)
  have hX := hX_hb.below hb
  refine Wl.sg rfl rfl <| Wl.nil <| Wq.next hK_3 <| Wc.seq fun _ hK_6 => Wc.region <| Wl.mv rfl rfl <| Wl.mv rfl rfl ?_
  refine Wl.y (y_lens Tryz.underlying9 (by omega) rfl) rfl ?_
  refine Wl.y (y_eq (y_min rfl rfl) (int_eq (show min (s.length : Int) 50 = ((min s.length 50 : Nat) : Int) by omega))) rfl ?_
  refine Wl.y (y_eq (y_slicesH Tryz.underlying9 rfl rfl (by omega) (by omega)) (str_eq (show _ = x by rw [hx, Int.toNat_natCast]; exact List.take_eq_take_iff.2 (by omega)))) rfl ?_
  refine Wl.sg rfl rfl <| Wl.nil <| Wq.next hK_6 <| Wc.seq fun _ hK_13 => Wc.seq fun _ hK_14 => Wc.region <| Wl.sg rfl rfl <| Wl.nil <| Wq.next hK_14 <| Wc.block ?_
  refine Wc.loop (X := Nat) (fun i => [(0, str x), (3, .bool true), (4, .int .i64 (i : Int))]) (fun i wr => i ≤ x.length ∧ (∀ j, j < i → isLet (x.getD j 0) = true) ∧ Below w.heap.size w wr) (fun i => x.length - i) (0) ?_ ?_ ?_
  · exact by repeat first | exact Sub.nil | refine Sub.cons' rfl (by first | rfl | exact int_eq (by omega)) ?_
  · exact ⟨by omega, fun j h => by omega, hb⟩
  rintro i wr hI_17 _ hL_16
  replace hI_17 : i ≤ x.length ∧ (∀ j, j < i → isLet (x.getD j 0) = true) ∧ Below w.heap.size w wr := hI_17
  obtain ⟨hi, hall, hb⟩ := hI_17
  show Wc _ _ _ _ _ [(0, str x), (3, .bool true), (4, .int .i64 (i : Int))] _
  have hX := hX_hb.below hb
  try have hzhb_L0 := hb.size
  refine Wc.seq fun _ hK_18 => Wc.seq fun _ hK_19 => Wc.region <| Wl.mv rfl rfl <| Wl.mv rfl rfl ?_
  refine Wl.y (y_lens Tryz.underlying9 (by omega) rfl) rfl ?_
  refine Wl.y (y_lssi rfl rfl) rfl <| Wl.nil <| Wq.next hK_19 ?_
  refine Wc.cond rfl (fun c0_24 => ?_) (fun c0_24 => ?_)
  ·
   have c0_24_ := c0_24
   try simp only [DZ] at c0_24
   have hil : i < x.length := by have := c0_24; omega
   obtain ⟨c, hc⟩ : ∃ c, c = (x.getD i 0).toNat := ⟨_, rfl⟩
   refine Wc.skip <| Wq.next hK_18 <| Wc.seq fun _ hK_25 => Wc.block <| Wc.seq fun _ hK_26 => Wc.region <| Wl.mv rfl rfl <| Wl.mv rfl rfl ?_
   refine Wl.y (y_eq (y_indexs Tryz.underlying9 rfl rfl (by omega) (by omega)) (int_eq (show _ = (c : Int) by rw [hc, Int.toNat_natCast]))) rfl ?_
   refine Wl.sg rfl rfl <| Wl.nil <| Wq.next hK_26 <| Wc.seq fun _ hK_31 => ?_
   refine Wc.meet (X := Bool) (fun q => [(0, str x), (3, .bool true), (4, .int .i64 (i : Int)), (56, .bool q)]) (fun q wr => q = (!isLet (x.getD i 0)) ∧ Below w.heap.size w wr) (fun _ hM_32 => ?_) ?_
   ·
    refine Wc.region <| Wl.mv rfl rfl <| Wl.y (y_neqi rfl rfl) rfl <| Wl.mv rfl rfl ?_
    refine Wl.guardT rfl rfl rfl (fun g_36 => ?_) (fun g_36 => ?_)
    ·
     have g_36_ := g_36
     try simp only [DZ] at g_36
     refine Wl.mv rfl rfl <| Wl.on' rfl rfl g_36_ <| Wl.y (y_lssi rfl rfl) rfl <| Wl.on' rfl rfl g_36_ <| Wl.mv rfl rfl ?_
     refine Wl.guardF rfl rfl rfl (fun g_40 => ?_) (fun g_40 => ?_)
     ·
      have g_40_ := g_40
      try simp only [DZ] at g_40
      refine Wl.off' rfl rfl g_40_ rfl rfl <| Wl.on' rfl rfl g_36_ ?_
      refine Wl.y (y_pickT rfl g_40_ rfl) rfl ?_
      refine Wl.y (y_pickT rfl g_36_ rfl) rfl ?_
      refine Wl.mv rfl rfl <| Wl.on' rfl rfl rfl <| Wl.mv rfl rfl <| Wl.on' rfl rfl rfl <| Wl.y (y_lssi rfl rfl) rfl <| Wl.on' rfl rfl rfl <| Wl.mv rfl rfl ?_
      refine Wl.guardF rfl rfl rfl (fun g_47 => ?_) (fun g_47 => ?_)
      ·
       have g_47_ := g_47
       try simp only [DZ] at g_47
       refine Wl.off' rfl rfl g_47_ rfl rfl <| Wl.on' rfl rfl rfl ?_
       refine Wl.y (y_pickT rfl g_47_ rfl) rfl ?_
       refine Wl.y (y_pickT rfl rfl rfl) rfl <| Wl.mv rfl rfl <| Wl.on' rfl rfl rfl <| Wl.mv rfl rfl <| Wl.on' rfl rfl rfl <| Wl.y (y_lssi rfl rfl) rfl <| Wl.on' rfl rfl rfl <| Wl.mv rfl rfl ?_
       refine Wl.guardF rfl rfl rfl (fun g_54 => ?_) (fun g_54 => ?_)
       ·
        have g_54_ := g_54
        try simp only [DZ] at g_54
        refine Wl.off' rfl rfl g_54_ rfl rfl <| Wl.on' rfl rfl rfl ?_
        refine Wl.y (y_pickT rfl g_54_ rfl) rfl ?_
        refine Wl.y (y_pickT rfl rfl rfl) rfl <| Wl.nil ?_
        refine Wq.meet hM_32 (!isLet (x.getD i 0)) (by repeat first | exact Sub.nil | refine Sub.cons' rfl (by first | rfl | exact bool_eq (by rw [isLet_eq, ← hc, Bool.eq_iff_iff]; simp <;> omega)) ?_) ?_
        exact ⟨rfl, hb⟩
       have g_54_ := g_54
       try simp only [DZ] at g_54
       refine Wl.mv rfl rfl <| Wl.on' rfl rfl g_54_ <| Wl.y (y_gtri rfl rfl) rfl <| Wl.on' rfl rfl rfl ?_
       refine Wl.y (y_pickF rfl g_54_ rfl) rfl ?_
       refine Wl.y (y_pickT rfl rfl rfl) rfl <| Wl.nil ?_
       refine Wq.meet hM_32 (!isLet (x.getD i 0)) (by repeat first | exact Sub.nil | refine Sub.cons' rfl (by first | rfl | exact bool_eq (by rw [isLet_eq, ← hc, Bool.eq_iff_iff]; simp <;> omega)) ?_) ?_
       exact ⟨rfl, hb⟩
      have g_47_ := g_47
      try simp only [DZ] at g_47
      refine Wl.mv rfl rfl <| Wl.on' rfl rfl g_47_ <| Wl.y (y_gtri rfl rfl) rfl <| Wl.on' rfl rfl rfl ?_
      refine Wl.y (y_pickF rfl g_47_ rfl) rfl ?_
      refine Wl.y (y_pickT rfl rfl rfl) rfl <| Wl.mv rfl rfl ?_
      refine Wl.guardT rfl rfl rfl (fun g_66 => ?_) (fun g_66 => ?_)
      ·
       have g_66_ := g_66
       try simp only [DZ] at g_66
       refine Wl.mv rfl rfl <| Wl.on' rfl rfl g_66_ <| Wl.y (y_lssi rfl rfl) rfl <| Wl.on' rfl rfl g_66_ <| Wl.mv rfl rfl ?_
       refine Wl.guardF rfl rfl rfl (fun g_70 => ?_) (fun g_70 => ?_)
       ·
        have g_70_ := g_70
        try simp only [DZ] at g_70
        refine Wl.off' rfl rfl g_70_ rfl rfl <| Wl.on' rfl rfl g_66_ ?_
        refine Wl.y (y_pickT rfl g_70_ rfl) rfl ?_
        refine Wl.y (y_pickT rfl g_66_ rfl) rfl ?_
        refine Wl.nil ?_
        refine Wq.meet hM_32 (!isLet (x.getD i 0)) (by repeat first | exact Sub.nil | refine Sub.cons' rfl (by first | rfl | exact bool_eq (by rw [isLet_eq, ← hc, Bool.eq_iff_iff]; simp <;> omega)) ?_) ?_
        exact ⟨rfl, hb⟩
       have g_70_ := g_70
       try simp only [DZ] at g_70
       refine Wl.mv rfl rfl <| Wl.on' rfl rfl g_70_ <| Wl.y (y_gtri rfl rfl) rfl <| Wl.on' rfl rfl g_66_ ?_
       refine Wl.y (y_pickF rfl g_70_ rfl) rfl ?_
       refine Wl.y (y_pickT rfl g_66_ rfl) rfl ?_
       refine Wl.nil ?_
       refine Wq.meet hM_32 (!isLet (x.getD i 0)) (by repeat first | exact Sub.nil | refine Sub.cons' rfl (by first | rfl | exact bool_eq (by rw [isLet_eq, ← hc, Bool.eq_iff_iff]; simp <;> omega)) ?_) ?_
       exact ⟨rfl, hb⟩
      have g_66_ := g_66
      try simp only [DZ] at g_66
      refine Wl.off' rfl rfl g_66_ rfl rfl <| Wl.off' rfl rfl g_66_ rfl rfl <| Wl.offU rfl rfl rfl <| Wl.offU rfl rfl rfl <| Wl.off' rfl rfl g_66_ rfl rfl ?_
      refine Wl.y (y_pickF rfl g_66_ rfl) rfl ?_
      refine Wl.nil ?_
      refine Wq.meet hM_32 (!isLet (x.getD i 0)) (by repeat first | exact Sub.nil | refine Sub.cons' rfl (by first | rfl | exact bool_eq (by rw [isLet_eq, ← hc, Bool.eq_iff_iff]; simp <;> omega)) ?_) ?_
      exact ⟨rfl, hb⟩
     have g_40_ := g_40
     try simp only [DZ] at g_40
     refine Wl.mv rfl rfl <| Wl.on' rfl rfl g_40_ <| Wl.y (y_gtri rfl rfl) rfl <| Wl.on' rfl rfl g_36_ ?_
     refine Wl.y (y_pickF rfl g_40_ rfl) rfl ?_
     refine Wl.y (y_pickT rfl g_36_ rfl) rfl ?_
     refine Wl.mv rfl rfl ?_
     refine Wl.guardT rfl rfl rfl (fun g_83 => ?_) (fun g_83 => ?_)
     ·
      have g_83_ := g_83
      try simp only [DZ] at g_83
      refine Wl.mv rfl rfl <| Wl.on' rfl rfl g_83_ <| Wl.y (y_lssi rfl rfl) rfl <| Wl.on' rfl rfl g_83_ <| Wl.mv rfl rfl ?_
      refine Wl.guardF rfl rfl rfl (fun g_87 => ?_) (fun g_87 => ?_)
      ·
       have g_87_ := g_87
       try simp only [DZ] at g_87
       refine Wl.off' rfl rfl g_87_ rfl rfl <| Wl.on' rfl rfl g_83_ ?_
       refine Wl.y (y_pickT rfl g_87_ rfl) rfl ?_
       refine Wl.y (y_pickT rfl g_83_ rfl) rfl ?_
       refine Wl.mv rfl rfl <| Wl.on' rfl rfl rfl <| Wl.mv rfl rfl <| Wl.on' rfl rfl rfl <| Wl.y (y_lssi rfl rfl) rfl <| Wl.on' rfl rfl rfl <| Wl.mv rfl rfl ?_
       refine Wl.guardF rfl rfl rfl (fun g_94 => ?_) (fun g_94 => ?_)
       ·
        have g_94_ := g_94
        try simp only [DZ] at g_94
        refine Wl.off' rfl rfl g_94_ rfl rfl <| Wl.on' rfl rfl rfl ?_
        refine Wl.y (y_pickT rfl g_94_ rfl) rfl ?_
        refine Wl.y (y_pickT rfl rfl rfl) rfl <| Wl.nil ?_
        refine Wq.meet hM_32 (!isLet (x.getD i 0)) (by repeat first | exact Sub.nil | refine Sub.cons' rfl (by first | rfl | exact bool_eq (by rw [isLet_eq, ← hc, Bool.eq_iff_iff]; simp <;> omega)) ?_) ?_
        exact ⟨rfl, hb⟩
       have g_94_ := g_94
       try simp only [DZ] at g_94
       refine Wl.mv rfl rfl <| Wl.on' rfl rfl g_94_ <| Wl.y (y_gtri rfl rfl) rfl <| Wl.on' rfl rfl rfl ?_
       refine Wl.y (y_pickF rfl g_94_ rfl) rfl ?_
       refine Wl.y (y_pickT rfl rfl rfl) rfl <| Wl.nil ?_
       refine Wq.meet hM_32 (!isLet (x.getD i 0)) (by repeat first | exact Sub.nil | refine Sub.cons' rfl (by first | rfl | exact bool_eq (by rw [isLet_eq, ← hc, Bool.eq_iff_iff]; simp <;> omega)) ?_) ?_
       exact ⟨rfl, hb⟩
      have g_87_ := g_87
      try simp only [DZ] at g_87
      refine Wl.mv rfl rfl <| Wl.on' rfl rfl g_87_ <| Wl.y (y_gtri rfl rfl) rfl <| Wl.on' rfl rfl g_83_ ?_
      refine Wl.y (y_pickF rfl g_87_ rfl) rfl ?_
      refine Wl.y (y_pickT rfl g_83_ rfl) rfl ?_
      refine Wl.mv rfl rfl ?_
      refine Wl.guardT rfl rfl rfl (fun g_106 => ?_) (fun g_106 => ?_)
      ·
       have g_106_ := g_106
       try simp only [DZ] at g_106
       refine Wl.mv rfl rfl <| Wl.on' rfl rfl g_106_ <| Wl.y (y_lssi rfl rfl) rfl <| Wl.on' rfl rfl g_106_ <| Wl.mv rfl rfl ?_
       refine Wl.guardF rfl rfl rfl (fun g_110 => ?_) (fun g_110 => ?_)
       ·
        have g_110_ := g_110
        try simp only [DZ] at g_110
        refine Wl.off' rfl rfl g_110_ rfl rfl <| Wl.on' rfl rfl g_106_ ?_
        refine Wl.y (y_pickT rfl g_110_ rfl) rfl ?_
        refine Wl.y (y_pickT rfl g_106_ rfl) rfl ?_
        refine Wl.nil ?_
        refine Wq.meet hM_32 (!isLet (x.getD i 0)) (by repeat first | exact Sub.nil | refine Sub.cons' rfl (by first | rfl | exact bool_eq (by rw [isLet_eq, ← hc, Bool.eq_iff_iff]; simp <;> omega)) ?_) ?_
        exact ⟨rfl, hb⟩
       have g_110_ := g_110
       try simp only [DZ] at g_110
       refine Wl.mv rfl rfl <| Wl.on' rfl rfl g_110_ <| Wl.y (y_gtri rfl rfl) rfl <| Wl.on' rfl rfl g_106_ ?_
       refine Wl.y (y_pickF rfl g_110_ rfl) rfl ?_
       refine Wl.y (y_pickT rfl g_106_ rfl) rfl ?_
       refine Wl.nil ?_
       refine Wq.meet hM_32 (!isLet (x.getD i 0)) (by repeat first | exact Sub.nil | refine Sub.cons' rfl (by first | rfl | exact bool_eq (by rw [isLet_eq, ← hc, Bool.eq_iff_iff]; simp <;> omega)) ?_) ?_
       exact ⟨rfl, hb⟩
      have g_106_ := g_106
      try simp only [DZ] at g_106
      refine Wl.off' rfl rfl g_106_ rfl rfl <| Wl.off' rfl rfl g_106_ rfl rfl <| Wl.offU rfl rfl rfl <| Wl.offU rfl rfl rfl <| Wl.off' rfl rfl g_106_ rfl rfl ?_
      refine Wl.y (y_pickF rfl g_106_ rfl) rfl ?_
      refine Wl.nil ?_
      refine Wq.meet hM_32 (!isLet (x.getD i 0)) (by repeat first | exact Sub.nil | refine Sub.cons' rfl (by first | rfl | exact bool_eq (by rw [isLet_eq, ← hc, Bool.eq_iff_iff]; simp <;> omega)) ?_) ?_
      exact ⟨rfl, hb⟩
     have g_83_ := g_83
     try simp only [DZ] at g_83
     refine Wl.off' rfl rfl g_83_ rfl rfl <| Wl.off' rfl rfl g_83_ rfl rfl <| Wl.offU rfl rfl rfl <| Wl.offU rfl rfl rfl <| Wl.off' rfl rfl g_83_ rfl rfl ?_
     refine Wl.y (y_pickF rfl g_83_ rfl) rfl ?_
     refine Wl.mv rfl rfl <| Wl.off' rfl rfl rfl rfl rfl <| Wl.off' rfl rfl rfl rfl rfl <| Wl.off' rfl rfl rfl rfl rfl <| Wl.offU rfl rfl rfl <| Wl.offU rfl rfl rfl <| Wl.off' rfl rfl rfl rfl rfl <| Wl.y (y_pickF rfl rfl rfl) rfl <| Wl.nil ?_
     refine Wq.meet hM_32 (!isLet (x.getD i 0)) (by repeat first | exact Sub.nil | refine Sub.cons' rfl (by first | rfl | exact bool_eq (by rw [isLet_eq, ← hc, Bool.eq_iff_iff]; simp <;> omega)) ?_) ?_
     exact ⟨rfl, hb⟩
    have g_36_ := g_36
    try simp only [DZ] at g_36
    refine Wl.off' rfl rfl g_36_ rfl rfl <| Wl.off' rfl rfl g_36_ rfl rfl <| Wl.offU rfl rfl rfl <| Wl.offU rfl rfl rfl <| Wl.off' rfl rfl g_36_ rfl rfl ?_
    refine Wl.y (y_pickF rfl g_36_ rfl) rfl ?_
    refine Wl.mv rfl rfl <| Wl.off' rfl rfl rfl rfl rfl <| Wl.off' rfl rfl rfl rfl rfl <| Wl.off' rfl rfl rfl rfl rfl <| Wl.offU rfl rfl rfl <| Wl.offU rfl rfl rfl <| Wl.off' rfl rfl rfl rfl rfl <| Wl.y (y_pickF rfl rfl rfl) rfl <| Wl.mv rfl rfl <| Wl.off' rfl rfl rfl rfl rfl ?_
    refine Wl.off' rfl rfl rfl rfl rfl <| Wl.off' rfl rfl rfl rfl rfl <| Wl.offU rfl rfl rfl <| Wl.offU rfl rfl rfl <| Wl.off' rfl rfl rfl rfl rfl <| Wl.y (y_pickF rfl rfl rfl) rfl <| Wl.nil ?_
    refine Wq.meet hM_32 (!isLet (x.getD i 0)) (by repeat first | exact Sub.nil | refine Sub.cons' rfl (by first | rfl | exact bool_eq (by rw [isLet_eq, ← hc, Bool.eq_iff_iff]; simp <;> omega)) ?_) ?_
    exact ⟨rfl, hb⟩
   rintro q wr hI_126
   replace hI_126 : q = (!isLet (x.getD i 0)) ∧ Below w.heap.size w wr := hI_126
   obtain ⟨hq, hb⟩ := hI_126
   show Wq _ _ _ _ [(0, str x), (3, .bool true), (4, .int .i64 (i : Int)), (56, .bool q)] _
   have hX := hX_hb.below hb
   try have hzhb_g6 := hb.size
   refine Wq.next hK_31 ?_
   refine Wc.cond rfl (fun c1_127 => ?_) (fun c1_127 => ?_)
   ·
    have c1_127_ := c1_127
    try simp only [DZ] at c1_127
    refine Wc.seq fun _ hK_128 => Wc.region <| Wl.mv rfl rfl <| Wl.sg rfl rfl <| Wl.nil <| Wq.next hK_128 <| Wc.ret ?_
    refine Wq.block_ret (Wq.then_ret (Wq.then_ret (Wq.block_ret (Wq.then_ret ?_))))
    refine ret1 rfl rfl ?_
    first | exact ⟨_, rfl, rfl, hb⟩ | exact ⟨_, rfl, bool_eq (by rw [hkn]; simp), hb⟩
   have c1_127_ := c1_127
   try simp only [DZ] at c1_127
   have hlet : isLet (x.getD i 0) = true := by have h := hq.symm.trans c1_127_; simpa using h
   refine Wc.skip <| Wq.block_normal <| Wq.next hK_25 <| Wc.region <| Wl.mv rfl rfl ?_
   refine Wl.y (y_addI rfl rfl (by first | omega | (simp; done) | (simp; omega)) (by first | omega | (simp; done) | (simp; omega))) rfl ?_
   refine Wl.sg rfl rfl <| Wl.nil ?_
   refine fun a_ ha_ => hL_16 _ _ (i + 1) (by first | omega | (simp; omega)) (by repeat first | exact Sub.nil | refine Sub.cons' rfl (by first | rfl | exact int_eq (by omega)) ?_) ?_ a_ ha_
   exact ⟨by omega, fun j hj => by (by_cases e : j = i); (· rw [e]; exact hlet); (· exact hall j (by omega)), hb⟩
  have c0_24_ := c0_24
  try simp only [DZ] at c0_24
  have hlets : ∀ c, c ∈ x → isLet c = true := fun c hc => by
    obtain ⟨j, hj, e⟩ := List.mem_iff_getElem.1 hc
    have := hall j (by have := c0_24; omega)
    simpa [List.getD, List.getElem?_eq_getElem hj, e] using this
  obtain ⟨q1, a1, e1, q2, a2, e2, q3, a3, e3, hq1, hq2, hq3, hE1, hE2, hyes⟩ := words_all hxl hlets
  have hw1 : (wd1 x).length ≤ 100 := by unfold wd1; simp; omega
  have hw2 : (wd2 x).length ≤ 100 := by unfold wd2; simp; omega
  have hw3 : (wd3 x).length ≤ 100 := by unfold wd3; simp; omega
  refine Wc.exit ?_
  refine Wq.then_exit <| Wq.then_exit <| Wq.block_exit <| Wq.next hK_13 <| Wc.seq fun _ hK_134 => Wc.region <| Wl.mv rfl rfl ?_
  refine Wl.call txt18PlW rfl rfl (RName_r x (by omega) _) rfl ?_
  rintro _ w_k1 ⟨rfl, hs_k1⟩
  have hz_k1 := hs_k1.size
  have hb := hb.trans (hs_k1.mono hb.size)
  have hX := hX_hb.below hb
  refine Wl.sg rfl rfl <| Wl.nil <| Wq.next hK_134 <| Wc.seq fun _ hK_138 => Wc.region <| Wl.mv rfl rfl ?_
  refine Wl.y (y_adds rfl rfl (by first | omega | (simp; done) | (simp; omega))) rfl ?_
  refine Wl.y (y_adds rfl rfl (by first | omega | (simp; done) | (simp; omega))) rfl ?_
  refine Wl.call txt12PlW rfl rfl (ParseT_r hq1 (by omega) _ hX) rfl ?_
  rintro _ w_k2 ⟨⟨z1, S1, rfl, hz1, hz1_S⟩, hs_k2⟩
  have hz_k2 := hs_k2.size
  have hb := hb.trans (hs_k2.mono hb.size)
  have hX := hX_hb.below hb
  refine Wl.mv rfl rfl <| Wl.y (y_extract rfl rfl) rfl <| Wl.y (y_extract rfl rfl) rfl <| Wl.y (y_extract rfl rfl) rfl ?_
  refine Wl.allocN (z := (.agg #[(.int .i64 0), (.int .i64 0), (.int .i64 0), (.int .i64 0), (str []), (.int .i64 0), (.int .i64 0), (str []), (.int .i64 0), (.int .i64 0), (.float .f64 0), (str []), (.slice none 0 0), (.int .i64 0), (str []), (.int .i64 0), (.int .i64 0), (.float .f64 0), (str []), (.slice none 0 0), (.int .i64 0), (.int .i64 0), (.slice none 0 0)])) (by kernel_rfl) rfl ?_
  rintro g_o52 w_o52 hg_o52 hn_o52 hs_o52
  have hz_o52 := hs_o52.size
  have hb := hb.trans (hs_o52.mono hb.size)
  have hX := hX_hb.below hb
  try have hz1 := PAt.below hz1 hs_o52
  have hB_o52 := hn_o52
  have hl_o52 := hB_o52.lt
  refine Wl.storeS (by kernel_rfl) rfl rfl hB_o52 rfl rfl ?_
  rintro w_s0 hn_s0 hg_s0
  have hz_s0 := hg_s0.size
  have hb := below_blk hb hg_s0 hb.size (by omega)
  have hX := hX_hb.below hb
  try have hz1 := PAt.kp hz1 hg_s0 (fun h_ => by have h2_ := hz1_S _ h_; first | omega | (rcases h2_ with h3_ | h3_; (have h4_ := hS _ h3_; omega); omega))
  have hB_o52 := hn_s0
  refine Wl.sg rfl rfl <| Wl.sg rfl rfl <| Wl.nil <| Wq.next hK_138 <| Wc.seq fun _ hK_150 => Wc.region <| Wl.mv rfl rfl ?_
  refine Wl.y (y_adds rfl rfl (by first | omega | (simp; done) | (simp; omega))) rfl ?_
  refine Wl.y (y_adds rfl rfl (by first | omega | (simp; done) | (simp; omega))) rfl ?_
  refine Wl.call txt12PlW rfl rfl (ParseT_r hq2 (by omega) _ hX) rfl ?_
  rintro _ w_k3 ⟨⟨z2, S2, rfl, hz2, hz2_S⟩, hs_k3⟩
  have hz_k3 := hs_k3.size
  have hb := hb.trans (hs_k3.mono hb.size)
  have hX := hX_hb.below hb
  try have hz1 := PAt.below hz1 hs_k3
  try have hB_o52 := Blk.below hB_o52 hs_k3
  refine Wl.mv rfl rfl <| Wl.y (y_extract rfl rfl) rfl <| Wl.y (y_extract rfl rfl) rfl <| Wl.y (y_extract rfl rfl) rfl ?_
  refine Wl.allocN (z := (.agg #[(.int .i64 0), (.int .i64 0), (.int .i64 0), (.int .i64 0), (str []), (.int .i64 0), (.int .i64 0), (str []), (.int .i64 0), (.int .i64 0), (.float .f64 0), (str []), (.slice none 0 0), (.int .i64 0), (str []), (.int .i64 0), (.int .i64 0), (.float .f64 0), (str []), (.slice none 0 0), (.int .i64 0), (.int .i64 0), (.slice none 0 0)])) (by kernel_rfl) rfl ?_
  rintro g_o62 w_o62 hg_o62 hn_o62 hs_o62
  have hz_o62 := hs_o62.size
  have hb := hb.trans (hs_o62.mono hb.size)
  have hX := hX_hb.below hb
  try have hz1 := PAt.below hz1 hs_o62
  try have hB_o52 := Blk.below hB_o52 hs_o62
  try have hz2 := PAt.below hz2 hs_o62
  have hB_o62 := hn_o62
  have hl_o62 := hB_o62.lt
  refine Wl.storeS (by kernel_rfl) rfl rfl hB_o62 rfl rfl ?_
  rintro w_s1 hn_s1 hg_s1
  have hz_s1 := hg_s1.size
  have hb := below_blk hb hg_s1 hb.size (by omega)
  have hX := hX_hb.below hb
  try have hz1 := PAt.kp hz1 hg_s1 (fun h_ => by have h2_ := hz1_S _ h_; first | omega | (rcases h2_ with h3_ | h3_; (have h4_ := hS _ h3_; omega); omega))
  try have hB_o52 := hB_o52.over hg_s1 (by omega)
  try have hz2 := PAt.kp hz2 hg_s1 (fun h_ => by have h2_ := hz2_S _ h_; first | omega | (rcases h2_ with h3_ | h3_; (have h4_ := hS _ h3_; omega); omega))
  have hB_o62 := hn_s1
  refine Wl.sg rfl rfl <| Wl.sg rfl rfl <| Wl.nil <| Wq.next hK_150 <| Wc.seq fun _ hK_162 => Wc.region <| Wl.mv rfl rfl ?_
  refine Wl.y (y_adds rfl rfl (by first | omega | (simp; done) | (simp; omega))) rfl ?_
  refine Wl.y (y_adds rfl rfl (by first | omega | (simp; done) | (simp; omega))) rfl ?_
  refine Wl.call txt12PlW rfl rfl (ParseT_r hq3 (by omega) _ hX) rfl ?_
  rintro _ w_k4 ⟨⟨z3, S3, rfl, hz3, hz3_S⟩, hs_k4⟩
  have hz_k4 := hs_k4.size
  have hb := hb.trans (hs_k4.mono hb.size)
  have hX := hX_hb.below hb
  try have hz1 := PAt.below hz1 hs_k4
  try have hB_o52 := Blk.below hB_o52 hs_k4
  try have hz2 := PAt.below hz2 hs_k4
  try have hB_o62 := Blk.below hB_o62 hs_k4
  refine Wl.mv rfl rfl <| Wl.y (y_extract rfl rfl) rfl <| Wl.y (y_extract rfl rfl) rfl <| Wl.y (y_extract rfl rfl) rfl ?_
  refine Wl.allocN (z := (.agg #[(.int .i64 0), (.int .i64 0), (.int .i64 0), (.int .i64 0), (str []), (.int .i64 0), (.int .i64 0), (str []), (.int .i64 0), (.int .i64 0), (.float .f64 0), (str []), (.slice none 0 0), (.int .i64 0), (str []), (.int .i64 0), (.int .i64 0), (.float .f64 0), (str []), (.slice none 0 0), (.int .i64 0), (.int .i64 0), (.slice none 0 0)])) (by kernel_rfl) rfl ?_
  rintro g_o72 w_o72 hg_o72 hn_o72 hs_o72
  have hz_o72 := hs_o72.size
  have hb := hb.trans (hs_o72.mono hb.size)
  have hX := hX_hb.below hb
  try have hz1 := PAt.below hz1 hs_o72
  try have hB_o52 := Blk.below hB_o52 hs_o72
  try have hz2 := PAt.below hz2 hs_o72
  try have hB_o62 := Blk.below hB_o62 hs_o72
  try have hz3 := PAt.below hz3 hs_o72
  have hB_o72 := hn_o72
  have hl_o72 := hB_o72.lt
  refine Wl.storeS (by kernel_rfl) rfl rfl hB_o72 rfl rfl ?_
  rintro w_s2 hn_s2 hg_s2
  have hz_s2 := hg_s2.size
  have hb := below_blk hb hg_s2 hb.size (by omega)
  have hX := hX_hb.below hb
  try have hz1 := PAt.kp hz1 hg_s2 (fun h_ => by have h2_ := hz1_S _ h_; first | omega | (rcases h2_ with h3_ | h3_; (have h4_ := hS _ h3_; omega); omega))
  try have hB_o52 := hB_o52.over hg_s2 (by omega)
  try have hz2 := PAt.kp hz2 hg_s2 (fun h_ => by have h2_ := hz2_S _ h_; first | omega | (rcases h2_ with h3_ | h3_; (have h4_ := hS _ h3_; omega); omega))
  try have hB_o62 := hB_o62.over hg_s2 (by omega)
  try have hz3 := PAt.kp hz3 hg_s2 (fun h_ => by have h2_ := hz3_S _ h_; first | omega | (rcases h2_ with h3_ | h3_; (have h4_ := hS _ h3_; omega); omega))
  have hB_o72 := hn_s2
  refine Wl.sg rfl rfl <| Wl.sg rfl rfl <| Wl.nil <| Wq.next hK_162 <| Wc.seq fun _ hK_174 => Wc.seq fun _ hK_175 => ?_
  refine Wc.meet (X := Bool) (fun qv => [(0, str x), (3, .bool true), (6, .bool (nameV x)), (7, .pointer (some ⟨g_o52, 0, none⟩)), (10, .pointer (some ⟨g_o62, 0, none⟩)), (13, .pointer (some ⟨g_o72, 0, none⟩)), (15, .int .i64 e3), (97, .bool qv)]) (fun qv wr => qv = false ∧ Below w.heap.size w wr ∧ Blk wr g_o52 33 (qcells q1.mode q1.sel q1.kk z1) ∧ Blk wr g_o62 33 (qcells q2.mode q2.sel q2.kk z2) ∧ Blk wr g_o72 33 (qcells q3.mode q3.sel q3.kk z3) ∧ PAt wr S1 q1.pat z1.cells ∧ PAt wr S2 q2.pat z2.cells ∧ PAt wr S3 q3.pat z3.cells) (fun _ hM_176 => ?_) ?_
  ·
   refine Wc.region <| Wl.mv rfl rfl <| Wl.y (y_eqli rfl rfl) rfl <| Wl.mv rfl rfl ?_
   refine Wl.y (y_neqb Tryz.underlying4 rfl rfl) rfl ?_
   refine Wl.mv rfl rfl ?_
   refine Wl.guardF rfl rfl rfl (fun g_182 => ?_) (fun g_182 => ?_)
   ·
    have g_182_ := g_182
    try simp only [DZ] at g_182
    exact absurd g_182_ (by rw [hE1]; simp)
   have g_182_ := g_182
   try simp only [DZ] at g_182
   refine Wl.mv rfl rfl <| Wl.on' rfl rfl g_182_ <| Wl.y (y_eqli rfl rfl) rfl <| Wl.on' rfl rfl g_182_ <| Wl.mv rfl rfl <| Wl.on' rfl rfl g_182_ <| Wl.mv rfl rfl ?_
   refine Wl.guardF rfl rfl rfl (fun g_187 => ?_) (fun g_187 => ?_)
   ·
    have g_187_ := g_187
    try simp only [DZ] at g_187
    have hnm : nameV x = true := g_187_
    refine Wl.off' rfl rfl g_187_ rfl rfl <| Wl.on' rfl rfl g_182_ ?_
    refine Wl.y (y_pickT rfl g_187_ rfl) rfl ?_
    refine Wl.on' rfl rfl g_182_ ?_
    refine Wl.y (y_neqb Tryz.underlying4 rfl rfl) rfl ?_
    refine Wl.y (y_pickF rfl g_182_ rfl) rfl ?_
    refine Wl.nil ?_
    refine Wq.meet hM_176 (false) (by repeat first | exact Sub.nil | refine Sub.cons' rfl (by first | rfl | exact bool_eq (by first | (rw [hE2, hnm]; simp; done) | (rw [hE2, hnm]; simp; cases x <;> rfl))) ?_) ?_
    exact ⟨rfl, hb, hB_o52, hB_o62, hB_o72, hz1, hz2, hz3⟩
   have g_187_ := g_187
   try simp only [DZ] at g_187
   have hnm : nameV x = false := g_187_
   refine Wl.mv rfl rfl <| Wl.on' rfl rfl g_187_ <| Wl.y (y_eqls rfl rfl) rfl <| Wl.on' rfl rfl g_182_ ?_
   refine Wl.y (y_pickF rfl g_187_ rfl) rfl ?_
   refine Wl.on' rfl rfl g_182_ ?_
   refine Wl.y (y_neqb Tryz.underlying4 rfl rfl) rfl ?_
   refine Wl.y (y_pickF rfl g_182_ rfl) rfl ?_
   refine Wl.nil ?_
   refine Wq.meet hM_176 (false) (by repeat first | exact Sub.nil | refine Sub.cons' rfl (by first | rfl | exact bool_eq (by first | (rw [hE2, hnm]; simp; done) | (rw [hE2, hnm]; simp; cases x <;> rfl))) ?_) ?_
   exact ⟨rfl, hb, hB_o52, hB_o62, hB_o72, hz1, hz2, hz3⟩
  rintro qv wr hI_196
  replace hI_196 : qv = false ∧ Below w.heap.size w wr ∧ Blk wr g_o52 33 (qcells q1.mode q1.sel q1.kk z1) ∧ Blk wr g_o62 33 (qcells q2.mode q2.sel q2.kk z2) ∧ Blk wr g_o72 33 (qcells q3.mode q3.sel q3.kk z3) ∧ PAt wr S1 q1.pat z1.cells ∧ PAt wr S2 q2.pat z2.cells ∧ PAt wr S3 q3.pat z3.cells := hI_196
  obtain ⟨hqv, hb, hB_o52, hB_o62, hB_o72, hz1, hz2, hz3⟩ := hI_196
  show Wq _ _ _ _ [(0, str x), (3, .bool true), (6, .bool (nameV x)), (7, .pointer (some ⟨g_o52, 0, none⟩)), (10, .pointer (some ⟨g_o62, 0, none⟩)), (13, .pointer (some ⟨g_o72, 0, none⟩)), (15, .int .i64 e3), (97, .bool qv)] _
  have hX := hX_hb.below hb
  try have hzhb_g13 := hb.size
  have hlhB_o52_g13 := hB_o52.lt
  have hlhB_o62_g13 := hB_o62.lt
  have hlhB_o72_g13 := hB_o72.lt
  refine Wq.next hK_175 ?_
  refine Wc.cond rfl (fun c2_197 => ?_) (fun c2_197 => ?_)
  ·
   have c2_197_ := c2_197
   try simp only [DZ] at c2_197
   exact absurd c2_197_ (by rw [hqv]; decide)
  have c2_197_ := c2_197
  try simp only [DZ] at c2_197
  refine Wc.skip <| Wq.next hK_174 <| Wc.seq fun _ hK_198 => Wc.seq fun _ hK_199 => Wc.region <| Wl.mv rfl rfl <| Wl.y (y_not rfl) rfl <| Wl.nil <| Wq.next hK_199 ?_
  refine Wc.cond rfl (fun c3_202 => ?_) (fun c3_202 => ?_)
  ·
   have c3_202_ := c3_202
   try simp only [DZ] at c3_202
   refine Wc.seq fun _ hK_203 => Wc.region <| Wl.mv rfl rfl <| Wl.sg rfl rfl <| Wl.nil <| Wq.next hK_203 <| Wc.ret <| Wq.then_ret ?_
   refine ret1 rfl rfl ?_
   first | exact ⟨_, rfl, rfl, hb⟩ | exact ⟨_, rfl, bool_eq (by rw [hkn]; simp), hb⟩
  have c3_202_ := c3_202
  try simp only [DZ] at c3_202
  have hnm : nameV x = true := by have h := c3_202_; simpa using h
  obtain ⟨r1, r2, r3, he3⟩ := hyes hnm
  rw [r1] at hz1
  rw [r2] at hz2
  rw [r3] at hz3
  obtain ⟨_, _, _, _, _, hlb, _⟩ := PAt.see hz1
  obtain ⟨_, hln, _⟩ := EAt.see hlb
  obtain ⟨_, hvr, _⟩ := PAt.see hz2
  obtain ⟨_, _, _, _, _, _, hwh, _⟩ := PAt.see hz3
  obtain ⟨_, _, _, A, cc, hcA, _, _, hkA⟩ := EAt.see hwh
  obtain ⟨p, zk, rfl, hzk, hck⟩ := hkA 0 (show 0 < 2 by decide)
  obtain ⟨_, hkn, _⟩ := EAt.see hzk
  refine Wc.skip <| Wq.next hK_198 <| Wc.seq fun _ hK_206 => Wc.region <| Wl.mv rfl rfl <| Wl.mv rfl rfl ?_
  refine Wl.guardT rfl rfl rfl (fun g_209 => ?_) (fun g_209 => ?_)
  ·
   have g_209_ := g_209
   try simp only [DZ] at g_209
   refine Wl.mv rfl rfl <| Wl.on' rfl rfl g_209_ <| Wl.y (y_eqli rfl rfl) rfl ?_
   refine Wl.y (y_pickT rfl g_209_ rfl) rfl ?_
   refine Wl.mv rfl rfl ?_
   refine Wl.guardT rfl rfl rfl (fun g_214 => ?_) (fun g_214 => ?_)
   ·
    have g_214_ := g_214
    try simp only [DZ] at g_214
    refine Wl.y (y_fieldAddr (fa33_3PlW _) rfl) rfl ?_
    refine Wl.on' rfl rfl g_214_ ?_
    refine Wl.y (y_fieldAddr (fa31_3PlW _) rfl) rfl ?_
    refine Wl.on' rfl rfl g_214_ ?_
    refine Wl.y (y_fieldAddr (fa28_1PlW _) rfl) rfl ?_
    refine Wl.on' rfl rfl g_214_ ?_
    refine Wl.l (l_load one9PlW rfl (by exact hB_o52.at (j := 7) rfl)) rfl ?_
    refine Wl.on' rfl rfl g_214_ <| Wl.mv rfl rfl <| Wl.on' rfl rfl g_214_ <| Wl.y (y_eqls rfl rfl) rfl ?_
    refine Wl.y (y_pickT rfl g_214_ rfl) rfl ?_
    refine Wl.mv rfl rfl ?_
    refine Wl.guardT rfl rfl rfl (fun g_223 => ?_) (fun g_223 => ?_)
    ·
     have g_223_ := g_223
     try simp only [DZ] at g_223
     refine Wl.y (y_fieldAddr (fa33_3PlW _) rfl) rfl ?_
     refine Wl.on' rfl rfl g_223_ ?_
     refine Wl.y (y_fieldAddr (fa31_1PlW _) rfl) rfl ?_
     refine Wl.on' rfl rfl g_223_ ?_
     refine Wl.l (l_load one9PlW rfl (by exact hB_o62.at (j := 4) rfl)) rfl ?_
     refine Wl.on' rfl rfl g_223_ <| Wl.mv rfl rfl <| Wl.on' rfl rfl g_223_ <| Wl.y (y_eqls rfl rfl) rfl ?_
     refine Wl.y (y_pickT rfl g_223_ rfl) rfl ?_
     refine Wl.mv rfl rfl ?_
     refine Wl.guardT rfl rfl rfl (fun g_231 => ?_) (fun g_231 => ?_)
     ·
      have g_231_ := g_231
      try simp only [DZ] at g_231
      refine Wl.y (y_fieldAddr (fa33_3PlW _) rfl) rfl ?_
      refine Wl.on' rfl rfl g_231_ ?_
      refine Wl.y (y_fieldAddr (fa31_4PlW _) rfl) rfl ?_
      refine Wl.on' rfl rfl g_231_ ?_
      refine Wl.y (y_fieldAddr (fa28_3PlW _) rfl) rfl ?_
      refine Wl.on' rfl rfl g_231_ ?_
      refine Wl.l (l_load one26PlW rfl (by exact hB_o72.at (j := 19) (qcells_pat _ _ _ z3 (z3.whr hcA)))) rfl ?_
      refine Wl.on' rfl rfl g_231_ ?_
      refine Wl.y (y_lenl Tryz.underlying26 (by omega) rfl) rfl ?_
      refine Wl.on' rfl rfl g_231_ <| Wl.y (y_eqli rfl rfl) rfl ?_
      refine Wl.y (y_pickT rfl g_231_ rfl) rfl ?_
      refine Wl.mv rfl rfl ?_
      refine Wl.guardT rfl rfl rfl (fun g_240 => ?_) (fun g_240 => ?_)
      ·
       have g_240_ := g_240
       try simp only [DZ] at g_240
       refine Wl.y (y_fieldAddr (fa33_3PlW _) rfl) rfl ?_
       refine Wl.on' rfl rfl g_240_ ?_
       refine Wl.y (y_fieldAddr (fa31_4PlW _) rfl) rfl ?_
       refine Wl.on' rfl rfl g_240_ ?_
       refine Wl.y (y_fieldAddr (fa28_3PlW _) rfl) rfl ?_
       refine Wl.on' rfl rfl g_240_ ?_
       refine Wl.l (l_load one26PlW rfl (by exact hB_o72.at (j := 19) (qcells_pat _ _ _ z3 (z3.whr hcA)))) rfl ?_
       refine Wl.on' rfl rfl g_240_ ?_
       refine Wl.y (y_indexAddr Tryz.underlying26 sz28PlW rfl rfl (by omega) (by omega)) rfl ?_
       refine Wl.on' rfl rfl g_240_ ?_
       refine Wl.y (y_fieldAddr (fa28_1PlW _) rfl) rfl ?_
       refine Wl.on' rfl rfl g_240_ ?_
       refine Wl.l (l_load one9PlW rfl (by exact hck 1 _ rfl)) rfl ?_
       refine Wl.on' rfl rfl g_240_ <| Wl.mv rfl rfl <| Wl.on' rfl rfl g_240_ <| Wl.y (y_eqls rfl rfl) rfl ?_
       refine Wl.y (y_pickT rfl g_240_ rfl) rfl ?_
       refine Wl.sg rfl rfl <| Wl.nil <| Wq.next hK_206 <| Wc.ret ?_
       refine ret1 rfl rfl ?_
       first | exact ⟨_, rfl, rfl, hb⟩ | exact ⟨_, rfl, bool_eq (by rw [hkn]; simp), hb⟩
      have g_240_ := g_240
      try simp only [DZ] at g_240
      exact absurd g_240_ (by simp)
     have g_231_ := g_231
     try simp only [DZ] at g_231
     exact absurd g_231_ (by rw [hvr]; simp)
    have g_223_ := g_223
    try simp only [DZ] at g_223
    exact absurd g_223_ (by rw [hln]; simp)
   have g_214_ := g_214
   try simp only [DZ] at g_214
   exact absurd g_214_ (by rw [he3]; decide)
  have g_209_ := g_209
  try simp only [DZ] at g_209
  exact absurd g_209_ (by decide)
end Go.Proofs.YtjnabgddjogkbaaGreatDoor
