/- Plain: tokens that stand elsewhere are parsed alike. · Plain: only tokens count; groups around all. -/
import Derived.Test.YtjnabgddjogkbaaGreatDoorZP5
import Derived.Test.YtjnabgddjogkbaaGreatDoorZLawB2
namespace Go.Proofs.YtjnabgddjogkbaaGreatDoor
open Go.RowKit Go.Bw Go.Bw.Fl
set_option linter.unusedVariables false
set_option linter.unusedSimpArgs false
/-- two rows of tokens: what is the same of places (pos); what stands behind the second one (rest); where they end; whether the second one may be refused for its depth (lim) -/
structure Sm where
  lim : Prop
  pos : Int → Int → Prop
  rest : List Tok
  en : Nat
  en' : Nat
  h0 : ¬ lim → rest = [] ∧ pos (en : Int) (en' : Int)
  h1 : rest = [] ∨ ∃ a r, rest = ⟨5, [93], a⟩ :: r
inductive Al (c : Sm) : List Tok → List Tok → Prop
  | nil : Al c [] c.rest
  | cons {t t' : Tok} {r r' : List Tok} : t.k = t'.k → t.t = t'.t → c.pos (t.a : Int) (t'.a : Int) → Al c r r' → Al c (t :: r) (t' :: r')
def Rel {α : Type} (c : Sm) (V : α → α → Prop) : Res α → Res α → Prop
  | .ok x r, .ok x' r' => V x x' ∧ Al c r r'
  | .err a e, .err a' e' => c.lim ∨ (e = e' ∧ c.pos a a' ∧ e ≠ 0)
  | .ok _ _, .err _ e' => c.lim ∧ e' = 6
  | .err _ _, .ok _ _ => c.lim
theorem Rel.limL {α : Type} {c : Sm} {V : α → α → Prop} {a e : Int} {X : Res α} (h : c.lim) : Rel c V (.err a e) X := by
  cases X with
  | ok x r => exact h
  | err a' e' => exact .inl h
theorem Rel.limR {α : Type} {c : Sm} {V : α → α → Prop} {a : Int} {X : Res α} (h : c.lim) : Rel c V X (.err a 6) := by
  cases X with
  | ok x r => exact ⟨h, rfl⟩
  | err a' e' => exact .inl h
theorem Rel.err {α : Type} {c : Sm} {V : α → α → Prop} {a a' e : Int} (h : c.lim ∨ c.pos a a') (he : e ≠ 0 := by decide) : Rel c V (.err a e) (.err a' e : Res α) := h.imp id fun h => ⟨rfl, h, he⟩
theorem rel_cases {α : Type} {c : Sm} {V : α → α → Prop} {F F' : Res α} (h : Rel c V F F') : (∃ x x' r r', F = .ok x r ∧ F' = .ok x' r' ∧ V x x' ∧ Al c r r') ∨ (∃ a a' e, F = .err a e ∧ F' = .err a' e ∧ c.pos a a' ∧ e ≠ 0) ∨ (c.lim ∧ ∃ a e, F = .err a e) ∨ (c.lim ∧ ∃ a, F' = .err a 6) := by
  cases F with
  | ok x r =>
    cases F' with
    | ok x' r' => exact .inl ⟨_, _, _, _, rfl, rfl, h.1, h.2⟩
    | err a' e' => obtain ⟨h1, h2⟩ := h; subst h2; exact .inr (.inr (.inr ⟨h1, _, rfl⟩))
  | err a e =>
    cases F' with
    | ok x' r' => exact .inr (.inr (.inl ⟨h, _, _, rfl⟩))
    | err a' e' =>
      rcases h with h | ⟨h1, h2, h3⟩
      · exact .inr (.inr (.inl ⟨h, _, _, rfl⟩))
      · subst h1; exact .inr (.inl ⟨_, _, _, rfl, rfl, h2, h3⟩)
theorem al_len {c : Sm} {ts ts' : List Tok} (h : Al c ts ts') : ts'.length = ts.length + c.rest.length := by
  induction h with
  | nil => simp
  | cons _ _ _ _ ih => simp only [List.length_cons]; omega
/-- tokens alike -/
structure TkAl (c : Sm) (t t' : Tok) : Prop where
  k : t.k = t'.k
  tx : t.t = t'.t
  p : c.lim ∨ c.pos (t.a : Int) (t'.a : Int)
theorem al_next {c : Sm} {ts ts' : List Tok} (h : Al c ts ts') : (ts ≠ [] ∧ ts' ≠ [] ∧ TkAl c (nextT c.en ts) (nextT c.en' ts') ∧ Al c ts.tail ts'.tail) ∨ (ts = [] ∧ ts' = c.rest) := by
  cases h with
  | nil => exact .inr ⟨rfl, rfl⟩
  | cons h1 h2 h3 h4 => exact .inl ⟨by simp, by simp, ⟨h1, h2, .inr h3⟩, h4⟩
/-- behind the last one -/
theorem al_end (c : Sm) : (c.lim ∨ c.pos ((nextT c.en []).a : Int) ((nextT c.en' c.rest).a : Int)) ∧ ((nextT c.en' c.rest).k = 0 ∧ (nextT c.en' c.rest).t = [] ∨ c.lim ∧ (nextT c.en' c.rest).k = 5 ∧ (nextT c.en' c.rest).t = [93]) := by
  by_cases hl : c.lim
  · refine ⟨.inl hl, ?_⟩
    rcases c.h1 with h | ⟨a, r, h⟩
    · rw [h]; exact .inl ⟨rfl, rfl⟩
    · rw [h]; exact .inr ⟨hl, rfl, rfl⟩
  · obtain ⟨h1, h2⟩ := c.h0 hl
    rw [h1]
    exact ⟨.inr h2, .inl ⟨rfl, rfl⟩⟩
theorem isT_nil (en : Nat) (xs : List (List UInt8)) : isT en xs [] = false := by
  unfold isT
  rw [decide_eq_false_iff_not]
  rintro ⟨h | h, _⟩ <;> cases h
theorem isT_rest (c : Sm) {xs : List (List UInt8)} (hx : [93] ∉ xs) : isT c.en' xs c.rest = false := by
  unfold isT
  rw [decide_eq_false_iff_not]
  rintro ⟨h1, h2⟩
  rcases (al_end c).2 with ⟨h3, _⟩ | ⟨_, _, h4⟩
  · rw [h3] at h1; omega
  · rw [h4] at h2; exact hx h2
theorem isT_al {c : Sm} {ts ts' : List Tok} {xs : List (List UInt8)} (h : Al c ts ts') (hx : [93] ∉ xs) : isT c.en' xs ts' = isT c.en xs ts := by
  rcases al_next h with ⟨_, _, h1, _⟩ | ⟨rfl, rfl⟩
  · unfold isT; rw [h1.k, h1.tx]
  · rw [isT_nil, isT_rest c hx]
theorem al_tail {c : Sm} {xs : List (List UInt8)} {ts ts' : List Tok} (h : Al c ts ts') (hi : isT c.en xs ts = true) : Al c ts.tail ts'.tail ∧ TkAl c (nextT c.en ts) (nextT c.en' ts') := by
  rcases al_next h with ⟨_, _, h1, h2⟩ | ⟨rfl, rfl⟩
  · exact ⟨h2, h1⟩
  · rw [isT_nil] at hi; cases hi
theorem al_pos {c : Sm} {ts ts' : List Tok} (h : Al c ts ts') : c.lim ∨ c.pos ((nextT c.en ts).a : Int) ((nextT c.en' ts').a : Int) := by
  rcases al_next h with ⟨_, _, h1, _⟩ | ⟨rfl, rfl⟩
  · exact h1.p
  · exact (al_end c).1
theorem kind_al {c : Sm} {k : Nat} (h0 : k ≠ 0) (h5 : k ≠ 5) {ts ts' : List Tok} (h : Al c ts ts') : Rel c (TkAl c) (pKind c.en k ts) (pKind c.en' k ts') := by
  unfold pKind
  have hp := al_pos h
  rcases al_next h with ⟨_, _, h1, h2⟩ | ⟨rfl, rfl⟩
  · rw [h1.k]
    split
    · exact ⟨h1, h2⟩
    · exact Rel.err hp
  · rw [if_neg (show ¬ (nextT c.en []).k = k from fun e => h0 e.symm), if_neg (show ¬ (nextT c.en' c.rest).k = k from fun e => by rcases (al_end c).2 with ⟨h3, _⟩ | ⟨_, h3, _⟩ <;> omega)]
    exact Rel.err hp
theorem text_al {c : Sm} (s : List UInt8) {ts ts' : List Tok} (h : Al c ts ts') : Rel c (TkAl c) (pText c.en s ts) (pText c.en' s ts') := by
  unfold pText
  have hp := al_pos h
  by_cases hs : s = [93]
  · by_cases hl : c.lim
    · by_cases hi : isT c.en [s] ts = true
      · obtain ⟨h1, h2⟩ := al_tail h hi
        have hi' : isT c.en' [s] ts' = true := by unfold isT at hi ⊢; rw [← h2.k, ← h2.tx]; exact hi
        rw [if_pos hi, if_pos hi']; exact ⟨h2, h1⟩
      · rw [if_neg hi]; exact Rel.limL hl
    · rcases al_next h with ⟨_, _, h1, h2⟩ | ⟨rfl, rfl⟩
      · have e : isT c.en' [s] ts' = isT c.en [s] ts := by unfold isT; rw [h1.k, h1.tx]
        rw [e]
        split
        · exact ⟨h1, h2⟩
        · exact Rel.err hp
      · rw [(c.h0 hl).1] at hp ⊢
        rw [isT_nil, isT_nil]; exact Rel.err hp
  · rw [isT_al h (by simp; exact fun e => hs e.symm)]
    split
    · rename_i hi; obtain ⟨h1, h2⟩ := al_tail h hi; exact ⟨h2, h1⟩
    · exact Rel.err hp
/-- two parsers alike, of so many tokens -/
def SimN {α : Type} (c : Sm) (N : Nat) (F F' : List Tok → Res α) : Prop := ∀ ts ts', Al c ts ts' → ts.length ≤ N → Rel c Eq (F ts) (F' ts')
theorem SimN.mono {α : Type} {c : Sm} {N M : Nat} {F F' : List Tok → Res α} (h : SimN c N F F') (hm : M ≤ N) : SimN c M F F' := fun ts ts' ha hl => h ts ts' ha (Nat.le_trans hl hm)
theorem many_go {c : Sm} {N : Nat} {F F' : Pe} {M : List UInt8 → ExprD → ExprD → ExprD} {signs : List (List UInt8)} (hs : [93] ∉ signs) (hF : SimN c N F F') (hT : Thin F) : ∀ (n n' : Nat) (x : ExprD) (ts ts' : List Tok), Al c ts ts' → ts.length ≤ N → ts.length ≤ n → ts.length ≤ n' → Rel c Eq (manyGo c.en F M signs n x ts) (manyGo c.en' F' M signs n' x ts')
  | 0, n', x, ts, ts', h, hN, hn, hn' => by
    have : ts = [] := List.length_eq_zero_iff.1 (by omega)
    subst this
    cases h
    cases n' with
    | zero => exact ⟨rfl, .nil⟩
    | succ n' =>
      simp only [manyGo]
      rw [isT_rest c hs]; exact ⟨rfl, .nil⟩
  | n + 1, 0, x, ts, ts', h, hN, hn, hn' => by
    have : ts = [] := List.length_eq_zero_iff.1 (by omega)
    subst this
    cases h
    simp only [manyGo]
    rw [isT_nil]; exact ⟨rfl, .nil⟩
  | n + 1, n' + 1, x, ts, ts', h, hN, hn, hn' => by
    simp only [manyGo]
    rw [isT_al h hs]
    split
    · rename_i hi
      obtain ⟨h1, h2⟩ := al_tail h hi
      have hl := isT_len hi
      rcases rel_cases ((hF _ _ h1 (by omega))) with ⟨y, y', r, r', e1, e1', e2, hr⟩ | ⟨_, _, _, q1, q2, hq, hqe⟩ | ⟨hq, _, _, q1⟩ | ⟨hq, _, q1⟩
      rotate_left
      · rw [q1, q2]; exact Rel.err (.inr hq) hqe
      · rw [q1]; exact Rel.limL hq
      · rw [q1]; exact Rel.limR hq
      rw [e1, e1']; dsimp only
      have h3 := hT _ _ _ e1
      have := deepE_pos y
      rw [← e2, h2.tx]
      exact many_go hs hF hT n n' _ _ _ hr (by omega) (by omega) (by omega)
    · exact ⟨rfl, h⟩
theorem many_sim {c : Sm} {N : Nat} {F F' : Pe} {M : List UInt8 → ExprD → ExprD → ExprD} {signs : List (List UInt8)} (hs : [93] ∉ signs) (hF : SimN c N F F') (hT : Thin F) : SimN c N (pMany c.en F M signs) (pMany c.en' F' M signs) := fun ts ts' h hN => by
  simp only [pMany]
  rcases rel_cases ((hF _ _ h hN)) with ⟨y, y', r, r', e1, e1', e2, hr⟩ | ⟨_, _, _, q1, q2, hq, hqe⟩ | ⟨hq, _, _, q1⟩ | ⟨hq, _, q1⟩
  rotate_left
  · rw [q1, q2]; exact Rel.err (.inr hq) hqe
  · rw [q1]; exact Rel.limL hq
  · rw [q1]; exact Rel.limR hq
  rw [e1, e1']; dsimp only
  have h3 := hT _ _ _ e1
  have := al_len hr
  subst e2
  exact many_go hs hF hT _ _ _ _ _ hr (by omega) (by omega) (by omega)
theorem cnt_al {c : Sm} {s : List UInt8} (hs : s ≠ [93]) {ts ts' : List Tok} (h : Al c ts ts') : (cntS c.en' s ts').1 = (cntS c.en s ts).1 ∧ Al c (cntS c.en s ts).2 (cntS c.en' s ts').2 := by
  have hx : [93] ∉ [s] := by simp; exact fun e => hs e.symm
  induction h with
  | nil =>
    have h0 := isT_rest c hx
    have e : cntS c.en' s c.rest = (0, c.rest) := by
      cases hr : c.rest with
      | nil => rfl
      | cons t r =>
        rw [hr] at h0
        simp only [cntS]
        rw [h0]; rfl
    rw [e]; exact ⟨rfl, .nil⟩
  | cons h1 h2 h3 h4 ih =>
    have e := isT_al (Al.cons h1 h2 h3 h4) hx
    simp only [cntS]
    rw [e]
    split
    · exact ⟨by rw [ih.1], ih.2⟩
    · exact ⟨rfl, Al.cons h1 h2 h3 h4⟩
theorem turned_sim {c : Sm} {N : Nat} {F F' : Pe} {sign : List UInt8} {k : Int} {nm : List UInt8} (hs : sign ≠ [93]) (hF : SimN c N F F') : SimN c N (pTurned c.en sign F k nm) (pTurned c.en' sign F' k nm) := fun ts ts' h hN => by
  simp only [pTurned]
  obtain ⟨h1, h2⟩ := cnt_al hs h
  have hl := cntS_len c.en sign ts
  rw [h1]
  rcases rel_cases ((hF _ _ h2 (by omega))) with ⟨y, y', r, r', e1, e1', e2, hr⟩ | ⟨_, _, _, q1, q2, hq, hqe⟩ | ⟨hq, _, _, q1⟩ | ⟨hq, _, q1⟩
  rotate_left
  · rw [q1, q2]; exact Rel.err (.inr hq) hqe
  · rw [q1]; exact Rel.limL hq
  · rw [q1]; exact Rel.limR hq
  rw [e1, e1']; dsimp only
  exact ⟨by rw [e2], hr⟩
/-- the knot, at fewer tokens -/
def KnotS {α : Type} (c : Sm) (N : Nat) (one one' : Nat → List Tok → Res α) : Prop := ∀ M b, M < N → SimN c M (one b) (one' b)
theorem bracket_sim {c : Sm} {N b : Nat} {one one' : Nat → Pe} (h1 : KnotS c N one one') (hT : ∀ b, Thin (one b)) : SimN c N (pBracket c.en b one) (pBracket c.en' b one') := fun ts ts' h hN => by
  simp only [pBracket]
  rcases rel_cases ((text_al [40] h)) with ⟨t, t', r, r', e1, e1', e2, hr⟩ | ⟨_, _, _, q1, q2, hq, hqe⟩ | ⟨hq, _, _, q1⟩ | ⟨hq, _, q1⟩
  rotate_left
  · rw [q1, q2]; exact Rel.err (.inr hq) hqe
  · rw [q1]; exact Rel.limL hq
  · rw [q1]; exact Rel.limR hq
  rw [e1, e1']; dsimp only
  have hl := text_len e1
  split
  · exact Rel.err e2.p
  · rcases rel_cases ((h1 (N - 1) (b + 1) (by omega) _ _ hr (by omega))) with ⟨x, x', r2, r2', e3, e3', e4, hr2⟩ | ⟨_, _, _, q1, q2, hq, hqe⟩ | ⟨hq, _, _, q1⟩ | ⟨hq, _, q1⟩
    rotate_left
    · rw [q1, q2]; exact Rel.err (.inr hq) hqe
    · rw [q1]; exact Rel.limL hq
    · rw [q1]; exact Rel.limR hq
    rw [e3, e3']; dsimp only
    rcases rel_cases ((text_al [41] hr2)) with ⟨t3, t3', r3, r3', e5, e5', e6, hr3⟩ | ⟨_, _, _, q1, q2, hq, hqe⟩ | ⟨hq, _, _, q1⟩ | ⟨hq, _, q1⟩
    rotate_left
    · rw [q1, q2]; exact Rel.err (.inr hq) hqe
    · rw [q1]; exact Rel.limL hq
    · rw [q1]; exact Rel.limR hq
    rw [e5, e5']; dsimp only
    exact ⟨e4, hr3⟩
theorem label_sim {c : Sm} {N b : Nat} {one one' : Nat → Pe} (h1 : KnotS c N one one') (hT : ∀ b, Thin (one b)) : SimN c N (pLabel c.en b one) (pLabel c.en' b one') := fun ts ts' h hN => by
  simp only [pLabel]
  rw [isT_al h (by decide), isT_al h (by decide)]
  split
  · exact bracket_sim h1 hT ts ts' h hN
  · split
    · rename_i hi; exact ⟨rfl, (al_tail h hi).1⟩
    · rcases rel_cases (kind_al (k := 1) (by decide) (by decide) h) with ⟨t, t', r, r', e1, e1', e2, hr⟩ | ⟨_, _, _, q1, q2, hq, hqe⟩ | ⟨hq, _, _, q1⟩ | ⟨hq, _, q1⟩
      rotate_left
      · rw [q1, q2]; exact Rel.err (.inr hq) hqe
      · rw [q1]; exact Rel.limL hq
      · rw [q1]; exact Rel.limR hq
      rw [e1, e1']; dsimp only
      exact ⟨by rw [e2.tx], hr⟩
theorem labels_sim (c : Sm) (N : Nat) : ∀ n n' b, N < n → N < n' → SimN c N (pLabels c.en n b) (pLabels c.en' n' b) := by
  induction N using Nat.strongRecOn with
  | ind N ih =>
  intro n n' b hn hn'
  obtain ⟨n, rfl⟩ : ∃ m, n = m + 1 := ⟨n - 1, by omega⟩
  obtain ⟨n', rfl⟩ : ∃ m, n' = m + 1 := ⟨n' - 1, by omega⟩
  have hk : KnotS c N (pLabels c.en n) (pLabels c.en' n') := fun M b hM => ih M hM n n' b (by omega) (by omega)
  have hT := labels_thin c.en n
  exact many_sim (by decide) (many_sim (by decide) (turned_sim (by decide) (label_sim hk hT)) (turned_thin (label_thin hT))) (many_thin (turned_thin (label_thin hT)) fun _ a b => deep_two 7 [] a b)
theorem lit_al {c : Sm} (s : List UInt8) {a a' : Int} {r r' : List Tok} (hp : c.lim ∨ c.pos a a') (hr : Al c r r') : Rel c Eq (pLit s a r) (pLit s a' r') := by
  unfold pLit
  split
  · exact ⟨rfl, hr⟩
  · exact Rel.err hp
theorem num_al {c : Sm} (s : List UInt8) {ts ts' : List Tok} (h : Al c ts ts') : Rel c Eq (pNum c.en s ts) (pNum c.en' s ts') := by
  unfold pNum
  rw [isT_al h (by decide)]
  have hp := al_pos h
  rcases al_next h with ⟨_, _, h1, h2⟩ | ⟨rfl, rfl⟩
  · rw [h1.k, h1.tx]
    split
    · exact Rel.err hp
    · exact lit_al _ h1.p h2
  · rw [isT_nil, if_pos ⟨show (0 : Nat) ≠ 3 by decide, rfl⟩, if_pos ⟨fun e => by rcases (al_end c).2 with ⟨h3, _⟩ | ⟨_, h3, _⟩ <;> omega, rfl⟩]
    exact Rel.err hp
theorem atom_sim {c : Sm} {N b : Nat} {one one' : Nat → Pe} (h1 : KnotS c N one one') (hT : ∀ b, Thin (one b)) : SimN c N (pAtom c.en b one) (pAtom c.en' b one') := fun ts ts' h hN => by
  unfold pAtom
  rw [isT_al h (show [93] ∉ [[40]] by decide), isT_al h (show [93] ∉ [wNull, wTrue, wFalse, wNan] by decide), isT_al h (show [93] ∉ [[45]] by decide)]
  have hp := al_pos h
  rcases al_next h with ⟨hne, _, h2, h3⟩ | ⟨rfl, rfl⟩
  · rw [h2.k, h2.tx]
    split
    · exact ⟨rfl, h3⟩
    · split
      · exact bracket_sim h1 hT ts ts' h hN
      · split
        · exact lit_al _ h2.p h3
        · split
          · exact num_al _ h3
          · exact num_al _ h
  · have e1 : ¬ (nextT c.en' c.rest).k = 1 := fun e => by rcases (al_end c).2 with ⟨h3, _⟩ | ⟨_, h3, _⟩ <;> omega
    have e4 : ¬ (nextT c.en' c.rest).k = 4 := fun e => by rcases (al_end c).2 with ⟨h3, _⟩ | ⟨_, h3, _⟩ <;> omega
    rw [isT_nil, isT_nil, isT_nil, if_neg (show ¬ (nextT c.en []).k = 1 from fun e => by cases e), if_neg e1, if_neg Bool.false_ne_true, if_neg Bool.false_ne_true, if_neg (show ¬ ((nextT c.en []).k = 4 ∨ false = true) from fun e => by rcases e with e | e <;> cases e), if_neg (show ¬ ((nextT c.en' c.rest).k = 4 ∨ false = true) from fun e => by rcases e with e | e; exact e4 e; cases e), if_neg Bool.false_ne_true, if_neg Bool.false_ne_true]
    exact num_al _ h
theorem sum_sim {c : Sm} {N b : Nat} {one one' : Nat → Pe} (h1 : KnotS c N one one') (hT : ∀ b, Thin (one b)) : SimN c N (pSum c.en b one) (pSum c.en' b one') :=
  many_sim (by decide) (many_sim (by decide) (atom_sim h1 hT) (atom_thin hT)) (many_thin (atom_thin hT) op_deep)
theorem sum_thin {en b : Nat} {one : Nat → Pe} (hT : ∀ b, Thin (one b)) : Thin (pSum en b one) := many_thin (many_thin (atom_thin hT) op_deep) op_deep
theorem test_sim {c : Sm} {N b : Nat} {one one' : Nat → Pe} (h1 : KnotS c N one one') (hT : ∀ b, Thin (one b)) : SimN c N (pTest c.en b one) (pTest c.en' b one') := fun ts ts' h hN => by
  simp only [pTest]
  rcases rel_cases ((sum_sim h1 hT ts ts' h hN)) with ⟨x, x', r, r', e1, e1', e2, hr⟩ | ⟨_, _, _, q1, q2, hq, hqe⟩ | ⟨hq, _, _, q1⟩ | ⟨hq, _, q1⟩
  rotate_left
  · rw [q1, q2]; exact Rel.err (.inr hq) hqe
  · rw [q1]; exact Rel.limL hq
  · rw [q1]; exact Rel.limR hq
  rw [e1, e1']; dsimp only
  subst e2
  have hl := sum_thin hT _ _ _ e1
  rw [isT_al hr (by decide), isT_al hr (by decide)]
  split
  · rename_i hi
    obtain ⟨h2, h3⟩ := al_tail hr hi
    have := isT_len hi
    rcases rel_cases ((sum_sim h1 hT _ _ h2 (by omega))) with ⟨y, y', r2, r2', e3, e3', e4, hr2⟩ | ⟨_, _, _, q1, q2, hq, hqe⟩ | ⟨hq, _, _, q1⟩ | ⟨hq, _, q1⟩
    rotate_left
    · rw [q1, q2]; exact Rel.err (.inr hq) hqe
    · rw [q1]; exact Rel.limL hq
    · rw [q1]; exact Rel.limR hq
    rw [e3, e3']; dsimp only
    subst e4
    exact ⟨by rw [h3.tx], hr2⟩
  · split
    · rename_i hi
      rcases rel_cases ((text_al wNull (al_tail hr hi).1)) with ⟨t, t', r2, r2', e3, e3', e4, hr2⟩ | ⟨_, _, _, q1, q2, hq, hqe⟩ | ⟨hq, _, _, q1⟩ | ⟨hq, _, q1⟩
      rotate_left
      · rw [q1, q2]; exact Rel.err (.inr hq) hqe
      · rw [q1]; exact Rel.limL hq
      · rw [q1]; exact Rel.limR hq
      rw [e3, e3']; dsimp only
      exact ⟨rfl, hr2⟩
    · exact ⟨rfl, hr⟩
theorem expr_sim (c : Sm) (N : Nat) : ∀ n n' b, N < n → N < n' → SimN c N (pExpr c.en n b) (pExpr c.en' n' b) := by
  induction N using Nat.strongRecOn with
  | ind N ih =>
  intro n n' b hn hn'
  obtain ⟨n, rfl⟩ : ∃ m, n = m + 1 := ⟨n - 1, by omega⟩
  obtain ⟨n', rfl⟩ : ∃ m, n' = m + 1 := ⟨n' - 1, by omega⟩
  have hk : KnotS c N (pExpr c.en n) (pExpr c.en' n') := fun M b hM => ih M hM n n' b (by omega) (by omega)
  have hT := expr_thin c.en n
  exact many_sim (by decide) (many_sim (by decide) (turned_sim (by decide) (test_sim hk hT)) (turned_thin (test_thin hT))) (many_thin (turned_thin (test_thin hT)) op_deep)
/-! ### patterns -/
theorem fillW_al {c : Sm} {m m' : Nat} {k : Int} {var : List UInt8} {lab : ExprD} {ts ts' : List Tok} (h : Al c ts ts') (hm : ts.length < m) (hm' : ts.length < m') : Rel c Eq (pFillW c.en m k var lab ts) (pFillW c.en' m' k var lab ts') := by
  unfold pFillW
  rw [isT_al h (by decide)]
  split
  · rename_i hi
    have := isT_len hi
    rcases rel_cases ((expr_sim c ts.length m m' 0 hm hm' _ _ (al_tail h hi).1 (by omega))) with ⟨x, x', r, r', e1, e1', e2, hr⟩ | ⟨_, _, _, q1, q2, hq, hqe⟩ | ⟨hq, _, _, q1⟩ | ⟨hq, _, q1⟩
    rotate_left
    · rw [q1, q2]; exact Rel.err (.inr hq) hqe
    · rw [q1]; exact Rel.limL hq
    · rw [q1]; exact Rel.limR hq
    rw [e1, e1']; dsimp only
    exact ⟨by rw [e2], hr⟩
  · exact ⟨rfl, h⟩
theorem fillL_al {c : Sm} {m m' : Nat} {k : Int} {var : List UInt8} {ts ts' : List Tok} (h : Al c ts ts') (hm : ts.length < m) (hm' : ts.length < m') : Rel c Eq (pFillL c.en m k var ts) (pFillL c.en' m' k var ts') := by
  unfold pFillL
  rw [isT_al h (by decide)]
  split
  · rename_i hi
    have := isT_len hi
    rcases rel_cases ((labels_sim c ts.length m m' 0 hm hm' _ _ (al_tail h hi).1 (by omega))) with ⟨x, x', r, r', e1, e1', e2, hr⟩ | ⟨_, _, _, q1, q2, hq, hqe⟩ | ⟨hq, _, _, q1⟩ | ⟨hq, _, q1⟩
    rotate_left
    · rw [q1, q2]; exact Rel.err (.inr hq) hqe
    · rw [q1]; exact Rel.limL hq
    · rw [q1]; exact Rel.limR hq
    rw [e1, e1']; dsimp only
    have := labels_thin c.en m 0 _ _ _ e1
    subst e2
    exact fillW_al hr (by omega) (by omega)
  · exact fillW_al h hm hm'
theorem fill_al {c : Sm} {m m' : Nat} {k : Int} {ts ts' : List Tok} (h : Al c ts ts') (hm : ts.length < m) (hm' : ts.length < m') : Rel c Eq (pFill c.en m k ts) (pFill c.en' m' k ts') := by
  unfold pFill
  rcases al_next h with ⟨hne, _, h2, h3⟩ | ⟨rfl, rfl⟩
  · rw [h2.k, h2.tx]
    split
    · have := tail_le ts
      exact fillL_al h3 (by omega) (by omega)
    · exact fillL_al h hm hm'
  · rw [if_neg (show ¬ (nextT c.en []).k = 1 from fun e => by cases e), if_neg (show ¬ (nextT c.en' c.rest).k = 1 from fun e => by rcases (al_end c).2 with ⟨h3, _⟩ | ⟨_, h3, _⟩ <;> omega)]
    exact fillL_al h hm hm'
theorem begins_al {c : Sm} {ts ts' : List Tok} (h : Al c ts ts') : beginsT c.en' ts' = beginsT c.en ts := by
  unfold beginsT
  rw [isT_al h (by decide)]
  rcases al_next h with ⟨hne, _, h2, h3⟩ | ⟨rfl, rfl⟩
  · rw [h2.k, h2.tx]
  · congr 1
    have e1 : decide ((nextT c.en []).k = 5 ∧ (endsKV (nextT c.en []).t ≠ [] ∨ 0 < shortV (nextT c.en []).t)) = false := by rw [decide_eq_false_iff_not]; rintro ⟨h, _⟩; cases h
    rw [e1, decide_eq_false_iff_not]
    rintro ⟨h3, h4⟩
    rcases (al_end c).2 with ⟨h5, _⟩ | ⟨_, _, h6⟩
    · omega
    · rw [h6] at h4
      rcases h4 with h4 | h4
      · exact h4 (by decide)
      · exact absurd h4 (by decide)
/-- how deep in groups: alike, or deeper -/
def Gap (c : Sm) (g g' : Nat) : Prop := g = g' ∨ (c.lim ∧ g ≤ g')
theorem Gap.up {c : Sm} {g g' : Nat} (h : Gap c g g') : Gap c (g + 1) (g' + 1) := h.imp (fun h => by omega) fun h => ⟨h.1, by omega⟩
def KnotP (c : Sm) (N : Nat) (one one' : Nat → List Tok → Res PatD) : Prop := ∀ M g g', M < N → Gap c g g' → SimN c M (one g) (one' g')
theorem primary_sim {c : Sm} {N g g' m m' : Nat} {one one' : Nat → List Tok → Res PatD} (h1 : KnotP c N one one') (hT : ∀ g, ThinP (one g)) (hg : Gap c g g') (hm : N < m) (hm' : N < m') : SimN c N (pPrimary c.en m g one) (pPrimary c.en' m' g' one') := fun ts ts' h hN => by
  unfold pPrimary
  rw [begins_al h]
  split
  · exact Rel.err (al_pos h)
  · rename_i hb
    have hne := begins_ne (en := c.en) (ts := ts) (by simpa using hb)
    have hl := List.length_pos_iff.2 hne
    have ht : ts.tail.length + 1 = ts.length := by rw [List.length_tail]; omega
    obtain ⟨h2, h3⟩ : TkAl c (nextT c.en ts) (nextT c.en' ts') ∧ Al c ts.tail ts'.tail := by
      rcases al_next h with ⟨_, _, h2, h3⟩ | ⟨h2, _⟩
      · exact ⟨h2, h3⟩
      · exact absurd h2 hne
    rw [h2.tx]
    split
    · rcases rel_cases ((fill_al (m := m) (m' := m') (k := 1) h3 (by omega) (by omega))) with ⟨x, x', r, r', e1, e1', e2, hr⟩ | ⟨_, _, _, q1, q2, hq, hqe⟩ | ⟨hq, _, _, q1⟩ | ⟨hq, _, q1⟩
      rotate_left
      · rw [q1, q2]; exact Rel.err (.inr hq) hqe
      · rw [q1]; exact Rel.limL hq
      · rw [q1]; exact Rel.limR hq
      rw [e1, e1']; dsimp only
      rcases rel_cases ((text_al [41] hr)) with ⟨t, t', r2, r2', e3, e3', e4, hr2⟩ | ⟨_, _, _, q1, q2, hq, hqe⟩ | ⟨hq, _, _, q1⟩ | ⟨hq, _, q1⟩
      rotate_left
      · rw [q1, q2]; exact Rel.err (.inr hq) hqe
      · rw [q1]; exact Rel.limL hq
      · rw [q1]; exact Rel.limR hq
      rw [e3, e3']; dsimp only
      exact ⟨e2, hr2⟩
    · split
      · by_cases hg1 : 50 ≤ g
        · rw [if_pos hg1, if_pos (by rcases hg with h | h <;> omega)]
          exact Rel.err h2.p
        · rw [if_neg hg1]
          by_cases hg2 : 50 ≤ g'
          · rw [if_pos hg2]
            rcases hg with h | h
            · omega
            · exact Rel.limR h.1
          · rw [if_neg hg2]
            rcases rel_cases ((h1 (N - 1) _ _ (by omega) hg.up _ _ h3 (by omega))) with ⟨x, x', r, r', e1, e1', e2, hr⟩ | ⟨_, _, _, q1, q2, hq, hqe⟩ | ⟨hq, _, _, q1⟩ | ⟨hq, _, q1⟩
            rotate_left
            · rw [q1, q2]; exact Rel.err (.inr hq) hqe
            · rw [q1]; exact Rel.limL hq
            · rw [q1]; exact Rel.limR hq
            rw [e1, e1']; dsimp only
            rcases rel_cases ((text_al [93] hr)) with ⟨t, t', r2, r2', e3, e3', e4, hr2⟩ | ⟨_, _, _, q1, q2, hq, hqe⟩ | ⟨hq, _, _, q1⟩ | ⟨hq, _, q1⟩
            rotate_left
            · rw [q1, q2]; exact Rel.err (.inr hq) hqe
            · rw [q1]; exact Rel.limL hq
            · rw [q1]; exact Rel.limR hq
            rw [e3, e3']; dsimp only
            exact ⟨e2, hr2⟩
      · split
        · exact ⟨rfl, h3⟩
        · rcases rel_cases ((fill_al (m := m) (m' := m') (k := 2) h3 (by omega) (by omega))) with ⟨x, x', r, r', e1, e1', e2, hr⟩ | ⟨_, _, _, q1, q2, hq, hqe⟩ | ⟨hq, _, _, q1⟩ | ⟨hq, _, q1⟩
          rotate_left
          · rw [q1, q2]; exact Rel.err (.inr hq) hqe
          · rw [q1]; exact Rel.limL hq
          · rw [q1]; exact Rel.limR hq
          rw [e1, e1']; dsimp only
          subst e2
          have hp := al_pos hr
          rcases al_next hr with ⟨_, _, h4, h5⟩ | ⟨rfl, rfl⟩
          · rw [h4.k, h4.tx]
            split
            · exact Rel.err hp
            · split
              · exact ⟨rfl, h5⟩
              · exact Rel.err hp
          · have e5 : ¬ (nextT c.en []).k = 5 := fun e => by cases e
            have e6 : ¬ (nextT c.en' []).k = 5 := fun e => by cases e
            cases hd : dirOf (nextT c.en' ts').t (nextT c.en []).t
            all_goals dsimp only
            all_goals try rw [if_neg e5]
            all_goals by_cases hl : c.lim
            all_goals try exact Rel.limL hl
            all_goals rw [(c.h0 hl).1] at hp ⊢
            all_goals cases hd' : dirOf (nextT c.en' ts').t (nextT c.en' []).t
            all_goals dsimp only
            all_goals try rw [if_neg e6]
            all_goals exact Rel.err hp
theorem whole_al {c : Sm} {a a' : Int} {ts ts' : List Tok} (h : Al c ts ts') (hp : c.lim ∨ c.pos a a') : Rel c Eq (pWhole c.en a ts) (pWhole c.en' a' ts') := by
  unfold pWhole
  rcases rel_cases (kind_al (k := 3) (by decide) (by decide) h) with ⟨t, t', r, r', e1, e1', e2, hr⟩ | ⟨_, _, _, q1, q2, hq, hqe⟩ | ⟨hq, _, _, q1⟩ | ⟨hq, _, q1⟩
  rotate_left
  · rw [q1, q2]; exact Rel.err (.inr hq) hqe
  · rw [q1]; exact Rel.limL hq
  · rw [q1]; exact Rel.limR hq
  rw [e1, e1']; dsimp only
  rw [e2.tx]
  split
  · split
    · exact ⟨rfl, hr⟩
    · exact Rel.err hp
  · exact Rel.err hp
theorem times_al {c : Sm} {ts ts' : List Tok} (h : Al c ts ts') : Rel c Eq (pTimes c.en ts) (pTimes c.en' ts') := by
  unfold pTimes
  rw [isT_al h (by decide)]
  split
  · exact ⟨rfl, h⟩
  · rename_i h0
    obtain ⟨h1, h2⟩ := al_tail h (show isT c.en [[42], [43], [63], [123]] ts = true by simpa using h0)
    rw [h2.tx]
    split
    · exact ⟨rfl, h1⟩
    · split
      · exact ⟨rfl, h1⟩
      · split
        · exact ⟨rfl, h1⟩
        · rcases rel_cases ((whole_al h1 h2.p)) with ⟨mn, mn', r, r', e1, e1', e2, hr⟩ | ⟨_, _, _, q1, q2, hq, hqe⟩ | ⟨hq, _, _, q1⟩ | ⟨hq, _, q1⟩
          rotate_left
          · rw [q1, q2]; exact Rel.err (.inr hq) hqe
          · rw [q1]; exact Rel.limL hq
          · rw [q1]; exact Rel.limR hq
          rw [e1, e1']; dsimp only
          subst e2
          have hmx : Rel c Eq (if isT c.en [[44]] r = true then (if isT c.en [[125]] r.tail = true then Res.ok (-1) r.tail else pWhole c.en (nextT c.en ts).a r.tail) else Res.ok mn r) (if isT c.en' [[44]] r' = true then (if isT c.en' [[125]] r'.tail = true then Res.ok (-1) r'.tail else pWhole c.en' (nextT c.en' ts').a r'.tail) else Res.ok mn r') := by
            rw [isT_al hr (by decide)]
            split
            · rename_i hi
              have h4 := (al_tail hr hi).1
              rw [isT_al h4 (by decide)]
              split
              · exact ⟨rfl, h4⟩
              · exact whole_al h4 h2.p
            · exact ⟨rfl, hr⟩
          rcases rel_cases (hmx) with ⟨mx, mx', r2, r2', e3, e3', e4, hr2⟩ | ⟨_, _, _, q1, q2, hq, hqe⟩ | ⟨hq, _, _, q1⟩ | ⟨hq, _, q1⟩
          rotate_left
          · rw [q1, q2]; exact Rel.err (.inr hq) hqe
          · rw [q1]; exact Rel.limL hq
          · rw [q1]; exact Rel.limR hq
          rw [e3, e3']; dsimp only
          · subst e4
            rcases rel_cases ((text_al [125] hr2)) with ⟨t, t', r3, r3', e5, e5', e6, hr3⟩ | ⟨_, _, _, q1, q2, hq, hqe⟩ | ⟨hq, _, _, q1⟩ | ⟨hq, _, q1⟩
            rotate_left
            · rw [q1, q2]; exact Rel.err (.inr hq) hqe
            · rw [q1]; exact Rel.limL hq
            · rw [q1]; exact Rel.limR hq
            rw [e5, e5']; dsimp only
            unfold timesOk
            split
            · exact Rel.err h2.p
            · split
              · exact Rel.err h2.p
              · exact ⟨rfl, hr3⟩
theorem item_sim {c : Sm} {N g g' m m' : Nat} {one one' : Nat → List Tok → Res PatD} (h1 : KnotP c N one one') (hT : ∀ g, ThinP (one g)) (hg : Gap c g g') (hm : N < m) (hm' : N < m') : SimN c N (pItem c.en m g one) (pItem c.en' m' g' one') := fun ts ts' h hN => by
  unfold pItem
  rcases rel_cases ((primary_sim h1 hT hg hm hm' ts ts' h hN)) with ⟨x, x', r, r', e1, e1', e2, hr⟩ | ⟨_, _, _, q1, q2, hq, hqe⟩ | ⟨hq, _, _, q1⟩ | ⟨hq, _, q1⟩
  rotate_left
  · rw [q1, q2]; exact Rel.err (.inr hq) hqe
  · rw [q1]; exact Rel.limL hq
  · rw [q1]; exact Rel.limR hq
  rw [e1, e1']; dsimp only
  subst e2
  have h2 := times_al hr
  cases h3 : pTimes c.en r with
  | err a e =>
    rw [h3] at h2
    cases h4 : pTimes c.en' r' with
    | err a' e' => rw [h4] at h2; exact h2
    | ok y r3 => rw [h4] at h2; exact Rel.limL h2
  | ok y r2 =>
    rw [h3] at h2
    cases h4 : pTimes c.en' r' with
    | err a' e' => rw [h4] at h2; obtain ⟨h5, h6⟩ := h2; subst h6; exact Rel.limR h5
    | ok y' r3 =>
      rw [h4] at h2
      obtain ⟨h5, h6⟩ := h2
      subst h5
      cases y with
      | none => exact ⟨rfl, h6⟩
      | some q => obtain ⟨mn, mx⟩ := q; exact ⟨rfl, h6⟩
/-- what tells whether one more follows, alike -/
def GoAl (c : Sm) (go go' : List Tok → Option (List Tok)) : Prop := ∀ ts ts', Al c ts ts' → (go ts = none ∧ go' ts' = none) ∨ ∃ us us', go ts = some us ∧ go' ts' = some us' ∧ Al c us us' ∧ us.length ≤ ts.length ∧ ts ≠ []
theorem rowGo_al {c : Sm} {N : Nat} {go go' : List Tok → Option (List Tok)} {F F' : List Tok → Res PatD} (hgo : GoAl c go go') (hF : SimN c N F F') (hT : ThinP F) : ∀ (n n' : Nat) (l : List PatD) (ts ts' : List Tok), Al c ts ts' → ts.length ≤ N → ts.length ≤ n → ts.length ≤ n' → Rel c Eq (rowGo go F n l ts) (rowGo go' F' n' l ts')
  | 0, n', l, ts, ts', h, hN, hn, hn' => by
    have : ts = [] := List.length_eq_zero_iff.1 (by omega)
    subst this
    cases n' with
    | zero => exact ⟨rfl, h⟩
    | succ n' =>
      simp only [rowGo]
      rcases hgo _ _ h with ⟨_, e⟩ | ⟨_, _, _, _, _, _, h6⟩
      · rw [e]; exact ⟨rfl, h⟩
      · exact absurd rfl h6
  | n + 1, 0, l, ts, ts', h, hN, hn, hn' => by
    have : ts = [] := List.length_eq_zero_iff.1 (by omega)
    subst this
    simp only [rowGo]
    rcases hgo _ _ h with ⟨e, _⟩ | ⟨_, _, _, _, _, _, h6⟩
    · rw [e]; exact ⟨rfl, h⟩
    · exact absurd rfl h6
  | n + 1, n' + 1, l, ts, ts', h, hN, hn, hn' => by
    simp only [rowGo]
    rcases hgo _ _ h with ⟨e, e'⟩ | ⟨us, us', e, e', h3, h4, h5⟩
    · rw [e, e']; exact ⟨rfl, h⟩
    · rw [e, e']; dsimp only
      rcases rel_cases ((hF _ _ h3 (by omega))) with ⟨x, x', r, r', e1, e1', e2, hr⟩ | ⟨_, _, _, q1, q2, hq, hqe⟩ | ⟨hq, _, _, q1⟩ | ⟨hq, _, q1⟩
      rotate_left
      · rw [q1, q2]; exact Rel.err (.inr hq) hqe
      · rw [q1]; exact Rel.limL hq
      · rw [q1]; exact Rel.limR hq
      rw [e1, e1']; dsimp only
      subst e2
      have h6 := hT _ _ _ e1
      have := deepP_pos x
      exact rowGo_al hgo hF hT n n' _ _ _ hr (by omega) (by omega) (by omega)
theorem row_sim {c : Sm} {N : Nat} {k : Int} {go go' : List Tok → Option (List Tok)} {F F' : List Tok → Res PatD} (hgo : GoAl c go go') (hF : SimN c N F F') (hT : ThinP F) : SimN c N (pRow k go F) (pRow k go' F') := fun ts ts' h hN => by
  unfold pRow
  rcases rel_cases ((hF _ _ h hN)) with ⟨x, x', r, r', e1, e1', e2, hr⟩ | ⟨_, _, _, q1, q2, hq, hqe⟩ | ⟨hq, _, _, q1⟩ | ⟨hq, _, q1⟩
  rotate_left
  · rw [q1, q2]; exact Rel.err (.inr hq) hqe
  · rw [q1]; exact Rel.limL hq
  · rw [q1]; exact Rel.limR hq
  rw [e1, e1']; dsimp only
  subst e2
  have h6 := hT _ _ _ e1
  have := al_len hr
  have := deepP_pos x
  rcases rel_cases ((rowGo_al hgo hF hT r.length r'.length [x] _ _ hr (by omega) (by omega) (by omega))) with ⟨l, l', r2, r2', e3, e3', e4, hr2⟩ | ⟨_, _, _, q1, q2, hq, hqe⟩ | ⟨hq, _, _, q1⟩ | ⟨hq, _, q1⟩
  rotate_left
  · rw [q1, q2]; exact Rel.err (.inr hq) hqe
  · rw [q1]; exact Rel.limL hq
  · rw [q1]; exact Rel.limR hq
  rw [e3, e3']; dsimp only
  subst e4
  exact ⟨rfl, hr2⟩
theorem goB_al (c : Sm) : GoAl c (fun ts => if beginsT c.en ts = true then some ts else none) (fun ts => if beginsT c.en' ts = true then some ts else none) := fun ts ts' h => by
  simp only [begins_al h]
  by_cases hb : beginsT c.en ts = true
  · rw [if_pos hb, if_pos hb]; exact .inr ⟨_, _, rfl, rfl, h, Nat.le_refl _, begins_ne hb⟩
  · rw [if_neg hb, if_neg hb]; exact .inl ⟨rfl, rfl⟩
theorem goA_al (c : Sm) : GoAl c (fun ts => if isT c.en [[124]] ts = true then some ts.tail else none) (fun ts => if isT c.en' [[124]] ts = true then some ts.tail else none) := fun ts ts' h => by
  simp only [isT_al h (show [93] ∉ [[124]] by decide)]
  by_cases hb : isT c.en [[124]] ts = true
  · rw [if_pos hb, if_pos hb]; exact .inr ⟨_, _, rfl, rfl, (al_tail h hb).1, tail_le ts, isT_ne hb⟩
  · rw [if_neg hb, if_neg hb]; exact .inl ⟨rfl, rfl⟩
theorem branch_thin {en m g : Nat} {one : Nat → List Tok → Res PatD} (hT : ∀ g, ThinP (one g)) : ThinP (pBranch en m g one) := row_thin (fun ts ts' h => by
      split at h
      · injection h with h; subst h; exact Nat.le_refl _
      · cases h) (item_thin hT)
theorem pat_sim (c : Sm) (N : Nat) : ∀ m m' n n' g g', N < m → N < m' → N < n → N < n' → Gap c g g' → SimN c N (pPat c.en m n g) (pPat c.en' m' n' g') := by
  induction N using Nat.strongRecOn with
  | ind N ih =>
  intro m m' n n' g g' hm hm' hn hn' hg
  obtain ⟨n, rfl⟩ : ∃ m, n = m + 1 := ⟨n - 1, by omega⟩
  obtain ⟨n', rfl⟩ : ∃ m, n' = m + 1 := ⟨n' - 1, by omega⟩
  have hk : KnotP c N (pPat c.en m n) (pPat c.en' m' n') := fun M g g' hM hg => ih M hM m m' n n' g g' (by omega) (by omega) (by omega) (by omega) hg
  have hT := pat_thin c.en m n
  exact row_sim (goA_al c) (row_sim (goB_al c) (item_sim hk hT hg hm hm') (item_thin hT)) (branch_thin hT)
theorem sel_al {c : Sm} {ts ts' : List Tok} (h : Al c ts ts') : Rel c Eq (pSel c.en ts) (pSel c.en' ts') := by
  unfold pSel
  rw [isT_al h (show [93] ∉ [wAll] by decide), isT_al h (show [93] ∉ [wAny] by decide), isT_al h (show [93] ∉ [wShort] by decide)]
  split
  · rename_i hi
    have h1 := (al_tail h hi).1
    rw [isT_al h1 (by decide)]
    split
    · rename_i hj; exact ⟨rfl, (al_tail h1 hj).1⟩
    · exact ⟨rfl, h1⟩
  · split
    · rename_i hi; exact ⟨rfl, (al_tail h hi).1⟩
    · split
      · rename_i hi
        have h1 := (al_tail h hi).1
        have hp := al_pos h1
        rcases rel_cases ((whole_al h1 hp)) with ⟨x, x', r, r', e1, e1', e2, hr⟩ | ⟨_, _, _, q1, q2, hq, hqe⟩ | ⟨hq, _, _, q1⟩ | ⟨hq, _, q1⟩
        rotate_left
        · rw [q1, q2]; exact Rel.err (.inr hq) hqe
        · rw [q1]; exact Rel.limL hq
        · rw [q1]; exact Rel.limR hq
        rw [e1, e1']; dsimp only
        subst e2
        split
        · exact Rel.err hp
        · split
          · exact Rel.err hp
          · exact ⟨rfl, hr⟩
      · exact ⟨rfl, h⟩
theorem mode_al {c : Sm} {ts ts' : List Tok} (h : Al c ts ts') : (pMode c.en' ts').1 = (pMode c.en ts).1 ∧ Al c (pMode c.en ts).2 (pMode c.en' ts').2 := by
  unfold pMode
  rw [isT_al h (by decide)]
  split
  · rename_i hi
    obtain ⟨h1, h2⟩ := al_tail h hi
    exact ⟨by rw [h2.tx], h1⟩
  · exact ⟨rfl, h⟩
/-- the whole query, where nothing stands behind -/
theorem query_sim {c : Sm} (hl : ¬ c.lim) {ts ts' : List Tok} (h : Al c ts ts') : Rel c Eq (pQuery c.en ts) (pQuery c.en' ts') := by
  unfold pQuery
  obtain ⟨h1, h2⟩ := mode_al h
  have hm := mode_len c.en ts
  have hle := al_len h
  rw [h1]
  rcases rel_cases ((sel_al h2)) with ⟨x, x', r, r', e1, e1', e2, hr⟩ | ⟨_, _, _, q1, q2, hq, hqe⟩ | ⟨hq, _, _, q1⟩ | ⟨hq, _, q1⟩
  rotate_left
  · rw [q1, q2]; exact Rel.err (.inr hq) hqe
  · rw [q1]; exact Rel.limL hq
  · rw [q1]; exact Rel.limR hq
  rw [e1, e1']; dsimp only
  subst e2
  have hs := sel_len e1
  rcases rel_cases ((pat_sim c ts.length (ts.length + 1) (ts'.length + 1) (ts.length + 1) (ts'.length + 1) 0 0 (by omega) (by omega) (by omega) (by omega) (.inl rfl) _ _ hr (by omega))) with ⟨x, x', r2, r2', e3, e3', e4, hr2⟩ | ⟨_, _, _, q1, q2, hq, hqe⟩ | ⟨hq, _, _, q1⟩ | ⟨hq, _, q1⟩
  rotate_left
  · rw [q1, q2]; exact Rel.err (.inr hq) hqe
  · rw [q1]; exact Rel.limL hq
  · rw [q1]; exact Rel.limR hq
  rw [e3, e3']; dsimp only
  subst e4
  have hr3 := al_len hr2
  rw [(c.h0 hl).1] at hr3
  simp only [List.length_nil, Nat.add_zero] at hr3
  rw [hr3]
  split
  · exact Rel.err (al_pos hr2)
  · exact ⟨rfl, hr2⟩
end Go.Proofs.YtjnabgddjogkbaaGreatDoor
namespace Go.Proofs.YtjnabgddjogkbaaGreatDoor
open Go.RowKit Go.Bw Go.Bw.Fl
set_option linter.unusedVariables false
set_option linter.unusedSimpArgs false
theorem al_of {c : Sm} : ∀ (l k : List Tok), k.map kt = l.map kt → (∀ (i : Nat) (h : i < l.length) (h' : i < k.length), c.pos (l[i].a : Int) (k[i].a : Int)) → Al c l (k ++ c.rest)
  | [], [], _, _ => Al.nil
  | [], y :: r, h, _ => by cases h
  | x :: l, [], h, _ => by cases h
  | x :: l, y :: k, h, hp => by
    simp only [List.map_cons, List.cons.injEq] at h
    obtain ⟨h1, h2⟩ := h
    exact Al.cons (congrArg Prod.fst h1).symm (congrArg Prod.snd h1).symm (hp 0 (by simp) (by simp)) (al_of l k h2 fun i h h' => hp (i + 1) (by simpa using h) (by simpa using h'))
/-- an error is one -/
theorem query_e {en : Nat} {l : List Tok} {a e : Int} (h : pQuery en l = .err a e) : e ≠ 0 := by
  have := query_sim (c := ⟨False, fun _ _ => True, [], en, en, fun _ => ⟨rfl, trivial⟩, .inl rfl⟩) id (al_of l l rfl fun _ _ _ => trivial)
  simp only [List.append_nil] at this
  rw [h] at this
  rcases this with h | h
  · exact h.elim
  · exact h.2.2
theorem parse_ok0 {s : List UInt8} {q : QryD} {a : Int} (h : parseV s = (q, a, 0)) : a = 0 ∧ s.length ≤ 65536 ∧ ∃ l r, lexV s 0 = .ok l ∧ pQuery s.length l = .ok q r ∧ ¬ (50 < deepP q.pat ∨ tooDeep q.pat = true) := by
  unfold parseV at h
  split at h
  · injection h with h1 h2; injection h2 with h2 h3; cases h3
  · rename_i hs
    split at h
    · injection h with h1 h2; injection h2 with h2 h3; cases h3
    · rename_i l hl
      unfold parseT at h
      cases hq : pQuery s.length l with
      | err a' e' =>
        rw [hq] at h
        injection h with h1 h2; injection h2 with h2 h3
        exact absurd h3 (query_e hq)
      | ok q' r =>
        rw [hq] at h
        dsimp only at h
        split at h
        · injection h with h1 h2; injection h2 with h2 h3; cases h3
        · rename_i hd
          injection h with h1 h2; injection h2 with h2 h3
          subst h1
          exact ⟨h2.symm, by omega, l, r, hl, hq, hd⟩
theorem tokens_eq {s t : List UInt8} {l k : List Tok} (hs : s.length ≤ 65536) (ht : t.length ≤ 65536) (hl : lexV s 0 = .ok l) (hk : lexV t 0 = .ok k) (hkt : k.map kt = l.map kt) :
    ∃ (q : QryD) (a a' e : Int), parseV s = (q, a, e) ∧ parseV t = (q, a', e) ∧ (e = 0 → a = 0 ∧ a' = 0) ∧ (e ≠ 0 → (∃ (i : Nat) (h : i < l.length) (h' : i < k.length), a = (l[i].a : Int) ∧ a' = (k[i].a : Int)) ∨ (a = (s.length : Int) ∧ a' = (t.length : Int)) ∨ (e = 6 ∧ a = 0 ∧ a' = 0)) := by
  have e1 : parseV s = parseT s.length l := by unfold parseV; rw [if_neg (by omega), hl]
  have e2 : parseV t = parseT t.length k := by unfold parseV; rw [if_neg (by omega), hk]
  have := query_sim (c := ⟨False, fun a a' => (∃ (i : Nat) (h : i < l.length) (h' : i < k.length), a = (l[i].a : Int) ∧ a' = (k[i].a : Int)) ∨ (a = (s.length : Int) ∧ a' = (t.length : Int)), [], s.length, t.length, fun _ => ⟨rfl, .inr ⟨rfl, rfl⟩⟩, .inl rfl⟩) id (al_of l k hkt fun i h h' => .inl ⟨i, h, h', rfl, rfl⟩)
  simp only [List.append_nil] at this
  rw [e1, e2]
  unfold parseT
  cases hq : pQuery s.length l with
  | err a e =>
    cases hq' : pQuery t.length k with
    | err a' e' =>
      rw [hq, hq'] at this
      rcases this with h | ⟨h1, h2, h3⟩
      · exact h.elim
      · subst h1
        exact ⟨noQ, a, a', e, rfl, rfl, fun h => absurd h h3, fun _ => h2.elim .inl (fun h => .inr (.inl h))⟩
    | ok q' r' => rw [hq, hq'] at this; exact this.elim
  | ok q r =>
    cases hq' : pQuery t.length k with
    | err a' e' => rw [hq, hq'] at this; exact this.1.elim
    | ok q' r' =>
      rw [hq, hq'] at this
      have := this.1
      subst this
      dsimp only
      by_cases hd : 50 < deepP q.pat ∨ tooDeep q.pat = true
      · rw [if_pos hd]; exact ⟨_, _, _, _, rfl, rfl, fun h => absurd h (by decide), fun _ => .inr (.inr ⟨rfl, rfl, rfl⟩)⟩
      · rw [if_neg hd]; exact ⟨_, _, _, _, rfl, rfl, fun _ => ⟨rfl, rfl⟩, fun h => absurd rfl h⟩
/-! ### groups -/
def grpS : Nat → List UInt8 → List UInt8
  | 0, s => s
  | n + 1, s => [91, 32] ++ grpS n s ++ [32, 93]
def grpT : Nat → List Tok → List Tok → Prop
  | 0, l, L => L.map kt = l.map kt
  | n + 1, l, L => ∃ a p M, L = ⟨5, [91], a⟩ :: (M ++ [⟨5, [93], p⟩]) ∧ grpT n l M
theorem grpS_len (s : List UInt8) : ∀ n, (grpS n s).length = s.length + 4 * n
  | 0 => rfl
  | n + 1 => by have := grpS_len s n; simp only [grpS, List.length_append, List.length_cons, List.length_nil]; omega
theorem lexV_space (b : List UInt8) : ∀ (f : Nat) (a : List UInt8) (i : Nat) (l : List Tok), a.length ≤ f → lexV a i = .ok l → lexV (a ++ 32 :: b) i = (lexV b (i + a.length + 1)).map (l ++ ·)
  | f, [], i, l, _, h => by
    rw [lexV_nil] at h; cases h
    rw [List.nil_append, lexV_blank i (by decide)]
    show lexV b (i + 1) = (lexV b (i + 0 + 1)).map ([] ++ ·)
    cases lexV b (i + 1) <;> rfl
  | 0, c :: r, i, l, h, _ => by simp at h
  | f + 1, c :: r, i, l, h, hl => by
    simp only [List.length_cons] at h
    cases hb : blank c with
    | true =>
      rw [lexV_blank i hb] at hl
      rw [List.cons_append, lexV_blank i hb, lexV_space b f r (i + 1) l (by omega) hl]
      congr 2; simp only [List.length_cons]; omega
    | false =>
      have hn := tokV_len (c :: r) (by simp)
      by_cases h0 : (tokV (c :: r)).1 = 0
      · rw [lexV_bad i hb h0] at hl; cases hl
      · rw [lexV_tok i hb h0] at hl
        have ht := tokV_blank (s := c :: r) b (k := (tokV (c :: r)).1) (n := (tokV (c :: r)).2) rfl h0 (by simp)
        have ht' : tokV (c :: r ++ 32 :: b) = tokV (c :: r) := ht
        cases hr : lexV ((c :: r).drop (tokV (c :: r)).2) (i + (tokV (c :: r)).2) with
        | error e => rw [hr] at hl; cases hl
        | ok l2 =>
          rw [hr] at hl
          injection hl with hl
          subst hl
          rw [List.cons_append, lexV_tok i hb (by rw [← List.cons_append, ht']; exact h0), ← List.cons_append, ht', List.drop_append_of_le_length hn.1, List.take_append_of_le_length hn.1]
          rw [lexV_space b f ((c :: r).drop (tokV (c :: r)).2) (i + (tokV (c :: r)).2) l2 (by rw [List.length_drop]; simp only [List.length_cons]; omega) hr]
          have e : i + (tokV (c :: r)).2 + ((c :: r).drop (tokV (c :: r)).2).length + 1 = i + (c :: r).length + 1 := by rw [List.length_drop]; omega
          rw [e]
          cases lexV b (i + (c :: r).length + 1) <;> rfl
theorem tok_open (r : List UInt8) : tokV (91 :: 32 :: r) = (5, 1) := by kernel_rfl
theorem lexV_grp {s : List UInt8} {l : List Tok} (h : lexV s 0 = .ok l) : ∀ n i, ∃ L, lexV (grpS n s) i = .ok L ∧ grpT n l L ∧ L.length = l.length + 2 * n
  | 0, i => by
    have := lexV_shift i s.length s 0 (Nat.le_refl _)
    rw [h, Nat.zero_add] at this
    refine ⟨_, this, ?_, by simp⟩
    show (l.map (Tok.up i)).map kt = l.map kt
    rw [List.map_map]; rfl
  | n + 1, i => by
    obtain ⟨L, h1, h2, h3⟩ := lexV_grp h n (i + 1 + 1)
    have h4 := lexV_space [93] _ (grpS n s) (i + 1 + 1) L (Nat.le_refl _) h1
    have h5 : ∀ p, lexV [93] p = .ok [⟨5, [93], p⟩] := fun p => by
      rw [lexV_step (k := 5) (n := 1) (by kernel_rfl) (by decide) (by decide)]; rfl
    rw [h5] at h4
    refine ⟨⟨5, [91], i⟩ :: (L ++ [⟨5, [93], i + 1 + 1 + (grpS n s).length + 1⟩]), ?_, ⟨_, _, _, rfl, h2⟩, by simp; omega⟩
    have e : grpS (n + 1) s = 91 :: 32 :: (grpS n s ++ 32 :: [93]) := by simp [grpS]
    have hs := lexV_step (i := i) (tok_open (grpS n s ++ 32 :: [93])) ⟨List.cons_ne_nil _ _, by show blank 91 = false; decide⟩ (by decide)
    rw [e, hs, show (91 :: 32 :: (grpS n s ++ 32 :: [93])).drop 1 = 32 :: (grpS n s ++ 32 :: [93]) from rfl, lexV_blank _ (by decide), h4]
    rfl
/-- what may stand behind a pattern in a group -/
def Rest (r : List Tok) : Prop := r = [] ∨ ∃ a r', r = ⟨5, [93], a⟩ :: r'
theorem rest_is {r : List Tok} (h : Rest r) (en : Nat) (xs : List (List UInt8)) (hx : [93] ∉ xs) : isT en xs r = false := by
  rcases h with rfl | ⟨a, r', rfl⟩
  · exact isT_nil en xs
  · unfold isT; rw [decide_eq_false_iff_not]; exact fun h => hx h.2
theorem rest_begins {r : List Tok} (h : Rest r) (en : Nat) : beginsT en r = false := by
  unfold beginsT
  rw [rest_is h en _ (by decide)]
  rcases h with rfl | ⟨a, r', rfl⟩
  · rw [Bool.false_or, decide_eq_false_iff_not]; rintro ⟨h, _⟩; cases h
  · rw [Bool.false_or, decide_eq_false_iff_not]; rintro ⟨_, h | h⟩
    · exact h (show endsKV [93] = [] by decide)
    · exact absurd h (show ¬ 0 < shortV [93] by decide)
theorem row_one {k : Int} {go : List Tok → Option (List Tok)} {one : List Tok → Res PatD} {ts r : List Tok} {x : PatD} (h : one ts = .ok x r) (hg : go r = none) : pRow k go one ts = .ok x r := by
  have h2 : ∀ n, rowGo go one n [x] r = .ok [x] r := fun n => by
    cases n with
    | zero => rfl
    | succ n => simp only [rowGo]; rw [hg]
  unfold pRow; rw [h]; dsimp only; rw [h2]; rfl
theorem row_err {k : Int} {go : List Tok → Option (List Tok)} {one : List Tok → Res PatD} {ts : List Tok} {a e : Int} (h : one ts = .err a e) : pRow k go one ts = .err a e := by unfold pRow; rw [h]
theorem grp_pat {en : Nat} {l : List Tok} {x : PatD} (h : pPat en (l.length + 1) (l.length + 1) 0 l = .ok x []) (en' : Nat) : ∀ (n g m' n' : Nat) (L rest : List Tok), grpT n l L → Rest rest → L.length < m' → L.length < n' → (pPat en' m' n' g (L ++ rest) = .ok x rest ∧ (n = 0 ∨ g + n ≤ 50)) ∨ ∃ a, pPat en' m' n' g (L ++ rest) = .err a 6
  | 0, g, m', n', L, rest, hL, hr, hm, hn => by
    have hll : L.length = l.length := by have := congrArg List.length hL; simpa using this
    have := pat_sim ⟨True, fun _ _ => True, rest, en, en', fun h => absurd trivial h, hr⟩ l.length (l.length + 1) m' (l.length + 1) n' 0 g (by omega) (by omega) (by omega) (by omega) (.inr ⟨trivial, Nat.zero_le _⟩) l (L ++ rest) (al_of l L hL fun _ _ _ => trivial) (Nat.le_refl _)
    dsimp only at this
    rw [h] at this
    cases hF : pPat en' m' n' g (L ++ rest) with
    | ok x' r' =>
      rw [hF] at this
      obtain ⟨h1, h2⟩ := this
      cases h2
      subst h1
      exact .inl ⟨rfl, .inl rfl⟩
    | err a e =>
      rw [hF] at this
      obtain ⟨_, h2⟩ := this
      subst h2
      exact .inr ⟨a, rfl⟩
  | n + 1, g, m', n', L, rest, hL, hr, hm, hn => by
    obtain ⟨a, p, M, rfl, hM⟩ := hL
    simp only [List.length_cons, List.length_append, List.length_nil] at hm hn
    obtain ⟨k, rfl⟩ : ∃ k, n' = k + 1 := ⟨n' - 1, by omega⟩
    have hR : Rest (⟨5, [93], p⟩ :: rest) := .inr ⟨_, _, rfl⟩
    have ih := grp_pat h en' n (g + 1) m' k M (⟨5, [93], p⟩ :: rest) hM hR (by omega) (by omega)
    have e0 : (⟨5, [91], a⟩ :: (M ++ [⟨5, [93], p⟩])) ++ rest = ⟨5, [91], a⟩ :: (M ++ ⟨5, [93], p⟩ :: rest) := by simp
    rw [e0]
    have hb : beginsT en' (⟨5, [91], a⟩ :: (M ++ ⟨5, [93], p⟩ :: rest)) = true := by kernel_rfl
    have hgA : (if isT en' [[124]] rest = true then some rest.tail else none) = none := if_neg (by rw [rest_is hr en' _ (by decide)]; decide)
    have hgB : (if beginsT en' rest = true then some rest else none) = none := if_neg (by rw [rest_begins hr]; decide)
    have h4 : ¬ ([91] : List UInt8) = [40] := by decide
    show (pPatF en' m' g (pPat en' m' k) _ = _ ∧ _) ∨ ∃ a_, pPatF en' m' g (pPat en' m' k) _ = _
    have hP : pPrimary en' m' g (pPat en' m' k) (⟨5, [91], a⟩ :: (M ++ ⟨5, [93], p⟩ :: rest)) = if 50 ≤ g then .err (a : Int) 6 else match pPat en' m' k (g + 1) (M ++ ⟨5, [93], p⟩ :: rest) with
        | .err a e => .err a e
        | .ok x r => match pText en' [93] r with
          | .err a e => .err a e
          | .ok _ r2 => .ok x r2 := by
      unfold pPrimary
      rw [hb, if_neg (show ¬ true = false by decide), if_neg (show ¬ (nextT en' (⟨5, [91], a⟩ :: (M ++ ⟨5, [93], p⟩ :: rest))).t = [40] from h4), if_pos (show (nextT en' (⟨5, [91], a⟩ :: (M ++ ⟨5, [93], p⟩ :: rest))).t = [91] from rfl)]
      rfl
    have fail : ∀ a' : Int, pPrimary en' m' g (pPat en' m' k) (⟨5, [91], a⟩ :: (M ++ ⟨5, [93], p⟩ :: rest)) = .err a' 6 → pPatF en' m' g (pPat en' m' k) (⟨5, [91], a⟩ :: (M ++ ⟨5, [93], p⟩ :: rest)) = .err a' 6 := fun a' hp => by
      refine row_err (row_err ?_)
      unfold pItem; rw [hp]
    by_cases hg : 50 ≤ g
    · exact .inr ⟨a, fail a (by rw [hP, if_pos hg])⟩
    · rw [if_neg hg] at hP
      rcases ih with ⟨h1, h2⟩ | ⟨a', h1⟩
      · left
        rw [h1] at hP
        dsimp only at hP
        have ht : pText en' [93] (⟨5, [93], p⟩ :: rest) = .ok ⟨5, [93], p⟩ rest := by unfold pText; rw [if_pos (by kernel_rfl)]; rfl
        rw [ht] at hP
        dsimp only at hP
        have hti : pTimes en' rest = .ok none rest := by unfold pTimes; rw [if_pos (rest_is hr en' _ (by decide))]
        have hI : pItem en' m' g (pPat en' m' k) (⟨5, [91], a⟩ :: (M ++ ⟨5, [93], p⟩ :: rest)) = .ok x rest := by unfold pItem; rw [hP]; dsimp only; rw [hti]
        refine ⟨row_one (row_one hI hgB) hgA, .inr ?_⟩
        rcases h2 with h2 | h2 <;> omega
      · exact .inr ⟨a', fail a' (by rw [hP, h1])⟩
/-- words ahead of a pattern are keywords -/
theorem good_head {t : Tok} (g : Good t) (h : t.t ∈ modesV ++ [wAll, wAny, wShort]) : t.k = 2 := by
  have key : ∀ x : List UInt8, x ∈ modesV ++ [wAll, wAny, wShort] → (tokV x).1 = 2 := by
    intro x hx
    simp only [modesV, List.cons_append, List.nil_append, List.mem_cons, List.not_mem_nil, or_false] at hx
    rcases hx with rfl | rfl | rfl | rfl | rfl | rfl | rfl <;> kernel_rfl
  have := key _ h
  rw [g.tok] at this; exact this
theorem groups_eq {s : List UInt8} {l : List Tok} {q : QryD} {a : Int} (hs : s.length ≤ 500) (hl : lexV s 0 = .ok l) (hq : parseV s = (q, a, 0)) (h0 : 0 < l.length) (hk : (l[0]).k ≠ 2) (n : Nat) (hn : n ≤ 60) :
    (n ≤ 50 ∧ ∃ a', parseV (grpS n s) = (q, a', 0)) ∨ (0 < n ∧ ∃ a', parseV (grpS n s) = (noQ, a', 6)) := by
  cases n with
  | zero => exact .inl ⟨by omega, a, hq⟩
  | succ n =>
    obtain ⟨_, _, l', r, hl', hqq, hd⟩ := parse_ok0 hq
    rw [hl] at hl'; cases hl'
    have hch := lexV_chain s _ 0 l (Nat.le_refl _) (Nat.zero_le _) (by rw [List.drop_zero]; exact hl)
    have hg := hch.good (l[0]) (List.getElem_mem h0)
    obtain ⟨t, u, rfl⟩ : ∃ t u, l = t :: u := by cases l with | nil => cases h0 | cons t u => exact ⟨t, u, rfl⟩
    have hnot : ∀ xs : List (List UInt8), (∀ x ∈ xs, x ∈ modesV ++ [wAll, wAny, wShort]) → isT s.length xs (t :: u) = false := fun xs hx => by
      unfold isT; rw [decide_eq_false_iff_not]; exact fun h => hk (good_head hg (hx _ h.2))
    have hm : pMode s.length (t :: u) = (0, t :: u) := by unfold pMode; rw [hnot modesV (by decide), if_neg (by decide)]
    have hsel : pSel s.length (t :: u) = .ok (0, 0) (t :: u) := by unfold pSel; rw [hnot [wAll] (by decide), hnot [wAny] (by decide), hnot [wShort] (by decide), if_neg (by decide), if_neg (by decide), if_neg (by decide)]
    have hpp : pPat s.length ((t :: u).length + 1) ((t :: u).length + 1) 0 (t :: u) = .ok q.pat [] ∧ q = ⟨0, 0, 0, q.pat⟩ := by
      unfold pQuery at hqq
      rw [hm] at hqq
      dsimp only at hqq
      rw [hsel] at hqq
      dsimp only at hqq
      cases hp : pPat s.length ((t :: u).length + 1) ((t :: u).length + 1) 0 (t :: u) with
      | err a e => rw [hp] at hqq; cases hqq
      | ok x r2 =>
        rw [hp] at hqq
        dsimp only at hqq
        split at hqq
        · cases hqq
        · rename_i hr2
          have : r2 = [] := List.length_eq_zero_iff.1 (by omega)
          subst this
          injection hqq with h1 h2
          subst h1
          exact ⟨rfl, rfl⟩
    obtain ⟨L, hL1, hL2, hL3⟩ := lexV_grp hl (n + 1) 0
    have hlen := grpS_len s (n + 1)
    have e1 : parseV (grpS (n + 1) s) = parseT (grpS (n + 1) s).length L := by unfold parseV; rw [if_neg (by omega), hL1]
    rw [e1]
    unfold parseT
    obtain ⟨b, p, M, hLe, hM⟩ := hL2
    have hgp := grp_pat hpp.1 (grpS (n + 1) s).length (n + 1) 0 (L.length + 1) (L.length + 1) L [] ⟨b, p, M, hLe, hM⟩ (.inl rfl) (by omega) (by omega)
    rw [List.append_nil] at hgp
    have hm2 : pMode (grpS (n + 1) s).length L = (0, L) := by rw [hLe]; unfold pMode; rw [if_neg (by rw [show isT (grpS (n + 1) s).length modesV (⟨5, [91], b⟩ :: (M ++ [⟨5, [93], p⟩])) = false by kernel_rfl]; decide)]
    have hs2 : pSel (grpS (n + 1) s).length L = .ok (0, 0) L := by
      rw [hLe]; unfold pSel
      rw [if_neg (by rw [show isT (grpS (n + 1) s).length [wAll] (⟨5, [91], b⟩ :: (M ++ [⟨5, [93], p⟩])) = false by kernel_rfl]; decide), if_neg (by rw [show isT (grpS (n + 1) s).length [wAny] (⟨5, [91], b⟩ :: (M ++ [⟨5, [93], p⟩])) = false by kernel_rfl]; decide), if_neg (by rw [show isT (grpS (n + 1) s).length [wShort] (⟨5, [91], b⟩ :: (M ++ [⟨5, [93], p⟩])) = false by kernel_rfl]; decide)]
    have hQ : pQuery (grpS (n + 1) s).length L = match pPat (grpS (n + 1) s).length (L.length + 1) (L.length + 1) 0 L with
        | .err a e => .err a e
        | .ok x r2 => if 0 < r2.length then .err (nextT (grpS (n + 1) s).length r2).a 2 else .ok ⟨0, 0, 0, x⟩ r2 := by
      unfold pQuery; rw [hm2]; dsimp only; rw [hs2]; rfl
    rcases hgp with ⟨h1, h2⟩ | ⟨a', h1⟩
    · left
      refine ⟨by omega, 0, ?_⟩
      rw [hQ, h1]
      show (if 50 < deepP q.pat ∨ tooDeep q.pat = true then _ else _) = _
      rw [if_neg hd, ← hpp.2]
    · right
      refine ⟨by omega, a', ?_⟩
      rw [hQ, h1]
/-! ### rows of tokens, beside what is made later -/
theorem Rd.tokLt {w : World} {A : Option Addr} {l : List Tok} (h : Rd w 3 A l.length (l.flatMap Tok.cells)) : ∀ q, A = some q → l ≠ [] → q.block < w.heap.size := fun q e hne => by
  obtain ⟨p, hp, hc⟩ := Rd.tok h (i := 0) (List.length_pos_iff.2 hne)
  rw [e] at hp; cases hp
  have h1 := hc 0 _ rfl
  rcases Nat.lt_or_ge q.block w.heap.size with h2 | h2
  · exact h2
  · obtain ⟨b, o, x⟩ := q
    have h3 : w.heap[b]? = none := Array.getElem?_eq_none h2
    cases x <;> simp [World.cell?, Addr.add, h3] at h1
theorem Rd.tokOver {w w' : World} {A : Option Addr} {l : List Tok} {g : Nat} (h : Rd w 3 A l.length (l.flatMap Tok.cells)) (hg : w.grownBy w' (some g)) (ha : ∀ q, A = some q → l ≠ [] → q.block < g) : Rd w' 3 A l.length (l.flatMap Tok.cells) := by
  by_cases hl : l = []
  · subst hl; exact Rd.nil _ _ _
  · exact h.kp hg fun q e => by have := ha q e hl; omega
end Go.Proofs.YtjnabgddjogkbaaGreatDoor
