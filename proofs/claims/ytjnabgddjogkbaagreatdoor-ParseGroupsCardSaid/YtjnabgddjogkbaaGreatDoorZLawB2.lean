/- The statement LexBack, by the calculus. -/
import Derived.Test.YtjnabgddjogkbaaGreatDoorZX
namespace Go.Proofs.YtjnabgddjogkbaaGreatDoor
open Go.RowKit Go.Bw Go.Bw.Fl
set_option linter.unusedVariables false
set_option linter.unusedSimpArgs false

/-- a token that is one by itself -/
structure Good (t : Tok) : Prop where
  k0 : 1 ≤ t.k
  k5 : t.k ≤ 5
  ne : t.t ≠ []
  tok : tokV t.t = (t.k, t.t.length)
  bl : blank (t.t.getD 0 0) = false
/-- each stands where it says, behind the one ahead -/
def Ch (s : List UInt8) : Nat → List Tok → Prop
  | _, [] => True
  | e, t :: r => e ≤ t.a ∧ t.a + t.t.length ≤ s.length ∧ (s.drop t.a).take t.t.length = t.t ∧ Good t ∧ Ch s (t.a + t.t.length) r
theorem Ch.mono {s : List UInt8} {e e' : Nat} (h : e' ≤ e) : ∀ {l : List Tok}, Ch s e l → Ch s e' l
  | [], _ => trivial
  | t :: r, hc => ⟨Nat.le_trans h hc.1, hc.2⟩
theorem lexV_chain (s : List UInt8) : ∀ (f i : Nat) (l : List Tok), s.length - i ≤ f → i ≤ s.length → lexV (s.drop i) i = .ok l → Ch s i l
  | f, i, l, hf, hi, h => by
    rcases Nat.lt_or_ge i s.length with hlt | hge
    · cases f with
      | zero => omega
      | succ f =>
        have hd := drop_at hlt
        generalize hcq : s.getD i 0 = c at hd
        rw [hd] at h
        cases hb : blank c with
        | true =>
          rw [lexV_blank i hb] at h
          exact (lexV_chain s f (i + 1) l (by omega) (by omega) h).mono (by omega)
        | false =>
          have hl := tokV_len (c :: s.drop (i + 1)) (by simp)
          by_cases h0 : (tokV (c :: s.drop (i + 1))).1 = 0
          · rw [lexV_bad i hb h0] at h; cases h
          · obtain ⟨tk, tn, ht⟩ : ∃ tk tn, tokV (c :: s.drop (i + 1)) = (tk, tn) := ⟨_, _, rfl⟩
            rw [ht] at hl h0
            rw [lexV_tok i hb (by rw [ht]; exact h0), ht] at h
            simp only [List.length_cons, List.length_drop] at hl h0 h
            rw [← hd, List.drop_drop] at h
            rw [← hd] at ht
            cases hr : lexV (s.drop (i + tn)) (i + tn) with
            | error e => rw [hr] at h; cases h
            | ok l' =>
              rw [hr] at h
              have e : l = ⟨tk, (s.drop i).take tn, i⟩ :: l' := by cases h; rfl
              subst e
              have htl : ((s.drop i).take tn).length = tn := by rw [List.length_take, List.length_drop]; omega
              have htt := tokV_take (q := tn) ht h0 (by omega) (Nat.le_refl _)
              have hne : (s.drop i).take tn ≠ [] := fun e => by rw [e] at htl; simp at htl; omega
              refine ⟨Nat.le_refl _, ?_, ?_, ⟨?_, hl.2.2, hne, ?_, ?_⟩, ?_⟩
              · show i + ((s.drop i).take tn).length ≤ s.length; omega
              · show (s.drop i).take ((s.drop i).take tn).length = (s.drop i).take tn; rw [htl]
              · show 1 ≤ tk; omega
              · show tokV ((s.drop i).take tn) = (tk, ((s.drop i).take tn).length); rw [htl]; exact htt
              · show blank (((s.drop i).take tn).getD 0 0) = false
                rw [getD_take (by omega), hd]; exact hb
              · show Ch s (i + ((s.drop i).take tn).length) l'
                rw [htl]; exact lexV_chain s f (i + tn) l' (by omega) (by omega) hr
    · rw [List.drop_eq_nil_of_le hge, lexV_nil] at h
      cases h; trivial
theorem Ch.sum {s : List UInt8} : ∀ {l : List Tok} {e : Nat}, e ≤ s.length → Ch s e l → e + tot (txts l) ≤ s.length ∧ e + l.length ≤ s.length
  | [], e, h, _ => ⟨h, h⟩
  | t :: r, e, h, hc => by
    obtain ⟨h1, h2, _, hg, h4⟩ := hc
    have ih := Ch.sum (l := r) h2 h4
    have hp := List.length_pos_iff.2 hg.ne
    have e1 : tot (txts (t :: r)) = t.t.length + tot (txts r) := rfl
    rw [e1, List.length_cons]; omega
theorem Ch.good {s : List UInt8} : ∀ {l : List Tok} {e : Nat}, Ch s e l → ∀ t, t ∈ l → Good t
  | [], _, _, t, h => by cases h
  | u :: r, e, hc, t, h => by
    rcases List.mem_cons.1 h with rfl | h
    · exact hc.2.2.2.1
    · exact Ch.good hc.2.2.2.2 t h
def kt (t : Tok) : Nat × List UInt8 := (t.k, t.t)
theorem lexV_text : ∀ (l : List Tok) (i : Nat), (∀ t, t ∈ l → Good t) → ∃ l', lexV (joinV (txts l)) i = .ok l' ∧ l'.map kt = l.map kt
  | [], i, _ => ⟨[], rfl, rfl⟩
  | [t], i, h => by
    have g := h t (List.mem_cons_self ..)
    have e : joinV (txts [t]) = t.t := by show t.t ++ [] = t.t; simp
    refine ⟨[⟨t.k, t.t, i⟩], ?_, rfl⟩
    have hk := g.k0
    rw [e, lexV_step g.tok ⟨g.ne, g.bl⟩ (by omega), List.drop_length, List.take_length, lexV_nil]; rfl
  | t :: u :: r, i, h => by
    have g := h t (List.mem_cons_self ..)
    have hk := g.k0
    obtain ⟨l', h1, h2⟩ := lexV_text (u :: r) (i + t.t.length + 1) (fun x hx => h x (List.mem_cons_of_mem _ hx))
    have e : joinV (txts (t :: u :: r)) = t.t ++ 32 :: joinV (txts (u :: r)) := by
      show t.t ++ ((32 :: u.t) ++ (txts r).flatMap (fun y => 32 :: y)) = t.t ++ 32 :: (u.t ++ (txts r).flatMap (fun y => 32 :: y)); simp
    refine ⟨⟨t.k, t.t, i⟩ :: l', ?_, by rw [List.map_cons, List.map_cons, h2]; rfl⟩
    rw [e, lexV_step (tokV_blank _ g.tok (by omega) g.ne) ⟨by simp [g.ne], by rw [getD_app g.ne]; exact g.bl⟩ (by omega), List.drop_left, List.take_left, lexV_blank _ (by decide), h1]; rfl
theorem join_len (l : List (List UInt8)) : (joinV l).length ≤ tot l + l.length := by
  cases l with
  | nil => simp [joinV]
  | cons x r =>
    have h := flat_len r
    have e : tot (x :: r) = x.length + tot r := rfl
    rw [joinV, List.length_append, h, e, List.length_cons]; omega
theorem Ch.at {s : List UInt8} {l : List Tok} {e i : Nat} (hi : i < l.length) (h : Ch s e (l.drop i)) : e ≤ (l[i]).a ∧ (l[i]).a + (l[i]).t.length ≤ s.length ∧ (s.drop (l[i]).a).take (l[i]).t.length = (l[i]).t ∧ Good l[i] ∧ Ch s ((l[i]).a + (l[i]).t.length) (l.drop (i + 1)) := by
  rw [List.drop_eq_getElem_cons hi] at h; exact h
end Go.Proofs.YtjnabgddjogkbaaGreatDoor
