/- Plain: a line by its fields. · Plain: what is read of a line, by its fields. · Plain: blanks behind a line do not matter; an edge's line by its words. · Plain: a graph's lines, with whatever blanks, are read as the graph. · Plain: what is printed is read. -/
import Derived.Test.YtjmlknjbhbfneaaGreatDoorZLE
import Derived.Test.YtjmlknjbhbfneaaGreatDoorZGC
import Derived.Sort.Walk0
namespace Go.Proofs.YtjmlknjbhbfneaaGreatDoor
open Go.RowKit Go.Bw Go.Bw.Fl
set_option linter.unusedVariables false
set_option linter.unusedSimpArgs false
/-! fields -/
def fldLen (s : List UInt8) : Nat := (s.takeWhile fun c => c != 32 && c != 61).length
/-- the length of the field that stands first; none: it is none -/
noncomputable def ff (s : List UInt8) : Option Nat :=
  if s[fldLen s]? = some 61 then match readV pf uqV (s.drop (fldLen s + 1)) with
    | none => none
    | some r => if fldLen s + 1 + r.2 < s.length ∧ s.getD (fldLen s + 1 + r.2) 0 ≠ 32 then none else some (fldLen s + 1 + r.2)
  else some (fldLen s)
noncomputable def fldsV (s : List UInt8) : Option (List (List UInt8)) :=
  if h : blanksV s = [] then some [] else match ff (blanksV s) with
    | none => none
    | some k => if hk : 0 < k then (fldsV ((blanksV s).drop k)).map ((blanksV s).take k :: ·) else none
termination_by s.length
decreasing_by
  have h1 := blanksV_le s
  have h2 := List.length_pos_iff.2 h
  rw [List.length_drop]; omega
theorem tl_drop (s : List UInt8) : blanksV s = [] ∨ ∃ c r, blanksV s = c :: r ∧ c ≠ 32 ∧ c ≠ 35 := by
  unfold blanksV
  cases h : Lib.trimLeftB s 32 with
  | nil => left; split <;> rfl
  | cons c r =>
    have hc : (c == 32) = false := by
      cases e : (c == 32) with
      | false => rfl
      | true =>
        unfold Lib.trimLeftB at h
        have h2 : List.head? (List.dropWhile (fun x => x == 32) s) = some c := by rw [h]; rfl
        have h3 := List.head?_dropWhile_not (fun x : UInt8 => x == 32) s
        rw [h2] at h3; simp at h3
        exact absurd (by simpa using e) h3
    by_cases h35 : c = 35
    · left; subst h35; rw [if_pos (by simp [Lib.hasPrefix])]
    · right
      rw [if_neg (by simp [Lib.hasPrefix]; exact fun h => h35 h.symm)]
      exact ⟨c, r, rfl, by simpa using hc, h35⟩
theorem blanks_idem (s : List UInt8) : blanksV (blanksV s) = blanksV s := by
  rcases tl_drop s with h | ⟨c, r, h, h1, h2⟩
  · rw [h]; rfl
  · rw [h]
    unfold blanksV
    have e : Lib.trimLeftB (c :: r) 32 = c :: r := by
      unfold Lib.trimLeftB
      rw [List.dropWhile_cons_of_neg (by simpa using h1)]
    rw [e, if_neg (by simp [Lib.hasPrefix]; exact fun h => h2 h.symm)]
theorem trim_cons {s : List UInt8} (ht : blanksV s = s) (hs : s ≠ []) : ∃ c r, s = c :: r ∧ c ≠ 32 ∧ c ≠ 35 := by
  rcases tl_drop s with h | ⟨c, r, h, h1, h2⟩
  · rw [ht] at h; exact absurd h hs
  · exact ⟨c, r, ht.symm.trans h, h1, h2⟩
theorem fields_nil {s : List UInt8} (h : blanksV s = []) : fldsV s = some [] := by rw [fldsV, dif_pos h]
theorem fields_blanks (s : List UInt8) : fldsV (blanksV s) = fldsV s := by
  rw [fldsV, fldsV]
  simp only [blanks_idem]
theorem fields_cons {s : List UInt8} (ht : blanksV s = s) (hs : s ≠ []) {k : Nat} (hk : ff s = some k) (h0 : 0 < k) : fldsV s = (fldsV (s.drop k)).map (s.take k :: ·) := by
  conv => lhs; rw [fldsV]
  rw [dif_neg (by rw [ht]; exact hs)]
  simp only [ht, hk, dif_pos h0]
theorem fields_none {s : List UInt8} (ht : blanksV s = s) (hs : s ≠ []) (hk : ff s = none) : fldsV s = none := by
  rw [fldsV, dif_neg (by rw [ht]; exact hs)]
  simp only [ht, hk]
/-! a word is a field -/
theorem word_chars {w : List UInt8} (h : wordA w = true) : w ≠ [] ∧ w.length ≤ 40 ∧ ∀ c ∈ w, c ≠ 32 ∧ c ≠ 61 ∧ c ≠ 58 ∧ c ≠ 35 ∧ c ≠ 10 ∧ c ≠ 39 := by
  unfold wordA wordV at h
  rw [Bool.and_eq_true, decide_eq_true_eq] at h
  obtain ⟨⟨h1, h2, _⟩, h3⟩ := h
  refine ⟨h1, h2, fun c hc => ?_⟩
  have h4 := List.all_eq_true.1 h3 c hc
  refine ⟨?_, ?_, ?_, ?_, ?_, ?_⟩ <;> (intro e; subst e; exact absurd h4 (by decide))
theorem tw_app {α : Type} {p : α → Bool} : ∀ {a b : List α}, (∀ x ∈ a, p x = true) → (∀ x, b.head? = some x → p x = false) → (a ++ b).takeWhile p = a
  | [], [], _, _ => rfl
  | [], x :: b, _, h => by rw [List.nil_append, List.takeWhile_cons, h x rfl]; rfl
  | x :: a, b, h1, h2 => by
    rw [List.cons_append, List.takeWhile_cons, h1 x (List.mem_cons_self ..), tw_app (fun y hy => h1 y (List.mem_cons_of_mem _ hy)) h2]; rfl
theorem tw_split {α : Type} (p : α → Bool) (s : List α) : ∃ b, s = s.takeWhile p ++ b ∧ (∀ x ∈ s.takeWhile p, p x = true) ∧ ∀ x, b.head? = some x → p x = false := by
  refine ⟨s.dropWhile p, List.takeWhile_append_dropWhile.symm, fun x hx => ?_, fun x hx => ?_⟩
  · have := List.all_takeWhile (p := p) (l := s)
    exact List.all_eq_true.1 this x hx
  · have := List.head?_dropWhile_not p s
    rw [hx] at this; simpa using this
theorem wd_split (s : List UInt8) : ∃ b, s = wd s ++ b ∧ (∀ x ∈ wd s, x ≠ 32) ∧ (∀ x, b.head? = some x → x = 32) ∧ wdRest s = blanksV b := by
  obtain ⟨b, h1, h2, h3⟩ := tw_split (fun c : UInt8 => c != 32) s
  refine ⟨b, h1, fun x hx => by simpa using h2 x hx, fun x hx => by simpa using h3 x hx, ?_⟩
  unfold wdRest
  congr 1
  have h4 : s.takeWhile (fun c : UInt8 => c != 32) ++ s.dropWhile (fun c : UInt8 => c != 32) = s := List.takeWhile_append_dropWhile
  exact List.append_cancel_left (h4.trans h1)
/-- a field without an = -/
theorem ff_plain {f b : List UInt8} (hf : ∀ c ∈ f, c ≠ 32 ∧ c ≠ 61) (hb : ∀ x, b.head? = some x → x = 32) : ff (f ++ b) = some f.length := by
  have hl : fldLen (f ++ b) = f.length := by
    unfold fldLen
    rw [tw_app (fun c hc => by have := hf c hc; simp [this.1, this.2]) (fun x hx => by rw [hb x hx]; rfl)]
  unfold ff
  rw [hl, if_neg]
  rw [List.getElem?_append_right (Nat.le_refl _), Nat.sub_self]
  intro h
  have h2 : b.head? = some 61 := by rw [List.head?_eq_getElem?]; exact h
  exact absurd (hb 61 h2) (by decide)
theorem ff_eq {f u : List UInt8} (hf : ∀ c ∈ f, c ≠ 32 ∧ c ≠ 61) : ff (f ++ 61 :: u) = match readV pf uqV u with | none => none | some r => if r.2 < u.length ∧ u.getD r.2 0 ≠ 32 then none else some (f.length + 1 + r.2) := by
  have hl : fldLen (f ++ 61 :: u) = f.length := by
    unfold fldLen
    rw [tw_app (fun c hc => by have := hf c hc; simp [this.1, this.2]) (fun x hx => by simp at hx; rw [← hx]; rfl)]
  have hd : (f ++ 61 :: u).drop (f.length + 1) = u := by rw [List.drop_append]; simp
  unfold ff
  rw [hl, if_pos (by rw [List.getElem?_append_right (Nat.le_refl _), Nat.sub_self]; rfl), hd]
  cases readV pf uqV u with
  | none => rfl
  | some r =>
    have h1 : (f ++ 61 :: u).getD (f.length + 1 + r.2) 0 = u.getD r.2 0 := by
      simp only [List.getD_eq_getElem?_getD]
      rw [List.getElem?_append_right (by omega), show f.length + 1 + r.2 - f.length = r.2 + 1 by omega, List.getElem?_cons_succ]
    have h2 : (f.length + 1 + r.2 < (f ++ 61 :: u).length) = (r.2 < u.length) := by
      rw [List.length_append, List.length_cons]; apply propext; omega
    simp only [h1, h2]
/-- what a field says of a property -/
noncomputable def propF1 (f : List UInt8) : Option Pr :=
  if (61 : UInt8) ∈ f ∧ wordA (cutE f).1 = true then some ((cutE f).1, ((readV pf uqV (cutE f).2).map (·.1)).getD nullV) else none
noncomputable def propsF1 : List (List UInt8) → Option (List Pr)
  | [] => some []
  | f :: r => match propF1 f, propsF1 r with | some p, some ps => some (p :: ps) | _, _ => none
noncomputable def restF : List (List UInt8) → Option (List (List UInt8) × List Pr)
  | [] => some ([], [])
  | f :: r => if Lib.hasPrefix f [58] = true then (if wordA (f.drop 1) = true then (restF r).map fun x => (f.drop 1 :: x.1, x.2) else none) else (propsF1 (f :: r)).map fun x => ([], x)
noncomputable def propsS (s : List UInt8) : Option (List Pr) := (fldsV s).bind propsF1
noncomputable def restS (s : List UInt8) : Option (List (List UInt8) × List Pr) := (fldsV s).bind restF
theorem cutE_eq {nm u : List UInt8} (h : (61 : UInt8) ∉ nm) : cutE (nm ++ 61 :: u) = (nm, u) := by
  have h1 := index_mid (a := nm) (b := u) (c := 61) h
  unfold cutE
  rw [h1, if_pos (by omega), Int.toNat_natCast, List.take_left, List.drop_append]
  simp
theorem cutE_none {s : List UInt8} (h : (61 : UInt8) ∉ s) : cutE s = (s, []) := by
  unfold cutE
  rw [if_neg]
  intro h0
  obtain ⟨o, ho⟩ : ∃ o : Nat, Lib.indexByte s 61 = (o : Int) := ⟨(Lib.indexByte s 61).toNat, by omega⟩
  exact h (List.mem_of_getElem? (Lib.indexByte_some ho).1)
theorem eq_split {s : List UInt8} (h : (61 : UInt8) ∈ s) : ∃ nm u, s = nm ++ 61 :: u ∧ (61 : UInt8) ∉ nm := by
  obtain ⟨b, h1, h2, h3⟩ := tw_split (fun c : UInt8 => c != 61) s
  cases b with
  | nil =>
    rw [List.append_nil] at h1
    rw [h1] at h
    have := h2 61 h; simp at this
  | cons c u =>
    have hc : c = 61 := by simpa using h3 c rfl
    subst hc
    exact ⟨_, u, h1, fun hm => by have := h2 61 hm; simp at this⟩
theorem readV_nil : readV pf uqV [] = none := by
  cases h : readV pf uqV [] with
  | none => rfl
  | some r => have := readV_len (n := r.2) (v := r.1) h; simp at this; omega
theorem word_bad {w : List UInt8} {c : UInt8} (hc : c ∈ w) (h : c = 32 ∨ c = 61) : wordA w = false := by
  cases e : wordA w with
  | false => rfl
  | true =>
    have h1 := (word_chars e).2.2 c hc
    rcases h with h | h
    · exact absurd h h1.1
    · exact absurd h h1.2.1
theorem prop_no {s : List UInt8} {e : Int} {n : Nat} {ok : Bool} (h : propNo (cutE s).1 (cutE s).2 n ok = true) (hr : ((readV pf uqV (cutE s).2).map (·.2)).getD 0 = n) (ho : (readV pf uqV (cutE s).2).isSome = ok) : propOf s e = (pr0, [], badE e 2) := by
  unfold propOf
  dsimp only
  rw [hr, ho, if_pos h]
/-- a property at the beginning of what is left -/
theorem prop_step {s : List UInt8} (ht : blanksV s = s) (hs : s ≠ []) :
    (∃ p r, propsS s = (propsS r).map (p :: ·) ∧ (∀ e, propOf s e = (p, r, if p.2.k = 0 then badE e 4 else e)) ∧ blanksV r = r ∧ r.length < s.length) ∨ (propsS s = none ∧ ∀ e, propOf s e = (pr0, [], badE e 2)) := by
  by_cases h61 : (61 : UInt8) ∈ s
  · obtain ⟨nm, u, hsu, hnm⟩ := eq_split h61
    have hcut : cutE s = (nm, u) := by rw [hsu]; exact cutE_eq hnm
    by_cases h32 : (32 : UInt8) ∈ nm
    · right
      have hw := word_bad h32 (.inl rfl)
      refine ⟨?_, fun e => ?_⟩
      · -- the first field has no =
        obtain ⟨b, h1, h2, h3, _⟩ := wd_split s
        have hn : ∀ c ∈ wd s, c ≠ 32 ∧ c ≠ 61 := fun c hc => ⟨h2 c hc, fun e => by
          subst e
          -- the first = stands behind a blank
          obtain ⟨x, y, hxy, hx⟩ : ∃ x y, nm = x ++ 32 :: y ∧ (32 : UInt8) ∉ x := by
            obtain ⟨b, g1, g2, g3⟩ := tw_split (fun c : UInt8 => c != 32) nm
            cases b with
            | nil => rw [List.append_nil] at g1; rw [g1] at h32; have := g2 32 h32; simp at this
            | cons c y =>
              have hc : c = 32 := by simpa using g3 c rfl
              subst hc
              exact ⟨_, y, g1, fun hm => by have := g2 32 hm; simp at this⟩
          have hwd : wd s = x := by
            rw [hsu, hxy]; unfold wd
            rw [List.append_assoc, List.cons_append]
            exact tw_app (fun c hc => by simp; intro e; subst e; exact hx hc) (fun z hz => by simp at hz; rw [← hz]; rfl)
          rw [hwd] at hc
          exact hnm (by rw [hxy]; exact List.mem_append_left _ hc)⟩
        have hff : ff s = some (wd s).length := by rw [h1] ; have := ff_plain hn h3; rw [← h1] at this ⊢; exact this
        have h0 : 0 < (wd s).length := by
          obtain ⟨c, r, hc, hc2, _⟩ := trim_cons ht hs
          rw [hc]; unfold wd
          rw [List.takeWhile_cons]; simp [hc2]
        unfold propsS
        rw [fields_cons ht hs hff h0]
        have hp : propF1 (s.take (wd s).length) = none := by
          rw [take_wd]; unfold propF1
          rw [if_neg]; rintro ⟨a, _⟩; exact (hn 61 a).2 rfl
        cases fldsV (s.drop (wd s).length) with
        | none => rfl
        | some l => show propsF1 (_ :: l) = none; unfold propsF1; rw [hp]
      · exact prop_no (by rw [hcut]; unfold propNo; rw [hw]; rfl) rfl rfl
    · have hf : ∀ c ∈ nm, c ≠ 32 ∧ c ≠ 61 := fun c hc => ⟨fun e => h32 (e ▸ hc), fun e => hnm (e ▸ hc)⟩
      have hff : ff s = _ := (congrArg ff hsu).trans (ff_eq hf)
      cases hr : readV pf uqV u with
      | none =>
        right
        rw [hr] at hff
        refine ⟨by unfold propsS; rw [fields_none ht hs hff]; rfl, fun e => prop_no (n := 0) (ok := false) (by rw [hcut]; unfold propNo; simp) (by rw [hcut]; show ((readV pf uqV u).map (·.2)).getD 0 = 0; rw [hr]; rfl) (by rw [hcut]; show (readV pf uqV u).isSome = false; rw [hr]; rfl)⟩
      | some r =>
        obtain ⟨v, m⟩ := r
        rw [hr] at hff
        have hml := (readV_len hr)
        by_cases hg : m < u.length ∧ u.getD m 0 ≠ 32
        · right
          have hff2 : ff s = none := by rw [hff]; exact if_pos hg
          refine ⟨by unfold propsS; rw [fields_none ht hs hff2]; rfl, fun e => prop_no (n := m) (ok := true) (by rw [hcut]; unfold propNo; simp only [decide_eq_true hg.1, decide_eq_true hg.2]; simp) (by rw [hcut]; show ((readV pf uqV u).map (·.2)).getD 0 = m; rw [hr]; rfl) (by rw [hcut]; show (readV pf uqV u).isSome = true; rw [hr]; rfl)⟩
        · have hff2 : ff s = some (nm.length + 1 + m) := by rw [hff]; exact if_neg hg
          have htk : s.take (nm.length + 1 + m) = nm ++ 61 :: u.take m := by
            rw [hsu, List.take_append, List.take_of_length_le (by omega)]
            congr 1
            rw [show nm.length + 1 + m - nm.length = m + 1 by omega, List.take_succ_cons]
          have hdr : s.drop (nm.length + 1 + m) = u.drop m := by
            rw [hsu, List.drop_append, List.drop_of_length_le (by omega), List.nil_append, show nm.length + 1 + m - nm.length = m + 1 by omega, List.drop_succ_cons]
          have hfc := fields_cons ht hs hff2 (by omega)
          rw [htk, hdr] at hfc
          by_cases hw : wordA nm = true
          · left
            have hp1 : propF1 (nm ++ 61 :: u.take m) = some (nm, v) := by
              unfold propF1
              rw [cutE_eq hnm, if_pos ⟨by simp, hw⟩, readV_take hr (Nat.le_refl _)]; rfl
            refine ⟨(nm, v), blanksV (u.drop m), ?_, fun e => ?_, blanks_idem _, ?_⟩
            · unfold propsS
              rw [hfc, fields_blanks]
              cases fldsV (u.drop m) with
              | none => rfl
              | some l =>
                show propsF1 (_ :: l) = (propsF1 l).map _
                conv => lhs; unfold propsF1
                rw [hp1]
                cases propsF1 l <;> rfl
            · unfold propOf
              dsimp only
              rw [hcut]
              dsimp only
              rw [hr]
              have hno : ¬ propNo nm u m true = true := by
                unfold propNo; rw [hw]
                simp only [Bool.not_true, Bool.false_or, Bool.and_eq_true, decide_eq_true_eq]
                exact hg
              exact if_neg hno
            · have h1 := blanksV_le (u.drop m)
              rw [List.length_drop] at h1
              rw [hsu, List.length_append, List.length_cons]; omega
          · right
            have hw' : wordA nm = false := by simpa using hw
            refine ⟨?_, fun e => prop_no (n := m) (ok := true) (by rw [hcut]; unfold propNo; rw [hw']; rfl) (by rw [hcut]; show ((readV pf uqV u).map (·.2)).getD 0 = m; rw [hr]; rfl) (by rw [hcut]; show (readV pf uqV u).isSome = true; rw [hr]; rfl)⟩
            unfold propsS
            rw [hfc]
            cases fldsV (u.drop m) with
            | none => rfl
            | some l =>
              show propsF1 (_ :: l) = none
              unfold propsF1
              have : propF1 (nm ++ 61 :: u.take m) = none := by
                unfold propF1
                rw [cutE_eq hnm, if_neg]; rintro ⟨_, h⟩; exact hw h
              rw [this]
  · right
    have hcut := cutE_none h61
    have hn : ∀ c ∈ wd s, c ≠ 32 ∧ c ≠ 61 := fun c hc => ⟨(by obtain ⟨b, h1, h2, _⟩ := wd_split s; exact h2 c hc), fun e => h61 (by
      obtain ⟨b, h1, _⟩ := wd_split s
      rw [h1]; exact List.mem_append_left _ (e ▸ hc))⟩
    obtain ⟨b, h1, h2, h3, _⟩ := wd_split s
    have hff : ff s = some (wd s).length := by have := ff_plain hn h3; rw [← h1] at this; exact this
    have h0 : 0 < (wd s).length := by
      obtain ⟨c, r, hc, hc2, _⟩ := trim_cons ht hs
      rw [hc]; unfold wd
      rw [List.takeWhile_cons]; simp [hc2]
    refine ⟨?_, fun e => prop_no (n := 0) (ok := false) (by rw [hcut]; unfold propNo; simp) (by rw [hcut]; show ((readV pf uqV []).map (·.2)).getD 0 = 0; rw [readV_nil]; rfl) (by rw [hcut]; show (readV pf uqV []).isSome = false; rw [readV_nil]; rfl)⟩
    unfold propsS
    rw [fields_cons ht hs hff h0, take_wd]
    have hp : propF1 (wd s) = none := by
      unfold propF1
      rw [if_neg]; rintro ⟨a, _⟩; exact (hn 61 a).2 rfl
    cases fldsV (s.drop (wd s).length) with
    | none => rfl
    | some l => show propsF1 (_ :: l) = none; unfold propsF1; rw [hp]
end Go.Proofs.YtjmlknjbhbfneaaGreatDoor
namespace Go.Proofs.YtjmlknjbhbfneaaGreatDoor
open Go.RowKit Go.Bw Go.Bw.Fl
set_option linter.unusedVariables false
set_option linter.unusedSimpArgs false
def foundP (o : List Pr) (nm : List UInt8) : Bool := decide (lbP o nm < o.length) && decide ((o.getD (lbP o nm) pr0).1 = nm)
def insAll : List Pr → List Pr → List Pr
  | o, [] => o
  | o, p :: r => insAll (insP o (lbP o p.1) p) r
def nullE (p : Pr) (e : Int) : Int := if p.2.k = 0 then badE e 4 else e
def eP : List Pr → List Pr → Int → Int
  | _, [], e => e
  | o, p :: r, e => eP (insP o (lbP o p.1) p) r (if foundP o p.1 = true then badE (nullE p e) 3 else nullE p e)
def eL : List (List UInt8) → List (List UInt8) → Int → Int
  | _, [], e => e
  | o, w :: r, e => eL (o ++ [w]) r (if w ∈ o then badE e 3 else e)
theorem propsGo_cons (m : Nat) (o : List Pr) {s : List UInt8} (hs : s ≠ []) (e : Int) : propsGo (m + 1) o s e = propsGo m (insP o (lbP o (propOf s e).1.1) (propOf s e).1) (propOf s e).2.1 (if foundP o (propOf s e).1.1 = true then badE (propOf s e).2.2 3 else (propOf s e).2.2) := by
  show (if _ then _ else _) = _; rw [if_neg hs]; rfl
theorem propsGo_ok : ∀ (n : Nat) (s : List UInt8) (ps : List Pr), s.length ≤ n → blanksV s = s → propsS s = some ps → ∀ (m : Nat) (o : List Pr) (e : Int), s.length ≤ m → propsGo m o s e = (insAll o ps, eP o ps e)
  | n, s, ps, hn, ht, hps, m, o, e, hm => by
    by_cases hs : s = []
    · subst hs
      rw [propsGo_nil]
      have : propsS [] = some [] := by unfold propsS; rw [fields_nil rfl]; rfl
      rw [this] at hps; cases hps; rfl
    · have h0 := List.length_pos_iff.2 hs
      obtain ⟨m, rfl⟩ : ∃ k, m = k + 1 := ⟨m - 1, by omega⟩
      obtain ⟨n, rfl⟩ : ∃ k, n = k + 1 := ⟨n - 1, by omega⟩
      rcases prop_step ht hs with ⟨p, r, h1, h2, h3, h4⟩ | ⟨h1, _⟩
      · rw [h1] at hps
        obtain ⟨ps', h5, rfl⟩ := Option.map_eq_some_iff.1 hps
        rw [propsGo_cons m o hs, h2]
        rw [propsGo_ok n r ps' (by omega) h3 h5 m _ _ (by omega)]
        rfl
      · rw [h1] at hps; cases hps
theorem propsOf_ok {s : List UInt8} {ps : List Pr} (ht : blanksV s = s) (h : propsS s = some ps) (e : Int) : propsOf s e = (insAll [] ps, eP [] ps e) := propsGo_ok _ s ps (Nat.le_refl _) ht h _ [] e (Nat.le_refl _)
/-! labels -/
theorem no_lab {s : List UInt8} (ht : blanksV s = s) (hc : Lib.hasPrefix s [58] = false) : restS s = (propsS s).map fun x => ([], x) := by
  unfold restS propsS
  by_cases hs : s = []
  · subst hs; rw [fields_nil rfl]; rfl
  · cases hk : ff s with
    | none => rw [fields_none ht hs hk]; rfl
    | some k =>
      by_cases h0 : 0 < k
      · rw [fields_cons ht hs hk h0]
        have h1 : Lib.hasPrefix (s.take k) [58] = false := pre_take_f k hc
        cases fldsV (s.drop k) with
        | none => rfl
        | some l =>
          show restF (_ :: l) = _
          unfold restF
          rw [if_neg (by rw [h1]; simp)]; rfl
      · conv => lhs; rw [fldsV]
        conv => rhs; rw [fldsV]
        rw [dif_neg (by rw [ht]; exact hs)]
        simp only [ht, hk, dif_neg h0]; rfl
theorem lab_step {s : List UInt8} (ht : blanksV s = s) (hc : Lib.hasPrefix s [58] = true) :
    (wordA (wd (s.drop 1)) = true ∧ restS s = (restS (wdRest (s.drop 1))).map fun x => (wd (s.drop 1) :: x.1, x.2)) ∨ (wordA (wd (s.drop 1)) = false ∧ restS s = none) := by
  obtain ⟨t, rfl⟩ := (pre_one s 58).1 hc
  have hs : (58 :: t : List UInt8) ≠ [] := by simp
  show (wordA (wd t) = true ∧ restS _ = (restS (wdRest t)).map _) ∨ (wordA (wd t) = false ∧ _)
  obtain ⟨b, h1, h2, h3, h4⟩ := wd_split t
  by_cases h61 : (61 : UInt8) ∈ wd t
  · right
    refine ⟨word_bad h61 (.inr rfl), ?_⟩
    obtain ⟨x, y, hxy, hx⟩ := eq_split h61
    have hf : ∀ c ∈ (58 :: x : List UInt8), c ≠ 32 ∧ c ≠ 61 := fun c hc => by
      rcases List.mem_cons.1 hc with rfl | hc
      · exact ⟨by decide, by decide⟩
      · exact ⟨h2 c (by rw [hxy]; exact List.mem_append_left _ hc), fun e => hx (e ▸ hc)⟩
    have he : (58 :: t : List UInt8) = (58 :: x) ++ 61 :: (y ++ b) := by
      conv => lhs; rw [h1, hxy]
      simp
    have hff := (congrArg ff he).trans (ff_eq hf)
    unfold restS
    cases hk : ff (58 :: t) with
    | none => rw [fields_none ht hs hk]; rfl
    | some k =>
      have hkl : (58 :: x : List UInt8).length + 1 ≤ k := by
        rw [hk] at hff
        cases hr : readV pf uqV (y ++ b) with
        | none => rw [hr] at hff; cases hff
        | some r =>
          rw [hr] at hff
          dsimp only at hff
          split at hff
          · cases hff
          · cases hff; omega
      rw [fields_cons ht hs hk (by omega)]
      have hm : (61 : UInt8) ∈ ((58 :: t : List UInt8).take k).drop 1 := by
        rw [he, List.take_append, List.take_of_length_le (by omega)]
        obtain ⟨j, hj⟩ : ∃ j, k - (58 :: x : List UInt8).length = j + 1 := ⟨k - (58 :: x : List UInt8).length - 1, by omega⟩
        rw [hj]; simp
      have hp : Lib.hasPrefix ((58 :: t : List UInt8).take k) [58] = true := by
        rw [he, List.take_append, List.take_of_length_le (by omega)]; simp [Lib.hasPrefix]
      cases fldsV ((58 :: t : List UInt8).drop k) with
      | none => rfl
      | some l =>
        show restF (_ :: l) = none
        unfold restF
        rw [if_pos hp, if_neg (by rw [word_bad hm (.inr rfl)]; simp)]
  · have hf : ∀ c ∈ (58 :: wd t : List UInt8), c ≠ 32 ∧ c ≠ 61 := fun c hc => by
      rcases List.mem_cons.1 hc with rfl | hc
      · exact ⟨by decide, by decide⟩
      · exact ⟨h2 c hc, fun e => h61 (e ▸ hc)⟩
    have he : (58 :: t : List UInt8) = (58 :: wd t) ++ b := by
      conv => lhs; rw [h1]
      rfl
    have hff : ff (58 :: t) = some (58 :: wd t : List UInt8).length := (congrArg ff he).trans (ff_plain hf h3)
    have htk : (58 :: t : List UInt8).take (58 :: wd t : List UInt8).length = 58 :: wd t := by
      conv => lhs; rw [he]
      exact List.take_left
    have hdr : (58 :: t : List UInt8).drop (58 :: wd t : List UInt8).length = b := by
      conv => lhs; rw [he]
      exact List.drop_left
    have hfc := fields_cons ht hs hff (by simp)
    rw [htk, hdr, ← fields_blanks b, ← h4] at hfc
    by_cases hw : wordA (wd t) = true
    · left
      refine ⟨hw, ?_⟩
      unfold restS
      rw [hfc]
      cases fldsV (wdRest t) with
      | none => rfl
      | some l =>
        show restF (_ :: l) = (restF l).map _
        conv => lhs; unfold restF
        rw [if_pos (by simp [Lib.hasPrefix]), if_pos (show wordA ((58 :: wd t : List UInt8).drop 1) = true from hw)]; rfl
    · right
      refine ⟨by simpa using hw, ?_⟩
      unfold restS
      rw [hfc]
      cases fldsV (wdRest t) with
      | none => rfl
      | some l =>
        show restF (_ :: l) = none
        unfold restF
        rw [if_pos (by simp [Lib.hasPrefix]), if_neg (show ¬ wordA ((58 :: wd t : List UInt8).drop 1) = true from hw)]
theorem labelsGo_cons (m : Nat) (o : List (List UInt8)) {s : List UInt8} (hc : Lib.hasPrefix s [58] = true) (e : Int) : labelsGo (m + 1) o s e = labelsGo m (o ++ [wd (s.drop 1)]) (wdRest (s.drop 1)) (if wd (s.drop 1) ∈ o then badE (wdE (s.drop 1) e) 3 else wdE (s.drop 1) e) := by
  show (if _ then _ else _) = _; rw [if_pos hc]
theorem wdRest_trim (s : List UInt8) : blanksV (wdRest s) = wdRest s := by unfold wdRest; exact blanks_idem _
theorem labelsGo_ok : ∀ (n : Nat) (s : List UInt8) (ls : List (List UInt8)) (ps : List Pr), s.length ≤ n → blanksV s = s → restS s = some (ls, ps) → ∀ (m : Nat) (o : List (List UInt8)) (e : Int), s.length ≤ m → ∃ s', labelsGo m o s e = (o ++ ls, s', eL o ls e) ∧ propsS s' = some ps ∧ blanksV s' = s'
  | n, s, ls, ps, hn, ht, hr, m, o, e, hm => by
    cases hc : Lib.hasPrefix s [58] with
    | false =>
      rw [no_lab ht hc] at hr
      obtain ⟨q, h1, h2⟩ := Option.map_eq_some_iff.1 hr
      cases h2
      exact ⟨s, by rw [labelsGo_no hc, List.append_nil]; rfl, h1, ht⟩
    | true =>
      have h0 := colon_cons hc
      obtain ⟨m, rfl⟩ : ∃ k, m = k + 1 := ⟨m - 1, by omega⟩
      obtain ⟨n, rfl⟩ : ∃ k, n = k + 1 := ⟨n - 1, by omega⟩
      have h1 := wdRest_le (s.drop 1)
      have h2 : (s.drop 1).length = s.length - 1 := List.length_drop
      rcases lab_step ht hc with ⟨hw, h3⟩ | ⟨_, h3⟩
      · rw [h3] at hr
        obtain ⟨⟨ls', ps'⟩, h4, h5⟩ := Option.map_eq_some_iff.1 hr
        cases h5
        have hwe : wdE (s.drop 1) e = e := by unfold wdE; rw [if_pos hw]
        obtain ⟨s', h6, h7⟩ := labelsGo_ok n (wdRest (s.drop 1)) ls' ps' (by omega) (wdRest_trim _) h4 m (o ++ [wd (s.drop 1)]) (if wd (s.drop 1) ∈ o then badE e 3 else e) (by omega)
        refine ⟨s', ?_, h7⟩
        rw [labelsGo_cons m o hc, hwe, h6]
        simp [eL]
      · rw [h3] at hr; cases hr
/-- labels and properties -/
theorem rest_ok {s : List UInt8} {ls : List (List UInt8)} {ps : List Pr} (ht : blanksV s = s) (h : restS s = some (ls, ps)) (e : Int) : (labelsOf s e).1 = ls ∧ propsOf (labelsOf s e).2.1 (labelsOf s e).2.2 = (insAll [] ps, eP [] ps (eL [] ls e)) := by
  obtain ⟨s', h1, h2, h3⟩ := labelsGo_ok _ s ls ps (Nat.le_refl _) ht h s.length [] e (Nat.le_refl _)
  unfold labelsOf
  rw [h1]
  exact ⟨rfl, propsOf_ok h3 h2 _⟩
theorem node_ok {s : List UInt8} {ls : List (List UInt8)} {ps : List Pr} (g : GV) (hw : wordA (wd s) = true) (h : restS (wdRest s) = some (ls, ps)) :
    nodeStep s 0 g = (⟨g.ns ++ [⟨wd s, sortS ls, insAll [] ps⟩], g.es⟩, nameE (nmap (nnames g)) (wd s) 1000 (eP [] ps (eL [] ls 0))) := by
  have hwe : wdE s 0 = 0 := by unfold wdE; rw [if_pos hw]
  obtain ⟨h1, h2⟩ := rest_ok (wdRest_trim s) h 0
  unfold nodeStep
  dsimp only
  rw [hwe, h1, h2]
theorem wdE_ok {s : List UInt8} (h : wordA (wd s) = true) (e : Int) : wdE s e = e := by unfold wdE; rw [if_pos h]
theorem edge_ok {s : List UInt8} {ls : List (List UInt8)} {ps : List Pr} (g : GV) (h1 : wordA (wd s) = true) (h2 : wordA (wd (wdRest s)) = true) (h3 : (arrA s).2.2 = true) (h4 : wordA (wd (toS s)) = true) (h : restS (wdRest (toS s)) = some (ls, ps)) :
    edgeStep s 0 g = (⟨g.ns, g.es ++ [⟨wd s, (((idx (wd (wdRest s)) (nnames g)).getD 0 : Nat) : Int), (((idx (wd (toS s)) (nnames g)).getD 0 : Nat) : Int), (arrA s).2.1, sortS ls, insAll [] ps⟩]⟩, nameE (nmap (enames g)) (wd s) 1000 (eP [] ps (eL [] ls (scopeE (idx (wd (toS s)) (nnames g)) (scopeE (idx (wd (wdRest s)) (nnames g)) 0))))) := by
  have hh : headE s 0 = 0 := by unfold headE; rw [if_pos h3, wdE_ok h1, wdE_ok h2, wdE_ok h4]
  unfold edgeStep
  dsimp only
  rw [hh]
  obtain ⟨h5, h6⟩ := rest_ok (wdRest_trim (toS s)) h (scopeE (idx (wd (toS s)) (nnames g)) (scopeE (idx (wd (wdRest s)) (nnames g)) 0))
  rw [h5, h6]
end Go.Proofs.YtjmlknjbhbfneaaGreatDoor
namespace Go.Proofs.YtjmlknjbhbfneaaGreatDoor
open Go.RowKit Go.Bw Go.Bw.Fl
set_option linter.unusedVariables false
set_option linter.unusedSimpArgs false
theorem uqGo_blank : ∀ (r : List UInt8) (i : Nat) (a : List UInt8), (uqGo r i a).2 = 0 → (uqGo (r ++ [32]) i a).2 = 0
  | [], i, a, _ => by simp [uqGo]
  | [c], i, a, h => by
    unfold uqGo at h
    split at h
    · simp at h
    · rename_i h1
      show (uqGo (c :: 32 :: []) i a).2 = 0
      unfold uqGo
      rw [if_neg h1]
      split
      · rfl
      · split
        · rfl
        · simp [uqGo]
  | c :: d :: r, i, a, h => by
    show (uqGo (c :: d :: (r ++ [32])) i a).2 = 0
    unfold uqGo at h ⊢
    split at h
    · simp at h
    · rename_i h1
      rw [if_neg h1]
      split at h
      · rename_i h2; rw [if_pos h2]
      · rename_i h2
        rw [if_neg h2]
        split at h
        · rename_i h3
          rw [if_pos h3]
          cases he : escV d with
          | none => rfl
          | some e =>
            rw [he] at h
            exact uqGo_blank r (i + 2) (a ++ [e]) h
        · rename_i h3
          rw [if_neg h3]
          exact uqGo_blank (d :: r) (i + 1) (a ++ [c]) h
theorem readV_snoc (u : List UInt8) : readV pf uqV (u ++ [32]) = readV pf uqV u := by
  cases hq : Lib.hasPrefix u [39] with
  | false => exact readV_app pf uqV u [] stop32 hq
  | true =>
    obtain ⟨t, rfl⟩ := (pre_one u 39).1 hq
    have hq2 : Lib.hasPrefix (39 :: t ++ [32]) [39] = true := by simp [Lib.hasPrefix]
    by_cases hz : (uqV (39 :: t)).2 = 0
    · have h2 : (uqV (39 :: t ++ [32])).2 = 0 := by
        unfold uqV at hz ⊢
        exact uqGo_blank t 1 [] hz
      unfold readV
      rw [if_pos hq2, if_pos hq, if_pos h2, if_pos hz]
    · have h2 := uqV_app (s := 39 :: t) [32] hz
      unfold readV
      rw [if_pos hq2, if_pos hq, h2]
theorem trimL_snoc (x : List UInt8) : Lib.trimLeftB (x ++ [32]) 32 = if Lib.trimLeftB x 32 = [] then [] else Lib.trimLeftB x 32 ++ [32] := by
  unfold Lib.trimLeftB
  induction x with
  | nil => simp
  | cons c r ih =>
    by_cases h : c = 32
    · subst h
      rw [List.cons_append, List.dropWhile_cons_of_pos (by simp), List.dropWhile_cons_of_pos (by simp)]; exact ih
    · rw [List.cons_append, List.dropWhile_cons_of_neg (by simpa using h), List.dropWhile_cons_of_neg (by simpa using h), if_neg (by simp)]; rfl
theorem pre35 (c : UInt8) (l : List UInt8) : Lib.hasPrefix (c :: l) [35] = decide (c = 35) := by
  rw [Bool.eq_iff_iff, decide_eq_true_eq, pre_one]
  exact ⟨fun ⟨r, h⟩ => by injection h, fun h => ⟨l, by rw [h]⟩⟩
theorem blanks_snoc (x : List UInt8) : blanksV (x ++ [32]) = if blanksV x = [] then [] else blanksV x ++ [32] := by
  have h := trimL_snoc x
  unfold blanksV
  rw [h]
  cases hx : Lib.trimLeftB x 32 with
  | nil => rw [if_pos rfl]; rfl
  | cons c r =>
    have e1 := pre35 c r
    have e2 := pre35 c (r ++ [32])
    have e3 : (if (c :: r : List UInt8) = [] then [] else c :: r ++ [32]) = c :: (r ++ [32]) := if_neg (by simp)
    rw [e3, e1, e2]
    cases hd : decide (c = 35) <;> simp
theorem ff_le {s : List UInt8} {k : Nat} (h : ff s = some k) : k ≤ s.length := by
  unfold ff at h
  have h0 : fldLen s ≤ s.length := (List.takeWhile_prefix _).length_le
  split at h
  · split at h
    · cases h
    · rename_i r hr
      have h1 := (readV_len (n := r.2) (v := r.1) hr).2
      rename_i h61 _
      have h2 := (List.getElem?_eq_some_iff.1 h61).1
      rw [List.length_drop] at h1
      split at h
      · cases h
      · cases h; omega
  · cases h; exact h0
theorem ff_pos {s : List UInt8} {k : Nat} {c : UInt8} {r : List UInt8} (hs : s = c :: r) (hc : c ≠ 32) (h : ff s = some k) : 0 < k := by
  unfold ff at h
  split at h
  · split at h
    · cases h
    · split at h
      · cases h
      · cases h; omega
  · rename_i h61
    cases h
    subst hs
    unfold fldLen at h61 ⊢
    by_cases h1 : c = 61
    · subst h1; simp at h61
    · rw [List.takeWhile_cons]; simp [hc, h1]
theorem ff_snoc (y : List UInt8) : ff (y ++ [32]) = ff y := by
  obtain ⟨b, h1, h2, h3⟩ := tw_split (fun c : UInt8 => c != 32 && c != 61) y
  obtain ⟨f, hf⟩ : ∃ f, f = y.takeWhile (fun c : UInt8 => c != 32 && c != 61) := ⟨_, rfl⟩
  rw [← hf] at h1 h2
  have hfc : ∀ c ∈ f, c ≠ 32 ∧ c ≠ 61 := fun c hc => by have := h2 c hc; simpa using this
  rw [h1]
  cases b with
  | nil => rw [List.append_nil, ff_plain hfc (by simp), ← List.append_nil f, ff_plain hfc (by simp), List.append_nil]
  | cons c u =>
    have hc := h3 c rfl
    by_cases h32 : c = 32
    · subst h32
      rw [List.append_assoc, ff_plain hfc (by simp), ff_plain hfc (by simp)]
    · have h61 : c = 61 := by simp [h32] at hc; exact hc
      subst h61
      rw [List.append_assoc, List.cons_append, ff_eq hfc, ff_eq hfc, readV_snoc]
      cases hr : readV pf uqV u with
      | none => rfl
      | some r =>
        have hl := (readV_len (n := r.2) (v := r.1) hr).2
        dsimp only
        have e : (r.2 < (u ++ [32]).length ∧ (u ++ [32]).getD r.2 0 ≠ 32) ↔ (r.2 < u.length ∧ u.getD r.2 0 ≠ 32) := by
          simp only [List.getD_eq_getElem?_getD, List.length_append, List.length_cons, List.length_nil]
          by_cases h : r.2 < u.length
          · rw [List.getElem?_append_left h]; constructor <;> (intro ⟨_, q⟩; exact ⟨by omega, q⟩)
          · have he : r.2 = u.length := by omega
            rw [he, List.getElem?_append_right (Nat.le_refl _), Nat.sub_self]; simp
        simp only [e]
theorem fields_snoc : ∀ (n : Nat) (x : List UInt8), x.length ≤ n → fldsV (x ++ [32]) = fldsV x
  | n, x, hn => by
    rw [← fields_blanks (x ++ [32]), blanks_snoc, ← fields_blanks x]
    by_cases hy : blanksV x = []
    · rw [if_pos hy, hy]
    · rw [if_neg hy]
      obtain ⟨y, hyx⟩ : ∃ y, y = blanksV x := ⟨_, rfl⟩
      have ht : blanksV y = y := by rw [hyx, blanks_idem]
      rw [← hyx] at hy ⊢
      obtain ⟨c, r, hc, hc1, hc2⟩ := trim_cons ht hy
      have ht2 : blanksV (y ++ [32]) = y ++ [32] := by rw [blanks_snoc, ht, if_neg hy]
      have hy2 : y ++ [32] ≠ [] := by simp
      cases hk : ff y with
      | none => rw [fields_none ht hy hk, fields_none ht2 hy2 (by rw [ff_snoc]; exact hk)]
      | some k =>
        have h0 := ff_pos hc hc1 hk
        have hle := ff_le hk
        have hyl : y.length ≤ x.length := by rw [hyx]; exact blanksV_le x
        have hpos := List.length_pos_iff.2 hy
        obtain ⟨n, rfl⟩ : ∃ m, n = m + 1 := ⟨n - 1, by omega⟩
        rw [fields_cons ht hy hk h0, fields_cons ht2 hy2 (by rw [ff_snoc]; exact hk) h0, List.take_append_of_le_length hle, List.drop_append_of_le_length hle,
          fields_snoc n (y.drop k) (by rw [List.length_drop]; omega)]
theorem fields_rep (x : List UInt8) : ∀ k, fldsV (x ++ List.replicate k 32) = fldsV x
  | 0 => by simp
  | k + 1 => by rw [List.replicate_succ', ← List.append_assoc, fields_snoc _ _ (Nat.le_refl _), fields_rep x k]
theorem trimR_split (x : List UInt8) : ∃ k, x = Lib.trimRightB x 32 ++ List.replicate k 32 := by
  unfold Lib.trimRightB
  have key : ∀ l : List UInt8, ∃ k, l = List.replicate k 32 ++ l.dropWhile (· == 32) := fun l => by
    induction l with
    | nil => exact ⟨0, rfl⟩
    | cons c r ih =>
      by_cases h : c = 32
      · subst h
        obtain ⟨k, hk⟩ := ih
        refine ⟨k + 1, ?_⟩
        rw [List.dropWhile_cons_of_pos (by simp), List.replicate_succ, List.cons_append, ← hk]
      · exact ⟨0, by rw [List.dropWhile_cons_of_neg (by simpa using h)]; rfl⟩
  obtain ⟨k, hk⟩ := key x.reverse
  refine ⟨k, ?_⟩
  have := congrArg List.reverse hk
  rw [List.reverse_reverse, List.reverse_append, List.reverse_replicate] at this
  exact this
theorem wd_rep (z : List UInt8) (k : Nat) : wd (z ++ List.replicate k 32) = wd z := by
  obtain ⟨b, h1, h2, h3, _⟩ := wd_split z
  conv => lhs; rw [h1, List.append_assoc]
  unfold wd
  refine tw_app (fun x hx => by have := h2 x hx; simpa using this) (fun x hx => ?_)
  cases b with
  | nil =>
    cases k with
    | zero => simp at hx
    | succ k => rw [List.nil_append, List.replicate_succ] at hx; simp at hx; rw [← hx]; rfl
  | cons c r =>
    have := h3 c rfl
    simp at hx; subst hx; rw [this]; rfl
theorem dw_rep (z : List UInt8) (k : Nat) : (z ++ List.replicate k 32).dropWhile (· != 32) = z.dropWhile (· != 32) ++ List.replicate k 32 := by
  have h1 := wd_rep z k
  have h2 : wd (z ++ List.replicate k 32) ++ (z ++ List.replicate k 32).dropWhile (· != 32) = z ++ List.replicate k 32 := List.takeWhile_append_dropWhile
  have h3 : wd z ++ z.dropWhile (· != 32) = z := List.takeWhile_append_dropWhile
  rw [h1] at h2
  have h4 : wd z ++ (z ++ List.replicate k 32).dropWhile (· != 32) = wd z ++ (z.dropWhile (· != 32) ++ List.replicate k 32) := by rw [h2, ← List.append_assoc, h3]
  exact List.append_cancel_left h4
theorem rest_eq {x y : List UInt8} (h : fldsV x = fldsV y) : restS x = restS y := by unfold restS; rw [h]
theorem restV_wd {z : List UInt8} (k : Nat) : restS (wdRest (z ++ List.replicate k 32)) = restS (wdRest z) := by
  refine rest_eq ?_
  unfold wdRest
  rw [dw_rep, fields_blanks, fields_blanks, fields_rep]
/-! an arrow -/
def arr2 : List UInt8 := [45, 62]
def line2 : List UInt8 := [45, 45]
theorem pre_arrow {s : List UInt8} {a b : UInt8} (ha : a ≠ 32) (hb : b ≠ 32) : Lib.hasPrefix (s ++ [32]) [a, b, 32] = decide (wd s = [a, b]) := by
  obtain ⟨t, h1, h2, h3, _⟩ := wd_split s
  rw [Bool.eq_iff_iff, decide_eq_true_eq, pre_iff]
  constructor
  · rintro ⟨r, hr⟩
    have hw : wd (s ++ [32]) = wd s := wd_rep s 1
    rw [← hw, ← hr]
    unfold wd
    simp [ha, hb]
  · intro hw
    rw [hw] at h1
    cases t with
    | nil => exact ⟨[], by rw [h1]; rfl⟩
    | cons c r =>
      have hc := h3 c rfl
      subst hc
      exact ⟨r ++ [32], by rw [h1]; simp⟩
theorem arrA_eq (s : List UInt8) : (arrA s).2.1 = decide (wd (wdRest (wdRest s)) = arr2) ∧ (arrA s).2.2 = (decide (wd (wdRest (wdRest s)) = arr2) || decide (wd (wdRest (wdRest s)) = line2)) := by
  have h1 := pre_arrow (s := wdRest (wdRest s)) (a := 45) (b := 62) (by decide) (by decide)
  have h2 := pre_arrow (s := wdRest (wdRest s)) (a := 45) (b := 45) (by decide) (by decide)
  unfold arrA arrS
  rw [h1, h2]
  unfold arr2 line2
  by_cases e1 : wd (wdRest (wdRest s)) = [45, 62]
  · rw [if_pos (by simpa using e1)]; simp [e1]
  · rw [if_neg (by simpa using e1)]
    by_cases e2 : wd (wdRest (wdRest s)) = [45, 45]
    · rw [if_pos (by simpa using e2)]; simp [e2]
    · rw [if_neg (by simpa using e2)]; simp [e1, e2]
theorem toS_eq {s : List UInt8} (h : (arrA s).2.2 = true) : wd (toS s) = wd (wdRest (wdRest (wdRest s))) ∧ restS (wdRest (toS s)) = restS (wdRest (wdRest (wdRest (wdRest s)))) := by
  obtain ⟨s2, hs2⟩ : ∃ s2, s2 = wdRest (wdRest s) := ⟨_, rfl⟩
  have harr : (arrA s).1 = (s2 ++ [32]).drop 3 := by
    unfold arrA at h ⊢
    rw [← hs2] at h ⊢
    unfold arrS at h ⊢
    split
    · rfl
    · rename_i h1
      rw [if_neg h1] at h
      split
      · rfl
      · rename_i h2; rw [if_neg h2] at h; cases h
  have hw : ∃ a b, wd s2 = [a, b] := by
    have := (arrA_eq s).2
    rw [h, ← hs2] at this
    have h3 := this.symm
    rw [Bool.or_eq_true, decide_eq_true_eq, decide_eq_true_eq] at h3
    rcases h3 with h3 | h3
    · exact ⟨_, _, h3⟩
    · exact ⟨_, _, h3⟩
  obtain ⟨a, b, hab⟩ := hw
  obtain ⟨t, h1, h2, h3, h4⟩ := wd_split s2
  rw [hab] at h1
  have hd : blanksV (arrA s).1 = blanksV (t ++ [32]) := by
    rw [harr, h1]
    cases t with
    | nil => rfl
    | cons c r =>
      have hc := h3 c rfl
      subst hc
      show blanksV (r ++ [32]) = blanksV (32 :: (r ++ [32]))
      unfold blanksV
      have : Lib.trimLeftB (32 :: (r ++ [32])) 32 = Lib.trimLeftB (r ++ [32]) 32 := by
        unfold Lib.trimLeftB; rw [List.dropWhile_cons_of_pos (by simp)]
      rw [this]
  have hz : toS s = Lib.trimRightB (if blanksV t = [] then [] else blanksV t ++ [32]) 32 := by unfold toS; rw [hd, blanks_snoc]
  obtain ⟨z, hzt⟩ : ∃ z, z = blanksV t := ⟨_, rfl⟩
  rw [← hs2, h4, ← hzt]
  rw [← hzt] at hz
  by_cases hz0 : z = []
  · rw [if_pos hz0] at hz
    rw [hz, hz0]; exact ⟨rfl, rfl⟩
  · rw [if_neg hz0] at hz
    have hzr : toS s = Lib.trimRightB z 32 := by
      rw [hz]; unfold Lib.trimRightB
      rw [List.reverse_append, List.reverse_cons, List.reverse_nil, List.nil_append, List.singleton_append, List.dropWhile_cons_of_pos (by simp)]
    obtain ⟨k, hk⟩ := trimR_split z
    rw [← hzr] at hk
    rw [hk]
    exact ⟨(wd_rep _ _).symm, (restV_wd k).symm⟩
/-- an edge's line by its words -/
theorem edge_words {s : List UInt8} {ls : List (List UInt8)} {ps : List Pr} (g : GV) (h1 : wordA (wd s) = true) (h2 : wordA (wd (wdRest s)) = true) (h3 : wd (wdRest (wdRest s)) = arr2 ∨ wd (wdRest (wdRest s)) = line2) (h4 : wordA (wd (wdRest (wdRest (wdRest s)))) = true) (h : restS (wdRest (wdRest (wdRest (wdRest s)))) = some (ls, ps)) :
    edgeStep s 0 g = (⟨g.ns, g.es ++ [⟨wd s, (((idx (wd (wdRest s)) (nnames g)).getD 0 : Nat) : Int), (((idx (wd (wdRest (wdRest (wdRest s)))) (nnames g)).getD 0 : Nat) : Int), decide (wd (wdRest (wdRest s)) = arr2), sortS ls, insAll [] ps⟩]⟩, nameE (nmap (enames g)) (wd s) 1000 (eP [] ps (eL [] ls (scopeE (idx (wd (wdRest (wdRest (wdRest s)))) (nnames g)) (scopeE (idx (wd (wdRest s)) (nnames g)) 0))))) := by
  have ha := arrA_eq s
  have ha2 : (arrA s).2.2 = true := by
    rw [ha.2, Bool.or_eq_true, decide_eq_true_eq, decide_eq_true_eq]; exact h3
  obtain ⟨e1, e2⟩ := toS_eq ha2
  rw [edge_ok g h1 h2 ha2 (by rw [e1]; exact h4) (by rw [e2]; exact h), e1, ha.1]
end Go.Proofs.YtjmlknjbhbfneaaGreatDoor
namespace Go.Proofs.YtjmlknjbhbfneaaGreatDoor
open Go.RowKit Go.Bw Go.Bw.Fl
set_option linter.unusedVariables false
set_option linter.unusedSimpArgs false
/-! order -/
theorem le_of_less {x y : List UInt8} (h : Op.bytesLess x y = true) : decide (x ≤ y) = true := by
  rw [decide_eq_true_eq]
  show ¬ y < x
  intro h2
  have h3 : Op.bytesLess y x = true := by rw [bytesLess_eq]; exact decide_eq_true h2
  have := bl_trans _ _ _ h h3
  rw [bl_irr] at this; cases this
theorem rise_pair {l : List (List UInt8)} (h : risingV l = true) : l.Pairwise (fun x y => Op.bytesLess x y = true) := by
  have key : ∀ j i, i < j → j < l.length → Op.bytesLess (l.getD i []) (l.getD j []) = true := by
    intro j
    induction j with
    | zero => intro i hi; omega
    | succ j ih =>
      intro i hi hj
      have h1 := allN_iff.1 h (j + 1) hj
      unfold riseAt at h1
      have h2 : Op.bytesLess (l.getD j []) (l.getD (j + 1) []) = true := by simpa using (Bool.and_eq_true _ _ ▸ h1).2
      by_cases e : i = j
      · subst e; exact h2
      · exact bl_trans _ _ _ (ih i (by omega) (by omega)) h2
  rw [List.pairwise_iff_getElem]
  intro i j hi hj hij
  have := key j i hij hj
  rwa [getD_at [] hi, getD_at [] hj] at this
theorem rise_word {l : List (List UInt8)} (h : risingV l = true) : ∀ w ∈ l, wordA w = true := fun w hw => by
  obtain ⟨i, hi, rfl⟩ := List.getElem_of_mem hw
  have h1 := allN_iff.1 h i hi
  unfold riseAt at h1
  rw [Bool.and_eq_true, getD_at [] hi] at h1
  exact h1.1
theorem sort_rising {l : List (List UInt8)} (h : l.Pairwise (fun x y => Op.bytesLess x y = true)) : sortS l = l := List.mergeSort_of_pairwise (h.imp fun h => le_of_less h)
theorem less_ne {x y : List UInt8} (h : Op.bytesLess x y = true) : x ≠ y := fun e => by rw [e, bl_irr] at h; cases h
theorem eL_ok : ∀ (ls o : List (List UInt8)) (e : Int), (∀ x ∈ o, ∀ y ∈ ls, x ≠ y) → ls.Pairwise (· ≠ ·) → eL o ls e = e
  | [], _, _, _, _ => rfl
  | w :: r, o, e, h1, h2 => by
    rw [List.pairwise_cons] at h2
    have hn : w ∉ o := fun hm => h1 w hm w (List.mem_cons_self ..) rfl
    unfold eL
    rw [if_neg hn]
    refine eL_ok r _ e (fun x hx y hy => ?_) h2.2
    rcases List.mem_append.1 hx with h | h
    · exact h1 x h y (List.mem_cons_of_mem _ hy)
    · simp at h; subst h; exact h2.1 y hy
theorem lb_end {o : List Pr} {nm : List UInt8} (h : ∀ q ∈ o, Op.bytesLess q.1 nm = true) : lbP o nm = o.length := by
  unfold lbP
  have h1 := tw_app (p := fun q : Pr => decide (Lib.compareBytes q.1 nm < 0)) (a := o) (b := []) (fun q hq => decide_eq_true ((cmp_lt _ _).2 (h q hq))) (fun x hx => by cases hx)
  rw [List.append_nil] at h1
  rw [h1]
theorem ins_end {o : List Pr} {p : Pr} : insP o o.length p = o ++ [p] := by unfold insP; simp
theorem insAll_ok : ∀ (ps o : List Pr) (e : Int), (∀ q ∈ o, ∀ p ∈ ps, Op.bytesLess q.1 p.1 = true) → ps.Pairwise (fun p q => Op.bytesLess p.1 q.1 = true) → (∀ p ∈ ps, p.2.k ≠ 0) → insAll o ps = o ++ ps ∧ eP o ps e = e
  | [], o, e, _, _, _ => ⟨by simp [insAll], rfl⟩
  | p :: r, o, e, h1, h2, h3 => by
    rw [List.pairwise_cons] at h2
    have hl := lb_end (o := o) (nm := p.1) (fun q hq => h1 q hq p (List.mem_cons_self ..))
    have hf : foundP o p.1 = false := by unfold foundP; rw [hl]; simp
    have hn : nullE p e = e := by unfold nullE; rw [if_neg (h3 p (List.mem_cons_self ..))]
    unfold insAll eP
    rw [hl, ins_end, hf, hn]
    have := insAll_ok r (o ++ [p]) e (fun q hq p' hp' => by
      rcases List.mem_append.1 hq with h | h
      · exact h1 q h p' (List.mem_cons_of_mem _ hp')
      · simp at h; subst h; exact h2.1 p' hp') h2.2 (fun q hq => h3 q (List.mem_cons_of_mem _ hq))
    simpa using this
/-! fields of a text -/
theorem blanks_rep (x : List UInt8) : ∀ k, blanksV (List.replicate k 32 ++ x) = blanksV x
  | 0 => rfl
  | k + 1 => by
    have ih := blanks_rep x k
    rw [List.replicate_succ, List.cons_append]
    unfold blanksV at ih ⊢
    have : Lib.trimLeftB (32 :: (List.replicate k 32 ++ x)) 32 = Lib.trimLeftB (List.replicate k 32 ++ x) 32 := by
      unfold Lib.trimLeftB; rw [List.dropWhile_cons_of_pos (by simp)]
    rw [this]; exact ih
theorem blanks_good {s : List UInt8} (h : ∃ c r, s = c :: r ∧ c ≠ 32 ∧ c ≠ 35) : blanksV s = s := by
  obtain ⟨c, r, rfl, h1, h2⟩ := h
  unfold blanksV
  have e : Lib.trimLeftB (c :: r) 32 = c :: r := by unfold Lib.trimLeftB; rw [List.dropWhile_cons_of_neg (by simpa using h1)]
  rw [e, pre35, if_neg (by simpa using h2)]
/-- ends, or a blank -/
def St (t : List UInt8) : Prop := ∀ x, t.head? = some x → x = 32
theorem St.rep (k : Nat) (x : List UInt8) : St (List.replicate (k + 1) 32 ++ x) := fun y h => by
  rw [List.replicate_succ, List.cons_append] at h; simp at h; exact h.symm
theorem fld_cons {f t : List UInt8} (h0 : ∃ c r, f = c :: r ∧ c ≠ 32 ∧ c ≠ 35) (hff : ff (f ++ t) = some f.length) (k : Nat) : fldsV (List.replicate k 32 ++ (f ++ t)) = (fldsV t).map (f :: ·) := by
  have hg : ∃ c r, f ++ t = c :: r ∧ c ≠ 32 ∧ c ≠ 35 := by obtain ⟨c, r, rfl, h1, h2⟩ := h0; exact ⟨c, r ++ t, rfl, h1, h2⟩
  have hb := blanks_good hg
  have hne : f ++ t ≠ [] := by obtain ⟨c, r, h, _⟩ := hg; rw [h]; simp
  rw [← fields_blanks, blanks_rep, hb, fields_cons hb hne hff (by obtain ⟨c, r, h, _⟩ := h0; rw [h]; simp)]
  rw [List.take_left, List.drop_left]
def labK (k : Nat) (l : List UInt8) : List UInt8 := List.replicate (k + 1) 32 ++ 58 :: l
noncomputable def prK (k : Nat) (p : Pr) : List UInt8 := List.replicate (k + 1) 32 ++ propF p
noncomputable def restK (k : Nat) (ls : List (List UInt8)) (ps : List Pr) : List UInt8 := ls.flatMap (labK k) ++ ps.flatMap (prK k)
/-- a right property -/
def PrOk (p : Pr) : Prop := wordA p.1 = true ∧ p.2.Ok ∧ rightV p.2 = true
theorem st_rest (k : Nat) (ls : List (List UInt8)) (ps : List Pr) {t : List UInt8} (ht : St t) : St (restK k ls ps ++ t) := by
  unfold restK
  cases ls with
  | cons l r => rw [List.flatMap_cons, List.append_assoc, List.append_assoc]; unfold labK; rw [List.append_assoc]; exact St.rep k _
  | nil =>
    cases ps with
    | cons p r => rw [List.flatMap_nil, List.nil_append, List.flatMap_cons, List.append_assoc]; unfold prK; rw [List.append_assoc]; exact St.rep k _
    | nil => exact ht
theorem read_at {v : Val} (o : v.Ok) (h : rightV v = true) {t : List UInt8} (ht : St t) : readV pf uqV (textQ v ++ t) = some (v, (textQ v).length) := by
  cases t with
  | nil => rw [List.append_nil]; exact read_text o h
  | cons c r => rw [ht c rfl]; exact readV_more r stop32 (read_text o h)
theorem fields_props (k : Nat) : ∀ (ps : List Pr) (t : List UInt8), (∀ p ∈ ps, PrOk p) → St t → fldsV (ps.flatMap (prK k) ++ t) = (fldsV t).map fun l => ps.map propF ++ l
  | [], t, _, _ => by rw [List.flatMap_nil, List.nil_append]; cases fldsV t <;> rfl
  | p :: r, t, h, ht => by
    obtain ⟨hw, ho, hr⟩ := h p (List.mem_cons_self ..)
    obtain ⟨hne, _, hch⟩ := word_chars hw
    have hst : St (r.flatMap (prK k) ++ t) := by have := st_rest k [] r ht; unfold restK at this; simpa using this
    have hff : ff (propF p ++ (r.flatMap (prK k) ++ t)) = some (propF p).length := by
      have e : propF p ++ (r.flatMap (prK k) ++ t) = p.1 ++ 61 :: (textQ p.2 ++ (r.flatMap (prK k) ++ t)) := by unfold propF; simp
      have hrd := read_at ho hr hst
      rw [e, ff_eq (fun c hc => ⟨(hch c hc).1, (hch c hc).2.1⟩), hrd]
      dsimp only
      rw [if_neg]
      · unfold propF; simp; omega
      · rintro ⟨h1, h2⟩
        apply h2
        simp only [List.getD_eq_getElem?_getD]
        rw [List.getElem?_append_right (Nat.le_refl _), Nat.sub_self]
        rw [List.length_append] at h1
        cases hx : r.flatMap (prK k) ++ t with
        | nil => rw [hx] at h1; simp at h1
        | cons c q => rw [hx] at hst; rw [hst c rfl]; rfl
    have h0 : ∃ c q, propF p = c :: q ∧ c ≠ 32 ∧ c ≠ 35 := by
      unfold propF
      cases hp : p.1 with
      | nil => exact absurd hp hne
      | cons c q => exact ⟨c, q ++ 61 :: textQ p.2, rfl, (hch c (by rw [hp]; exact List.mem_cons_self ..)).1, (hch c (by rw [hp]; exact List.mem_cons_self ..)).2.2.2.1⟩
    have e2 : prK k p = List.replicate (k + 1) 32 ++ propF p := rfl
    rw [List.flatMap_cons, List.append_assoc, e2, List.append_assoc, fld_cons h0 hff (k + 1), fields_props k r t (fun q hq => h q (List.mem_cons_of_mem _ hq)) ht]
    cases fldsV t <;> rfl
theorem fields_rest (k : Nat) (ps : List Pr) (t : List UInt8) (hp : ∀ p ∈ ps, PrOk p) (ht : St t) : ∀ (ls : List (List UInt8)), (∀ l ∈ ls, wordA l = true) → fldsV (restK k ls ps ++ t) = (fldsV t).map fun l => fieldsV ls ps ++ l
  | [], _ => by
    have := fields_props k ps t hp ht
    unfold restK
    rw [List.flatMap_nil, List.nil_append, this]; rfl
  | l :: r, h => by
    obtain ⟨hne, _, hch⟩ := word_chars (h l (List.mem_cons_self ..))
    have ih := fields_rest k ps t hp ht r (fun q hq => h q (List.mem_cons_of_mem _ hq))
    have hst := st_rest k r ps ht
    have hff : ff ((58 :: l) ++ (restK k r ps ++ t)) = some (58 :: l : List UInt8).length := ff_plain (fun c hc => by
      rcases List.mem_cons.1 hc with rfl | hc
      · exact ⟨by decide, by decide⟩
      · exact ⟨(hch c hc).1, (hch c hc).2.1⟩) hst
    have e : restK k (l :: r) ps ++ t = List.replicate (k + 1) 32 ++ ((58 :: l) ++ (restK k r ps ++ t)) := by unfold restK labK; simp
    rw [e, fld_cons ⟨58, l, rfl, by decide, by decide⟩ hff, ih]
    cases fldsV t <;> rfl
theorem propF1_ok {p : Pr} (h : PrOk p) : propF1 (propF p) = some p := by
  obtain ⟨hw, ho, hr⟩ := h
  have hn : (61 : UInt8) ∉ p.1 := fun hm => ((word_chars hw).2.2 61 hm).2.1 rfl
  unfold propF1 propF
  rw [cutE_eq hn, if_pos ⟨by simp, hw⟩, read_text ho hr]; rfl
theorem propsF1_ok : ∀ {ps : List Pr}, (∀ p ∈ ps, PrOk p) → propsF1 (ps.map propF) = some ps
  | [], _ => rfl
  | p :: r, h => by
    rw [List.map_cons]
    unfold propsF1
    rw [propF1_ok (h p (List.mem_cons_self ..)), propsF1_ok (fun q hq => h q (List.mem_cons_of_mem _ hq))]
theorem restF_ok {ps : List Pr} (hp : ∀ p ∈ ps, PrOk p) : ∀ {ls : List (List UInt8)}, (∀ l ∈ ls, wordA l = true) → restF (fieldsV ls ps) = some (ls, ps)
  | [], _ => by
    have h1 := propsF1_ok hp
    unfold fieldsV
    rw [List.map_nil, List.nil_append]
    cases ps with
    | nil => rfl
    | cons p r =>
      rw [List.map_cons] at h1 ⊢
      have hc : Lib.hasPrefix (propF p) [58] = false := by
        obtain ⟨hne, _, hch⟩ := word_chars (hp p (List.mem_cons_self ..)).1
        cases e : Lib.hasPrefix (propF p) [58] with
        | false => rfl
        | true =>
          obtain ⟨q, hq⟩ := (pre_one _ _).1 e
          unfold propF at hq
          cases hp1 : p.1 with
          | nil => exact absurd hp1 hne
          | cons c z =>
            rw [hp1] at hq
            injection hq with h2 _
            exact absurd h2 (hch c (by rw [hp1]; exact List.mem_cons_self ..)).2.2.1
      unfold restF
      rw [if_neg (by rw [hc]; simp), h1]; rfl
  | l :: r, h => by
    have ih := restF_ok hp (fun q hq => h q (List.mem_cons_of_mem _ hq)) (ls := r)
    have e : fieldsV (l :: r) ps = (58 :: l) :: fieldsV r ps := rfl
    rw [e]
    unfold restF
    rw [if_pos (by simp [Lib.hasPrefix]), if_pos (show wordA ((58 :: l : List UInt8).drop 1) = true from h l (List.mem_cons_self ..)), ih]; rfl
/-- what stands behind the last field -/
def Tail (t : List UInt8) : Prop := St t ∧ fldsV t = some []
theorem rest_line {k : Nat} {ls : List (List UInt8)} {ps : List Pr} {t : List UInt8} (hl : ∀ l ∈ ls, wordA l = true) (hp : ∀ p ∈ ps, PrOk p) (ht : Tail t) : restS (restK k ls ps ++ t) = some (ls, ps) := by
  unfold restS
  rw [fields_rest k ps t hp ht.1 ls hl, ht.2]
  show restF (fieldsV ls ps ++ []) = _
  rw [List.append_nil, restF_ok hp hl]
theorem wd_word {w t : List UInt8} (hw : ∀ c ∈ w, c ≠ 32) (ht : St t) : wd (w ++ t) = w ∧ wdRest (w ++ t) = blanksV t := by
  have h1 : wd (w ++ t) = w := tw_app (fun c hc => by simpa using hw c hc) (fun x hx => by rw [ht x hx]; rfl)
  refine ⟨h1, ?_⟩
  obtain ⟨b, h2, _, _, h3⟩ := wd_split (w ++ t)
  rw [h1] at h2
  rw [h3, ← List.append_cancel_left h2]
theorem word_go {w t : List UInt8} (hw : wordA w = true) (k : Nat) : blanksV (List.replicate k 32 ++ (w ++ t)) = w ++ t := by
  obtain ⟨hne, _, hch⟩ := word_chars hw
  rw [blanks_rep]
  cases w with
  | nil => exact absurd rfl hne
  | cons c r => exact blanks_good ⟨c, r ++ t, rfl, (hch c (List.mem_cons_self ..)).1, (hch c (List.mem_cons_self ..)).2.2.2.1⟩
/-- what is right of an element -/
structure ElOk (n : List UInt8) (ls : List (List UInt8)) (ps : List Pr) : Prop where
  nw : wordA n = true
  lw : ∀ l ∈ ls, wordA l = true
  lp : ls.Pairwise (fun x y => Op.bytesLess x y = true)
  po : ∀ p ∈ ps, PrOk p
  pp : ps.Pairwise (fun p q => Op.bytesLess p.1 q.1 = true)
  pn : ∀ p ∈ ps, p.2.k ≠ 0
theorem el_ok {n : List UInt8} {ls : List (List UInt8)} {ps : List Pr} (h : elementV n ls ps = true) (ho : ∀ p ∈ ps, p.2.Ok) : ElOk n ls ps := by
  have hr := elem_right h
  unfold elementV at h
  simp only [Bool.and_eq_true] at h
  obtain ⟨⟨⟨h1, h2⟩, h3⟩, h4⟩ := h
  have h5 := rise_pair h4
  rw [List.pairwise_map] at h5
  refine ⟨h2, rise_word h3, rise_pair h3, fun p hp => ⟨rise_word h4 p.1 (List.mem_map.2 ⟨p, hp, rfl⟩), ho p hp, hr p hp⟩, h5, fun p hp => ?_⟩
  obtain ⟨i, hi, rfl⟩ := List.getElem_of_mem hp
  have h6 := allN_iff.1 h1 i hi
  unfold valueAt at h6
  rw [Bool.and_eq_true, getD_at pr0 hi] at h6
  exact of_decide_eq_true h6.1
theorem ElOk.fold {n : List UInt8} {ls : List (List UInt8)} {ps : List Pr} (h : ElOk n ls ps) (e : Int) : sortS ls = ls ∧ insAll [] ps = ps ∧ eP [] ps (eL [] ls e) = e := by
  have h1 := eL_ok ls [] e (fun x hx => by cases hx) (h.lp.imp less_ne)
  have h2 := insAll_ok ps [] e (fun q hq => by cases hq) h.pp h.pn
  rw [h1]
  exact ⟨sort_rising h.lp, by simpa using h2.1, h2.2⟩
noncomputable def nodeK (k : Nat) (d : ND) : List UInt8 := wNode ++ (List.replicate (k + 1) 32 ++ (d.n ++ restK k d.ls d.ps))
noncomputable def edgeK (k : Nat) (g : GV) (d : ED) : List UInt8 := wEdge ++ (List.replicate (k + 1) 32 ++ (d.n ++ (List.replicate (k + 1) 32 ++ ((g.ns.getD d.fr.toNat nd0).n ++ (List.replicate (k + 1) 32 ++ (arrowV d.dir ++ (List.replicate (k + 1) 32 ++ ((g.ns.getD d.tw.toNat nd0).n ++ restK k d.ls d.ps))))))))
theorem wNode_w : wordA wNode = true := by decide
theorem wEdge_w : wordA wEdge = true := by decide
theorem word_st {w : List UInt8} (h : wordA w = true) : ∀ c ∈ w, c ≠ 32 := fun c hc => ((word_chars h).2.2 c hc).1
theorem node_line (k pre : Nat) {t : List UInt8} (ht : Tail t) {d : ND} (h : ElOk d.n d.ls d.ps) (g : GV) : lineStep (List.replicate pre 32 ++ (nodeK k d ++ t)) g = (⟨g.ns ++ [d], g.es⟩, nameE (nmap (nnames g)) d.n 1000 0) := by
  have e1 : nodeK k d ++ t = wNode ++ (List.replicate (k + 1) 32 ++ (d.n ++ (restK k d.ls d.ps ++ t))) := by unfold nodeK; simp
  have hb : blanksV (List.replicate pre 32 ++ (nodeK k d ++ t)) = wNode ++ (List.replicate (k + 1) 32 ++ (d.n ++ (restK k d.ls d.ps ++ t))) := by rw [e1, word_go wNode_w]
  obtain ⟨w1, w2⟩ := wd_word (word_st wNode_w) (St.rep k (d.n ++ (restK k d.ls d.ps ++ t)))
  rw [word_go h.nw] at w2
  obtain ⟨w3, w4⟩ := wd_word (word_st h.nw) (st_rest k d.ls d.ps ht.1)
  have hr : restS (wdRest (d.n ++ (restK k d.ls d.ps ++ t))) = some (d.ls, d.ps) := by
    rw [w4, rest_eq (fields_blanks _)]; exact rest_line h.lw h.po ht
  obtain ⟨f1, f2, f3⟩ := h.fold 0
  unfold lineStep
  rw [hb, w1, if_neg (by simp [wNode]), if_pos rfl, w2, node_ok g (by rw [w3]; exact h.nw) hr, w3, f1, f2, f3]
theorem arrow_st (b : Bool) : ∀ c ∈ arrowV b, c ≠ 32 := by cases b <;> decide
theorem arrow_go (b : Bool) (k : Nat) (t : List UInt8) : blanksV (List.replicate k 32 ++ (arrowV b ++ t)) = arrowV b ++ t := by
  rw [blanks_rep]
  cases b
  · exact blanks_good ⟨45, 45 :: t, rfl, by decide, by decide⟩
  · exact blanks_good ⟨45, 62 :: t, rfl, by decide, by decide⟩
theorem edge_line (k pre : Nat) {t : List UInt8} (ht : Tail t) {d : ED} (h : ElOk d.n d.ls d.ps) (G g : GV) (hf : wordA (G.ns.getD d.fr.toNat nd0).n = true) (hw : wordA (G.ns.getD d.tw.toNat nd0).n = true)
    (h1 : idx (G.ns.getD d.fr.toNat nd0).n (nnames g) = some d.fr.toNat) (h2 : idx (G.ns.getD d.tw.toNat nd0).n (nnames g) = some d.tw.toNat) (h3 : 0 ≤ d.fr) (h4 : 0 ≤ d.tw) :
    lineStep (List.replicate pre 32 ++ (edgeK k G d ++ t)) g = (⟨g.ns, g.es ++ [d]⟩, nameE (nmap (enames g)) d.n 1000 0) := by
  obtain ⟨fr, hfr⟩ : ∃ x, x = (G.ns.getD d.fr.toNat nd0).n := ⟨_, rfl⟩
  obtain ⟨tw, htw⟩ : ∃ x, x = (G.ns.getD d.tw.toNat nd0).n := ⟨_, rfl⟩
  rw [← hfr] at hf h1
  rw [← htw] at hw h2
  obtain ⟨R, hR⟩ : ∃ R, R = restK k d.ls d.ps ++ t := ⟨_, rfl⟩
  have hRs : St R := by rw [hR]; exact st_rest k d.ls d.ps ht.1
  have e1 : edgeK k G d ++ t = wEdge ++ (List.replicate (k + 1) 32 ++ (d.n ++ (List.replicate (k + 1) 32 ++ (fr ++ (List.replicate (k + 1) 32 ++ (arrowV d.dir ++ (List.replicate (k + 1) 32 ++ (tw ++ R)))))))) := by
    rw [hR, hfr, htw]; unfold edgeK; simp
  have hb : blanksV (List.replicate pre 32 ++ (edgeK k G d ++ t)) = wEdge ++ (List.replicate (k + 1) 32 ++ (d.n ++ (List.replicate (k + 1) 32 ++ (fr ++ (List.replicate (k + 1) 32 ++ (arrowV d.dir ++ (List.replicate (k + 1) 32 ++ (tw ++ R)))))))) := by rw [e1, word_go wEdge_w]
  obtain ⟨a1, a2⟩ := wd_word (word_st wEdge_w) (St.rep k (d.n ++ (List.replicate (k + 1) 32 ++ (fr ++ (List.replicate (k + 1) 32 ++ (arrowV d.dir ++ (List.replicate (k + 1) 32 ++ (tw ++ R))))))))
  rw [word_go h.nw] at a2
  obtain ⟨b1, b2⟩ := wd_word (word_st h.nw) (St.rep k (fr ++ (List.replicate (k + 1) 32 ++ (arrowV d.dir ++ (List.replicate (k + 1) 32 ++ (tw ++ R))))))
  rw [word_go hf] at b2
  obtain ⟨c1, c2⟩ := wd_word (word_st hf) (St.rep k (arrowV d.dir ++ (List.replicate (k + 1) 32 ++ (tw ++ R))))
  rw [arrow_go] at c2
  obtain ⟨d1, d2⟩ := wd_word (arrow_st d.dir) (St.rep k (tw ++ R))
  rw [word_go hw] at d2
  obtain ⟨f1, f2⟩ := wd_word (word_st hw) hRs
  have hr : restS (blanksV R) = some (d.ls, d.ps) := by rw [rest_eq (fields_blanks _), hR]; exact rest_line h.lw h.po ht
  obtain ⟨g1, g2, g3⟩ := h.fold 0
  have harr : arrowV d.dir = arr2 ∨ arrowV d.dir = line2 := by cases d.dir <;> simp [arrowV, arr2, line2]
  have hdir : decide (arrowV d.dir = arr2) = d.dir := by cases d.dir <;> rfl
  have hE := edge_words (s := d.n ++ (List.replicate (k + 1) 32 ++ (fr ++ (List.replicate (k + 1) 32 ++ (arrowV d.dir ++ (List.replicate (k + 1) 32 ++ (tw ++ R))))))) (ls := d.ls) (ps := d.ps) g (by rw [b1]; exact h.nw) (by rw [b2, c1]; exact hf) (by rw [b2, c2, d1]; exact harr) (by rw [b2, c2, d2, f1]; exact hw) (by rw [b2, c2, d2, f2]; exact hr)
  rw [b1, b2, c1, c2, d1, d2, f1, h1, h2, hdir, g1, g2] at hE
  have hs : scopeE (some d.tw.toNat) (scopeE (some d.fr.toNat) 0) = 0 := rfl
  rw [hs, g3] at hE
  have hfi : (((some d.fr.toNat).getD 0 : Nat) : Int) = d.fr := by show ((d.fr.toNat : Nat) : Int) = d.fr; omega
  have hti : (((some d.tw.toNat).getD 0 : Nat) : Int) = d.tw := by show ((d.tw.toNat : Nat) : Int) = d.tw; omega
  rw [hfi, hti] at hE
  have hne : wEdge ≠ wNode := by decide
  unfold lineStep
  rw [hb, a1, if_neg (by simp [wEdge]), if_neg hne, if_pos rfl, a2, hE]
end Go.Proofs.YtjmlknjbhbfneaaGreatDoor
namespace Go.Proofs.YtjmlknjbhbfneaaGreatDoor
open Go.RowKit Go.Bw Go.Bw.Fl
set_option linter.unusedVariables false
set_option linter.unusedSimpArgs false
/-! a value's text -/
def Pl (c : UInt8) : Prop := c ≠ 10 ∧ c ≠ 32 ∧ c ≠ 39 ∧ c ≠ 92
theorem pl_dig {c : UInt8} (h : 48 ≤ c.toNat ∧ c.toNat ≤ 57) : Pl c := by
  refine ⟨?_, ?_, ?_, ?_⟩ <;> (intro e; subst e; exact absurd h (by decide))
theorem pl_dec (u : Nat) : ∀ c ∈ Lib.decDigits u, Pl c := fun c hc => pl_dig ((decDigits_spec u).1 c hc)
theorem pl_itoa (n : Int) : ∀ c ∈ Lib.itoa n, Pl c := fun c hc => by
  unfold Lib.itoa at hc
  split at hc
  · rcases List.mem_cons.1 hc with rfl | h
    · exact ⟨by decide, by decide, by decide, by decide⟩
    · exact pl_dec _ c h
  · exact pl_dec _ c hc
theorem pl_const {l : List UInt8} (h : l.all (fun c => c != 10 && c != 32 && c != 39 && c != 92) = true) : ∀ c ∈ l, Pl c := fun c hc => by
  have := List.all_eq_true.1 h c hc
  simp only [Bool.and_eq_true, bne_iff_ne] at this
  exact ⟨this.1.1.1, this.1.1.2, this.1.2, this.2⟩
theorem pl_app {a b : List UInt8} (ha : ∀ c ∈ a, Pl c) (hb : ∀ c ∈ b, Pl c) : ∀ c ∈ a ++ b, Pl c := fun c hc => by
  rcases List.mem_append.1 hc with h | h
  · exact ha c h
  · exact hb c h
theorem pl_sgn (b : Nat) : ∀ c ∈ sgn b, Pl c := by
  unfold sgn; split
  · exact pl_const (by decide)
  · exact pl_const (by decide)
theorem pl_flt (b : Nat) : ∀ c ∈ textF b, Pl c := by
  unfold textF
  split
  · exact pl_const (by decide)
  · split
    · exact pl_app (pl_sgn b) (pl_const (by decide))
    · split
      · exact pl_app (pl_sgn b) (pl_const (by decide))
      · exact pl_app (pl_app (pl_app (pl_sgn b) (pl_dec _)) (pl_const (by decide))) (pl_itoa _)
theorem txt_plain {v : Val} (h : rightV v = true) (hk : v.k ≠ 4) : ∀ c ∈ textQ v, Pl c := by
  unfold textQ textV
  rw [if_neg (by rw [h]; simp)]
  split
  · split
    · exact pl_const (by decide)
    · exact pl_const (by decide)
  · split
    · exact pl_itoa _
    · split
      · exact pl_flt _
      · exact pl_const (by decide)
theorem txt_quote {v : Val} (h : rightV v = true) (hk : v.k = 4) : textQ v = quoteV v.s := by
  unfold textQ textV
  rw [if_neg (by rw [h]; simp), if_neg (by omega), if_neg (by omega), if_neg (by omega), if_pos hk]
theorem qc_no10 (c : UInt8) : (10 : UInt8) ∉ qc c := by
  unfold qc
  split
  · decide
  · split
    · decide
    · split
      · decide
      · rename_i h; simp; exact fun e => h e.symm
theorem txt_no10 {v : Val} (h : rightV v = true) : (10 : UInt8) ∉ textQ v := fun hm => by
  by_cases hk : v.k = 4
  · rw [txt_quote h hk] at hm
    unfold quoteV at hm
    rcases List.mem_cons.1 hm with h | h
    · cases h
    · rcases List.mem_append.1 h with h | h
      · obtain ⟨c, _, hc⟩ := List.mem_flatMap.1 h
        exact qc_no10 c hc
      · simp at h
  · exact (txt_plain h hk 10 hm).1 rfl
/-! lines -/
theorem splitL_cons {b : UInt8} (h : b ≠ 10) (r : List UInt8) : splitL (b :: r) = (b :: (splitL r).headD []) :: (splitL r).tail := by show (if _ then _ else _) = _; rw [if_neg h]
theorem loadGo_cons (s : List UInt8) (r : List (List UInt8)) (i : Nat) (g : GV) : loadGo (s :: r) i g = if (lineStep s g).2 = 0 then loadGo r (i + 1) (lineStep s g).1 else (⟨[], []⟩, (i : Int) + 1, (lineStep s g).2) := rfl
theorem split_none : ∀ {z : List UInt8}, (10 : UInt8) ∉ z → splitL z = [z]
  | [], _ => rfl
  | b :: r, h => by
    have h1 : b ≠ 10 := fun e => h (by rw [e]; exact List.mem_cons_self ..)
    have ih := split_none (z := r) (fun hm => h (List.mem_cons_of_mem _ hm))
    rw [splitL_cons h1, ih]; rfl
theorem split_line : ∀ {l : List UInt8} (z : List UInt8), (10 : UInt8) ∉ l → splitL (l ++ 10 :: z) = l :: splitL z
  | [], z, _ => by show (if _ then _ else _) = _; rw [if_pos rfl]
  | b :: r, z, h => by
    have h1 : b ≠ 10 := fun e => h (by rw [e]; exact List.mem_cons_self ..)
    have ih := split_line (l := r) z (fun hm => h (List.mem_cons_of_mem _ hm))
    rw [List.cons_append]
    rw [splitL_cons h1, ih]; rfl
/-- lines that are read, one behind the other -/
inductive Reads : List (List UInt8) → GV → GV → Prop
  | nil (g : GV) : Reads [] g g
  | cons {s : List UInt8} {r : List (List UInt8)} {g g1 g2 : GV} : lineStep s g = (g1, 0) → Reads r g1 g2 → Reads (s :: r) g g2
theorem Reads.go {a : List (List UInt8)} {g g' : GV} (h : Reads a g g') : ∀ (b : List (List UInt8)) (i : Nat), loadGo (a ++ b) i g = loadGo b (i + a.length) g' := by
  induction h with
  | nil g => intro b i; rfl
  | cons h1 _ ih =>
    intro b i
    rw [List.cons_append, loadGo_cons, h1]
    dsimp only
    rw [if_pos rfl, ih b (i + 1), List.length_cons]
    congr 1; omega
theorem Reads.app {a b : List (List UInt8)} {g g1 g2 : GV} (h : Reads a g g1) (k : Reads b g1 g2) : Reads (a ++ b) g g2 := by
  induction h with
  | nil g => exact k
  | cons h1 _ ih => exact .cons h1 (ih k)
theorem Reads.all {a : List (List UInt8)} {g g' : GV} (h : Reads a g g') (i : Nat) : loadGo a i g = (g', 0, 0) := by
  have := h.go [] i
  rw [List.append_nil] at this
  rw [this]; rfl
theorem step_blank {s : List UInt8} (h : blanksV s = []) (g : GV) : lineStep s g = (g, 0) := by unfold lineStep; rw [if_pos h]
theorem step_trim (s : List UInt8) (g : GV) : lineStep (blanksV s) g = lineStep s g := by unfold lineStep; rw [blanks_idem]
/-- blanks ahead, and lines of blanks, do not matter -/
theorem Reads.bare : ∀ {a : List (List UInt8)} {g g' : GV}, Reads ((a.map blanksV).filter (fun l => decide (l ≠ []))) g g' → Reads a g g'
  | [], _, _, h => h
  | s :: r, g, g', h => by
    rw [List.map_cons] at h
    by_cases hb : blanksV s = []
    · rw [List.filter_cons_of_neg (by simpa using hb)] at h
      exact .cons (step_blank hb g) (Reads.bare h)
    · rw [List.filter_cons_of_pos (by simpa using hb)] at h
      cases h with
      | cons h1 h2 => exact .cons (by rw [← step_trim]; exact h1) (Reads.bare h2)
theorem nameE_fresh {l : List (List UInt8)} {nm : List UInt8} (h : nm ∉ l) (hl : l.length < 1000) : nameE (nmap l) nm 1000 0 = 0 := by
  have h1 : mlook (nmap l) nm = none := by rw [mlook_nmap, idx_none.2 h]; rfl
  unfold nameE
  rw [nmap_len, h1, if_neg (by omega), if_neg (by simp)]
theorem nodes_read {Ln : ND → List UInt8} (hLn : ∀ (d : ND) (g : GV), ElOk d.n d.ls d.ps → lineStep (Ln d) g = (⟨g.ns ++ [d], g.es⟩, nameE (nmap (nnames g)) d.n 1000 0)) : ∀ (ns pre : List ND) (es : List ED), (∀ d ∈ ns, ElOk d.n d.ls d.ps) → ((pre ++ ns).map (·.n)).Nodup → (pre ++ ns).length ≤ 1000 → Reads (ns.map Ln) ⟨pre, es⟩ ⟨pre ++ ns, es⟩
  | [], pre, es, _, _, _ => by rw [List.append_nil]; exact .nil _
  | d :: r, pre, es, h, hn, hl => by
    have hm : d.n ∉ pre.map (·.n) := fun hm => by
      rw [List.map_append, List.map_cons, List.nodup_append] at hn
      exact hn.2.2 d.n hm d.n (List.mem_cons_self ..) rfl
    have h1 := hLn d ⟨pre, es⟩ (h d (List.mem_cons_self ..))
    have h2 : nameE (nmap (nnames ⟨pre, es⟩)) d.n 1000 0 = 0 := nameE_fresh hm (by rw [List.length_append, List.length_cons] at hl; show (pre.map (·.n)).length < _; rw [List.length_map]; omega)
    rw [h2] at h1
    refine .cons h1 ?_
    have e : pre ++ d :: r = pre ++ [d] ++ r := by simp
    rw [e] at hn hl ⊢
    exact nodes_read hLn r (pre ++ [d]) es (fun q hq => h q (List.mem_cons_of_mem _ hq)) hn hl
theorem idx_nodup : ∀ {l : List (List UInt8)} (i j : Nat), l.Nodup → j < l.length → idxF (l.getD j []) i l = some (i + j)
  | [], i, j, _, h => by simp at h
  | y :: r, i, 0, _, _ => by show (if y = y then some i else _) = some (i + 0); rw [if_pos rfl]; rfl
  | y :: r, i, j + 1, hn, h => by
    rw [List.nodup_cons] at hn
    have hj : j < r.length := by simpa using h
    have hm : r.getD j [] ∈ r := by rw [getD_at [] hj]; exact List.getElem_mem hj
    show (if y = r.getD j [] then some i else idxF (r.getD j []) (i + 1) r) = _
    rw [if_neg (fun e => hn.1 (by rw [e]; exact hm)), idx_nodup (i + 1) j hn.2 hj]
    congr 1; omega
structure EdOk (G : GV) (d : ED) : Prop where
  el : ElOk d.n d.ls d.ps
  f0 : 0 ≤ d.fr
  f1 : d.fr < G.ns.length
  t0 : 0 ≤ d.tw
  t1 : d.tw < G.ns.length
theorem edges_read {G : GV} {Ln : ED → List UInt8} (hLn : ∀ (d : ED) (es : List ED), EdOk G d → lineStep (Ln d) ⟨G.ns, es⟩ = (⟨G.ns, es ++ [d]⟩, nameE (nmap (enames ⟨G.ns, es⟩)) d.n 1000 0)) : ∀ (es pre : List ED), (∀ d ∈ es, EdOk G d) → ((pre ++ es).map (·.n)).Nodup → (pre ++ es).length ≤ 1000 → Reads (es.map Ln) ⟨G.ns, pre⟩ ⟨G.ns, pre ++ es⟩
  | [], pre, _, _, _ => by rw [List.append_nil]; exact .nil _
  | d :: r, pre, h, hn, hl => by
    have hm : d.n ∉ pre.map (·.n) := fun hm => by
      rw [List.map_append, List.map_cons, List.nodup_append] at hn
      exact hn.2.2 d.n hm d.n (List.mem_cons_self ..) rfl
    have h1 := hLn d pre (h d (List.mem_cons_self ..))
    have h2 : nameE (nmap (enames ⟨G.ns, pre⟩)) d.n 1000 0 = 0 := nameE_fresh hm (by rw [List.length_append, List.length_cons] at hl; show (pre.map (·.n)).length < _; rw [List.length_map]; omega)
    rw [h2] at h1
    refine .cons h1 ?_
    have e : pre ++ d :: r = pre ++ [d] ++ r := by simp
    rw [e] at hn hl ⊢
    exact edges_read hLn r (pre ++ [d]) (fun q hq => h q (List.mem_cons_of_mem _ hq)) hn hl
theorem dist_nodup {l : List (List UInt8)} (h : distinct l = true) : l.Nodup := by
  rw [distinct_iff] at h
  unfold List.Nodup
  rw [List.pairwise_iff_getElem]
  intro i j hi hj hij e
  have := firstAt_iff.1 (allN_iff.1 h j hj) i hij
  rw [getD_at [] hi, getD_at [] hj] at this
  exact this e
/-- what a right graph has -/
structure RG (g : GV) : Prop where
  ns : ∀ d ∈ g.ns, ElOk d.n d.ls d.ps
  nd : (g.ns.map (·.n)).Nodup
  es : ∀ d ∈ g.es, EdOk g d
  ed : (g.es.map (·.n)).Nodup
  nl : g.ns.length ≤ 1000
  el : g.es.length ≤ 1000
theorem rg_of {g : GV} (h : rightG g = 0) (hs : ∀ d ∈ g.ns, ∀ p ∈ d.ps, p.2.Ok) (he : ∀ d ∈ g.es, ∀ p ∈ d.ps, p.2.Ok) : RG g := by
  obtain ⟨h1, h2, h3⟩ := rightG_zero h
  have h4 := h3
  unfold okG at h4
  simp only [Bool.and_eq_true] at h4
  refine ⟨fun d hd => ?_, dist_nodup h4.1.1.1, fun d hd => ?_, dist_nodup h4.1.1.2, h1, h2⟩
  · obtain ⟨i, hi, rfl⟩ := List.getElem_of_mem hd
    have := okG_n h3 hi
    rw [getD_at nd0 hi] at this
    exact el_ok this (hs _ hd)
  · obtain ⟨i, hi, rfl⟩ := List.getElem_of_mem hd
    have := okG_e h3 hi
    rw [getD_at ed0 hi] at this
    obtain ⟨a, b, c⟩ := edge_ends this
    exact ⟨el_ok a (he _ hd), b.1, b.2, c.1, c.2⟩
theorem RG.at {g : GV} (h : RG g) {j : Int} (h0 : 0 ≤ j) (h1 : j < g.ns.length) : wordA (g.ns.getD j.toNat nd0).n = true ∧ idx (g.ns.getD j.toNat nd0).n (g.ns.map (·.n)) = some j.toNat := by
  have hj : j.toNat < g.ns.length := by omega
  have hj2 : j.toNat < (g.ns.map (·.n)).length := by rw [List.length_map]; exact hj
  refine ⟨by rw [getD_at nd0 hj]; exact (h.ns _ (List.getElem_mem hj)).nw, ?_⟩
  have := idx_nodup 0 j.toNat h.nd hj2
  rw [Nat.zero_add, getD_at [] hj2, List.getElem_map] at this
  rw [getD_at nd0 hj]; exact this
theorem edge_line' {G : GV} (hG : RG G) (k : Nat) {t : List UInt8} (ht : Tail t) (d : ED) (es : List ED) (h : EdOk G d) : lineStep (edgeK k G d ++ t) ⟨G.ns, es⟩ = (⟨G.ns, es ++ [d]⟩, nameE (nmap (enames ⟨G.ns, es⟩)) d.n 1000 0) := by
  obtain ⟨a1, a2⟩ := hG.at h.f0 h.f1
  obtain ⟨b1, b2⟩ := hG.at h.t0 h.t1
  exact edge_line k 0 ht h.el G ⟨G.ns, es⟩ a1 b1 a2 b2 h.f0 h.t0
theorem graph_read {g : GV} (h : RG g) (k : Nat) {t : List UInt8} (ht : Tail t) : Reads (g.ns.map (fun d => nodeK k d ++ t) ++ g.es.map (fun d => edgeK k g d ++ t)) ⟨[], []⟩ g := by
  have h1 := nodes_read (Ln := fun d => nodeK k d ++ t) (fun d g' hd => node_line k 0 ht hd g') g.ns [] [] h.ns h.nd h.nl
  have h2 := edges_read (G := g) (Ln := fun d => edgeK k g d ++ t) (fun d es hd => edge_line' h k ht d es hd) g.es [] h.es h.ed h.el
  exact h1.app h2
theorem no10_rest (k : Nat) {ls : List (List UInt8)} {ps : List Pr} (hl : ∀ l ∈ ls, wordA l = true) (hp : ∀ p ∈ ps, PrOk p) : (10 : UInt8) ∉ restK k ls ps := fun hm => by
  unfold restK at hm
  rcases List.mem_append.1 hm with h | h
  · obtain ⟨l, h1, h2⟩ := List.mem_flatMap.1 h
    unfold labK at h2
    rcases List.mem_append.1 h2 with h3 | h3
    · have := (List.mem_replicate.1 h3).2; cases this
    · rcases List.mem_cons.1 h3 with h4 | h4
      · cases h4
      · exact ((word_chars (hl l h1)).2.2 10 h4).2.2.2.2.1 rfl
  · obtain ⟨p, h1, h2⟩ := List.mem_flatMap.1 h
    obtain ⟨a, b, c⟩ := hp p h1
    unfold prK propF at h2
    rcases List.mem_append.1 h2 with h3 | h3
    · have := (List.mem_replicate.1 h3).2; cases this
    · rcases List.mem_append.1 h3 with h4 | h4
      · exact ((word_chars a).2.2 10 h4).2.2.2.2.1 rfl
      · rcases List.mem_cons.1 h4 with h5 | h5
        · cases h5
        · exact txt_no10 c h5
theorem no10_word {w : List UInt8} (h : wordA w = true) : (10 : UInt8) ∉ w := fun hm => ((word_chars h).2.2 10 hm).2.2.2.2.1 rfl
theorem no10_rep (k : Nat) : (10 : UInt8) ∉ List.replicate k 32 := fun hm => by have := (List.mem_replicate.1 hm).2; cases this
theorem no10_app {a b : List UInt8} (ha : (10 : UInt8) ∉ a) (hb : (10 : UInt8) ∉ b) : (10 : UInt8) ∉ a ++ b := fun h => (List.mem_append.1 h).elim ha hb
theorem no10_node (k : Nat) {d : ND} (h : ElOk d.n d.ls d.ps) : (10 : UInt8) ∉ nodeK k d := no10_app (by decide) (no10_app (no10_rep _) (no10_app (no10_word h.nw) (no10_rest k h.lw h.po)))
theorem no10_edge {g : GV} (hG : RG g) (k : Nat) {d : ED} (h : EdOk g d) : (10 : UInt8) ∉ edgeK k g d :=
  no10_app (by decide) (no10_app (no10_rep _) (no10_app (no10_word h.el.nw) (no10_app (no10_rep _) (no10_app (no10_word (hG.at h.f0 h.f1).1) (no10_app (no10_rep _) (no10_app (by cases d.dir <;> decide) (no10_app (no10_rep _) (no10_app (no10_word (hG.at h.t0 h.t1).1) (no10_rest k h.el.lw h.el.po)))))))))
theorem restK_zero (ls : List (List UInt8)) (ps : List Pr) : restK 0 ls ps = restV ls ps := rfl
theorem nodeL_K (d : ND) : nodeL d = nodeK 0 d ++ [10] := by rw [nodeL_ref]; unfold nodeK; rw [restK_zero]; simp [wNode]
theorem edgeL_K (g : GV) (d : ED) : edgeL g d = edgeK 0 g d ++ [10] := by rw [edgeL_ref]; unfold edgeK; rw [restK_zero]; simp [wEdge]
/-- a graph's lines -/
noncomputable def linesG (g : GV) : List (List UInt8) := g.ns.map (nodeK 0) ++ g.es.map (edgeK 0 g)
theorem printG_lines (g : GV) : printG g = (linesG g).flatMap (fun l => l ++ [10]) := by
  unfold printG linesG
  rw [List.flatMap_append, List.flatMap_map, List.flatMap_map]
  congr 1
  · exact congrArg (fun f => g.ns.flatMap f) (funext nodeL_K)
  · exact congrArg (fun f => g.es.flatMap f) (funext (edgeL_K g))
end Go.Proofs.YtjmlknjbhbfneaaGreatDoor
