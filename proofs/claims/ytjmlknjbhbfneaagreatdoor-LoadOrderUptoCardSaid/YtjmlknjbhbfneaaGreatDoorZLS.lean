/- Plain: a line by its fields. · Plain: what is read of a line, by its fields. · Plain: blanks behind a line do not matter; an edge's line by its words. · Plain: a graph's lines, with whatever blanks, are read as the graph. · Plain: what is printed is read. -/
import Derived.Test.YtjmlknjbhbfneaaGreatDoorZLE
import Derived.Test.YtjmlknjbhbfneaaGreatDoorZGC
import Derived.Sort.Walk0
namespace Go.Proofs.YtjmlknjbhbfneaaGreatDoor
open Go.RowKit Go.Bw Go.Bw.Fl
set_option linter.unusedVariables false
set_option linter.unusedSimpArgs false
/-! fields -/
def fldLen (s : List UInt8) : Nat := (s.takeWhile fun c => c != 32 && c != 61).length
/-- the length of the field that stands first; none: it is none -/
noncomputable def ff (s : List UInt8) : Option Nat :=
  if s[fldLen s]? = some 61 then match readV pf uqV (s.drop (fldLen s + 1)) with
    | none => none
    | some r => if fldLen s + 1 + r.2 < s.length ∧ s.getD (fldLen s + 1 + r.2) 0 ≠ 32 then none else some (fldLen s + 1 + r.2)
  else some (fldLen s)
noncomputable def fldsV (s : List UInt8) : Option (List (List UInt8)) :=
  if h : blanksV s = [] then some [] else match ff (blanksV s) with
    | none => none
    | some k => if hk : 0 < k then (fldsV ((blanksV s).drop k)).map ((blanksV s).take k :: ·) else none
termination_by s.length
decreasing_by
  have h1 := blanksV_le s
  have h2 := List.length_pos_iff.2 h
  rw [List.length_drop]; omega
theorem tl_drop (s : List UInt8) : blanksV s = [] ∨ ∃ c r, blanksV s = c :: r ∧ c ≠ 32 ∧ c ≠ 35 := by
  unfold blanksV
  cases h : Lib.trimLeftB s 32 with
  | nil => left; split <;> rfl
  | cons c r =>
    have hc : (c == 32) = false := by
      cases e : (c == 32) with
      | false => rfl
      | true =>
        unfold Lib.trimLeftB at h
        have h2 : List.head? (List.dropWhile (fun x => x == 32) s) = some c := by rw [h]; rfl
        have h3 := List.head?_dropWhile_not (fun x : UInt8 => x == 32) s
        rw [h2] at h3; simp at h3
        exact absurd (by simpa using e) h3
    by_cases h35 : c = 35
    · left; subst h35; rw [if_pos (by simp [Lib.hasPrefix])]
    · right
      rw [if_neg (by simp [Lib.hasPrefix]; exact fun h => h35 h.symm)]
      exact ⟨c, r, rfl, by simpa using hc, h35⟩
theorem blanks_idem (s : List UInt8) : blanksV (blanksV s) = blanksV s := by
  rcases tl_drop s with h | ⟨c, r, h, h1, h2⟩
  · rw [h]; rfl
  · rw [h]
    unfold blanksV
    have e : Lib.trimLeftB (c :: r) 32 = c :: r := by
      unfold Lib.trimLeftB
      rw [List.dropWhile_cons_of_neg (by simpa using h1)]
    rw [e, if_neg (by simp [Lib.hasPrefix]; exact fun h => h2 h.symm)]
theorem trim_cons {s : List UInt8} (ht : blanksV s = s) (hs : s ≠ []) : ∃ c r, s = c :: r ∧ c ≠ 32 ∧ c ≠ 35 := by
  rcases tl_drop s with h | ⟨c, r, h, h1, h2⟩
  · rw [ht] at h; exact absurd h hs
  · exact ⟨c, r, ht.symm.trans h, h1, h2⟩
theorem fields_nil {s : List UInt8} (h : blanksV s = []) : fldsV s = some [] := by rw [fldsV, dif_pos h]
theorem fields_blanks (s : List UInt8) : fldsV (blanksV s) = fldsV s := by
  rw [fldsV, fldsV]
  simp only [blanks_idem]
theorem fields_cons {s : List UInt8} (ht : blanksV s = s) (hs : s ≠ []) {k : Nat} (hk : ff s = some k) (h0 : 0 < k) : fldsV s = (fldsV (s.drop k)).map (s.take k :: ·) := by
  conv => lhs; rw [fldsV]
  rw [dif_neg (by rw [ht]; exact hs)]
  simp only [ht, hk, dif_pos h0]
theorem fields_none {s : List UInt8} (ht : blanksV s = s) (hs : s ≠ []) (hk : ff s = none) : fldsV s = none := by
  rw [fldsV, dif_neg (by rw [ht]; exact hs)]
  simp only [ht, hk]
/-! a word is a field -/
theorem word_chars {w : List UInt8} (h : wordA w = true) : w ≠ [] ∧ w.length ≤ 40 ∧ ∀ c ∈ w, c ≠ 32 ∧ c ≠ 61 ∧ c ≠ 58 ∧ c ≠ 35 ∧ c ≠ 10 ∧ c ≠ 39 := by
  unfold wordA wordV at h
  rw [Bool.and_eq_true, decide_eq_true_eq] at h
  obtain ⟨⟨h1, h2, _⟩, h3⟩ := h
  refine ⟨h1, h2, fun c hc => ?_⟩
  have h4 := List.all_eq_true.1 h3 c hc
  refine ⟨?_, ?_, ?_, ?_, ?_, ?_⟩ <;> (intro e; subst e; exact absurd h4 (by decide))
theorem tw_app {α : Type} {p : α → Bool} : ∀ {a b : List α}, (∀ x ∈ a, p x = true) → (∀ x, b.head? = some x → p x = false) → (a ++ b).takeWhile p = a
  | [], [], _, _ => rfl
  | [], x :: b, _, h => by rw [List.nil_append, List.takeWhile_cons, h x rfl]; rfl
  | x :: a, b, h1, h2 => by
    rw [List.cons_append, List.takeWhile_cons, h1 x (List.mem_cons_self ..), tw_app (fun y hy => h1 y (List.mem_cons_of_mem _ hy)) h2]; rfl
theorem tw_split {α : Type} (p : α → Bool) (s : List α) : ∃ b, s = s.takeWhile p ++ b ∧ (∀ x ∈ s.takeWhile p, p x = true) ∧ ∀ x, b.head? = some x → p x = false := by
  refine ⟨s.dropWhile p, List.takeWhile_append_dropWhile.symm, fun x hx => ?_, fun x hx => ?_⟩
  · have := List.all_takeWhile (p := p) (l := s)
    exact List.all_eq_true.1 this x hx
  · have := List.head?_dropWhile_not p s
    rw [hx] at this; simpa using this
theorem wd_split (s : List UInt8) : ∃ b, s = wd s ++ b ∧ (∀ x ∈ wd s, x ≠ 32) ∧ (∀ x, b.head? = some x → x = 32) ∧ wdRest s = blanksV b := by
  obtain ⟨b, h1, h2, h3⟩ := tw_split (fun c : UInt8 => c != 32) s
  refine ⟨b, h1, fun x hx => by simpa using h2 x hx, fun x hx => by simpa using h3 x hx, ?_⟩
  unfold wdRest
  congr 1
  have h4 : s.takeWhile (fun c : UInt8 => c != 32) ++ s.dropWhile (fun c : UInt8 => c != 32) = s := List.takeWhile_append_dropWhile
  exact List.append_cancel_left (h4.trans h1)
/-- a field without an = -/
theorem ff_plain {f b : List UInt8} (hf : ∀ c ∈ f, c ≠ 32 ∧ c ≠ 61) (hb : ∀ x, b.head? = some x → x = 32) : ff (f ++ b) = some f.length := by
  have hl : fldLen (f ++ b) = f.length := by
    unfold fldLen
    rw [tw_app (fun c hc => by have := hf c hc; simp [this.1, this.2]) (fun x hx => by rw [hb x hx]; rfl)]
  unfold ff
  rw [hl, if_neg]
  rw [List.getElem?_append_right (Nat.le_refl _), Nat.sub_self]
  intro h
  have h2 : b.head? = some 61 := by rw [List.head?_eq_getElem?]; exact h
  exact absurd (hb 61 h2) (by decide)
theorem ff_eq {f u : List UInt8} (hf : ∀ c ∈ f, c ≠ 32 ∧ c ≠ 61) : ff (f ++ 61 :: u) = match readV pf uqV u with | none => none | some r => if r.2 < u.length ∧ u.getD r.2 0 ≠ 32 then none else some (f.length + 1 + r.2) := by
  have hl : fldLen (f ++ 61 :: u) = f.length := by
    unfold fldLen
    rw [tw_app (fun c hc => by have := hf c hc; simp [this.1, this.2]) (fun x hx => by simp at hx; rw [← hx]; rfl)]
  have hd : (f ++ 61 :: u).drop (f.length + 1) = u := by rw [List.drop_append]; simp
  unfold ff
  rw [hl, if_pos (by rw [List.getElem?_append_right (Nat.le_refl _), Nat.sub_self]; rfl), hd]
  cases readV pf uqV u with
  | none => rfl
  | some r =>
    have h1 : (f ++ 61 :: u).getD (f.length + 1 + r.2) 0 = u.getD r.2 0 := by
      simp only [List.getD_eq_getElem?_getD]
      rw [List.getElem?_append_right (by omega), show f.length + 1 + r.2 - f.length = r.2 + 1 by omega, List.getElem?_cons_succ]
    have h2 : (f.length + 1 + r.2 < (f ++ 61 :: u).length) = (r.2 < u.length) := by
      rw [List.length_append, List.length_cons]; apply propext; omega
    simp only [h1, h2]
/-- what a field says of a property -/
noncomputable def propF1 (f : List UInt8) : Option Pr :=
  if (61 : UInt8) ∈ f ∧ wordA (cutE f).1 = true then some ((cutE f).1, ((readV pf uqV (cutE f).2).map (·.1)).getD nullV) else none
noncomputable def propsF1 : List (List UInt8) → Option (List Pr)
  | [] => some []
  | f :: r => match propF1 f, propsF1 r with | some p, some ps => some (p :: ps) | _, _ => none
noncomputable def restF : List (List UInt8) → Option (List (List UInt8) × List Pr)
  | [] => some ([], [])
  | f :: r => if Lib.hasPrefix f [58] = true then (if wordA (f.drop 1) = true then (restF r).map fun x => (f.drop 1 :: x.1, x.2) else none) else (propsF1 (f :: r)).map fun x => ([], x)
noncomputable def propsS (s : List UInt8) : Option (List Pr) := (fldsV s).bind propsF1
noncomputable def restS (s : List UInt8) : Option (List (List UInt8) × List Pr) := (fldsV s).bind restF
theorem cutE_eq {nm u : List UInt8} (h : (61 : UInt8) ∉ nm) : cutE (nm ++ 61 :: u) = (nm, u) := by
  have h1 := index_mid (a := nm) (b := u) (c := 61) h
  unfold cutE
  rw [h1, if_pos (by omega), Int.toNat_natCast, List.take_left, List.drop_append]
  simp
theorem cutE_none {s : List UInt8} (h : (61 : UInt8) ∉ s) : cutE s = (s, []) := by
  unfold cutE
  rw [if_neg]
  intro h0
  obtain ⟨o, ho⟩ : ∃ o : Nat, Lib.indexByte s 61 = (o : Int) := ⟨(Lib.indexByte s 61).toNat, by omega⟩
  exact h (List.mem_of_getElem? (Lib.indexByte_some ho).1)
theorem eq_split {s : List UInt8} (h : (61 : UInt8) ∈ s) : ∃ nm u, s = nm ++ 61 :: u ∧ (61 : UInt8) ∉ nm := by
  obtain ⟨b, h1, h2, h3⟩ := tw_split (fun c : UInt8 => c != 61) s
  cases b with
  | nil =>
    rw [List.append_nil] at h1
    rw [h1] at h
    have := h2 61 h; simp at this
  | cons c u =>
    have hc : c = 61 := by simpa using h3 c rfl
    subst hc
    exact ⟨_, u, h1, fun hm => by have := h2 61 hm; simp at this⟩
theorem readV_nil : readV pf uqV [] = none := by
  cases h : readV pf uqV [] with
  | none => rfl
  | some r => have := readV_len (n := r.2) (v := r.1) h; simp at this; omega
theorem word_bad {w : List UInt8} {c : UInt8} (hc : c ∈ w) (h : c = 32 ∨ c = 61) : wordA w = false := by
  cases e : wordA w with
  | false => rfl
  | true =>
    have h1 := (word_chars e).2.2 c hc
    rcases h with h | h
    · exact absurd h h1.1
    · exact absurd h h1.2.1
theorem prop_no {s : List UInt8} {e : Int} {n : Nat} {ok : Bool} (h : propNo (cutE s).1 (cutE s).2 n ok = true) (hr : ((readV pf uqV (cutE s).2).map (·.2)).getD 0 = n) (ho : (readV pf uqV (cutE s).2).isSome = ok) : propOf s e = (pr0, [], badE e 2) := by
  unfold propOf
  dsimp only
  rw [hr, ho, if_pos h]
/-- a property at the beginning of what is left -/
theorem prop_step {s : List UInt8} (ht : blanksV s = s) (hs : s ≠ []) :
    (∃ p r, propsS s = (propsS r).map (p :: ·) ∧ (∀ e, propOf s e = (p, r, if p.2.k = 0 then badE e 4 else e)) ∧ blanksV r = r ∧ r.length < s.length) ∨ (propsS s = none ∧ ∀ e, propOf s e = (pr0, [], badE e 2)) := by
  by_cases h61 : (61 : UInt8) ∈ s
  · obtain ⟨nm, u, hsu, hnm⟩ := eq_split h61
    have hcut : cutE s = (nm, u) := by rw [hsu]; exact cutE_eq hnm
    by_cases h32 : (32 : UInt8) ∈ nm
    · right
      have hw := word_bad h32 (.inl rfl)
      refine ⟨?_, fun e => ?_⟩
      · -- the first field has no =
        obtain ⟨b, h1, h2, h3, _⟩ := wd_split s
        have hn : ∀ c ∈ wd s, c ≠ 32 ∧ c ≠ 61 := fun c hc => ⟨h2 c hc, fun e => by
          subst e
          -- the first = stands behind a blank
          obtain ⟨x, y, hxy, hx⟩ : ∃ x y, nm = x ++ 32 :: y ∧ (32 : UInt8) ∉ x := by
            obtain ⟨b, g1, g2, g3⟩ := tw_split (fun c : UInt8 => c != 32) nm
            cases b with
            | nil => rw [List.append_nil] at g1; rw [g1] at h32; have := g2 32 h32; simp at this
            | cons c y =>
              have hc : c = 32 := by simpa using g3 c rfl
              subst hc
              exact ⟨_, y, g1, fun hm => by have := g2 32 hm; simp at this⟩
          have hwd : wd s = x := by
            rw [hsu, hxy]; unfold wd
            rw [List.append_assoc, List.cons_append]
            exact tw_app (fun c hc => by simp; intro e; subst e; exact hx hc) (fun z hz => by simp at hz; rw [← hz]; rfl)
          rw [hwd] at hc
          exact hnm (by rw [hxy]; exact List.mem_append_left _ hc)⟩
        have hff : ff s = some (wd s).length := by rw [h1] ; have := ff_plain hn h3; rw [← h1] at this ⊢; exact this
        have h0 : 0 < (wd s).length := by
          obtain ⟨c, r, hc, hc2, _⟩ := trim_cons ht hs
          rw [hc]; unfold wd
          rw [List.takeWhile_cons]; simp [hc2]
        unfold propsS
        rw [fields_cons ht hs hff h0]
        have hp : propF1 (s.take (wd s).length) = none := by
          rw [take_wd]; unfold propF1
          rw [if_neg]; rintro ⟨a, _⟩; exact (hn 61 a).2 rfl
        cases fldsV (s.drop (wd s).length) with
        | none => rfl
        | some l => show propsF1 (_ :: l) = none; unfold propsF1; rw [hp]
      · exact prop_no (by rw [hcut]; unfold propNo; rw [hw]; rfl) rfl rfl
    · have hf : ∀ c ∈ nm, c ≠ 32 ∧ c ≠ 61 := fun c hc => ⟨fun e => h32 (e ▸ hc), fun e => hnm (e ▸ hc)⟩
      have hff : ff s = _ := (congrArg ff hsu).trans (ff_eq hf)
      cases hr : readV pf uqV u with
      | none =>
        right
        rw [hr] at hff
        refine ⟨by unfold propsS; rw [fields_none ht hs hff]; rfl, fun e => prop_no (n := 0) (ok := false) (by rw [hcut]; unfold propNo; simp) (by rw [hcut]; show ((readV pf uqV u).map (·.2)).getD 0 = 0; rw [hr]; rfl) (by rw [hcut]; show (readV pf uqV u).isSome = false; rw [hr]; rfl)⟩
      | some r =>
        obtain ⟨v, m⟩ := r
        rw [hr] at hff
        have hml := (readV_len hr)
        by_cases hg : m < u.length ∧ u.getD m 0 ≠ 32
        · right
          have hff2 : ff s = none := by rw [hff]; exact if_pos hg
          refine ⟨by unfold propsS; rw [fields_none ht hs hff2]; rfl, fun e => prop_no (n := m) (ok := true) (by rw [hcut]; unfold propNo; simp only [decide_eq_true hg.1, decide_eq_true hg.2]; simp) (by rw [hcut]; show ((readV pf uqV u).map (·.2)).getD 0 = m; rw [hr]; rfl) (by rw [hcut]; show (readV pf uqV u).isSome = true; rw [hr]; rfl)⟩
        · have hff2 : ff s = some (nm.length + 1 + m) := by rw [hff]; exact if_neg hg
          have htk : s.take (nm.length + 1 + m) = nm ++ 61 :: u.take m := by
            rw [hsu, List.take_append, List.take_of_length_le (by omega)]
            congr 1
            rw [show nm.length + 1 + m - nm.length = m + 1 by omega, List.take_succ_cons]
          have hdr : s.drop (nm.length + 1 + m) = u.drop m := by
            rw [hsu, List.drop_append, List.drop_of_length_le (by omega), List.nil_append, show nm.length + 1 + m - nm.length = m + 1 by omega, List.drop_succ_cons]
          have hfc := fields_cons ht hs hff2 (by omega)
          rw [htk, hdr] at hfc
          by_cases hw : wordA nm = true
          · left
            have hp1 : propF1 (nm ++ 61 :: u.take m) = some (nm, v) := by
              unfold propF1
              rw [cutE_eq hnm, if_pos ⟨by simp, hw⟩, readV_take hr (Nat.le_refl _)]; rfl
            refine ⟨(nm, v), blanksV (u.drop m), ?_, fun e => ?_, blanks_idem _, ?_⟩
            · unfold propsS
              rw [hfc, fields_blanks]
              cases fldsV (u.drop m) with
              | none => rfl
              | some l =>
                show propsF1 (_ :: l) = (propsF1 l).map _
                conv => lhs; unfold propsF1
                rw [hp1]
                cases propsF1 l <;> rfl
            · unfold propOf
              dsimp only
              rw [hcut]
              dsimp only
              rw [hr]
              have hno : ¬ propNo nm u m true = true := by
                unfold propNo; rw [hw]
                simp only [Bool.not_true, Bool.false_or, Bool.and_eq_true, decide_eq_true_eq]
                exact hg
              exact if_neg hno
            · have h1 := blanksV_le (u.drop m)
              rw [List.length_drop] at h1
              rw [hsu, List.length_append, List.length_cons]; omega
          · right
            have hw' : wordA nm = false := by simpa using hw
            refine ⟨?_, fun e => prop_no (n := m) (ok := true) (by rw [hcut]; unfold propNo; rw [hw']; rfl) (by rw [hcut]; show ((readV pf uqV u).map (·.2)).getD 0 = m; rw [hr]; rfl) (by rw [hcut]; show (readV pf uqV u).isSome = true; rw [hr]; rfl)⟩
            unfold propsS
            rw [hfc]
            cases fldsV (u.drop m) with
            | none => rfl
            | some l =>
              show propsF1 (_ :: l) = none
              unfold propsF1
              have : propF1 (nm ++ 61 :: u.take m) = none := by
                unfold propF1
                rw [cutE_eq hnm, if_neg]; rintro ⟨_, h⟩; exact hw h
              rw [this]
  · right
    have hcut := cutE_none h61
    have hn : ∀ c ∈ wd s, c ≠ 32 ∧ c ≠ 61 := fun c hc => ⟨(by obtain ⟨b, h1, h2, _⟩ := wd_split s; exact h2 c hc), fun e => h61 (by
      obtain ⟨b, h1, _⟩ := wd_split s
      rw [h1]; exact List.mem_append_left _ (e ▸ hc))⟩
    obtain ⟨b, h1, h2, h3, _⟩ := wd_split s
    have hff : ff s = some (wd s).length := by have := ff_plain hn h3; rw [← h1] at this; exact this
    have h0 : 0 < (wd s).length := by
      obtain ⟨c, r, hc, hc2, _⟩ := trim_cons ht hs
      rw [hc]; unfold wd
      rw [List.takeWhile_cons]; simp [hc2]
    refine ⟨?_, fun e => prop_no (n := 0) (ok := false) (by rw [hcut]; unfold propNo; simp) (by rw [hcut]; show ((readV pf uqV []).map (·.2)).getD 0 = 0; rw [readV_nil]; rfl) (by rw [hcut]; show (readV pf uqV []).isSome = false; rw [readV_nil]; rfl)⟩
    unfold propsS
    rw [fields_cons ht hs hff h0, take_wd]
    have hp : propF1 (wd s) = none := by
      unfold propF1
      rw [if_neg]; rintro ⟨a, _⟩; exact (hn 61 a).2 rfl
    cases fldsV (s.drop (wd s).length) with
    | none => rfl
    | some l => show propsF1 (_ :: l) = none; unfold propsF1; rw [hp]
end Go.Proofs.YtjmlknjbhbfneaaGreatDoor
namespace Go.Proofs.YtjmlknjbhbfneaaGreatDoor
open Go.RowKit Go.Bw Go.Bw.Fl
set_option linter.unusedVariables false
set_option linter.unusedSimpArgs false
def foundP (o : List Pr) (nm : List UInt8) : Bool := decide (lbP o nm < o.length) && decide ((o.getD (lbP o nm) pr0).1 = nm)
def insAll : List Pr → List Pr → List Pr
  | o, [] => o
  | o, p :: r => insAll (insP o (lbP o p.1) p) r
def nullE (p : Pr) (e : Int) : Int := if p.2.k = 0 then badE e 4 else e
def eP : List Pr → List Pr → Int → Int
  | _, [], e => e
  | o, p :: r, e => eP (insP o (lbP o p.1) p) r (if foundP o p.1 = true then badE (nullE p e) 3 else nullE p e)
def eL : List (List UInt8) → List (List UInt8) → Int → Int
  | _, [], e => e
  | o, w :: r, e => eL (o ++ [w]) r (if w ∈ o then badE e 3 else e)
theorem propsGo_cons (m : Nat) (o : List Pr) {s : List UInt8} (hs : s ≠ []) (e : Int) : propsGo (m + 1) o s e = propsGo m (insP o (lbP o (propOf s e).1.1) (propOf s e).1) (propOf s e).2.1 (if foundP o (propOf s e).1.1 = true then badE (propOf s e).2.2 3 else (propOf s e).2.2) := by
  show (if _ then _ else _) = _; rw [if_neg hs]; rfl
theorem propsGo_ok : ∀ (n : Nat) (s : List UInt8) (ps : List Pr), s.length ≤ n → blanksV s = s → propsS s = some ps → ∀ (m : Nat) (o : List Pr) (e : Int), s.length ≤ m → propsGo m o s e = (insAll o ps, eP o ps e)
  | n, s, ps, hn, ht, hps, m, o, e, hm => by
    by_cases hs : s = []
    · subst hs
      rw [propsGo_nil]
      have : propsS [] = some [] := by unfold propsS; rw [fields_nil rfl]; rfl
      rw [this] at hps; cases hps; rfl
    · have h0 := List.length_pos_iff.2 hs
      obtain ⟨m, rfl⟩ : ∃ k, m = k + 1 := ⟨m - 1, by omega⟩
      obtain ⟨n, rfl⟩ : ∃ k, n = k + 1 := ⟨n - 1, by omega⟩
      rcases prop_step ht hs with ⟨p, r, h1, h2, h3, h4⟩ | ⟨h1, _⟩
      · rw [h1] at hps
        obtain ⟨ps', h5, rfl⟩ := Option.map_eq_some_iff.1 hps
        rw [propsGo_cons m o hs, h2]
        rw [propsGo_ok n r ps' (by omega) h3 h5 m _ _ (by omega)]
        rfl
      · rw [h1] at hps; cases hps
theorem propsOf_ok {s : List UInt8} {ps : List Pr} (ht : blanksV s = s) (h : propsS s = some ps) (e : Int) : propsOf s e = (insAll [] ps, eP [] ps e) := propsGo_ok _ s ps (Nat.le_refl _) ht h _ [] e (Nat.le_refl _)
/-! labels -/
theorem no_lab {s : List UInt8} (ht : blanksV s = s) (hc : Lib.hasPrefix s [58] = false) : restS s = (propsS s).map fun x => ([], x) := by
  unfold restS propsS
  by_cases hs : s = []
  · subst hs; rw [fields_nil rfl]; rfl
  · cases hk : ff s with
    | none => rw [fields_none ht hs hk]; rfl
    | some k =>
      by_cases h0 : 0 < k
      · rw [fields_cons ht hs hk h0]
        have h1 : Lib.hasPrefix (s.take k) [58] = false := pre_take_f k hc
        cases fldsV (s.drop k) with
        | none => rfl
        | some l =>
          show restF (_ :: l) = _
          unfold restF
          rw [if_neg (by rw [h1]; simp)]; rfl
      · conv => lhs; rw [fldsV]
        conv => rhs; rw [fldsV]
        rw [dif_neg (by rw [ht]; exact hs)]
        simp only [ht, hk, dif_neg h0]; rfl
theorem lab_step {s : List UInt8} (ht : blanksV s = s) (hc : Lib.hasPrefix s [58] = true) :
    (wordA (wd (s.drop 1)) = true ∧ restS s = (restS (wdRest (s.drop 1))).map fun x => (wd (s.drop 1) :: x.1, x.2)) ∨ (wordA (wd (s.drop 1)) = false ∧ restS s = none) := by
  obtain ⟨t, rfl⟩ := (pre_one s 58).1 hc
  have hs : (58 :: t : List UInt8) ≠ [] := by simp
  show (wordA (wd t) = true ∧ restS _ = (restS (wdRest t)).map _) ∨ (wordA (wd t) = false ∧ _)
  obtain ⟨b, h1, h2, h3, h4⟩ := wd_split t
  by_cases h61 : (61 : UInt8) ∈ wd t
  · right
    refine ⟨word_bad h61 (.inr rfl), ?_⟩
    obtain ⟨x, y, hxy, hx⟩ := eq_split h61
    have hf : ∀ c ∈ (58 :: x : List UInt8), c ≠ 32 ∧ c ≠ 61 := fun c hc => by
      rcases List.mem_cons.1 hc with rfl | hc
      · exact ⟨by decide, by decide⟩
      · exact ⟨h2 c (by rw [hxy]; exact List.mem_append_left _ hc), fun e => hx (e ▸ hc)⟩
    have he : (58 :: t : List UInt8) = (58 :: x) ++ 61 :: (y ++ b) := by
      conv => lhs; rw [h1, hxy]
      simp
    have hff := (congrArg ff he).trans (ff_eq hf)
    unfold restS
    cases hk : ff (58 :: t) with
    | none => rw [fields_none ht hs hk]; rfl
    | some k =>
      have hkl : (58 :: x : List UInt8).length + 1 ≤ k := by
        rw [hk] at hff
        cases hr : readV pf uqV (y ++ b) with
        | none => rw [hr] at hff; cases hff
        | some r =>
          rw [hr] at hff
          dsimp only at hff
          split at hff
          · cases hff
          · cases hff; omega
      rw [fields_cons ht hs hk (by omega)]
      have hm : (61 : UInt8) ∈ ((58 :: t : List UInt8).take k).drop 1 := by
        rw [he, List.take_append, List.take_of_length_le (by omega)]
        obtain ⟨j, hj⟩ : ∃ j, k - (58 :: x : List UInt8).length = j + 1 := ⟨k - (58 :: x : List UInt8).length - 1, by omega⟩
        rw [hj]; simp
      have hp : Lib.hasPrefix ((58 :: t : List UInt8).take k) [58] = true := by
        rw [he, List.take_append, List.take_of_length_le (by omega)]; simp [Lib.hasPrefix]
      cases fldsV ((58 :: t : List UInt8).drop k) with
      | none => rfl
      | some l =>
        show restF (_ :: l) = none
        unfold restF
        rw [if_pos hp, if_neg (by rw [word_bad hm (.inr rfl)]; simp)]
  · have hf : ∀ c ∈ (58 :: wd t : List UInt8), c ≠ 32 ∧ c ≠ 61 := fun c hc => by
      rcases List.mem_cons.1 hc with rfl | hc
      · exact ⟨by decide, by decide⟩
      · exact ⟨h2 c hc, fun e => h61 (e ▸ hc)⟩
    have he : (58 :: t : List UInt8) = (58 :: wd t) ++ b := by
      conv => lhs; rw [h1]
      rfl
    have hff : ff (58 :: t) = some (58 :: wd t : List UInt8).length := (congrArg ff he).trans (ff_plain hf h3)
    have htk : (58 :: t : List UInt8).take (58 :: wd t : List UInt8).length = 58 :: wd t := by
      conv => lhs; rw [he]
      exact List.take_left
    have hdr : (58 :: t : List UInt8).drop (58 :: wd t : List UInt8).length = b := by
      conv => lhs; rw [he]
      exact List.drop_left
    have hfc := fields_cons ht hs hff (by simp)
    rw [htk, hdr, ← fields_blanks b, ← h4] at hfc
    by_cases hw : wordA (wd t) = true
    · left
      refine ⟨hw, ?_⟩
      unfold restS
      rw [hfc]
      cases fldsV (wdRest t) with
      | none => rfl
      | some l =>
        show restF (_ :: l) = (restF l).map _
        conv => lhs; unfold restF
        rw [if_pos (by simp [Lib.hasPrefix]), if_pos (show wordA ((58 :: wd t : List UInt8).drop 1) = true from hw)]; rfl
    · right
      refine ⟨by simpa using hw, ?_⟩
      unfold restS
      rw [hfc]
      cases fldsV (wdRest t) with
      | none => rfl
      | some l =>
        show restF (_ :: l) = none
        unfold restF
        rw [if_pos (by simp [Lib.hasPrefix]), if_neg (show ¬ wordA ((58 :: wd t : List UInt8).drop 1) = true from hw)]
theorem labelsGo_cons (m : Nat) (o : List (List UInt8)) {s : List UInt8} (hc : Lib.hasPrefix s [58] = true) (e : Int) : labelsGo (m + 1) o s e = labelsGo m (o ++ [wd (s.drop 1)]) (wdRest (s.drop 1)) (if wd (s.drop 1) ∈ o then badE (wdE (s.drop 1) e) 3 else wdE (s.drop 1) e) := by
  show (if _ then _ else _) = _; rw [if_pos hc]
theorem wdRest_trim (s : List UInt8) : blanksV (wdRest s) = wdRest s := by unfold wdRest; exact blanks_idem _
theorem labelsGo_ok : ∀ (n : Nat) (s : List UInt8) (ls : List (List UInt8)) (ps : List Pr), s.length ≤ n → blanksV s = s → restS s = some (ls, ps) → ∀ (m : Nat) (o : List (List UInt8)) (e : Int), s.length ≤ m → ∃ s', labelsGo m o s e = (o ++ ls, s', eL o ls e) ∧ propsS s' = some ps ∧ blanksV s' = s'
  | n, s, ls, ps, hn, ht, hr, m, o, e, hm => by
    cases hc : Lib.hasPrefix s [58] with
    | false =>
      rw [no_lab ht hc] at hr
      obtain ⟨q, h1, h2⟩ := Option.map_eq_some_iff.1 hr
      cases h2
      exact ⟨s, by rw [labelsGo_no hc, List.append_nil]; rfl, h1, ht⟩
    | true =>
      have h0 := colon_cons hc
      obtain ⟨m, rfl⟩ : ∃ k, m = k + 1 := ⟨m - 1, by omega⟩
      obtain ⟨n, rfl⟩ : ∃ k, n = k + 1 := ⟨n - 1, by omega⟩
      have h1 := wdRest_le (s.drop 1)
      have h2 : (s.drop 1).length = s.length - 1 := List.length_drop
      rcases lab_step ht hc with ⟨hw, h3⟩ | ⟨_, h3⟩
      · rw [h3] at hr
        obtain ⟨⟨ls', ps'⟩, h4, h5⟩ := Option.map_eq_some_iff.1 hr
        cases h5
        have hwe : wdE (s.drop 1) e = e := by unfold wdE; rw [if_pos hw]
        obtain ⟨s', h6, h7⟩ := labelsGo_ok n (wdRest (s.drop 1)) ls' ps' (by omega) (wdRest_trim _) h4 m (o ++ [wd (s.drop 1)]) (if wd (s.drop 1) ∈ o then badE e 3 else e) (by omega)
        refine ⟨s', ?_, h7⟩
        rw [labelsGo_cons m o hc, hwe, h6]
        simp [eL]
      · rw [h3] at hr; cases hr
/-- labels and properties -/
theorem rest_ok {s : List UInt8} {ls : List (List UInt8)} {ps : List Pr} (ht : blanksV s = s) (h : restS s = some (ls, ps)) (e : Int) : (labelsOf s e).1 = ls ∧ propsOf (labelsOf s e).2.1 (labelsOf s e).2.2 = (insAll [] ps, eP [] ps (eL [] ls e)) := by
  obtain ⟨s', h1, h2, h3⟩ := labelsGo_ok _ s ls ps (Nat.le_refl _) ht h s.length [] e (Nat.le_refl _)
  unfold labelsOf
  rw [h1]
  exact ⟨rfl, propsOf_ok h3 h2 _⟩
theorem node_ok {s : List UInt8} {ls : List (List UInt8)} {ps : List Pr} (g : GV) (hw : wordA (wd s) = true) (h : restS (wdRest s) = some (ls, ps)) :
    nodeStep s 0 g = (⟨g.ns ++ [⟨wd s, sortS ls, insAll [] ps⟩], g.es⟩, nameE (nmap (nnames g)) (wd s) 1000 (eP [] ps (eL [] ls 0))) := by
  have hwe : wdE s 0 = 0 := by unfold wdE; rw [if_pos hw]
  obtain ⟨h1, h2⟩ := rest_ok (wdRest_trim s) h 0
  unfold nodeStep
  dsimp only
  rw [hwe, h1, h2]
end Go.Proofs.YtjmlknjbhbfneaaGreatDoor
namespace Go.Proofs.YtjmlknjbhbfneaaGreatDoor
open Go.RowKit Go.Bw Go.Bw.Fl
set_option linter.unusedVariables false
set_option linter.unusedSimpArgs false
theorem pre35 (c : UInt8) (l : List UInt8) : Lib.hasPrefix (c :: l) [35] = decide (c = 35) := by
  rw [Bool.eq_iff_iff, decide_eq_true_eq, pre_one]
  exact ⟨fun ⟨r, h⟩ => by injection h, fun h => ⟨l, by rw [h]⟩⟩
theorem rest_eq {x y : List UInt8} (h : fldsV x = fldsV y) : restS x = restS y := by unfold restS; rw [h]
/-! an arrow -/
end Go.Proofs.YtjmlknjbhbfneaaGreatDoor
namespace Go.Proofs.YtjmlknjbhbfneaaGreatDoor
open Go.RowKit Go.Bw Go.Bw.Fl
set_option linter.unusedVariables false
set_option linter.unusedSimpArgs false
/-! order -/
theorem le_of_less {x y : List UInt8} (h : Op.bytesLess x y = true) : decide (x ≤ y) = true := by
  rw [decide_eq_true_eq]
  show ¬ y < x
  intro h2
  have h3 : Op.bytesLess y x = true := by rw [bytesLess_eq]; exact decide_eq_true h2
  have := bl_trans _ _ _ h h3
  rw [bl_irr] at this; cases this
theorem rise_pair {l : List (List UInt8)} (h : risingV l = true) : l.Pairwise (fun x y => Op.bytesLess x y = true) := by
  have key : ∀ j i, i < j → j < l.length → Op.bytesLess (l.getD i []) (l.getD j []) = true := by
    intro j
    induction j with
    | zero => intro i hi; omega
    | succ j ih =>
      intro i hi hj
      have h1 := allN_iff.1 h (j + 1) hj
      unfold riseAt at h1
      have h2 : Op.bytesLess (l.getD j []) (l.getD (j + 1) []) = true := by simpa using (Bool.and_eq_true _ _ ▸ h1).2
      by_cases e : i = j
      · subst e; exact h2
      · exact bl_trans _ _ _ (ih i (by omega) (by omega)) h2
  rw [List.pairwise_iff_getElem]
  intro i j hi hj hij
  have := key j i hij hj
  rwa [getD_at [] hi, getD_at [] hj] at this
theorem rise_word {l : List (List UInt8)} (h : risingV l = true) : ∀ w ∈ l, wordA w = true := fun w hw => by
  obtain ⟨i, hi, rfl⟩ := List.getElem_of_mem hw
  have h1 := allN_iff.1 h i hi
  unfold riseAt at h1
  rw [Bool.and_eq_true, getD_at [] hi] at h1
  exact h1.1
theorem less_ne {x y : List UInt8} (h : Op.bytesLess x y = true) : x ≠ y := fun e => by rw [e, bl_irr] at h; cases h
theorem eL_ok : ∀ (ls o : List (List UInt8)) (e : Int), (∀ x ∈ o, ∀ y ∈ ls, x ≠ y) → ls.Pairwise (· ≠ ·) → eL o ls e = e
  | [], _, _, _, _ => rfl
  | w :: r, o, e, h1, h2 => by
    rw [List.pairwise_cons] at h2
    have hn : w ∉ o := fun hm => h1 w hm w (List.mem_cons_self ..) rfl
    unfold eL
    rw [if_neg hn]
    refine eL_ok r _ e (fun x hx y hy => ?_) h2.2
    rcases List.mem_append.1 hx with h | h
    · exact h1 x h y (List.mem_cons_of_mem _ hy)
    · simp at h; subst h; exact h2.1 y hy
/-! fields of a text -/
theorem blanks_rep (x : List UInt8) : ∀ k, blanksV (List.replicate k 32 ++ x) = blanksV x
  | 0 => rfl
  | k + 1 => by
    have ih := blanks_rep x k
    rw [List.replicate_succ, List.cons_append]
    unfold blanksV at ih ⊢
    have : Lib.trimLeftB (32 :: (List.replicate k 32 ++ x)) 32 = Lib.trimLeftB (List.replicate k 32 ++ x) 32 := by
      unfold Lib.trimLeftB; rw [List.dropWhile_cons_of_pos (by simp)]
    rw [this]; exact ih
theorem blanks_good {s : List UInt8} (h : ∃ c r, s = c :: r ∧ c ≠ 32 ∧ c ≠ 35) : blanksV s = s := by
  obtain ⟨c, r, rfl, h1, h2⟩ := h
  unfold blanksV
  have e : Lib.trimLeftB (c :: r) 32 = c :: r := by unfold Lib.trimLeftB; rw [List.dropWhile_cons_of_neg (by simpa using h1)]
  rw [e, pre35, if_neg (by simpa using h2)]
/-- ends, or a blank -/
def St (t : List UInt8) : Prop := ∀ x, t.head? = some x → x = 32
theorem St.nil : St [] := fun x h => by cases h
theorem St.rep (k : Nat) (x : List UInt8) : St (List.replicate (k + 1) 32 ++ x) := fun y h => by
  rw [List.replicate_succ, List.cons_append] at h; simp at h; exact h.symm
theorem fld_cons {f t : List UInt8} (h0 : ∃ c r, f = c :: r ∧ c ≠ 32 ∧ c ≠ 35) (hff : ff (f ++ t) = some f.length) (k : Nat) : fldsV (List.replicate k 32 ++ (f ++ t)) = (fldsV t).map (f :: ·) := by
  have hg : ∃ c r, f ++ t = c :: r ∧ c ≠ 32 ∧ c ≠ 35 := by obtain ⟨c, r, rfl, h1, h2⟩ := h0; exact ⟨c, r ++ t, rfl, h1, h2⟩
  have hb := blanks_good hg
  have hne : f ++ t ≠ [] := by obtain ⟨c, r, h, _⟩ := hg; rw [h]; simp
  rw [← fields_blanks, blanks_rep, hb, fields_cons hb hne hff (by obtain ⟨c, r, h, _⟩ := h0; rw [h]; simp)]
  rw [List.take_left, List.drop_left]
def labK (k : Nat) (l : List UInt8) : List UInt8 := List.replicate (k + 1) 32 ++ 58 :: l
noncomputable def prK (k : Nat) (p : Pr) : List UInt8 := List.replicate (k + 1) 32 ++ propF p
noncomputable def restK (k : Nat) (ls : List (List UInt8)) (ps : List Pr) : List UInt8 := ls.flatMap (labK k) ++ ps.flatMap (prK k)
/-- a right property -/
def PrOk (p : Pr) : Prop := wordA p.1 = true ∧ p.2.Ok ∧ rightV p.2 = true
theorem st_rest (k : Nat) (ls : List (List UInt8)) (ps : List Pr) {t : List UInt8} (ht : St t) : St (restK k ls ps ++ t) := by
  unfold restK
  cases ls with
  | cons l r => rw [List.flatMap_cons, List.append_assoc, List.append_assoc]; unfold labK; rw [List.append_assoc]; exact St.rep k _
  | nil =>
    cases ps with
    | cons p r => rw [List.flatMap_nil, List.nil_append, List.flatMap_cons, List.append_assoc]; unfold prK; rw [List.append_assoc]; exact St.rep k _
    | nil => exact ht
theorem read_at {v : Val} (o : v.Ok) (h : rightV v = true) {t : List UInt8} (ht : St t) : readV pf uqV (textQ v ++ t) = some (v, (textQ v).length) := by
  cases t with
  | nil => rw [List.append_nil]; exact read_text o h
  | cons c r => rw [ht c rfl]; exact readV_more r stop32 (read_text o h)
theorem fields_props (k : Nat) : ∀ (ps : List Pr) (t : List UInt8), (∀ p ∈ ps, PrOk p) → St t → fldsV (ps.flatMap (prK k) ++ t) = (fldsV t).map fun l => ps.map propF ++ l
  | [], t, _, _ => by rw [List.flatMap_nil, List.nil_append]; cases fldsV t <;> rfl
  | p :: r, t, h, ht => by
    obtain ⟨hw, ho, hr⟩ := h p (List.mem_cons_self ..)
    obtain ⟨hne, _, hch⟩ := word_chars hw
    have hst : St (r.flatMap (prK k) ++ t) := by have := st_rest k [] r ht; unfold restK at this; simpa using this
    have hff : ff (propF p ++ (r.flatMap (prK k) ++ t)) = some (propF p).length := by
      have e : propF p ++ (r.flatMap (prK k) ++ t) = p.1 ++ 61 :: (textQ p.2 ++ (r.flatMap (prK k) ++ t)) := by unfold propF; simp
      have hrd := read_at ho hr hst
      rw [e, ff_eq (fun c hc => ⟨(hch c hc).1, (hch c hc).2.1⟩), hrd]
      dsimp only
      rw [if_neg]
      · unfold propF; simp; omega
      · rintro ⟨h1, h2⟩
        apply h2
        simp only [List.getD_eq_getElem?_getD]
        rw [List.getElem?_append_right (Nat.le_refl _), Nat.sub_self]
        rw [List.length_append] at h1
        cases hx : r.flatMap (prK k) ++ t with
        | nil => rw [hx] at h1; simp at h1
        | cons c q => rw [hx] at hst; rw [hst c rfl]; rfl
    have h0 : ∃ c q, propF p = c :: q ∧ c ≠ 32 ∧ c ≠ 35 := by
      unfold propF
      cases hp : p.1 with
      | nil => exact absurd hp hne
      | cons c q => exact ⟨c, q ++ 61 :: textQ p.2, rfl, (hch c (by rw [hp]; exact List.mem_cons_self ..)).1, (hch c (by rw [hp]; exact List.mem_cons_self ..)).2.2.2.1⟩
    have e2 : prK k p = List.replicate (k + 1) 32 ++ propF p := rfl
    rw [List.flatMap_cons, List.append_assoc, e2, List.append_assoc, fld_cons h0 hff (k + 1), fields_props k r t (fun q hq => h q (List.mem_cons_of_mem _ hq)) ht]
    cases fldsV t <;> rfl
theorem fields_rest (k : Nat) (ps : List Pr) (t : List UInt8) (hp : ∀ p ∈ ps, PrOk p) (ht : St t) : ∀ (ls : List (List UInt8)), (∀ l ∈ ls, wordA l = true) → fldsV (restK k ls ps ++ t) = (fldsV t).map fun l => fieldsV ls ps ++ l
  | [], _ => by
    have := fields_props k ps t hp ht
    unfold restK
    rw [List.flatMap_nil, List.nil_append, this]; rfl
  | l :: r, h => by
    obtain ⟨hne, _, hch⟩ := word_chars (h l (List.mem_cons_self ..))
    have ih := fields_rest k ps t hp ht r (fun q hq => h q (List.mem_cons_of_mem _ hq))
    have hst := st_rest k r ps ht
    have hff : ff ((58 :: l) ++ (restK k r ps ++ t)) = some (58 :: l : List UInt8).length := ff_plain (fun c hc => by
      rcases List.mem_cons.1 hc with rfl | hc
      · exact ⟨by decide, by decide⟩
      · exact ⟨(hch c hc).1, (hch c hc).2.1⟩) hst
    have e : restK k (l :: r) ps ++ t = List.replicate (k + 1) 32 ++ ((58 :: l) ++ (restK k r ps ++ t)) := by unfold restK labK; simp
    rw [e, fld_cons ⟨58, l, rfl, by decide, by decide⟩ hff, ih]
    cases fldsV t <;> rfl
theorem propF1_ok {p : Pr} (h : PrOk p) : propF1 (propF p) = some p := by
  obtain ⟨hw, ho, hr⟩ := h
  have hn : (61 : UInt8) ∉ p.1 := fun hm => ((word_chars hw).2.2 61 hm).2.1 rfl
  unfold propF1 propF
  rw [cutE_eq hn, if_pos ⟨by simp, hw⟩, read_text ho hr]; rfl
theorem propsF1_ok : ∀ {ps : List Pr}, (∀ p ∈ ps, PrOk p) → propsF1 (ps.map propF) = some ps
  | [], _ => rfl
  | p :: r, h => by
    rw [List.map_cons]
    unfold propsF1
    rw [propF1_ok (h p (List.mem_cons_self ..)), propsF1_ok (fun q hq => h q (List.mem_cons_of_mem _ hq))]
theorem restF_ok {ps : List Pr} (hp : ∀ p ∈ ps, PrOk p) : ∀ {ls : List (List UInt8)}, (∀ l ∈ ls, wordA l = true) → restF (fieldsV ls ps) = some (ls, ps)
  | [], _ => by
    have h1 := propsF1_ok hp
    unfold fieldsV
    rw [List.map_nil, List.nil_append]
    cases ps with
    | nil => rfl
    | cons p r =>
      rw [List.map_cons] at h1 ⊢
      have hc : Lib.hasPrefix (propF p) [58] = false := by
        obtain ⟨hne, _, hch⟩ := word_chars (hp p (List.mem_cons_self ..)).1
        cases e : Lib.hasPrefix (propF p) [58] with
        | false => rfl
        | true =>
          obtain ⟨q, hq⟩ := (pre_one _ _).1 e
          unfold propF at hq
          cases hp1 : p.1 with
          | nil => exact absurd hp1 hne
          | cons c z =>
            rw [hp1] at hq
            injection hq with h2 _
            exact absurd h2 (hch c (by rw [hp1]; exact List.mem_cons_self ..)).2.2.1
      unfold restF
      rw [if_neg (by rw [hc]; simp), h1]; rfl
  | l :: r, h => by
    have ih := restF_ok hp (fun q hq => h q (List.mem_cons_of_mem _ hq)) (ls := r)
    have e : fieldsV (l :: r) ps = (58 :: l) :: fieldsV r ps := rfl
    rw [e]
    unfold restF
    rw [if_pos (by simp [Lib.hasPrefix]), if_pos (show wordA ((58 :: l : List UInt8).drop 1) = true from h l (List.mem_cons_self ..)), ih]; rfl
/-- what stands behind the last field -/
def Tail (t : List UInt8) : Prop := St t ∧ fldsV t = some []
theorem Tail.nil : Tail [] := ⟨St.nil, fields_nil rfl⟩
theorem rest_line {k : Nat} {ls : List (List UInt8)} {ps : List Pr} {t : List UInt8} (hl : ∀ l ∈ ls, wordA l = true) (hp : ∀ p ∈ ps, PrOk p) (ht : Tail t) : restS (restK k ls ps ++ t) = some (ls, ps) := by
  unfold restS
  rw [fields_rest k ps t hp ht.1 ls hl, ht.2]
  show restF (fieldsV ls ps ++ []) = _
  rw [List.append_nil, restF_ok hp hl]
theorem wd_word {w t : List UInt8} (hw : ∀ c ∈ w, c ≠ 32) (ht : St t) : wd (w ++ t) = w ∧ wdRest (w ++ t) = blanksV t := by
  have h1 : wd (w ++ t) = w := tw_app (fun c hc => by simpa using hw c hc) (fun x hx => by rw [ht x hx]; rfl)
  refine ⟨h1, ?_⟩
  obtain ⟨b, h2, _, _, h3⟩ := wd_split (w ++ t)
  rw [h1] at h2
  rw [h3, ← List.append_cancel_left h2]
theorem word_go {w t : List UInt8} (hw : wordA w = true) (k : Nat) : blanksV (List.replicate k 32 ++ (w ++ t)) = w ++ t := by
  obtain ⟨hne, _, hch⟩ := word_chars hw
  rw [blanks_rep]
  cases w with
  | nil => exact absurd rfl hne
  | cons c r => exact blanks_good ⟨c, r ++ t, rfl, (hch c (List.mem_cons_self ..)).1, (hch c (List.mem_cons_self ..)).2.2.2.1⟩
/-- what is right of an element -/
structure ElOk (n : List UInt8) (ls : List (List UInt8)) (ps : List Pr) : Prop where
  nw : wordA n = true
  lw : ∀ l ∈ ls, wordA l = true
  lp : ls.Pairwise (fun x y => Op.bytesLess x y = true)
  po : ∀ p ∈ ps, PrOk p
  pp : ps.Pairwise (fun p q => Op.bytesLess p.1 q.1 = true)
  pn : ∀ p ∈ ps, p.2.k ≠ 0
theorem el_ok {n : List UInt8} {ls : List (List UInt8)} {ps : List Pr} (h : elementV n ls ps = true) (ho : ∀ p ∈ ps, p.2.Ok) : ElOk n ls ps := by
  have hr := elem_right h
  unfold elementV at h
  simp only [Bool.and_eq_true] at h
  obtain ⟨⟨⟨h1, h2⟩, h3⟩, h4⟩ := h
  have h5 := rise_pair h4
  rw [List.pairwise_map] at h5
  refine ⟨h2, rise_word h3, rise_pair h3, fun p hp => ⟨rise_word h4 p.1 (List.mem_map.2 ⟨p, hp, rfl⟩), ho p hp, hr p hp⟩, h5, fun p hp => ?_⟩
  obtain ⟨i, hi, rfl⟩ := List.getElem_of_mem hp
  have h6 := allN_iff.1 h1 i hi
  unfold valueAt at h6
  rw [Bool.and_eq_true, getD_at pr0 hi] at h6
  exact of_decide_eq_true h6.1
noncomputable def nodeK (k : Nat) (d : ND) : List UInt8 := wNode ++ (List.replicate (k + 1) 32 ++ (d.n ++ restK k d.ls d.ps))
theorem wNode_w : wordA wNode = true := by decide
theorem word_st {w : List UInt8} (h : wordA w = true) : ∀ c ∈ w, c ≠ 32 := fun c hc => ((word_chars h).2.2 c hc).1
end Go.Proofs.YtjmlknjbhbfneaaGreatDoor
namespace Go.Proofs.YtjmlknjbhbfneaaGreatDoor
open Go.RowKit Go.Bw Go.Bw.Fl
set_option linter.unusedVariables false
set_option linter.unusedSimpArgs false
/-! a value's text -/
def Pl (c : UInt8) : Prop := c ≠ 10 ∧ c ≠ 32 ∧ c ≠ 39 ∧ c ≠ 92
theorem pl_dig {c : UInt8} (h : 48 ≤ c.toNat ∧ c.toNat ≤ 57) : Pl c := by
  refine ⟨?_, ?_, ?_, ?_⟩ <;> (intro e; subst e; exact absurd h (by decide))
theorem pl_dec (u : Nat) : ∀ c ∈ Lib.decDigits u, Pl c := fun c hc => pl_dig ((decDigits_spec u).1 c hc)
theorem pl_itoa (n : Int) : ∀ c ∈ Lib.itoa n, Pl c := fun c hc => by
  unfold Lib.itoa at hc
  split at hc
  · rcases List.mem_cons.1 hc with rfl | h
    · exact ⟨by decide, by decide, by decide, by decide⟩
    · exact pl_dec _ c h
  · exact pl_dec _ c hc
theorem pl_const {l : List UInt8} (h : l.all (fun c => c != 10 && c != 32 && c != 39 && c != 92) = true) : ∀ c ∈ l, Pl c := fun c hc => by
  have := List.all_eq_true.1 h c hc
  simp only [Bool.and_eq_true, bne_iff_ne] at this
  exact ⟨this.1.1.1, this.1.1.2, this.1.2, this.2⟩
theorem pl_app {a b : List UInt8} (ha : ∀ c ∈ a, Pl c) (hb : ∀ c ∈ b, Pl c) : ∀ c ∈ a ++ b, Pl c := fun c hc => by
  rcases List.mem_append.1 hc with h | h
  · exact ha c h
  · exact hb c h
theorem pl_sgn (b : Nat) : ∀ c ∈ sgn b, Pl c := by
  unfold sgn; split
  · exact pl_const (by decide)
  · exact pl_const (by decide)
theorem pl_flt (b : Nat) : ∀ c ∈ textF b, Pl c := by
  unfold textF
  split
  · exact pl_const (by decide)
  · split
    · exact pl_app (pl_sgn b) (pl_const (by decide))
    · split
      · exact pl_app (pl_sgn b) (pl_const (by decide))
      · exact pl_app (pl_app (pl_app (pl_sgn b) (pl_dec _)) (pl_const (by decide))) (pl_itoa _)
theorem txt_plain {v : Val} (h : rightV v = true) (hk : v.k ≠ 4) : ∀ c ∈ textQ v, Pl c := by
  unfold textQ textV
  rw [if_neg (by rw [h]; simp)]
  split
  · split
    · exact pl_const (by decide)
    · exact pl_const (by decide)
  · split
    · exact pl_itoa _
    · split
      · exact pl_flt _
      · exact pl_const (by decide)
theorem txt_quote {v : Val} (h : rightV v = true) (hk : v.k = 4) : textQ v = quoteV v.s := by
  unfold textQ textV
  rw [if_neg (by rw [h]; simp), if_neg (by omega), if_neg (by omega), if_neg (by omega), if_pos hk]
theorem qc_no10 (c : UInt8) : (10 : UInt8) ∉ qc c := by
  unfold qc
  split
  · decide
  · split
    · decide
    · split
      · decide
      · rename_i h; simp; exact fun e => h e.symm
theorem txt_no10 {v : Val} (h : rightV v = true) : (10 : UInt8) ∉ textQ v := fun hm => by
  by_cases hk : v.k = 4
  · rw [txt_quote h hk] at hm
    unfold quoteV at hm
    rcases List.mem_cons.1 hm with h | h
    · cases h
    · rcases List.mem_append.1 h with h | h
      · obtain ⟨c, _, hc⟩ := List.mem_flatMap.1 h
        exact qc_no10 c hc
      · simp at h
  · exact (txt_plain h hk 10 hm).1 rfl
/-! lines -/
theorem splitL_cons {b : UInt8} (h : b ≠ 10) (r : List UInt8) : splitL (b :: r) = (b :: (splitL r).headD []) :: (splitL r).tail := by show (if _ then _ else _) = _; rw [if_neg h]
theorem loadGo_cons (s : List UInt8) (r : List (List UInt8)) (i : Nat) (g : GV) : loadGo (s :: r) i g = if (lineStep s g).2 = 0 then loadGo r (i + 1) (lineStep s g).1 else (⟨[], []⟩, (i : Int) + 1, (lineStep s g).2) := rfl
theorem split_line : ∀ {l : List UInt8} (z : List UInt8), (10 : UInt8) ∉ l → splitL (l ++ 10 :: z) = l :: splitL z
  | [], z, _ => by show (if _ then _ else _) = _; rw [if_pos rfl]
  | b :: r, z, h => by
    have h1 : b ≠ 10 := fun e => h (by rw [e]; exact List.mem_cons_self ..)
    have ih := split_line (l := r) z (fun hm => h (List.mem_cons_of_mem _ hm))
    rw [List.cons_append]
    rw [splitL_cons h1, ih]; rfl
theorem split_lines (z : List UInt8) : ∀ (L : List (List UInt8)), (∀ l ∈ L, (10 : UInt8) ∉ l) → splitL (L.flatMap (fun l => l ++ [10]) ++ z) = L ++ splitL z
  | [], _ => rfl
  | l :: r, h => by
    rw [List.flatMap_cons, List.append_assoc, List.append_assoc, List.singleton_append, split_line _ (h l (List.mem_cons_self ..)), split_lines z r (fun q hq => h q (List.mem_cons_of_mem _ hq))]; rfl
/-- lines that are read, one behind the other -/
inductive Reads : List (List UInt8) → GV → GV → Prop
  | nil (g : GV) : Reads [] g g
  | cons {s : List UInt8} {r : List (List UInt8)} {g g1 g2 : GV} : lineStep s g = (g1, 0) → Reads r g1 g2 → Reads (s :: r) g g2
theorem Reads.go {a : List (List UInt8)} {g g' : GV} (h : Reads a g g') : ∀ (b : List (List UInt8)) (i : Nat), loadGo (a ++ b) i g = loadGo b (i + a.length) g' := by
  induction h with
  | nil g => intro b i; rfl
  | cons h1 _ ih =>
    intro b i
    rw [List.cons_append, loadGo_cons, h1]
    dsimp only
    rw [if_pos rfl, ih b (i + 1), List.length_cons]
    congr 1; omega
theorem step_blank {s : List UInt8} (h : blanksV s = []) (g : GV) : lineStep s g = (g, 0) := by unfold lineStep; rw [if_pos h]
theorem nameE_fresh {l : List (List UInt8)} {nm : List UInt8} (h : nm ∉ l) (hl : l.length < 1000) : nameE (nmap l) nm 1000 0 = 0 := by
  have h1 : mlook (nmap l) nm = none := by rw [mlook_nmap, idx_none.2 h]; rfl
  unfold nameE
  rw [nmap_len, h1, if_neg (by omega), if_neg (by simp)]
theorem nodes_read {Ln : ND → List UInt8} (hLn : ∀ (d : ND) (g : GV), ElOk d.n d.ls d.ps → lineStep (Ln d) g = (⟨g.ns ++ [d], g.es⟩, nameE (nmap (nnames g)) d.n 1000 0)) : ∀ (ns pre : List ND) (es : List ED), (∀ d ∈ ns, ElOk d.n d.ls d.ps) → ((pre ++ ns).map (·.n)).Nodup → (pre ++ ns).length ≤ 1000 → Reads (ns.map Ln) ⟨pre, es⟩ ⟨pre ++ ns, es⟩
  | [], pre, es, _, _, _ => by rw [List.append_nil]; exact .nil _
  | d :: r, pre, es, h, hn, hl => by
    have hm : d.n ∉ pre.map (·.n) := fun hm => by
      rw [List.map_append, List.map_cons, List.nodup_append] at hn
      exact hn.2.2 d.n hm d.n (List.mem_cons_self ..) rfl
    have h1 := hLn d ⟨pre, es⟩ (h d (List.mem_cons_self ..))
    have h2 : nameE (nmap (nnames ⟨pre, es⟩)) d.n 1000 0 = 0 := nameE_fresh hm (by rw [List.length_append, List.length_cons] at hl; show (pre.map (·.n)).length < _; rw [List.length_map]; omega)
    rw [h2] at h1
    refine .cons h1 ?_
    have e : pre ++ d :: r = pre ++ [d] ++ r := by simp
    rw [e] at hn hl ⊢
    exact nodes_read hLn r (pre ++ [d]) es (fun q hq => h q (List.mem_cons_of_mem _ hq)) hn hl
structure EdOk (G : GV) (d : ED) : Prop where
  el : ElOk d.n d.ls d.ps
  f0 : 0 ≤ d.fr
  f1 : d.fr < G.ns.length
  t0 : 0 ≤ d.tw
  t1 : d.tw < G.ns.length
theorem dist_nodup {l : List (List UInt8)} (h : distinct l = true) : l.Nodup := by
  rw [distinct_iff] at h
  unfold List.Nodup
  rw [List.pairwise_iff_getElem]
  intro i j hi hj hij e
  have := firstAt_iff.1 (allN_iff.1 h j hj) i hij
  rw [getD_at [] hi, getD_at [] hj] at this
  exact this e
/-- what a right graph has -/
structure RG (g : GV) : Prop where
  ns : ∀ d ∈ g.ns, ElOk d.n d.ls d.ps
  nd : (g.ns.map (·.n)).Nodup
  es : ∀ d ∈ g.es, EdOk g d
  ed : (g.es.map (·.n)).Nodup
  nl : g.ns.length ≤ 1000
  el : g.es.length ≤ 1000
theorem rg_of {g : GV} (h : rightG g = 0) (hs : ∀ d ∈ g.ns, ∀ p ∈ d.ps, p.2.Ok) (he : ∀ d ∈ g.es, ∀ p ∈ d.ps, p.2.Ok) : RG g := by
  obtain ⟨h1, h2, h3⟩ := rightG_zero h
  have h4 := h3
  unfold okG at h4
  simp only [Bool.and_eq_true] at h4
  refine ⟨fun d hd => ?_, dist_nodup h4.1.1.1, fun d hd => ?_, dist_nodup h4.1.1.2, h1, h2⟩
  · obtain ⟨i, hi, rfl⟩ := List.getElem_of_mem hd
    have := okG_n h3 hi
    rw [getD_at nd0 hi] at this
    exact el_ok this (hs _ hd)
  · obtain ⟨i, hi, rfl⟩ := List.getElem_of_mem hd
    have := okG_e h3 hi
    rw [getD_at ed0 hi] at this
    obtain ⟨a, b, c⟩ := edge_ends this
    exact ⟨el_ok a (he _ hd), b.1, b.2, c.1, c.2⟩
theorem no10_rest (k : Nat) {ls : List (List UInt8)} {ps : List Pr} (hl : ∀ l ∈ ls, wordA l = true) (hp : ∀ p ∈ ps, PrOk p) : (10 : UInt8) ∉ restK k ls ps := fun hm => by
  unfold restK at hm
  rcases List.mem_append.1 hm with h | h
  · obtain ⟨l, h1, h2⟩ := List.mem_flatMap.1 h
    unfold labK at h2
    rcases List.mem_append.1 h2 with h3 | h3
    · have := (List.mem_replicate.1 h3).2; cases this
    · rcases List.mem_cons.1 h3 with h4 | h4
      · cases h4
      · exact ((word_chars (hl l h1)).2.2 10 h4).2.2.2.2.1 rfl
  · obtain ⟨p, h1, h2⟩ := List.mem_flatMap.1 h
    obtain ⟨a, b, c⟩ := hp p h1
    unfold prK propF at h2
    rcases List.mem_append.1 h2 with h3 | h3
    · have := (List.mem_replicate.1 h3).2; cases this
    · rcases List.mem_append.1 h3 with h4 | h4
      · exact ((word_chars a).2.2 10 h4).2.2.2.2.1 rfl
      · rcases List.mem_cons.1 h4 with h5 | h5
        · cases h5
        · exact txt_no10 c h5
theorem no10_word {w : List UInt8} (h : wordA w = true) : (10 : UInt8) ∉ w := fun hm => ((word_chars h).2.2 10 hm).2.2.2.2.1 rfl
theorem no10_rep (k : Nat) : (10 : UInt8) ∉ List.replicate k 32 := fun hm => by have := (List.mem_replicate.1 hm).2; cases this
theorem no10_app {a b : List UInt8} (ha : (10 : UInt8) ∉ a) (hb : (10 : UInt8) ∉ b) : (10 : UInt8) ∉ a ++ b := fun h => (List.mem_append.1 h).elim ha hb
theorem restK_zero (ls : List (List UInt8)) (ps : List Pr) : restK 0 ls ps = restV ls ps := rfl
theorem nodeL_K (d : ND) : nodeL d = nodeK 0 d ++ [10] := by rw [nodeL_ref]; unfold nodeK; rw [restK_zero]; simp [wNode]
end Go.Proofs.YtjmlknjbhbfneaaGreatDoor
