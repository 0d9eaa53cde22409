/- Plain: labels and properties the other way round. -/
import Derived.Test.YtjmlknjbhbfneaaGreatDoorZLT
namespace Go.Proofs.YtjmlknjbhbfneaaGreatDoor
open Go.RowKit Go.Bw Go.Bw.Fl
set_option linter.unusedVariables false
set_option linter.unusedSimpArgs false
theorem sort_rev {ls : List (List UInt8)} (h : ls.Pairwise (fun x y => Op.bytesLess x y = true)) : sortS ls.reverse = ls := by
  have hp : (sortS ls.reverse).Perm ls := (List.mergeSort_perm _ _).trans (List.reverse_perm ls)
  have h1 : ls.Pairwise (fun x y => decide (x ≤ y) = true) := h.imp fun h => le_of_less h
  have h2 : (sortS ls.reverse).Pairwise (fun x y => decide (x ≤ y) = true) :=
    List.pairwise_mergeSort (le := fun x y : List UInt8 => decide (x ≤ y)) (fun a b c h1 h2 => by
      rw [decide_eq_true_eq] at h1 h2 ⊢
      intro hc
      have h1' : ¬ b < a := h1
      have h2' : ¬ c < b := h2
      have k1 : Op.bytesLess c a = true := by rw [bytesLess_eq]; exact decide_eq_true hc
      rcases bl_total a b with e | e | e
      · exact h2' (by have := bl_trans _ _ _ k1 e; rw [bytesLess_eq] at this; exact of_decide_eq_true this)
      · subst e; exact h2' hc
      · exact h1' (by rw [bytesLess_eq] at e; exact of_decide_eq_true e)) (fun a b => by
      rw [Bool.or_eq_true, decide_eq_true_eq, decide_eq_true_eq]
      rcases bl_total a b with e | e | e
      · exact .inl (of_decide_eq_true (le_of_less e))
      · subst e; exact .inl (fun hc => by have : Op.bytesLess a a = true := (by rw [bytesLess_eq]; exact decide_eq_true hc); rw [bl_irr] at this; cases this)
      · exact .inr (of_decide_eq_true (le_of_less e))) ls.reverse
  refine List.Perm.eq_of_pairwise (fun a b _ _ h3 h4 => ?_) h2 h1 hp
  rw [decide_eq_true_eq] at h3 h4
  have h3' : ¬ b < a := h3
  have h4' : ¬ a < b := h4
  rcases bl_total a b with e | e | e
  · exact absurd (by rw [bytesLess_eq] at e; exact of_decide_eq_true e) h4'
  · exact e
  · exact absurd (by rw [bytesLess_eq] at e; exact of_decide_eq_true e) h3'
theorem insAll_dec : ∀ (r o : List Pr) (e : Int), (∀ q ∈ r, ∀ x ∈ o, Op.bytesLess q.1 x.1 = true) → r.Pairwise (fun p q => Op.bytesLess q.1 p.1 = true) → (∀ p ∈ r, p.2.k ≠ 0) → insAll o r = r.reverse ++ o ∧ eP o r e = e
  | [], o, e, _, _, _ => ⟨rfl, rfl⟩
  | p :: r, o, e, h1, h2, h3 => by
    rw [List.pairwise_cons] at h2
    have hnl : ∀ x ∈ o, Op.bytesLess x.1 p.1 = false := fun x hx => by
      cases e : Op.bytesLess x.1 p.1 with
      | false => rfl
      | true => have := bl_trans _ _ _ e (h1 p (List.mem_cons_self ..) x hx); rw [bl_irr] at this; cases this
    have hl : lbP o p.1 = 0 := by
      unfold lbP
      cases o with
      | nil => rfl
      | cons x q =>
        rw [List.takeWhile_cons, decide_eq_false]
        · rfl
        · rw [cmp_lt, hnl x (List.mem_cons_self ..)]; simp
    have hf : foundP o p.1 = false := by
      unfold foundP
      rw [hl]
      cases o with
      | nil => rfl
      | cons x q =>
        rw [Bool.and_eq_false_iff]; right
        refine decide_eq_false fun e => ?_
        have := h1 p (List.mem_cons_self ..) x (List.mem_cons_self ..)
        have e' : x.1 = p.1 := e
        rw [e', bl_irr] at this; cases this
    have hn : nullE p e = e := by unfold nullE; rw [if_neg (h3 p (List.mem_cons_self ..))]
    have hi : insP o 0 p = p :: o := by unfold insP; rfl
    unfold insAll eP
    rw [hl, hf, hn, hi]
    have := insAll_dec r (p :: o) e (fun q hq x hx => by
      rcases List.mem_cons.1 hx with rfl | hx
      · exact h2.1 q hq
      · exact h1 q (List.mem_cons_of_mem _ hq) x hx) h2.2 (fun q hq => h3 q (List.mem_cons_of_mem _ hq))
    rw [List.reverse_cons, List.append_assoc]
    exact ⟨this.1, this.2⟩
def revN (d : ND) : ND := ⟨d.n, d.ls.reverse, d.ps.reverse⟩
theorem rev_line {d : ND} (h : ElOk d.n d.ls d.ps) (g : GV) : lineStep (nodeK 0 (revN d)) g = (⟨g.ns ++ [d], g.es⟩, nameE (nmap (nnames g)) d.n 1000 0) := by
  have hl : ∀ l ∈ d.ls.reverse, wordA l = true := fun l hl => h.lw l (List.mem_reverse.1 hl)
  have hp : ∀ p ∈ d.ps.reverse, PrOk p := fun p hp => h.po p (List.mem_reverse.1 hp)
  have e1 : nodeK 0 (revN d) = wNode ++ (List.replicate (0 + 1) 32 ++ (d.n ++ (restK 0 d.ls.reverse d.ps.reverse ++ []))) := by unfold nodeK revN; simp
  have hb : blanksV (nodeK 0 (revN d)) = wNode ++ (List.replicate (0 + 1) 32 ++ (d.n ++ (restK 0 d.ls.reverse d.ps.reverse ++ []))) := by
    rw [e1]; have := word_go (t := List.replicate (0 + 1) 32 ++ (d.n ++ (restK 0 d.ls.reverse d.ps.reverse ++ []))) wNode_w 0; exact this
  obtain ⟨w1, w2⟩ := wd_word (word_st wNode_w) (St.rep 0 (d.n ++ (restK 0 d.ls.reverse d.ps.reverse ++ [])))
  rw [word_go h.nw] at w2
  obtain ⟨w3, w4⟩ := wd_word (word_st h.nw) (st_rest 0 d.ls.reverse d.ps.reverse St.nil)
  have hr : restS (wdRest (d.n ++ (restK 0 d.ls.reverse d.ps.reverse ++ []))) = some (d.ls.reverse, d.ps.reverse) := by
    rw [w4, rest_eq (fields_blanks _)]; exact rest_line hl hp Tail.nil
  have f1 := sort_rev h.lp
  have hd : d.ps.reverse.Pairwise (fun p q => Op.bytesLess q.1 p.1 = true) := List.pairwise_reverse.2 h.pp
  have hne : d.ls.reverse.Pairwise (· ≠ ·) := List.pairwise_reverse.2 (List.Pairwise.imp (fun {a b : List UInt8} (h : Op.bytesLess a b = true) (e : b = a) => less_ne h e.symm) h.lp)
  have f2 := eL_ok d.ls.reverse [] 0 (fun x hx => by cases hx) hne
  obtain ⟨f3, f4⟩ := insAll_dec d.ps.reverse [] 0 (fun q _ x hx => by cases hx) hd (fun p hp => h.pn p (List.mem_reverse.1 hp))
  rw [List.reverse_reverse, List.append_nil] at f3
  unfold lineStep
  rw [hb, w1, if_neg (by simp [wNode]), if_pos rfl, w2, node_ok g (by rw [w3]; exact h.nw) hr, w3, f1, f2, f3, f4]
theorem load_rev {ns : List ND} (h : ∀ d ∈ ns, ElOk d.n d.ls d.ps) (hn : (ns.map (·.n)).Nodup) (hl : ns.length ≤ 1000) : loadV (feeds (ns.map fun d => nodeK 0 (revN d))) = (⟨ns, []⟩, 0, 0) := by
  have h1 := nodes_read (Ln := fun d => nodeK 0 (revN d)) (fun d g hd => rev_line hd g) ns [] [] h hn hl
  have h10 : ∀ l ∈ ns.map (fun d => nodeK 0 (revN d)), (10 : UInt8) ∉ l := fun l hl => by
    obtain ⟨d, hd, rfl⟩ := List.mem_map.1 hl
    exact no10_app (by decide) (no10_app (no10_rep _) (no10_app (no10_word (h d hd).nw) (no10_rest 0 (fun l hl => (h d hd).lw l (List.mem_reverse.1 hl)) (fun p hp => (h d hd).po p (List.mem_reverse.1 hp)))))
  unfold loadV
  have e := split_lines [] _ h10
  rw [List.append_nil] at e
  unfold feeds
  rw [e]; exact loads_end h1
/-! sizes and pieces -/
theorem sum_take_le {α : Type} (f : α → Nat) (l : List α) (k : Nat) : ((l.take k).map f).sum ≤ (l.map f).sum := by
  conv => rhs; rw [← List.take_append_drop k l]
  rw [List.map_append, List.sum_append]; omega
theorem sum_rev {α : Type} (f : α → Nat) (l : List α) : (l.reverse.map f).sum = (l.map f).sum := List.Perm.sum_nat ((List.reverse_perm l).map f)
theorem labs_len (ls : List (List UInt8)) (j : Nat) : ((ls.reverse.take j).flatMap (labK 0)).length ≤ 2 * szL ls := by
  have h := lab_len (ls.reverse.take j)
  have h1 := sum_take_le (fun l : List UInt8 => l.length + 1) ls.reverse j
  rw [sum_rev] at h1
  have e : (ls.reverse.take j).flatMap (labK 0) = (ls.reverse.take j).flatMap labF := rfl
  rw [e]
  unfold szL at h ⊢; omega
theorem prsr_len {ps : List Pr} (hok : ∀ p ∈ ps, p.2.Ok) (hr : ∀ p ∈ ps, rightV p.2 = true) (j : Nat) : ((ps.reverse.take j).flatMap (prK 0)).length ≤ 64 * szP ps := by
  have h := prs_len (ps := ps.reverse.take j) (fun p hp => hok p (List.mem_reverse.1 (List.mem_of_mem_take hp))) (fun p hp => hr p (List.mem_reverse.1 (List.mem_of_mem_take hp)))
  have h1 := sum_take_le (fun p : Pr => p.1.length + p.2.s.length + 1) ps.reverse j
  rw [sum_rev] at h1
  have e : (ps.reverse.take j).flatMap (prK 0) = (ps.reverse.take j).flatMap prF := rfl
  rw [e]
  unfold szP at h ⊢; omega
theorem rev_at {α : Type} {l : List α} {j : Nat} (z : α) (h : j < l.length) : l.reverse.getD j z = l.getD (l.length - 1 - j) z := by
  rw [getD_at z (by rw [List.length_reverse]; exact h), getD_at z (by omega), List.getElem_reverse]
theorem take_flat {α : Type} (f : α → List UInt8) {l : List α} {j : Nat} (z : α) (h : j < l.length) : (l.reverse.take (j + 1)).flatMap f = (l.reverse.take j).flatMap f ++ f (l.getD (l.length - 1 - j) z) := by
  rw [flat_snoc f z (by rw [List.length_reverse]; exact h), rev_at z h]
/-- a node alone -/
def onlyN (n : List UInt8) (ps : List Pr) : GV := ⟨[⟨n, [], ps⟩], []⟩
theorem only_rg {n : List UInt8} {ps : List Pr} (h : ElOk n [] ps) : RG (onlyN n ps) :=
  ⟨fun d hd => by simp [onlyN] at hd; rw [hd]; exact h, by simp [onlyN], (fun d hd => by simp [onlyN] at hd), by simp [onlyN], by simp [onlyN], by simp [onlyN]⟩
theorem print_only (n : List UInt8) (ps : List Pr) : printG (onlyN n ps) = nodeK 0 ⟨n, [], ps⟩ ++ [10] := by
  unfold printG onlyN
  simp [nodeL_K]
theorem node_rev (d : ND) : nodeK 0 (revN d) = nodeK 0 ⟨d.n, [], []⟩ ++ ((d.ls.reverse).flatMap (labK 0) ++ (d.ps.reverse).flatMap (prK 0)) := by
  unfold nodeK revN restK; simp
theorem node_pr (n : List UInt8) (p : Pr) : nodeK 0 ⟨n, [], [p]⟩ = nodeK 0 ⟨n, [], []⟩ ++ prK 0 p := by
  unfold nodeK restK; simp
end Go.Proofs.YtjmlknjbhbfneaaGreatDoor
