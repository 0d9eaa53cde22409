/- Plain: a source with more blanks, notes and empty lines. -/
import Derived.Test.YtjmlknjbhbfneaaGreatDoorZLT
namespace Go.Proofs.YtjmlknjbhbfneaaGreatDoor
open Go.RowKit Go.Bw Go.Bw.Fl
set_option linter.unusedVariables false
set_option linter.unusedSimpArgs false
/-- quoted; backslashes ahead; what is written -/
abbrev Bk := Bool × Nat × List UInt8
def quoteN (q : Bool) (n : Nat) (c : UInt8) : Bool := if c = 39 ∧ ¬ (q = true ∧ n % 2 = 1) then !q else q
def tailV (mark : List UInt8) : List UInt8 := [32, 35] ++ mark ++ [10, 10, 32, 32]
def emitV (mark : List UInt8) (q : Bool) (c : UInt8) : List UInt8 := if c = 32 ∧ q = false then [32, 32] else if c = 10 then tailV mark else [c]
def bkStep (mark : List UInt8) (x : Bk) (c : UInt8) : Bk := (quoteN x.1 x.2.1 c, if c = 92 then x.2.1 + 1 else 0, x.2.2 ++ emitV mark (quoteN x.1 x.2.1 c) c)
def bk (mark : List UInt8) (x : Bk) (s : List UInt8) : Bk := s.foldl (bkStep mark) x
theorem bk_app (mark : List UInt8) (x : Bk) (s t : List UInt8) : bk mark x (s ++ t) = bk mark (bk mark x s) t := List.foldl_append
theorem bk_cons (mark : List UInt8) (x : Bk) (c : UInt8) (t : List UInt8) : bk mark x (c :: t) = bk mark (bkStep mark x c) t := rfl
/-- out of quotes: the count does not matter -/
theorem bk_pl (mark : List UInt8) : ∀ (s : List UInt8) (n : Nat) (o : List UInt8), (∀ c ∈ s, Pl c) → ∃ m, bk mark (false, n, o) s = (false, m, o ++ s)
  | [], n, o, _ => ⟨n, by simp [bk]⟩
  | c :: r, n, o, h => by
    obtain ⟨h1, h2, h3, h4⟩ := h c (List.mem_cons_self ..)
    have e : bkStep mark (false, n, o) c = (false, 0, o ++ [c]) := by
      unfold bkStep quoteN emitV
      simp [h1, h2, h3, h4]
    obtain ⟨m, hm⟩ := bk_pl mark r 0 (o ++ [c]) (fun q hq => h q (List.mem_cons_of_mem _ hq))
    exact ⟨m, by rw [bk_cons, e, hm]; simp⟩
theorem bk_blank (mark : List UInt8) (n : Nat) (o : List UInt8) : bk mark (false, n, o) [32] = (false, 0, o ++ [32, 32]) := by
  rw [bk_cons]; simp [bk, bkStep, quoteN, emitV]
theorem bk_feed (mark : List UInt8) (n : Nat) (o : List UInt8) : bk mark (false, n, o) [10] = (false, 0, o ++ tailV mark) := by
  rw [bk_cons]; simp [bk, bkStep, quoteN, emitV]
/-- in quotes: units keep the backslashes even -/
theorem bk_unit (mark : List UInt8) (n : Nat) (o : List UInt8) (c : UInt8) (hn : n % 2 = 0) : ∃ m, m % 2 = 0 ∧ bk mark (true, n, o) (qc c) = (true, m, o ++ qc c) := by
  unfold qc
  by_cases h1 : c = 92
  · rw [if_pos h1]
    refine ⟨n + 1 + 1, by omega, ?_⟩
    rw [bk_cons, bk_cons]; simp [bk, bkStep, quoteN, emitV]
  · rw [if_neg h1]
    by_cases h2 : c = 39
    · rw [if_pos h2]
      refine ⟨0, rfl, ?_⟩
      rw [bk_cons, bk_cons]
      have e : (n + 1) % 2 = 1 := by omega
      simp [bk, bkStep, quoteN, emitV, e]
    · rw [if_neg h2]
      by_cases h3 : c = 10
      · rw [if_pos h3]
        refine ⟨0, rfl, ?_⟩
        rw [bk_cons, bk_cons]; simp [bk, bkStep, quoteN, emitV]
      · rw [if_neg h3]
        refine ⟨0, rfl, ?_⟩
        rw [bk_cons]; simp [bk, bkStep, quoteN, emitV, h1, h2, h3]
theorem bk_units (mark : List UInt8) : ∀ (s : List UInt8) (n : Nat) (o : List UInt8), n % 2 = 0 → ∃ m, m % 2 = 0 ∧ bk mark (true, n, o) (s.flatMap qc) = (true, m, o ++ s.flatMap qc)
  | [], n, o, hn => ⟨n, hn, by simp [bk]⟩
  | c :: r, n, o, hn => by
    obtain ⟨m, h1, h2⟩ := bk_unit mark n o c hn
    obtain ⟨k, h3, h4⟩ := bk_units mark r m (o ++ qc c) h1
    exact ⟨k, h3, by rw [List.flatMap_cons, bk_app, h2, h4, List.append_assoc]⟩
theorem bk_quote (mark : List UInt8) (s : List UInt8) (n : Nat) (o : List UInt8) : bk mark (false, n, o) (quoteV s) = (false, 0, o ++ quoteV s) := by
  unfold quoteV
  have e : bkStep mark (false, n, o) 39 = (true, 0, o ++ [39]) := by simp [bkStep, quoteN, emitV]
  obtain ⟨m, h1, h2⟩ := bk_units mark s 0 (o ++ [39]) rfl
  rw [bk_cons, e, bk_app, h2, bk_cons]
  have h3 : ¬ m % 2 = 1 := by omega
  simp [bk, bkStep, quoteN, emitV, h3]
theorem bk_txt (mark : List UInt8) {v : Val} (h : rightV v = true) (n : Nat) (o : List UInt8) : ∃ m, bk mark (false, n, o) (textQ v) = (false, m, o ++ textQ v) := by
  by_cases hk : v.k = 4
  · rw [txt_quote h hk]; exact ⟨0, bk_quote mark v.s n o⟩
  · exact bk_pl mark _ n o (txt_plain h hk)
theorem pl_word {w : List UInt8} (h : wordA w = true) : ∀ c ∈ w, Pl c := fun c hc => by
  obtain ⟨a, _, _, _, b, d⟩ := (word_chars h).2.2 c hc
  refine ⟨b, a, d, fun e => ?_⟩
  subst e
  unfold wordA at h
  rw [Bool.and_eq_true] at h
  exact absurd (List.all_eq_true.1 h.2 92 hc) (by decide)
/-- what the blanks of a text are made to be -/
def Twice (mark : List UInt8) (s t : List UInt8) : Prop := ∀ n o, ∃ m, bk mark (false, n, o) s = (false, m, o ++ t)
theorem Twice.nil {mark : List UInt8} : Twice mark [] [] := fun n o => ⟨n, by simp [bk]⟩
theorem Twice.app {mark s t s' t' : List UInt8} (h : Twice mark s t) (k : Twice mark s' t') : Twice mark (s ++ s') (t ++ t') := fun n o => by
  obtain ⟨m, h1⟩ := h n o
  obtain ⟨q, h2⟩ := k m (o ++ t)
  exact ⟨q, by rw [bk_app, h1, h2, List.append_assoc]⟩
theorem Twice.word {mark w : List UInt8} (h : wordA w = true) : Twice mark w w := fun n o => bk_pl mark w n o (pl_word h)
theorem Twice.pl {mark w : List UInt8} (h : ∀ c ∈ w, Pl c) : Twice mark w w := fun n o => bk_pl mark w n o h
theorem Twice.blank {mark : List UInt8} : Twice mark (List.replicate (0 + 1) 32) (List.replicate (1 + 1) 32) := fun n o => ⟨0, bk_blank mark n o⟩
theorem Twice.feed {mark : List UInt8} : Twice mark [10] (tailV mark) := fun n o => ⟨0, bk_feed mark n o⟩
theorem Twice.txt {mark : List UInt8} {v : Val} (h : rightV v = true) : Twice mark (textQ v) (textQ v) := fun n o => bk_txt mark h n o
theorem Twice.flat {α : Type} {mark : List UInt8} {f g : α → List UInt8} : ∀ {l : List α}, (∀ a ∈ l, Twice mark (f a) (g a)) → Twice mark (l.flatMap f) (l.flatMap g)
  | [], _ => Twice.nil
  | a :: r, h => by
    rw [List.flatMap_cons, List.flatMap_cons]
    exact (h a (List.mem_cons_self ..)).app (Twice.flat fun q hq => h q (List.mem_cons_of_mem _ hq))
theorem twice_rest {mark : List UInt8} {ls : List (List UInt8)} {ps : List Pr} (hl : ∀ l ∈ ls, wordA l = true) (hp : ∀ p ∈ ps, PrOk p) : Twice mark (restK 0 ls ps) (restK 1 ls ps) := by
  refine Twice.app (Twice.flat fun l h => ?_) (Twice.flat fun p h => ?_)
  · exact Twice.blank.app (Twice.pl fun c hc => by
      rcases List.mem_cons.1 hc with rfl | hc
      · exact ⟨by decide, by decide, by decide, by decide⟩
      · exact pl_word (hl l h) c hc)
  · obtain ⟨a, b, c⟩ := hp p h
    have e : ∀ t, p.1 ++ 61 :: t = (p.1 ++ [61]) ++ t := fun t => by simp
    unfold prK propF
    rw [e]
    exact Twice.blank.app ((Twice.pl (pl_app (pl_word a) (pl_const (by decide)))).app (Twice.txt c))
theorem twice_node {mark : List UInt8} {d : ND} (h : ElOk d.n d.ls d.ps) : Twice mark (nodeK 0 d) (nodeK 1 d) :=
  (Twice.word wNode_w).app (Twice.blank.app ((Twice.word h.nw).app (twice_rest h.lw h.po)))
theorem twice_edge {mark : List UInt8} {g : GV} (hG : RG g) {d : ED} (h : EdOk g d) : Twice mark (edgeK 0 g d) (edgeK 1 g d) :=
  (Twice.word wEdge_w).app (Twice.blank.app ((Twice.word h.el.nw).app (Twice.blank.app ((Twice.word (hG.at h.f0 h.f1).1).app (Twice.blank.app ((Twice.pl (by cases d.dir <;> exact pl_const (by decide))).app (Twice.blank.app ((Twice.word (hG.at h.t0 h.t1).1).app (twice_rest h.el.lw h.el.po)))))))))
noncomputable def lines2 (g : GV) : List (List UInt8) := g.ns.map (nodeK 1) ++ g.es.map (edgeK 1 g)
/-- the text that the statement makes -/
theorem bk_print {mark : List UInt8} {g : GV} (hG : RG g) : ∃ m, bk mark (false, 0, [32]) (printG g) = (false, m, 32 :: (lines2 g).flatMap (fun l => l ++ tailV mark)) := by
  have h1 : Twice mark (g.ns.flatMap fun d => nodeK 0 d ++ [10]) (g.ns.flatMap fun d => nodeK 1 d ++ tailV mark) := Twice.flat fun d hd => (twice_node (hG.ns d hd)).app Twice.feed
  have h2 : Twice mark (g.es.flatMap fun d => edgeK 0 g d ++ [10]) (g.es.flatMap fun d => edgeK 1 g d ++ tailV mark) := Twice.flat fun d hd => (twice_edge hG (hG.es d hd)).app Twice.feed
  obtain ⟨m, hm⟩ := (h1.app h2) 0 [32]
  refine ⟨m, ?_⟩
  have e1 : printG g = (g.ns.flatMap fun d => nodeK 0 d ++ [10]) ++ (g.es.flatMap fun d => edgeK 0 g d ++ [10]) := by
    rw [printG_lines]; unfold linesG; rw [List.flatMap_append, List.flatMap_map, List.flatMap_map]
  have e2 : (lines2 g).flatMap (fun l => l ++ tailV mark) = (g.ns.flatMap fun d => nodeK 1 d ++ tailV mark) ++ (g.es.flatMap fun d => edgeK 1 g d ++ tailV mark) := by
    unfold lines2; rw [List.flatMap_append, List.flatMap_map, List.flatMap_map]
  rw [e1, hm, e2]; rfl
/-- its lines -/
theorem split_blanks {mark : List UInt8} (hm : (10 : UInt8) ∉ mark) : ∀ (L : List (List UInt8)) (p : List UInt8), (∀ l ∈ L, (10 : UInt8) ∉ l) → (10 : UInt8) ∉ p → (∃ k, p = List.replicate k 32) →
    ∃ M, splitL (p ++ L.flatMap (fun l => l ++ tailV mark)) = M ∧ (M.map blanksV).filter (fun l => decide (l ≠ [])) = (L.map fun l => blanksV (l ++ ([32, 35] ++ mark))).filter (fun l => decide (l ≠ []))
  | [], p, _, hp, ⟨k, hk⟩ => by
    refine ⟨_, rfl, ?_⟩
    rw [List.flatMap_nil, List.append_nil, split_none hp]
    have hb : blanksV p = [] := by have := blanks_rep [] k; rw [List.append_nil] at this; rw [hk, this]; rfl
    simp [hb]
  | l :: r, p, h, hp, ⟨k, hk⟩ => by
    obtain ⟨M, h1, h2⟩ := split_blanks hm r [32, 32] (fun q hq => h q (List.mem_cons_of_mem _ hq)) (by decide) ⟨2, rfl⟩
    have e : p ++ (l :: r).flatMap (fun l => l ++ tailV mark) = (p ++ (l ++ ([32, 35] ++ mark))) ++ 10 :: ([] ++ 10 :: ([32, 32] ++ r.flatMap (fun l => l ++ tailV mark))) := by
      rw [List.flatMap_cons]; unfold tailV; simp
    have hn : (10 : UInt8) ∉ p ++ (l ++ ([32, 35] ++ mark)) := no10_app hp (no10_app (h l (List.mem_cons_self ..)) (no10_app (by decide) hm))
    have h0 : (10 : UInt8) ∉ ([] : List UInt8) := by simp
    refine ⟨_, rfl, ?_⟩
    rw [e, split_line _ hn, split_line _ h0, h1]
    have hb : blanksV (p ++ (l ++ ([32, 35] ++ mark))) = blanksV (l ++ ([32, 35] ++ mark)) := by rw [hk, blanks_rep]
    have hb0 : blanksV ([] : List UInt8) = [] := rfl
    rw [List.map_cons, List.map_cons, List.map_cons, hb, hb0, List.filter_cons, List.filter_cons_of_neg (by simp), List.filter_cons, h2]
theorem no10_2 {g : GV} (h : RG g) : ∀ l ∈ lines2 g, (10 : UInt8) ∉ l := fun l hl => by
  rcases List.mem_append.1 hl with h1 | h1
  · obtain ⟨d, hd, rfl⟩ := List.mem_map.1 h1
    exact no10_node 1 (h.ns d hd)
  · obtain ⟨d, hd, rfl⟩ := List.mem_map.1 h1
    exact no10_edge h 1 (h.es d hd)
theorem note_tail (mark : List UInt8) : Tail ([32, 35] ++ mark) := by
  refine ⟨fun x hx => by simp at hx; exact hx.symm, fields_nil ?_⟩
  unfold blanksV
  have e : Lib.trimLeftB ([32, 35] ++ mark) 32 = 35 :: mark := by
    show List.dropWhile _ (32 :: 35 :: mark) = _
    rw [List.dropWhile_cons_of_pos (by simp), List.dropWhile_cons_of_neg (by simp)]
  rw [e, pre35, if_pos (by simp)]
theorem load_blanks {mark : List UInt8} {g : GV} (hG : RG g) (hm : (10 : UInt8) ∉ mark) : loadV (32 :: (lines2 g).flatMap (fun l => l ++ tailV mark)) = (g, 0, 0) := by
  obtain ⟨M, h1, h2⟩ := split_blanks hm (lines2 g) [32] (no10_2 hG) (by decide) ⟨1, rfl⟩
  have hr := graph_read hG 1 (note_tail mark)
  have e : g.ns.map (fun d => nodeK 1 d ++ ([32, 35] ++ mark)) ++ g.es.map (fun d => edgeK 1 g d ++ ([32, 35] ++ mark)) = (lines2 g).map fun l => l ++ ([32, 35] ++ mark) := by
    unfold lines2; rw [List.map_append, List.map_map, List.map_map]; rfl
  rw [e] at hr
  have hb : ∀ l ∈ lines2 g, blanksV (l ++ ([32, 35] ++ mark)) = l ++ ([32, 35] ++ mark) ∧ l ++ ([32, 35] ++ mark) ≠ [] := fun l hl => by
    have key : ∀ w t, wordA w = true → blanksV (w ++ t) = w ++ t ∧ w ++ t ≠ [] := fun w t hw => by
      have := word_go (t := t) hw 0
      exact ⟨this, fun e => (word_chars hw).1 (List.append_eq_nil_iff.1 e).1⟩
    rcases List.mem_append.1 hl with h3 | h3
    · obtain ⟨d, _, rfl⟩ := List.mem_map.1 h3
      unfold nodeK; rw [List.append_assoc]; exact key _ _ wNode_w
    · obtain ⟨d, _, rfl⟩ := List.mem_map.1 h3
      unfold edgeK; rw [List.append_assoc]; exact key _ _ wEdge_w
  have e2 : ((lines2 g).map fun l => blanksV (l ++ ([32, 35] ++ mark))).filter (fun l => decide (l ≠ [])) = (lines2 g).map fun l => l ++ ([32, 35] ++ mark) := by
    rw [List.map_congr_left (fun l hl => (hb l hl).1)]
    refine List.filter_eq_self.2 fun x hx => ?_
    obtain ⟨l, hl, rfl⟩ := List.mem_map.1 hx
    exact decide_eq_true (hb l hl).2
  rw [e2] at h2
  rw [← h2] at hr
  have h4 := Reads.bare hr
  unfold loadV
  rw [show (32 :: (lines2 g).flatMap (fun l => l ++ tailV mark)) = [32] ++ (lines2 g).flatMap (fun l => l ++ tailV mark) from rfl, h1]
  exact h4.all 0
end Go.Proofs.YtjmlknjbhbfneaaGreatDoor
