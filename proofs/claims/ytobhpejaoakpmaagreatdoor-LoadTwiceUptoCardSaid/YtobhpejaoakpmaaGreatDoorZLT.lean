/- Plain: where lines stand in a printed graph; some of them, one of them twice. -/
import Derived.Test.YtobhpejaoakpmaaGreatDoorZLS
namespace Go.Proofs.YtobhpejaoakpmaaGreatDoor
open Go.RowKit Go.Bw Go.Bw.Fl
set_option linter.unusedVariables false
set_option linter.unusedSimpArgs false
theorem mask65535 (x : Int) : ∃ n : Nat, bits .and .i64 x 65535 = n := by
  refine ⟨(BitVec.ofInt 64 x).toNat % 65536, ?_⟩
  have hc : (BitVec.ofInt 64 65535).toNat = 2 ^ 16 - 1 := by decide
  show IntKind.i64.wrap ((BitVec.ofInt 64 x &&& BitVec.ofInt 64 65535).toNat : Int) = _
  have h2 : (BitVec.ofInt 64 x).toNat % 65536 < 65536 := Nat.mod_lt _ (by decide)
  rw [BitVec.toNat_and, hc, Nat.and_two_pow_sub_one_eq_mod, wrap_i64 _ (by omega) (by omega)]
theorem tmod_nat (m k : Nat) : (m : Int).tmod (k : Int) = ((m % k : Nat) : Int) := rfl
def feeds (L : List (List UInt8)) : List UInt8 := L.flatMap (fun l => l ++ [10])
def pos (L : List (List UInt8)) (j : Nat) : Nat := (feeds (L.take j)).length
theorem feeds_app (a b : List (List UInt8)) : feeds (a ++ b) = feeds a ++ feeds b := List.flatMap_append
theorem feeds_at {L : List (List UInt8)} {i : Nat} (hi : i < L.length) : feeds L = feeds (L.take i) ++ ((L.getD i []) ++ 10 :: feeds (L.drop (i + 1))) := by
  have h : L = L.take i ++ L[i] :: L.drop (i + 1) := by rw [← List.drop_eq_getElem_cons hi, List.take_append_drop]
  conv => lhs; rw [h]
  rw [feeds_app, getD_at [] hi]
  unfold feeds
  rw [List.flatMap_cons, List.append_assoc]; rfl
theorem pos_succ {L : List (List UInt8)} {i : Nat} (hi : i < L.length) : pos L (i + 1) = pos L i + (L.getD i []).length + 1 := by
  unfold pos
  rw [List.take_succ_eq_append_getElem hi, feeds_app, List.length_append, getD_at [] hi]
  unfold feeds
  simp; omega
theorem pos_le {L : List (List UInt8)} {i : Nat} (hi : i < L.length) : pos L i + (L.getD i []).length < (feeds L).length := by
  have h := feeds_at hi
  unfold pos
  rw [h, List.length_append, List.length_append, List.length_cons]; omega
theorem text_in {L : List (List UInt8)} {i q : Nat} (hi : i < L.length) (hL : ∀ l ∈ L, (10 : UInt8) ∉ l) (hq : q < (L.getD i []).length) : (feeds L).getD (pos L i + q) 0 ≠ 10 := by
  have hm : (10 : UInt8) ∉ L.getD i [] := by rw [getD_at [] hi]; exact hL _ (List.getElem_mem hi)
  rw [feeds_at hi]
  unfold pos
  simp only [List.getD_eq_getElem?_getD]
  rw [List.getElem?_append_right (by omega), show (feeds (L.take i)).length + q - (feeds (L.take i)).length = q by omega, List.getElem?_append_left (by simpa [List.getD_eq_getElem?_getD] using hq)]
  intro e
  have hq' : q < (L.getD i []).length := hq
  simp only [List.getD_eq_getElem?_getD] at hm hq'
  rw [List.getElem?_eq_getElem hq'] at e
  exact hm (by rw [← e]; exact List.getElem_mem hq')
theorem text_end {L : List (List UInt8)} {i : Nat} (hi : i < L.length) : (feeds L).getD (pos L i + (L.getD i []).length) 0 = 10 := by
  rw [feeds_at hi]
  unfold pos
  simp only [List.getD_eq_getElem?_getD]
  rw [List.getElem?_append_right (by omega), Nat.add_sub_cancel_left, List.getElem?_append_right (Nat.le_refl _), Nat.sub_self]; rfl
theorem text_take (L : List (List UInt8)) (j : Nat) : (feeds L).take (pos L j) = feeds (L.take j) := by
  conv => lhs; rw [← List.take_append_drop j L]
  unfold pos
  rw [feeds_app, List.take_append_drop, List.take_left]
theorem text_line {L : List (List UInt8)} {i : Nat} (hi : i < L.length) : ((feeds L).take (pos L i + (L.getD i []).length)).drop (pos L i) = L.getD i [] := by
  have e : feeds L = (feeds (L.take i) ++ L.getD i []) ++ 10 :: feeds (L.drop (i + 1)) := by rw [feeds_at hi, List.append_assoc]
  have h1 : pos L i + (L.getD i []).length = (feeds (L.take i) ++ L.getD i []).length := by unfold pos; rw [List.length_append]
  rw [h1, e, List.take_left]
  unfold pos
  exact List.drop_left
theorem count_feeds : ∀ {L : List (List UInt8)}, (∀ l ∈ L, (10 : UInt8) ∉ l) → (feeds L).count 10 = L.length
  | [], _ => rfl
  | l :: r, h => by
    have ih := count_feeds (L := r) (fun q hq => h q (List.mem_cons_of_mem _ hq))
    have h1 : l.count 10 = 0 := List.count_eq_zero.2 (h l (List.mem_cons_self ..))
    have e : feeds (l :: r) = l ++ 10 :: feeds r := by unfold feeds; rw [List.flatMap_cons, List.append_assoc]; rfl
    rw [e, List.count_append, List.count_cons_self, h1, ih, List.length_cons]; omega
theorem cnt_succ {s : List UInt8} {i : Nat} (h : i < s.length) : (s.take (i + 1)).count 10 = (s.take i).count 10 + (if s.getD i 0 = 10 then 1 else 0) := by
  rw [List.take_succ_eq_append_getElem h, List.count_append, getD_at 0 h]
  congr 1
  by_cases e : s[i] = 10
  · rw [if_pos e, e]; simp
  · rw [if_neg e]; simp [e]
theorem u8_ten (c : UInt8) : ((c.toNat : Int) = 10) ↔ c = 10 := ⟨fun h => u8_of (n := 10) h (by decide), fun h => by rw [h]; rfl⟩
/-! some lines -/
def wantG (n : Nat) (g : GV) : GV := ⟨g.ns.take n, g.es.take (n - g.ns.length)⟩
theorem linesG_len (g : GV) : (linesG g).length = g.ns.length + g.es.length := by unfold linesG; rw [List.length_append, List.length_map, List.length_map]
theorem take_read {g : GV} (h : RG g) (n : Nat) : Reads ((linesG g).take n) ⟨[], []⟩ (wantG n g) := by
  have e : (linesG g).take n = (g.ns.take n).map (nodeK 0) ++ (g.es.take (n - g.ns.length)).map (edgeK 0 g) := by
    unfold linesG; rw [List.take_append, List.length_map, List.map_take, List.map_take]
  have sub1 : ∀ d ∈ g.ns.take n, d ∈ g.ns := fun d hd => List.mem_of_mem_take hd
  have hn1 : ((g.ns.take n).map (·.n)).Nodup := by rw [List.map_take]; exact List.Nodup.sublist (List.take_sublist _ _) h.nd
  have h1 := nodes_read (Ln := nodeK 0) (fun d g' hd => by have := node_line 0 0 Tail.nil hd g'; rwa [List.append_nil] at this) (g.ns.take n) [] [] (fun d hd => h.ns d (sub1 d hd)) hn1 (by rw [List.nil_append, List.length_take]; have := h.nl; omega)
  rw [e]
  rcases Nat.lt_or_ge n g.ns.length with hlt | hge
  · have hz : n - g.ns.length = 0 := by omega
    unfold wantG
    rw [hz, List.take_zero, List.map_nil, List.append_nil]; exact h1
  · have ht : g.ns.take n = g.ns := List.take_of_length_le hge
    unfold wantG
    rw [ht] at h1 ⊢
    have h2 := edges_read (G := g) (Ln := edgeK 0 g) (fun d es hd => by have := edge_line' h 0 Tail.nil d es hd; rwa [List.append_nil] at this) (g.es.take (n - g.ns.length)) [] (fun d hd => h.es d (List.mem_of_mem_take hd)) (by rw [List.nil_append, List.map_take]; exact List.Nodup.sublist (List.take_sublist _ _) h.ed) (by rw [List.nil_append, List.length_take]; have := h.el; omega)
    exact h1.app h2
theorem loads_end {a : List (List UInt8)} {g : GV} (h : Reads a ⟨[], []⟩ g) : loadGo (a ++ [[]]) 0 ⟨[], []⟩ = (g, 0, 0) := by
  rw [h.go [[]] 0, loadGo_cons, step_blank rfl g]
  dsimp only
  rw [if_pos rfl]; rfl
theorem load_take {g : GV} (h : RG g) (n : Nat) : loadV (feeds ((linesG g).take n)) = (wantG n g, 0, 0) := by
  unfold loadV
  have e := split_lines [] ((linesG g).take n) (fun l hl => lines_no10 h l (List.mem_of_mem_take hl))
  rw [List.append_nil] at e
  unfold feeds
  rw [e]; exact loads_end (take_read h n)
/-! a line twice -/
theorem nameE_again {l : List (List UInt8)} {nm : List UInt8} (h : nm ∈ l) : nameE (nmap l) nm 1000 0 = 3 := by
  have h1 : (mlook (nmap l) nm).isSome = true := by
    rw [mlook_nmap]
    cases e : idx nm l with
    | none => exact absurd h (idx_none.1 e)
    | some k => rfl
  unfold nameE
  rw [h1, if_pos rfl]
  split <;> rfl
theorem again_err {g : GV} (h : RG g) {i : Nat} (hi : i < (linesG g).length) : (lineStep ((linesG g).getD i []) g).2 = 3 := by
  rw [getD_at [] hi]
  have hm := List.getElem_mem hi
  rcases List.mem_append.1 hm with h1 | h1
  · obtain ⟨d, hd, he⟩ := List.mem_map.1 h1
    rw [← he]
    have := node_line 0 0 Tail.nil (h.ns d hd) g
    rw [List.append_nil] at this
    show (lineStep (List.replicate 0 32 ++ nodeK 0 d) g).2 = 3
    rw [this]
    exact nameE_again (List.mem_map.2 ⟨d, hd, rfl⟩)
  · obtain ⟨d, hd, he⟩ := List.mem_map.1 h1
    rw [← he]
    have := edge_line' h 0 Tail.nil d g.es (h.es d hd)
    rw [List.append_nil] at this
    show (lineStep (edgeK 0 g d) g).2 = 3
    have hg : g = ⟨g.ns, g.es⟩ := rfl
    rw [hg] at this ⊢
    rw [this]
    exact nameE_again (List.mem_map.2 ⟨d, hd, rfl⟩)
theorem load_twice {g : GV} (h : RG g) {i : Nat} (hi : i < (linesG g).length) : loadV (feeds (linesG g) ++ (linesG g).getD i []) = (⟨[], []⟩, ((linesG g).length : Int) + 1, 3) := by
  have hm : (10 : UInt8) ∉ (linesG g).getD i [] := by rw [getD_at [] hi]; exact lines_no10 h _ (List.getElem_mem hi)
  unfold loadV feeds
  rw [split_lines _ _ (lines_no10 h), split_none hm, (lines_read h).go _ 0, loadGo_cons, again_err h hi, Nat.zero_add]
  rw [if_neg (by decide)]
end Go.Proofs.YtobhpejaoakpmaaGreatDoor
