/- Plain: a source's lines, read one behind the other; strings.Split at a line feed. · load.Parse, by the calculus. · Constant sources, read and printed. -/
import Derived.Test.YtjmlknjbhbfneaaGreatDoorZLD
import Derived.Test.YtjmlknjbhbfneaaGreatDoorZGB
import Derived.Shelf.Strings.SplitCore
import Derived.Test.YtjmlknjbhbfneaaGreatDoorZSU
namespace Go.Proofs.YtjmlknjbhbfneaaGreatDoor
open Go.RowKit Go.Bw Go.Bw.Fl
set_option linter.unusedVariables false
set_option linter.unusedSimpArgs false
theorem txt39LdM : Txt Tryz.prog 39 := ⟨_, Tryz.func39, by kernel_rfl, rfl⟩   -- strings.genSplit
/-- the lines -/
def splitL : List UInt8 → List (List UInt8)
  | [] => [[]]
  | b :: r => if b = 10 then [] :: splitL r else (b :: (splitL r).headD []) :: (splitL r).tail
theorem splitL_ne : ∀ (s : List UInt8), splitL s ≠ []
  | [] => by simp [splitL]
  | b :: r => by unfold splitL; split <;> simp
theorem splitL_head (s : List UInt8) : (splitL s).headD [] :: (splitL s).tail = splitL s := by
  cases h : splitL s with
  | nil => exact absurd h (splitL_ne s)
  | cons a r => rfl
theorem count_none {s : List UInt8} (h : Lib.indexByte s 10 = -1) : s.count 10 = 0 := by
  rw [List.count_eq_zero]
  intro hm
  obtain ⟨k, hk, he⟩ := List.getElem_of_mem hm
  exact Lib.indexByte_none h k (by rw [List.getElem?_eq_getElem hk, he])
theorem splitK_one : ∀ (s : List UInt8), Lib.splitK [10] 0 (s.count 10) s = splitL s
  | [] => by simp [Lib.splitK, splitL]
  | b :: r => by
    have ih := splitK_one r
    by_cases h : b = 10
    · subst h
      have h1 : Lib.index (10 :: r) [10] = 0 := by rw [Lib.index_one]; simp [Lib.indexByte]
      rw [List.count_cons_self]
      unfold splitL
      rw [if_pos rfl, ← ih]
      show (if (Lib.index (10 :: r) [10] == -1) = true then _ else _) = _
      rw [h1]; simp
    · have h2 : (b == 10) = false := by simpa using h
      rw [List.count_cons, h2]
      unfold splitL
      rw [if_neg h]
      simp only [Bool.false_eq_true, if_false, Nat.add_zero]
      cases hk : r.count 10 with
      | zero =>
        rw [hk] at ih
        rw [← ih]; rfl
      | succ j =>
        rw [hk] at ih
        have hix : Lib.indexByte r 10 ≠ -1 := fun e => by rw [count_none e] at hk; cases hk
        have hge := Lib.indexByte_ge r 10
        obtain ⟨i, hi⟩ : ∃ i : Nat, Lib.indexByte r 10 = (i : Int) := ⟨(Lib.indexByte r 10).toNat, by omega⟩
        have h3 : Lib.index r [10] = (i : Int) := by rw [Lib.index_one, hi]
        have h4 : Lib.index (b :: r) [10] = (i : Int) + 1 := by
          rw [Lib.index_one]
          unfold Lib.indexByte
          rw [h2, hi, if_neg (by simp), if_neg (by simp only [beq_iff_eq]; omega)]
        have e3 : Lib.splitK [10] 0 (j + 1) r = r.take i :: Lib.splitK [10] 0 j (r.drop (i + 1)) := by
          show (if (Lib.index r [10] == -1) = true then _ else _) = _
          rw [h3, if_neg (by simp only [beq_iff_eq]; omega)]
          simp
        have e4 : Lib.splitK [10] 0 (j + 1) (b :: r) = (b :: r.take i) :: Lib.splitK [10] 0 j (r.drop (i + 1)) := by
          show (if (Lib.index (b :: r) [10] == -1) = true then _ else _) = _
          rw [h4, if_neg (by simp only [beq_iff_eq]; omega)]
          have e5 : ((i : Int) + 1).toNat = i + 1 := by omega
          rw [e5]; simp
        rw [e4, ← ih, e3]; rfl
theorem splitL_len (s : List UInt8) : (splitL s).length = s.count 10 + 1 := by
  induction s with
  | nil => rfl
  | cons b r ih =>
    unfold splitL
    by_cases h : b = 10
    · subst h; rw [if_pos rfl, List.length_cons, ih, List.count_cons_self]
    · rw [if_neg h, List.count_cons_of_ne h]
      have : (splitL r).length ≠ 0 := by omega
      simp [ih]
theorem splitL_le (s : List UInt8) : ∀ l ∈ splitL s, l.length ≤ s.length := by
  induction s with
  | nil => intro l hl; simp [splitL] at hl; simp [hl]
  | cons b r ih =>
    intro l hl
    unfold splitL at hl
    split at hl
    · rcases List.mem_cons.1 hl with rfl | h
      · simp
      · have := ih l h; simp; omega
    · rw [← splitL_head r] at ih
      rcases List.mem_cons.1 hl with rfl | h
      · have := ih _ (List.mem_cons_self ..); simp only [List.length_cons]; omega
      · have := ih l (List.mem_cons_of_mem _ h); simp; omega
theorem genSplit_r (s : List UInt8) (hs : s.length < 4294967281) (w : World) : Ret Tryz.prog 39 [str s, str [10], .int .i64 0, .int .i64 (-1)] w fun v w' => (∃ G, v = .slice (some ⟨G, 0, none⟩) (splitL s).length (splitL s).length ∧ w.heap.size ≤ G ∧ Blk w' G 9 (strs (splitL s))) ∧ Below w.heap.size w w' := by
  have hsz : (⟨s.toArray⟩ : ByteArray).size = s.length := size_str s
  have hc1 : Lib.countB ⟨s.toArray⟩ ⟨#[10]⟩ = s.count 10 := by show Lib.count s [10] = _; rw [Lib.count_one]
  have hle : s.count 10 ≤ s.length := List.count_le_length
  have h0 := Any.strings_genSplit_core Tryz.lays221 (by kernel_rfl) ⟨s.toArray⟩ ⟨#[10]⟩ 0 (-1) (s.count 10 + 1) w (by rw [hsz]; exact hs) (by decide) (by decide)
    (fun x c hx => (Tryz.strings_Index_one x 10 _).mono fun e w' ⟨h1, h2⟩ => ⟨by rw [h1]; show _ = Ending.returned (.int .i64 (Lib.index x.data.toList [10])); rw [Lib.index_one], h2⟩)
    ((Tryz.strings_Count_one ⟨s.toArray⟩ 10 w).mono fun e w' ⟨h1, h2⟩ => ⟨by rw [h1, hc1]; rfl, h2⟩) (by decide) (by decide) (by rw [hc1, hsz, if_pos (by decide)]; omega)
  refine Calls.mono h0 fun e w' ⟨h1, h2⟩ => ⟨_, h1, ⟨w.heap.size, ?_, Nat.le_refl _, ?_⟩, ?_⟩
  all_goals
    have hd := Lib.splitB_data ⟨#[10]⟩ 0 (s.count 10) ⟨s.toArray⟩
    have hd2 : ((Lib.splitB ⟨#[10]⟩ 0 (s.count 10) ⟨s.toArray⟩).map (·.data.toList)) = splitL s := by rw [hd]; exact splitK_one s
    have hl : (Lib.splitB ⟨#[10]⟩ 0 (s.count 10) ⟨s.toArray⟩).length = (splitL s).length := by rw [← hd2, List.length_map]
  · show Value.slice (some ⟨w.heap.size, 0, none⟩) (Lib.splitB ⟨#[10]⟩ 0 (s.count 10 + 1 - 1) ⟨s.toArray⟩).length (s.count 10 + 1) = _
    rw [Nat.add_sub_cancel, hl, splitL_len]
  · have e1 : Lib.cellsOf (Lib.splitB ⟨#[10]⟩ 0 (s.count 10 + 1 - 1) ⟨s.toArray⟩) (s.count 10 + 1) = (strs (splitL s)).toArray := by
      rw [Nat.add_sub_cancel, ← splitL_len, ← hl, Lib.cellsOf_full, ← hd2]
      congr 1
      unfold strs
      rw [List.map_map]
      apply List.map_congr_left
      intro x _
      exact str_of x
    rw [h2, e1]; exact Blk.new _ _ _
  · rw [h2]; exact step_alloc _ _
theorem Split_r (s : List UInt8) (hs : s.length < 4294967281) (w : World) : Ret Tryz.prog 17 [str s, str [10]] w fun v w' => (∃ G, v = .slice (some ⟨G, 0, none⟩) (splitL s).length (splitL s).length ∧ w.heap.size ≤ G ∧ Blk w' G 9 (strs (splitL s))) ∧ Below w.heap.size w w' := by
  have hb := Below.refl w.heap.size w
  refine enter Tryz.func17 rfl rfl rfl <| Wc.seq fun _ hK_1 => Wc.region <| Wl.sg rfl rfl <| Wl.nil <| Wq.next hK_1 <| Wc.seq fun _ hK_3 => Wc.region <| Wl.mv rfl rfl <| Wl.mv rfl rfl <| Wl.call txt39LdM rfl rfl (genSplit_r s hs _) rfl ?_
  rintro _ w_k0 ⟨⟨G, rfl, hG, hS⟩, hs_k0⟩
  have hz_k0 := hs_k0.size
  have hb := hb.trans (hs_k0.mono hb.size)
  refine Wl.sg rfl rfl <| Wl.nil <| Wq.next hK_3 <| Wc.ret <| ret1 rfl rfl ?_
  exact ⟨_, rfl, ⟨G, rfl, by omega, hS⟩, hb⟩
noncomputable def lineStep (s : List UInt8) (g : GV) : GV × Int :=
  if blanksV s = [] then (g, 0) else if wd (blanksV s) = wNode then nodeStep (wdRest (blanksV s)) 0 g else if wd (blanksV s) = wEdge then edgeStep (wdRest (blanksV s)) 0 g else (g, 2)
noncomputable def loadGo : List (List UInt8) → Nat → GV → GV × Int × Int
  | [], _, g => (g, 0, 0)
  | s :: r, i, g => if (lineStep s g).2 = 0 then loadGo r (i + 1) (lineStep s g).1 else (⟨[], []⟩, (i : Int) + 1, (lineStep s g).2)
noncomputable def loadV (b : List UInt8) : GV × Int × Int := loadGo (splitL b) 0 ⟨[], []⟩
end Go.Proofs.YtjmlknjbhbfneaaGreatDoor
namespace Go.Proofs.YtjmlknjbhbfneaaGreatDoor
open Go.RowKit Go.Bw Go.Bw.Fl
set_option linter.unusedVariables false
set_option linter.unusedSimpArgs false
theorem fa50_0LdN (p : Addr) (w : World) : (Instr.fieldAt 50 (.pointer (some p)) 0).run Tryz.prog w = .ok (.pointer (some (p.add 0))) w := run_fieldAt (i := 0) (sz := 1) Tryz.underlying50 rfl (by kernel_rfl) p w
theorem fa56_0LdN (p : Addr) (w : World) : (Instr.fieldAt 56 (.pointer (some p)) 0).run Tryz.prog w = .ok (.pointer (some (p.add 0))) w := run_fieldAt (i := 0) (sz := 0) Tryz.underlying56 rfl (by kernel_rfl) p w
theorem fa56_1LdN (p : Addr) (w : World) : (Instr.fieldAt 56 (.pointer (some p)) 1).run Tryz.prog w = .ok (.pointer (some (p.add 1))) w := run_fieldAt (i := 1) (sz := 0) Tryz.underlying56 rfl (by kernel_rfl) p w
theorem one28LdN : One Tryz.prog 28 := ⟨_, Tryz.underlying28, rfl, by kernel_rfl⟩
theorem one9LdN : One Tryz.prog 9 := ⟨_, Tryz.underlying9, rfl, by kernel_rfl⟩
theorem sz9LdN : (Tryz.prog.info? 9).map (·.size) = some 1 := by kernel_rfl
theorem txt17LdN : Txt Tryz.prog 17 := ⟨_, Tryz.func17, by kernel_rfl, rfl⟩   -- strings.Split
theorem txt18LdN : Txt Tryz.prog 18 := ⟨_, Tryz.func18, by kernel_rfl, rfl⟩   -- (*bridleway/load.line).blanks
theorem txt19LdN : Txt Tryz.prog 19 := ⟨_, Tryz.func19, by kernel_rfl, rfl⟩   -- (*bridleway/load.line).word
theorem txtLNode : Txt Tryz.prog 15 := ⟨_, Tryz.func15, by kernel_rfl, rfl⟩
theorem txtLEdge : Txt Tryz.prog 16 := ⟨_, Tryz.func16, by kernel_rfl, rfl⟩
section
variable {C L x m1 m2 : Nat} {w w' : World} {V1 V2 : Value} {g : GV}
theorem Ldr.up (h : Ldr C L w x m1 m2 V1 V2 g) : Ldr C w.heap.size w x m1 m2 V1 V2 g :=
  { h with
    CL := Nat.le_trans h.CL h.Lw
    Lw := Nat.le_refl _
    r1 := let ⟨css, a, b, c, d⟩ := h.r1; ⟨css, a, b, c, fun i hi => (d i hi).keep (fun _ _ => rfl) (fun k ⟨p, q, r, t⟩ => ⟨p, Nat.lt_of_lt_of_le q h.Lw, r, t⟩)⟩
    r2 := let ⟨css, a, b, c, d⟩ := h.r2; ⟨css, a, b, c, fun i hi => (d i hi).keep (fun _ _ => rfl) (fun k ⟨p, q, r, t⟩ => ⟨p, Nat.lt_of_lt_of_le q h.Lw, r, t⟩)⟩
    v1 := fun k hk => ⟨(h.v1 k hk).1, Nat.lt_of_lt_of_le (h.v1 k hk).2 h.Lw⟩
    v2 := fun k hk => ⟨(h.v2 k hk).1, Nat.lt_of_lt_of_le (h.v2 k hk).2 h.Lw⟩ }
theorem Ldr.new {w : World} {C x m1 m2 : Nat} (xC : x < C) (m1C : m1 < C) (m2C : m2 < C) (x1 : x ≠ m1) (x2 : x ≠ m2) (m12 : m1 ≠ m2) (hC : C ≤ w.heap.size) (hx : Blk w x 50 [.slice none 0 0, .slice none 0 0, .map (some m1), .map (some m2)]) (h1 : Mp w m1 []) (h2 : Mp w m2 []) : Ldr C C w x m1 m2 (.slice none 0 0) (.slice none 0 0) ⟨[], []⟩ :=
  { xC := xC, m1C := m1C, m2C := m2C, x1 := x1, x2 := x2, m12 := m12, CL := Nat.le_refl _, Lw := hC, hx := hx, h1 := h1, h2 := h2, r1 := ⟨[], rfl, by simp, own_nil _ _ _ _, fun i hi => absurd hi (by simp)⟩, r2 := ⟨[], rfl, by simp, own_nil _ _ _ _, fun i hi => absurd hi (by simp)⟩, ap := Apart.nil _, v1 := (fun k hk => by cases hk), v2 := (fun k hk => by cases hk), oks := by simp, oke := by simp, ln := by simp, le := by simp }
theorem rd_chunk {w : World} {sz : Nat} : ∀ {css : List (List Value)} {A : Option Addr} {n : Nat}, css.length = n → (∀ c ∈ css, c.length = sz) → 0 < sz → Rd w sz A n css.flatten → ∀ i, i < n → ∃ p, A = some p ∧ (css.getD i []).length = sz ∧ ∀ (j : Nat) (u : Value), (css.getD i [])[j]? = some u → w.cell? ((p.add (i * sz)).add j) = some u := by
  intro css A n hn hc hs hR i hi
  subst hn
  have hl : (css.getD i []).length = sz := by rw [getD_at [] hi]; exact hc _ (List.getElem_mem hi)
  have hfl : ∀ (l : List (List Value)), (∀ c ∈ l, c.length = sz) → ∀ (i j : Nat), i < l.length → j < sz → l.flatten[i * sz + j]? = (l.getD i [])[j]? := by
    intro l
    induction l with
    | nil => intro _ i j hi; simp at hi
    | cons a r ih =>
      intro hc i j hi hj
      have ha : a.length = sz := hc a (List.mem_cons_self ..)
      cases i with
      | zero => rw [List.flatten_cons, Nat.zero_mul, Nat.zero_add, List.getElem?_append_left (by omega)]; rfl
      | succ i =>
        rw [List.flatten_cons, Nat.add_mul, List.getElem?_append_right (by omega), ha, show i * sz + 1 * sz + j - sz = i * sz + j by omega]
        exact ih (fun c h => hc c (List.mem_cons_of_mem _ h)) i j (by simpa using hi) hj
  have h0 : 0 < css.flatten.length := by rw [hR.1]; exact Nat.mul_pos (by omega) hs
  obtain ⟨p, hp, hcell⟩ := hR.2 h0
  refine ⟨p, hp, hl, fun j u hu => ?_⟩
  have hj : j < sz := by have := (List.getElem?_eq_some_iff.1 hu).1; omega
  rw [addr_add_add]
  exact hcell _ u (by rw [hfl css hc i j hi hj]; exact hu)
theorem own_slice {w : World} {b T sz n : Nat} {V : Value} {xs : List Value} (h : w.ownsRow b T sz V n xs) : ∃ A c, V = .slice A n c ∧ n ≤ c := let ⟨A, c, h1, h2, _⟩ := own_form h; ⟨A, c, h1, h2⟩
/-- a graph that lies in the blocks from B to L -/
structure GIn (B L : Nat) (w : World) (A : Option Addr) (c : Nat) (A' : Option Addr) (c' : Nat) (g : GV) : Prop where
  gat : GAt (fun k => B ≤ k ∧ k < L) w A c A' c' g
  a1 : ∀ q, A = some q → B ≤ q.block ∧ q.block < L
  a2 : ∀ q, A' = some q → B ≤ q.block ∧ q.block < L
  sz : L ≤ w.heap.size
theorem RowOf.keep {w w' : World} {sz n : Nat} {A : Option Addr} {Q Q' : Nat → List Value → Prop} (h : RowOf w sz A n Q) (hk : ∀ q, A = some q → w'.heap[q.block]? = w.heap[q.block]?) (hQ : ∀ i cs, i < n → Q i cs → Q' i cs) : RowOf w' sz A n Q' := fun i hi =>
  let ⟨p, cs, h1, h2, h3, h4⟩ := h i hi
  ⟨p, cs, h1, h2, fun j u hu => (World.cell?_of_block (by rw [add_block, add_block]; exact hk p h1)).trans (h3 j u hu), hQ i cs hi h4⟩
theorem GIn.keep {B L : Nat} {w w' : World} {A A' : Option Addr} {c c' : Nat} {g : GV} (h : GIn B L w A c A' c' g) (hs : w.heap.size ≤ w'.heap.size) (hk : ∀ k, B ≤ k → k < L → w'.heap[k]? = w.heap[k]?) : GIn B L w' A c A' c' g :=
  ⟨⟨h.gat.nc, h.gat.ec, h.gat.rn.keep (fun q e => hk _ (h.a1 q e).1 (h.a1 q e).2) (fun _ _ _ hq => hq.keep (fun k hk' => hk k hk'.1 hk'.2) (fun _ h => h)), h.gat.re.keep (fun q e => hk _ (h.a2 q e).1 (h.a2 q e).2) (fun _ _ _ hq => hq.keep (fun k hk' => hk k hk'.1 hk'.2) (fun _ h => h)), h.gat.oks, h.gat.oke⟩, h.a1, h.a2, Nat.le_trans h.sz hs⟩
theorem GIn.below {B L : Nat} {w w' : World} {A A' : Option Addr} {c c' : Nat} {g : GV} (h : GIn B L w A c A' c' g) (hb : Below w.heap.size w w') : GIn B L w' A c A' c' g := h.keep hb.size fun k _ hk => hb.block k (by have := h.sz; omega)
theorem GIn.over {B L q : Nat} {w w' : World} {A A' : Option Addr} {c c' : Nat} {g : GV} (h : GIn B L w A c A' c' g) (hg : w.grownBy w' (some q)) (hq : L ≤ q ∨ q < B) : GIn B L w' A c A' c' g := h.keep hg.size fun k h1 h2 => hg.block k (by have := h.sz; omega) (fun e => by cases e; omega)
theorem Ldr.gin (h : Ldr C L w x m1 m2 V1 V2 g) {B : Nat} (hB : B ≤ C) : ∃ A c A' c', V1 = .slice A g.ns.length c ∧ V2 = .slice A' g.es.length c' ∧ GIn B L w A c A' c' g := by
  obtain ⟨cs1, a1, b1, o1, e1⟩ := h.r1
  obtain ⟨cs2, a2, b2, o2, e2⟩ := h.r2
  obtain ⟨A, c, hV1, hc⟩ := own_slice o1
  obtain ⟨A', c', hV2, hc'⟩ := own_slice o2
  have R1 := Rd.of_own (hV1 ▸ o1)
  have R2 := Rd.of_own (hV2 ▸ o2)
  refine ⟨A, c, A', c', hV1, hV2, ⟨hc, hc', fun i hi => ?_, fun i hi => ?_, h.oks, h.oke⟩, fun q e => ?_, fun q e => ?_, h.Lw⟩
  · obtain ⟨p, hp, hl, hcell⟩ := rd_chunk a1 b1 (by decide) R1 i hi
    exact ⟨p, _, hp, hl, hcell, (e1 i hi).keep (fun _ _ => rfl) (fun k hk => ⟨Nat.le_trans hB hk.1, hk.2.1⟩)⟩
  · obtain ⟨p, hp, hl, hcell⟩ := rd_chunk a2 b2 (by decide) R2 i hi
    exact ⟨p, _, hp, hl, hcell, (e2 i hi).keep (fun _ _ => rfl) (fun k hk => ⟨Nat.le_trans hB hk.1, hk.2.1⟩)⟩
  · have := h.v1 q.block (by rw [hV1, e]; rfl); exact ⟨Nat.le_trans hB this.1, this.2⟩
  · have := h.v2 q.block (by rw [hV2, e]; rfl); exact ⟨Nat.le_trans hB this.1, this.2⟩
end
/-- what reads which line -/
def doesV (x : Nat) : List (List UInt8 × Value) := [(wNode, .func (.func 15) #[.pointer (some ⟨x, 0, none⟩)] #[]), (wEdge, .func (.func 16) #[.pointer (some ⟨x, 0, none⟩)] #[])]
theorem does_node (x : Nat) : mlook (doesV x) wNode = some (.func (.func 15) #[.pointer (some ⟨x, 0, none⟩)] #[]) := by simp [mlook, doesV]
theorem does_edge (x : Nat) : mlook (doesV x) wEdge = some (.func (.func 16) #[.pointer (some ⟨x, 0, none⟩)] #[]) := by
  have h : (wNode == wEdge) = false := by decide
  simp [mlook, doesV, h]
theorem does_none {x : Nat} {k : List UInt8} (h : (mlook (doesV x) k).isSome = false) : k ≠ wNode ∧ k ≠ wEdge :=
  ⟨(fun e => by rw [e, does_node] at h; cases h), (fun e => by rw [e, does_edge] at h; cases h)⟩
theorem ldo_r (C L p x m1 m2 : Nat) (V1 V2 : Value) (g : GV) (s : List UInt8) (w : World) (hne : blanksV s ≠ []) (hP : Blk w p 56 [str (wdRest (blanksV s)), .int .i64 (wdE (blanksV s) 0)]) (hD : Ldr C L w x m1 m2 V1 V2 g) (hp : L ≤ p) (hs : s.length ≤ 4294967295) (hL : Lb w) (hG : Gl p) (hk : (mlook (doesV x) (wd (blanksV s))).isSome = true) :
    ∃ f l, (mlook (doesV x) (wd (blanksV s))).getD .nilFunc = .func (.func f) l #[] ∧ Txt Tryz.prog f ∧ Ret Tryz.prog f (l.toList ++ [.pointer (some ⟨p, 0, none⟩)] ++ (#[] : Array Value).toList) w fun v w' => (v = .tuple #[] ∧ (∃ s', Blk w' p 56 [str s', .int .i64 (lineStep s g).2]) ∧ ((lineStep s g).2 = 0 → ∃ V1' V2', Ldr C w'.heap.size w' x m1 m2 V1' V2' (lineStep s g).1)) ∧ Kq (LQ p x m1 m2 V1 V2) w w' := by
  have h1 := wdRest_le (blanksV s)
  have h2 := blanksV_le s
  by_cases e1 : wd (blanksV s) = wNode
  · have e0 : wdE (blanksV s) 0 = 0 := by unfold wdE; rw [e1]; decide
    have e3 : lineStep s g = nodeStep (wdRest (blanksV s)) 0 g := by unfold lineStep; rw [if_neg hne, if_pos e1]
    rw [e0] at hP
    refine ⟨15, #[.pointer (some ⟨x, 0, none⟩)], by rw [e1, does_node]; rfl, txtLNode, (node_r C L p x m1 m2 V1 V2 g (wdRest (blanksV s)) 0 w hP hD hp (by omega) hL hG).mono fun v w' ⟨⟨a, b, c⟩, d⟩ => ?_⟩
    rw [e3]; exact ⟨⟨a, b, fun h => let ⟨V, hV⟩ := c h; ⟨V, V2, hV⟩⟩, d⟩
  · by_cases e2 : wd (blanksV s) = wEdge
    · have e0 : wdE (blanksV s) 0 = 0 := by unfold wdE; rw [e2]; decide
      have e3 : lineStep s g = edgeStep (wdRest (blanksV s)) 0 g := by unfold lineStep; rw [if_neg hne, if_neg e1, if_pos e2]
      rw [e0] at hP
      refine ⟨16, #[.pointer (some ⟨x, 0, none⟩)], by rw [e2, does_edge]; rfl, txtLEdge, (edge_r C L p x m1 m2 V1 V2 g (wdRest (blanksV s)) 0 w hP hD hp (by omega) hL hG).mono fun v w' ⟨⟨a, b, c⟩, d⟩ => ?_⟩
      rw [e3]; exact ⟨⟨a, b, fun h => let ⟨V, hV⟩ := c h; ⟨V1, V, hV⟩⟩, d⟩
    · exfalso
      have n1 : (wNode == wd (blanksV s)) = false := by simpa using fun e => e1 e.symm
      have n2 : (wEdge == wd (blanksV s)) = false := by simpa using fun e => e2 e.symm
      unfold mlook doesV at hk
      rw [List.find?_cons] at hk
      simp only [n1] at hk
      rw [List.find?_cons] at hk
      simp only [n2] at hk
      simp at hk
theorem gin_nil (B : Nat) (w : World) : GIn B w.heap.size w none 0 none 0 ⟨[], []⟩ := ⟨⟨Nat.le_refl _, Nat.le_refl _, fun i hi => absurd hi (by simp), fun i hi => absurd hi (by simp), by simp, by simp⟩, (fun q e => by cases e), (fun q e => by cases e), Nat.le_refl _⟩
theorem loadGo_drop {l : List (List UInt8)} {i : Nat} (hi : i < l.length) (g : GV) : loadGo (l.drop i) i g = if (lineStep (l.getD i []) g).2 = 0 then loadGo (l.drop (i + 1)) (i + 1) (lineStep (l.getD i []) g).1 else (⟨[], []⟩, (i : Int) + 1, (lineStep (l.getD i []) g).2) := by
  rw [List.drop_eq_getElem_cons hi, getD_at [] hi]; rfl
theorem strs_at {l : List (List UInt8)} {i : Nat} (h : i < l.length) : (strs l)[i]? = some (str (l.getD i [])) := by unfold strs; rw [List.getElem?_map, List.getElem?_eq_getElem h, getD_at [] h]; rfl
theorem two_four {a b c d u : Value} {j : Nat} (h : [a, b][j]? = some u) : [a, b, c, d][j]? = some u := by
  match j, h with
  | 0, h => exact h
  | 1, h => exact h
set_option maxHeartbeats 1000000 in
theorem LParse_r (A : Option Addr) (c n : Nat) (b : List UInt8) (w : World) (hR : Rd w 1 A n (u8s b)) (hn : b.length = n) (hb0 : b.length < 4294967281) (hL : Lb w) :
    Ret Tryz.prog 8 [.slice A n c] w fun v w' => (∃ A1 c1 A2 c2, v = .tuple #[.agg #[.slice A1 (loadV b).1.ns.length c1, .slice A2 (loadV b).1.es.length c2], .int .i64 (loadV b).2.1, .int .i64 (loadV b).2.2] ∧ GIn w.heap.size w'.heap.size w' A1 c1 A2 c2 (loadV b).1) ∧ Below w.heap.size w w' := by
  have hgl := hL.gl
  have hsl := splitL_le b
  have hsn : (splitL b).length ≤ 4294967281 := by rw [splitL_len]; have := List.count_le_length (a := (10 : UInt8)) (l := b); omega
  obtain ⟨ls, hls⟩ : ∃ ls, ls = splitL b := ⟨_, rfl⟩
  have hsn2 : ls.length ≤ 4294967281 := by rw [hls]; exact hsn
  have hlv : loadV b = loadGo ls 0 ⟨[], []⟩ := by rw [hls]; rfl
  have hb := Below.refl w.heap.size w
  have hR_hb := hR
  have hL_hb := hL
  refine enter Tryz.func8 rfl rfl rfl <| Wc.seq fun _ hK_1 => Wc.region <| Wl.allocN (z := (.agg #[(.slice none 0 0), (.slice none 0 0)])) (by kernel_rfl) rfl ?_
  rintro g_o0 w_o0 hg_o0 hn_o0 hs_o0
  have hz_o0 := hs_o0.size
  have hb := hb.trans (hs_o0.mono hb.size)
  have hR := hR_hb.below hb
  have hL := hL_hb.below hb
  have hB_o0 := hn_o0
  have hl_o0 := hB_o0.lt
  refine Wl.sg rfl rfl <| Wl.sg rfl rfl <| Wl.nil <| Wq.next hK_1 <| Wc.seq fun _ hK_5 => Wc.region <| Wl.makeMap rfl ?_
  rintro g_o3 w_o3 hg_o3 hn_o3 hs_o3
  have hz_o3 := hs_o3.size
  have hb := hb.trans (hs_o3.mono hb.size)
  have hR := hR_hb.below hb
  have hL := hL_hb.below hb
  have hB_o0 := Blk.below hB_o0 hs_o3
  have hM_o3 := hn_o3
  have hl_o3 := hM_o3.lt
  refine Wl.makeMap rfl ?_
  rintro g_o4 w_o4 hg_o4 hn_o4 hs_o4
  have hz_o4 := hs_o4.size
  have hb := hb.trans (hs_o4.mono hb.size)
  have hR := hR_hb.below hb
  have hL := hL_hb.below hb
  have hB_o0 := Blk.below hB_o0 hs_o4
  have hM_o3 := Mp.below hM_o3 hs_o4
  have hM_o4 := hn_o4
  have hl_o4 := hM_o4.lt
  refine Wl.y (y_buildS (z := [(.slice none 0 0), (.slice none 0 0), (.map none), (.map none)]) (pl := [(0, 2), (2, 1), (3, 1)]) (cs := [_, _, _, _]) Tryz.underlying50 (by kernel_rfl) (by kernel_rfl) rfl rfl rfl) rfl <| Wl.boxN rfl rfl ?_
  rintro g_o6 w_o6 hg_o6 hn_o6 hs_o6
  have hz_o6 := hs_o6.size
  have hb := hb.trans (hs_o6.mono hb.size)
  have hR := hR_hb.below hb
  have hL := hL_hb.below hb
  have hB_o0 := Blk.below hB_o0 hs_o6
  have hM_o3 := Mp.below hM_o3 hs_o6
  have hM_o4 := Mp.below hM_o4 hs_o6
  have hB_o6 := hn_o6
  have hl_o6 := hB_o6.lt
  refine Wl.sg rfl rfl <| Wl.nil <| Wq.next hK_5 <| Wc.seq fun _ hK_11 => Wc.region <| Wl.makeMap rfl ?_
  rintro g_o8 w_o8 hg_o8 hn_o8 hs_o8
  have hz_o8 := hs_o8.size
  have hb := hb.trans (hs_o8.mono hb.size)
  have hR := hR_hb.below hb
  have hL := hL_hb.below hb
  have hB_o0 := Blk.below hB_o0 hs_o8
  have hM_o3 := Mp.below hM_o3 hs_o8
  have hM_o4 := Mp.below hM_o4 hs_o8
  have hB_o6 := Blk.below hB_o6 hs_o8
  have hM_o8 := hn_o8
  have hl_o8 := hM_o8.lt
  refine Wl.mv rfl rfl <| Wl.y (y_makeFunc rfl rfl) rfl <| Wl.insert Tryz.underlying52 Tryz.underlying9 rfl rfl rfl hM_o8 (by rfl) ?_
  rintro w_o11 hn_o11 hg_o11
  have hz_o11 := hg_o11.size
  have hb := below_blk hb hg_o11 hb.size (by omega)
  have hR := hR_hb.below hb
  have hL := hL_hb.below hb
  have hB_o0 := hB_o0.over hg_o11 (by omega)
  have hM_o3 := hM_o3.over hg_o11 (by omega)
  have hM_o4 := hM_o4.over hg_o11 (by omega)
  have hB_o6 := hB_o6.over hg_o11 (by omega)
  have hM_o8 := hn_o11
  refine Wl.mv rfl rfl <| Wl.y (y_makeFunc rfl rfl) rfl <| Wl.insert Tryz.underlying52 Tryz.underlying9 rfl rfl rfl hM_o8 (by rfl) ?_
  rintro w_o14 hn_o14 hg_o14
  have hz_o14 := hg_o14.size
  have hb := below_blk hb hg_o14 hb.size (by omega)
  have hR := hR_hb.below hb
  have hL := hL_hb.below hb
  have hB_o0 := hB_o0.over hg_o14 (by omega)
  have hM_o3 := hM_o3.over hg_o14 (by omega)
  have hM_o4 := hM_o4.over hg_o14 (by omega)
  have hB_o6 := hB_o6.over hg_o14 (by omega)
  have hM_o8 := hn_o14
  refine Wl.mv rfl rfl <| Wl.sg rfl rfl <| Wl.nil <| Wq.next hK_11 <| Wc.seq fun _ hK_19 => Wc.seq fun _ hK_20 => Wc.region <| Wl.mv rfl rfl <| Wl.l (l_str Tryz.underlying22 Tryz.underlying5 Tryz.underlying9 rfl (by exact hR)) rfl <| Wl.call txt17LdN rfl rfl (Split_r b hb0 _) rfl ?_
  rintro _ w_k0 ⟨⟨G, rfl, hGs, hBs⟩, hs_k0⟩
  have hz_k0 := hs_k0.size
  have hb := hb.trans (hs_k0.mono hb.size)
  have hR := hR_hb.below hb
  have hL := hL_hb.below hb
  have hB_o0 := Blk.below hB_o0 hs_k0
  have hM_o3 := Mp.below hM_o3 hs_k0
  have hM_o4 := Mp.below hM_o4 hs_k0
  have hB_o6 := Blk.below hB_o6 hs_k0
  have hM_o8 := Mp.below hM_o8 hs_k0
  rw [← hls] at hBs ⊢
  have hGl := hBs.lt
  refine Wl.y (y_lenl Tryz.underlying40 (by omega) rfl) rfl <| Wl.mv rfl rfl <| Wl.nil <| Wq.next hK_20 <| Wc.block ?_
  have hCk : w.heap.size ≤ w_k0.heap.size := hb.size
  refine Wc.loop (X := Nat × Value × Value × GV) (fun (i, V1, V2, g) => [(2, .pointer (some ⟨g_o0, 0, none⟩)), (5, .pointer (some ⟨g_o6, 0, none⟩)), (6, .map (some g_o8)), (24, .slice (some ⟨G, 0, none⟩) ls.length ls.length), (25, .int .i64 (ls.length : Int)), (26, .int .i64 (i : Int))]) (fun (i, V1, V2, g) wr => i ≤ ls.length ∧ loadGo (ls.drop i) i g = loadV b ∧ Below w.heap.size w wr ∧ Blk wr g_o0 27 [.slice none 0 0, .slice none 0 0] ∧ Mp wr g_o8 (doesV g_o6) ∧ Blk wr G 9 (strs ls) ∧ Ldr w_k0.heap.size wr.heap.size wr g_o6 g_o3 g_o4 V1 V2 g) (fun (i, V1, V2, g) => ls.length - i) (⟨0, .slice none 0 0, .slice none 0 0, ⟨[], []⟩⟩) ?_ ?_ ?_
  · exact by repeat first | exact Sub.nil | refine Sub.cons' rfl (by first | rfl | exact int_eq (by omega) | exact int_eq (by simp) | (simp; done)) ?_
  · exact ⟨Nat.zero_le _, by rw [hlv]; rfl, hb, hB_o0, hM_o8, hBs, (Ldr.new (C := w_k0.heap.size) (by omega) (by omega) (by omega) (by omega) (by omega) (by omega) (Nat.le_refl _) hB_o6 hM_o3 hM_o4).up⟩
  rintro ⟨i, V1, V2, g⟩ wr hI_27 _ hL_26
  replace hI_27 : i ≤ ls.length ∧ loadGo (ls.drop i) i g = loadV b ∧ Below w.heap.size w wr ∧ Blk wr g_o0 27 [.slice none 0 0, .slice none 0 0] ∧ Mp wr g_o8 (doesV g_o6) ∧ Blk wr G 9 (strs ls) ∧ Ldr w_k0.heap.size wr.heap.size wr g_o6 g_o3 g_o4 V1 V2 g := hI_27
  obtain ⟨hi, hgo, hb, hB_o0, hMd, hBs, hD⟩ := hI_27
  show Wc _ _ _ _ _ [(2, .pointer (some ⟨g_o0, 0, none⟩)), (5, .pointer (some ⟨g_o6, 0, none⟩)), (6, .map (some g_o8)), (24, .slice (some ⟨G, 0, none⟩) ls.length ls.length), (25, .int .i64 (ls.length : Int)), (26, .int .i64 (i : Int))] _
  have hR := hR_hb.below hb
  have hL := hL_hb.below hb
  have hzhb_L0 := hb.size
  have hlhB_o0_L0 := hB_o0.lt
  have hlhMd_L0 := hMd.lt
  have hlhBs_L0 := hBs.lt
  refine Wc.seq fun _ hK_28 => Wc.region <| Wl.y (y_lssi rfl rfl) rfl <| Wl.nil <| Wq.next hK_28 <| Wc.seq fun _ hK_30 => Wc.cond rfl (fun c0_31 => ?_) (fun c0_31 => ?_)
  ·
   have c0_31_ := c0_31
   simp only [DZ] at c0_31
   have hil : i < ls.length := by have := c0_31; omega
   have hLr := hD.Lw
   have hgd := loadGo_drop hil g
   rw [hgo] at hgd
   have hat := strs_at hil
   have hsb : (ls.getD i []).length ≤ 4294967295 := by have h1 := hsl (ls.getD i []) (by rw [← hls, getD_at [] hil]; exact List.getElem_mem hil); omega
   obtain ⟨s, hs⟩ : ∃ s, s = ls.getD i [] := ⟨_, rfl⟩
   rw [← hs] at hgd hat hsb
   have hbl := blanksV_le s
   refine Wc.skip <| Wq.next hK_30 <| Wc.seq fun _ hK_32 => Wc.block <| Wc.seq fun _ hK_33 => Wc.region <| Wl.mv rfl rfl <| Wl.y (y_indexAddr Tryz.underlying40 sz9LdN rfl rfl (by omega) (by omega)) rfl <| Wl.l (l_load one9LdN rfl (by exact at1 (hBs.at hat))) rfl <| Wl.sg rfl rfl <| Wl.sg rfl rfl <| Wl.nil <| Wq.next hK_33 <| Wc.seq fun _ hK_39 => Wc.region <| Wl.mv rfl rfl <| Wl.y (y_buildS (z := [(str []), (.int .i64 0)]) (pl := [(0, 1), (1, 1)]) (cs := [_, _]) Tryz.underlying56 (by kernel_rfl) (by kernel_rfl) rfl rfl rfl) rfl <| Wl.boxN rfl rfl ?_
   rintro g_o26 w_o26 hg_o26 hn_o26 hs_o26
   have hz_o26 := hs_o26.size
   have hb := hb.trans (hs_o26.mono hb.size)
   have hR := hR_hb.below hb
   have hL := hL_hb.below hb
   have hB_o0 := Blk.below hB_o0 hs_o26
   have hMd := Mp.below hMd hs_o26
   have hBs := Blk.below hBs hs_o26
   have hD := Ldr.below hD hs_o26
   have hB_o26 := hn_o26
   have hl_o26 := hB_o26.lt
   refine Wl.sg rfl rfl <| Wl.nil <| Wq.next hK_39 <| Wc.seq fun _ hK_44 => Wc.seq fun _ hK_45 => Wc.region <| Wl.mv rfl rfl <| Wl.call txt18LdN rfl rfl (blanks_r g_o26 s 0 _ hB_o26) rfl ?_
   rintro _ w_k1 ⟨⟨rfl, hB_o26⟩, hs_k1⟩
   have hz_k1 := hs_k1.size
   have hb := hb.trans (Kp.below hs_k1 (by omega) hb.size)
   have hR := hR_hb.below hb
   have hL := hL_hb.below hb
   have hB_o0 := hB_o0.kp hs_k1 (by omega)
   have hMd := hMd.kp hs_k1 (by omega)
   have hBs := hBs.kp hs_k1 (by omega)
   have hD := hD.kp hs_k1
   refine Wl.nil <| Wq.next hK_45 <| Wc.seq fun _ hK_48 => Wc.region <| Wl.mv rfl rfl <| Wl.y (y_nilCheck rfl) rfl <| Wl.y (y_fieldAddr (fa56_0LdN _) rfl) rfl <| Wl.l (l_load one9LdN rfl (by exact hB_o26.at (j := 0) rfl)) rfl <| Wl.y (y_eqls rfl rfl) rfl <| Wl.nil <| Wq.next hK_48 <| Wc.cond rfl (fun c1_54 => ?_) (fun c1_54 => ?_)
   ·
    have c1_54_ := c1_54
    simp only [DZ] at c1_54
    have hst : lineStep s g = (g, 0) := by unfold lineStep; rw [if_pos (by simpa using c1_54)]
    obtain ⟨V1n, hV1n⟩ : ∃ V, V = V1 := ⟨_, rfl⟩
    obtain ⟨V2n, hV2n⟩ : ∃ V, V = V2 := ⟨_, rfl⟩
    obtain ⟨gn, hgnn⟩ : ∃ x, x = g := ⟨_, rfl⟩
    have hgn : loadGo (ls.drop (i + 1)) (i + 1) gn = loadV b := by rw [hgd, hst, if_pos rfl, hgnn]
    have hDn := hD
    rw [← hV1n, ← hV2n, ← hgnn] at hDn
    refine Wc.exit <| Wq.then_exit <| Wq.block_exit <| Wq.next hK_32 <| Wc.region <| Wl.y (y_addI rfl rfl (by omega) (by omega)) rfl <| Wl.mv rfl rfl <| Wl.nil <| fun a_ ha_ => hL_26 _ _ (⟨i + 1, V1n, V2n, gn⟩) (by simp; omega) (by repeat first | exact Sub.nil | refine Sub.cons' rfl (by first | rfl | exact int_eq (by omega) | exact int_eq (by simp) | (simp; done)) ?_) ?_ a_ ha_
    exact ⟨(show i + 1 ≤ ls.length by omega), hgn, hb, hB_o0, hMd, hBs, hDn.up⟩
   have c1_54_ := c1_54
   simp only [DZ] at c1_54
   have hne : blanksV s ≠ [] := by simpa using c1_54
   refine Wc.skip <| Wq.next hK_44 <| Wc.seq fun _ hK_57 => Wc.region <| Wl.mv rfl rfl <| Wl.mv rfl rfl <| Wl.call txt19LdN rfl rfl (word_r g_o26 (blanksV s) 0 _ hB_o26 (by omega)) rfl ?_
   rintro _ w_k2 ⟨⟨rfl, hB_o26⟩, hs_k2⟩
   have hz_k2 := hs_k2.size
   have hb := hb.trans (Kp.below hs_k2 (by omega) hb.size)
   have hR := hR_hb.below hb
   have hL := hL_hb.below hb
   have hB_o0 := hB_o0.kp hs_k2 (by omega)
   have hMd := hMd.kp hs_k2 (by omega)
   have hBs := hBs.kp hs_k2 (by omega)
   have hD := hD.kp hs_k2
   refine Wl.l (l_lookup (z := .nilFunc) Tryz.underlying52 Tryz.underlying9 (by kernel_rfl) rfl rfl (by exact hMd)) rfl <| Wl.mv rfl rfl <| Wl.y (y_extract rfl rfl) rfl <| Wl.y (y_extract rfl rfl) rfl <| Wl.sg rfl rfl <| Wl.sg rfl rfl <| Wl.nil <| Wq.next hK_57 <| Wc.seq fun _ hK_67 => Wc.seq fun _ hK_68 => Wc.region <| Wl.mv rfl rfl <| Wl.y (y_not rfl) rfl <| Wl.nil <| Wq.next hK_68 <| Wc.cond rfl (fun c2_71 => ?_) (fun c2_71 => ?_)
   ·
    have c2_71_ := c2_71
    simp only [DZ] at c2_71
    have hno := does_none (by simpa using c2_71)
    have hst : lineStep s g = (g, 2) := by unfold lineStep; rw [if_neg hne, if_neg hno.1, if_neg hno.2]
    rw [hst, if_neg (by simp)] at hgd
    refine Wc.seq fun _ hK_72 => Wc.region <| Wl.y (y_buildS (z := [(.slice none 0 0), (.slice none 0 0)]) (pl := [(0, 1), (1, 1)]) (cs := [_, _]) Tryz.underlying27 (by kernel_rfl) (by kernel_rfl) rfl rfl rfl) rfl <| Wl.mv rfl rfl <| Wl.y (y_addI rfl rfl (by omega) (by omega)) rfl <| Wl.storeS (by kernel_rfl) rfl rfl hB_o0 rfl rfl ?_
    rintro w_s0 hn_s0 hg_s0
    have hz_s0 := hg_s0.size
    have hb := below_blk hb hg_s0 hb.size (by omega)
    have hR := hR_hb.below hb
    have hL := hL_hb.below hb
    have hMd := hMd.over hg_s0 (by omega)
    have hBs := hBs.over hg_s0 (by omega)
    have hB_o0 := hn_s0
    refine Wl.sg rfl rfl <| Wl.sg rfl rfl <| Wl.nil <| Wq.next hK_72 <| Wc.ret <| Wq.then_ret (Wq.block_ret (Wq.then_ret (Wq.then_ret (Wq.block_ret (Wq.then_ret ?_)))))
    refine retN (rs := [.cell 2 27, .tmp 3, .tmp 4]) (vs := [_, _, _]) rfl (.cell rfl (loadS Tryz.underlying27 (by kernel_rfl) (fun j u hu => hB_o0.at hu)) (.tmp rfl (.tmp rfl .nil))) ?_
    exact ⟨_, rfl, ⟨none, 0, none, 0, by rw [hgd]; rfl, by rw [hgd]; exact gin_nil _ _⟩, hb⟩
   have c2_71_ := c2_71
   simp only [DZ] at c2_71
   have hyes : (mlook (doesV g_o6) (wd (blanksV s))).isSome = true := by simpa using c2_71
   refine Wc.skip <| Wq.next hK_67 <| Wc.seq fun _ hK_78 => Wc.region <| Wl.mv rfl rfl <| Wl.mv rfl rfl ?_
   obtain ⟨f_, l_, hfe, hft, hdo⟩ := ldo_r _ _ g_o26 g_o6 g_o3 g_o4 V1 V2 g s _ hne hB_o26 hD (by omega) hsb hL (hgl.mono (by omega)) hyes
   rw [hfe]
   refine Wl.call hft rfl rfl hdo rfl ?_
   rintro _ w_k3 ⟨⟨rfl, ⟨s', hB_o26⟩, hD2⟩, hq_k3⟩
   have hz_k3 := hq_k3.size
   have hlq : ∀ k, k < w_k0.heap.size → k ≠ g_o6 → k ≠ g_o3 → k ≠ g_o4 → ¬ LQ g_o26 g_o6 g_o3 g_o4 V1 V2 k := fun k a b c d => hD.lq (by omega) a b c d
   have hb := hb.trans (hq_k3.below (fun k hk => hlq k (by omega) (by omega) (by omega) (by omega)) hb.size)
   have hB_o0 : Blk w_k3 g_o0 27 _ := (hq_k3.block g_o0 hB_o0.lt (hlq _ (by omega) (by omega) (by omega) (by omega))).trans hB_o0
   have hMd : Mp w_k3 g_o8 _ := (hq_k3.block g_o8 hMd.lt (hlq _ (by omega) (by omega) (by omega) (by omega))).trans hMd
   have hBs : Blk w_k3 G 9 _ := (hq_k3.block G hBs.lt (hlq _ (by omega) (by omega) (by omega) (by omega))).trans hBs
   refine Wl.nil <| Wq.next hK_78 <| Wc.seq fun _ hK_82 => Wc.region <| Wl.mv rfl rfl <| Wl.y (y_nilCheck rfl) rfl <| Wl.y (y_fieldAddr (fa56_1LdN _) rfl) rfl <| Wl.l (l_load one28LdN rfl (by exact hB_o26.at (j := 1) rfl)) rfl <| Wl.y (y_neqi rfl rfl) rfl <| Wl.nil <| Wq.next hK_82 <| Wc.cond rfl (fun c3_88 => ?_) (fun c3_88 => ?_)
   ·
    have c3_88_ := c3_88
    simp only [DZ] at c3_88
    have hst : ¬ (lineStep s g).2 = 0 := c3_88
    rw [if_neg hst] at hgd
    refine Wc.seq fun _ hK_89 => Wc.any (n := 10) (fun w' => Below w.heap.size w w' ∧ Blk w' g_o26 56 [str s', .int .i64 (lineStep s g).2]) #[false, false, false, false, false, false, false, false, false, false] (by kernel_rfl) rfl (by kernel_rfl) <| Wa.drew ?_
    rintro w_g14 hs_g14
    have hz_g14 := hs_g14.size
    have hb := hb.trans (hs_g14.mono hb.size)
    have hR := hR_hb.below hb
    have hL := hL_hb.below hb
    have hB_o0 := Blk.below hB_o0 hs_g14
    have hMd := Mp.below hMd hs_g14
    have hBs := Blk.below hBs hs_g14
    have hB_o26 := Blk.below hB_o26 hs_g14
    refine Wa.take (i := 0) #[true, false, false, false, false, false, false, false, false, false] rfl (by kernel_rfl) (fun _ _ _ h => h) rfl (fun wq hq => Yl.ld (y_buildS (z := [(.slice none 0 0), (.slice none 0 0)]) (pl := [(0, 1), (1, 1)]) (cs := [_, _]) Tryz.underlying27 (by kernel_rfl) (by kernel_rfl) rfl rfl rfl)) ⟨hb, hB_o26⟩ <| Wa.take (i := 1) #[true, true, false, false, false, false, false, false, false, false] rfl (by kernel_rfl) (fun _ _ _ h => h) rfl (fun wq hq => Yl.ld (y_move rfl)) ⟨hb, hB_o26⟩ <| Wa.take (i := 2) #[true, true, true, false, false, false, false, false, false, false] rfl (by kernel_rfl) (fun _ _ _ h => h) rfl (fun wq hq => Yl.ld (y_addI rfl rfl (by omega) (by omega))) ⟨hb, hB_o26⟩ <| Wa.take (i := 3) #[true, true, true, true, false, false, false, false, false, false] rfl (by kernel_rfl) (fun _ _ _ h => h) rfl (fun wq hq => Yl.ld (y_move rfl)) ⟨hb, hB_o26⟩ <| Wa.take (i := 4) #[true, true, true, true, true, false, false, false, false, false] rfl (by kernel_rfl) (fun _ _ _ h => h) rfl (fun wq hq => Yl.ld (y_nilCheck rfl)) ⟨hb, hB_o26⟩ <| Wa.take (i := 5) #[true, true, true, true, true, true, false, false, false, false] rfl (by kernel_rfl) (fun _ _ _ h => h) rfl (fun wq hq => Yl.ld (y_fieldAddr (fa56_1LdN _) rfl)) ⟨hb, hB_o26⟩ <| Wa.take (i := 6) #[true, true, true, true, true, true, true, false, false, false] rfl (by kernel_rfl) (fun _ _ _ h => h) rfl (fun wq hq => l_load one28LdN rfl (by obtain ⟨hq, hB_o26⟩ := hq; exact hB_o26.at (j := 1) rfl)) ⟨hb, hB_o26⟩ <| Wa.some (rs := [7]) (by kernel_rfl) rfl <| Ws.cons #[true, true, true, true, true, true, true, true, false, false] rfl rfl (fun _ hK_97 => ?_) ?_
    ·
     refine Wl.storeS (by kernel_rfl) rfl rfl hB_o0 rfl rfl ?_
     rintro w_s1 hn_s1 hg_s1
     have hz_s1 := hg_s1.size
     have hb := below_blk hb hg_s1 hb.size (by omega)
     have hR := hR_hb.below hb
     have hL := hL_hb.below hb
     have hMd := hMd.over hg_s1 (by omega)
     have hBs := hBs.over hg_s1 (by omega)
     have hB_o26 := hB_o26.over hg_s1 (by omega)
     have hB_o0 := hn_s1
     refine Wl.nil <| Wq.back hK_97 ⟨hb, hB_o26⟩ <| Wa.take (i := 8) #[true, true, true, true, true, true, true, true, true, false] rfl (by kernel_rfl) (fun _ _ _ h => h) rfl (fun wq hq => Yl.ld (y_assign rfl)) ⟨hb, hB_o26⟩ <| Wa.take (i := 9) #[true, true, true, true, true, true, true, true, true, true] rfl (by kernel_rfl) (fun _ _ _ h => h) rfl (fun wq hq => Yl.ld (y_assign rfl)) ⟨hb, hB_o26⟩ <| Wa.done (by kernel_rfl) <| Wq.next hK_89 <| Wc.ret <| Wq.block_ret (Wq.then_ret (Wq.then_ret (Wq.block_ret (Wq.then_ret ?_))))
     refine retN (rs := [.cell 2 27, .tmp 3, .tmp 4]) (vs := [_, _, _]) rfl (.cell rfl (loadS Tryz.underlying27 (by kernel_rfl) (fun j u hu => hB_o0.at hu)) (.tmp rfl (.tmp rfl .nil))) ?_
     exact ⟨_, rfl, ⟨none, 0, none, 0, by rw [hgd]; rfl, by rw [hgd]; exact gin_nil _ _⟩, hb⟩
    exact Ws.nil
   have c3_88_ := c3_88
   simp only [DZ] at c3_88
   have hst : (lineStep s g).2 = 0 := by have h := c3_88; simpa using h
   rw [if_pos hst] at hgd
   obtain ⟨V1n, V2n, hDn⟩ := hD2 hst
   obtain ⟨gn, hgnn⟩ : ∃ x, x = (lineStep s g).1 := ⟨_, rfl⟩
   rw [← hgnn] at hDn hgd
   have hgn : loadGo (ls.drop (i + 1)) (i + 1) gn = loadV b := hgd.symm
   refine Wc.skip <| Wq.block_normal <| Wq.next hK_32 <| Wc.region <| Wl.y (y_addI rfl rfl (by omega) (by omega)) rfl <| Wl.mv rfl rfl <| Wl.nil <| fun a_ ha_ => hL_26 _ _ (⟨i + 1, V1n, V2n, gn⟩) (by simp; omega) (by repeat first | exact Sub.nil | refine Sub.cons' rfl (by first | rfl | exact int_eq (by omega) | exact int_eq (by simp) | (simp; done)) ?_) ?_ a_ ha_
   exact ⟨(show i + 1 ≤ ls.length by omega), hgn, hb, hB_o0, hMd, hBs, hDn.up⟩
  have c0_31_ := c0_31
  simp only [DZ] at c0_31
  have hie : i = ls.length := by have := c0_31; omega
  have hdone : loadV b = (g, 0, 0) := by rw [← hgo, hie, List.drop_length]; rfl
  refine Wc.exit <| Wq.then_exit <| Wq.then_exit <| Wq.block_exit <| Wq.next hK_19 <| Wc.seq fun _ hK_102 => ?_
  obtain ⟨A1, c1, A2, c2, hV1, hV2, _⟩ := hD.gin (B := w.heap.size) hCk
  subst hV1
  subst hV2
  refine Wc.region <| Wl.mv rfl rfl <| Wl.y (y_nilCheck rfl) rfl <| Wl.y (y_fieldAddr (fa50_0LdN _) rfl) rfl ?_
  refine Wl.l (l_loadS Tryz.underlying27 (by kernel_rfl) rfl (by exact (show ∀ (j : Nat) (u : Value), [Value.slice A1 g.ns.length c1, .slice A2 g.es.length c2][j]? = some u → _ from fun j u hu => by rw [addr_add_add, Nat.zero_add]; exact hD.hx.at (two_four hu)))) rfl ?_
  refine Wl.storeS (by kernel_rfl) rfl rfl hB_o0 rfl rfl ?_
  rintro w_s2 hn_s2 hg_s2
  have hz_s2 := hg_s2.size
  have hb := below_blk hb hg_s2 hb.size (by omega)
  have hR := hR_hb.below hb
  have hL := hL_hb.below hb
  have hMd := hMd.over hg_s2 (by omega)
  have hBs := hBs.over hg_s2 (by omega)
  have hB_o0 := hn_s2
  refine Wl.sg rfl rfl <| Wl.sg rfl rfl <| Wl.nil <| Wq.next hK_102 <| Wc.ret <| retN (rs := [.cell 2 27, .tmp 3, .tmp 4]) (vs := [_, _, _]) rfl (.cell rfl (loadS Tryz.underlying27 (by kernel_rfl) (fun j u hu => hB_o0.at hu)) (.tmp rfl (.tmp rfl .nil))) ?_
  exact ⟨_, rfl, by
  obtain ⟨A1', c1', A2', c2', h1, h2, hG⟩ := (hD.other hg_s2 (by omega) (by omega) (by omega) (by omega)).up.gin (B := w.heap.size) hCk
  rw [hdone]; exact ⟨_, _, _, _, by rw [h1, h2]; rfl, hG⟩, hb⟩
end Go.Proofs.YtjmlknjbhbfneaaGreatDoor
namespace Go.Proofs.YtjmlknjbhbfneaaGreatDoor
open Go.RowKit Go.Bw Go.Bw.Fl
set_option linter.unusedVariables false
set_option linter.unusedSimpArgs false
theorem fa27_0LdO (p : Addr) (w : World) : (Instr.fieldAt 27 (.pointer (some p)) 0).run Tryz.prog w = .ok (.pointer (some (p.add 0))) w := run_fieldAt (i := 0) (sz := 0) Tryz.underlying27 rfl (by kernel_rfl) p w
theorem fa27_1LdO (p : Addr) (w : World) : (Instr.fieldAt 27 (.pointer (some p)) 1).run Tryz.prog w = .ok (.pointer (some (p.add 1))) w := run_fieldAt (i := 1) (sz := 0) Tryz.underlying27 rfl (by kernel_rfl) p w
theorem fa46_3LdO (p : Addr) (w : World) : (Instr.fieldAt 46 (.pointer (some p)) 3).run Tryz.prog w = .ok (.pointer (some (p.add 3))) w := run_fieldAt (i := 3) (sz := 0) Tryz.underlying46 rfl (by kernel_rfl) p w
theorem one24LdO : One Tryz.prog 24 := ⟨_, Tryz.underlying24, rfl, by kernel_rfl⟩
theorem one25LdO : One Tryz.prog 25 := ⟨_, Tryz.underlying25, rfl, by kernel_rfl⟩
theorem one4LdO : One Tryz.prog 4 := ⟨_, Tryz.underlying4, rfl, by kernel_rfl⟩
theorem sz46LdO : (Tryz.prog.info? 46).map (·.size) = some 6 := by kernel_rfl
theorem txt11LdO : Txt Tryz.prog 11 := ⟨_, Tryz.func11, by kernel_rfl, rfl⟩   -- bridleway/load.Print
theorem txt8LdO : Txt Tryz.prog 8 := ⟨_, Tryz.func8, by kernel_rfl, rfl⟩   -- bridleway/load.Parse
def src1 : List UInt8 := [110, 111, 100, 101, 32, 97, 32, 58, 76, 32, 112, 61, 49, 32, 35, 32, 110, 111, 116, 101, 10, 10, 101, 100, 103, 101, 32, 101, 32, 97, 32, 45, 62, 32, 97, 10]
def src2 : List UInt8 := [110, 111, 100, 101, 32, 97, 10, 110, 111, 100, 101, 32, 97]
def gC : GV := ⟨[⟨[97], [[76]], [([112], ⟨2, 1, 0, []⟩)]⟩], [⟨[101], 0, 0, true, [], []⟩]⟩
theorem load1 : loadV src1 = (gC, 0, 0) := by kernel_rfl
theorem load2 : loadV src2 = (⟨[], []⟩, 2, 3) := by kernel_rfl
def txt1 : List UInt8 := [110, 111, 100, 101, 32, 97, 32, 58, 76, 32, 112, 61, 49, 10, 101, 100, 103, 101, 32, 101, 32, 97, 32, 45, 62, 32, 97, 10]
theorem printC : printG gC = txt1 := by kernel_rfl
theorem rightC : rightG gC = 0 := by kernel_rfl
end Go.Proofs.YtjmlknjbhbfneaaGreatDoor
namespace Go.Bw
open Go.RowKit
section
variable {P : Program} {N : Nat} {D : List Deferred} {env env' : Env} {a : Act} {w w' : World} {Q : Exit → Act → World → Prop}
variable {ops : Array Oper} {rest : List Oper} {d : Nat} {op : Op} {ty : TypeId} {pos : String} {af : Array Edge}
/-- the bytes of a constant -/
theorem Wl.frzN {x : Operand} {t e : TypeId} {l : List UInt8} {C : Array Value} {n : Nat} (ht : P.underlying t = some (.slice e)) (he : P.underlying e = some (.int .u8)) (hx : ev env x = some (.slice (some ⟨w.heap.size, 0, none⟩) n n)) (hC : C = (u8s l).toArray) (hn : n = l.length) (hd : Nat.blt d N = true)
    (h : ∀ G w', w.heap.size ≤ G → Rd w' 1 (some ⟨G, 0, none⟩) n (u8s l) → Below w.heap.size w w' → Wl P ops Q rest N D ((d, .slice (some ⟨G, 0, none⟩) n n) :: env) w') : Wl P ops Q (⟨some d, .convert t t x, ty, pos, af, none⟩ :: rest) N D env (w.alloc (.cells C e)) :=
  Wl.m (m_constBytes ht he hx) hd (h _ _ (Nat.le_refl _) (by subst hC; subst hn; exact Go.Proofs.YtjmlknjbhbfneaaGreatDoor.rd_frozen w l e _) (step_alloc _ _))
end
end Go.Bw
namespace Go.Proofs.YtjmlknjbhbfneaaGreatDoor
open Go.RowKit Go.Bw Go.Bw.Fl
set_option linter.unusedVariables false
set_option linter.unusedSimpArgs false
theorem shown8_r (w : World) (hL : Lb w) : Ret Tryz.prog 7 [] w fun v w' => v = .bool true ∧ Below w.heap.size w w' := by
  have hn1 : gC.ns.length = 1 := rfl
  have he1 : gC.es.length = 1 := rfl
  have hb := Below.refl w.heap.size w
  have hL_hb := hL
  refine enter Tryz.func7 rfl rfl rfl <| Wc.seq fun _ hK_1 => Wc.region <| Wl.sg rfl rfl <| Wl.nil <| Wq.next hK_1 <| Wc.seq fun _ hK_3 => Wc.region <| Wl.m (m_lit (sz := 1) (vs := u8s src1) Tryz.underlying22 (by kernel_rfl) rfl rfl rfl rfl rfl) rfl <| Wl.frzN (l := src1) Tryz.underlying22 Tryz.underlying5 rfl rfl rfl rfl ?_
  rintro G1 w_o1 hg_o1 hR1 hs_o1
  have hz_o1 := hs_o1.size
  have hb := hb.trans (hs_o1.mono hb.size)
  have hL := hL_hb.below hb
  refine Wl.call txt8LdO rfl rfl (LParse_r _ _ _ src1 _ hR1 rfl (by decide) hL) rfl ?_
  rintro _ w_k0 ⟨⟨A1, c1, A2, c2, rfl, hG⟩, hs_k0⟩
  have hz_k0 := hs_k0.size
  have hb := hb.trans (hs_k0.mono hb.size)
  have hL := hL_hb.below hb
  rw [load1] at hG ⊢
  dsimp only at hG ⊢
  refine Wl.mv rfl rfl <| Wl.y (y_extract rfl rfl) rfl <| Wl.y (y_extract rfl rfl) rfl <| Wl.y (y_extract rfl rfl) rfl <| Wl.allocN (z := (.agg #[(.slice none 0 0), (.slice none 0 0)])) (by kernel_rfl) rfl ?_
  rintro g_o6 w_o6 hg_o6 hn_o6 hs_o6
  have hz_o6 := hs_o6.size
  have hb := hb.trans (hs_o6.mono hb.size)
  have hL := hL_hb.below hb
  have hG := GIn.below hG hs_o6
  have hB_o6 := hn_o6
  have hl_o6 := hB_o6.lt
  refine Wl.storeS (by kernel_rfl) rfl rfl hB_o6 rfl rfl ?_
  rintro w_s0 hn_s0 hg_s0
  have hz_s0 := hg_s0.size
  have hb := below_blk hb hg_s0 hb.size (by omega)
  have hL := hL_hb.below hb
  have hG := hG.over hg_s0 (by omega)
  have hB_o6 := hn_s0
  refine Wl.sg rfl rfl <| Wl.sg rfl rfl <| Wl.nil <| Wq.next hK_3 <| Wc.seq fun _ hK_14 => Wc.region <| Wl.m (m_lit (sz := 1) (vs := u8s src2) Tryz.underlying22 (by kernel_rfl) rfl rfl rfl rfl rfl) rfl <| Wl.frzN (l := src2) Tryz.underlying22 Tryz.underlying5 rfl rfl rfl rfl ?_
  rintro G2 w_o9 hg_o9 hR2 hs_o9
  have hz_o9 := hs_o9.size
  have hb := hb.trans (hs_o9.mono hb.size)
  have hL := hL_hb.below hb
  have hG := hG.below hs_o9
  have hB_o6 := hB_o6.below hs_o9
  refine Wl.call txt8LdO rfl rfl (LParse_r _ _ _ src2 _ hR2 rfl (by decide) hL) rfl ?_
  rintro _ w_k1 ⟨⟨A3, c3, A4, c4, rfl, hG2⟩, hs_k1⟩
  have hz_k1 := hs_k1.size
  have hb := hb.trans (hs_k1.mono hb.size)
  have hL := hL_hb.below hb
  have hG := GIn.below hG hs_k1
  have hB_o6 := Blk.below hB_o6 hs_k1
  rw [load2]
  dsimp only
  refine Wl.mv rfl rfl <| Wl.y (y_extract rfl rfl) rfl <| Wl.y (y_extract rfl rfl) rfl <| Wl.y (y_extract rfl rfl) rfl <| Wl.allocN (z := (.agg #[(.slice none 0 0), (.slice none 0 0)])) (by kernel_rfl) rfl ?_
  rintro g_o14 w_o14 hg_o14 hn_o14 hs_o14
  have hz_o14 := hs_o14.size
  have hb := hb.trans (hs_o14.mono hb.size)
  have hL := hL_hb.below hb
  have hG := GIn.below hG hs_o14
  have hB_o6 := Blk.below hB_o6 hs_o14
  have hB_o14 := hn_o14
  have hl_o14 := hB_o14.lt
  refine Wl.storeS (by kernel_rfl) rfl rfl hB_o14 rfl rfl ?_
  rintro w_s1 hn_s1 hg_s1
  have hz_s1 := hg_s1.size
  have hb := below_blk hb hg_s1 hb.size (by omega)
  have hL := hL_hb.below hb
  have hG := hG.over hg_s1 (by omega)
  have hB_o6 := hB_o6.over hg_s1 (by omega)
  have hB_o14 := hn_s1
  refine Wl.sg rfl rfl <| Wl.sg rfl rfl <| Wl.nil <| Wq.next hK_14 <| Wc.seq fun _ hK_25 => Wc.region <| Wl.l (l_loadS Tryz.underlying27 (by kernel_rfl) rfl (by exact fun j u hu => hB_o6.at hu)) rfl <| Wl.call txt11LdO rfl rfl (GPrint_r _ _ _ _ _ gC _ hG.gat (by decide) hL) rfl ?_
  rintro _ w_k2 ⟨rfl, hs_k2⟩
  have hz_k2 := hs_k2.size
  have hb := hb.trans (hs_k2.mono hb.size)
  have hL := hL_hb.below hb
  have hG := GIn.below hG hs_k2
  have hB_o6 := Blk.below hB_o6 hs_k2
  rw [rightC, if_pos rfl, printC]
  refine Wl.mv rfl rfl <| Wl.y (y_extract rfl rfl) rfl <| Wl.y (y_extract rfl rfl) rfl <| Wl.sg rfl rfl <| Wl.sg rfl rfl <| Wl.nil <| Wq.next hK_25 <| Wc.seq fun _ hK_33 => Wc.region <| Wl.mv rfl rfl <| Wl.y (y_eqli rfl rfl) rfl <| Wl.mv rfl rfl <| Wl.guardT rfl rfl rfl (fun g_37 => ?_) (fun g_37 => ?_)
  ·
   have g_37_ := g_37
   simp only [DZ] at g_37
   refine Wl.mv rfl rfl <| Wl.on' rfl rfl g_37_ <| Wl.y (y_eqli rfl rfl) rfl <| Wl.y (y_pickT rfl g_37_ rfl) rfl <| Wl.mv rfl rfl <| Wl.guardT rfl rfl rfl (fun g_42 => ?_) (fun g_42 => ?_)
   ·
    have g_42_ := g_42
    simp only [DZ] at g_42
    refine Wl.y (y_fieldAddr (fa27_0LdO _) rfl) rfl <| Wl.on' rfl rfl g_42_ <| Wl.l (l_load one24LdO rfl (by exact hB_o6.at (j := 0) rfl)) rfl <| Wl.on' rfl rfl g_42_ <| Wl.y (y_lenl Tryz.underlying24 (by omega) rfl) rfl <| Wl.on' rfl rfl g_42_ <| Wl.y (y_eqli rfl rfl) rfl <| Wl.y (y_pickT rfl g_42_ rfl) rfl <| Wl.mv rfl rfl <| Wl.guardT rfl rfl rfl (fun g_49 => ?_) (fun g_49 => ?_)
    ·
     have g_49_ := g_49
     simp only [DZ] at g_49
     refine Wl.y (y_fieldAddr (fa27_1LdO _) rfl) rfl <| Wl.on' rfl rfl g_49_ <| Wl.l (l_load one25LdO rfl (by exact hB_o6.at (j := 1) rfl)) rfl <| Wl.on' rfl rfl g_49_ <| Wl.y (y_lenl Tryz.underlying25 (by omega) rfl) rfl <| Wl.on' rfl rfl g_49_ <| Wl.y (y_eqli rfl rfl) rfl <| Wl.y (y_pickT rfl g_49_ rfl) rfl <| Wl.mv rfl rfl <| Wl.guardT rfl rfl rfl (fun g_56 => ?_) (fun g_56 => ?_)
     ·
      have g_56_ := g_56
      simp only [DZ] at g_56
      refine Wl.y (y_fieldAddr (fa27_1LdO _) rfl) rfl <| Wl.on' rfl rfl g_56_ <| Wl.l (l_load one25LdO rfl (by exact hB_o6.at (j := 1) rfl)) rfl <| Wl.on' rfl rfl g_56_ ?_
      obtain ⟨pe_, ecs_, hpe_, hel_, hec_, Ae, ce, Be, ee, hcs_, _⟩ := hG.gat.re 0 (by decide)
      subst hpe_
      subst hcs_
      refine Wl.y (y_indexAddr Tryz.underlying25 sz46LdO rfl rfl (by omega) (by omega)) rfl <| Wl.on' rfl rfl g_56_ <| Wl.y (y_fieldAddr (fa46_3LdO _) rfl) rfl <| Wl.on' rfl rfl g_56_ <| Wl.l (l_load one4LdO rfl (by exact hec_ 3 _ rfl)) rfl <| Wl.y (y_pickT rfl g_56_ rfl) rfl <| Wl.mv rfl rfl <| Wl.guardT rfl rfl rfl (fun g_64 => ?_) (fun g_64 => ?_)
      ·
       have g_64_ := g_64
       refine Wl.mv rfl rfl <| Wl.on' rfl rfl g_64_ <| Wl.y (y_eqli rfl rfl) rfl <| Wl.y (y_pickT rfl g_64_ rfl) rfl <| Wl.mv rfl rfl <| Wl.guardT rfl rfl rfl (fun g_69 => ?_) (fun g_69 => ?_)
       ·
        have g_69_ := g_69
        simp only [DZ] at g_69
        refine Wl.mv rfl rfl <| Wl.on' rfl rfl g_69_ <| Wl.y (y_eqli rfl rfl) rfl <| Wl.y (y_pickT rfl g_69_ rfl) rfl <| Wl.mv rfl rfl <| Wl.guardT rfl rfl rfl (fun g_74 => ?_) (fun g_74 => ?_)
        ·
         have g_74_ := g_74
         simp only [DZ] at g_74
         refine Wl.mv rfl rfl <| Wl.on' rfl rfl g_74_ <| Wl.y (y_eqls rfl rfl) rfl <| Wl.y (y_pickT rfl g_74_ rfl) rfl <| Wl.mv rfl rfl <| Wl.guardT rfl rfl rfl (fun g_79 => ?_) (fun g_79 => ?_)
         ·
          have g_79_ := g_79
          simp only [DZ] at g_79
          refine Wl.mv rfl rfl <| Wl.on' rfl rfl g_79_ <| Wl.y (y_eqli rfl rfl) rfl <| Wl.y (y_pickT rfl g_79_ rfl) rfl <| Wl.sg rfl rfl <| Wl.nil <| Wq.next hK_33 <| Wc.ret <| ret1 rfl rfl ?_
          exact ⟨_, rfl, rfl, hb⟩
         have g_79_ := g_79
         simp only [DZ] at g_79
         exact absurd g_79_ (by decide)
        have g_74_ := g_74
        simp only [DZ] at g_74
        exact absurd g_74_ (by decide)
       have g_69_ := g_69
       simp only [DZ] at g_69
       exact absurd g_69_ (by decide)
      have g_64_ := g_64
      exact absurd g_64_ (by decide)
     have g_56_ := g_56
     simp only [DZ] at g_56
     exact absurd g_56_ (by decide)
    have g_49_ := g_49
    simp only [DZ] at g_49
    exact absurd g_49_ (by decide)
   have g_42_ := g_42
   simp only [DZ] at g_42
   exact absurd g_42_ (by decide)
  have g_37_ := g_37
  simp only [DZ] at g_37
  exact absurd g_37_ (by decide)
end Go.Proofs.YtjmlknjbhbfneaaGreatDoor
