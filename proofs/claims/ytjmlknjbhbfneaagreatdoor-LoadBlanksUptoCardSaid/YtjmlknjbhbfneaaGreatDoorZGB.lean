/- load.fields, and the closure of load.Print, by the calculus; what a Builder's WriteString leaves alone. · load.Print, by the calculus. · load.Print, by the calculus. -/
import Derived.Test.YtjmlknjbhbfneaaGreatDoorZGA
namespace Go.Proofs.YtjmlknjbhbfneaaGreatDoor
open Go.RowKit Go.Bw Go.Bw.Fl
set_option linter.unusedVariables false
set_option linter.unusedSimpArgs false
theorem fa105_0GrP (p : Addr) (w : World) : (Instr.fieldAt 105 (.pointer (some p)) 0).run Tryz.prog w = .ok (.pointer (some (p.add 0))) w := run_fieldAt (i := 0) (sz := 0) Tryz.underlying105 rfl (by kernel_rfl) p w
theorem fa105_1GrP (p : Addr) (w : World) : (Instr.fieldAt 105 (.pointer (some p)) 1).run Tryz.prog w = .ok (.pointer (some (p.add 1))) w := run_fieldAt (i := 1) (sz := 3) Tryz.underlying105 rfl (by kernel_rfl) p w
theorem fa67_1GrP (p : Addr) (w : World) : (Instr.fieldAt 67 (.pointer (some p)) 1).run Tryz.prog w = .ok (.pointer (some (p.add 1))) w := run_fieldAt (i := 1) (sz := 0) Tryz.underlying67 rfl (by kernel_rfl) p w
theorem one22GrP : One Tryz.prog 22 := ⟨_, Tryz.underlying22, rfl, by kernel_rfl⟩
theorem one9GrP : One Tryz.prog 9 := ⟨_, Tryz.underlying9, rfl, by kernel_rfl⟩
theorem sz105GrP : (Tryz.prog.info? 105).map (·.size) = some 5 := by kernel_rfl
theorem sz9GrP : (Tryz.prog.info? 9).map (·.size) = some 1 := by kernel_rfl
theorem txt25GrP : Txt Tryz.prog 25 := ⟨_, Tryz.func25, by kernel_rfl, rfl⟩   -- (*strings.Builder).WriteString
theorem txt26GrP : Txt Tryz.prog 26 := ⟨_, Tryz.func26, by kernel_rfl, rfl⟩   -- strings.Join
theorem txt51GrP : Txt Tryz.prog 51 := ⟨_, Tryz.func51, by kernel_rfl, rfl⟩   -- (*strings.Builder).copyCheck
theorem txt53GrP : Txt Tryz.prog 53 := ⟨_, Tryz.func53, by kernel_rfl, rfl⟩   -- bridleway/value.Text
/-- memory from M on stays -/
def Keep (M : Nat) (w w' : World) : Prop := ∀ k, M ≤ k → k < w.heap.size → w'.heap[k]? = w.heap[k]?
theorem Keep.refl (M : Nat) (w : World) : Keep M w w := fun _ _ _ => rfl
theorem Keep.trans {M : Nat} {a b c : World} (h : Keep M a b) (k : Keep M b c) (hs : a.heap.size ≤ b.heap.size) : Keep M a c := fun j h1 h2 => (k j h1 (by omega)).trans (h j h1 h2)
theorem Keep.of_below {M : Nat} {w w' : World} (h : Below w.heap.size w w') : Keep M w w' := fun k _ hk => h.block k hk
theorem Blk.keep {M g : Nat} {t : TypeId} {cs : List Value} {w w' : World} (h : Blk w g t cs) (hk : Keep M w w') (hg : M ≤ g) : Blk w' g t cs := (hk g hg h.lt).trans h
structure BAt (M B b : Nat) (p v : Value) (l : List UInt8) (w : World) : Prop where
  ge : B ≤ b
  lt : b < M
  at' : w.heap[b]? = some (.cells #[p, v] 67 (0, 0))
  own : w.ownsRow B 5 1 v l.length (Lib.byteCells l)
  ne : v.ownBlock ≠ some b
  buf : ∀ k, v.ownBlock = some k → k < M
def BM (M B b : Nat) (l : List UInt8) (w : World) : Prop := ∃ p v, (p = .pointer none ∨ p = .pointer (some ⟨b, 0, none⟩)) ∧ BAt M B b p v l w
theorem BM.of {B b : Nat} {l : List UInt8} {w : World} (h : Lib.IsBuilder 67 5 B b (Lib.byteCells l) w) : BM w.heap.size B b l w := by
  have hl : (Lib.byteCells l).length = l.length := Lib.byteCells_length l
  rcases h with h | h
  · have hlt := h.lt
    obtain ⟨h1, v, h2, h3, h4⟩ := h
    exact ⟨_, v, .inl rfl, h1, hlt, h2, by rw [hl] at h3; exact h3, h4, fun k hk => (own_ge h3 k hk).2⟩
  · have hlt := h.lt
    obtain ⟨h1, v, h2, h3, h4⟩ := h
    exact ⟨_, v, .inr rfl, h1, hlt, h2, by rw [hl] at h3; exact h3, h4, fun k hk => (own_ge h3 k hk).2⟩
theorem BM.below {M B b : Nat} {l : List UInt8} {w w' : World} (h : BM M B b l w) (hb : Below M w w') : BM M B b l w' := by
  obtain ⟨p, v, hp, h1, h2, h3, h4, h5, h6⟩ := h
  refine ⟨p, v, hp, h1, h2, (hb.block b h2).trans h3, ⟨h4.1, ?_⟩, h5, h6⟩
  rcases h4.2 with h | ⟨g, cap, cur, hv, hg, hh, r⟩
  · exact .inl h
  · exact .inr ⟨g, cap, cur, hv, hg, (hb.block g (h6 g (by rw [hv]; rfl))).trans hh, r⟩
theorem copyCheckM_r (M B b : Nat) (l : List UInt8) (w : World) (h : BM M B b l w) : Ret Tryz.prog 51 [.pointer (some ⟨b, 0, none⟩)] w fun v w' => v = .tuple #[] ∧ (∃ u, BAt M B b (.pointer (some ⟨b, 0, none⟩)) u l w') ∧ Below B w w' ∧ Keep M w w' := by
  obtain ⟨p, v, hp, h⟩ := h
  have hc : w.cell? ⟨b, 0, none⟩ = some p := Lib.cell_of_heap h.at' 0
  rcases hp with rfl | rfl
  · refine (copy_fresh b w hc (by simp [World.shape?, h.at']) (Lib.frozen_of_heap h.at' 0)).mono fun u w' ⟨h1, h2⟩ => ⟨h1, ?_⟩
    subst h2
    refine ⟨⟨v, h.ge, h.lt, by simp [World.setCell, Array.getElem?_modify, h.at'], ?_, h.ne, h.buf⟩, (Below.refl B w).setCell (p := ⟨b, 0, none⟩) h.ge _, fun k hk _ => Below.heap_setCell _ _ _ _ (by have := h.lt; show k ≠ b; omega)⟩
    exact h.own.kept (row := some b) ⟨rfl, rfl, rfl, by simp [World.setCell], fun k _ hk => Below.heap_setCell _ _ _ _ (fun e => hk (by simp [e]))⟩ (.inr h.ne)
  · exact (copy_used b w hc).mono fun u w' ⟨h1, h2⟩ => ⟨h1, by subst h2; exact ⟨⟨v, h⟩, Below.refl B _, Keep.refl _ _⟩⟩
theorem WriteStringM_r (M B b : Nat) (l m : List UInt8) (w : World) (h : BM M B b l w) (hM : M ≤ w.heap.size) (hl : l.length + m.length ≤ 140737488355328) (hBw : B ≤ w.heap.size) : Ret Tryz.prog 25 [.pointer (some ⟨b, 0, none⟩), str m] w fun v w' => v = .tuple #[.int .i64 (m.length : Nat), .nilIface] ∧ Lib.IsBuilder 67 5 B b (Lib.byteCells (l ++ m)) w' ∧ Below B w w' ∧ Keep M w w' := by
  have hbl : (Lib.byteCells l).length = l.length := Lib.byteCells_length l
  have hbm : (Lib.byteCells m).length = m.length := Lib.byteCells_length m
  refine enter Tryz.func25 rfl rfl rfl <| Wc.seq fun _ hK_1 => Wc.region <| Wl.sg rfl rfl <| Wl.sg rfl rfl <| Wl.nil <| Wq.next hK_1 <| Wc.seq fun _ hK_4 => Wc.region <| Wl.mv rfl rfl <| Wl.call txt51GrP rfl rfl (copyCheckM_r M B b _ _ h) rfl ?_
  rintro _ w1 ⟨rfl, hA, hb1, hk1⟩
  refine Wl.nil <| Wq.next hK_4 <| Wc.seq fun _ hK_7 => ?_
  obtain ⟨v, hA⟩ := hA
  have hown := hA.own
  have hbk := hA.at'
  have c1 : w1.cell? ⟨b, 1, none⟩ = some v := by rw [Lib.cell_of_heap hbk]; rfl
  have hsz1 := hb1.size
  refine Wc.region <| Wl.mv rfl rfl <| Wl.mv rfl rfl <| Wl.y (y_nilCheck rfl) rfl <| Wl.y (y_fieldAddr (fa67_1GrP _) rfl) rfl <| Wl.l (l_load one22GrP rfl (c1)) rfl <| Wl.mv rfl rfl <| Wl.appendS (l := m) Tryz.underlying22 Tryz.underlying9 (by kernel_rfl) B rfl hown rfl (by omega) (by omega) rfl ?_
  rintro v3 w3 hown3 hgr
  have hlt : b < w1.heap.size := Nat.lt_of_lt_of_le hA.lt (by omega)
  have hb3 : w3.heap[b]? = some (.cells #[.pointer (some ⟨b, 0, none⟩), v] 67 (0, 0)) := by rw [hgr.block b (by omega) (fun e => hA.ne e.symm)]; exact hbk
  have hk3 : Keep M w1 w3 := fun k h1 h2 => hgr.block k h2 (fun e => by have := hA.buf k e.symm; omega)
  obtain ⟨A3, cc3, hv3, _, _⟩ := own_form hown3
  have hone : v3.oneCell' = true := by rw [hv3]; rfl
  have hb13 : Below B w w3 := hb1.grown hgr (by omega) (fun k hk => (own_ge hown k hk).1)
  have hk13 : Keep M w w3 := hk1.trans hk3 hsz1
  refine Wl.y (y_nilCheck rfl) rfl <| Wl.y (y_fieldAddr (fa67_1GrP _) rfl) rfl <| Wl.s (s_store (p := ⟨b, 1, none⟩) oneBuf rfl rfl hone (by rw [Lib.cell_of_heap hb3]; rfl) (Lib.frozen_of_heap hb3 1)) <| Wl.nil <| Wq.next hK_7 <| Wc.seq fun _ hK_17 => Wc.region <| Wl.mv rfl rfl <| Wl.y (y_lens Tryz.underlying9 (by omega) rfl) rfl <| Wl.sg rfl rfl <| Wl.sg rfl rfl <| Wl.nil <| Wq.next hK_17 <| Wc.ret <| ret2 rfl rfl rfl ?_
  exact ⟨_, rfl, rfl, .inr (by rw [byteCells_app]; exact Lib.BuilderAt.put hA.ge hb3 (by rw [List.length_append, hbl, hbm]; exact hown3) (by decide)), hb13.setCell (p := ⟨b, 1, none⟩) hA.ge _, fun k h1 h2 => (Below.heap_setCell _ _ _ _ (by have := hA.lt; show k ≠ b; omega)).trans (hk13 k h1 h2)⟩
theorem Print1_r (M B b : Nat) (A : Option Addr) (c n : Nat) (xs : List (List UInt8)) (l : List UInt8) (hn : xs.length = n) (hlen : n ≤ 16777216) (hc : n ≤ c) (htot : tot xs ≤ 1099511627776) (w : World) (h : BM M B b l w) (hM : M ≤ w.heap.size) (hBw : B ≤ w.heap.size) (hl : l.length ≤ 1099511627776) (hR : Rd w 1 A n (strs xs)) (hj : (joinV xs).length ≤ 1099511627776) :
    Ret Tryz.prog 24 [.slice A n c, .pointer (some ⟨b, 0, none⟩)] w fun v w' => v = .tuple #[] ∧ Lib.IsBuilder 67 5 B b (Lib.byteCells (l ++ (joinV xs ++ [10]))) w' ∧ Below B w w' ∧ Keep M w w' := by
  have h1 : ([10] : List UInt8).length = 1 := rfl
  have hb := Below.refl w.heap.size w
  refine enter Tryz.func24 rfl rfl rfl <| Wc.region <| Wl.mv rfl rfl <| Wl.call txt26GrP rfl rfl (Join_n A c n xs hn hlen hc htot _ hR) rfl ?_
  rintro _ w_k0 ⟨rfl, hs_k0⟩
  have hz_k0 := hs_k0.size
  have hb := hb.trans (hs_k0.mono hb.size)
  refine Wl.y (y_adds rfl rfl (by omega)) rfl ?_
  have h2 := h.below (hs_k0.mono hM)
  refine Wl.call txt25GrP rfl rfl (WriteStringM_r M B b l (joinV xs ++ [10]) _ h2 (Nat.le_trans hM hs_k0.size) (by rw [List.length_append]; omega) (Nat.le_trans hBw hs_k0.size)) rfl ?_
  rintro _ w_k1 ⟨rfl, hI, hs_k1, hk_k1⟩
  refine Wl.nil <| end0 rfl ?_
  exact ⟨_, rfl, rfl, hI, (hs_k0.mono hBw).trans hs_k1, (Keep.of_below hs_k0).trans hk_k1 hs_k0.size⟩
/-! the fields of a line -/
def propF (p : Pr) : List UInt8 := p.1 ++ 61 :: textQ p.2
def fieldsV (ls : List (List UInt8)) (ps : List Pr) : List (List UInt8) := ls.map (fun l => 58 :: l) ++ ps.map propF
theorem map_take_snoc {α : Type} (f : α → List UInt8) {l : List α} {i : Nat} (d : α) (h : i < l.length) : strs ((l.take (i + 1)).map f) = strs ((l.take i).map f) ++ [str (f (l.getD i d))] := by
  rw [take_snoc d h, List.map_append, List.map_singleton, strs_snoc]
theorem strs_append (a b : List (List UInt8)) : strs (a ++ b) = strs a ++ strs b := by simp [strs]
theorem fields_r (S : Nat → Prop) (A : Option Addr) (c : Nat) (B : Option Addr) (e : Nat) (n : List UInt8) (ls : List (List UInt8)) (ps : List Pr) (w : World) (hN : NodeAt S w A c B e ⟨n, ls, ps⟩) (hok : ∀ p ∈ ps, p.2.Ok) (hri : ∀ p ∈ ps, rightV p.2 = true) (hsz : szN ⟨n, ls, ps⟩ ≤ 268435456) (hL : Lt w) :
    Ret Tryz.prog 27 [.slice A ls.length c, .slice B ps.length e] w fun v w' => w'.ownsRow w.heap.size 9 1 v (ls.length + ps.length) (strs (fieldsV ls ps)) ∧ Below w.heap.size w w' := by
  have hs1 : n.length + szL ls + szP ps + 1 ≤ 268435456 := hsz
  have hpl := szP_len ps
  have hll := szL_len ls
  have h1 : ([58] : List UInt8).length = 1 := rfl
  have h2 : ([61] : List UInt8).length = 1 := rfl
  have hb := Below.refl w.heap.size w
  have hN_hb := hN
  have hL_hb := hL
  refine enter Tryz.func27 rfl rfl rfl <| Wc.seq fun _ hK_1 => Wc.region <| Wl.sg rfl rfl <| Wl.nil <| Wq.next hK_1 <| Wc.seq fun _ hK_3 => Wc.seq fun _ hK_4 => Wc.region <| Wl.mv rfl rfl <| Wl.y (y_lenl Tryz.underlying40 (by omega) rfl) rfl <| Wl.mv rfl rfl <| Wl.nil <| Wq.next hK_4 <| Wc.block <| Wc.loop (X := Nat × Value) (fun (i, v) => [(1, .slice B ps.length e), (4, v), (11, .slice A ls.length c), (12, .int .i64 (ls.length : Int)), (13, .int .i64 (i : Int))]) (fun (i, v) wr => i ≤ ls.length ∧ Below w.heap.size w wr ∧ wr.ownsRow w.heap.size 9 1 v i (strs ((ls.take i).map (fun l => 58 :: l)))) (fun (i, v) => ls.length - i) (⟨0, .slice none 0 0⟩) ?_ ?_ ?_
  · exact by repeat first | exact Sub.nil | refine Sub.cons' rfl (by first | rfl | exact int_eq (by omega) | exact int_eq (by simp) | (simp; done)) ?_
  · exact ⟨by omega, hb, own_nil _ _ _ _⟩
  rintro ⟨i, v⟩ wr hI_9 _ hL_8
  replace hI_9 : i ≤ ls.length ∧ Below w.heap.size w wr ∧ wr.ownsRow w.heap.size 9 1 v i (strs ((ls.take i).map (fun l => 58 :: l))) := hI_9
  obtain ⟨hi, hb, hO⟩ := hI_9
  show Wc _ _ _ _ _ [(1, .slice B ps.length e), (4, v), (11, .slice A ls.length c), (12, .int .i64 (ls.length : Int)), (13, .int .i64 (i : Int))] _
  have hN := hN_hb.below hb
  have hL := hL_hb.below hb
  have hzhb_L0 := hb.size
  refine Wc.seq fun _ hK_10 => Wc.region <| Wl.y (y_lssi rfl rfl) rfl <| Wl.nil <| Wq.next hK_10 <| Wc.seq fun _ hK_12 => Wc.cond rfl (fun c0_13 => ?_) (fun c0_13 => ?_)
  ·
   have c0_13_ := c0_13
   simp only [DZ] at c0_13
   have hil : i < ls.length := by have := c0_13; omega
   have hli := szL_at hil
   obtain ⟨p_, v_, hpe, hve, hcell⟩ := hN.rl.one (i := i) hil
   have hpe : A = some p_ := hpe
   obtain rfl := strs_val hil hve
   subst hpe
   refine Wc.skip <| Wq.next hK_12 <| Wc.seq fun _ hK_14 => Wc.block <| Wc.seq fun _ hK_15 => Wc.region <| Wl.y (y_indexAddr Tryz.underlying40 sz9GrP rfl rfl (by omega) (by omega)) rfl <| Wl.l (l_load one9GrP rfl (by exact at1 hcell)) rfl <| Wl.sg rfl rfl <| Wl.nil <| Wq.next hK_15 <| Wc.region <| Wl.mv rfl rfl <| Wl.mv rfl rfl <| Wl.y (y_adds rfl rfl (by omega)) rfl <| Wl.litN (sz := 1) (vs := [_]) Tryz.underlying40 (by kernel_rfl) rfl rfl rfl rfl rfl rfl ?_
   rintro g_b1 w_b1 hg_b1 hn_b1 hs_b1
   have hz_b1 := hs_b1.size
   have hb := hb.trans (hs_b1.mono hb.size)
   have hN := hN_hb.below hb
   have hL := hL_hb.below hb
   have hO := own_below hO hs_b1
   have hB_b1 := hn_b1
   have hl_b1 := hB_b1.lt
   refine Wl.append (z := (str [])) (sz := 1) (bytes := 16) Tryz.underlying40 (by kernel_rfl) rfl (by decide) _ rfl hO rfl (hB_b1.rd 1 1 rfl) (one_str _) (by simp only [maxLen]; omega) (by omega) (by exact hb.size) rfl ?_
   rintro v_b2 w_b2 hn_b2 hg_b2 ha_b2
   have hz_b2 := hg_b2.size
   have hb := hb.grown hg_b2 hb.size (fun k_ hk_ => by have := (own_ge hO k_ hk_).1; omega)
   have hN := hN_hb.below hb
   have hL := hL_hb.below hb
   have hO := hn_b2
   refine Wl.sg rfl rfl <| Wl.nil <| Wq.block_normal <| Wq.next hK_14 <| Wc.region <| Wl.y (y_addI rfl rfl (by omega) (by omega)) rfl <| Wl.mv rfl rfl <| Wl.nil <| fun a_ ha_ => hL_8 _ _ (⟨i + 1, v_b2⟩) (by simp; omega) (by repeat first | exact Sub.nil | refine Sub.cons' rfl (by first | rfl | exact int_eq (by omega) | exact int_eq (by simp) | (simp; done)) ?_) ?_ a_ ha_
   exact ⟨by omega, hb, by rw [map_take_snoc _ [] hil]; exact hO⟩
  have c0_13_ := c0_13
  simp only [DZ] at c0_13
  have hie : i = ls.length := by have := c0_13; omega
  rw [hie, List.take_length] at hO
  refine Wc.exit <| Wq.then_exit <| Wq.then_exit <| Wq.block_exit <| Wq.next hK_3 <| Wc.seq fun _ hK_27 => Wc.seq fun _ hK_28 => Wc.region <| Wl.mv rfl rfl <| Wl.y (y_lenl Tryz.underlying41 (by omega) rfl) rfl <| Wl.mv rfl rfl <| Wl.nil <| Wq.next hK_28 <| Wc.block <| Wc.loop (X := Nat × Value) (fun (i, v) => [(4, v), (23, .slice B ps.length e), (24, .int .i64 (ps.length : Int)), (25, .int .i64 (i : Int))]) (fun (i, v) wr => i ≤ ps.length ∧ Below w.heap.size w wr ∧ wr.ownsRow w.heap.size 9 1 v (ls.length + i) (strs (ls.map (fun l => 58 :: l) ++ (ps.take i).map propF))) (fun (i, v) => ps.length - i) (⟨0, v⟩) ?_ ?_ ?_
  · exact by repeat first | exact Sub.nil | refine Sub.cons' rfl (by first | rfl | exact int_eq (by omega) | exact int_eq (by simp) | (simp; done)) ?_
  · exact ⟨by omega, hb, by simpa using hO⟩
  rintro ⟨i, v⟩ wr hI_33 _ hL_32
  replace hI_33 : i ≤ ps.length ∧ Below w.heap.size w wr ∧ wr.ownsRow w.heap.size 9 1 v (ls.length + i) (strs (ls.map (fun l => 58 :: l) ++ (ps.take i).map propF)) := hI_33
  obtain ⟨hi, hb, hO⟩ := hI_33
  show Wc _ _ _ _ _ [(4, v), (23, .slice B ps.length e), (24, .int .i64 (ps.length : Int)), (25, .int .i64 (i : Int))] _
  have hN := hN_hb.below hb
  have hL := hL_hb.below hb
  have hzhb_L1 := hb.size
  refine Wc.seq fun _ hK_34 => Wc.region <| Wl.y (y_lssi rfl rfl) rfl <| Wl.nil <| Wq.next hK_34 <| Wc.seq fun _ hK_36 => Wc.cond rfl (fun c1_37 => ?_) (fun c1_37 => ?_)
  ·
   have c1_37_ := c1_37
   simp only [DZ] at c1_37
   have hil : i < ps.length := by have := c1_37; omega
   have hpi := szP_at hil
   have hoi := ok_at hok hil
   have hrii : rightV (ps.getD i pr0).2 = true := by rw [getD_at pr0 hil]; exact hri _ (List.getElem_mem hil)
   have htl := textQ_len hoi hrii
   obtain ⟨p_, hpe, hcell⟩ := rd_elem propC (l := ps) (by omega) propC_len hN.rp hil pr0
   have hpe : B = some p_ := hpe
   subst hpe
   refine Wc.skip <| Wq.next hK_36 <| Wc.seq fun _ hK_38 => Wc.block <| Wc.seq fun _ hK_39 => Wc.region <| Wl.y (y_indexAddr Tryz.underlying41 sz105GrP rfl rfl (by omega) (by omega)) rfl <| Wl.l (l_loadS Tryz.underlying105 (by kernel_rfl) rfl (by exact at5 hcell)) rfl ?_
   have hap_ := own_apart hO
   refine Wl.allocN (z := (.agg #[(str []), (.int .i64 0), (.int .i64 0), (.float .f64 0), (str [])])) (by kernel_rfl) rfl ?_
   rintro g_o14 w_o14 hg_o14 hn_o14 hs_o14
   have hz_o14 := hs_o14.size
   have hb := hb.trans (hs_o14.mono hb.size)
   have hN := hN_hb.below hb
   have hL := hL_hb.below hb
   have hO := own_below hO hs_o14
   have hB_o14 := hn_o14
   have hl_o14 := hB_o14.lt
   refine Wl.storeS (by kernel_rfl) rfl rfl hB_o14 rfl rfl ?_
   rintro w_s0 hn_s0 hg_s0
   have hz_s0 := hg_s0.size
   have hb := below_blk hb hg_s0 hb.size (by omega)
   have hN := hN_hb.below hb
   have hL := hL_hb.below hb
   have hO := World.ownsRow.kept hO hg_s0 (by exact hap_ _ hg_o14)
   have hB_o14 := hn_s0
   refine Wl.nil <| Wq.next hK_39 <| Wc.seq fun _ hK_43 => Wc.region <| Wl.y (y_fieldAddr (fa105_1GrP _) rfl) rfl <| Wl.l (l_loadS Tryz.underlying96 (by kernel_rfl) rfl (by exact show ∀ (j : Nat) (u : Value), (ps.getD i pr0).2.cells[j]? = some u → _ from fun j u hu => by rw [addr_add_add]; exact hB_o14.at (by rw [Nat.add_comm]; exact hu))) rfl <| Wl.call txt53GrP rfl rfl (TextQ_r (ps.getD i pr0).2 hoi (by omega) _ hL) rfl ?_
   rintro _ w_k0 ⟨rfl, hs_k0⟩
   have hz_k0 := hs_k0.size
   have hb := hb.trans (hs_k0.mono hb.size)
   have hN := hN_hb.below hb
   have hL := hL_hb.below hb
   have hO := own_below hO hs_k0
   have hB_o14 := Blk.below hB_o14 hs_k0
   refine Wl.mv rfl rfl <| Wl.y (y_extract rfl rfl) rfl <| Wl.y (y_extract rfl rfl) rfl <| Wl.sg rfl rfl <| Wl.sg rfl rfl <| Wl.nil <| Wq.next hK_43 <| Wc.region <| Wl.mv rfl rfl <| Wl.y (y_fieldAddr (fa105_0GrP _) rfl) rfl <| Wl.l (l_load one9GrP rfl (by exact hB_o14.at (j := 0) rfl)) rfl <| Wl.y (y_adds rfl rfl (by rw [h2]; omega)) rfl <| Wl.mv rfl rfl <| Wl.y (y_eq (y_adds rfl rfl (by rw [List.length_append, h2]; omega)) (str_eq (show _ = propF (ps.getD i pr0) by simp [propF]))) rfl <| Wl.litN (sz := 1) (vs := [_]) Tryz.underlying40 (by kernel_rfl) rfl rfl rfl rfl rfl rfl ?_
   rintro g_b4 w_b4 hg_b4 hn_b4 hs_b4
   have hz_b4 := hs_b4.size
   have hb := hb.trans (hs_b4.mono hb.size)
   have hN := hN_hb.below hb
   have hL := hL_hb.below hb
   have hO := own_below hO hs_b4
   have hB_b4 := hn_b4
   have hl_b4 := hB_b4.lt
   refine Wl.append (z := (str [])) (sz := 1) (bytes := 16) Tryz.underlying40 (by kernel_rfl) rfl (by decide) _ rfl hO rfl (hB_b4.rd 1 1 rfl) (one_str _) (by simp only [maxLen]; omega) (by omega) (by exact hb.size) rfl ?_
   rintro v_b5 w_b5 hn_b5 hg_b5 ha_b5
   have hz_b5 := hg_b5.size
   have hb := hb.grown hg_b5 hb.size (fun k_ hk_ => by have := (own_ge hO k_ hk_).1; omega)
   have hN := hN_hb.below hb
   have hL := hL_hb.below hb
   have hO := hn_b5
   refine Wl.sg rfl rfl <| Wl.nil <| Wq.block_normal <| Wq.next hK_38 <| Wc.region <| Wl.y (y_addI rfl rfl (by omega) (by omega)) rfl <| Wl.mv rfl rfl <| Wl.nil <| fun a_ ha_ => hL_32 _ _ (⟨i + 1, v_b5⟩) (by simp; omega) (by repeat first | exact Sub.nil | refine Sub.cons' rfl (by first | rfl | exact int_eq (by omega) | exact int_eq (by simp) | (simp; done)) ?_) ?_ a_ ha_
   exact ⟨by omega, hb, by rw [strs_append, map_take_snoc _ pr0 hil, ← List.append_assoc, ← strs_append]; exact hO⟩
  have c1_37_ := c1_37
  simp only [DZ] at c1_37
  have hie : i = ps.length := by have := c1_37; omega
  rw [hie, List.take_length] at hO
  refine Wc.exit <| Wq.then_exit <| Wq.then_exit <| Wq.block_exit <| Wq.next hK_27 <| Wc.seq fun _ hK_63 => Wc.region <| Wl.mv rfl rfl <| Wl.sg rfl rfl <| Wl.nil <| Wq.next hK_63 <| Wc.ret <| ret1 rfl rfl ?_
  exact ⟨_, rfl, hO, hb⟩
end Go.Proofs.YtjmlknjbhbfneaaGreatDoor
namespace Go.Proofs.YtjmlknjbhbfneaaGreatDoor
open Go.RowKit Go.Bw Go.Bw.Fl
set_option linter.unusedVariables false
set_option linter.unusedSimpArgs false

def wNode : List UInt8 := [110, 111, 100, 101]
def wEdge : List UInt8 := [101, 100, 103, 101]
def arrowV (b : Bool) : List UInt8 := if b = true then [45, 62] else [45, 45]
def nodeF (d : ND) : List (List UInt8) := [wNode, d.n] ++ fieldsV d.ls d.ps
def edgeF (g : GV) (d : ED) : List (List UInt8) := [wEdge, d.n, (g.ns.getD d.fr.toNat nd0).n, arrowV d.dir, (g.ns.getD d.tw.toNat nd0).n] ++ fieldsV d.ls d.ps
def nodeL (d : ND) : List UInt8 := joinV (nodeF d) ++ [10]
def edgeL (g : GV) (d : ED) : List UInt8 := joinV (edgeF g d) ++ [10]
def printG (g : GV) : List UInt8 := g.ns.flatMap nodeL ++ g.es.flatMap (edgeL g)
theorem rightG_zero {g : GV} (h : rightG g = 0) : g.ns.length ≤ 1000 ∧ g.es.length ≤ 1000 ∧ okG g = true := by
  unfold rightG at h
  split at h
  · cases h
  · split at h
    · rename_i h1 h2; exact ⟨by omega, by omega, h2⟩
    · cases h
theorem okG_n {g : GV} (h : okG g = true) {i : Nat} (hi : i < g.ns.length) : nodeV (g.ns.getD i nd0) = true := by
  unfold okG at h; simp only [Bool.and_eq_true] at h; exact allN_iff.1 h.1.2 i hi
theorem okG_e {g : GV} (h : okG g = true) {i : Nat} (hi : i < g.es.length) : edgeV g.ns.length (g.es.getD i ed0) = true := by
  unfold okG at h; simp only [Bool.and_eq_true] at h; exact allN_iff.1 h.2 i hi
theorem elem_right {n : List UInt8} {ls : List (List UInt8)} {ps : List Pr} (h : elementV n ls ps = true) : ∀ p ∈ ps, rightV p.2 = true := fun p hp => by
  unfold elementV at h; simp only [Bool.and_eq_true] at h
  obtain ⟨i, hi, rfl⟩ := List.getElem_of_mem hp
  have h2 := allN_iff.1 h.1.1.1 i hi
  unfold valueAt at h2
  rw [getD_at pr0 hi] at h2
  simp only [Bool.and_eq_true] at h2; exact h2.2
theorem edge_ends {n : Nat} {d : ED} (h : edgeV n d = true) : elementV d.n d.ls d.ps = true ∧ (0 ≤ d.fr ∧ d.fr < n) ∧ (0 ≤ d.tw ∧ d.tw < n) := by
  unfold edgeV isV at h; simp only [Bool.and_eq_true, decide_eq_true_eq] at h; exact ⟨h.1.1, h.1.2, h.2⟩
/-! lengths -/
theorem joinV_len (l : List (List UInt8)) : (joinV l).length ≤ l.length + tot l := by
  cases l with
  | nil => simp [joinV]
  | cons x r => unfold joinV; rw [List.length_append, flat_len]; simp [tot]; omega
theorem tot_app (a b : List (List UInt8)) : tot (a ++ b) = tot a + tot b := by simp [tot]
theorem tot_cons (a : List UInt8) (b : List (List UInt8)) : tot (a :: b) = a.length + tot b := by simp [tot]
theorem fieldsV_len (ls : List (List UInt8)) (ps : List Pr) : (fieldsV ls ps).length = ls.length + ps.length := by simp [fieldsV]
theorem tot_labels (ls : List (List UInt8)) : tot (ls.map fun l => 58 :: l) = szL ls := by
  induction ls with
  | nil => rfl
  | cons a r ih => rw [List.map_cons, tot_cons, ih]; simp [szL]
theorem tot_props : ∀ (ps : List Pr) (hok : ∀ p ∈ ps, p.2.Ok) (hr : ∀ p ∈ ps, rightV p.2 = true), tot (ps.map propF) ≤ 62 * szP ps
  | [], _, _ => by simp [tot]
  | p :: r, hok, hr => by
    have ih := tot_props r (fun q hq => hok q (List.mem_cons_of_mem _ hq)) (fun q hq => hr q (List.mem_cons_of_mem _ hq))
    have h1 := textQ_len (hok p List.mem_cons_self) (hr p List.mem_cons_self)
    have h2 : (propF p).length = p.1.length + (textQ p.2).length + 1 := by simp [propF]; omega
    have h3 : szP (p :: r) = p.1.length + p.2.s.length + 1 + szP r := by simp [szP]
    rw [List.map_cons, tot_cons, h2, h3]; omega
theorem tot_fields (ls : List (List UInt8)) (ps : List Pr) (hok : ∀ p ∈ ps, p.2.Ok) (hr : ∀ p ∈ ps, rightV p.2 = true) : tot (fieldsV ls ps) ≤ szL ls + 62 * szP ps := by
  unfold fieldsV; rw [tot_app, tot_labels]; have := tot_props ps hok hr; omega
theorem flat_bound {α : Type} (f : α → List UInt8) (s : α → Nat) (K C : Nat) : ∀ (l : List α) (h : ∀ a ∈ l, (f a).length ≤ K * s a + C), (l.flatMap f).length ≤ K * (l.map s).sum + C * l.length
  | [], _ => by simp
  | a :: r, h => by
    have h1 := flat_bound f s K C r (fun b hb => h b (List.mem_cons_of_mem _ hb))
    have h2 := h a List.mem_cons_self
    rw [List.flatMap_cons, List.length_append, List.map_cons, List.sum_cons, List.length_cons, Nat.mul_add, Nat.mul_add]; omega
theorem flat_pre {α : Type} (f : α → List UInt8) (l : List α) (i : Nat) : ((l.take i).flatMap f).length ≤ (l.flatMap f).length := by
  have := congrArg (fun l => (l.flatMap f).length) (List.take_append_drop i l)
  simp only [List.flatMap_append, List.length_append] at this; omega
theorem flat_snoc {α : Type} (f : α → List UInt8) {l : List α} {i : Nat} (d : α) (h : i < l.length) : (l.take (i + 1)).flatMap f = (l.take i).flatMap f ++ f (l.getD i d) := by
  rw [take_snoc d h, List.flatMap_append]; simp
theorem nodeL_len {d : ND} (hok : ∀ p ∈ d.ps, p.2.Ok) (h : nodeV d = true) : (nodeL d).length ≤ 64 * szN d + 10 := by
  have hr := elem_right h
  have h1 := tot_fields d.ls d.ps hok hr
  have h2 := joinV_len (nodeF d)
  have h3 : tot (nodeF d) = 4 + d.n.length + tot (fieldsV d.ls d.ps) := by unfold nodeF; rw [tot_app, tot_cons, tot_cons]; simp [tot, wNode]
  have h4 : (nodeF d).length = 2 + (d.ls.length + d.ps.length) := by unfold nodeF; rw [List.length_append, fieldsV_len]; rfl
  have h5 := szL_len d.ls
  have h6 := szP_len d.ps
  unfold nodeL szN; rw [List.length_append]; simp only [List.length_cons, List.length_nil]; omega
theorem edgeL_len {g : GV} {d : ED} (hok : ∀ p ∈ d.ps, p.2.Ok) (h : edgeV g.ns.length d = true) : (edgeL g d).length ≤ 64 * szE d + (2 * szG g + 20) := by
  obtain ⟨h0, hf, ht⟩ := edge_ends h
  have hr := elem_right h0
  have h1 := tot_fields d.ls d.ps hok hr
  have h2 := joinV_len (edgeF g d)
  have e1 := szG_n (g := g) (i := d.fr.toNat) (by omega)
  have e2 := szG_n (g := g) (i := d.tw.toNat) (by omega)
  have e3 : (g.ns.getD d.fr.toNat nd0).n.length ≤ szG g := by unfold szN at e1; omega
  have e4 : (g.ns.getD d.tw.toNat nd0).n.length ≤ szG g := by unfold szN at e2; omega
  have e5 : (arrowV d.dir).length = 2 := by unfold arrowV; split <;> rfl
  have h3 : tot (edgeF g d) = 4 + d.n.length + (g.ns.getD d.fr.toNat nd0).n.length + 2 + (g.ns.getD d.tw.toNat nd0).n.length + tot (fieldsV d.ls d.ps) := by unfold edgeF; rw [tot_app]; simp only [tot_cons, e5]; simp [tot, wEdge]; omega
  have h4 : (edgeF g d).length = 5 + (d.ls.length + d.ps.length) := by unfold edgeF; rw [List.length_append, fieldsV_len]; rfl
  have h5 := szL_len d.ls
  have h6 := szP_len d.ps
  unfold edgeL szE; rw [List.length_append]; simp only [List.length_cons, List.length_nil]; omega
theorem print_len {g : GV} (hoks : ∀ d ∈ g.ns, ∀ p ∈ d.ps, p.2.Ok) (hoke : ∀ d ∈ g.es, ∀ p ∈ d.ps, p.2.Ok) (h : okG g = true) (hn : g.ns.length ≤ 1000) (he : g.es.length ≤ 1000) : (g.ns.flatMap nodeL).length + (g.es.flatMap (edgeL g)).length ≤ 2100 * szG g + 40000 := by
  have h1 := flat_bound nodeL szN 64 10 g.ns (fun d hd => by
    obtain ⟨i, hi, rfl⟩ := List.getElem_of_mem hd
    have := okG_n h hi; rw [getD_at nd0 hi] at this
    exact nodeL_len (hoks _ hd) this)
  have h2 := flat_bound (edgeL g) szE 64 (2 * szG g + 20) g.es (fun d hd => by
    obtain ⟨i, hi, rfl⟩ := List.getElem_of_mem hd
    have := okG_e h hi; rw [getD_at ed0 hi] at this
    exact edgeL_len (hoke _ hd) this)
  have h3 : (2 * szG g + 20) * g.es.length ≤ (2 * szG g + 20) * 1000 := Nat.mul_le_mul_left _ he
  have h4 : (g.ns.map szN).sum + (g.es.map szE).sum = szG g := rfl
  omega
end Go.Proofs.YtjmlknjbhbfneaaGreatDoor
namespace Go.Proofs.YtjmlknjbhbfneaaGreatDoor
open Go.RowKit Go.Bw Go.Bw.Fl
set_option linter.unusedVariables false
set_option linter.unusedSimpArgs false
theorem fa27_0GrR (p : Addr) (w : World) : (Instr.fieldAt 27 (.pointer (some p)) 0).run Tryz.prog w = .ok (.pointer (some (p.add 0))) w := run_fieldAt (i := 0) (sz := 0) Tryz.underlying27 rfl (by kernel_rfl) p w
theorem fa27_1GrR (p : Addr) (w : World) : (Instr.fieldAt 27 (.pointer (some p)) 1).run Tryz.prog w = .ok (.pointer (some (p.add 1))) w := run_fieldAt (i := 1) (sz := 0) Tryz.underlying27 rfl (by kernel_rfl) p w
theorem fa43_0GrR (p : Addr) (w : World) : (Instr.fieldAt 43 (.pointer (some p)) 0).run Tryz.prog w = .ok (.pointer (some (p.add 0))) w := run_fieldAt (i := 0) (sz := 0) Tryz.underlying43 rfl (by kernel_rfl) p w
theorem fa43_1GrR (p : Addr) (w : World) : (Instr.fieldAt 43 (.pointer (some p)) 1).run Tryz.prog w = .ok (.pointer (some (p.add 1))) w := run_fieldAt (i := 1) (sz := 0) Tryz.underlying43 rfl (by kernel_rfl) p w
theorem fa43_2GrR (p : Addr) (w : World) : (Instr.fieldAt 43 (.pointer (some p)) 2).run Tryz.prog w = .ok (.pointer (some (p.add 2))) w := run_fieldAt (i := 2) (sz := 0) Tryz.underlying43 rfl (by kernel_rfl) p w
theorem fa46_0GrR (p : Addr) (w : World) : (Instr.fieldAt 46 (.pointer (some p)) 0).run Tryz.prog w = .ok (.pointer (some (p.add 0))) w := run_fieldAt (i := 0) (sz := 0) Tryz.underlying46 rfl (by kernel_rfl) p w
theorem fa46_1GrR (p : Addr) (w : World) : (Instr.fieldAt 46 (.pointer (some p)) 1).run Tryz.prog w = .ok (.pointer (some (p.add 1))) w := run_fieldAt (i := 1) (sz := 0) Tryz.underlying46 rfl (by kernel_rfl) p w
theorem fa46_2GrR (p : Addr) (w : World) : (Instr.fieldAt 46 (.pointer (some p)) 2).run Tryz.prog w = .ok (.pointer (some (p.add 2))) w := run_fieldAt (i := 2) (sz := 0) Tryz.underlying46 rfl (by kernel_rfl) p w
theorem fa46_3GrR (p : Addr) (w : World) : (Instr.fieldAt 46 (.pointer (some p)) 3).run Tryz.prog w = .ok (.pointer (some (p.add 3))) w := run_fieldAt (i := 3) (sz := 0) Tryz.underlying46 rfl (by kernel_rfl) p w
theorem fa46_4GrR (p : Addr) (w : World) : (Instr.fieldAt 46 (.pointer (some p)) 4).run Tryz.prog w = .ok (.pointer (some (p.add 4))) w := run_fieldAt (i := 4) (sz := 0) Tryz.underlying46 rfl (by kernel_rfl) p w
theorem fa46_5GrR (p : Addr) (w : World) : (Instr.fieldAt 46 (.pointer (some p)) 5).run Tryz.prog w = .ok (.pointer (some (p.add 5))) w := run_fieldAt (i := 5) (sz := 0) Tryz.underlying46 rfl (by kernel_rfl) p w
theorem one24GrR : One Tryz.prog 24 := ⟨_, Tryz.underlying24, rfl, by kernel_rfl⟩
theorem one25GrR : One Tryz.prog 25 := ⟨_, Tryz.underlying25, rfl, by kernel_rfl⟩
theorem one3GrR : One Tryz.prog 3 := ⟨_, Tryz.underlying3, rfl, by kernel_rfl⟩
theorem one4GrR : One Tryz.prog 4 := ⟨_, Tryz.underlying4, rfl, by kernel_rfl⟩
theorem one40GrR : One Tryz.prog 40 := ⟨_, Tryz.underlying40, rfl, by kernel_rfl⟩
theorem one41GrR : One Tryz.prog 41 := ⟨_, Tryz.underlying41, rfl, by kernel_rfl⟩
theorem one9GrR : One Tryz.prog 9 := ⟨_, Tryz.underlying9, rfl, by kernel_rfl⟩
theorem sz43GrR : (Tryz.prog.info? 43).map (·.size) = some 3 := by kernel_rfl
theorem sz46GrR : (Tryz.prog.info? 46).map (·.size) = some 6 := by kernel_rfl
theorem txt12GrR : Txt Tryz.prog 12 := ⟨_, Tryz.func12, by kernel_rfl, rfl⟩   -- bridleway/graph.Right
theorem txt27GrR : Txt Tryz.prog 27 := ⟨_, Tryz.func27, by kernel_rfl, rfl⟩   -- bridleway/load.fields
theorem txt28GrR : Txt Tryz.prog 28 := ⟨_, Tryz.func28, by kernel_rfl, rfl⟩   -- (*strings.Builder).String
theorem txtP1 : Txt Tryz.prog 24 := ⟨_, Tryz.func24, by kernel_rfl, rfl⟩
theorem strs_one (l : List (List UInt8)) : ∀ u ∈ strs l, u.oneCell' = true := fun u hu => by
  unfold strs at hu; obtain ⟨x, _, rfl⟩ := List.mem_map.1 hu; rfl
theorem GPrint_r (S : Nat → Prop) (A : Option Addr) (c : Nat) (B : Option Addr) (e : Nat) (g : GV) (w : World) (hG : GAt S w A c B e g) (hsz : szG g ≤ 8388608) (hL : Lt w) :
    Ret Tryz.prog 11 [.agg #[.slice A g.ns.length c, .slice B g.es.length e]] w fun v w' => v = .tuple #[str (if rightG g = 0 then printG g else []), .int .i64 (rightG g)] ∧ Below w.heap.size w w' := by
  have hnl := szG_nlen g
  have hel := szG_elen g
  have hb := Below.refl w.heap.size w
  have hG_hb := hG
  have hL_hb := hL
  refine enter Tryz.func11 rfl rfl rfl <| Wc.seq fun _ hK_1 => Wc.region <| Wl.boxN rfl rfl ?_
  rintro g_o0 w_o0 hg_o0 hn_o0 hs_o0
  have hz_o0 := hs_o0.size
  have hb := hb.trans (hs_o0.mono hb.size)
  have hG := hG_hb.below hb
  have hL := hL_hb.below hb
  have hB_o0 := hn_o0
  have hl_o0 := hB_o0.lt
  refine Wl.sg rfl rfl <| Wl.sg rfl rfl <| Wl.nil <| Wq.next hK_1 <| Wc.seq fun _ hK_5 => Wc.seq fun _ hK_6 => Wc.region <| Wl.l (l_loadS Tryz.underlying27 (by kernel_rfl) rfl (by exact fun j u hu => hB_o0.at hu)) rfl <| Wl.call txt12GrR rfl rfl (GRight_r S A c B e g _ hG (by omega)) rfl ?_
  rintro _ w_k0 ⟨rfl, hs_k0⟩
  have hz_k0 := hs_k0.size
  have hb := hb.trans (hs_k0.mono hb.size)
  have hG := hG_hb.below hb
  have hL := hL_hb.below hb
  have hB_o0 := Blk.below hB_o0 hs_k0
  refine Wl.sg rfl rfl <| Wl.nil <| Wq.next hK_6 <| Wc.seq fun _ hK_10 => Wc.region <| Wl.mv rfl rfl <| Wl.y (y_neqi rfl rfl) rfl <| Wl.nil <| Wq.next hK_10 <| Wc.cond rfl (fun c0_13 => ?_) (fun c0_13 => ?_)
  ·
   have c0_13_ := c0_13
   simp only [DZ] at c0_13
   refine Wc.seq fun _ hK_14 => Wc.region <| Wl.mv rfl rfl <| Wl.sg rfl rfl <| Wl.sg rfl rfl <| Wl.nil <| Wq.next hK_14 <| Wc.ret <| Wq.then_ret <| ret2 rfl rfl rfl ?_
   exact ⟨_, rfl, by rw [if_neg (by simpa using c0_13)]; rfl, hb⟩
  have c0_13_ := c0_13
  simp only [DZ] at c0_13
  obtain ⟨hn1, he1, hok⟩ := rightG_zero (g := g) (by simpa using c0_13)
  have hpl := print_len hG.oks hG.oke hok hn1 he1
  have hGk := hG
  refine Wc.skip <| Wq.next hK_5 <| Wc.seq fun _ hK_18 => ?_
  have hbB := Below.refl w_k0.heap.size w_k0
  have hB_o0_hbB := hB_o0
  refine Wc.region <| Wl.allocN (z := (.agg #[(.pointer none), (.slice none 0 0)])) (by kernel_rfl) rfl ?_
  rintro g_o9 w_o9 hg_o9 hn_o9 hs_o9
  have hz_o9 := hs_o9.size
  have hb := hb.trans (hs_o9.mono hb.size)
  have hG := hG_hb.below hb
  have hL := hL_hb.below hb
  have hbB := hbB.trans (hs_o9.mono hbB.size)
  have hB_o0 := hB_o0_hbB.below hbB
  have hB_o9 := hn_o9
  have hl_o9 := hB_o9.lt
  refine Wl.nil <| Wq.next hK_18 <| Wc.seq fun _ hK_20 => Wc.region <| Wl.y (y_makeFunc rfl rfl) rfl <| Wl.sg rfl rfl <| Wl.nil <| Wq.next hK_20 <| Wc.seq fun _ hK_23 => Wc.seq fun _ hK_24 => ?_
  have hI : Lib.IsBuilder 67 5 w_k0.heap.size g_o9 (Lib.byteCells []) w_o9 := .inl ⟨hg_o9, _, hB_o9, World.ownsRow_nil _ _ _ _, by simp [Value.ownBlock]⟩
  refine Wc.region <| Wl.y (y_fieldAddr (fa27_0GrR _) rfl) rfl <| Wl.l (l_load one24GrR rfl (by exact hB_o0.at (j := 0) rfl)) rfl <| Wl.y (y_lenl Tryz.underlying24 (by omega) rfl) rfl <| Wl.mv rfl rfl <| Wl.nil <| Wq.next hK_24 <| Wc.block <| Wc.loop (X := Nat) (fun i => [(1, .pointer (some ⟨g_o0, 0, none⟩)), (5, .pointer (some ⟨g_o9, 0, none⟩)), (6, .func (.func 24) #[] #[.pointer (some ⟨g_o9, 0, none⟩)]), (19, .slice A g.ns.length c), (20, .int .i64 (g.ns.length : Int)), (21, .int .i64 (i : Int))]) (fun i wr => i ≤ g.ns.length ∧ Below w.heap.size w wr ∧ Below w_k0.heap.size w_k0 wr ∧ Lib.IsBuilder 67 5 w_k0.heap.size g_o9 (Lib.byteCells ((g.ns.take i).flatMap nodeL)) wr) (fun i => g.ns.length - i) (0) ?_ ?_ ?_
  · exact by repeat first | exact Sub.nil | refine Sub.cons' rfl (by first | rfl | exact int_eq (by omega) | exact int_eq (by simp) | (simp; done)) ?_
  · exact ⟨by omega, hb, hbB, hI⟩
  rintro i wr hI_30 _ hL_29
  replace hI_30 : i ≤ g.ns.length ∧ Below w.heap.size w wr ∧ Below w_k0.heap.size w_k0 wr ∧ Lib.IsBuilder 67 5 w_k0.heap.size g_o9 (Lib.byteCells ((g.ns.take i).flatMap nodeL)) wr := hI_30
  obtain ⟨hi, hb, hbB, hI⟩ := hI_30
  show Wc _ _ _ _ _ [(1, .pointer (some ⟨g_o0, 0, none⟩)), (5, .pointer (some ⟨g_o9, 0, none⟩)), (6, .func (.func 24) #[] #[.pointer (some ⟨g_o9, 0, none⟩)]), (19, .slice A g.ns.length c), (20, .int .i64 (g.ns.length : Int)), (21, .int .i64 (i : Int))] _
  have hG := hG_hb.below hb
  have hL := hL_hb.below hb
  have hB_o0 := hB_o0_hbB.below hbB
  have hzhb_L0 := hb.size
  have hzhbB_L0 := hbB.size
  refine Wc.seq fun _ hK_31 => ?_
  have hs_k0size : w.heap.size ≤ w_k0.heap.size := by omega
  refine Wc.region <| Wl.y (y_lssi rfl rfl) rfl <| Wl.nil <| Wq.next hK_31 <| Wc.seq fun _ hK_33 => Wc.cond rfl (fun c1_34 => ?_) (fun c1_34 => ?_)
  ·
   have c1_34_ := c1_34
   simp only [DZ] at c1_34
   have hil : i < g.ns.length := by have := c1_34; omega
   obtain ⟨p_, cs_, hpe, hcl, hcell, hQ⟩ := hG.rn i hil
   obtain ⟨A1, c1, B1, e1, rfl, hN⟩ := hQ
   have hszn := szG_n hil
   have hnd := okG_n hok hil
   have hokn := oks_at (f := fun d : ND => d.ps) hG.oks nd0 hil
   have hpre := flat_pre nodeL g.ns i
   have hnll := nodeL_len hokn hnd
   have htf := tot_fields (g.ns.getD i nd0).ls (g.ns.getD i nd0).ps hokn (elem_right hnd)
   have hs1 : (g.ns.getD i nd0).n.length + szL (g.ns.getD i nd0).ls + szP (g.ns.getD i nd0).ps + 1 ≤ szG g := hszn
   have hq1 := szL_len (g.ns.getD i nd0).ls
   have hq2 := szP_len (g.ns.getD i nd0).ps
   subst hpe
   refine Wc.skip <| Wq.next hK_33 <| Wc.seq fun _ hK_35 => Wc.block <| Wc.seq fun _ hK_36 => Wc.region ?_
   have hbR := Below.refl wr.heap.size wr
   have hN_hbR := hN
   refine Wl.y (y_indexAddr Tryz.underlying24 sz43GrR rfl rfl (by omega) (by omega)) rfl <| Wl.l (l_loadS Tryz.underlying43 (by kernel_rfl) rfl (by exact at5 hcell)) rfl <| Wl.allocN (z := (.agg #[(str []), (.slice none 0 0), (.slice none 0 0)])) (by kernel_rfl) rfl ?_
   rintro g_o15 w_o15 hg_o15 hn_o15 hs_o15
   have hz_o15 := hs_o15.size
   have hb := hb.trans (hs_o15.mono hb.size)
   have hG := hG_hb.below hb
   have hL := hL_hb.below hb
   have hbB := hbB.trans (hs_o15.mono hbB.size)
   have hB_o0 := hB_o0_hbB.below hbB
   have hbR := hbR.trans (hs_o15.mono hbR.size)
   have hN := hN_hbR.below hbR
   have hB_o15 := hn_o15
   have hl_o15 := hB_o15.lt
   refine Wl.storeS (by kernel_rfl) rfl rfl hB_o15 rfl rfl ?_
   rintro w_s0 hn_s0 hg_s0
   have hz_s0 := hg_s0.size
   have hb := below_blk hb hg_s0 hb.size (by omega)
   have hG := hG_hb.below hb
   have hL := hL_hb.below hb
   have hbB := below_blk hbB hg_s0 hbB.size (by omega)
   have hB_o0 := hB_o0_hbB.below hbB
   have hbR := below_blk hbR hg_s0 hbR.size (by omega)
   have hN := hN_hbR.below hbR
   have hB_o15 := hn_s0
   refine Wl.nil <| Wq.next hK_36 <| Wc.any (n := 11) (fun w' => Below w_k0.heap.size w_k0 w' ∧ Blk w' g_o15 43 [str (g.ns.getD i nd0).n, .slice A1 (g.ns.getD i nd0).ls.length c1, .slice B1 (g.ns.getD i nd0).ps.length e1]) #[false, false, false, false, false, false, false, false, false, false, false] (by kernel_rfl) rfl (by kernel_rfl) <| Wa.drew ?_
   rintro w_g9 hs_g9
   have hz_g9 := hs_g9.size
   have hb := hb.trans (hs_g9.mono hb.size)
   have hG := hG_hb.below hb
   have hL := hL_hb.below hb
   have hbB := hbB.trans (hs_g9.mono hbB.size)
   have hB_o0 := hB_o0_hbB.below hbB
   have hbR := hbR.trans (hs_g9.mono hbR.size)
   have hN := hN_hbR.below hbR
   have hB_o15 := Blk.below hB_o15 hs_g9
   refine Wa.take (i := 0) #[true, false, false, false, false, false, false, false, false, false, false] rfl (by kernel_rfl) (fun _ _ _ h => h) rfl (fun wq hq => Yl.ld (y_move rfl)) ⟨hbB, hB_o15⟩ <| Wa.take (i := 1) #[true, true, false, false, false, false, false, false, false, false, false] rfl (by kernel_rfl) (fun _ _ _ h => h) rfl (fun wq hq => Yl.ld (y_fieldAddr (fa43_0GrR _) rfl)) ⟨hbB, hB_o15⟩ <| Wa.take (i := 2) #[true, true, true, false, false, false, false, false, false, false, false] rfl (by kernel_rfl) (fun _ _ _ h => h) rfl (fun wq hq => l_load one9GrR rfl (by obtain ⟨hq, hB_o15⟩ := hq; exact hB_o15.at (j := 0) rfl)) ⟨hbB, hB_o15⟩ <| Wa.take (i := 4) #[true, true, true, false, true, false, false, false, false, false, false] rfl (by kernel_rfl) (fun _ _ _ h => h) rfl (fun wq hq => Yl.ld (y_fieldAddr (fa43_1GrR _) rfl)) ⟨hbB, hB_o15⟩ <| Wa.take (i := 5) #[true, true, true, false, true, true, false, false, false, false, false] rfl (by kernel_rfl) (fun _ _ _ h => h) rfl (fun wq hq => l_load one40GrR rfl (by obtain ⟨hq, hB_o15⟩ := hq; exact hB_o15.at (j := 1) rfl)) ⟨hbB, hB_o15⟩ <| Wa.take (i := 6) #[true, true, true, false, true, true, true, false, false, false, false] rfl (by kernel_rfl) (fun _ _ _ h => h) rfl (fun wq hq => Yl.ld (y_fieldAddr (fa43_2GrR _) rfl)) ⟨hbB, hB_o15⟩ <| Wa.take (i := 7) #[true, true, true, false, true, true, true, true, false, false, false] rfl (by kernel_rfl) (fun _ _ _ h => h) rfl (fun wq hq => l_load one41GrR rfl (by obtain ⟨hq, hB_o15⟩ := hq; exact hB_o15.at (j := 2) rfl)) ⟨hbB, hB_o15⟩ <| Wa.some (rs := [3, 8]) (by kernel_rfl) rfl <| Ws.cons #[true, true, true, true, true, true, true, true, false, false, false] rfl rfl (fun _ hK_47 => ?_) ?_
   ·
    refine Wl.litN (sz := 1) (vs := [_, _]) Tryz.underlying40 (by kernel_rfl) rfl rfl rfl rfl rfl rfl ?_
    rintro g_b1 w_b1 hg_b1 hn_b1 hs_b1
    have hz_b1 := hs_b1.size
    have hb := hb.trans (hs_b1.mono hb.size)
    have hG := hG_hb.below hb
    have hL := hL_hb.below hb
    have hbB := hbB.trans (hs_b1.mono hbB.size)
    have hB_o0 := hB_o0_hbB.below hbB
    have hbR := hbR.trans (hs_b1.mono hbR.size)
    have hN := hN_hbR.below hbR
    have hB_o15 := Blk.below hB_o15 hs_b1
    have hB_b1 := hn_b1
    have hl_b1 := hB_b1.lt
    refine Wl.nil <| Wq.back hK_47 ⟨hbB, hB_o15⟩ <| Wa.some (rs := [8]) (by kernel_rfl) rfl <| Ws.cons #[true, true, true, true, true, true, true, true, true, false, false] rfl rfl (fun _ hK_49 => ?_) ?_
    ·
     refine Wl.call txt27GrR rfl rfl (fields_r S A1 c1 B1 e1 _ _ _ _ hN hokn (elem_right hnd) (Nat.le_trans hszn (Nat.le_trans hsz (by decide))) hL) rfl ?_
     rintro _ w_k1 ⟨hO2, hs_k1⟩
     have hz_k1 := hs_k1.size
     have hb := hb.trans (hs_k1.mono hb.size)
     have hG := hG_hb.below hb
     have hL := hL_hb.below hb
     have hbB := hbB.trans (hs_k1.mono hbB.size)
     have hB_o0 := hB_o0_hbB.below hbB
     have hbR := hbR.trans (hs_k1.mono hbR.size)
     have hN := hN_hbR.below hbR
     have hB_o15 := Blk.below hB_o15 hs_k1
     have hB_b1 := Blk.below hB_b1 hs_k1
     refine Wl.nil <| Wq.back hK_49 ⟨hbB, hB_o15⟩ <| Wa.some (rs := [9]) (by kernel_rfl) rfl <| Ws.cons #[true, true, true, true, true, true, true, true, true, true, false] rfl rfl (fun _ hK_51 => ?_) ?_
     ·
      obtain ⟨Af, cf, hvf, _, _⟩ := own_form hO2
      subst hvf
      have hOl := hB_b1.own (base := wr.heap.size) (n := 2) (sz := 1) (by omega) rfl (by decide)
      refine Wl.append (z := (str [])) (sz := 1) (bytes := 16) Tryz.underlying40 (by kernel_rfl) rfl (by decide) _ rfl hOl rfl (Rd.of_own hO2) (strs_one _) (by simp only [maxLen]; omega) (by omega) (by omega) rfl ?_
      rintro v_b2 w_b2 hn_b2 hg_b2 ha_b2
      have hz_b2 := hg_b2.size
      have hb := hb.grown hg_b2 hb.size (fun k_ hk_ => by have := (own_ge hOl k_ hk_).1; omega)
      have hG := hG_hb.below hb
      have hL := hL_hb.below hb
      have hbB := hbB.grown hg_b2 hbB.size (fun k_ hk_ => by have := (own_ge hOl k_ hk_).1; omega)
      have hB_o0 := hB_o0_hbB.below hbB
      have hbR := hbR.grown hg_b2 hbR.size (fun k_ hk_ => by have := (own_ge hOl k_ hk_).1; omega)
      have hN := hN_hbR.below hbR
      have hB_o15 := Blk.grown hB_o15 hg_b2 (by first | assumption | (simp [Value.ownBlock]; omega))
      have hOl := hn_b2
      refine Wl.nil <| Wq.back hK_51 ⟨hbB, hB_o15⟩ <| Wa.some (rs := [10]) (by kernel_rfl) rfl <| Ws.cons #[true, true, true, true, true, true, true, true, true, true, true] rfl rfl (fun _ hK_53 => ?_) ?_
      ·
       obtain ⟨Ac, cc, hvc, hcc, _⟩ := own_form hOl
       subst hvc
       have hxs : (nodeF (g.ns.getD i nd0)).length = 2 + ((g.ns.getD i nd0).ls.length + (g.ns.getD i nd0).ps.length) := by unfold nodeF; rw [List.length_append, fieldsV_len]; rfl
       have htx : tot (nodeF (g.ns.getD i nd0)) = 4 + (g.ns.getD i nd0).n.length + tot (fieldsV (g.ns.getD i nd0).ls (g.ns.getD i nd0).ps) := by unfold nodeF; rw [tot_app, tot_cons, tot_cons]; simp [tot, wNode]
       have hjl := joinV_len (nodeF (g.ns.getD i nd0))
       have hBM := (BM.of hI).below hbR
       refine Wl.call txtP1 rfl rfl (Print1_r wr.heap.size w_k0.heap.size g_o9 Ac cc _ (nodeF (g.ns.getD i nd0)) _ hxs (by omega) hcc (by omega) _ hBM hbR.size hbB.size (by omega) (Rd.of_own hOl) (by omega)) rfl ?_
       rintro _ w_k2 ⟨rfl, hI2, hs_k2, hkp⟩
       have hz_k2 := hs_k2.size
       have hb := hb.trans (hs_k2.mono hs_k0size)
       have hbB := hbB.trans hs_k2
       have hB_o15 := Blk.keep hB_o15 hkp (by omega)
       refine Wl.nil <| Wq.back hK_53 ⟨hbB, hB_o15⟩ <| Wa.done (by kernel_rfl) <| Wq.block_normal <| Wq.next hK_35 <| Wc.region <| Wl.y (y_addI rfl rfl (by omega) (by omega)) rfl <| Wl.mv rfl rfl <| Wl.nil <| fun a_ ha_ => hL_29 _ _ (i + 1) (by omega) (by repeat first | exact Sub.nil | refine Sub.cons' rfl (by first | rfl | exact int_eq (by omega) | exact int_eq (by simp) | (simp; done)) ?_) ?_ a_ ha_
       exact ⟨by omega, hb, hbB, by rw [flat_snoc _ nd0 hil]; exact hI2⟩
      exact Ws.nil
     exact Ws.nil
    exact Ws.nil
   refine Ws.cons #[true, true, true, false, true, true, true, true, true, false, false] rfl rfl (fun _ hK_57 => ?_) ?_
   ·
    refine Wl.call txt27GrR rfl rfl (fields_r S A1 c1 B1 e1 _ _ _ _ hN hokn (elem_right hnd) (Nat.le_trans hszn (Nat.le_trans hsz (by decide))) hL) rfl ?_
    rintro _ w_k1 ⟨hO2, hs_k1⟩
    have hz_k1 := hs_k1.size
    have hb := hb.trans (hs_k1.mono hb.size)
    have hG := hG_hb.below hb
    have hL := hL_hb.below hb
    have hbB := hbB.trans (hs_k1.mono hbB.size)
    have hB_o0 := hB_o0_hbB.below hbB
    have hbR := hbR.trans (hs_k1.mono hbR.size)
    have hN := hN_hbR.below hbR
    have hB_o15 := Blk.below hB_o15 hs_k1
    refine Wl.nil <| Wq.back hK_57 ⟨hbB, hB_o15⟩ <| Wa.some (rs := [3]) (by kernel_rfl) rfl <| Ws.cons #[true, true, true, true, true, true, true, true, true, false, false] rfl rfl (fun _ hK_59 => ?_) ?_
    ·
     refine Wl.litN (sz := 1) (vs := [_, _]) Tryz.underlying40 (by kernel_rfl) rfl rfl rfl rfl rfl rfl ?_
     rintro g_b1 w_b1 hg_b1 hn_b1 hs_b1
     have hz_b1 := hs_b1.size
     have hb := hb.trans (hs_b1.mono hb.size)
     have hG := hG_hb.below hb
     have hL := hL_hb.below hb
     have hbB := hbB.trans (hs_b1.mono hbB.size)
     have hB_o0 := hB_o0_hbB.below hbB
     have hbR := hbR.trans (hs_b1.mono hbR.size)
     have hN := hN_hbR.below hbR
     have hB_o15 := Blk.below hB_o15 hs_b1
     have hO2 := own_below hO2 hs_b1
     have hB_b1 := hn_b1
     have hl_b1 := hB_b1.lt
     refine Wl.nil <| Wq.back hK_59 ⟨hbB, hB_o15⟩ <| Wa.some (rs := [9]) (by kernel_rfl) rfl <| Ws.cons #[true, true, true, true, true, true, true, true, true, true, false] rfl rfl (fun _ hK_61 => ?_) ?_
     ·
      obtain ⟨Af, cf, hvf, _, _⟩ := own_form hO2
      subst hvf
      have hOl := hB_b1.own (base := wr.heap.size) (n := 2) (sz := 1) (by omega) rfl (by decide)
      refine Wl.append (z := (str [])) (sz := 1) (bytes := 16) Tryz.underlying40 (by kernel_rfl) rfl (by decide) _ rfl hOl rfl (Rd.of_own hO2) (strs_one _) (by simp only [maxLen]; omega) (by omega) (by omega) rfl ?_
      rintro v_b2 w_b2 hn_b2 hg_b2 ha_b2
      have hz_b2 := hg_b2.size
      have hb := hb.grown hg_b2 hb.size (fun k_ hk_ => by have := (own_ge hOl k_ hk_).1; omega)
      have hG := hG_hb.below hb
      have hL := hL_hb.below hb
      have hbB := hbB.grown hg_b2 hbB.size (fun k_ hk_ => by have := (own_ge hOl k_ hk_).1; omega)
      have hB_o0 := hB_o0_hbB.below hbB
      have hbR := hbR.grown hg_b2 hbR.size (fun k_ hk_ => by have := (own_ge hOl k_ hk_).1; omega)
      have hN := hN_hbR.below hbR
      have hB_o15 := Blk.grown hB_o15 hg_b2 (by first | assumption | (simp [Value.ownBlock]; omega))
      have hOl := hn_b2
      refine Wl.nil <| Wq.back hK_61 ⟨hbB, hB_o15⟩ <| Wa.some (rs := [10]) (by kernel_rfl) rfl <| Ws.cons #[true, true, true, true, true, true, true, true, true, true, true] rfl rfl (fun _ hK_63 => ?_) ?_
      ·
       obtain ⟨Ac, cc, hvc, hcc, _⟩ := own_form hOl
       subst hvc
       have hxs : (nodeF (g.ns.getD i nd0)).length = 2 + ((g.ns.getD i nd0).ls.length + (g.ns.getD i nd0).ps.length) := by unfold nodeF; rw [List.length_append, fieldsV_len]; rfl
       have htx : tot (nodeF (g.ns.getD i nd0)) = 4 + (g.ns.getD i nd0).n.length + tot (fieldsV (g.ns.getD i nd0).ls (g.ns.getD i nd0).ps) := by unfold nodeF; rw [tot_app, tot_cons, tot_cons]; simp [tot, wNode]
       have hjl := joinV_len (nodeF (g.ns.getD i nd0))
       have hBM := (BM.of hI).below hbR
       refine Wl.call txtP1 rfl rfl (Print1_r wr.heap.size w_k0.heap.size g_o9 Ac cc _ (nodeF (g.ns.getD i nd0)) _ hxs (by omega) hcc (by omega) _ hBM hbR.size hbB.size (by omega) (Rd.of_own hOl) (by omega)) rfl ?_
       rintro _ w_k2 ⟨rfl, hI2, hs_k2, hkp⟩
       have hz_k2 := hs_k2.size
       have hb := hb.trans (hs_k2.mono hs_k0size)
       have hbB := hbB.trans hs_k2
       have hB_o15 := Blk.keep hB_o15 hkp (by omega)
       refine Wl.nil <| Wq.back hK_63 ⟨hbB, hB_o15⟩ <| Wa.done (by kernel_rfl) <| Wq.block_normal <| Wq.next hK_35 <| Wc.region <| Wl.y (y_addI rfl rfl (by omega) (by omega)) rfl <| Wl.mv rfl rfl <| Wl.nil <| fun a_ ha_ => hL_29 _ _ (i + 1) (by omega) (by repeat first | exact Sub.nil | refine Sub.cons' rfl (by first | rfl | exact int_eq (by omega) | exact int_eq (by simp) | (simp; done)) ?_) ?_ a_ ha_
       exact ⟨by omega, hb, hbB, by rw [flat_snoc _ nd0 hil]; exact hI2⟩
      exact Ws.nil
     exact Ws.nil
    exact Ws.nil
   exact Ws.nil
  have c1_34_ := c1_34
  simp only [DZ] at c1_34
  have hie : i = g.ns.length := by have := c1_34; omega
  rw [hie, List.take_length] at hI
  refine Wc.exit <| Wq.then_exit <| Wq.then_exit <| Wq.block_exit <| Wq.next hK_23 <| Wc.seq fun _ hK_67 => Wc.seq fun _ hK_68 => Wc.region <| Wl.y (y_fieldAddr (fa27_1GrR _) rfl) rfl <| Wl.l (l_load one25GrR rfl (by exact hB_o0.at (j := 1) rfl)) rfl <| Wl.y (y_lenl Tryz.underlying25 (by omega) rfl) rfl <| Wl.mv rfl rfl <| Wl.nil <| Wq.next hK_68 <| Wc.block <| Wc.loop (X := Nat) (fun i => [(1, .pointer (some ⟨g_o0, 0, none⟩)), (5, .pointer (some ⟨g_o9, 0, none⟩)), (6, .func (.func 24) #[] #[.pointer (some ⟨g_o9, 0, none⟩)]), (38, .slice B g.es.length e), (39, .int .i64 (g.es.length : Int)), (40, .int .i64 (i : Int))]) (fun i wr => i ≤ g.es.length ∧ Below w.heap.size w wr ∧ Below w_k0.heap.size w_k0 wr ∧ Lib.IsBuilder 67 5 w_k0.heap.size g_o9 (Lib.byteCells (g.ns.flatMap nodeL ++ (g.es.take i).flatMap (edgeL g))) wr) (fun i => g.es.length - i) (0) ?_ ?_ ?_
  · exact by repeat first | exact Sub.nil | refine Sub.cons' rfl (by first | rfl | exact int_eq (by omega) | exact int_eq (by simp) | (simp; done)) ?_
  · exact ⟨by omega, hb, hbB, by simpa using hI⟩
  rintro i wr hI_74 _ hL_73
  replace hI_74 : i ≤ g.es.length ∧ Below w.heap.size w wr ∧ Below w_k0.heap.size w_k0 wr ∧ Lib.IsBuilder 67 5 w_k0.heap.size g_o9 (Lib.byteCells (g.ns.flatMap nodeL ++ (g.es.take i).flatMap (edgeL g))) wr := hI_74
  obtain ⟨hi, hb, hbB, hI⟩ := hI_74
  show Wc _ _ _ _ _ [(1, .pointer (some ⟨g_o0, 0, none⟩)), (5, .pointer (some ⟨g_o9, 0, none⟩)), (6, .func (.func 24) #[] #[.pointer (some ⟨g_o9, 0, none⟩)]), (38, .slice B g.es.length e), (39, .int .i64 (g.es.length : Int)), (40, .int .i64 (i : Int))] _
  have hG := hG_hb.below hb
  have hL := hL_hb.below hb
  have hB_o0 := hB_o0_hbB.below hbB
  have hzhb_L1 := hb.size
  have hzhbB_L1 := hbB.size
  refine Wc.seq fun _ hK_75 => ?_
  have hs_k0size : w.heap.size ≤ w_k0.heap.size := by omega
  refine Wc.region <| Wl.y (y_lssi rfl rfl) rfl <| Wl.nil <| Wq.next hK_75 <| Wc.seq fun _ hK_77 => Wc.cond rfl (fun c2_78 => ?_) (fun c2_78 => ?_)
  ·
   have c2_78_ := c2_78
   simp only [DZ] at c2_78
   have hil : i < g.es.length := by have := c2_78; omega
   obtain ⟨p_, cs_, hpe, hcl, hcell, hQ⟩ := hG.re i hil
   obtain ⟨A1, c1, B1, e1, rfl, hN⟩ := hQ
   have hszn := szG_e hil
   have hnd := okG_e hok hil
   obtain ⟨hel0, hfr, htw⟩ := edge_ends hnd
   have hokn := oks_at (f := fun d : ED => d.ps) hG.oke ed0 hil
   have hpre := flat_pre (edgeL g) g.es i
   have hnll := edgeL_len hokn hnd
   have htf := tot_fields (g.es.getD i ed0).ls (g.es.getD i ed0).ps hokn (elem_right hel0)
   have hs1 : (g.es.getD i ed0).n.length + szL (g.es.getD i ed0).ls + szP (g.es.getD i ed0).ps + 1 ≤ szG g := hszn
   have hq1 := szL_len (g.es.getD i ed0).ls
   have hq2 := szP_len (g.es.getD i ed0).ps
   have hfn := szG_n (g := g) (i := (g.es.getD i ed0).fr.toNat) (by omega)
   have htn := szG_n (g := g) (i := (g.es.getD i ed0).tw.toNat) (by omega)
   have hfn2 : (g.ns.getD (g.es.getD i ed0).fr.toNat nd0).n.length ≤ szG g := by unfold szN at hfn; omega
   have htn2 : (g.ns.getD (g.es.getD i ed0).tw.toNat nd0).n.length ≤ szG g := by unfold szN at htn; omega
   have hal : (arrowV (g.es.getD i ed0).dir).length = 2 := by unfold arrowV; split <;> rfl
   obtain ⟨pf_, csf_, hpf, _, hcf, hQf⟩ := hGk.rn (g.es.getD i ed0).fr.toNat (by omega)
   obtain ⟨Af1, cf1, Bf1, ef1, rfl, hNf⟩ := hQf
   obtain ⟨pt_, cst_, hpt, _, hct, hQt⟩ := hGk.rn (g.es.getD i ed0).tw.toNat (by omega)
   obtain ⟨At1, ct1, Bt1, et1, rfl, hNt⟩ := hQt
   obtain rfl : pf_ = pt_ := Option.some.inj (hpf.symm.trans hpt)
   subst hpe
   subst hpf
   refine Wc.skip <| Wq.next hK_77 <| Wc.seq fun _ hK_79 => Wc.block <| Wc.seq fun _ hK_80 => Wc.region ?_
   have hbR := Below.refl wr.heap.size wr
   have hN_hbR := hN
   refine Wl.y (y_indexAddr Tryz.underlying25 sz46GrR rfl rfl (by omega) (by omega)) rfl <| Wl.l (l_loadS Tryz.underlying46 (by kernel_rfl) rfl (by exact at5 hcell)) rfl <| Wl.allocN (z := (.agg #[(str []), (.int .i64 0), (.int .i64 0), (.bool false), (.slice none 0 0), (.slice none 0 0)])) (by kernel_rfl) rfl ?_
   rintro g_o25 w_o25 hg_o25 hn_o25 hs_o25
   have hz_o25 := hs_o25.size
   have hb := hb.trans (hs_o25.mono hb.size)
   have hG := hG_hb.below hb
   have hL := hL_hb.below hb
   have hbB := hbB.trans (hs_o25.mono hbB.size)
   have hB_o0 := hB_o0_hbB.below hbB
   have hbR := hbR.trans (hs_o25.mono hbR.size)
   have hN := hN_hbR.below hbR
   have hB_o25 := hn_o25
   have hl_o25 := hB_o25.lt
   refine Wl.storeS (by kernel_rfl) rfl rfl hB_o25 rfl rfl ?_
   rintro w_s1 hn_s1 hg_s1
   have hz_s1 := hg_s1.size
   have hb := below_blk hb hg_s1 hb.size (by omega)
   have hG := hG_hb.below hb
   have hL := hL_hb.below hb
   have hbB := below_blk hbB hg_s1 hbB.size (by omega)
   have hB_o0 := hB_o0_hbB.below hbB
   have hbR := below_blk hbR hg_s1 hbR.size (by omega)
   have hN := hN_hbR.below hbR
   have hB_o25 := hn_s1
   refine Wl.nil <| Wq.next hK_80 <| Wc.seq fun _ hK_84 => Wc.region <| Wl.sg rfl rfl <| Wl.nil <| Wq.next hK_84 <| Wc.seq fun _ hK_86 => Wc.seq fun _ hK_87 => Wc.region <| Wl.y (y_fieldAddr (fa46_3GrR _) rfl) rfl <| Wl.l (l_load one4GrR rfl (by exact hB_o25.at (j := 3) rfl)) rfl <| Wl.nil <| Wq.next hK_87 <| Wc.meet (X := Unit) (fun u_ => [(1, .pointer (some ⟨g_o0, 0, none⟩)), (5, .pointer (some ⟨g_o9, 0, none⟩)), (6, .func (.func 24) #[] #[.pointer (some ⟨g_o9, 0, none⟩)]), (10, .pointer (some ⟨g_o25, 0, none⟩)), (11, str (arrowV (g.es.getD i ed0).dir)), (38, .slice (some p_) g.es.length e), (39, .int .i64 (g.es.length : Int)), (40, .int .i64 (i : Int))]) (fun u_ wm => Below w.heap.size w wm ∧ Below w_k0.heap.size w_k0 wm ∧ Below wr.heap.size wr wm ∧ Blk wm g_o25 46 [str (g.es.getD i ed0).n, .int .i64 (g.es.getD i ed0).fr, .int .i64 (g.es.getD i ed0).tw, .bool (g.es.getD i ed0).dir, .slice A1 (g.es.getD i ed0).ls.length c1, .slice B1 (g.es.getD i ed0).ps.length e1]) (fun _ hM_90 => ?_) ?_
   ·
    refine Wc.cond rfl (fun c3_91 => ?_) (fun c3_91 => ?_)
    ·
     have c3_91_ := c3_91
     refine Wc.region <| Wl.sg rfl rfl <| Wl.nil <| Wq.meet hM_90 (()) (by repeat first | exact Sub.nil | refine Sub.cons' rfl (by first | rfl | exact str_eq (by unfold arrowV; rw [c3_91_]; rfl)) ?_) ?_
     exact ⟨hb, hbB, hbR, hB_o25⟩
    have c3_91_ := c3_91
    refine Wc.skip <| Wq.meet hM_90 (()) (by repeat first | exact Sub.nil | refine Sub.cons' rfl (by first | rfl | exact str_eq (by unfold arrowV; rw [c3_91_]; rfl)) ?_) ?_
    exact ⟨hb, hbB, hbR, hB_o25⟩
   rintro u_ wm hI_93
   replace hI_93 : Below w.heap.size w wm ∧ Below w_k0.heap.size w_k0 wm ∧ Below wr.heap.size wr wm ∧ Blk wm g_o25 46 [str (g.es.getD i ed0).n, .int .i64 (g.es.getD i ed0).fr, .int .i64 (g.es.getD i ed0).tw, .bool (g.es.getD i ed0).dir, .slice A1 (g.es.getD i ed0).ls.length c1, .slice B1 (g.es.getD i ed0).ps.length e1] := hI_93
   obtain ⟨hb, hbB, hbR, hB_o25⟩ := hI_93
   show Wq _ _ _ _ [(1, .pointer (some ⟨g_o0, 0, none⟩)), (5, .pointer (some ⟨g_o9, 0, none⟩)), (6, .func (.func 24) #[] #[.pointer (some ⟨g_o9, 0, none⟩)]), (10, .pointer (some ⟨g_o25, 0, none⟩)), (11, str (arrowV (g.es.getD i ed0).dir)), (38, .slice (some p_) g.es.length e), (39, .int .i64 (g.es.length : Int)), (40, .int .i64 (i : Int))] _
   have hG := hG_hb.below hb
   have hL := hL_hb.below hb
   have hB_o0 := hB_o0_hbB.below hbB
   have hN := hN_hbR.below hbR
   have hzhb_c3 := hb.size
   have hzhbB_c3 := hbB.size
   have hzhbR_c3 := hbR.size
   have hlhB_o25_c3 := hB_o25.lt
   refine Wq.next hK_86 <| Wc.any (n := 26) (fun w' => Below w_k0.heap.size w_k0 w' ∧ Blk w' g_o0 27 [.slice (some pf_) g.ns.length c, .slice (some p_) g.es.length e] ∧ Blk w' g_o25 46 [str (g.es.getD i ed0).n, .int .i64 (g.es.getD i ed0).fr, .int .i64 (g.es.getD i ed0).tw, .bool (g.es.getD i ed0).dir, .slice A1 (g.es.getD i ed0).ls.length c1, .slice B1 (g.es.getD i ed0).ps.length e1]) #[false, false, false, false, false, false, false, false, false, false, false, false, false, false, false, false, false, false, false, false, false, false, false, false, false, false] (by kernel_rfl) rfl (by kernel_rfl) <| Wa.drew ?_
   rintro w_g17 hs_g17
   have hz_g17 := hs_g17.size
   have hb := hb.trans (hs_g17.mono hb.size)
   have hG := hG_hb.below hb
   have hL := hL_hb.below hb
   have hbB := hbB.trans (hs_g17.mono hbB.size)
   have hB_o0 := hB_o0_hbB.below hbB
   have hbR := hbR.trans (hs_g17.mono hbR.size)
   have hN := hN_hbR.below hbR
   have hB_o25 := Blk.below hB_o25 hs_g17
   refine Wa.take (i := 0) #[true, false, false, false, false, false, false, false, false, false, false, false, false, false, false, false, false, false, false, false, false, false, false, false, false, false] rfl (by kernel_rfl) (fun _ _ _ h => h) rfl (fun wq hq => Yl.ld (y_move rfl)) ⟨hbB, hB_o0, hB_o25⟩ <| Wa.take (i := 1) #[true, true, false, false, false, false, false, false, false, false, false, false, false, false, false, false, false, false, false, false, false, false, false, false, false, false] rfl (by kernel_rfl) (fun _ _ _ h => h) rfl (fun wq hq => Yl.ld (y_fieldAddr (fa46_0GrR _) rfl)) ⟨hbB, hB_o0, hB_o25⟩ <| Wa.take (i := 2) #[true, true, true, false, false, false, false, false, false, false, false, false, false, false, false, false, false, false, false, false, false, false, false, false, false, false] rfl (by kernel_rfl) (fun _ _ _ h => h) rfl (fun wq hq => l_load one9GrR rfl (by obtain ⟨hq, hB_o0, hB_o25⟩ := hq; exact hB_o25.at (j := 0) rfl)) ⟨hbB, hB_o0, hB_o25⟩ <| Wa.take (i := 3) #[true, true, true, true, false, false, false, false, false, false, false, false, false, false, false, false, false, false, false, false, false, false, false, false, false, false] rfl (by kernel_rfl) (fun _ _ _ h => h) rfl (fun wq hq => Yl.ld (y_fieldAddr (fa27_0GrR _) rfl)) ⟨hbB, hB_o0, hB_o25⟩ <| Wa.take (i := 4) #[true, true, true, true, true, false, false, false, false, false, false, false, false, false, false, false, false, false, false, false, false, false, false, false, false, false] rfl (by kernel_rfl) (fun _ _ _ h => h) rfl (fun wq hq => l_load one24GrR rfl (by obtain ⟨hq, hB_o0, hB_o25⟩ := hq; exact hB_o0.at (j := 0) rfl)) ⟨hbB, hB_o0, hB_o25⟩ <| Wa.take (i := 5) #[true, true, true, true, true, true, false, false, false, false, false, false, false, false, false, false, false, false, false, false, false, false, false, false, false, false] rfl (by kernel_rfl) (fun _ _ _ h => h) rfl (fun wq hq => Yl.ld (y_fieldAddr (fa46_1GrR _) rfl)) ⟨hbB, hB_o0, hB_o25⟩ <| Wa.take (i := 6) #[true, true, true, true, true, true, true, false, false, false, false, false, false, false, false, false, false, false, false, false, false, false, false, false, false, false] rfl (by kernel_rfl) (fun _ _ _ h => h) rfl (fun wq hq => l_load one3GrR rfl (by obtain ⟨hq, hB_o0, hB_o25⟩ := hq; exact hB_o25.at (j := 1) rfl)) ⟨hbB, hB_o0, hB_o25⟩ <| Wa.take (i := 7) #[true, true, true, true, true, true, true, true, false, false, false, false, false, false, false, false, false, false, false, false, false, false, false, false, false, false] rfl (by kernel_rfl) (fun _ _ _ h => h) rfl (fun wq hq => Yl.ld (y_indexAddr Tryz.underlying24 sz43GrR rfl rfl (by omega) (by omega))) ⟨hbB, hB_o0, hB_o25⟩ <| Wa.take (i := 8) #[true, true, true, true, true, true, true, true, true, false, false, false, false, false, false, false, false, false, false, false, false, false, false, false, false, false] rfl (by kernel_rfl) (fun _ _ _ h => h) rfl (fun wq hq => Yl.ld (y_fieldAddr (fa43_0GrR _) rfl)) ⟨hbB, hB_o0, hB_o25⟩ <| Wa.take (i := 9) #[true, true, true, true, true, true, true, true, true, true, false, false, false, false, false, false, false, false, false, false, false, false, false, false, false, false] rfl (by kernel_rfl) (fun _ _ _ h => h) rfl (fun wq hq => l_load one9GrR rfl (by obtain ⟨hq, hB_o0, hB_o25⟩ := hq; exact cell_below hq (hcf 0 _ rfl))) ⟨hbB, hB_o0, hB_o25⟩ <| Wa.take (i := 10) #[true, true, true, true, true, true, true, true, true, true, true, false, false, false, false, false, false, false, false, false, false, false, false, false, false, false] rfl (by kernel_rfl) (fun _ _ _ h => h) rfl (fun wq hq => Yl.ld (y_move rfl)) ⟨hbB, hB_o0, hB_o25⟩ <| Wa.take (i := 11) #[true, true, true, true, true, true, true, true, true, true, true, true, false, false, false, false, false, false, false, false, false, false, false, false, false, false] rfl (by kernel_rfl) (fun _ _ _ h => h) rfl (fun wq hq => Yl.ld (y_fieldAddr (fa27_0GrR _) rfl)) ⟨hbB, hB_o0, hB_o25⟩ <| Wa.take (i := 12) #[true, true, true, true, true, true, true, true, true, true, true, true, true, false, false, false, false, false, false, false, false, false, false, false, false, false] rfl (by kernel_rfl) (fun _ _ _ h => h) rfl (fun wq hq => l_load one24GrR rfl (by obtain ⟨hq, hB_o0, hB_o25⟩ := hq; exact hB_o0.at (j := 0) rfl)) ⟨hbB, hB_o0, hB_o25⟩ <| Wa.take (i := 13) #[true, true, true, true, true, true, true, true, true, true, true, true, true, true, false, false, false, false, false, false, false, false, false, false, false, false] rfl (by kernel_rfl) (fun _ _ _ h => h) rfl (fun wq hq => Yl.ld (y_fieldAddr (fa46_2GrR _) rfl)) ⟨hbB, hB_o0, hB_o25⟩ <| Wa.take (i := 14) #[true, true, true, true, true, true, true, true, true, true, true, true, true, true, true, false, false, false, false, false, false, false, false, false, false, false] rfl (by kernel_rfl) (fun _ _ _ h => h) rfl (fun wq hq => l_load one3GrR rfl (by obtain ⟨hq, hB_o0, hB_o25⟩ := hq; exact hB_o25.at (j := 2) rfl)) ⟨hbB, hB_o0, hB_o25⟩ <| Wa.take (i := 15) #[true, true, true, true, true, true, true, true, true, true, true, true, true, true, true, true, false, false, false, false, false, false, false, false, false, false] rfl (by kernel_rfl) (fun _ _ _ h => h) rfl (fun wq hq => Yl.ld (y_indexAddr Tryz.underlying24 sz43GrR rfl rfl (by omega) (by omega))) ⟨hbB, hB_o0, hB_o25⟩ <| Wa.take (i := 16) #[true, true, true, true, true, true, true, true, true, true, true, true, true, true, true, true, true, false, false, false, false, false, false, false, false, false] rfl (by kernel_rfl) (fun _ _ _ h => h) rfl (fun wq hq => Yl.ld (y_fieldAddr (fa43_0GrR _) rfl)) ⟨hbB, hB_o0, hB_o25⟩ <| Wa.take (i := 17) #[true, true, true, true, true, true, true, true, true, true, true, true, true, true, true, true, true, true, false, false, false, false, false, false, false, false] rfl (by kernel_rfl) (fun _ _ _ h => h) rfl (fun wq hq => l_load one9GrR rfl (by obtain ⟨hq, hB_o0, hB_o25⟩ := hq; exact cell_below hq (hct 0 _ rfl))) ⟨hbB, hB_o0, hB_o25⟩ <| Wa.take (i := 19) #[true, true, true, true, true, true, true, true, true, true, true, true, true, true, true, true, true, true, false, true, false, false, false, false, false, false] rfl (by kernel_rfl) (fun _ _ _ h => h) rfl (fun wq hq => Yl.ld (y_fieldAddr (fa46_4GrR _) rfl)) ⟨hbB, hB_o0, hB_o25⟩ <| Wa.take (i := 20) #[true, true, true, true, true, true, true, true, true, true, true, true, true, true, true, true, true, true, false, true, true, false, false, false, false, false] rfl (by kernel_rfl) (fun _ _ _ h => h) rfl (fun wq hq => l_load one40GrR rfl (by obtain ⟨hq, hB_o0, hB_o25⟩ := hq; exact hB_o25.at (j := 4) rfl)) ⟨hbB, hB_o0, hB_o25⟩ <| Wa.take (i := 21) #[true, true, true, true, true, true, true, true, true, true, true, true, true, true, true, true, true, true, false, true, true, true, false, false, false, false] rfl (by kernel_rfl) (fun _ _ _ h => h) rfl (fun wq hq => Yl.ld (y_fieldAddr (fa46_5GrR _) rfl)) ⟨hbB, hB_o0, hB_o25⟩ <| Wa.take (i := 22) #[true, true, true, true, true, true, true, true, true, true, true, true, true, true, true, true, true, true, false, true, true, true, true, false, false, false] rfl (by kernel_rfl) (fun _ _ _ h => h) rfl (fun wq hq => l_load one41GrR rfl (by obtain ⟨hq, hB_o0, hB_o25⟩ := hq; exact hB_o25.at (j := 5) rfl)) ⟨hbB, hB_o0, hB_o25⟩ <| Wa.some (rs := [18, 23]) (by kernel_rfl) rfl <| Ws.cons #[true, true, true, true, true, true, true, true, true, true, true, true, true, true, true, true, true, true, true, true, true, true, true, false, false, false] rfl rfl (fun _ hK_116 => ?_) ?_
   ·
    refine Wl.litN (sz := 1) (vs := [_, _, _, _, _]) Tryz.underlying40 (by kernel_rfl) rfl rfl rfl rfl rfl rfl ?_
    rintro g_b4 w_b4 hg_b4 hn_b4 hs_b4
    have hz_b4 := hs_b4.size
    have hb := hb.trans (hs_b4.mono hb.size)
    have hG := hG_hb.below hb
    have hL := hL_hb.below hb
    have hbB := hbB.trans (hs_b4.mono hbB.size)
    have hB_o0 := hB_o0_hbB.below hbB
    have hbR := hbR.trans (hs_b4.mono hbR.size)
    have hN := hN_hbR.below hbR
    have hB_o25 := Blk.below hB_o25 hs_b4
    have hB_b4 := hn_b4
    have hl_b4 := hB_b4.lt
    refine Wl.nil <| Wq.back hK_116 ⟨hbB, hB_o0, hB_o25⟩ <| Wa.some (rs := [23]) (by kernel_rfl) rfl <| Ws.cons #[true, true, true, true, true, true, true, true, true, true, true, true, true, true, true, true, true, true, true, true, true, true, true, true, false, false] rfl rfl (fun _ hK_118 => ?_) ?_
    ·
     refine Wl.call txt27GrR rfl rfl (fields_r S A1 c1 B1 e1 _ _ _ _ hN hokn (elem_right hel0) (Nat.le_trans hszn (Nat.le_trans hsz (by decide))) hL) rfl ?_
     rintro _ w_k3 ⟨hO2, hs_k3⟩
     have hz_k3 := hs_k3.size
     have hb := hb.trans (hs_k3.mono hb.size)
     have hG := hG_hb.below hb
     have hL := hL_hb.below hb
     have hbB := hbB.trans (hs_k3.mono hbB.size)
     have hB_o0 := hB_o0_hbB.below hbB
     have hbR := hbR.trans (hs_k3.mono hbR.size)
     have hN := hN_hbR.below hbR
     have hB_o25 := Blk.below hB_o25 hs_k3
     have hB_b4 := Blk.below hB_b4 hs_k3
     refine Wl.nil <| Wq.back hK_118 ⟨hbB, hB_o0, hB_o25⟩ <| Wa.some (rs := [24]) (by kernel_rfl) rfl <| Ws.cons #[true, true, true, true, true, true, true, true, true, true, true, true, true, true, true, true, true, true, true, true, true, true, true, true, true, false] rfl rfl (fun _ hK_120 => ?_) ?_
     ·
      obtain ⟨Af, cf, hvf, _, _⟩ := own_form hO2
      subst hvf
      have hOl := hB_b4.own (base := wr.heap.size) (n := 5) (sz := 1) (by omega) rfl (by decide)
      refine Wl.append (z := (str [])) (sz := 1) (bytes := 16) Tryz.underlying40 (by kernel_rfl) rfl (by decide) _ rfl hOl rfl (Rd.of_own hO2) (strs_one _) (by simp only [maxLen]; omega) (by omega) (by omega) rfl ?_
      rintro v_b5 w_b5 hn_b5 hg_b5 ha_b5
      have hz_b5 := hg_b5.size
      have hb := hb.grown hg_b5 hb.size (fun k_ hk_ => by have := (own_ge hOl k_ hk_).1; omega)
      have hG := hG_hb.below hb
      have hL := hL_hb.below hb
      have hbB := hbB.grown hg_b5 hbB.size (fun k_ hk_ => by have := (own_ge hOl k_ hk_).1; omega)
      have hB_o0 := hB_o0_hbB.below hbB
      have hbR := hbR.grown hg_b5 hbR.size (fun k_ hk_ => by have := (own_ge hOl k_ hk_).1; omega)
      have hN := hN_hbR.below hbR
      have hB_o25 := Blk.grown hB_o25 hg_b5 (by first | assumption | (simp [Value.ownBlock]; omega))
      have hOl := hn_b5
      refine Wl.nil <| Wq.back hK_120 ⟨hbB, hB_o0, hB_o25⟩ <| Wa.some (rs := [25]) (by kernel_rfl) rfl <| Ws.cons #[true, true, true, true, true, true, true, true, true, true, true, true, true, true, true, true, true, true, true, true, true, true, true, true, true, true] rfl rfl (fun _ hK_122 => ?_) ?_
      ·
       obtain ⟨Ac, cc, hvc, hcc, _⟩ := own_form hOl
       subst hvc
       have hxs : (edgeF g (g.es.getD i ed0)).length = 5 + ((g.es.getD i ed0).ls.length + (g.es.getD i ed0).ps.length) := by unfold edgeF; rw [List.length_append, fieldsV_len]; rfl
       have htx : tot (edgeF g (g.es.getD i ed0)) = 4 + (g.es.getD i ed0).n.length + (g.ns.getD (g.es.getD i ed0).fr.toNat nd0).n.length + 2 + (g.ns.getD (g.es.getD i ed0).tw.toNat nd0).n.length + tot (fieldsV (g.es.getD i ed0).ls (g.es.getD i ed0).ps) := by unfold edgeF; rw [tot_app]; simp only [tot_cons, hal]; simp [tot, wEdge]; omega
       have hjl := joinV_len (edgeF g (g.es.getD i ed0))
       have hBM := (BM.of hI).below hbR
       refine Wl.call txtP1 rfl rfl (Print1_r wr.heap.size w_k0.heap.size g_o9 Ac cc _ (edgeF g (g.es.getD i ed0)) _ hxs (by omega) hcc (by omega) _ hBM hbR.size hbB.size (by rw [List.length_append]; omega) (Rd.of_own hOl) (by omega)) rfl ?_
       rintro _ w_k4 ⟨rfl, hI2, hs_k4, hkp⟩
       have hz_k4 := hs_k4.size
       have hB_o0 : Blk w_k4 g_o0 27 _ := (hs_k4.block g_o0 (by omega)).trans hB_o0
       have hb := hb.trans (hs_k4.mono hs_k0size)
       have hbB := hbB.trans hs_k4
       have hB_o25 := Blk.keep hB_o25 hkp (by omega)
       refine Wl.nil <| Wq.back hK_122 ⟨hbB, hB_o0, hB_o25⟩ <| Wa.done (by kernel_rfl) <| Wq.block_normal <| Wq.next hK_79 <| Wc.region <| Wl.y (y_addI rfl rfl (by omega) (by omega)) rfl <| Wl.mv rfl rfl <| Wl.nil <| fun a_ ha_ => hL_73 _ _ (i + 1) (by omega) (by repeat first | exact Sub.nil | refine Sub.cons' rfl (by first | rfl | exact int_eq (by omega) | exact int_eq (by simp) | (simp; done)) ?_) ?_ a_ ha_
       exact ⟨by omega, hb, hbB, by rw [flat_snoc _ ed0 hil, ← List.append_assoc]; exact hI2⟩
      exact Ws.nil
     exact Ws.nil
    exact Ws.nil
   refine Ws.cons #[true, true, true, true, true, true, true, true, true, true, true, true, true, true, true, true, true, true, false, true, true, true, true, true, false, false] rfl rfl (fun _ hK_126 => ?_) ?_
   ·
    refine Wl.call txt27GrR rfl rfl (fields_r S A1 c1 B1 e1 _ _ _ _ hN hokn (elem_right hel0) (Nat.le_trans hszn (Nat.le_trans hsz (by decide))) hL) rfl ?_
    rintro _ w_k3 ⟨hO2, hs_k3⟩
    have hz_k3 := hs_k3.size
    have hb := hb.trans (hs_k3.mono hb.size)
    have hG := hG_hb.below hb
    have hL := hL_hb.below hb
    have hbB := hbB.trans (hs_k3.mono hbB.size)
    have hB_o0 := hB_o0_hbB.below hbB
    have hbR := hbR.trans (hs_k3.mono hbR.size)
    have hN := hN_hbR.below hbR
    have hB_o25 := Blk.below hB_o25 hs_k3
    refine Wl.nil <| Wq.back hK_126 ⟨hbB, hB_o0, hB_o25⟩ <| Wa.some (rs := [18]) (by kernel_rfl) rfl <| Ws.cons #[true, true, true, true, true, true, true, true, true, true, true, true, true, true, true, true, true, true, true, true, true, true, true, true, false, false] rfl rfl (fun _ hK_128 => ?_) ?_
    ·
     refine Wl.litN (sz := 1) (vs := [_, _, _, _, _]) Tryz.underlying40 (by kernel_rfl) rfl rfl rfl rfl rfl rfl ?_
     rintro g_b4 w_b4 hg_b4 hn_b4 hs_b4
     have hz_b4 := hs_b4.size
     have hb := hb.trans (hs_b4.mono hb.size)
     have hG := hG_hb.below hb
     have hL := hL_hb.below hb
     have hbB := hbB.trans (hs_b4.mono hbB.size)
     have hB_o0 := hB_o0_hbB.below hbB
     have hbR := hbR.trans (hs_b4.mono hbR.size)
     have hN := hN_hbR.below hbR
     have hB_o25 := Blk.below hB_o25 hs_b4
     have hO2 := own_below hO2 hs_b4
     have hB_b4 := hn_b4
     have hl_b4 := hB_b4.lt
     refine Wl.nil <| Wq.back hK_128 ⟨hbB, hB_o0, hB_o25⟩ <| Wa.some (rs := [24]) (by kernel_rfl) rfl <| Ws.cons #[true, true, true, true, true, true, true, true, true, true, true, true, true, true, true, true, true, true, true, true, true, true, true, true, true, false] rfl rfl (fun _ hK_130 => ?_) ?_
     ·
      obtain ⟨Af, cf, hvf, _, _⟩ := own_form hO2
      subst hvf
      have hOl := hB_b4.own (base := wr.heap.size) (n := 5) (sz := 1) (by omega) rfl (by decide)
      refine Wl.append (z := (str [])) (sz := 1) (bytes := 16) Tryz.underlying40 (by kernel_rfl) rfl (by decide) _ rfl hOl rfl (Rd.of_own hO2) (strs_one _) (by simp only [maxLen]; omega) (by omega) (by omega) rfl ?_
      rintro v_b5 w_b5 hn_b5 hg_b5 ha_b5
      have hz_b5 := hg_b5.size
      have hb := hb.grown hg_b5 hb.size (fun k_ hk_ => by have := (own_ge hOl k_ hk_).1; omega)
      have hG := hG_hb.below hb
      have hL := hL_hb.below hb
      have hbB := hbB.grown hg_b5 hbB.size (fun k_ hk_ => by have := (own_ge hOl k_ hk_).1; omega)
      have hB_o0 := hB_o0_hbB.below hbB
      have hbR := hbR.grown hg_b5 hbR.size (fun k_ hk_ => by have := (own_ge hOl k_ hk_).1; omega)
      have hN := hN_hbR.below hbR
      have hB_o25 := Blk.grown hB_o25 hg_b5 (by first | assumption | (simp [Value.ownBlock]; omega))
      have hOl := hn_b5
      refine Wl.nil <| Wq.back hK_130 ⟨hbB, hB_o0, hB_o25⟩ <| Wa.some (rs := [25]) (by kernel_rfl) rfl <| Ws.cons #[true, true, true, true, true, true, true, true, true, true, true, true, true, true, true, true, true, true, true, true, true, true, true, true, true, true] rfl rfl (fun _ hK_132 => ?_) ?_
      ·
       obtain ⟨Ac, cc, hvc, hcc, _⟩ := own_form hOl
       subst hvc
       have hxs : (edgeF g (g.es.getD i ed0)).length = 5 + ((g.es.getD i ed0).ls.length + (g.es.getD i ed0).ps.length) := by unfold edgeF; rw [List.length_append, fieldsV_len]; rfl
       have htx : tot (edgeF g (g.es.getD i ed0)) = 4 + (g.es.getD i ed0).n.length + (g.ns.getD (g.es.getD i ed0).fr.toNat nd0).n.length + 2 + (g.ns.getD (g.es.getD i ed0).tw.toNat nd0).n.length + tot (fieldsV (g.es.getD i ed0).ls (g.es.getD i ed0).ps) := by unfold edgeF; rw [tot_app]; simp only [tot_cons, hal]; simp [tot, wEdge]; omega
       have hjl := joinV_len (edgeF g (g.es.getD i ed0))
       have hBM := (BM.of hI).below hbR
       refine Wl.call txtP1 rfl rfl (Print1_r wr.heap.size w_k0.heap.size g_o9 Ac cc _ (edgeF g (g.es.getD i ed0)) _ hxs (by omega) hcc (by omega) _ hBM hbR.size hbB.size (by rw [List.length_append]; omega) (Rd.of_own hOl) (by omega)) rfl ?_
       rintro _ w_k4 ⟨rfl, hI2, hs_k4, hkp⟩
       have hz_k4 := hs_k4.size
       have hB_o0 : Blk w_k4 g_o0 27 _ := (hs_k4.block g_o0 (by omega)).trans hB_o0
       have hb := hb.trans (hs_k4.mono hs_k0size)
       have hbB := hbB.trans hs_k4
       have hB_o25 := Blk.keep hB_o25 hkp (by omega)
       refine Wl.nil <| Wq.back hK_132 ⟨hbB, hB_o0, hB_o25⟩ <| Wa.done (by kernel_rfl) <| Wq.block_normal <| Wq.next hK_79 <| Wc.region <| Wl.y (y_addI rfl rfl (by omega) (by omega)) rfl <| Wl.mv rfl rfl <| Wl.nil <| fun a_ ha_ => hL_73 _ _ (i + 1) (by omega) (by repeat first | exact Sub.nil | refine Sub.cons' rfl (by first | rfl | exact int_eq (by omega) | exact int_eq (by simp) | (simp; done)) ?_) ?_ a_ ha_
       exact ⟨by omega, hb, hbB, by rw [flat_snoc _ ed0 hil, ← List.append_assoc]; exact hI2⟩
      exact Ws.nil
     exact Ws.nil
    exact Ws.nil
   exact Ws.nil
  have c2_78_ := c2_78
  simp only [DZ] at c2_78
  have hie : i = g.es.length := by have := c2_78; omega
  rw [hie, List.take_length] at hI
  refine Wc.exit <| Wq.then_exit <| Wq.then_exit <| Wq.block_exit <| Wq.next hK_67 <| Wc.seq fun _ hK_136 => Wc.region <| Wl.call txt28GrR rfl rfl (BString_r w_k0.heap.size g_o9 _ _ hI hbB.size) rfl ?_
  rintro _ w_k5 ⟨rfl, hs_k5⟩
  refine Wl.sg rfl rfl <| Wl.sg rfl rfl <| Wl.nil <| Wq.next hK_136 <| Wc.ret <| ret2 rfl rfl rfl ?_
  exact ⟨_, rfl, by have h0 : rightG g = 0 := (by simpa using c0_13); rw [if_pos h0, h0]; rfl, hb.trans (hs_k5.mono hs_k0size)⟩
end Go.Proofs.YtjmlknjbhbfneaaGreatDoor
