/- LoadBlanks, by the calculus. -/
import Derived.Test.YtjmlknjbhbfneaaGreatDoorZLpB
import Derived.Test.YtjmlknjbhbfneaaGreatDoorZLsJ
namespace Go.Proofs.YtjmlknjbhbfneaaGreatDoor
open Go.RowKit Go.Bw Go.Bw.Fl
set_option linter.unusedVariables false
set_option linter.unusedSimpArgs false
theorem txt10LpH : Txt Tryz.prog 10 := ⟨_, Tryz.func10, by kernel_rfl, rfl⟩   -- bridleway/bridlewayref07.Same
theorem txt11LpH : Txt Tryz.prog 11 := ⟨_, Tryz.func11, by kernel_rfl, rfl⟩   -- bridleway/load.Print
theorem txt13LpH : Txt Tryz.prog 13 := ⟨_, Tryz.func13, by kernel_rfl, rfl⟩   -- bridleway/bridlewaylaw08.few
theorem txt14LpH : Txt Tryz.prog 14 := ⟨_, Tryz.func14, by kernel_rfl, rfl⟩   -- bridleway/bridlewaylaw08.escaped
theorem txt7LpH : Txt Tryz.prog 7 := ⟨_, Tryz.func7, by kernel_rfl, rfl⟩   -- bridleway/bridlewaylaw08.shown
theorem txt8LpH : Txt Tryz.prog 8 := ⟨_, Tryz.func8, by kernel_rfl, rfl⟩   -- bridleway/load.Parse
theorem u8_is {c : UInt8} {n : Nat} (hn : n < 256) : ((c.toNat : Int) = (n : Int)) ↔ c = UInt8.ofNat n := ⟨fun h => u8_of h hn, fun h => by rw [h, UInt8.toNat_ofNat']; omega⟩
/-- backslashes at the end -/
def tb (s : List UInt8) : Nat := s.foldl (fun n c => if c = 92 then n + 1 else 0) 0
theorem tb_succ {s : List UInt8} {i : Nat} (h : i < s.length) : tb (s.take (i + 1)) = if s.getD i 0 = 92 then tb (s.take i) + 1 else 0 := by
  unfold tb
  rw [List.take_succ_eq_append_getElem h, List.foldl_append, getD_at 0 h]; rfl
theorem tb_is {s : List UInt8} : ∀ (a j : Nat), a ≤ s.length → j ≤ a → (∀ k, k < j → s.getD (a - 1 - k) 0 = 92) → (j = a ∨ s.getD (a - 1 - j) 0 ≠ 92) → tb (s.take a) = j
  | 0, j, _, h, _, _ => by
    have : j = 0 := by omega
    subst this; rfl
  | a + 1, 0, hl, _, _, h => by
    rw [tb_succ (by omega), if_neg]
    rcases h with h | h
    · omega
    · simpa using h
  | a + 1, j + 1, hl, hj, h1, h2 => by
    have h0 := h1 0 (by omega)
    rw [tb_succ (by omega), if_pos (by simpa using h0), tb_is a j (by omega) (by omega) (fun k hk => by have := h1 (k + 1) (by omega); rw [show a + 1 - 1 - (k + 1) = a - 1 - k by omega] at this; exact this) ?_]
    rcases h2 with h2 | h2
    · exact .inl (by omega)
    · exact .inr (by rw [show a + 1 - 1 - (j + 1) = a - 1 - j by omega] at h2; exact h2)
theorem bk_count (mark : List UInt8) : ∀ (s : List UInt8) (x : Bk), (bk mark x s).2.1 = s.foldl (fun n c => if c = 92 then n + 1 else 0) x.2.1
  | [], x => rfl
  | c :: r, x => by rw [bk_cons, bk_count mark r]; rfl
theorem escaped_r (s : List UInt8) (a : Nat) (ha : a ≤ s.length) (hl : s.length ≤ 1099511627776) (w : World) : Ret Tryz.prog 14 [str s, .int .i64 (a : Int)] w fun v w' => v = .bool (decide (tb (s.take a) % 2 = 1)) ∧ Below w.heap.size w w' := by
  have hb := Below.refl w.heap.size w
  refine enter Tryz.func14 rfl rfl rfl <| Wc.seq fun _ hK_1 => Wc.region <| Wl.sg rfl rfl <| Wl.nil <| Wq.next hK_1 <| Wc.seq fun _ hK_3 => Wc.region <| Wl.sg rfl rfl <| Wl.nil <| Wq.next hK_3 <| Wc.seq fun _ hK_5 => Wc.block <| Wc.loop (X := Nat) (fun j => [(0, str s), (1, .int .i64 (a : Int)), (5, .int .i64 (j : Int))]) (fun j wr => j ≤ a ∧ (∀ k, k < j → s.getD (a - 1 - k) 0 = 92) ∧ Below w.heap.size w wr) (fun j => a - j) (0) ?_ ?_ ?_
  · exact by repeat first | exact Sub.nil | refine Sub.cons' rfl (by first | rfl | exact int_eq (by omega) | exact int_eq (by simp) | (simp; done)) ?_
  · exact ⟨Nat.zero_le _, fun k hk => by omega, hb⟩
  rintro j wr hI_7 _ hL_6
  replace hI_7 : j ≤ a ∧ (∀ k, k < j → s.getD (a - 1 - k) 0 = 92) ∧ Below w.heap.size w wr := hI_7
  obtain ⟨hj, hall, hb⟩ := hI_7
  show Wc _ _ _ _ _ [(0, str s), (1, .int .i64 (a : Int)), (5, .int .i64 (j : Int))] _
  have hzhb_L0 := hb.size
  refine Wc.seq fun _ hK_8 => Wc.seq fun _ hK_9 => Wc.meet (X := Bool) (fun z => [(0, str s), (1, .int .i64 (a : Int)), (5, .int .i64 (j : Int)), (18, .bool z)]) (fun z wm => z = decide (j < a ∧ s.getD (a - 1 - j) 0 = 92) ∧ Below w.heap.size w wm) (fun _ hM_10 => ?_) ?_
  ·
   refine Wc.region <| Wl.mv rfl rfl <| Wl.mv rfl rfl <| Wl.y (y_subI rfl rfl (by omega) (by omega)) rfl <| Wl.y (y_gtri rfl rfl) rfl <| Wl.mv rfl rfl <| Wl.guardT rfl rfl rfl (fun g_16 => ?_) (fun g_16 => ?_)
   ·
    have g_16_ := g_16
    simp only [DZ] at g_16
    have hja : j < a := by have := g_16; omega
    have hix : ((a : Int) - (j : Int) - 1).toNat = a - 1 - j := by omega
    refine Wl.mv rfl rfl <| Wl.on' rfl rfl g_16_ <| Wl.mv rfl rfl <| Wl.on' rfl rfl g_16_ <| Wl.mv rfl rfl <| Wl.on' rfl rfl g_16_ <| Wl.y (y_subI rfl rfl (by omega) (by omega)) rfl <| Wl.on' rfl rfl g_16_ <| Wl.y (y_subI rfl rfl (by omega) (by omega)) rfl <| Wl.on' rfl rfl g_16_ <| Wl.y (y_indexs Tryz.underlying9 rfl rfl (by omega) (by omega)) rfl <| Wl.on' rfl rfl g_16_ <| Wl.y (y_eqli rfl rfl) rfl <| Wl.y (y_pickT rfl g_16_ rfl) rfl <| Wl.nil <| Wq.meet hM_10 (decide (j < a ∧ s.getD (a - 1 - j) 0 = 92)) (by repeat first | exact Sub.nil | refine Sub.cons' rfl (by first | rfl | exact bool_eq (by rw [decide_eq_false (fun h => hn (by have := h.1; omega))]) | exact bool_eq (by rw [hix, Bool.eq_iff_iff, beq_iff_eq, decide_eq_true_eq]; exact ⟨fun h => ⟨hja, (u8_is (n := 92) (by decide)).1 h⟩, fun h => (u8_is (n := 92) (by decide)).2 h.2⟩)) ?_) ?_
    exact ⟨rfl, hb⟩
   have g_16_ := g_16
   simp only [DZ] at g_16
   have hn : ¬ (j < a) := by have := g_16; omega
   refine Wl.off' rfl rfl g_16_ rfl rfl <| Wl.off' rfl rfl g_16_ rfl rfl <| Wl.off' rfl rfl g_16_ rfl rfl <| Wl.off' rfl rfl g_16_ rfl rfl <| Wl.off' rfl rfl g_16_ rfl rfl <| Wl.off' rfl rfl g_16_ rfl rfl <| Wl.y (y_pickF rfl g_16_ rfl) rfl <| Wl.nil <| Wq.meet hM_10 (decide (j < a ∧ s.getD (a - 1 - j) 0 = 92)) (by repeat first | exact Sub.nil | refine Sub.cons' rfl (by first | rfl | exact bool_eq (by rw [decide_eq_false (fun h => hn (by have := h.1; omega))]) | exact bool_eq (by rw [hix, Bool.eq_iff_iff, beq_iff_eq, decide_eq_true_eq]; exact ⟨fun h => ⟨hja, (u8_is (n := 92) (by decide)).1 h⟩, fun h => (u8_is (n := 92) (by decide)).2 h.2⟩)) ?_) ?_
   exact ⟨rfl, hb⟩
  rintro z wm hI_26
  replace hI_26 : z = decide (j < a ∧ s.getD (a - 1 - j) 0 = 92) ∧ Below w.heap.size w wm := hI_26
  obtain ⟨hz, hb⟩ := hI_26
  show Wq _ _ _ _ [(0, str s), (1, .int .i64 (a : Int)), (5, .int .i64 (j : Int)), (18, .bool z)] _
  have hzhb_g2 := hb.size
  refine Wq.next hK_9 <| Wc.cond rfl (fun c0_27 => ?_) (fun c0_27 => ?_)
  ·
   have c0_27_ := c0_27
   have hgo : j < a ∧ s.getD (a - 1 - j) 0 = 92 := by have h := c0_27_; rw [hz] at h; exact of_decide_eq_true h
   refine Wc.skip <| Wq.next hK_8 <| Wc.block <| Wc.region <| Wl.mv rfl rfl <| Wl.y (y_addI rfl rfl (by omega) (by omega)) rfl <| Wl.sg rfl rfl <| Wl.nil <| Wq.block_normal <| fun a_ ha_ => hL_6 _ _ (j + 1) (by omega) (by repeat first | exact Sub.nil | refine Sub.cons' rfl (by first | rfl | exact int_eq (by omega) | exact int_eq (by simp) | (simp; done)) ?_) ?_ a_ ha_
   exact ⟨(show j + 1 ≤ a by omega), fun k hk => (by by_cases e : k = j; (· rw [e]; exact hgo.2); (· exact hall k (by omega))), hb⟩
  have c0_27_ := c0_27
  have hstop : ¬ (j < a ∧ s.getD (a - 1 - j) 0 = 92) := by have h := c0_27_; rw [hz] at h; exact of_decide_eq_false h
  have htb : tb (s.take a) = j := tb_is a j ha hj hall (by by_cases e : j = a; (· exact .inl e); (· exact .inr (fun h => hstop ⟨by omega, h⟩)))
  refine Wc.exit <| Wq.then_exit <| Wq.then_exit <| Wq.block_exit <| Wq.next hK_5 <| Wc.seq fun _ hK_31 => Wc.region <| Wl.mv rfl rfl <| Wl.y (y_rem rfl rfl (by decide)) rfl <| Wl.y (y_eqli rfl rfl) rfl <| Wl.sg rfl rfl <| Wl.nil <| Wq.next hK_31 <| Wc.ret <| ret1 rfl rfl ?_
  exact ⟨_, rfl, bool_eq (by rw [htb, Bool.eq_iff_iff, beq_iff_eq, decide_eq_true_eq, show ((j : Int).tmod 2) = ((j % 2 : Nat) : Int) from rfl]; omega), hb⟩
theorem print_few {S : Nat → Prop} {w : World} {A B : Option Addr} {c e : Nat} {g : GV} (hG : GAt S w A c B e g) (h : rightG g = 0) (h1 : g.ns.length ≤ 30) (h2 : g.es.length ≤ 30) : (printG g).length ≤ 124 * szG g + 1000 := by
  obtain ⟨_, _, h3⟩ := rightG_zero h
  have a1 := flat_bound nodeL szN 64 10 g.ns (fun d hd => by
    obtain ⟨i, hi, rfl⟩ := List.getElem_of_mem hd
    exact nodeL_len (hG.oks _ hd) (by have := okG_n h3 hi; rwa [getD_at nd0 hi] at this))
  have a2 := flat_bound (edgeL g) szE 64 (2 * szG g + 20) g.es (fun d hd => by
    obtain ⟨i, hi, rfl⟩ := List.getElem_of_mem hd
    exact edgeL_len (g := g) (hG.oke _ hd) (by have := okG_e h3 hi; rwa [getD_at ed0 hi] at this))
  have a3 : (2 * szG g + 20) * g.es.length ≤ (2 * szG g + 20) * 30 := Nat.mul_le_mul_left _ h2
  have e : szG g = (g.ns.map szN).sum + (g.es.map szE).sum := rfl
  unfold printG
  rw [List.length_append]
  omega
theorem emit_len {mark : List UInt8} (hm : mark.length ≤ 10) (q : Bool) (c : UInt8) : (emitV mark q c).length ≤ 16 := by
  unfold emitV tailV
  split
  · simp
  · split
    · simp; omega
    · simp
theorem bk_take {mark : List UInt8} {x : Bk} {s : List UInt8} {i : Nat} (h : i < s.length) : bk mark x (s.take (i + 1)) = bkStep mark (bk mark x (s.take i)) (s.getD i 0) := by
  rw [List.take_succ_eq_append_getElem h, bk_app, getD_at 0 h]; rfl
theorem mark_succ {l : List UInt8} {i : Nat} (h : i < l.length) : (l.take (i + 1)).filter (fun c => decide (c ≠ 10)) = (l.take i).filter (fun c => decide (c ≠ 10)) ++ (if l.getD i 0 = 10 then [] else [l.getD i 0]) := by
  rw [List.take_succ_eq_append_getElem h, List.filter_append, getD_at 0 h]
  congr 1
  by_cases e : l[i] = 10
  · rw [if_pos e, e]; rfl
  · rw [if_neg e, List.filter_cons_of_pos (by simpa using e)]; rfl
theorem cut1_at {l : List UInt8} {i : Nat} (h : i < l.length) : (l.take ((i : Int) + 1).toNat).drop ((i : Int)).toNat = [l.getD i 0] := by
  have e : ((i : Int) + 1).toNat = i + 1 := by omega
  rw [e, Int.toNat_natCast, List.take_succ_eq_append_getElem h, getD_at 0 h, List.drop_append_of_le_length (by rw [List.length_take]; omega), List.drop_of_length_le (by rw [List.length_take]; omega)]; rfl
set_option maxHeartbeats 1000000 in
theorem LoadBlanks_r (S : Nat → Prop) (A : Option Addr) (c : Nat) (B : Option Addr) (e : Nat) (g : GV) (l : List UInt8) (w : World) (hG0 : GAt S w A c B e g) (hsz0 : szG g ≤ 1048576) (hll : l.length ≤ 140737488351232) (hL : Lb w) :
    Ret Tryz.prog 5 [.agg #[.slice A g.ns.length c, .slice B g.es.length e], str l] w fun v w' => v = .bool true ∧ Below w.heap.size w w' := by
  have hnl := szG_nlen g
  have hel := szG_elen g
  have hG := hG0.few
  have hsz := Nat.le_trans (fewG_sz g) hsz0
  have l1 : (fewG g).ns.length ≤ 30 := by unfold fewG; rw [List.length_take]; omega
  have l2 : (fewG g).es.length ≤ 30 := by unfold fewG; rw [List.length_take]; omega
  have hb := Below.refl w.heap.size w
  have hG_hb := hG
  have hL_hb := hL
  refine enter Tryz.func5 rfl rfl rfl <| Wc.seq fun _ hK_1 => Wc.region <| Wl.boxN rfl rfl ?_
  rintro g_o0 w_o0 hg_o0 hn_o0 hs_o0
  have hz_o0 := hs_o0.size
  have hb := hb.trans (hs_o0.mono hb.size)
  have hG := hG_hb.below hb
  have hL := hL_hb.below hb
  have hB_o0 := hn_o0
  have hl_o0 := hB_o0.lt
  refine Wl.sg rfl rfl <| Wl.nil <| Wq.next hK_1 <| Wc.seq fun _ hK_4 => Wc.region <| Wl.call txt7LpH rfl rfl (shown8_r _ hL) rfl ?_
  rintro _ w_k0 ⟨rfl, hs_k0⟩
  have hz_k0 := hs_k0.size
  have hb := hb.trans (hs_k0.mono hb.size)
  have hG := hG_hb.below hb
  have hL := hL_hb.below hb
  have hB_o0 := Blk.below hB_o0 hs_k0
  refine Wl.sg rfl rfl <| Wl.nil <| Wq.next hK_4 <| Wc.seq fun _ hK_7 => Wc.region <| Wl.l (l_loadS Tryz.underlying27 (by kernel_rfl) rfl (by exact fun j u hu => hB_o0.at hu)) rfl <| Wl.call txt13LpH rfl rfl (few8_r A c B e g _ hG0.nc hG0.ec (by omega) (by omega)) rfl ?_
  rintro _ w_k1 ⟨rfl, hs_k1⟩
  have hz_k1 := hs_k1.size
  have hb := hb.trans (hs_k1.mono hb.size)
  have hG := hG_hb.below hb
  have hL := hL_hb.below hb
  have hB_o0 := Blk.below hB_o0 hs_k1
  refine Wl.storeS (by kernel_rfl) rfl rfl hB_o0 rfl rfl ?_
  rintro w_s0 hn_s0 hg_s0
  have hz_s0 := hg_s0.size
  have hb := below_blk hb hg_s0 hb.size (by omega)
  have hG := hG_hb.below hb
  have hL := hL_hb.below hb
  have hB_o0 := hn_s0
  refine Wl.nil <| Wq.next hK_7 <| Wc.seq fun _ hK_10 => Wc.region <| Wl.l (l_loadS Tryz.underlying27 (by kernel_rfl) rfl (by exact fun j u hu => hB_o0.at hu)) rfl <| Wl.call txt11LpH rfl rfl (GPrint_r S A c B e (fewG g) _ hG (by omega) hL) rfl ?_
  rintro _ w_k2 ⟨rfl, hs_k2⟩
  have hz_k2 := hs_k2.size
  have hb := hb.trans (hs_k2.mono hb.size)
  have hG := hG_hb.below hb
  have hL := hL_hb.below hb
  have hB_o0 := Blk.below hB_o0 hs_k2
  refine Wl.mv rfl rfl <| Wl.y (y_extract rfl rfl) rfl <| Wl.y (y_extract rfl rfl) rfl <| Wl.sg rfl rfl <| Wl.sg rfl rfl <| Wl.nil <| Wq.next hK_10 <| Wc.seq fun _ hK_18 => Wc.seq fun _ hK_19 => Wc.region <| Wl.mv rfl rfl <| Wl.y (y_neqi rfl rfl) rfl <| Wl.nil <| Wq.next hK_19 <| Wc.cond rfl (fun c0_22 => ?_) (fun c0_22 => ?_)
  ·
   have c0_22_ := c0_22
   simp only [DZ] at c0_22
   refine Wc.seq fun _ hK_23 => Wc.region <| Wl.mv rfl rfl <| Wl.sg rfl rfl <| Wl.nil <| Wq.next hK_23 <| Wc.ret <| Wq.then_ret <| ret1 rfl rfl ?_
   exact ⟨_, rfl, rfl, hb⟩
  have c0_22_ := c0_22
  simp only [DZ] at c0_22
  have h0 : rightG (fewG g) = 0 := by simpa using c0_22
  have hpl := print_few hG h0 l1 l2
  have hrg := rg_of h0 hG.oks hG.oke
  rw [if_pos h0]
  obtain ⟨s, hs⟩ : ∃ s, s = printG (fewG g) := ⟨_, rfl⟩
  rw [← hs] at hpl ⊢
  refine Wc.skip <| Wq.next hK_18 <| Wc.seq fun _ hK_26 => Wc.region <| Wl.sg rfl rfl <| Wl.nil <| Wq.next hK_26 <| Wc.seq fun _ hK_28 => Wc.seq fun _ hK_29 => Wc.region <| Wl.sg rfl rfl <| Wl.nil <| Wq.next hK_29 <| Wc.block <| Wc.loop (X := Nat) (fun i => [(1, str l), (2, .pointer (some ⟨g_o0, 0, none⟩)), (5, .bool true), (6, str s), (8, str ((l.take i).filter (fun c => decide (c ≠ 10)))), (9, .int .i64 (i : Int))]) (fun i wr => i ≤ l.length ∧ i ≤ 10 ∧ Below w.heap.size w wr ∧ Blk wr g_o0 27 [.slice A (fewG g).ns.length c, .slice B (fewG g).es.length e]) (fun i => 10 - i) (0) ?_ ?_ ?_
  · exact by repeat first | exact Sub.nil | refine Sub.cons' rfl (by first | rfl | exact int_eq (by omega)) ?_
  · exact ⟨Nat.zero_le _, Nat.zero_le _, hb, hB_o0⟩
  rintro i wr hI_32 _ hL_31
  replace hI_32 : i ≤ l.length ∧ i ≤ 10 ∧ Below w.heap.size w wr ∧ Blk wr g_o0 27 [.slice A (fewG g).ns.length c, .slice B (fewG g).es.length e] := hI_32
  obtain ⟨hi, hi10, hb, hB_o0⟩ := hI_32
  show Wc _ _ _ _ _ [(1, str l), (2, .pointer (some ⟨g_o0, 0, none⟩)), (5, .bool true), (6, str s), (8, str ((l.take i).filter (fun c => decide (c ≠ 10)))), (9, .int .i64 (i : Int))] _
  have hG := hG_hb.below hb
  have hL := hL_hb.below hb
  have hzhb_L0 := hb.size
  have hlhB_o0_L0 := hB_o0.lt
  refine Wc.seq fun _ hK_33 => Wc.seq fun _ hK_34 => Wc.meet (X := Bool) (fun z => [(1, str l), (2, .pointer (some ⟨g_o0, 0, none⟩)), (5, .bool true), (6, str s), (8, str ((l.take i).filter (fun c => decide (c ≠ 10)))), (9, .int .i64 (i : Int)), (35, .bool z)]) (fun z wm => z = decide (i < l.length ∧ i < 10) ∧ Below w.heap.size w wm ∧ Blk wm g_o0 27 [.slice A (fewG g).ns.length c, .slice B (fewG g).es.length e]) (fun _ hM_35 => ?_) ?_
  ·
   refine Wc.region <| Wl.mv rfl rfl <| Wl.mv rfl rfl <| Wl.y (y_lens Tryz.underlying9 (by omega) rfl) rfl <| Wl.y (y_lssi rfl rfl) rfl <| Wl.mv rfl rfl <| Wl.guardT rfl rfl rfl (fun g_41 => ?_) (fun g_41 => ?_)
   ·
    have g_41_ := g_41
    simp only [DZ] at g_41
    refine Wl.mv rfl rfl <| Wl.on' rfl rfl g_41_ <| Wl.y (y_lssi rfl rfl) rfl <| Wl.y (y_pickT rfl g_41_ rfl) rfl <| Wl.nil <| Wq.meet hM_35 (decide (i < l.length ∧ i < 10)) (by repeat first | exact Sub.nil | refine Sub.cons' rfl (by first | rfl | exact bool_eq (by rw [Bool.eq_iff_iff, decide_eq_true_eq, decide_eq_true_eq]; omega) | exact bool_eq (by rw [eq_comm, decide_eq_false_iff_not]; omega)) ?_) ?_
    exact ⟨rfl, hb, hB_o0⟩
   have g_41_ := g_41
   simp only [DZ] at g_41
   refine Wl.off' rfl rfl g_41_ rfl rfl <| Wl.y (y_pickF rfl g_41_ rfl) rfl <| Wl.nil <| Wq.meet hM_35 (decide (i < l.length ∧ i < 10)) (by repeat first | exact Sub.nil | refine Sub.cons' rfl (by first | rfl | exact bool_eq (by rw [Bool.eq_iff_iff, decide_eq_true_eq, decide_eq_true_eq]; omega) | exact bool_eq (by rw [eq_comm, decide_eq_false_iff_not]; omega)) ?_) ?_
   exact ⟨rfl, hb, hB_o0⟩
  rintro z wm hI_46
  replace hI_46 : z = decide (i < l.length ∧ i < 10) ∧ Below w.heap.size w wm ∧ Blk wm g_o0 27 [.slice A (fewG g).ns.length c, .slice B (fewG g).es.length e] := hI_46
  obtain ⟨hz, hb, hB_o0⟩ := hI_46
  show Wq _ _ _ _ [(1, str l), (2, .pointer (some ⟨g_o0, 0, none⟩)), (5, .bool true), (6, str s), (8, str ((l.take i).filter (fun c => decide (c ≠ 10)))), (9, .int .i64 (i : Int)), (35, .bool z)] _
  have hG := hG_hb.below hb
  have hL := hL_hb.below hb
  have hzhb_g8 := hb.size
  have hlhB_o0_g8 := hB_o0.lt
  refine Wq.next hK_34 <| Wc.cond rfl (fun c1_47 => ?_) (fun c1_47 => ?_)
  ·
   have c1_47_ := c1_47
   have hgo : i < l.length ∧ i < 10 := by have h := c1_47_; rw [hz] at h; exact of_decide_eq_true h
   have hms := mark_succ hgo.1
   have hfl : ((l.take i).filter (fun c => decide (c ≠ 10))).length ≤ 10 := Nat.le_trans (List.length_filter_le _ _) (by rw [List.length_take]; omega)
   refine Wc.skip <| Wq.next hK_33 <| Wc.seq fun _ hK_48 => Wc.block <| Wc.seq fun _ hK_49 => Wc.region <| Wl.mv rfl rfl <| Wl.mv rfl rfl <| Wl.y (y_indexs Tryz.underlying9 rfl rfl (by omega) (by omega)) rfl <| Wl.y (y_neqi rfl rfl) rfl <| Wl.nil <| Wq.next hK_49 <| Wc.meet (X := Unit) (fun u_ => [(1, str l), (2, .pointer (some ⟨g_o0, 0, none⟩)), (5, .bool true), (6, str s), (8, str ((l.take (i + 1)).filter (fun c => decide (c ≠ 10)))), (9, .int .i64 (i : Int))]) (fun u_ wq => Below w.heap.size w wq ∧ Blk wq g_o0 27 [.slice A (fewG g).ns.length c, .slice B (fewG g).es.length e]) (fun _ hM_54 => ?_) ?_
   ·
    refine Wc.cond rfl (fun c2_55 => ?_) (fun c2_55 => ?_)
    ·
     have c2_55_ := c2_55
     simp only [DZ] at c2_55
     have hc10 : ¬ l.getD i 0 = 10 := fun h => c2_55 ((u8_ten _).2 (by rw [Int.toNat_natCast]; exact h))
     rw [if_neg hc10] at hms
     refine Wc.region <| Wl.mv rfl rfl <| Wl.mv rfl rfl <| Wl.mv rfl rfl <| Wl.mv rfl rfl <| Wl.y (y_addI rfl rfl (by omega) (by omega)) rfl <| Wl.y (y_eq (y_slices Tryz.underlying9 rfl rfl rfl (by omega) (by omega) (by omega)) (str_eq (cut1_at hgo.1))) rfl <| Wl.y (y_adds rfl rfl (by simp only [List.length_cons, List.length_nil]; omega)) rfl <| Wl.sg rfl rfl <| Wl.nil <| Wq.meet hM_54 (()) (by repeat first | exact Sub.nil | refine Sub.cons' rfl (by first | rfl | exact str_eq hms.symm) ?_) ?_
     exact ⟨hb, hB_o0⟩
    have c2_55_ := c2_55
    simp only [DZ] at c2_55
    have hc10 : l.getD i 0 = 10 := by have h := (u8_ten _).1 c2_55; rw [Int.toNat_natCast] at h; exact h
    rw [if_pos hc10, List.append_nil] at hms
    refine Wc.skip <| Wq.meet hM_54 (()) (by repeat first | exact Sub.nil | refine Sub.cons' rfl (by first | rfl | exact str_eq hms.symm) ?_) ?_
    exact ⟨hb, hB_o0⟩
   rintro u_ wq hI_64
   replace hI_64 : Below w.heap.size w wq ∧ Blk wq g_o0 27 [.slice A (fewG g).ns.length c, .slice B (fewG g).es.length e] := hI_64
   obtain ⟨hb, hB_o0⟩ := hI_64
   show Wq _ _ _ _ [(1, str l), (2, .pointer (some ⟨g_o0, 0, none⟩)), (5, .bool true), (6, str s), (8, str ((l.take (i + 1)).filter (fun c => decide (c ≠ 10)))), (9, .int .i64 (i : Int))] _
   have hG := hG_hb.below hb
   have hL := hL_hb.below hb
   have hzhb_c2 := hb.size
   have hlhB_o0_c2 := hB_o0.lt
   refine Wq.block_normal <| Wq.next hK_48 <| Wc.region <| Wl.mv rfl rfl <| Wl.y (y_addI rfl rfl (by omega) (by omega)) rfl <| Wl.sg rfl rfl <| Wl.nil <| fun a_ ha_ => hL_31 _ _ (i + 1) (by have h2 : i < 10 := hgo.2; omega) (by repeat first | exact Sub.nil | refine Sub.cons' rfl (by first | rfl | exact int_eq (by omega)) ?_) ?_ a_ ha_
   exact ⟨(show i + 1 ≤ l.length by omega), (show i + 1 ≤ 10 by omega), hb, hB_o0⟩
  have c1_47_ := c1_47
  obtain ⟨mark, hmk⟩ : ∃ mark, mark = (l.take i).filter (fun c => decide (c ≠ 10)) := ⟨_, rfl⟩
  have hm10 : (10 : UInt8) ∉ mark := fun hm => by rw [hmk] at hm; have := (List.mem_filter.1 hm).2; simp at this
  have hml : mark.length ≤ 10 := by rw [hmk]; exact Nat.le_trans (List.length_filter_le _ _) (by rw [List.length_take]; omega)
  rw [← hmk]
  refine Wc.exit <| Wq.then_exit <| Wq.then_exit <| Wq.block_exit <| Wq.next hK_28 <| Wc.seq fun _ hK_68 => Wc.region <| Wl.sg rfl rfl <| Wl.nil <| Wq.next hK_68 <| Wc.seq fun _ hK_70 => Wc.region <| Wl.sg rfl rfl <| Wl.nil <| Wq.next hK_70 <| Wc.seq fun _ hK_72 => Wc.seq fun _ hK_73 => Wc.region <| Wl.sg rfl rfl <| Wl.nil <| Wq.next hK_73 <| Wc.block <| Wc.loop (X := Nat) (fun k => [(2, .pointer (some ⟨g_o0, 0, none⟩)), (5, .bool true), (6, str s), (8, str mark), (10, str (bk mark (false, 0, [32]) (s.take k)).2.2), (11, .bool (bk mark (false, 0, [32]) (s.take k)).1), (12, .int .i64 (k : Int))]) (fun k wv => k ≤ s.length ∧ (bk mark (false, 0, [32]) (s.take k)).2.2.length ≤ 1 + 16 * k ∧ Below w.heap.size w wv ∧ Blk wv g_o0 27 [.slice A (fewG g).ns.length c, .slice B (fewG g).es.length e]) (fun k => s.length - k) (0) ?_ ?_ ?_
  · exact by repeat first | exact Sub.nil | refine Sub.cons' rfl (by first | rfl | exact int_eq (by omega) | exact str_eq (by rw [hbs]) | exact bool_eq (by rw [hbs])) ?_
  · exact ⟨Nat.zero_le _, by simp [bk], hb, hB_o0⟩
  rintro k wv hI_76 _ hL_75
  replace hI_76 : k ≤ s.length ∧ (bk mark (false, 0, [32]) (s.take k)).2.2.length ≤ 1 + 16 * k ∧ Below w.heap.size w wv ∧ Blk wv g_o0 27 [.slice A (fewG g).ns.length c, .slice B (fewG g).es.length e] := hI_76
  obtain ⟨hk, hol, hb, hB_o0⟩ := hI_76
  show Wc _ _ _ _ _ [(2, .pointer (some ⟨g_o0, 0, none⟩)), (5, .bool true), (6, str s), (8, str mark), (10, str (bk mark (false, 0, [32]) (s.take k)).2.2), (11, .bool (bk mark (false, 0, [32]) (s.take k)).1), (12, .int .i64 (k : Int))] _
  have hG := hG_hb.below hb
  have hL := hL_hb.below hb
  have hzhb_L1 := hb.size
  have hlhB_o0_L1 := hB_o0.lt
  refine Wc.seq fun _ hK_77 => Wc.seq fun _ hK_78 => Wc.region <| Wl.mv rfl rfl <| Wl.mv rfl rfl <| Wl.y (y_lens Tryz.underlying9 (by omega) rfl) rfl <| Wl.y (y_lssi rfl rfl) rfl <| Wl.nil <| Wq.next hK_78 <| Wc.cond rfl (fun c3_83 => ?_) (fun c3_83 => ?_)
  ·
   have c3_83_ := c3_83
   simp only [DZ] at c3_83
   have hkl : k < s.length := by have := c3_83; omega
   have hbs := bk_take (mark := mark) (x := (false, 0, [32])) hkl
   have hcnt := bk_count mark (s.take k) (false, 0, [32])
   obtain ⟨x, hx⟩ : ∃ x, x = bk mark (false, 0, [32]) (s.take k) := ⟨_, rfl⟩
   obtain ⟨ch, hch⟩ : ∃ ch, ch = s.getD k 0 := ⟨_, rfl⟩
   obtain ⟨q', hq'⟩ : ∃ q', q' = quoteN x.1 x.2.1 ch := ⟨_, rfl⟩
   have hel2 := emit_len hml q' ch
   have htb : tb (s.take k) = x.2.1 := by rw [hx, hcnt]; rfl
   have hbs2 : bkStep mark x ch = (q', if ch = 92 then x.2.1 + 1 else 0, x.2.2 ++ emitV mark q' ch) := by rw [hq']; rfl
   rw [← hx, ← hch, hbs2] at hbs
   rw [← hx] at hol ⊢
   refine Wc.skip <| Wq.next hK_77 <| Wc.seq fun _ hK_84 => Wc.block <| Wc.seq fun _ hK_85 => Wc.region <| Wl.mv rfl rfl <| Wl.mv rfl rfl <| Wl.y (y_eq (y_indexs Tryz.underlying9 rfl rfl (by omega) (by omega)) (int_eq (show _ = ((ch.toNat : Nat) : Int) by rw [Int.toNat_natCast, ← hch]))) rfl <| Wl.sg rfl rfl <| Wl.nil <| Wq.next hK_85 <| Wc.seq fun _ hK_90 => Wc.seq fun _ hK_91 => Wc.meet (X := Bool) (fun z => [(2, .pointer (some ⟨g_o0, 0, none⟩)), (5, .bool true), (6, str s), (8, str mark), (10, str x.2.2), (11, .bool x.1), (12, .int .i64 (k : Int)), (13, .int .u8 ((ch.toNat : Nat) : Int)), (68, .bool z)]) (fun z wa => z = decide (ch = 39 ∧ ¬ (x.1 = true ∧ x.2.1 % 2 = 1)) ∧ Below w.heap.size w wa ∧ Blk wa g_o0 27 [.slice A (fewG g).ns.length c, .slice B (fewG g).es.length e]) (fun _ hM_92 => ?_) ?_
   ·
    refine Wc.region <| Wl.mv rfl rfl <| Wl.y (y_eqli rfl rfl) rfl <| Wl.mv rfl rfl <| Wl.guardT rfl rfl rfl (fun g_96 => ?_) (fun g_96 => ?_)
    ·
     have g_96_ := g_96
     simp only [DZ] at g_96
     have hc39 : ch = 39 := (u8_is (n := 39) (by decide)).1 g_96
     refine Wl.mv rfl rfl <| Wl.on' rfl rfl g_96_ <| Wl.mv rfl rfl <| Wl.guardT rfl rfl rfl (fun g_99 => ?_) (fun g_99 => ?_)
     ·
      have g_99_ := g_99
      have hqx : x.1 = true := g_99_
      refine Wl.mv rfl rfl <| Wl.on' rfl rfl g_99_ <| Wl.mv rfl rfl <| Wl.on' rfl rfl g_99_ <| Wl.call txt14LpH rfl rfl (escaped_r s k (by omega) (by omega) _) rfl ?_
      rintro _ w_k3 ⟨rfl, hs_k3⟩
      have hz_k3 := hs_k3.size
      have hb := hb.trans (hs_k3.mono hb.size)
      have hG := hG_hb.below hb
      have hL := hL_hb.below hb
      have hB_o0 := Blk.below hB_o0 hs_k3
      refine Wl.on' rfl rfl g_96_ <| Wl.y (y_pickT rfl g_99_ rfl) rfl <| Wl.on' rfl rfl g_96_ <| Wl.y (y_not rfl) rfl <| Wl.y (y_pickT rfl g_96_ rfl) rfl <| Wl.nil <| Wq.meet hM_92 (decide (ch = 39 ∧ ¬ (x.1 = true ∧ x.2.1 % 2 = 1))) (by repeat first | exact Sub.nil | refine Sub.cons' rfl (by first | rfl | exact bool_eq (by have e2 := Nat.mod_two_eq_zero_or_one x.2.1; rw [htb]; rcases e2 with e2 | e2 <;> simp [hc39, hqx, e2]) | (refine bool_eq ?_; simp [hc39]; done) | (refine bool_eq ?_; simp [hc39, hqx]; done) | exact bool_eq (by rw [decide_eq_false hc39n, decide_eq_false (fun h => hc39 h.1)]) | exact bool_eq (show false = _ by rw [eq_comm, decide_eq_false_iff_not]; exact fun h => hc39 h.1) | exact bool_eq (by rw [Bool.eq_iff_iff, beq_iff_eq, decide_eq_true_eq]; exact ⟨fun h => absurd h hc39n, fun h => absurd h.1 hc39⟩) | exact bool_eq (by simp [hc39])) ?_) ?_
      exact ⟨rfl, hb, hB_o0⟩
     have g_99_ := g_99
     have hqx : x.1 = false := g_99_
     refine Wl.off' rfl rfl g_99_ rfl rfl <| Wl.off' rfl rfl g_99_ rfl rfl <| Wl.on' rfl rfl g_96_ <| Wl.y (y_pickF rfl g_99_ rfl) rfl <| Wl.on' rfl rfl g_96_ <| Wl.y (y_not rfl) rfl <| Wl.y (y_pickT rfl g_96_ rfl) rfl <| Wl.nil <| Wq.meet hM_92 (decide (ch = 39 ∧ ¬ (x.1 = true ∧ x.2.1 % 2 = 1))) (by repeat first | exact Sub.nil | refine Sub.cons' rfl (by first | rfl | exact bool_eq (by have e2 := Nat.mod_two_eq_zero_or_one x.2.1; rw [htb]; rcases e2 with e2 | e2 <;> simp [hc39, hqx, e2]) | (refine bool_eq ?_; simp [hc39]; done) | (refine bool_eq ?_; simp [hc39, hqx]; done) | exact bool_eq (by rw [decide_eq_false hc39n, decide_eq_false (fun h => hc39 h.1)]) | exact bool_eq (show false = _ by rw [eq_comm, decide_eq_false_iff_not]; exact fun h => hc39 h.1) | exact bool_eq (by rw [Bool.eq_iff_iff, beq_iff_eq, decide_eq_true_eq]; exact ⟨fun h => absurd h hc39n, fun h => absurd h.1 hc39⟩) | exact bool_eq (by simp [hc39])) ?_) ?_
     exact ⟨rfl, hb, hB_o0⟩
    have g_96_ := g_96
    simp only [DZ] at g_96
    have hc39 : ¬ ch = 39 := fun h => g_96 ((u8_is (n := 39) (by decide)).2 h)
    have hc39n : ¬ ((ch.toNat : Int) = 39) := fun h => hc39 ((u8_is (n := 39) (by decide)).1 h)
    refine Wl.off' rfl rfl g_96_ rfl rfl <| Wl.offU rfl rfl rfl <| Wl.offU rfl rfl rfl <| Wl.offU rfl rfl rfl <| Wl.off' rfl rfl g_96_ rfl rfl <| Wl.off' rfl rfl g_96_ rfl rfl <| Wl.y (y_pickF rfl g_96_ rfl) rfl <| Wl.nil <| Wq.meet hM_92 (decide (ch = 39 ∧ ¬ (x.1 = true ∧ x.2.1 % 2 = 1))) (by repeat first | exact Sub.nil | refine Sub.cons' rfl (by first | rfl | exact bool_eq (by have e2 := Nat.mod_two_eq_zero_or_one x.2.1; rw [htb]; rcases e2 with e2 | e2 <;> simp [hc39, hqx, e2]) | (refine bool_eq ?_; simp [hc39]; done) | (refine bool_eq ?_; simp [hc39, hqx]; done) | exact bool_eq (by rw [decide_eq_false hc39n, decide_eq_false (fun h => hc39 h.1)]) | exact bool_eq (show false = _ by rw [eq_comm, decide_eq_false_iff_not]; exact fun h => hc39 h.1) | exact bool_eq (by rw [Bool.eq_iff_iff, beq_iff_eq, decide_eq_true_eq]; exact ⟨fun h => absurd h hc39n, fun h => absurd h.1 hc39⟩) | exact bool_eq (by simp [hc39])) ?_) ?_
    exact ⟨rfl, hb, hB_o0⟩
   rintro z wa hI_110
   replace hI_110 : z = decide (ch = 39 ∧ ¬ (x.1 = true ∧ x.2.1 % 2 = 1)) ∧ Below w.heap.size w wa ∧ Blk wa g_o0 27 [.slice A (fewG g).ns.length c, .slice B (fewG g).es.length e] := hI_110
   obtain ⟨hz, hb, hB_o0⟩ := hI_110
   show Wq _ _ _ _ [(2, .pointer (some ⟨g_o0, 0, none⟩)), (5, .bool true), (6, str s), (8, str mark), (10, str x.2.2), (11, .bool x.1), (12, .int .i64 (k : Int)), (13, .int .u8 ((ch.toNat : Nat) : Int)), (68, .bool z)] _
   have hG := hG_hb.below hb
   have hL := hL_hb.below hb
   have hzhb_g17 := hb.size
   have hlhB_o0_g17 := hB_o0.lt
   refine Wq.next hK_91 <| Wc.meet (X := Unit) (fun u_ => [(2, .pointer (some ⟨g_o0, 0, none⟩)), (5, .bool true), (6, str s), (8, str mark), (10, str x.2.2), (11, .bool q'), (12, .int .i64 (k : Int)), (13, .int .u8 ((ch.toNat : Nat) : Int))]) (fun u_ we => Below w.heap.size w we ∧ Blk we g_o0 27 [.slice A (fewG g).ns.length c, .slice B (fewG g).es.length e]) (fun _ hM_111 => ?_) ?_
   ·
    refine Wc.cond rfl (fun c4_112 => ?_) (fun c4_112 => ?_)
    ·
     have c4_112_ := c4_112
     have hq2 : q' = !x.1 := by have h := c4_112_; rw [hz] at h; rw [hq']; unfold quoteN; rw [if_pos (of_decide_eq_true h)]
     refine Wc.region <| Wl.mv rfl rfl <| Wl.y (y_not rfl) rfl <| Wl.sg rfl rfl <| Wl.nil <| Wq.meet hM_111 (()) (by repeat first | exact Sub.nil | refine Sub.cons' rfl (by first | rfl | exact bool_eq hq2.symm) ?_) ?_
     exact ⟨hb, hB_o0⟩
    have c4_112_ := c4_112
    have hq2 : q' = x.1 := by have h := c4_112_; rw [hz] at h; rw [hq']; unfold quoteN; rw [if_neg (of_decide_eq_false h)]
    refine Wc.skip <| Wq.meet hM_111 (()) (by repeat first | exact Sub.nil | refine Sub.cons' rfl (by first | rfl | exact bool_eq hq2.symm) ?_) ?_
    exact ⟨hb, hB_o0⟩
   rintro u_ we hI_116
   replace hI_116 : Below w.heap.size w we ∧ Blk we g_o0 27 [.slice A (fewG g).ns.length c, .slice B (fewG g).es.length e] := hI_116
   obtain ⟨hb, hB_o0⟩ := hI_116
   show Wq _ _ _ _ [(2, .pointer (some ⟨g_o0, 0, none⟩)), (5, .bool true), (6, str s), (8, str mark), (10, str x.2.2), (11, .bool q'), (12, .int .i64 (k : Int)), (13, .int .u8 ((ch.toNat : Nat) : Int))] _
   have hG := hG_hb.below hb
   have hL := hL_hb.below hb
   have hzhb_c4 := hb.size
   have hlhB_o0_c4 := hB_o0.lt
   refine Wq.next hK_90 <| Wc.meet (X := Unit) (fun u_ => [(2, .pointer (some ⟨g_o0, 0, none⟩)), (5, .bool true), (6, str s), (8, str mark), (10, str (x.2.2 ++ emitV mark q' ch)), (11, .bool q'), (12, .int .i64 (k : Int))]) (fun u_ wf => Below w.heap.size w wf ∧ Blk wf g_o0 27 [.slice A (fewG g).ns.length c, .slice B (fewG g).es.length e]) (fun _ hM_117 => ?_) ?_
   ·
    refine Wc.block <| Wc.seq fun _ hK_118 => Wc.meet (X := Bool) (fun z2 => [(2, .pointer (some ⟨g_o0, 0, none⟩)), (5, .bool true), (6, str s), (8, str mark), (10, str x.2.2), (11, .bool q'), (12, .int .i64 (k : Int)), (13, .int .u8 ((ch.toNat : Nat) : Int)), (78, .bool z2)]) (fun z2 wh => z2 = decide (ch = 32 ∧ q' = false) ∧ Below w.heap.size w wh ∧ Blk wh g_o0 27 [.slice A (fewG g).ns.length c, .slice B (fewG g).es.length e]) (fun _ hM_119 => ?_) ?_
    ·
     refine Wc.region <| Wl.mv rfl rfl <| Wl.y (y_eqli rfl rfl) rfl <| Wl.mv rfl rfl <| Wl.guardT rfl rfl rfl (fun g_123 => ?_) (fun g_123 => ?_)
     ·
      have g_123_ := g_123
      simp only [DZ] at g_123
      have hc32 : ch = 32 := (u8_is (n := 32) (by decide)).1 g_123
      refine Wl.mv rfl rfl <| Wl.on' rfl rfl g_123_ <| Wl.y (y_not rfl) rfl <| Wl.y (y_pickT rfl g_123_ rfl) rfl <| Wl.sg rfl rfl <| Wl.nil <| Wq.meet hM_119 (decide (ch = 32 ∧ q' = false)) (by repeat first | exact Sub.nil | refine Sub.cons' rfl (by first | rfl | exact bool_eq (by cases q' <;> simp [hc32]) | exact bool_eq (by simp [hc32])) ?_) ?_
      exact ⟨rfl, hb, hB_o0⟩
     have g_123_ := g_123
     simp only [DZ] at g_123
     have hc32 : ¬ ch = 32 := fun h => g_123 ((u8_is (n := 32) (by decide)).2 h)
     refine Wl.off' rfl rfl g_123_ rfl rfl <| Wl.y (y_pickF rfl g_123_ rfl) rfl <| Wl.sg rfl rfl <| Wl.nil <| Wq.meet hM_119 (decide (ch = 32 ∧ q' = false)) (by repeat first | exact Sub.nil | refine Sub.cons' rfl (by first | rfl | exact bool_eq (by cases q' <;> simp [hc32]) | exact bool_eq (by simp [hc32])) ?_) ?_
     exact ⟨rfl, hb, hB_o0⟩
    rintro z2 wh hI_130
    replace hI_130 : z2 = decide (ch = 32 ∧ q' = false) ∧ Below w.heap.size w wh ∧ Blk wh g_o0 27 [.slice A (fewG g).ns.length c, .slice B (fewG g).es.length e] := hI_130
    obtain ⟨hz2, hb, hB_o0⟩ := hI_130
    show Wq _ _ _ _ [(2, .pointer (some ⟨g_o0, 0, none⟩)), (5, .bool true), (6, str s), (8, str mark), (10, str x.2.2), (11, .bool q'), (12, .int .i64 (k : Int)), (13, .int .u8 ((ch.toNat : Nat) : Int)), (78, .bool z2)] _
    have hG := hG_hb.below hb
    have hL := hL_hb.below hb
    have hzhb_g19 := hb.size
    have hlhB_o0_g19 := hB_o0.lt
    refine Wq.next hK_118 <| Wc.cond rfl (fun c5_131 => ?_) (fun c5_131 => ?_)
    ·
     have c5_131_ := c5_131
     have hc5 : ch = 32 ∧ q' = false := by have h := c5_131_; rw [hz2] at h; exact of_decide_eq_true h
     have hem : x.2.2 ++ [32, 32] = x.2.2 ++ emitV mark q' ch := by unfold emitV; rw [if_pos hc5]
     refine Wc.region <| Wl.mv rfl rfl <| Wl.y (y_adds rfl rfl (by simp only [List.length_cons, List.length_nil]; omega)) rfl <| Wl.sg rfl rfl <| Wl.nil <| Wq.block_normal <| Wq.meet hM_117 (()) (by repeat first | exact Sub.nil | refine Sub.cons' rfl (by first | rfl | exact str_eq hem) ?_) ?_
     exact ⟨hb, hB_o0⟩
    have c5_131_ := c5_131
    have hc5 : ¬ (ch = 32 ∧ q' = false) := by have h := c5_131_; rw [hz2] at h; exact of_decide_eq_false h
    refine Wc.seq fun _ hK_135 => Wc.region <| Wl.mv rfl rfl <| Wl.y (y_eqli rfl rfl) rfl <| Wl.sg rfl rfl <| Wl.nil <| Wq.next hK_135 <| Wc.cond rfl (fun c6_139 => ?_) (fun c6_139 => ?_)
    ·
     have c6_139_ := c6_139
     simp only [DZ] at c6_139
     have hc6 : ch = 10 := (u8_is (n := 10) (by decide)).1 c6_139
     have hem : x.2.2 ++ [32, 35] ++ mark ++ [10, 10, 32, 32] = x.2.2 ++ emitV mark q' ch := by unfold emitV; rw [if_neg hc5, if_pos hc6]; unfold tailV; simp
     refine Wc.region <| Wl.mv rfl rfl <| Wl.y (y_adds rfl rfl (by simp only [List.length_cons, List.length_nil]; omega)) rfl <| Wl.mv rfl rfl <| Wl.y (y_adds rfl rfl (by simp only [List.length_append, List.length_cons, List.length_nil]; omega)) rfl <| Wl.y (y_adds rfl rfl (by simp only [List.length_append, List.length_cons, List.length_nil]; omega)) rfl <| Wl.sg rfl rfl <| Wl.nil <| Wq.block_normal <| Wq.meet hM_117 (()) (by repeat first | exact Sub.nil | refine Sub.cons' rfl (by first | rfl | exact str_eq hem) ?_) ?_
     exact ⟨hb, hB_o0⟩
    have c6_139_ := c6_139
    simp only [DZ] at c6_139
    have hc6 : ¬ ch = 10 := fun h => c6_139 ((u8_is (n := 10) (by decide)).2 h)
    have hem : x.2.2 ++ [ch] = x.2.2 ++ emitV mark q' ch := by unfold emitV; rw [if_neg hc5, if_neg hc6]
    refine Wc.region <| Wl.mv rfl rfl <| Wl.mv rfl rfl <| Wl.mv rfl rfl <| Wl.mv rfl rfl <| Wl.y (y_addI rfl rfl (by omega) (by omega)) rfl <| Wl.y (y_eq (y_slices Tryz.underlying9 rfl rfl rfl (by omega) (by omega) (by omega)) (str_eq (show _ = [ch] by rw [cut1_at hkl, ← hch]))) rfl <| Wl.y (y_adds rfl rfl (by simp only [List.length_cons, List.length_nil]; omega)) rfl <| Wl.sg rfl rfl <| Wl.nil <| Wq.block_normal <| Wq.meet hM_117 (()) (by repeat first | exact Sub.nil | refine Sub.cons' rfl (by first | rfl | exact str_eq hem) ?_) ?_
    exact ⟨hb, hB_o0⟩
   rintro u_ wf hI_154
   replace hI_154 : Below w.heap.size w wf ∧ Blk wf g_o0 27 [.slice A (fewG g).ns.length c, .slice B (fewG g).es.length e] := hI_154
   obtain ⟨hb, hB_o0⟩ := hI_154
   show Wq _ _ _ _ [(2, .pointer (some ⟨g_o0, 0, none⟩)), (5, .bool true), (6, str s), (8, str mark), (10, str (x.2.2 ++ emitV mark q' ch)), (11, .bool q'), (12, .int .i64 (k : Int))] _
   have hG := hG_hb.below hb
   have hL := hL_hb.below hb
   have hzhb_B4 := hb.size
   have hlhB_o0_B4 := hB_o0.lt
   refine Wq.block_normal <| Wq.next hK_84 <| Wc.region <| Wl.mv rfl rfl <| Wl.y (y_addI rfl rfl (by omega) (by omega)) rfl <| Wl.sg rfl rfl <| Wl.nil <| fun a_ ha_ => hL_75 _ _ (k + 1) (by have h2 : k < s.length := hkl; omega) (by repeat first | exact Sub.nil | refine Sub.cons' rfl (by first | rfl | exact int_eq (by omega) | exact str_eq (by rw [hbs]) | exact bool_eq (by rw [hbs])) ?_) ?_ a_ ha_
   exact ⟨(show k + 1 ≤ s.length by omega), by rw [hbs]; show (x.2.2 ++ emitV mark q' ch).length ≤ _; rw [List.length_append]; omega, hb, hB_o0⟩
  have c3_83_ := c3_83
  simp only [DZ] at c3_83
  have hke : k = s.length := by have := c3_83; omega
  have htk : s.take k = s := List.take_of_length_le (by omega)
  obtain ⟨m_, hbp⟩ := bk_print (mark := mark) hrg
  rw [← hs] at hbp
  rw [htk, hbp] at hol ⊢
  have hld := load_blanks (mark := mark) hrg hm10
  dsimp only at hol ⊢
  refine Wc.exit <| Wq.then_exit <| Wq.then_exit <| Wq.block_exit <| Wq.next hK_72 <| Wc.seq fun _ hK_158 => Wc.region <| Wl.mv rfl rfl <| Wl.bytesN Tryz.underlying9 Tryz.underlying22 Tryz.underlying5 rfl rfl ?_
  rintro g_o86 c_o86 w_o86 hg_o86 hl_o86 hn_o86 hs_o86
  have hz_o86 := hs_o86.size
  have hb := hb.trans (hs_o86.mono hb.size)
  have hG := hG_hb.below hb
  have hL := hL_hb.below hb
  have hB_o0 := Blk.below hB_o0 hs_o86
  have hR_o86 := hn_o86
  refine Wl.call txt8LpH rfl rfl (LParse_r _ _ _ (32 :: (lines2 (fewG g)).flatMap (fun l => l ++ tailV mark)) _ hR_o86 rfl (by omega) hL) rfl ?_
  rintro _ w_k4 ⟨⟨A1, c1, A2, c2, rfl, hG1⟩, hs_k4⟩
  have hz_k4 := hs_k4.size
  have hb := hb.trans (hs_k4.mono hb.size)
  have hG := hG_hb.below hb
  have hL := hL_hb.below hb
  have hB_o0 := Blk.below hB_o0 hs_k4
  rw [hld] at hG1 ⊢
  dsimp only at hG1 ⊢
  refine Wl.mv rfl rfl <| Wl.y (y_extract rfl rfl) rfl <| Wl.y (y_extract rfl rfl) rfl <| Wl.y (y_extract rfl rfl) rfl <| Wl.allocN (z := (.agg #[(.slice none 0 0), (.slice none 0 0)])) (by kernel_rfl) rfl ?_
  rintro g_o91 w_o91 hg_o91 hn_o91 hs_o91
  have hz_o91 := hs_o91.size
  have hb := hb.trans (hs_o91.mono hb.size)
  have hG := hG_hb.below hb
  have hL := hL_hb.below hb
  have hB_o0 := Blk.below hB_o0 hs_o91
  have hG1 := GIn.below hG1 hs_o91
  have hB_o91 := hn_o91
  have hl_o91 := hB_o91.lt
  refine Wl.storeS (by kernel_rfl) rfl rfl hB_o91 rfl rfl ?_
  rintro w_s1 hn_s1 hg_s1
  have hz_s1 := hg_s1.size
  have hb := below_blk hb hg_s1 hb.size (by omega)
  have hG := hG_hb.below hb
  have hL := hL_hb.below hb
  have hB_o0 := hB_o0.over hg_s1 (by omega)
  have hG1 := hG1.over hg_s1 (by omega)
  have hB_o91 := hn_s1
  refine Wl.sg rfl rfl <| Wl.sg rfl rfl <| Wl.nil <| Wq.next hK_158 <| Wc.seq fun _ hK_169 => Wc.region <| Wl.mv rfl rfl <| Wl.mv rfl rfl <| Wl.guardT rfl rfl rfl (fun g_172 => ?_) (fun g_172 => ?_)
  ·
   have g_172_ := g_172
   simp only [DZ] at g_172
   refine Wl.mv rfl rfl <| Wl.on' rfl rfl g_172_ <| Wl.y (y_eqli rfl rfl) rfl <| Wl.y (y_pickT rfl g_172_ rfl) rfl <| Wl.mv rfl rfl <| Wl.guardT rfl rfl rfl (fun g_177 => ?_) (fun g_177 => ?_)
   ·
    have g_177_ := g_177
    simp only [DZ] at g_177
    refine Wl.l (l_loadS Tryz.underlying27 (by kernel_rfl) rfl (by exact fun j u hu => hB_o0.at hu)) rfl <| Wl.on' rfl rfl g_177_ <| Wl.l (l_loadS Tryz.underlying27 (by kernel_rfl) rfl (by exact fun j u hu => hB_o91.at hu)) rfl <| Wl.on' rfl rfl g_177_ <| Wl.call txt10LpH rfl rfl (GSame_r S A c B e (fewG g) _ A1 c1 A2 c2 (fewG g) _ hG hG1.gat (by omega) (by omega)) rfl ?_
    rintro _ w_k5 ⟨rfl, hs_k5⟩
    have hz_k5 := hs_k5.size
    have hb := hb.trans (hs_k5.mono hb.size)
    have hG := hG_hb.below hb
    have hL := hL_hb.below hb
    have hG1 := GIn.below hG1 hs_k5
    refine Wl.y (y_pickT rfl g_177_ rfl) rfl <| Wl.sg rfl rfl <| Wl.nil <| Wq.next hK_169 <| Wc.ret <| ret1 rfl rfl ?_
    exact ⟨_, rfl, bool_eq (sameG_refl _), hb⟩
   have g_177_ := g_177
   simp only [DZ] at g_177
   exact absurd g_177_ (by simp)
  have g_172_ := g_172
  cases g_172_
end Go.Proofs.YtjmlknjbhbfneaaGreatDoor
