/- LoadRight, by the calculus. -/
import Derived.Test.YtjmlknjbhbfneaaGreatDoorZLpE
import Derived.Test.YtjmlknjbhbfneaaGreatDoorZLpB
namespace Go.Proofs.YtjmlknjbhbfneaaGreatDoor
open Go.RowKit Go.Bw Go.Bw.Fl
set_option linter.unusedVariables false
set_option linter.unusedSimpArgs false
theorem fa27_0LpF (p : Addr) (w : World) : (Instr.fieldAt 27 (.pointer (some p)) 0).run Tryz.prog w = .ok (.pointer (some (p.add 0))) w := run_fieldAt (i := 0) (sz := 0) Tryz.underlying27 rfl (by kernel_rfl) p w
theorem fa27_1LpF (p : Addr) (w : World) : (Instr.fieldAt 27 (.pointer (some p)) 1).run Tryz.prog w = .ok (.pointer (some (p.add 1))) w := run_fieldAt (i := 1) (sz := 0) Tryz.underlying27 rfl (by kernel_rfl) p w
theorem one24LpF : One Tryz.prog 24 := ⟨_, Tryz.underlying24, rfl, by kernel_rfl⟩
theorem one25LpF : One Tryz.prog 25 := ⟨_, Tryz.underlying25, rfl, by kernel_rfl⟩
theorem one5LpF : One Tryz.prog 5 := ⟨_, Tryz.underlying5, rfl, by kernel_rfl⟩
theorem sz5LpF : (Tryz.prog.info? 5).map (·.size) = some 1 := by kernel_rfl
theorem txt10LpF : Txt Tryz.prog 10 := ⟨_, Tryz.func10, by kernel_rfl, rfl⟩   -- bridleway/bridlewayref07.Same
theorem txt11LpF : Txt Tryz.prog 11 := ⟨_, Tryz.func11, by kernel_rfl, rfl⟩   -- bridleway/load.Print
theorem txt12LpF : Txt Tryz.prog 12 := ⟨_, Tryz.func12, by kernel_rfl, rfl⟩   -- bridleway/graph.Right
theorem txt7LpF : Txt Tryz.prog 7 := ⟨_, Tryz.func7, by kernel_rfl, rfl⟩   -- bridleway/bridlewaylaw08.shown
theorem txt8LpF : Txt Tryz.prog 8 := ⟨_, Tryz.func8, by kernel_rfl, rfl⟩   -- bridleway/load.Parse
theorem prefix_ok {b : List UInt8} {k : Nat} (hk : k < (splitL b).length) (h : 0 < k → (loadV (joinL ((splitL b).take k))).2.2 = 0) (hk0 : k ≠ 0) : (loadV (b.take (pos (splitL b) k - 1))).2.2 = 0 ∧ (loadV (b.take (pos (splitL b) k - 1))).2.1 = 0 := by
  obtain ⟨j, rfl⟩ : ∃ j, k = j + 1 := ⟨k - 1, by omega⟩
  have h1 := join_take (splitL b) j hk
  rw [join_split] at h1
  rw [h1]
  exact ⟨h (by omega), (load_right (h (by omega))).2⟩
theorem LoadRight_r (A : Option Addr) (n c : Nat) (l : List UInt8) (w : World) (hn : n = l.length) (hc : n ≤ c) (hl : l.length ≤ 140737488351232) (h : Rd w 1 A n (u8s l)) (hL : Lb w) :
    Ret Tryz.prog 4 [.slice A n c] w fun v w' => v = .bool true ∧ Below w.heap.size w w' := by
  obtain ⟨m, hm⟩ : ∃ m, m = (min (n : Int) 3000).toNat := ⟨_, rfl⟩
  have hmn : m ≤ n := by omega
  have hr := h.takeB hmn
  obtain ⟨b, hbe⟩ : ∃ b, b = l.take m := ⟨_, rfl⟩
  rw [← hbe] at hr
  have hbl : b.length = m := by rw [hbe, List.length_take]; omega
  have hm2 : m ≤ 3000 := by omega
  obtain ⟨G, hGe⟩ : ∃ G, G = (loadV b).1 := ⟨_, rfl⟩
  have hsz := load_size b
  rw [← hGe, hbl] at hsz
  obtain ⟨L, hLe⟩ : ∃ L, L = splitL b := ⟨_, rfl⟩
  have hL10 : ∀ l ∈ L, (10 : UInt8) ∉ l := by rw [hLe]; exact split_no10 b
  have hLn : L.length ≤ b.length + 1 := by rw [hLe, splitL_len]; have := List.count_le_length (a := (10 : UInt8)) (l := b); omega
  have hjb : joinL L = b := by rw [hLe]; exact join_split b
  have hb := Below.refl w.heap.size w
  have hr_hb := hr
  have hL_hb := hL
  refine enter Tryz.func4 rfl rfl rfl <| Wc.seq fun _ hK_1 => Wc.region <| Wl.sg rfl rfl <| Wl.nil <| Wq.next hK_1 <| Wc.seq fun _ hK_3 => Wc.region <| Wl.call txt7LpF rfl rfl (shown8_r _ hL) rfl ?_
  rintro _ w_k0 ⟨rfl, hs_k0⟩
  have hz_k0 := hs_k0.size
  have hb := hb.trans (hs_k0.mono hb.size)
  have hr := hr_hb.below hb
  have hL := hL_hb.below hb
  refine Wl.sg rfl rfl <| Wl.nil <| Wq.next hK_3 <| Wc.seq fun _ hK_6 => Wc.region <| Wl.mv rfl rfl <| Wl.mv rfl rfl <| Wl.y (y_lenl Tryz.underlying22 (by omega) rfl) rfl <| Wl.y (y_min rfl rfl) rfl <| Wl.y (y_eq (y_slicelH Tryz.underlying22 sz5LpF rfl rfl (by omega) (by omega)) (congrArg (fun k => Value.slice A k c) hm.symm)) rfl <| Wl.sg rfl rfl <| Wl.nil <| Wq.next hK_6 <| Wc.seq fun _ hK_13 => Wc.region <| Wl.mv rfl rfl <| Wl.call txt8LpF rfl rfl (LParse_r A c m b _ hr hbl (by omega) hL) rfl ?_
  rintro _ w_k1 ⟨⟨A1, c1, A2, c2, rfl, hG⟩, hs_k1⟩
  have hz_k1 := hs_k1.size
  have hb := hb.trans (hs_k1.mono hb.size)
  have hr := hr_hb.below hb
  have hL := hL_hb.below hb
  rw [← hGe] at hG ⊢
  refine Wl.mv rfl rfl <| Wl.y (y_extract rfl rfl) rfl <| Wl.y (y_extract rfl rfl) rfl <| Wl.y (y_extract rfl rfl) rfl <| Wl.allocN (z := (.agg #[(.slice none 0 0), (.slice none 0 0)])) (by kernel_rfl) rfl ?_
  rintro g_o10 w_o10 hg_o10 hn_o10 hs_o10
  have hz_o10 := hs_o10.size
  have hb := hb.trans (hs_o10.mono hb.size)
  have hr := hr_hb.below hb
  have hL := hL_hb.below hb
  have hG := GIn.below hG hs_o10
  have hB_o10 := hn_o10
  have hl_o10 := hB_o10.lt
  refine Wl.storeS (by kernel_rfl) rfl rfl hB_o10 rfl rfl ?_
  rintro w_s0 hn_s0 hg_s0
  have hz_s0 := hg_s0.size
  have hb := below_blk hb hg_s0 hb.size (by omega)
  have hr := hr_hb.below hb
  have hL := hL_hb.below hb
  have hG := hG.over hg_s0 (by omega)
  have hB_o10 := hn_s0
  refine Wl.sg rfl rfl <| Wl.sg rfl rfl <| Wl.nil <| Wq.next hK_13 <| Wc.seq fun _ hK_23 => Wc.seq fun _ hK_24 => Wc.region <| Wl.mv rfl rfl <| Wl.y (y_eqli rfl rfl) rfl <| Wl.nil <| Wq.next hK_24 <| Wc.cond rfl (fun c0_27 => ?_) (fun c0_27 => ?_)
  ·
   have c0_27_ := c0_27
   simp only [DZ] at c0_27
   have he : (loadV b).2.2 = 0 := by simpa using c0_27
   have hrg := (load_right he).1
   have hln := (load_right he).2
   rw [← hGe] at hrg
   have h0 := hrg.right
   have hpl := len_print hG.gat h0
   have hld := load_print hrg
   refine Wc.seq fun _ hK_28 => Wc.region <| Wl.l (l_loadS Tryz.underlying27 (by kernel_rfl) rfl (by exact fun j u hu => hB_o10.at hu)) rfl <| Wl.call txt11LpF rfl rfl (GPrint_r _ A1 c1 A2 c2 G _ hG.gat (by omega) hL) rfl ?_
   rintro _ w_k2 ⟨rfl, hs_k2⟩
   have hz_k2 := hs_k2.size
   have hb := hb.trans (hs_k2.mono hb.size)
   have hr := hr_hb.below hb
   have hL := hL_hb.below hb
   have hG := GIn.below hG hs_k2
   have hB_o10 := Blk.below hB_o10 hs_k2
   rw [if_pos h0]
   refine Wl.mv rfl rfl <| Wl.y (y_extract rfl rfl) rfl <| Wl.y (y_extract rfl rfl) rfl <| Wl.sg rfl rfl <| Wl.sg rfl rfl <| Wl.nil <| Wq.next hK_28 <| Wc.seq fun _ hK_36 => Wc.region <| Wl.mv rfl rfl <| Wl.bytesN Tryz.underlying9 Tryz.underlying22 Tryz.underlying5 rfl rfl ?_
   rintro g_o21 c_o21 w_o21 hg_o21 hl_o21 hn_o21 hs_o21
   have hz_o21 := hs_o21.size
   have hb := hb.trans (hs_o21.mono hb.size)
   have hr := hr_hb.below hb
   have hL := hL_hb.below hb
   have hG := GIn.below hG hs_o21
   have hB_o10 := Blk.below hB_o10 hs_o21
   have hR_o21 := hn_o21
   refine Wl.call txt8LpF rfl rfl (LParse_r _ _ _ (printG G) _ hR_o21 rfl (by omega) hL) rfl ?_
   rintro _ w_k3 ⟨⟨A3, c3, A4, c4, rfl, hG2⟩, hs_k3⟩
   have hz_k3 := hs_k3.size
   have hb := hb.trans (hs_k3.mono hb.size)
   have hr := hr_hb.below hb
   have hL := hL_hb.below hb
   have hG := GIn.below hG hs_k3
   have hB_o10 := Blk.below hB_o10 hs_k3
   rw [hld] at hG2 ⊢
   dsimp only at hG2 ⊢
   refine Wl.mv rfl rfl <| Wl.y (y_extract rfl rfl) rfl <| Wl.y (y_extract rfl rfl) rfl <| Wl.y (y_extract rfl rfl) rfl <| Wl.allocN (z := (.agg #[(.slice none 0 0), (.slice none 0 0)])) (by kernel_rfl) rfl ?_
   rintro g_o26 w_o26 hg_o26 hn_o26 hs_o26
   have hz_o26 := hs_o26.size
   have hb := hb.trans (hs_o26.mono hb.size)
   have hr := hr_hb.below hb
   have hL := hL_hb.below hb
   have hG := GIn.below hG hs_o26
   have hB_o10 := Blk.below hB_o10 hs_o26
   have hG2 := GIn.below hG2 hs_o26
   have hB_o26 := hn_o26
   have hl_o26 := hB_o26.lt
   refine Wl.storeS (by kernel_rfl) rfl rfl hB_o26 rfl rfl ?_
   rintro w_s1 hn_s1 hg_s1
   have hz_s1 := hg_s1.size
   have hb := below_blk hb hg_s1 hb.size (by omega)
   have hr := hr_hb.below hb
   have hL := hL_hb.below hb
   have hG := hG.over hg_s1 (by omega)
   have hB_o10 := hB_o10.over hg_s1 (by omega)
   have hG2 := hG2.over hg_s1 (by omega)
   have hB_o26 := hn_s1
   refine Wl.sg rfl rfl <| Wl.sg rfl rfl <| Wl.nil <| Wq.next hK_36 <| Wc.seq fun _ hK_47 => Wc.region <| Wl.mv rfl rfl <| Wl.mv rfl rfl <| Wl.guardT rfl rfl rfl (fun g_50 => ?_) (fun g_50 => ?_)
   ·
    have g_50_ := g_50
    simp only [DZ] at g_50
    refine Wl.mv rfl rfl <| Wl.on' rfl rfl g_50_ <| Wl.y (y_eqli rfl rfl) rfl <| Wl.y (y_pickT rfl g_50_ rfl) rfl <| Wl.mv rfl rfl <| Wl.guardT rfl rfl rfl (fun g_55 => ?_) (fun g_55 => ?_)
    ·
     have g_55_ := g_55
     simp only [DZ] at g_55
     refine Wl.l (l_loadS Tryz.underlying27 (by kernel_rfl) rfl (by exact fun j u hu => hB_o10.at hu)) rfl <| Wl.on' rfl rfl g_55_ <| Wl.call txt12LpF rfl rfl (GRight_r _ A1 c1 A2 c2 G _ hG.gat (by omega)) rfl ?_
     rintro _ w_k4 ⟨rfl, hs_k4⟩
     have hz_k4 := hs_k4.size
     have hb := hb.trans (hs_k4.mono hb.size)
     have hr := hr_hb.below hb
     have hL := hL_hb.below hb
     have hG := GIn.below hG hs_k4
     have hB_o10 := Blk.below hB_o10 hs_k4
     have hG2 := GIn.below hG2 hs_k4
     have hB_o26 := Blk.below hB_o26 hs_k4
     refine Wl.on' rfl rfl g_55_ <| Wl.y (y_eqli rfl rfl) rfl <| Wl.y (y_pickT rfl g_55_ rfl) rfl <| Wl.mv rfl rfl <| Wl.guardT rfl rfl rfl (fun g_61 => ?_) (fun g_61 => ?_)
     ·
      have g_61_ := g_61
      simp only [DZ] at g_61
      refine Wl.mv rfl rfl <| Wl.on' rfl rfl g_61_ <| Wl.y (y_eqli rfl rfl) rfl <| Wl.y (y_pickT rfl g_61_ rfl) rfl <| Wl.mv rfl rfl <| Wl.guardT rfl rfl rfl (fun g_66 => ?_) (fun g_66 => ?_)
      ·
       have g_66_ := g_66
       simp only [DZ] at g_66
       refine Wl.mv rfl rfl <| Wl.on' rfl rfl g_66_ <| Wl.y (y_eqli rfl rfl) rfl <| Wl.y (y_pickT rfl g_66_ rfl) rfl <| Wl.mv rfl rfl <| Wl.guardT rfl rfl rfl (fun g_71 => ?_) (fun g_71 => ?_)
       ·
        have g_71_ := g_71
        simp only [DZ] at g_71
        refine Wl.l (l_loadS Tryz.underlying27 (by kernel_rfl) rfl (by exact fun j u hu => hB_o10.at hu)) rfl <| Wl.on' rfl rfl g_71_ <| Wl.l (l_loadS Tryz.underlying27 (by kernel_rfl) rfl (by exact fun j u hu => hB_o26.at hu)) rfl <| Wl.on' rfl rfl g_71_ <| Wl.call txt10LpF rfl rfl (GSame_r _ A1 c1 A2 c2 G _ A3 c3 A4 c4 G _ hG.gat hG2.gat (by omega) (by omega)) rfl ?_
        rintro _ w_k5 ⟨rfl, hs_k5⟩
        have hz_k5 := hs_k5.size
        have hb := hb.trans (hs_k5.mono hb.size)
        have hr := hr_hb.below hb
        have hL := hL_hb.below hb
        have hG := GIn.below hG hs_k5
        have hG2 := GIn.below hG2 hs_k5
        refine Wl.y (y_pickT rfl g_71_ rfl) rfl <| Wl.sg rfl rfl <| Wl.nil <| Wq.next hK_47 <| Wc.ret <| Wq.then_ret <| ret1 rfl rfl ?_
        exact ⟨_, rfl, bool_eq (sameG_refl G), hb⟩
       have g_71_ := g_71
       simp only [DZ] at g_71
       exact absurd g_71_ (by simp)
      have g_66_ := g_66
      simp only [DZ] at g_66
      exact absurd g_66_ (by rw [h0]; simp)
     have g_61_ := g_61
     simp only [DZ] at g_61
     exact absurd g_61_ (by rw [h0]; simp)
    have g_55_ := g_55
    simp only [DZ] at g_55
    exact absurd g_55_ (by rw [hln]; simp)
   have g_50_ := g_50
   cases g_50_
  have c0_27_ := c0_27
  simp only [DZ] at c0_27
  have he : ¬ (loadV b).2.2 = 0 := by simpa using c0_27
  obtain ⟨k, hk, hkv, hkp⟩ := load_err he
  have hG0 : G = ⟨[], []⟩ := by rw [hGe, hkv]
  have hl2 : (loadV b).2.1 = (k : Int) + 1 := by rw [hkv]
  subst hG0
  rw [hl2]
  have hbk : pos L k ≤ b.length := by rw [← hjb, join_feeds L k (by rw [hLe]; exact hk), List.length_append]; unfold pos; omega
  have hkL : k < L.length := by rw [hLe]; exact hk
  refine Wc.skip <| Wq.next hK_23 <| Wc.seq fun _ hK_77 => Wc.seq fun _ hK_78 => Wc.region <| Wl.mv rfl rfl <| Wl.y (y_lssi rfl rfl) rfl <| Wl.mv rfl rfl <| Wl.guardF rfl rfl rfl (fun g_82 => ?_) (fun g_82 => ?_)
  ·
   have g_82_ := g_82
   simp only [DZ] at g_82
   exact absurd g_82 (by omega)
  have g_82_ := g_82
  simp only [DZ] at g_82
  refine Wl.y (y_fieldAddr (fa27_0LpF _) rfl) rfl <| Wl.on' rfl rfl g_82_ <| Wl.l (l_load one24LpF rfl (by exact hB_o10.at (j := 0) rfl)) rfl <| Wl.on' rfl rfl g_82_ <| Wl.y (y_lenl Tryz.underlying24 (by simp) rfl) rfl <| Wl.on' rfl rfl g_82_ <| Wl.y (y_gtri rfl rfl) rfl <| Wl.y (y_pickF rfl g_82_ rfl) rfl <| Wl.mv rfl rfl <| Wl.guardF rfl rfl rfl (fun g_89 => ?_) (fun g_89 => ?_)
  ·
   have g_89_ := g_89
   simp only [DZ] at g_89
   exact absurd g_89 (by simp)
  have g_89_ := g_89
  simp only [DZ] at g_89
  refine Wl.y (y_fieldAddr (fa27_1LpF _) rfl) rfl <| Wl.on' rfl rfl g_89_ <| Wl.l (l_load one25LpF rfl (by exact hB_o10.at (j := 1) rfl)) rfl <| Wl.on' rfl rfl g_89_ <| Wl.y (y_lenl Tryz.underlying25 (by simp) rfl) rfl <| Wl.on' rfl rfl g_89_ <| Wl.y (y_gtri rfl rfl) rfl <| Wl.y (y_pickF rfl g_89_ rfl) rfl <| Wl.nil <| Wq.next hK_78 <| Wc.cond rfl (fun c1_95 => ?_) (fun c1_95 => ?_)
  ·
   have c1_95_ := c1_95
   simp only [DZ] at c1_95
   exact absurd c1_95 (by simp)
  have c1_95_ := c1_95
  simp only [DZ] at c1_95
  refine Wc.skip <| Wq.next hK_77 <| Wc.seq fun _ hK_96 => Wc.region <| Wl.sg rfl rfl <| Wl.nil <| Wq.next hK_96 <| Wc.seq fun _ hK_98 => Wc.seq fun _ hK_99 => Wc.region <| Wl.sg rfl rfl <| Wl.nil <| Wq.next hK_99 <| Wc.block <| Wc.loop (X := Nat) (fun j => [(0, .slice A m c), (3, .bool true), (5, .int .i64 ((k : Int) + 1)), (12, .int .i64 (pos L j : Int)), (13, .int .i64 ((j : Int) + 1))]) (fun j wr => j ≤ k ∧ Below w.heap.size w wr) (fun j => k - j) (0) ?_ ?_ ?_
  · exact by repeat first | exact Sub.nil | refine Sub.cons' rfl (by first | rfl | exact int_eq (by omega)) ?_
  · exact ⟨Nat.zero_le _, hb⟩
  rintro j wr hI_102 _ hL_101
  replace hI_102 : j ≤ k ∧ Below w.heap.size w wr := hI_102
  obtain ⟨hj, hb⟩ := hI_102
  show Wc _ _ _ _ _ [(0, .slice A m c), (3, .bool true), (5, .int .i64 ((k : Int) + 1)), (12, .int .i64 (pos L j : Int)), (13, .int .i64 ((j : Int) + 1))] _
  have hr := hr_hb.below hb
  have hL := hL_hb.below hb
  have hzhb_L0 := hb.size
  refine Wc.seq fun _ hK_103 => Wc.seq fun _ hK_104 => Wc.region <| Wl.mv rfl rfl <| Wl.mv rfl rfl <| Wl.y (y_lssi rfl rfl) rfl <| Wl.nil <| Wq.next hK_104 <| Wc.cond rfl (fun c2_108 => ?_) (fun c2_108 => ?_)
  ·
   have c2_108_ := c2_108
   simp only [DZ] at c2_108
   have hjk : j < k := by have := c2_108; omega
   have hjL : j + 1 < L.length := by omega
   have hps := pos_succ (show j < L.length by omega)
   obtain ⟨_, hie, hil⟩ := line_in (q := 0) hjL hL10
   rw [hjb] at hie hil
   refine Wc.skip <| Wq.next hK_103 <| Wc.seq fun _ hK_109 => Wc.block <| Wc.seq fun _ hK_110 => Wc.block <| Wc.loop (X := Nat) (fun q => [(0, .slice A m c), (3, .bool true), (5, .int .i64 ((k : Int) + 1)), (12, .int .i64 ((pos L j + q : Nat) : Int)), (13, .int .i64 ((j : Int) + 1))]) (fun q wx => q ≤ (L.getD j []).length ∧ Below w.heap.size w wx) (fun q => (L.getD j []).length - q) (0) ?_ ?_ ?_
   · exact by repeat first | exact Sub.nil | refine Sub.cons' rfl (by first | rfl | exact int_eq (by omega)) ?_
   · exact ⟨Nat.zero_le _, hb⟩
   rintro q wx hI_112 _ hL_111
   replace hI_112 : q ≤ (L.getD j []).length ∧ Below w.heap.size w wx := hI_112
   obtain ⟨hq, hb⟩ := hI_112
   show Wc _ _ _ _ _ [(0, .slice A m c), (3, .bool true), (5, .int .i64 ((k : Int) + 1)), (12, .int .i64 ((pos L j + q : Nat) : Int)), (13, .int .i64 ((j : Int) + 1))] _
   have hr := hr_hb.below hb
   have hL := hL_hb.below hb
   have hzhb_L1 := hb.size
   refine Wc.seq fun _ hK_113 => Wc.seq fun _ hK_114 => ?_
   have hin : pos L j + q < m := by omega
   obtain ⟨p_, v_, hpe, hve, hcell⟩ := hr.one (i := pos L j + q) hin
   obtain rfl := u8s_val (by omega) hve
   subst hpe
   refine Wc.region <| Wl.mv rfl rfl <| Wl.mv rfl rfl <| Wl.y (y_lenl Tryz.underlying22 (by omega) rfl) rfl <| Wl.y (y_lssi rfl rfl) rfl <| Wl.mv rfl rfl <| Wl.guardT rfl rfl rfl (fun g_120 => ?_) (fun g_120 => ?_)
   ·
    have g_120_ := g_120
    simp only [DZ] at g_120
    refine Wl.mv rfl rfl <| Wl.on' rfl rfl g_120_ <| Wl.mv rfl rfl <| Wl.on' rfl rfl g_120_ <| Wl.y (y_indexAddr Tryz.underlying22 sz5LpF rfl rfl (by omega) (by omega)) rfl <| Wl.on' rfl rfl g_120_ <| Wl.l (l_load one5LpF rfl (by exact at1 hcell)) rfl <| Wl.on' rfl rfl g_120_ <| Wl.y (y_neqi rfl rfl) rfl <| Wl.y (y_pickT rfl g_120_ rfl) rfl <| Wl.nil <| Wq.next hK_114 <| Wc.cond rfl (fun c3_127 => ?_) (fun c3_127 => ?_)
    ·
     have c3_127_ := c3_127
     simp only [DZ] at c3_127
     have hql : q < (L.getD j []).length := by rcases Nat.lt_or_ge q (L.getD j []).length with h | h; (· exact h); (· exfalso; have heq : q = (L.getD j []).length := (by omega); exact c3_127 ((u8_ten _).2 (by rw [heq]; exact hie)))
     refine Wc.skip <| Wq.next hK_113 <| Wc.block <| Wc.region <| Wl.mv rfl rfl <| Wl.y (y_addI rfl rfl (by omega) (by omega)) rfl <| Wl.sg rfl rfl <| Wl.nil <| Wq.block_normal <| fun a_ ha_ => hL_111 _ _ (q + 1) (by have hql2 : q < (L.getD j []).length := hql; omega) (by repeat first | exact Sub.nil | refine Sub.cons' rfl (by first | rfl | exact int_eq (by omega)) ?_) ?_ a_ ha_
     exact ⟨(show q + 1 ≤ (L.getD j []).length by omega), hb⟩
    have c3_127_ := c3_127
    simp only [DZ] at c3_127
    have hqe : q = (L.getD j []).length := by rcases Nat.lt_or_ge q (L.getD j []).length with h | h; (· exfalso; have h2 := (u8_ten _).1 c3_127; have h3 := (line_in (q := q) hjL hL10).1 h; rw [hjb] at h3; exact h3 h2); (· omega)
    refine Wc.exit <| Wq.then_exit <| Wq.then_exit <| Wq.block_exit <| Wq.next hK_110 <| Wc.region <| Wl.mv rfl rfl <| Wl.y (y_addI rfl rfl (by omega) (by omega)) rfl <| Wl.sg rfl rfl <| Wl.nil <| Wq.block_normal <| Wq.next hK_109 <| Wc.region <| Wl.mv rfl rfl <| Wl.y (y_addI rfl rfl (by omega) (by omega)) rfl <| Wl.sg rfl rfl <| Wl.nil <| fun a_ ha_ => hL_101 _ _ (j + 1) (by omega) (by repeat first | exact Sub.nil | refine Sub.cons' rfl (by first | rfl | exact int_eq (by omega)) ?_) ?_ a_ ha_
    exact ⟨(show j + 1 ≤ k by omega), hb⟩
   have g_120_ := g_120
   simp only [DZ] at g_120
   exact absurd g_120 (by omega)
  have c2_108_ := c2_108
  simp only [DZ] at c2_108
  have hje : j = k := by have := c2_108; omega
  refine Wc.exit <| Wq.then_exit <| Wq.then_exit <| Wq.block_exit <| Wq.next hK_98 <| Wc.seq fun _ hK_137 => Wc.seq fun _ hK_138 => Wc.region <| Wl.mv rfl rfl <| Wl.mv rfl rfl <| Wl.y (y_lenl Tryz.underlying22 (by omega) rfl) rfl <| Wl.y (y_gtri rfl rfl) rfl <| Wl.nil <| Wq.next hK_138 <| Wc.cond rfl (fun c4_143 => ?_) (fun c4_143 => ?_)
  ·
   have c4_143_ := c4_143
   simp only [DZ] at c4_143
   exact absurd c4_143 (by rw [hje]; omega)
  have c4_143_ := c4_143
  simp only [DZ] at c4_143
  refine Wc.skip <| Wq.next hK_137 <| Wc.seq fun _ hK_144 => ?_
  obtain ⟨t, ht⟩ : ∃ t, t = pos L k - 1 := ⟨_, rfl⟩
  have htm : t ≤ m := by omega
  have hrt := hr.takeB htm
  refine Wc.region <| Wl.mv rfl rfl <| Wl.mv rfl rfl <| Wl.y (y_subI rfl rfl (by omega) (by omega)) rfl <| Wl.y (y_max rfl rfl) rfl <| Wl.y (y_eq (y_slicelH Tryz.underlying22 sz5LpF rfl rfl (by omega) (by omega)) (congrArg (fun k => Value.slice _ k c) (show (max ((pos L j : Int) - 1) 0).toNat = t by rw [hje]; omega))) rfl <| Wl.call txt8LpF rfl rfl (LParse_r _ c t (b.take t) _ (hr.takeB htm) (by rw [List.length_take]; omega) (by rw [List.length_take]; omega) hL) rfl ?_
  rintro _ w_k6 ⟨⟨A5, c5, A6, c6, rfl, hG5⟩, hs_k6⟩
  have hz_k6 := hs_k6.size
  have hb := hb.trans (hs_k6.mono hb.size)
  have hr := hr_hb.below hb
  have hL := hL_hb.below hb
  refine Wl.mv rfl rfl <| Wl.y (y_extract rfl rfl) rfl <| Wl.y (y_extract rfl rfl) rfl <| Wl.y (y_extract rfl rfl) rfl <| Wl.allocN (z := (.agg #[(.slice none 0 0), (.slice none 0 0)])) (by kernel_rfl) rfl ?_
  rintro g_o92 w_o92 hg_o92 hn_o92 hs_o92
  have hz_o92 := hs_o92.size
  have hb := hb.trans (hs_o92.mono hb.size)
  have hr := hr_hb.below hb
  have hL := hL_hb.below hb
  have hG5 := GIn.below hG5 hs_o92
  have hB_o92 := hn_o92
  have hl_o92 := hB_o92.lt
  refine Wl.storeS (by kernel_rfl) rfl rfl hB_o92 rfl rfl ?_
  rintro w_s2 hn_s2 hg_s2
  have hz_s2 := hg_s2.size
  have hb := below_blk hb hg_s2 hb.size (by omega)
  have hr := hr_hb.below hb
  have hL := hL_hb.below hb
  have hG5 := hG5.over hg_s2 (by omega)
  have hB_o92 := hn_s2
  refine Wl.sg rfl rfl <| Wl.sg rfl rfl <| Wl.nil <| Wq.next hK_144 <| Wc.seq fun _ hK_158 => ?_
  have hpre : k ≠ 0 → (loadV (b.take t)).2.2 = 0 ∧ (loadV (b.take t)).2.1 = 0 := fun hk0 => by
    have h1 := prefix_ok (b := b) hk hkp hk0
    rw [← hLe, ← ht] at h1; exact h1
  refine Wc.region <| Wl.mv rfl rfl <| Wl.mv rfl rfl <| Wl.guardT rfl rfl rfl (fun g_161 => ?_) (fun g_161 => ?_)
  ·
   have g_161_ := g_161
   simp only [DZ] at g_161
   refine Wl.mv rfl rfl <| Wl.on' rfl rfl g_161_ <| Wl.y (y_eqli rfl rfl) rfl <| Wl.on' rfl rfl g_161_ <| Wl.mv rfl rfl <| Wl.guardF rfl rfl rfl (fun g_165 => ?_) (fun g_165 => ?_)
   ·
    have g_165_ := g_165
    simp only [DZ] at g_165
    refine Wl.off' rfl rfl g_165_ rfl rfl <| Wl.off' rfl rfl g_165_ rfl rfl <| Wl.offU rfl rfl rfl <| Wl.offU rfl rfl rfl <| Wl.off' rfl rfl g_165_ rfl rfl <| Wl.on' rfl rfl g_161_ <| Wl.y (y_pickT rfl g_165_ rfl) rfl <| Wl.y (y_pickT rfl g_161_ rfl) rfl <| Wl.sg rfl rfl <| Wl.nil <| Wq.next hK_158 <| Wc.ret <| ret1 rfl rfl ?_
    exact ⟨_, rfl, rfl, hb⟩
   have g_165_ := g_165
   simp only [DZ] at g_165
   have hk0 : k ≠ 0 := fun h0 => by have h1 := g_165; omega
   refine Wl.mv rfl rfl <| Wl.on' rfl rfl g_165_ <| Wl.y (y_eqli rfl rfl) rfl <| Wl.on' rfl rfl g_165_ <| Wl.mv rfl rfl <| Wl.guardT rfl rfl rfl (fun g_172 => ?_) (fun g_172 => ?_)
   ·
    have g_172_ := g_172
    simp only [DZ] at g_172
    refine Wl.mv rfl rfl <| Wl.on' rfl rfl g_172_ <| Wl.y (y_eqli rfl rfl) rfl <| Wl.on' rfl rfl g_165_ <| Wl.y (y_pickT rfl g_172_ rfl) rfl <| Wl.on' rfl rfl g_161_ <| Wl.y (y_pickF rfl g_165_ rfl) rfl <| Wl.y (y_pickT rfl g_161_ rfl) rfl <| Wl.sg rfl rfl <| Wl.nil <| Wq.next hK_158 <| Wc.ret <| ret1 rfl rfl ?_
    exact ⟨_, rfl, bool_eq (by rw [(hpre hk0).1]; rfl), hb⟩
   have g_172_ := g_172
   simp only [DZ] at g_172
   exact absurd g_172_ (by rw [(hpre hk0).2]; simp)
  have g_161_ := g_161
  cases g_161_
end Go.Proofs.YtjmlknjbhbfneaaGreatDoor
