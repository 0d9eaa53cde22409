/- SumSources, by the calculus. -/
import Derived.Test.YtobhpejaoakpmaaGreatDoorZLpA
import Derived.Test.YtobhpejaoakpmaaGreatDoorZLU
namespace Go.Proofs.YtobhpejaoakpmaaGreatDoor
open Go.RowKit Go.Bw Go.Bw.Fl
set_option linter.unusedVariables false
set_option linter.unusedSimpArgs false
theorem sz5LpE : (Tryz.prog.info? 5).map (·.size) = some 1 := by kernel_rfl
theorem txt13LpE : Txt Tryz.prog 13 := ⟨_, Tryz.func13, by kernel_rfl, rfl⟩   -- bridleway/bridlewaylaw09.shown
theorem txt15LpE : Txt Tryz.prog 15 := ⟨_, Tryz.func15, by kernel_rfl, rfl⟩   -- bridleway/sum.Graph
theorem txt19LpE : Txt Tryz.prog 19 := ⟨_, Tryz.func19, by kernel_rfl, rfl⟩   -- bridleway/load.Parse
theorem txt22LpE : Txt Tryz.prog 22 := ⟨_, Tryz.func22, by kernel_rfl, rfl⟩   -- bridleway/load.Print
theorem txt26LpE : Txt Tryz.prog 26 := ⟨_, Tryz.func26, by kernel_rfl, rfl⟩   -- bridleway/sum.Sum
theorem len_print {S : Nat → Prop} {w : World} {A B : Option Addr} {c e : Nat} {g : GV} (hG : GAt S w A c B e g) (h : rightG g = 0) : (printG g).length ≤ 2100 * szG g + 40000 := by
  obtain ⟨h1, h2, h3⟩ := rightG_zero h
  have := print_len hG.oks hG.oke h3 h1 h2
  unfold printG; rw [List.length_append]; exact this
theorem SumSources_r (A : Option Addr) (n c : Nat) (l : List UInt8) (w : World) (hn : n = l.length) (hc : n ≤ c) (hl : l.length ≤ 140737488351232) (h : Rd w 1 A n (u8s l)) (hL : Lb w) :
    Ret Tryz.prog 12 [.slice A n c] w fun v w' => v = .bool true ∧ Below w.heap.size w w' := by
  obtain ⟨m, hm⟩ : ∃ m, m = (min (n : Int) 2000).toNat := ⟨_, rfl⟩
  have hmn : m ≤ n := by omega
  have hr := h.takeB hmn
  obtain ⟨b, hbe⟩ : ∃ b, b = l.take m := ⟨_, rfl⟩
  rw [← hbe] at hr
  have hbl : b.length = m := by rw [hbe, List.length_take]; omega
  have hm2 : m ≤ 2000 := by omega
  obtain ⟨G, hGe⟩ : ∃ G, G = (loadV b).1 := ⟨_, rfl⟩
  have hsz := load_size b
  rw [← hGe, hbl] at hsz
  have hb := Below.refl w.heap.size w
  have hr_hb := hr
  have hL_hb := hL
  refine enter Tryz.func12 rfl rfl rfl <| Wc.seq fun _ hK_1 => Wc.region <| Wl.sg rfl rfl <| Wl.nil <| Wq.next hK_1 <| Wc.seq fun _ hK_3 => Wc.region <| Wl.call txt13LpE rfl rfl (shown9 _) rfl ?_
  rintro _ w_k0 ⟨rfl, hs_k0⟩
  have hz_k0 := hs_k0.size
  have hb := hb.trans (hs_k0.mono hb.size)
  have hr := hr_hb.below hb
  have hL := hL_hb.below hb
  refine Wl.sg rfl rfl <| Wl.nil <| Wq.next hK_3 <| Wc.seq fun _ hK_6 => Wc.region <| Wl.mv rfl rfl <| Wl.mv rfl rfl <| Wl.y (y_lenl Tryz.underlying33 (by omega) rfl) rfl <| Wl.y (y_min rfl rfl) rfl <| Wl.y (y_eq (y_slicelH Tryz.underlying33 sz5LpE rfl rfl (by omega) (by omega)) (congrArg (fun k => Value.slice A k c) hm.symm)) rfl <| Wl.sg rfl rfl <| Wl.nil <| Wq.next hK_6 <| Wc.seq fun _ hK_13 => Wc.region <| Wl.mv rfl rfl <| Wl.call txt19LpE rfl rfl (LParse_r A c m b _ hr hbl (by omega) hL) rfl ?_
  rintro _ w_k1 ⟨⟨A1, c1, A2, c2, rfl, hG⟩, hs_k1⟩
  have hz_k1 := hs_k1.size
  have hb := hb.trans (hs_k1.mono hb.size)
  have hr := hr_hb.below hb
  have hL := hL_hb.below hb
  rw [← hGe] at hG ⊢
  refine Wl.mv rfl rfl <| Wl.y (y_extract rfl rfl) rfl <| Wl.y (y_extract rfl rfl) rfl <| Wl.y (y_extract rfl rfl) rfl <| Wl.allocN (z := (.agg #[(.slice none 0 0), (.slice none 0 0)])) (by kernel_rfl) rfl ?_
  rintro g_o10 w_o10 hg_o10 hn_o10 hs_o10
  have hz_o10 := hs_o10.size
  have hb := hb.trans (hs_o10.mono hb.size)
  have hr := hr_hb.below hb
  have hL := hL_hb.below hb
  have hG := GIn.below hG hs_o10
  have hB_o10 := hn_o10
  have hl_o10 := hB_o10.lt
  refine Wl.storeS (by kernel_rfl) rfl rfl hB_o10 rfl rfl ?_
  rintro w_s0 hn_s0 hg_s0
  have hz_s0 := hg_s0.size
  have hb := below_blk hb hg_s0 hb.size (by omega)
  have hr := hr_hb.below hb
  have hL := hL_hb.below hb
  have hG := hG.over hg_s0 (by omega)
  have hB_o10 := hn_s0
  refine Wl.sg rfl rfl <| Wl.sg rfl rfl <| Wl.nil <| Wq.next hK_13 <| Wc.seq fun _ hK_23 => Wc.seq fun _ hK_24 => Wc.region <| Wl.mv rfl rfl <| Wl.y (y_neqi rfl rfl) rfl <| Wl.nil <| Wq.next hK_24 <| Wc.cond rfl (fun c0_27 => ?_) (fun c0_27 => ?_)
  ·
   have c0_27_ := c0_27
   simp only [DZ] at c0_27
   refine Wc.seq fun _ hK_28 => Wc.region <| Wl.mv rfl rfl <| Wl.sg rfl rfl <| Wl.nil <| Wq.next hK_28 <| Wc.ret <| Wq.then_ret <| ret1 rfl rfl ?_
   exact ⟨_, rfl, rfl, hb⟩
  have c0_27_ := c0_27
  simp only [DZ] at c0_27
  have he : (loadV b).2.2 = 0 := by simpa using c0_27
  have hrg := (load_right he).1
  rw [← hGe] at hrg
  have h0 := hrg.right
  have hpl := len_print hG.gat h0
  have hld := load_print hrg
  refine Wc.skip <| Wq.next hK_23 <| Wc.seq fun _ hK_31 => Wc.region <| Wl.l (l_loadS Tryz.underlying25 (by kernel_rfl) rfl (by exact fun j u hu => hB_o10.at hu)) rfl <| Wl.call txt15LpE rfl rfl (sumGraph_r _ A1 c1 A2 c2 G _ hG.gat (by omega) hL) rfl ?_
  rintro _ w_k2 ⟨rfl, hs_k2⟩
  have hz_k2 := hs_k2.size
  have hb := hb.trans (hs_k2.mono hb.size)
  have hr := hr_hb.below hb
  have hL := hL_hb.below hb
  have hG := GIn.below hG hs_k2
  have hB_o10 := Blk.below hB_o10 hs_k2
  rw [if_pos h0]
  refine Wl.mv rfl rfl <| Wl.y (y_extract rfl rfl) rfl <| Wl.y (y_extract rfl rfl) rfl <| Wl.sg rfl rfl <| Wl.sg rfl rfl <| Wl.nil <| Wq.next hK_31 <| Wc.seq fun _ hK_39 => Wc.region <| Wl.l (l_loadS Tryz.underlying25 (by kernel_rfl) rfl (by exact fun j u hu => hB_o10.at hu)) rfl <| Wl.call txt22LpE rfl rfl (GPrint_r _ A1 c1 A2 c2 G _ hG.gat (by omega) hL) rfl ?_
  rintro _ w_k3 ⟨rfl, hs_k3⟩
  have hz_k3 := hs_k3.size
  have hb := hb.trans (hs_k3.mono hb.size)
  have hr := hr_hb.below hb
  have hL := hL_hb.below hb
  have hG := GIn.below hG hs_k3
  rw [if_pos h0]
  refine Wl.mv rfl rfl <| Wl.y (y_extract rfl rfl) rfl <| Wl.y (y_extract rfl rfl) rfl <| Wl.sg rfl rfl <| Wl.sg rfl rfl <| Wl.nil <| Wq.next hK_39 <| Wc.seq fun _ hK_47 => Wc.region <| Wl.mv rfl rfl <| Wl.bytesN Tryz.underlying9 Tryz.underlying33 Tryz.underlying5 rfl rfl ?_
  rintro g_o28 c_o28 w_o28 hg_o28 hl_o28 hn_o28 hs_o28
  have hz_o28 := hs_o28.size
  have hb := hb.trans (hs_o28.mono hb.size)
  have hr := hr_hb.below hb
  have hL := hL_hb.below hb
  have hG := GIn.below hG hs_o28
  have hR_o28 := hn_o28
  refine Wl.call txt19LpE rfl rfl (LParse_r _ _ _ (printG G) _ hR_o28 rfl (by omega) hL) rfl ?_
  rintro _ w_k4 ⟨⟨A3, c3, A4, c4, rfl, hG2⟩, hs_k4⟩
  have hz_k4 := hs_k4.size
  have hb := hb.trans (hs_k4.mono hb.size)
  have hr := hr_hb.below hb
  have hL := hL_hb.below hb
  have hG := GIn.below hG hs_k4
  rw [hld] at hG2 ⊢
  dsimp only at hG2 ⊢
  refine Wl.mv rfl rfl <| Wl.y (y_extract rfl rfl) rfl <| Wl.y (y_extract rfl rfl) rfl <| Wl.y (y_extract rfl rfl) rfl <| Wl.allocN (z := (.agg #[(.slice none 0 0), (.slice none 0 0)])) (by kernel_rfl) rfl ?_
  rintro g_o33 w_o33 hg_o33 hn_o33 hs_o33
  have hz_o33 := hs_o33.size
  have hb := hb.trans (hs_o33.mono hb.size)
  have hr := hr_hb.below hb
  have hL := hL_hb.below hb
  have hG := GIn.below hG hs_o33
  have hG2 := GIn.below hG2 hs_o33
  have hB_o33 := hn_o33
  have hl_o33 := hB_o33.lt
  refine Wl.storeS (by kernel_rfl) rfl rfl hB_o33 rfl rfl ?_
  rintro w_s1 hn_s1 hg_s1
  have hz_s1 := hg_s1.size
  have hb := below_blk hb hg_s1 hb.size (by omega)
  have hr := hr_hb.below hb
  have hL := hL_hb.below hb
  have hG := hG.over hg_s1 (by omega)
  have hG2 := hG2.over hg_s1 (by omega)
  have hB_o33 := hn_s1
  refine Wl.sg rfl rfl <| Wl.sg rfl rfl <| Wl.nil <| Wq.next hK_47 <| Wc.seq fun _ hK_58 => Wc.region <| Wl.l (l_loadS Tryz.underlying25 (by kernel_rfl) rfl (by exact fun j u hu => hB_o33.at hu)) rfl <| Wl.call txt15LpE rfl rfl (sumGraph_r _ A3 c3 A4 c4 G _ hG2.gat (by omega) hL) rfl ?_
  rintro _ w_k5 ⟨rfl, hs_k5⟩
  have hz_k5 := hs_k5.size
  have hb := hb.trans (hs_k5.mono hb.size)
  have hr := hr_hb.below hb
  have hL := hL_hb.below hb
  have hG := GIn.below hG hs_k5
  have hG2 := GIn.below hG2 hs_k5
  rw [if_pos h0]
  refine Wl.mv rfl rfl <| Wl.y (y_extract rfl rfl) rfl <| Wl.y (y_extract rfl rfl) rfl <| Wl.sg rfl rfl <| Wl.sg rfl rfl <| Wl.nil <| Wq.next hK_58 <| Wc.seq fun _ hK_66 => Wc.region <| Wl.mv rfl rfl <| Wl.mv rfl rfl <| Wl.guardT rfl rfl rfl (fun g_69 => ?_) (fun g_69 => ?_)
  ·
   have g_69_ := g_69
   simp only [DZ] at g_69
   refine Wl.mv rfl rfl <| Wl.on' rfl rfl g_69_ <| Wl.y (y_eqli rfl rfl) rfl <| Wl.y (y_pickT rfl g_69_ rfl) rfl <| Wl.mv rfl rfl <| Wl.guardT rfl rfl rfl (fun g_74 => ?_) (fun g_74 => ?_)
   ·
    have g_74_ := g_74
    simp only [DZ] at g_74
    refine Wl.mv rfl rfl <| Wl.on' rfl rfl g_74_ <| Wl.y (y_eqli rfl rfl) rfl <| Wl.y (y_pickT rfl g_74_ rfl) rfl <| Wl.mv rfl rfl <| Wl.guardT rfl rfl rfl (fun g_79 => ?_) (fun g_79 => ?_)
    ·
     have g_79_ := g_79
     simp only [DZ] at g_79
     refine Wl.mv rfl rfl <| Wl.on' rfl rfl g_79_ <| Wl.y (y_eqli rfl rfl) rfl <| Wl.y (y_pickT rfl g_79_ rfl) rfl <| Wl.mv rfl rfl <| Wl.guardT rfl rfl rfl (fun g_84 => ?_) (fun g_84 => ?_)
     ·
      have g_84_ := g_84
      simp only [DZ] at g_84
      refine Wl.mv rfl rfl <| Wl.on' rfl rfl g_84_ <| Wl.y (y_eqli rfl rfl) rfl <| Wl.y (y_pickT rfl g_84_ rfl) rfl <| Wl.mv rfl rfl <| Wl.guardT rfl rfl rfl (fun g_89 => ?_) (fun g_89 => ?_)
      ·
       have g_89_ := g_89
       simp only [DZ] at g_89
       refine Wl.mv rfl rfl <| Wl.on' rfl rfl g_89_ <| Wl.mv rfl rfl <| Wl.on' rfl rfl g_89_ <| Wl.y (y_eqli rfl rfl) rfl <| Wl.y (y_pickT rfl g_89_ rfl) rfl <| Wl.mv rfl rfl <| Wl.guardT rfl rfl rfl (fun g_95 => ?_) (fun g_95 => ?_)
       ·
        have g_95_ := g_95
        simp only [DZ] at g_95
        refine Wl.mv rfl rfl <| Wl.on' rfl rfl g_95_ <| Wl.mv rfl rfl <| Wl.on' rfl rfl g_95_ <| Wl.bytesN Tryz.underlying9 Tryz.underlying33 Tryz.underlying5 rfl rfl ?_
        rintro g_o66 c_o66 w_o66 hg_o66 hl_o66 hn_o66 hs_o66
        have hz_o66 := hs_o66.size
        have hb := hb.trans (hs_o66.mono hb.size)
        have hr := hr_hb.below hb
        have hL := hL_hb.below hb
        have hG := GIn.below hG hs_o66
        have hG2 := GIn.below hG2 hs_o66
        have hR_o66 := hn_o66
        refine Wl.on' rfl rfl g_95_ <| Wl.call txt26LpE rfl rfl (Sum_r _ _ _ (printG G) _ (by omega) hR_o66) rfl ?_
        rintro _ w_k6 ⟨rfl, hs_k6⟩
        have hz_k6 := hs_k6.size
        have hb := hb.trans (hs_k6.mono hb.size)
        have hr := hr_hb.below hb
        have hL := hL_hb.below hb
        have hG := GIn.below hG hs_k6
        have hG2 := GIn.below hG2 hs_k6
        refine Wl.on' rfl rfl g_95_ <| Wl.y (y_eqli rfl rfl) rfl <| Wl.y (y_pickT rfl g_95_ rfl) rfl <| Wl.sg rfl rfl <| Wl.nil <| Wq.next hK_66 <| Wc.ret <| ret1 rfl rfl ?_
        exact ⟨_, rfl, bool_eq (by simp), hb⟩
       have g_95_ := g_95
       simp only [DZ] at g_95
       exact absurd g_95_ (by simp)
      have g_89_ := g_89
      simp only [DZ] at g_89
      exact absurd g_89_ (by rw [h0]; simp)
     have g_84_ := g_84
     simp only [DZ] at g_84
     exact absurd g_84_ (by simp)
    have g_79_ := g_79
    simp only [DZ] at g_79
    exact absurd g_79_ (by rw [h0]; simp)
   have g_74_ := g_74
   simp only [DZ] at g_74
   exact absurd g_74_ (by rw [h0]; simp)
  have g_69_ := g_69
  cases g_69_
end Go.Proofs.YtobhpejaoakpmaaGreatDoor
