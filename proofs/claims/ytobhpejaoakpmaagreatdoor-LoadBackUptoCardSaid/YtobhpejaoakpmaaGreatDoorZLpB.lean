/- LoadBack, by the calculus. -/
import Derived.Test.YtobhpejaoakpmaaGreatDoorZLpA
import Derived.Test.YtobhpejaoakpmaaGreatDoorZLS
namespace Go.Proofs.YtobhpejaoakpmaaGreatDoor
open Go.RowKit Go.Bw Go.Bw.Fl
set_option linter.unusedVariables false
set_option linter.unusedSimpArgs false
theorem txt17LpB : Txt Tryz.prog 17 := ⟨_, Tryz.func17, by kernel_rfl, rfl⟩   -- bridleway/bridlewayref07.Same
theorem txt18LpB : Txt Tryz.prog 18 := ⟨_, Tryz.func18, by kernel_rfl, rfl⟩   -- bridleway/bridlewaylaw08.shown
theorem txt19LpB : Txt Tryz.prog 19 := ⟨_, Tryz.func19, by kernel_rfl, rfl⟩   -- bridleway/load.Parse
theorem txt21LpB : Txt Tryz.prog 21 := ⟨_, Tryz.func21, by kernel_rfl, rfl⟩   -- bridleway/bridlewaylaw08.few
theorem txt22LpB : Txt Tryz.prog 22 := ⟨_, Tryz.func22, by kernel_rfl, rfl⟩   -- bridleway/load.Print
theorem txt24LpB : Txt Tryz.prog 24 := ⟨_, Tryz.func24, by kernel_rfl, rfl⟩   -- bridleway/graph.Right
theorem samePs_refl (ps : List Pr) : samePs ps ps = true := by
  unfold samePs
  rw [decide_eq_true rfl, Bool.true_and]
  exact allN_t fun j _ => by unfold samePA; rw [sameV_self, decide_eq_true rfl]; rfl
theorem sameN_refl (d : ND) : sameN d d = true := by unfold sameN; rw [samePs_refl]; simp
theorem sameG_refl (g : GV) : sameG g g = true := by
  unfold sameG
  have h1 : allN g.ns.length (sameNA g g) = true := allN_t fun j _ => sameN_refl _
  have h2 : allN g.es.length (sameEA g g) = true := allN_t fun j _ => by unfold sameEA sameE; rw [sameN_refl]; simp
  rw [h1, h2]; simp
theorem print_le {S : Nat → Prop} {w : World} {A B : Option Addr} {c e : Nat} {g : GV} (hG : GAt S w A c B e g) (h : rightG g = 0) (hsz : szG g ≤ 1048576) : (printG g).length < 4294967281 := by
  obtain ⟨h1, h2, h3⟩ := rightG_zero h
  have := print_len hG.oks hG.oke h3 h1 h2
  unfold printG; rw [List.length_append]; omega
theorem LoadBack_r (S : Nat → Prop) (A : Option Addr) (c : Nat) (B : Option Addr) (e : Nat) (g : GV) (w : World) (hG0 : GAt S w A c B e g) (hsz0 : szG g ≤ 1048576) (hL : Lb w) :
    Ret Tryz.prog 6 [.agg #[.slice A g.ns.length c, .slice B g.es.length e]] w fun v w' => v = .bool true ∧ Below w.heap.size w w' := by
  have hnl := szG_nlen g
  have hel := szG_elen g
  have hG := hG0.few
  have hsz := Nat.le_trans (fewG_sz g) hsz0
  have hb := Below.refl w.heap.size w
  have hG_hb := hG
  have hL_hb := hL
  refine enter Tryz.func6 rfl rfl rfl ?_
  refine Wc.seq fun _ hK_1 => Wc.region ?_
  refine Wl.boxN rfl rfl ?_
  rintro g_o0 w_o0 hg_o0 hn_o0 hs_o0
  have hz_o0 := hs_o0.size
  have hb := hb.trans (hs_o0.mono hb.size)
  have hG := hG_hb.below hb
  have hL := hL_hb.below hb
  have hB_o0 := hn_o0
  have hl_o0 := hB_o0.lt
  refine Wl.sg rfl rfl <| Wl.nil <| Wq.next hK_1 <| Wc.seq fun _ hK_4 => Wc.region ?_
  refine Wl.call txt18LpB rfl rfl (shown8_r _ hL) rfl ?_
  rintro _ w_k0 ⟨rfl, hs_k0⟩
  have hz_k0 := hs_k0.size
  have hb := hb.trans (hs_k0.mono hb.size)
  have hG := hG_hb.below hb
  have hL := hL_hb.below hb
  have hB_o0 := Blk.below hB_o0 hs_k0
  refine Wl.sg rfl rfl <| Wl.nil <| Wq.next hK_4 <| Wc.seq fun _ hK_7 => Wc.region ?_
  refine Wl.l (l_loadS Tryz.underlying25 (by kernel_rfl) rfl (by exact fun j u hu => hB_o0.at hu)) rfl ?_
  refine Wl.call txt21LpB rfl rfl (few8_r A c B e g _ hG0.nc hG0.ec (by omega) (by omega)) rfl ?_
  rintro _ w_k1 ⟨rfl, hs_k1⟩
  have hz_k1 := hs_k1.size
  have hb := hb.trans (hs_k1.mono hb.size)
  have hG := hG_hb.below hb
  have hL := hL_hb.below hb
  have hB_o0 := Blk.below hB_o0 hs_k1
  refine Wl.storeS (by kernel_rfl) rfl rfl hB_o0 rfl rfl ?_
  rintro w_s0 hn_s0 hg_s0
  have hz_s0 := hg_s0.size
  have hb := below_blk hb hg_s0 hb.size (by omega)
  have hG := hG_hb.below hb
  have hL := hL_hb.below hb
  have hB_o0 := hn_s0
  refine Wl.nil <| Wq.next hK_7 <| Wc.seq fun _ hK_10 => Wc.region ?_
  refine Wl.l (l_loadS Tryz.underlying25 (by kernel_rfl) rfl (by exact fun j u hu => hB_o0.at hu)) rfl ?_
  refine Wl.call txt22LpB rfl rfl (GPrint_r S A c B e (fewG g) _ hG (by omega) hL) rfl ?_
  rintro _ w_k2 ⟨rfl, hs_k2⟩
  have hz_k2 := hs_k2.size
  have hb := hb.trans (hs_k2.mono hb.size)
  have hG := hG_hb.below hb
  have hL := hL_hb.below hb
  have hB_o0 := Blk.below hB_o0 hs_k2
  refine Wl.mv rfl rfl <| Wl.y (y_extract rfl rfl) rfl <| Wl.y (y_extract rfl rfl) rfl <| Wl.sg rfl rfl <| Wl.sg rfl rfl <| Wl.nil <| Wq.next hK_10 <| Wc.seq fun _ hK_18 => Wc.seq fun _ hK_19 => Wc.region ?_
  refine Wl.mv rfl rfl <| Wl.y (y_neqi rfl rfl) rfl <| Wl.nil <| Wq.next hK_19 ?_
  refine Wc.cond rfl (fun c0_22 => ?_) (fun c0_22 => ?_)
  ·
   have c0_22_ := c0_22
   simp only [DZ] at c0_22
   have hne : ¬ rightG (fewG g) = 0 := by simpa using c0_22
   refine Wc.seq fun _ hK_23 => Wc.region <| Wl.mv rfl rfl <| Wl.mv rfl rfl ?_
   refine Wl.guardT rfl rfl rfl (fun g_26 => ?_) (fun g_26 => ?_)
   ·
    have g_26_ := g_26
    simp only [DZ] at g_26
    refine Wl.mv rfl rfl <| Wl.on' rfl rfl g_26_ <| Wl.y (y_eqls rfl rfl) rfl ?_
    refine Wl.y (y_pickT rfl g_26_ rfl) rfl ?_
    refine Wl.mv rfl rfl ?_
    refine Wl.guardT rfl rfl rfl (fun g_31 => ?_) (fun g_31 => ?_)
    ·
     have g_31_ := g_31
     simp only [DZ] at g_31
     refine Wl.mv rfl rfl <| Wl.on' rfl rfl g_31_ ?_
     refine Wl.l (l_loadS Tryz.underlying25 (by kernel_rfl) rfl (by exact fun j u hu => hB_o0.at hu)) rfl ?_
     refine Wl.on' rfl rfl g_31_ ?_
     refine Wl.call txt24LpB rfl rfl (GRight_r S A c B e (fewG g) _ hG (by omega)) rfl ?_
     rintro _ w_k3 ⟨rfl, hs_k3⟩
     have hz_k3 := hs_k3.size
     have hb := hb.trans (hs_k3.mono hb.size)
     have hG := hG_hb.below hb
     have hL := hL_hb.below hb
     refine Wl.on' rfl rfl g_31_ <| Wl.y (y_eqli rfl rfl) rfl ?_
     refine Wl.y (y_pickT rfl g_31_ rfl) rfl ?_
     refine Wl.sg rfl rfl <| Wl.nil <| Wq.next hK_23 <| Wc.ret <| Wq.then_ret ?_
     refine ret1 rfl rfl ?_
     exact ⟨_, rfl, bool_eq (by simp), hb⟩
    have g_31_ := g_31
    simp only [DZ] at g_31
    exact absurd g_31_ (by rw [if_neg hne]; simp)
   have g_26_ := g_26
   cases g_26_
  have c0_22_ := c0_22
  simp only [DZ] at c0_22
  have h0 : rightG (fewG g) = 0 := by simpa using c0_22
  have hpl := print_le hG h0 hsz
  have hld := load_print (rg_of h0 hG.oks hG.oke)
  rw [if_pos h0]
  refine Wc.skip <| Wq.next hK_18 <| Wc.seq fun _ hK_38 => Wc.region <| Wl.mv rfl rfl ?_
  refine Wl.bytesN Tryz.underlying9 Tryz.underlying33 Tryz.underlying5 rfl rfl ?_
  rintro g_o21 c_o21 w_o21 hg_o21 hl_o21 hn_o21 hs_o21
  have hz_o21 := hs_o21.size
  have hb := hb.trans (hs_o21.mono hb.size)
  have hG := hG_hb.below hb
  have hL := hL_hb.below hb
  have hB_o0 := Blk.below hB_o0 hs_o21
  have hR_o21 := hn_o21
  refine Wl.call txt19LpB rfl rfl (LParse_r _ _ _ (printG (fewG g)) _ hR_o21 rfl hpl hL) rfl ?_
  rintro _ w_k4 ⟨⟨A1, c1, A2, c2, rfl, hG1⟩, hs_k4⟩
  have hz_k4 := hs_k4.size
  have hb := hb.trans (hs_k4.mono hb.size)
  have hG := hG_hb.below hb
  have hL := hL_hb.below hb
  have hB_o0 := Blk.below hB_o0 hs_k4
  rw [hld] at hG1 ⊢
  dsimp only at hG1 ⊢
  refine Wl.mv rfl rfl <| Wl.y (y_extract rfl rfl) rfl <| Wl.y (y_extract rfl rfl) rfl <| Wl.y (y_extract rfl rfl) rfl ?_
  refine Wl.allocN (z := (.agg #[(.slice none 0 0), (.slice none 0 0)])) (by kernel_rfl) rfl ?_
  rintro g_o26 w_o26 hg_o26 hn_o26 hs_o26
  have hz_o26 := hs_o26.size
  have hb := hb.trans (hs_o26.mono hb.size)
  have hG := hG_hb.below hb
  have hL := hL_hb.below hb
  have hB_o0 := Blk.below hB_o0 hs_o26
  have hG1 := GIn.below hG1 hs_o26
  have hB_o26 := hn_o26
  have hl_o26 := hB_o26.lt
  refine Wl.storeS (by kernel_rfl) rfl rfl hB_o26 rfl rfl ?_
  rintro w_s1 hn_s1 hg_s1
  have hz_s1 := hg_s1.size
  have hb := below_blk hb hg_s1 hb.size (by omega)
  have hG := hG_hb.below hb
  have hL := hL_hb.below hb
  have hB_o0 := hB_o0.over hg_s1 (by omega)
  have hG1 := hG1.over hg_s1 (by omega)
  have hB_o26 := hn_s1
  refine Wl.sg rfl rfl <| Wl.sg rfl rfl <| Wl.nil <| Wq.next hK_38 <| Wc.seq fun _ hK_49 => Wc.region ?_
  refine Wl.l (l_loadS Tryz.underlying25 (by kernel_rfl) rfl (by exact fun j u hu => hB_o26.at hu)) rfl ?_
  refine Wl.call txt22LpB rfl rfl (GPrint_r _ A1 c1 A2 c2 (fewG g) _ hG1.gat (by omega) hL) rfl ?_
  rintro _ w_k5 ⟨rfl, hs_k5⟩
  have hz_k5 := hs_k5.size
  have hb := hb.trans (hs_k5.mono hb.size)
  have hG := hG_hb.below hb
  have hL := hL_hb.below hb
  have hB_o0 := Blk.below hB_o0 hs_k5
  have hG1 := GIn.below hG1 hs_k5
  have hB_o26 := Blk.below hB_o26 hs_k5
  refine Wl.mv rfl rfl <| Wl.y (y_extract rfl rfl) rfl <| Wl.y (y_extract rfl rfl) rfl <| Wl.sg rfl rfl <| Wl.sg rfl rfl <| Wl.nil <| Wq.next hK_49 <| Wc.seq fun _ hK_57 => Wc.region <| Wl.mv rfl rfl ?_
  refine Wl.mv rfl rfl ?_
  refine Wl.guardT rfl rfl rfl (fun g_60 => ?_) (fun g_60 => ?_)
  ·
   have g_60_ := g_60
   simp only [DZ] at g_60
   refine Wl.mv rfl rfl <| Wl.on' rfl rfl g_60_ <| Wl.y (y_eqli rfl rfl) rfl ?_
   refine Wl.y (y_pickT rfl g_60_ rfl) rfl ?_
   refine Wl.mv rfl rfl ?_
   refine Wl.guardT rfl rfl rfl (fun g_65 => ?_) (fun g_65 => ?_)
   ·
    have g_65_ := g_65
    simp only [DZ] at g_65
    refine Wl.mv rfl rfl <| Wl.on' rfl rfl g_65_ <| Wl.y (y_eqli rfl rfl) rfl ?_
    refine Wl.y (y_pickT rfl g_65_ rfl) rfl ?_
    refine Wl.mv rfl rfl ?_
    refine Wl.guardT rfl rfl rfl (fun g_70 => ?_) (fun g_70 => ?_)
    ·
     have g_70_ := g_70
     simp only [DZ] at g_70
     refine Wl.l (l_loadS Tryz.underlying25 (by kernel_rfl) rfl (by exact fun j u hu => hB_o0.at hu)) rfl ?_
     refine Wl.on' rfl rfl g_70_ ?_
     refine Wl.l (l_loadS Tryz.underlying25 (by kernel_rfl) rfl (by exact fun j u hu => hB_o26.at hu)) rfl ?_
     refine Wl.on' rfl rfl g_70_ ?_
     refine Wl.call txt17LpB rfl rfl (GSame_r S A c B e (fewG g) _ A1 c1 A2 c2 (fewG g) _ hG hG1.gat (by omega) (by omega)) rfl ?_
     rintro _ w_k6 ⟨rfl, hs_k6⟩
     have hz_k6 := hs_k6.size
     have hb := hb.trans (hs_k6.mono hb.size)
     have hG := hG_hb.below hb
     have hL := hL_hb.below hb
     have hG1 := GIn.below hG1 hs_k6
     refine Wl.y (y_pickT rfl g_70_ rfl) rfl ?_
     refine Wl.mv rfl rfl ?_
     refine Wl.guardT rfl rfl rfl (fun g_76 => ?_) (fun g_76 => ?_)
     ·
      have g_76_ := g_76
      refine Wl.mv rfl rfl <| Wl.on' rfl rfl g_76_ <| Wl.y (y_eqli rfl rfl) rfl ?_
      refine Wl.y (y_pickT rfl g_76_ rfl) rfl ?_
      refine Wl.mv rfl rfl ?_
      refine Wl.guardT rfl rfl rfl (fun g_81 => ?_) (fun g_81 => ?_)
      ·
       have g_81_ := g_81
       simp only [DZ] at g_81
       refine Wl.mv rfl rfl <| Wl.on' rfl rfl g_81_ <| Wl.mv rfl rfl <| Wl.on' rfl rfl g_81_ <| Wl.y (y_eqls rfl rfl) rfl ?_
       refine Wl.y (y_pickT rfl g_81_ rfl) rfl ?_
       refine Wl.sg rfl rfl <| Wl.nil <| Wq.next hK_57 <| Wc.ret ?_
       refine ret1 rfl rfl ?_
       exact ⟨_, rfl, bool_eq (by rw [if_pos h0]; simp), hb⟩
      have g_81_ := g_81
      simp only [DZ] at g_81
      exact absurd g_81_ (by rw [h0]; simp)
     have g_76_ := g_76
     exact absurd g_76_ (by rw [sameG_refl]; simp)
    have g_70_ := g_70
    simp only [DZ] at g_70
    exact absurd g_70_ (by decide)
   have g_65_ := g_65
   simp only [DZ] at g_65
   exact absurd g_65_ (by decide)
  have g_60_ := g_60
  cases g_60_
end Go.Proofs.YtobhpejaoakpmaaGreatDoor
