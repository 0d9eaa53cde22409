/- value.Right, by the calculus. · value.Text, by the calculus. -/
import Derived.Test.YtjmlknjbhbfneaaGreatDoorZE
import Derived.Test.YtjmlknjbhbfneaaGreatDoorZF
namespace Go.Proofs.YtjmlknjbhbfneaaGreatDoor
open Go.RowKit Go.Bw Go.Bw.Fl
set_option linter.unusedVariables false
set_option linter.unusedSimpArgs false
theorem exn91ValRt : Extn Tryz.prog 91 Extern.MathFloatBits.float64bits := fun args w => run_callFunc_extern Tryz.func91 (by kernel_rfl) (by kernel_rfl) (by kernel_rfl) (by kernel_rfl) args w
theorem fa96_0ValRt (p : Addr) (w : World) : (Instr.fieldAt 96 (.pointer (some p)) 0).run Tryz.prog w = .ok (.pointer (some (p.add 0))) w := run_fieldAt (i := 0) (sz := 0) Tryz.underlying96 rfl (by kernel_rfl) p w
theorem fa96_1ValRt (p : Addr) (w : World) : (Instr.fieldAt 96 (.pointer (some p)) 1).run Tryz.prog w = .ok (.pointer (some (p.add 1))) w := run_fieldAt (i := 1) (sz := 0) Tryz.underlying96 rfl (by kernel_rfl) p w
theorem fa96_2ValRt (p : Addr) (w : World) : (Instr.fieldAt 96 (.pointer (some p)) 2).run Tryz.prog w = .ok (.pointer (some (p.add 2))) w := run_fieldAt (i := 2) (sz := 0) Tryz.underlying96 rfl (by kernel_rfl) p w
theorem fa96_3ValRt (p : Addr) (w : World) : (Instr.fieldAt 96 (.pointer (some p)) 3).run Tryz.prog w = .ok (.pointer (some (p.add 3))) w := run_fieldAt (i := 3) (sz := 0) Tryz.underlying96 rfl (by kernel_rfl) p w
theorem one2ValRt : One Tryz.prog 2 := ⟨_, Tryz.underlying2, rfl, by kernel_rfl⟩
theorem one3ValRt : One Tryz.prog 3 := ⟨_, Tryz.underlying3, rfl, by kernel_rfl⟩
theorem one9ValRt : One Tryz.prog 9 := ⟨_, Tryz.underlying9, rfl, by kernel_rfl⟩
theorem one94ValRt : One Tryz.prog 94 := ⟨_, Tryz.underlying94, rfl, by kernel_rfl⟩
theorem txt89ValRt : Txt Tryz.prog 89 := ⟨_, Tryz.func89, by kernel_rfl, rfl⟩   -- bridleway/value.truth
theorem txt90ValRt : Txt Tryz.prog 90 := ⟨_, Tryz.func90, by kernel_rfl, rfl⟩   -- bridleway/num.Canon
theorem right0 {v : Val} (h : v.k = 0) : rightV v = decide (v.n = 0 ∧ v.f = 0 ∧ v.s = []) := by unfold rightV; rw [if_pos h]
theorem right1 {v : Val} (h : v.k = 1) : rightV v = decide ((v.n = 0 ∨ v.n = 1) ∧ v.f = 0 ∧ v.s = []) := by unfold rightV; rw [if_neg (by omega), if_pos h]
theorem right2 {v : Val} (h : v.k = 2) : rightV v = decide (v.f = 0 ∧ v.s = []) := by unfold rightV; rw [if_neg (by omega), if_neg (by omega), if_pos h]
theorem right3 {v : Val} (h : v.k = 3) : rightV v = decide (v.n = 0 ∧ v.s = [] ∧ canon v.f = v.f) := by unfold rightV; rw [if_neg (by omega), if_neg (by omega), if_neg (by omega), if_pos h]
theorem right4 {v : Val} (h : v.k = 4) : rightV v = decide (v.n = 0 ∧ v.f = 0) := by unfold rightV; rw [if_neg (by omega), if_neg (by omega), if_neg (by omega), if_neg (by omega), if_pos h]
theorem tr1 (n : Int) : (n = if (n == 1) = true then 1 else 0) ↔ (n = 0 ∨ n = 1) := by split <;> simp_all <;> omega
theorem tr2 (n : Int) : (n = (truthV (n == 1)).n) ↔ (n = 0 ∨ n = 1) := tr1 n
theorem beqN (x y : Nat) : ((x : Int) == (y : Int)) = decide (x = y) := by rw [Bool.eq_iff_iff, beq_iff_eq, decide_eq_true_eq]; omega
theorem beq0 (x : Nat) : ((x : Int) == 0) = decide (x = 0) := beqN x 0
theorem beqC (x : Nat) : ((x : Int) == (canon x : Int)) = decide (canon x = x) := by rw [beqN]; exact decide_eq_decide.2 eq_comm
theorem Right_r (a : Val) (oa : a.Ok) (w : World) : Ret Tryz.prog 54 [a.enc] w fun v w' => v = .bool (rightV a) ∧ Below w.heap.size w w' := by
  have hb := Below.refl w.heap.size w
  refine enter Tryz.func54 rfl rfl rfl <| Wc.seq fun _ hK_1 => Wc.region <| Wl.boxN rfl rfl ?_
  rintro g_o0 w_o0 hg_o0 hn_o0 hs_o0
  have hz_o0 := hs_o0.size
  have hb := hb.trans (hs_o0.mono hb.size)
  have hB_o0 := hn_o0
  have hl_o0 := hB_o0.lt
  refine Wl.sg rfl rfl <| Wl.nil <| Wq.next hK_1 <| Wc.seq fun _ hK_4 => Wc.region <| Wl.l (l_loadS Tryz.underlying96 (by kernel_rfl) rfl (by exact fun j u hu => hB_o0.at hu)) rfl <| Wl.allocN (z := (.agg #[(.int .i64 0), (.int .i64 0), (.float .f64 0), (str [])])) (by kernel_rfl) rfl ?_
  rintro g_o2 w_o2 hg_o2 hn_o2 hs_o2
  have hz_o2 := hs_o2.size
  have hb := hb.trans (hs_o2.mono hb.size)
  have hB_o0 := Blk.below hB_o0 hs_o2
  have hB_o2 := hn_o2
  have hl_o2 := hB_o2.lt
  refine Wl.storeS (by kernel_rfl) rfl rfl hB_o2 rfl rfl ?_
  rintro w_s0 hn_s0 hg_s0
  have hz_s0 := hg_s0.size
  have hb := below_blk hb hg_s0 hb.size (by omega)
  have hB_o0 := hB_o0.over hg_s0 (by omega)
  have hB_o2 := hn_s0
  refine Wl.nil <| Wq.next hK_4 <| Wc.seq fun _ hK_7 => Wc.seq fun _ hK_8 => Wc.region <| Wl.y (y_fieldAddr (fa96_0ValRt _) rfl) rfl <| Wl.l (l_load one3ValRt rfl (by exact hB_o0.at rfl)) rfl <| Wl.nil <| Wq.next hK_8 <| Wc.block <| Wc.seq fun _ hK_11 => Wc.region <| Wl.y (y_eqli rfl rfl) rfl <| Wl.sg rfl rfl <| Wl.nil <| Wq.next hK_11 <| Wc.cond rfl (fun c0_14 => ?_) (fun c0_14 => ?_)
  ·
   simp only [DZ] at c0_14
   refine Wc.region <| Wl.y (y_buildS (z := [(.int .i64 0), (.int .i64 0), (.float .f64 0), (str [])]) (pl := [(0, 1), (1, 1), (2, 1), (3, 1)]) (cs := [_, _, _, _]) Tryz.underlying96 (by kernel_rfl) (by kernel_rfl) rfl rfl rfl) rfl <| Wl.storeS (by kernel_rfl) rfl rfl hB_o2 rfl rfl ?_
   rintro w_s1 hn_s1 hg_s1
   have hz_s1 := hg_s1.size
   have hb := below_blk hb hg_s1 hb.size (by omega)
   have hB_o0 := hB_o0.over hg_s1 (by omega)
   have hB_o2 := hn_s1
   refine Wl.nil <| Wq.block_normal <| Wq.next hK_7 <| Wc.seq fun _ hK_16 => Wc.quiet (by kernel_rfl) (by kernel_rfl) <| Wy.y (y_fieldAddr (fa96_0ValRt _) rfl) rfl <| Wy.l (fun wq hq => l_load one3ValRt rfl (by have hB_o0 := Blk.below hB_o0 hq; have hB_o2 := Blk.below hB_o2 hq; first | exact hB_o0.at rfl | exact hB_o2.at rfl | exact hB_o0.cell 0 | exact hB_o2.cell 0 | assumption)) rfl <| Wy.y (y_fieldAddr (fa96_0ValRt _) rfl) rfl <| Wy.l (fun wq hq => l_load one3ValRt rfl (by have hB_o0 := Blk.below hB_o0 hq; have hB_o2 := Blk.below hB_o2 hq; first | exact hB_o0.at rfl | exact hB_o2.at rfl | exact hB_o0.cell 0 | exact hB_o2.cell 0 | assumption)) rfl <| Wy.y (y_eqli rfl rfl) rfl <| Wy.y (y_move rfl) rfl <| Wy.guardT rfl rfl rfl (fun g_23 => ?_) (fun g_23 => ?_)
   ·
    have g_23_ := g_23
    simp only [DZ] at g_23
    refine Wy.y (y_fieldAddr (fa96_1ValRt _) rfl) rfl <| Wy.on' rfl rfl g_23_ <| Wy.l (fun wq hq => l_load one2ValRt rfl (by have hB_o0 := Blk.below hB_o0 hq; have hB_o2 := Blk.below hB_o2 hq; first | exact hB_o0.at rfl | exact hB_o2.at rfl | exact hB_o0.cell 0 | exact hB_o2.cell 0 | assumption)) rfl <| Wy.on' rfl rfl g_23_ <| Wy.y (y_fieldAddr (fa96_1ValRt _) rfl) rfl <| Wy.on' rfl rfl g_23_ <| Wy.l (fun wq hq => l_load one2ValRt rfl (by have hB_o0 := Blk.below hB_o0 hq; have hB_o2 := Blk.below hB_o2 hq; first | exact hB_o0.at rfl | exact hB_o2.at rfl | exact hB_o0.cell 0 | exact hB_o2.cell 0 | assumption)) rfl <| Wy.on' rfl rfl g_23_ <| Wy.y (y_eqli rfl rfl) rfl <| Wy.y (y_pickT rfl g_23_ rfl) rfl <| Wy.y (y_move rfl) rfl <| Wy.guardT rfl rfl rfl (fun g_31 => ?_) (fun g_31 => ?_)
    ·
     have g_31_ := g_31
     simp only [DZ] at g_31
     refine Wy.y (y_fieldAddr (fa96_3ValRt _) rfl) rfl <| Wy.on' rfl rfl g_31_ <| Wy.l (fun wq hq => l_load one9ValRt rfl (by have hB_o0 := Blk.below hB_o0 hq; have hB_o2 := Blk.below hB_o2 hq; first | exact hB_o0.at rfl | exact hB_o2.at rfl | exact hB_o0.cell 0 | exact hB_o2.cell 0 | assumption)) rfl <| Wy.on' rfl rfl g_31_ <| Wy.y (y_fieldAddr (fa96_3ValRt _) rfl) rfl <| Wy.on' rfl rfl g_31_ <| Wy.l (fun wq hq => l_load one9ValRt rfl (by have hB_o0 := Blk.below hB_o0 hq; have hB_o2 := Blk.below hB_o2 hq; first | exact hB_o0.at rfl | exact hB_o2.at rfl | exact hB_o0.cell 0 | exact hB_o2.cell 0 | assumption)) rfl <| Wy.on' rfl rfl g_31_ <| Wy.y (y_eqls rfl rfl) rfl <| Wy.y (y_pickT rfl g_31_ rfl) rfl <| Wy.y (y_move rfl) rfl <| Wy.guardT rfl rfl rfl (fun g_39 => ?_) (fun g_39 => ?_)
     ·
      have g_39_ := g_39
      simp only [DZ] at g_39
      refine Wy.y (y_fieldAddr (fa96_2ValRt _) rfl) rfl <| Wy.on' rfl rfl g_39_ <| Wy.l (fun wq hq => l_load one94ValRt rfl (by have hB_o0 := Blk.below hB_o0 hq; have hB_o2 := Blk.below hB_o2 hq; first | exact hB_o0.at rfl | exact hB_o2.at rfl | exact hB_o0.cell 0 | exact hB_o2.cell 0 | assumption)) rfl <| Wy.on' rfl rfl g_39_ <| Wy.y (y_f2b exn91ValRt rfl rfl) rfl <| Wy.on' rfl rfl g_39_ <| Wy.y (y_fieldAddr (fa96_2ValRt _) rfl) rfl <| Wy.on' rfl rfl g_39_ <| Wy.l (fun wq hq => l_load one94ValRt rfl (by have hB_o0 := Blk.below hB_o0 hq; have hB_o2 := Blk.below hB_o2 hq; first | exact hB_o0.at rfl | exact hB_o2.at rfl | exact hB_o0.cell 0 | exact hB_o2.cell 0 | assumption)) rfl <| Wy.on' rfl rfl g_39_ <| Wy.y (y_f2b exn91ValRt rfl rfl) rfl <| Wy.on' rfl rfl g_39_ <| Wy.y (y_eqli rfl rfl) rfl <| Wy.y (y_pickT rfl g_39_ rfl) rfl <| Wy.y (y_assign rfl) rfl <| Wy.nil fun w_g14 hs_g14 => ?_
      have hz_g14 := hs_g14.size
      have hb := hb.trans (hs_g14.mono hb.size)
      refine Wq.next hK_16 <| Wc.ret <| ret1 rfl rfl ?_
      exact ⟨_, rfl, bool_eq (by rw [right0 c0_14]; first | exact absurd c0_14 g_23 | (exfalso; have h := g_39_; simp at h; done) | (exfalso; have h := g_31_; simp at h; done) | (simp [g_31, g_39, beq0, beqC]; done) | (simp [g_31, beq0, beqC]; done) | (simp [g_39, beq0, beqC]; done)), hb⟩
     have g_39_ := g_39
     simp only [DZ] at g_39
     refine Wy.off' rfl rfl g_39_ rfl rfl <| Wy.off' rfl rfl g_39_ rfl rfl <| Wy.off' rfl rfl g_39_ rfl rfl <| Wy.off' rfl rfl g_39_ rfl rfl <| Wy.off' rfl rfl g_39_ rfl rfl <| Wy.off' rfl rfl g_39_ rfl rfl <| Wy.y (y_pickF rfl g_39_ rfl) rfl <| Wy.y (y_assign rfl) rfl <| Wy.nil fun w_g14 hs_g14 => ?_
     have hz_g14 := hs_g14.size
     have hb := hb.trans (hs_g14.mono hb.size)
     refine Wq.next hK_16 <| Wc.ret <| ret1 rfl rfl ?_
     exact ⟨_, rfl, bool_eq (by rw [right0 c0_14]; first | exact absurd c0_14 g_23 | (exfalso; have h := g_39_; simp at h; done) | (exfalso; have h := g_31_; simp at h; done) | (simp [g_31, g_39, beq0, beqC]; done) | (simp [g_31, beq0, beqC]; done) | (simp [g_39, beq0, beqC]; done)), hb⟩
    have g_31_ := g_31
    simp only [DZ] at g_31
    refine Wy.off' rfl rfl g_31_ rfl rfl <| Wy.off' rfl rfl g_31_ rfl rfl <| Wy.off' rfl rfl g_31_ rfl rfl <| Wy.off' rfl rfl g_31_ rfl rfl <| Wy.y (y_pickF rfl g_31_ rfl) rfl <| Wy.y (y_move rfl) rfl <| Wy.off' rfl rfl rfl rfl rfl <| Wy.off' rfl rfl rfl rfl rfl <| Wy.off' rfl rfl rfl rfl rfl <| Wy.off' rfl rfl rfl rfl rfl <| Wy.off' rfl rfl rfl rfl rfl <| Wy.off' rfl rfl rfl rfl rfl <| Wy.off' rfl rfl rfl rfl rfl <| Wy.y (y_pickF rfl rfl rfl) rfl <| Wy.y (y_assign rfl) rfl <| Wy.nil fun w_g14 hs_g14 => ?_
    have hz_g14 := hs_g14.size
    have hb := hb.trans (hs_g14.mono hb.size)
    refine Wq.next hK_16 <| Wc.ret <| ret1 rfl rfl ?_
    exact ⟨_, rfl, bool_eq (by rw [right0 c0_14]; first | exact absurd c0_14 g_23 | (exfalso; have h := MISSING_o38_; simp at h; done) | (exfalso; have h := g_31_; simp at h; done) | (simp [g_31, MISSING_o38, beq0, beqC]; done) | (simp [g_31, beq0, beqC]; done) | (simp [MISSING_o38, beq0, beqC]; done)), hb⟩
   have g_23_ := g_23
   simp only [DZ] at g_23
   refine Wy.off' rfl rfl g_23_ rfl rfl <| Wy.off' rfl rfl g_23_ rfl rfl <| Wy.off' rfl rfl g_23_ rfl rfl <| Wy.off' rfl rfl g_23_ rfl rfl <| Wy.y (y_pickF rfl g_23_ rfl) rfl <| Wy.y (y_move rfl) rfl <| Wy.off' rfl rfl rfl rfl rfl <| Wy.off' rfl rfl rfl rfl rfl <| Wy.off' rfl rfl rfl rfl rfl <| Wy.off' rfl rfl rfl rfl rfl <| Wy.off' rfl rfl rfl rfl rfl <| Wy.y (y_pickF rfl rfl rfl) rfl <| Wy.y (y_move rfl) rfl <| Wy.off' rfl rfl rfl rfl rfl <| Wy.off' rfl rfl rfl rfl rfl <| Wy.off' rfl rfl rfl rfl rfl <| Wy.off' rfl rfl rfl rfl rfl <| Wy.off' rfl rfl rfl rfl rfl <| Wy.off' rfl rfl rfl rfl rfl <| Wy.off' rfl rfl rfl rfl rfl <| Wy.y (y_pickF rfl rfl rfl) rfl <| Wy.y (y_assign rfl) rfl <| Wy.nil fun w_g14 hs_g14 => ?_
   have hz_g14 := hs_g14.size
   have hb := hb.trans (hs_g14.mono hb.size)
   refine Wq.next hK_16 <| Wc.ret <| ret1 rfl rfl ?_
   exact ⟨_, rfl, bool_eq (by rw [right0 c0_14]; first | exact absurd c0_14 g_23 | (exfalso; have h := MISSING_o38_; simp at h; done) | (exfalso; have h := MISSING_o33_; simp at h; done) | (simp [MISSING_o33, MISSING_o38, beq0, beqC]; done) | (simp [MISSING_o33, beq0, beqC]; done) | (simp [MISSING_o38, beq0, beqC]; done)), hb⟩
  simp only [DZ] at c0_14
  refine Wc.seq fun _ hK_61 => Wc.region <| Wl.y (y_eqli rfl rfl) rfl <| Wl.sg rfl rfl <| Wl.nil <| Wq.next hK_61 <| Wc.cond rfl (fun c1_64 => ?_) (fun c1_64 => ?_)
  ·
   simp only [DZ] at c1_64
   refine Wc.region <| Wl.y (y_fieldAddr (fa96_1ValRt _) rfl) rfl <| Wl.l (l_load one2ValRt rfl (by exact hB_o0.at rfl)) rfl <| Wl.y (y_eqli rfl rfl) rfl <| Wl.call txt89ValRt rfl rfl (truth_r _ _) rfl ?_
   rintro _ w_k0 ⟨rfl, hs_k0⟩
   have hz_k0 := hs_k0.size
   have hb := hb.trans (hs_k0.mono hb.size)
   have hB_o0 := Blk.below hB_o0 hs_k0
   have hB_o2 := Blk.below hB_o2 hs_k0
   refine Wl.storeS (by kernel_rfl) rfl rfl hB_o2 rfl rfl ?_
   rintro w_s2 hn_s2 hg_s2
   have hz_s2 := hg_s2.size
   have hb := below_blk hb hg_s2 hb.size (by omega)
   have hB_o0 := hB_o0.over hg_s2 (by omega)
   have hB_o2 := hn_s2
   refine Wl.nil <| Wq.block_normal <| Wq.next hK_7 <| Wc.seq fun _ hK_69 => Wc.quiet (by kernel_rfl) (by kernel_rfl) <| Wy.y (y_fieldAddr (fa96_0ValRt _) rfl) rfl <| Wy.l (fun wq hq => l_load one3ValRt rfl (by have hB_o0 := Blk.below hB_o0 hq; have hB_o2 := Blk.below hB_o2 hq; first | exact hB_o0.at rfl | exact hB_o2.at rfl | exact hB_o0.cell 0 | exact hB_o2.cell 0 | assumption)) rfl <| Wy.y (y_fieldAddr (fa96_0ValRt _) rfl) rfl <| Wy.l (fun wq hq => l_load one3ValRt rfl (by have hB_o0 := Blk.below hB_o0 hq; have hB_o2 := Blk.below hB_o2 hq; first | exact hB_o0.at rfl | exact hB_o2.at rfl | exact hB_o0.cell 0 | exact hB_o2.cell 0 | assumption)) rfl <| Wy.y (y_eqli rfl rfl) rfl <| Wy.y (y_move rfl) rfl <| Wy.guardT rfl rfl rfl (fun g_76 => ?_) (fun g_76 => ?_)
   ·
    have g_76_ := g_76
    simp only [DZ] at g_76
    refine Wy.y (y_fieldAddr (fa96_1ValRt _) rfl) rfl <| Wy.on' rfl rfl g_76_ <| Wy.l (fun wq hq => l_load one2ValRt rfl (by have hB_o0 := Blk.below hB_o0 hq; have hB_o2 := Blk.below hB_o2 hq; first | exact hB_o0.at rfl | exact hB_o2.at rfl | exact hB_o0.cell 0 | exact hB_o2.cell 0 | assumption)) rfl <| Wy.on' rfl rfl g_76_ <| Wy.y (y_fieldAddr (fa96_1ValRt _) rfl) rfl <| Wy.on' rfl rfl g_76_ <| Wy.l (fun wq hq => l_load one2ValRt rfl (by have hB_o0 := Blk.below hB_o0 hq; have hB_o2 := Blk.below hB_o2 hq; first | exact hB_o0.at rfl | exact hB_o2.at rfl | exact hB_o0.cell 0 | exact hB_o2.cell 0 | assumption)) rfl <| Wy.on' rfl rfl g_76_ <| Wy.y (y_eqli rfl rfl) rfl <| Wy.y (y_pickT rfl g_76_ rfl) rfl <| Wy.y (y_move rfl) rfl <| Wy.guardT rfl rfl rfl (fun g_84 => ?_) (fun g_84 => ?_)
    ·
     have g_84_ := g_84
     simp only [DZ] at g_84
     refine Wy.y (y_fieldAddr (fa96_3ValRt _) rfl) rfl <| Wy.on' rfl rfl g_84_ <| Wy.l (fun wq hq => l_load one9ValRt rfl (by have hB_o0 := Blk.below hB_o0 hq; have hB_o2 := Blk.below hB_o2 hq; first | exact hB_o0.at rfl | exact hB_o2.at rfl | exact hB_o0.cell 0 | exact hB_o2.cell 0 | assumption)) rfl <| Wy.on' rfl rfl g_84_ <| Wy.y (y_fieldAddr (fa96_3ValRt _) rfl) rfl <| Wy.on' rfl rfl g_84_ <| Wy.l (fun wq hq => l_load one9ValRt rfl (by have hB_o0 := Blk.below hB_o0 hq; have hB_o2 := Blk.below hB_o2 hq; first | exact hB_o0.at rfl | exact hB_o2.at rfl | exact hB_o0.cell 0 | exact hB_o2.cell 0 | assumption)) rfl <| Wy.on' rfl rfl g_84_ <| Wy.y (y_eqls rfl rfl) rfl <| Wy.y (y_pickT rfl g_84_ rfl) rfl <| Wy.y (y_move rfl) rfl <| Wy.guardT rfl rfl rfl (fun g_92 => ?_) (fun g_92 => ?_)
     ·
      have g_92_ := g_92
      simp only [DZ] at g_92
      refine Wy.y (y_fieldAddr (fa96_2ValRt _) rfl) rfl <| Wy.on' rfl rfl g_92_ <| Wy.l (fun wq hq => l_load one94ValRt rfl (by have hB_o0 := Blk.below hB_o0 hq; have hB_o2 := Blk.below hB_o2 hq; first | exact hB_o0.at rfl | exact hB_o2.at rfl | exact hB_o0.cell 0 | exact hB_o2.cell 0 | assumption)) rfl <| Wy.on' rfl rfl g_92_ <| Wy.y (y_f2b exn91ValRt rfl rfl) rfl <| Wy.on' rfl rfl g_92_ <| Wy.y (y_fieldAddr (fa96_2ValRt _) rfl) rfl <| Wy.on' rfl rfl g_92_ <| Wy.l (fun wq hq => l_load one94ValRt rfl (by have hB_o0 := Blk.below hB_o0 hq; have hB_o2 := Blk.below hB_o2 hq; first | exact hB_o0.at rfl | exact hB_o2.at rfl | exact hB_o0.cell 0 | exact hB_o2.cell 0 | assumption)) rfl <| Wy.on' rfl rfl g_92_ <| Wy.y (y_f2b exn91ValRt rfl rfl) rfl <| Wy.on' rfl rfl g_92_ <| Wy.y (y_eqli rfl rfl) rfl <| Wy.y (y_pickT rfl g_92_ rfl) rfl <| Wy.y (y_assign rfl) rfl <| Wy.nil fun w_g14 hs_g14 => ?_
      have hz_g14 := hs_g14.size
      have hb := hb.trans (hs_g14.mono hb.size)
      refine Wq.next hK_69 <| Wc.ret <| ret1 rfl rfl ?_
      exact ⟨_, rfl, bool_eq (by rw [right1 c1_64]; first | exact absurd c1_64 g_76 | (exfalso; have h := g_92_; simp at h; done) | (exfalso; have h := g_84_; simp at h; done) | (have h33 := g_84; rw [tr2] at h33; have h38 := g_92; simp [truthV] at h38; simp [h33, h38, beqN, beq0, truthV]; done) | (have h33 := g_84; rw [tr2] at h33; simp [h33, beqN, beq0, truthV]; done)), hb⟩
     have g_92_ := g_92
     simp only [DZ] at g_92
     refine Wy.off' rfl rfl g_92_ rfl rfl <| Wy.off' rfl rfl g_92_ rfl rfl <| Wy.off' rfl rfl g_92_ rfl rfl <| Wy.off' rfl rfl g_92_ rfl rfl <| Wy.off' rfl rfl g_92_ rfl rfl <| Wy.off' rfl rfl g_92_ rfl rfl <| Wy.y (y_pickF rfl g_92_ rfl) rfl <| Wy.y (y_assign rfl) rfl <| Wy.nil fun w_g14 hs_g14 => ?_
     have hz_g14 := hs_g14.size
     have hb := hb.trans (hs_g14.mono hb.size)
     refine Wq.next hK_69 <| Wc.ret <| ret1 rfl rfl ?_
     exact ⟨_, rfl, bool_eq (by rw [right1 c1_64]; first | exact absurd c1_64 g_76 | (exfalso; have h := g_92_; simp at h; done) | (exfalso; have h := g_84_; simp at h; done) | (have h33 := g_84; rw [tr2] at h33; have h38 := g_92; simp [truthV] at h38; simp [h33, h38, beqN, beq0, truthV]; done) | (have h33 := g_84; rw [tr2] at h33; simp [h33, beqN, beq0, truthV]; done)), hb⟩
    have g_84_ := g_84
    simp only [DZ] at g_84
    refine Wy.off' rfl rfl g_84_ rfl rfl <| Wy.off' rfl rfl g_84_ rfl rfl <| Wy.off' rfl rfl g_84_ rfl rfl <| Wy.off' rfl rfl g_84_ rfl rfl <| Wy.y (y_pickF rfl g_84_ rfl) rfl <| Wy.y (y_move rfl) rfl <| Wy.off' rfl rfl rfl rfl rfl <| Wy.off' rfl rfl rfl rfl rfl <| Wy.off' rfl rfl rfl rfl rfl <| Wy.off' rfl rfl rfl rfl rfl <| Wy.off' rfl rfl rfl rfl rfl <| Wy.off' rfl rfl rfl rfl rfl <| Wy.off' rfl rfl rfl rfl rfl <| Wy.y (y_pickF rfl rfl rfl) rfl <| Wy.y (y_assign rfl) rfl <| Wy.nil fun w_g14 hs_g14 => ?_
    have hz_g14 := hs_g14.size
    have hb := hb.trans (hs_g14.mono hb.size)
    refine Wq.next hK_69 <| Wc.ret <| ret1 rfl rfl ?_
    exact ⟨_, rfl, bool_eq (by rw [right1 c1_64]; first | exact absurd c1_64 g_76 | (exfalso; have h := MISSING_o38_; simp at h; done) | (exfalso; have h := g_84_; simp at h; done) | (have h33 := g_84; rw [tr2] at h33; have h38 := MISSING_o38; simp [truthV] at h38; simp [h33, h38, beqN, beq0, truthV]; done) | (have h33 := g_84; rw [tr2] at h33; simp [h33, beqN, beq0, truthV]; done)), hb⟩
   have g_76_ := g_76
   simp only [DZ] at g_76
   refine Wy.off' rfl rfl g_76_ rfl rfl <| Wy.off' rfl rfl g_76_ rfl rfl <| Wy.off' rfl rfl g_76_ rfl rfl <| Wy.off' rfl rfl g_76_ rfl rfl <| Wy.y (y_pickF rfl g_76_ rfl) rfl <| Wy.y (y_move rfl) rfl <| Wy.off' rfl rfl rfl rfl rfl <| Wy.off' rfl rfl rfl rfl rfl <| Wy.off' rfl rfl rfl rfl rfl <| Wy.off' rfl rfl rfl rfl rfl <| Wy.off' rfl rfl rfl rfl rfl <| Wy.y (y_pickF rfl rfl rfl) rfl <| Wy.y (y_move rfl) rfl <| Wy.off' rfl rfl rfl rfl rfl <| Wy.off' rfl rfl rfl rfl rfl <| Wy.off' rfl rfl rfl rfl rfl <| Wy.off' rfl rfl rfl rfl rfl <| Wy.off' rfl rfl rfl rfl rfl <| Wy.off' rfl rfl rfl rfl rfl <| Wy.off' rfl rfl rfl rfl rfl <| Wy.y (y_pickF rfl rfl rfl) rfl <| Wy.y (y_assign rfl) rfl <| Wy.nil fun w_g14 hs_g14 => ?_
   have hz_g14 := hs_g14.size
   have hb := hb.trans (hs_g14.mono hb.size)
   refine Wq.next hK_69 <| Wc.ret <| ret1 rfl rfl ?_
   exact ⟨_, rfl, bool_eq (by rw [right1 c1_64]; first | exact absurd c1_64 g_76 | (exfalso; have h := MISSING_o38_; simp at h; done) | (exfalso; have h := MISSING_o33_; simp at h; done) | (have h33 := MISSING_o33; rw [tr2] at h33; have h38 := MISSING_o38; simp [truthV] at h38; simp [h33, h38, beqN, beq0, truthV]; done) | (have h33 := MISSING_o33; rw [tr2] at h33; simp [h33, beqN, beq0, truthV]; done)), hb⟩
  simp only [DZ] at c1_64
  refine Wc.seq fun _ hK_114 => Wc.region <| Wl.y (y_eqli rfl rfl) rfl <| Wl.sg rfl rfl <| Wl.nil <| Wq.next hK_114 <| Wc.cond rfl (fun c2_117 => ?_) (fun c2_117 => ?_)
  ·
   simp only [DZ] at c2_117
   refine Wc.region <| Wl.y (y_fieldAddr (fa96_1ValRt _) rfl) rfl <| Wl.l (l_load one2ValRt rfl (by exact hB_o0.at rfl)) rfl ?_
   refine Wl.y (y_buildS (z := [(.int .i64 0), (.int .i64 0), (.float .f64 0), (str [])]) (pl := [(0, 1), (1, 1), (2, 1), (3, 1)]) (cs := [_, _, _, _]) Tryz.underlying96 (by kernel_rfl) (by kernel_rfl) rfl rfl rfl) rfl <| Wl.storeS (by kernel_rfl) rfl rfl hB_o2 rfl rfl ?_
   rintro w_s3 hn_s3 hg_s3
   have hz_s3 := hg_s3.size
   have hb := below_blk hb hg_s3 hb.size (by omega)
   have hB_o0 := hB_o0.over hg_s3 (by omega)
   have hB_o2 := hn_s3
   refine Wl.nil <| Wq.block_normal <| Wq.next hK_7 <| Wc.seq fun _ hK_121 => Wc.quiet (by kernel_rfl) (by kernel_rfl) <| Wy.y (y_fieldAddr (fa96_0ValRt _) rfl) rfl <| Wy.l (fun wq hq => l_load one3ValRt rfl (by have hB_o0 := Blk.below hB_o0 hq; have hB_o2 := Blk.below hB_o2 hq; first | exact hB_o0.at rfl | exact hB_o2.at rfl | exact hB_o0.cell 0 | exact hB_o2.cell 0 | assumption)) rfl <| Wy.y (y_fieldAddr (fa96_0ValRt _) rfl) rfl <| Wy.l (fun wq hq => l_load one3ValRt rfl (by have hB_o0 := Blk.below hB_o0 hq; have hB_o2 := Blk.below hB_o2 hq; first | exact hB_o0.at rfl | exact hB_o2.at rfl | exact hB_o0.cell 0 | exact hB_o2.cell 0 | assumption)) rfl <| Wy.y (y_eqli rfl rfl) rfl <| Wy.y (y_move rfl) rfl <| Wy.guardT rfl rfl rfl (fun g_128 => ?_) (fun g_128 => ?_)
   ·
    have g_128_ := g_128
    simp only [DZ] at g_128
    refine Wy.y (y_fieldAddr (fa96_1ValRt _) rfl) rfl <| Wy.on' rfl rfl g_128_ <| Wy.l (fun wq hq => l_load one2ValRt rfl (by have hB_o0 := Blk.below hB_o0 hq; have hB_o2 := Blk.below hB_o2 hq; first | exact hB_o0.at rfl | exact hB_o2.at rfl | exact hB_o0.cell 0 | exact hB_o2.cell 0 | assumption)) rfl <| Wy.on' rfl rfl g_128_ <| Wy.y (y_fieldAddr (fa96_1ValRt _) rfl) rfl <| Wy.on' rfl rfl g_128_ <| Wy.l (fun wq hq => l_load one2ValRt rfl (by have hB_o0 := Blk.below hB_o0 hq; have hB_o2 := Blk.below hB_o2 hq; first | exact hB_o0.at rfl | exact hB_o2.at rfl | exact hB_o0.cell 0 | exact hB_o2.cell 0 | assumption)) rfl <| Wy.on' rfl rfl g_128_ <| Wy.y (y_eqli rfl rfl) rfl <| Wy.y (y_pickT rfl g_128_ rfl) rfl <| Wy.y (y_move rfl) rfl <| Wy.guardT rfl rfl rfl (fun g_136 => ?_) (fun g_136 => ?_)
    ·
     have g_136_ := g_136
     simp only [DZ] at g_136
     refine Wy.y (y_fieldAddr (fa96_3ValRt _) rfl) rfl <| Wy.on' rfl rfl g_136_ <| Wy.l (fun wq hq => l_load one9ValRt rfl (by have hB_o0 := Blk.below hB_o0 hq; have hB_o2 := Blk.below hB_o2 hq; first | exact hB_o0.at rfl | exact hB_o2.at rfl | exact hB_o0.cell 0 | exact hB_o2.cell 0 | assumption)) rfl <| Wy.on' rfl rfl g_136_ <| Wy.y (y_fieldAddr (fa96_3ValRt _) rfl) rfl <| Wy.on' rfl rfl g_136_ <| Wy.l (fun wq hq => l_load one9ValRt rfl (by have hB_o0 := Blk.below hB_o0 hq; have hB_o2 := Blk.below hB_o2 hq; first | exact hB_o0.at rfl | exact hB_o2.at rfl | exact hB_o0.cell 0 | exact hB_o2.cell 0 | assumption)) rfl <| Wy.on' rfl rfl g_136_ <| Wy.y (y_eqls rfl rfl) rfl <| Wy.y (y_pickT rfl g_136_ rfl) rfl <| Wy.y (y_move rfl) rfl <| Wy.guardT rfl rfl rfl (fun g_144 => ?_) (fun g_144 => ?_)
     ·
      have g_144_ := g_144
      simp only [DZ] at g_144
      refine Wy.y (y_fieldAddr (fa96_2ValRt _) rfl) rfl <| Wy.on' rfl rfl g_144_ <| Wy.l (fun wq hq => l_load one94ValRt rfl (by have hB_o0 := Blk.below hB_o0 hq; have hB_o2 := Blk.below hB_o2 hq; first | exact hB_o0.at rfl | exact hB_o2.at rfl | exact hB_o0.cell 0 | exact hB_o2.cell 0 | assumption)) rfl <| Wy.on' rfl rfl g_144_ <| Wy.y (y_f2b exn91ValRt rfl rfl) rfl <| Wy.on' rfl rfl g_144_ <| Wy.y (y_fieldAddr (fa96_2ValRt _) rfl) rfl <| Wy.on' rfl rfl g_144_ <| Wy.l (fun wq hq => l_load one94ValRt rfl (by have hB_o0 := Blk.below hB_o0 hq; have hB_o2 := Blk.below hB_o2 hq; first | exact hB_o0.at rfl | exact hB_o2.at rfl | exact hB_o0.cell 0 | exact hB_o2.cell 0 | assumption)) rfl <| Wy.on' rfl rfl g_144_ <| Wy.y (y_f2b exn91ValRt rfl rfl) rfl <| Wy.on' rfl rfl g_144_ <| Wy.y (y_eqli rfl rfl) rfl <| Wy.y (y_pickT rfl g_144_ rfl) rfl <| Wy.y (y_assign rfl) rfl <| Wy.nil fun w_g14 hs_g14 => ?_
      have hz_g14 := hs_g14.size
      have hb := hb.trans (hs_g14.mono hb.size)
      refine Wq.next hK_121 <| Wc.ret <| ret1 rfl rfl ?_
      exact ⟨_, rfl, bool_eq (by rw [right2 c2_117]; first | exact absurd c2_117 g_128 | (exfalso; have h := g_144_; simp at h; done) | (exfalso; have h := g_136_; simp at h; done) | (simp [g_136, g_144, beq0, beqC]; done) | (simp [g_136, beq0, beqC]; done) | (simp [g_144, beq0, beqC]; done)), hb⟩
     have g_144_ := g_144
     simp only [DZ] at g_144
     refine Wy.off' rfl rfl g_144_ rfl rfl <| Wy.off' rfl rfl g_144_ rfl rfl <| Wy.off' rfl rfl g_144_ rfl rfl <| Wy.off' rfl rfl g_144_ rfl rfl <| Wy.off' rfl rfl g_144_ rfl rfl <| Wy.off' rfl rfl g_144_ rfl rfl <| Wy.y (y_pickF rfl g_144_ rfl) rfl <| Wy.y (y_assign rfl) rfl <| Wy.nil fun w_g14 hs_g14 => ?_
     have hz_g14 := hs_g14.size
     have hb := hb.trans (hs_g14.mono hb.size)
     refine Wq.next hK_121 <| Wc.ret <| ret1 rfl rfl ?_
     exact ⟨_, rfl, bool_eq (by rw [right2 c2_117]; first | exact absurd c2_117 g_128 | (exfalso; have h := g_144_; simp at h; done) | (exfalso; have h := g_136_; simp at h; done) | (simp [g_136, g_144, beq0, beqC]; done) | (simp [g_136, beq0, beqC]; done) | (simp [g_144, beq0, beqC]; done)), hb⟩
    have g_136_ := g_136
    simp only [DZ] at g_136
    refine Wy.off' rfl rfl g_136_ rfl rfl <| Wy.off' rfl rfl g_136_ rfl rfl <| Wy.off' rfl rfl g_136_ rfl rfl <| Wy.off' rfl rfl g_136_ rfl rfl <| Wy.y (y_pickF rfl g_136_ rfl) rfl <| Wy.y (y_move rfl) rfl <| Wy.off' rfl rfl rfl rfl rfl <| Wy.off' rfl rfl rfl rfl rfl <| Wy.off' rfl rfl rfl rfl rfl <| Wy.off' rfl rfl rfl rfl rfl <| Wy.off' rfl rfl rfl rfl rfl <| Wy.off' rfl rfl rfl rfl rfl <| Wy.off' rfl rfl rfl rfl rfl <| Wy.y (y_pickF rfl rfl rfl) rfl <| Wy.y (y_assign rfl) rfl <| Wy.nil fun w_g14 hs_g14 => ?_
    have hz_g14 := hs_g14.size
    have hb := hb.trans (hs_g14.mono hb.size)
    refine Wq.next hK_121 <| Wc.ret <| ret1 rfl rfl ?_
    exact ⟨_, rfl, bool_eq (by rw [right2 c2_117]; first | exact absurd c2_117 g_128 | (exfalso; have h := MISSING_o38_; simp at h; done) | (exfalso; have h := g_136_; simp at h; done) | (simp [g_136, MISSING_o38, beq0, beqC]; done) | (simp [g_136, beq0, beqC]; done) | (simp [MISSING_o38, beq0, beqC]; done)), hb⟩
   have g_128_ := g_128
   simp only [DZ] at g_128
   refine Wy.off' rfl rfl g_128_ rfl rfl <| Wy.off' rfl rfl g_128_ rfl rfl <| Wy.off' rfl rfl g_128_ rfl rfl <| Wy.off' rfl rfl g_128_ rfl rfl <| Wy.y (y_pickF rfl g_128_ rfl) rfl <| Wy.y (y_move rfl) rfl <| Wy.off' rfl rfl rfl rfl rfl <| Wy.off' rfl rfl rfl rfl rfl <| Wy.off' rfl rfl rfl rfl rfl <| Wy.off' rfl rfl rfl rfl rfl <| Wy.off' rfl rfl rfl rfl rfl <| Wy.y (y_pickF rfl rfl rfl) rfl <| Wy.y (y_move rfl) rfl <| Wy.off' rfl rfl rfl rfl rfl <| Wy.off' rfl rfl rfl rfl rfl <| Wy.off' rfl rfl rfl rfl rfl <| Wy.off' rfl rfl rfl rfl rfl <| Wy.off' rfl rfl rfl rfl rfl <| Wy.off' rfl rfl rfl rfl rfl <| Wy.off' rfl rfl rfl rfl rfl <| Wy.y (y_pickF rfl rfl rfl) rfl <| Wy.y (y_assign rfl) rfl <| Wy.nil fun w_g14 hs_g14 => ?_
   have hz_g14 := hs_g14.size
   have hb := hb.trans (hs_g14.mono hb.size)
   refine Wq.next hK_121 <| Wc.ret <| ret1 rfl rfl ?_
   exact ⟨_, rfl, bool_eq (by rw [right2 c2_117]; first | exact absurd c2_117 g_128 | (exfalso; have h := MISSING_o38_; simp at h; done) | (exfalso; have h := MISSING_o33_; simp at h; done) | (simp [MISSING_o33, MISSING_o38, beq0, beqC]; done) | (simp [MISSING_o33, beq0, beqC]; done) | (simp [MISSING_o38, beq0, beqC]; done)), hb⟩
  simp only [DZ] at c2_117
  refine Wc.seq fun _ hK_166 => Wc.region <| Wl.y (y_eqli rfl rfl) rfl <| Wl.sg rfl rfl <| Wl.nil <| Wq.next hK_166 <| Wc.cond rfl (fun c3_169 => ?_) (fun c3_169 => ?_)
  ·
   simp only [DZ] at c3_169
   refine Wc.region <| Wl.y (y_fieldAddr (fa96_2ValRt _) rfl) rfl <| Wl.l (l_load one94ValRt rfl (by exact hB_o0.at rfl)) rfl <| Wl.call txt90ValRt rfl rfl (Canon_r _ _) rfl ?_
   rintro _ w_ ⟨rfl, hw_⟩
   have hw_ := hw_.symm; subst hw_
   refine Wl.y (y_buildS (z := [(.int .i64 0), (.int .i64 0), (.float .f64 0), (str [])]) (pl := [(0, 1), (1, 1), (2, 1), (3, 1)]) (cs := [_, _, _, _]) Tryz.underlying96 (by kernel_rfl) (by kernel_rfl) rfl rfl rfl) rfl <| Wl.storeS (by kernel_rfl) rfl rfl hB_o2 rfl rfl ?_
   rintro w_s4 hn_s4 hg_s4
   have hz_s4 := hg_s4.size
   have hb := below_blk hb hg_s4 hb.size (by omega)
   have hB_o0 := hB_o0.over hg_s4 (by omega)
   have hB_o2 := hn_s4
   refine Wl.nil <| Wq.block_normal <| Wq.next hK_7 <| Wc.seq fun _ hK_174 => Wc.quiet (by kernel_rfl) (by kernel_rfl) <| Wy.y (y_fieldAddr (fa96_0ValRt _) rfl) rfl <| Wy.l (fun wq hq => l_load one3ValRt rfl (by have hB_o0 := Blk.below hB_o0 hq; have hB_o2 := Blk.below hB_o2 hq; first | exact hB_o0.at rfl | exact hB_o2.at rfl | exact hB_o0.cell 0 | exact hB_o2.cell 0 | assumption)) rfl <| Wy.y (y_fieldAddr (fa96_0ValRt _) rfl) rfl <| Wy.l (fun wq hq => l_load one3ValRt rfl (by have hB_o0 := Blk.below hB_o0 hq; have hB_o2 := Blk.below hB_o2 hq; first | exact hB_o0.at rfl | exact hB_o2.at rfl | exact hB_o0.cell 0 | exact hB_o2.cell 0 | assumption)) rfl <| Wy.y (y_eqli rfl rfl) rfl <| Wy.y (y_move rfl) rfl <| Wy.guardT rfl rfl rfl (fun g_181 => ?_) (fun g_181 => ?_)
   ·
    have g_181_ := g_181
    simp only [DZ] at g_181
    refine Wy.y (y_fieldAddr (fa96_1ValRt _) rfl) rfl <| Wy.on' rfl rfl g_181_ <| Wy.l (fun wq hq => l_load one2ValRt rfl (by have hB_o0 := Blk.below hB_o0 hq; have hB_o2 := Blk.below hB_o2 hq; first | exact hB_o0.at rfl | exact hB_o2.at rfl | exact hB_o0.cell 0 | exact hB_o2.cell 0 | assumption)) rfl <| Wy.on' rfl rfl g_181_ <| Wy.y (y_fieldAddr (fa96_1ValRt _) rfl) rfl <| Wy.on' rfl rfl g_181_ <| Wy.l (fun wq hq => l_load one2ValRt rfl (by have hB_o0 := Blk.below hB_o0 hq; have hB_o2 := Blk.below hB_o2 hq; first | exact hB_o0.at rfl | exact hB_o2.at rfl | exact hB_o0.cell 0 | exact hB_o2.cell 0 | assumption)) rfl <| Wy.on' rfl rfl g_181_ <| Wy.y (y_eqli rfl rfl) rfl <| Wy.y (y_pickT rfl g_181_ rfl) rfl <| Wy.y (y_move rfl) rfl <| Wy.guardT rfl rfl rfl (fun g_189 => ?_) (fun g_189 => ?_)
    ·
     have g_189_ := g_189
     simp only [DZ] at g_189
     refine Wy.y (y_fieldAddr (fa96_3ValRt _) rfl) rfl <| Wy.on' rfl rfl g_189_ <| Wy.l (fun wq hq => l_load one9ValRt rfl (by have hB_o0 := Blk.below hB_o0 hq; have hB_o2 := Blk.below hB_o2 hq; first | exact hB_o0.at rfl | exact hB_o2.at rfl | exact hB_o0.cell 0 | exact hB_o2.cell 0 | assumption)) rfl <| Wy.on' rfl rfl g_189_ <| Wy.y (y_fieldAddr (fa96_3ValRt _) rfl) rfl <| Wy.on' rfl rfl g_189_ <| Wy.l (fun wq hq => l_load one9ValRt rfl (by have hB_o0 := Blk.below hB_o0 hq; have hB_o2 := Blk.below hB_o2 hq; first | exact hB_o0.at rfl | exact hB_o2.at rfl | exact hB_o0.cell 0 | exact hB_o2.cell 0 | assumption)) rfl <| Wy.on' rfl rfl g_189_ <| Wy.y (y_eqls rfl rfl) rfl <| Wy.y (y_pickT rfl g_189_ rfl) rfl <| Wy.y (y_move rfl) rfl <| Wy.guardT rfl rfl rfl (fun g_197 => ?_) (fun g_197 => ?_)
     ·
      have g_197_ := g_197
      simp only [DZ] at g_197
      refine Wy.y (y_fieldAddr (fa96_2ValRt _) rfl) rfl <| Wy.on' rfl rfl g_197_ <| Wy.l (fun wq hq => l_load one94ValRt rfl (by have hB_o0 := Blk.below hB_o0 hq; have hB_o2 := Blk.below hB_o2 hq; first | exact hB_o0.at rfl | exact hB_o2.at rfl | exact hB_o0.cell 0 | exact hB_o2.cell 0 | assumption)) rfl <| Wy.on' rfl rfl g_197_ <| Wy.y (y_f2b exn91ValRt rfl rfl) rfl <| Wy.on' rfl rfl g_197_ <| Wy.y (y_fieldAddr (fa96_2ValRt _) rfl) rfl <| Wy.on' rfl rfl g_197_ <| Wy.l (fun wq hq => l_load one94ValRt rfl (by have hB_o0 := Blk.below hB_o0 hq; have hB_o2 := Blk.below hB_o2 hq; first | exact hB_o0.at rfl | exact hB_o2.at rfl | exact hB_o0.cell 0 | exact hB_o2.cell 0 | assumption)) rfl <| Wy.on' rfl rfl g_197_ <| Wy.y (y_f2b exn91ValRt rfl rfl) rfl <| Wy.on' rfl rfl g_197_ <| Wy.y (y_eqli rfl rfl) rfl <| Wy.y (y_pickT rfl g_197_ rfl) rfl <| Wy.y (y_assign rfl) rfl <| Wy.nil fun w_g14 hs_g14 => ?_
      have hz_g14 := hs_g14.size
      have hb := hb.trans (hs_g14.mono hb.size)
      refine Wq.next hK_174 <| Wc.ret <| ret1 rfl rfl ?_
      exact ⟨_, rfl, bool_eq (by rw [right3 c3_169]; first | exact absurd c3_169 g_181 | (exfalso; have h := g_197_; simp at h; done) | (exfalso; have h := g_189_; simp at h; done) | (simp [g_189, g_197, beq0, beqC]; done) | (simp [g_189, beq0, beqC]; done) | (simp [g_197, beq0, beqC]; done)), hb⟩
     have g_197_ := g_197
     simp only [DZ] at g_197
     refine Wy.off' rfl rfl g_197_ rfl rfl <| Wy.off' rfl rfl g_197_ rfl rfl <| Wy.off' rfl rfl g_197_ rfl rfl <| Wy.off' rfl rfl g_197_ rfl rfl <| Wy.off' rfl rfl g_197_ rfl rfl <| Wy.off' rfl rfl g_197_ rfl rfl <| Wy.y (y_pickF rfl g_197_ rfl) rfl <| Wy.y (y_assign rfl) rfl <| Wy.nil fun w_g14 hs_g14 => ?_
     have hz_g14 := hs_g14.size
     have hb := hb.trans (hs_g14.mono hb.size)
     refine Wq.next hK_174 <| Wc.ret <| ret1 rfl rfl ?_
     exact ⟨_, rfl, bool_eq (by rw [right3 c3_169]; first | exact absurd c3_169 g_181 | (exfalso; have h := g_197_; simp at h; done) | (exfalso; have h := g_189_; simp at h; done) | (simp [g_189, g_197, beq0, beqC]; done) | (simp [g_189, beq0, beqC]; done) | (simp [g_197, beq0, beqC]; done)), hb⟩
    have g_189_ := g_189
    simp only [DZ] at g_189
    refine Wy.off' rfl rfl g_189_ rfl rfl <| Wy.off' rfl rfl g_189_ rfl rfl <| Wy.off' rfl rfl g_189_ rfl rfl <| Wy.off' rfl rfl g_189_ rfl rfl <| Wy.y (y_pickF rfl g_189_ rfl) rfl <| Wy.y (y_move rfl) rfl <| Wy.off' rfl rfl rfl rfl rfl <| Wy.off' rfl rfl rfl rfl rfl <| Wy.off' rfl rfl rfl rfl rfl <| Wy.off' rfl rfl rfl rfl rfl <| Wy.off' rfl rfl rfl rfl rfl <| Wy.off' rfl rfl rfl rfl rfl <| Wy.off' rfl rfl rfl rfl rfl <| Wy.y (y_pickF rfl rfl rfl) rfl <| Wy.y (y_assign rfl) rfl <| Wy.nil fun w_g14 hs_g14 => ?_
    have hz_g14 := hs_g14.size
    have hb := hb.trans (hs_g14.mono hb.size)
    refine Wq.next hK_174 <| Wc.ret <| ret1 rfl rfl ?_
    exact ⟨_, rfl, bool_eq (by rw [right3 c3_169]; first | exact absurd c3_169 g_181 | (exfalso; have h := MISSING_o38_; simp at h; done) | (exfalso; have h := g_189_; simp at h; done) | (simp [g_189, MISSING_o38, beq0, beqC]; done) | (simp [g_189, beq0, beqC]; done) | (simp [MISSING_o38, beq0, beqC]; done)), hb⟩
   have g_181_ := g_181
   simp only [DZ] at g_181
   refine Wy.off' rfl rfl g_181_ rfl rfl <| Wy.off' rfl rfl g_181_ rfl rfl <| Wy.off' rfl rfl g_181_ rfl rfl <| Wy.off' rfl rfl g_181_ rfl rfl <| Wy.y (y_pickF rfl g_181_ rfl) rfl <| Wy.y (y_move rfl) rfl <| Wy.off' rfl rfl rfl rfl rfl <| Wy.off' rfl rfl rfl rfl rfl <| Wy.off' rfl rfl rfl rfl rfl <| Wy.off' rfl rfl rfl rfl rfl <| Wy.off' rfl rfl rfl rfl rfl <| Wy.y (y_pickF rfl rfl rfl) rfl <| Wy.y (y_move rfl) rfl <| Wy.off' rfl rfl rfl rfl rfl <| Wy.off' rfl rfl rfl rfl rfl <| Wy.off' rfl rfl rfl rfl rfl <| Wy.off' rfl rfl rfl rfl rfl <| Wy.off' rfl rfl rfl rfl rfl <| Wy.off' rfl rfl rfl rfl rfl <| Wy.off' rfl rfl rfl rfl rfl <| Wy.y (y_pickF rfl rfl rfl) rfl <| Wy.y (y_assign rfl) rfl <| Wy.nil fun w_g14 hs_g14 => ?_
   have hz_g14 := hs_g14.size
   have hb := hb.trans (hs_g14.mono hb.size)
   refine Wq.next hK_174 <| Wc.ret <| ret1 rfl rfl ?_
   exact ⟨_, rfl, bool_eq (by rw [right3 c3_169]; first | exact absurd c3_169 g_181 | (exfalso; have h := MISSING_o38_; simp at h; done) | (exfalso; have h := MISSING_o33_; simp at h; done) | (simp [MISSING_o33, MISSING_o38, beq0, beqC]; done) | (simp [MISSING_o33, beq0, beqC]; done) | (simp [MISSING_o38, beq0, beqC]; done)), hb⟩
  simp only [DZ] at c3_169
  refine Wc.seq fun _ hK_219 => Wc.region <| Wl.y (y_eqli rfl rfl) rfl <| Wl.sg rfl rfl <| Wl.nil <| Wq.next hK_219 <| Wc.cond rfl (fun c4_222 => ?_) (fun c4_222 => ?_)
  ·
   simp only [DZ] at c4_222
   refine Wc.region <| Wl.y (y_fieldAddr (fa96_3ValRt _) rfl) rfl <| Wl.l (l_load one9ValRt rfl (by exact hB_o0.at rfl)) rfl ?_
   refine Wl.y (y_buildS (z := [(.int .i64 0), (.int .i64 0), (.float .f64 0), (str [])]) (pl := [(0, 1), (1, 1), (2, 1), (3, 1)]) (cs := [_, _, _, _]) Tryz.underlying96 (by kernel_rfl) (by kernel_rfl) rfl rfl rfl) rfl <| Wl.storeS (by kernel_rfl) rfl rfl hB_o2 rfl rfl ?_
   rintro w_s5 hn_s5 hg_s5
   have hz_s5 := hg_s5.size
   have hb := below_blk hb hg_s5 hb.size (by omega)
   have hB_o0 := hB_o0.over hg_s5 (by omega)
   have hB_o2 := hn_s5
   refine Wl.nil <| Wq.block_normal <| Wq.next hK_7 <| Wc.seq fun _ hK_226 => Wc.quiet (by kernel_rfl) (by kernel_rfl) <| Wy.y (y_fieldAddr (fa96_0ValRt _) rfl) rfl <| Wy.l (fun wq hq => l_load one3ValRt rfl (by have hB_o0 := Blk.below hB_o0 hq; have hB_o2 := Blk.below hB_o2 hq; first | exact hB_o0.at rfl | exact hB_o2.at rfl | exact hB_o0.cell 0 | exact hB_o2.cell 0 | assumption)) rfl <| Wy.y (y_fieldAddr (fa96_0ValRt _) rfl) rfl <| Wy.l (fun wq hq => l_load one3ValRt rfl (by have hB_o0 := Blk.below hB_o0 hq; have hB_o2 := Blk.below hB_o2 hq; first | exact hB_o0.at rfl | exact hB_o2.at rfl | exact hB_o0.cell 0 | exact hB_o2.cell 0 | assumption)) rfl <| Wy.y (y_eqli rfl rfl) rfl <| Wy.y (y_move rfl) rfl <| Wy.guardT rfl rfl rfl (fun g_233 => ?_) (fun g_233 => ?_)
   ·
    have g_233_ := g_233
    simp only [DZ] at g_233
    refine Wy.y (y_fieldAddr (fa96_1ValRt _) rfl) rfl <| Wy.on' rfl rfl g_233_ <| Wy.l (fun wq hq => l_load one2ValRt rfl (by have hB_o0 := Blk.below hB_o0 hq; have hB_o2 := Blk.below hB_o2 hq; first | exact hB_o0.at rfl | exact hB_o2.at rfl | exact hB_o0.cell 0 | exact hB_o2.cell 0 | assumption)) rfl <| Wy.on' rfl rfl g_233_ <| Wy.y (y_fieldAddr (fa96_1ValRt _) rfl) rfl <| Wy.on' rfl rfl g_233_ <| Wy.l (fun wq hq => l_load one2ValRt rfl (by have hB_o0 := Blk.below hB_o0 hq; have hB_o2 := Blk.below hB_o2 hq; first | exact hB_o0.at rfl | exact hB_o2.at rfl | exact hB_o0.cell 0 | exact hB_o2.cell 0 | assumption)) rfl <| Wy.on' rfl rfl g_233_ <| Wy.y (y_eqli rfl rfl) rfl <| Wy.y (y_pickT rfl g_233_ rfl) rfl <| Wy.y (y_move rfl) rfl <| Wy.guardT rfl rfl rfl (fun g_241 => ?_) (fun g_241 => ?_)
    ·
     have g_241_ := g_241
     simp only [DZ] at g_241
     refine Wy.y (y_fieldAddr (fa96_3ValRt _) rfl) rfl <| Wy.on' rfl rfl g_241_ <| Wy.l (fun wq hq => l_load one9ValRt rfl (by have hB_o0 := Blk.below hB_o0 hq; have hB_o2 := Blk.below hB_o2 hq; first | exact hB_o0.at rfl | exact hB_o2.at rfl | exact hB_o0.cell 0 | exact hB_o2.cell 0 | assumption)) rfl <| Wy.on' rfl rfl g_241_ <| Wy.y (y_fieldAddr (fa96_3ValRt _) rfl) rfl <| Wy.on' rfl rfl g_241_ <| Wy.l (fun wq hq => l_load one9ValRt rfl (by have hB_o0 := Blk.below hB_o0 hq; have hB_o2 := Blk.below hB_o2 hq; first | exact hB_o0.at rfl | exact hB_o2.at rfl | exact hB_o0.cell 0 | exact hB_o2.cell 0 | assumption)) rfl <| Wy.on' rfl rfl g_241_ <| Wy.y (y_eqls rfl rfl) rfl <| Wy.y (y_pickT rfl g_241_ rfl) rfl <| Wy.y (y_move rfl) rfl <| Wy.guardT rfl rfl rfl (fun g_249 => ?_) (fun g_249 => ?_)
     ·
      have g_249_ := g_249
      simp only [DZ] at g_249
      refine Wy.y (y_fieldAddr (fa96_2ValRt _) rfl) rfl <| Wy.on' rfl rfl g_249_ <| Wy.l (fun wq hq => l_load one94ValRt rfl (by have hB_o0 := Blk.below hB_o0 hq; have hB_o2 := Blk.below hB_o2 hq; first | exact hB_o0.at rfl | exact hB_o2.at rfl | exact hB_o0.cell 0 | exact hB_o2.cell 0 | assumption)) rfl <| Wy.on' rfl rfl g_249_ <| Wy.y (y_f2b exn91ValRt rfl rfl) rfl <| Wy.on' rfl rfl g_249_ <| Wy.y (y_fieldAddr (fa96_2ValRt _) rfl) rfl <| Wy.on' rfl rfl g_249_ <| Wy.l (fun wq hq => l_load one94ValRt rfl (by have hB_o0 := Blk.below hB_o0 hq; have hB_o2 := Blk.below hB_o2 hq; first | exact hB_o0.at rfl | exact hB_o2.at rfl | exact hB_o0.cell 0 | exact hB_o2.cell 0 | assumption)) rfl <| Wy.on' rfl rfl g_249_ <| Wy.y (y_f2b exn91ValRt rfl rfl) rfl <| Wy.on' rfl rfl g_249_ <| Wy.y (y_eqli rfl rfl) rfl <| Wy.y (y_pickT rfl g_249_ rfl) rfl <| Wy.y (y_assign rfl) rfl <| Wy.nil fun w_g14 hs_g14 => ?_
      have hz_g14 := hs_g14.size
      have hb := hb.trans (hs_g14.mono hb.size)
      refine Wq.next hK_226 <| Wc.ret <| ret1 rfl rfl ?_
      exact ⟨_, rfl, bool_eq (by rw [right4 c4_222]; first | exact absurd c4_222 g_233 | (exfalso; have h := g_249_; simp at h; done) | (exfalso; have h := g_241_; simp at h; done) | (simp [g_241, g_249, beq0, beqC]; done) | (simp [g_241, beq0, beqC]; done) | (simp [g_249, beq0, beqC]; done)), hb⟩
     have g_249_ := g_249
     simp only [DZ] at g_249
     refine Wy.off' rfl rfl g_249_ rfl rfl <| Wy.off' rfl rfl g_249_ rfl rfl <| Wy.off' rfl rfl g_249_ rfl rfl <| Wy.off' rfl rfl g_249_ rfl rfl <| Wy.off' rfl rfl g_249_ rfl rfl <| Wy.off' rfl rfl g_249_ rfl rfl <| Wy.y (y_pickF rfl g_249_ rfl) rfl <| Wy.y (y_assign rfl) rfl <| Wy.nil fun w_g14 hs_g14 => ?_
     have hz_g14 := hs_g14.size
     have hb := hb.trans (hs_g14.mono hb.size)
     refine Wq.next hK_226 <| Wc.ret <| ret1 rfl rfl ?_
     exact ⟨_, rfl, bool_eq (by rw [right4 c4_222]; first | exact absurd c4_222 g_233 | (exfalso; have h := g_249_; simp at h; done) | (exfalso; have h := g_241_; simp at h; done) | (simp [g_241, g_249, beq0, beqC]; done) | (simp [g_241, beq0, beqC]; done) | (simp [g_249, beq0, beqC]; done)), hb⟩
    have g_241_ := g_241
    simp only [DZ] at g_241
    refine Wy.off' rfl rfl g_241_ rfl rfl <| Wy.off' rfl rfl g_241_ rfl rfl <| Wy.off' rfl rfl g_241_ rfl rfl <| Wy.off' rfl rfl g_241_ rfl rfl <| Wy.y (y_pickF rfl g_241_ rfl) rfl <| Wy.y (y_move rfl) rfl <| Wy.off' rfl rfl rfl rfl rfl <| Wy.off' rfl rfl rfl rfl rfl <| Wy.off' rfl rfl rfl rfl rfl <| Wy.off' rfl rfl rfl rfl rfl <| Wy.off' rfl rfl rfl rfl rfl <| Wy.off' rfl rfl rfl rfl rfl <| Wy.off' rfl rfl rfl rfl rfl <| Wy.y (y_pickF rfl rfl rfl) rfl <| Wy.y (y_assign rfl) rfl <| Wy.nil fun w_g14 hs_g14 => ?_
    have hz_g14 := hs_g14.size
    have hb := hb.trans (hs_g14.mono hb.size)
    refine Wq.next hK_226 <| Wc.ret <| ret1 rfl rfl ?_
    exact ⟨_, rfl, bool_eq (by rw [right4 c4_222]; first | exact absurd c4_222 g_233 | (exfalso; have h := MISSING_o38_; simp at h; done) | (exfalso; have h := g_241_; simp at h; done) | (simp [g_241, MISSING_o38, beq0, beqC]; done) | (simp [g_241, beq0, beqC]; done) | (simp [MISSING_o38, beq0, beqC]; done)), hb⟩
   have g_233_ := g_233
   simp only [DZ] at g_233
   refine Wy.off' rfl rfl g_233_ rfl rfl <| Wy.off' rfl rfl g_233_ rfl rfl <| Wy.off' rfl rfl g_233_ rfl rfl <| Wy.off' rfl rfl g_233_ rfl rfl <| Wy.y (y_pickF rfl g_233_ rfl) rfl <| Wy.y (y_move rfl) rfl <| Wy.off' rfl rfl rfl rfl rfl <| Wy.off' rfl rfl rfl rfl rfl <| Wy.off' rfl rfl rfl rfl rfl <| Wy.off' rfl rfl rfl rfl rfl <| Wy.off' rfl rfl rfl rfl rfl <| Wy.y (y_pickF rfl rfl rfl) rfl <| Wy.y (y_move rfl) rfl <| Wy.off' rfl rfl rfl rfl rfl <| Wy.off' rfl rfl rfl rfl rfl <| Wy.off' rfl rfl rfl rfl rfl <| Wy.off' rfl rfl rfl rfl rfl <| Wy.off' rfl rfl rfl rfl rfl <| Wy.off' rfl rfl rfl rfl rfl <| Wy.off' rfl rfl rfl rfl rfl <| Wy.y (y_pickF rfl rfl rfl) rfl <| Wy.y (y_assign rfl) rfl <| Wy.nil fun w_g14 hs_g14 => ?_
   have hz_g14 := hs_g14.size
   have hb := hb.trans (hs_g14.mono hb.size)
   refine Wq.next hK_226 <| Wc.ret <| ret1 rfl rfl ?_
   exact ⟨_, rfl, bool_eq (by rw [right4 c4_222]; first | exact absurd c4_222 g_233 | (exfalso; have h := MISSING_o38_; simp at h; done) | (exfalso; have h := MISSING_o33_; simp at h; done) | (simp [MISSING_o33, MISSING_o38, beq0, beqC]; done) | (simp [MISSING_o33, beq0, beqC]; done) | (simp [MISSING_o38, beq0, beqC]; done)), hb⟩
  simp only [DZ] at c4_222
  refine Wc.seq fun _ hK_271 => Wc.region <| Wl.sg rfl rfl <| Wl.nil <| Wq.next hK_271 <| Wc.ret <| Wq.block_ret (Wq.then_ret ?_)
  refine ret1 rfl rfl ?_
  exact ⟨_, rfl, bool_eq (by unfold rightV; rw [if_neg c0_14, if_neg c1_64, if_neg c2_117, if_neg c3_169, if_neg c4_222]), hb⟩
end Go.Proofs.YtjmlknjbhbfneaaGreatDoor
namespace Go.Proofs.YtjmlknjbhbfneaaGreatDoor
open Go.RowKit Go.Bw Go.Bw.Fl
set_option linter.unusedVariables false
set_option linter.unusedSimpArgs false
theorem fa96_0VTxt (p : Addr) (w : World) : (Instr.fieldAt 96 (.pointer (some p)) 0).run Tryz.prog w = .ok (.pointer (some (p.add 0))) w := run_fieldAt (i := 0) (sz := 0) Tryz.underlying96 rfl (by kernel_rfl) p w
theorem fa96_1VTxt (p : Addr) (w : World) : (Instr.fieldAt 96 (.pointer (some p)) 1).run Tryz.prog w = .ok (.pointer (some (p.add 1))) w := run_fieldAt (i := 1) (sz := 0) Tryz.underlying96 rfl (by kernel_rfl) p w
theorem fa96_2VTxt (p : Addr) (w : World) : (Instr.fieldAt 96 (.pointer (some p)) 2).run Tryz.prog w = .ok (.pointer (some (p.add 2))) w := run_fieldAt (i := 2) (sz := 0) Tryz.underlying96 rfl (by kernel_rfl) p w
theorem fa96_3VTxt (p : Addr) (w : World) : (Instr.fieldAt 96 (.pointer (some p)) 3).run Tryz.prog w = .ok (.pointer (some (p.add 3))) w := run_fieldAt (i := 3) (sz := 0) Tryz.underlying96 rfl (by kernel_rfl) p w
theorem one2VTxt : One Tryz.prog 2 := ⟨_, Tryz.underlying2, rfl, by kernel_rfl⟩
theorem one3VTxt : One Tryz.prog 3 := ⟨_, Tryz.underlying3, rfl, by kernel_rfl⟩
theorem one9VTxt : One Tryz.prog 9 := ⟨_, Tryz.underlying9, rfl, by kernel_rfl⟩
theorem one94VTxt : One Tryz.prog 94 := ⟨_, Tryz.underlying94, rfl, by kernel_rfl⟩
theorem txt54VTxt : Txt Tryz.prog 54 := ⟨_, Tryz.func54, by kernel_rfl, rfl⟩   -- bridleway/value.Right
theorem txt85VTxt : Txt Tryz.prog 85 := ⟨_, Tryz.func85, by kernel_rfl, rfl⟩   -- strconv.FormatBool
theorem txt86VTxt : Txt Tryz.prog 86 := ⟨_, Tryz.func86, by kernel_rfl, rfl⟩   -- strconv.FormatInt
theorem txt87VTxt : Txt Tryz.prog 87 := ⟨_, Tryz.func87, by kernel_rfl, rfl⟩   -- bridleway/num.Text
theorem txt88VTxt : Txt Tryz.prog 88 := ⟨_, Tryz.func88, by kernel_rfl, rfl⟩   -- bridleway/value.quoted
def textV (q : List UInt8) (a : Val) : List UInt8 × Int :=
  if rightV a = false then ([], 1) else if a.k = 1 then ((if (a.n == 1) = true then [116, 114, 117, 101] else [102, 97, 108, 115, 101]), 0)
  else if a.k = 2 then (Lib.itoa a.n, 0) else if a.k = 3 then (textF a.f, 0) else if a.k = 4 then (q, 0) else ([110, 117, 108, 108], 0)
theorem VText_r (q : List UInt8) (a : Val) (oa : a.Ok) (w : World) (hL : Lt w) (hq : rightV a = true → a.k = 4 → ∀ w, Lt w → Ret Tryz.prog 88 [str a.s] w fun v w' => v = str q ∧ Below w.heap.size w w') : Ret Tryz.prog 53 [a.enc] w fun v w' => v = .tuple #[str (textV q a).1, .int .i64 (textV q a).2] ∧ Below w.heap.size w w' := by
  have hb := Below.refl w.heap.size w
  have hL_hb := hL
  refine enter Tryz.func53 rfl rfl rfl <| Wc.seq fun _ hK_1 => Wc.region <| Wl.boxN rfl rfl ?_
  rintro g_o0 w_o0 hg_o0 hn_o0 hs_o0
  have hz_o0 := hs_o0.size
  have hb := hb.trans (hs_o0.mono hb.size)
  have hL := hL_hb.below hb
  have hB_o0 := hn_o0
  have hl_o0 := hB_o0.lt
  refine Wl.sg rfl rfl <| Wl.sg rfl rfl <| Wl.nil <| Wq.next hK_1 <| Wc.seq fun _ hK_5 => Wc.seq fun _ hK_6 => Wc.region <| Wl.l (l_loadS Tryz.underlying96 (by kernel_rfl) rfl (by exact fun j u hu => hB_o0.at hu)) rfl <| Wl.call txt54VTxt rfl rfl (Right_r a oa _) rfl ?_
  rintro _ w_k0 ⟨rfl, hs_k0⟩
  have hz_k0 := hs_k0.size
  have hb := hb.trans (hs_k0.mono hb.size)
  have hL := hL_hb.below hb
  have hB_o0 := Blk.below hB_o0 hs_k0
  refine Wl.y (y_not rfl) rfl <| Wl.nil <| Wq.next hK_6 <| Wc.cond rfl (fun c0_10 => ?_) (fun c0_10 => ?_)
  ·
   have c0_10_ := c0_10
   simp only [DZ] at c0_10
   refine Wc.seq fun _ hK_11 => Wc.region <| Wl.sg rfl rfl <| Wl.sg rfl rfl <| Wl.nil <| Wq.next hK_11 <| Wc.ret <| Wq.then_ret <| ret2 rfl rfl rfl ?_
   exact ⟨_, rfl, by unfold textV; rw [if_pos (by have h := c0_10_; simpa using h)]; rfl, hb⟩
  have c0_10_ := c0_10
  simp only [DZ] at c0_10
  have hr : rightV a = true := by have h := c0_10_; simpa using h
  have hr' : ¬ rightV a = false := by rw [hr]; simp
  refine Wc.skip <| Wq.next hK_5 <| Wc.seq fun _ hK_14 => Wc.seq fun _ hK_15 => Wc.region <| Wl.y (y_fieldAddr (fa96_0VTxt _) rfl) rfl <| Wl.l (l_load one3VTxt rfl (by exact hB_o0.at rfl)) rfl <| Wl.nil <| Wq.next hK_15 <| Wc.block <| Wc.seq fun _ hK_18 => Wc.region <| Wl.y (y_eqli rfl rfl) rfl <| Wl.sg rfl rfl <| Wl.nil <| Wq.next hK_18 <| Wc.cond rfl (fun c1_21 => ?_) (fun c1_21 => ?_)
  ·
   have c1_21_ := c1_21
   simp only [DZ] at c1_21
   refine Wc.seq fun _ hK_22 => Wc.region <| Wl.y (y_fieldAddr (fa96_1VTxt _) rfl) rfl <| Wl.l (l_load one2VTxt rfl (by exact hB_o0.at rfl)) rfl <| Wl.y (y_eqli rfl rfl) rfl <| Wl.call txt85VTxt rfl rfl (FormatBool_r _ _) rfl ?_
   rintro _ w_ ⟨rfl, hw_⟩
   have hw_ := hw_.symm; subst hw_
   refine Wl.sg rfl rfl <| Wl.sg rfl rfl <| Wl.nil <| Wq.next hK_22 <| Wc.ret <| Wq.block_ret (Wq.then_ret ?_)
   refine ret2 rfl rfl rfl ?_
   exact ⟨_, rfl, by unfold textV; rw [if_neg hr', if_pos c1_21], hb⟩
  have c1_21_ := c1_21
  simp only [DZ] at c1_21
  refine Wc.seq fun _ hK_29 => Wc.region <| Wl.y (y_eqli rfl rfl) rfl <| Wl.sg rfl rfl <| Wl.nil <| Wq.next hK_29 <| Wc.cond rfl (fun c2_32 => ?_) (fun c2_32 => ?_)
  ·
   have c2_32_ := c2_32
   simp only [DZ] at c2_32
   refine Wc.seq fun _ hK_33 => Wc.region <| Wl.y (y_fieldAddr (fa96_1VTxt _) rfl) rfl <| Wl.l (l_load one2VTxt rfl (by exact hB_o0.at rfl)) rfl <| Wl.call txt86VTxt rfl rfl (FormatInt_r _ oa.n0 oa.n1 _ hL) rfl ?_
   rintro _ w_k2 ⟨rfl, hs_k2⟩
   have hz_k2 := hs_k2.size
   have hb := hb.trans (hs_k2.mono hb.size)
   have hL := hL_hb.below hb
   refine Wl.sg rfl rfl <| Wl.sg rfl rfl <| Wl.nil <| Wq.next hK_33 <| Wc.ret <| Wq.block_ret (Wq.then_ret ?_)
   refine ret2 rfl rfl rfl ?_
   exact ⟨_, rfl, by unfold textV; rw [if_neg hr', if_neg c1_21, if_pos c2_32], hb⟩
  have c2_32_ := c2_32
  simp only [DZ] at c2_32
  refine Wc.seq fun _ hK_39 => Wc.region <| Wl.y (y_eqli rfl rfl) rfl <| Wl.sg rfl rfl <| Wl.nil <| Wq.next hK_39 <| Wc.cond rfl (fun c3_42 => ?_) (fun c3_42 => ?_)
  ·
   have c3_42_ := c3_42
   simp only [DZ] at c3_42
   refine Wc.seq fun _ hK_43 => Wc.region <| Wl.y (y_fieldAddr (fa96_2VTxt _) rfl) rfl <| Wl.l (l_load one94VTxt rfl (by exact hB_o0.at rfl)) rfl <| Wl.call txt87VTxt rfl rfl (Text_r _ oa.f1 _ hL) rfl ?_
   rintro _ w_k3 ⟨rfl, hs_k3⟩
   have hz_k3 := hs_k3.size
   have hb := hb.trans (hs_k3.mono hb.size)
   have hL := hL_hb.below hb
   refine Wl.sg rfl rfl <| Wl.sg rfl rfl <| Wl.nil <| Wq.next hK_43 <| Wc.ret <| Wq.block_ret (Wq.then_ret ?_)
   refine ret2 rfl rfl rfl ?_
   exact ⟨_, rfl, by unfold textV; rw [if_neg hr', if_neg c1_21, if_neg c2_32, if_pos c3_42], hb⟩
  have c3_42_ := c3_42
  simp only [DZ] at c3_42
  refine Wc.seq fun _ hK_49 => Wc.region <| Wl.y (y_eqli rfl rfl) rfl <| Wl.sg rfl rfl <| Wl.nil <| Wq.next hK_49 <| Wc.cond rfl (fun c4_52 => ?_) (fun c4_52 => ?_)
  ·
   have c4_52_ := c4_52
   simp only [DZ] at c4_52
   refine Wc.seq fun _ hK_53 => Wc.region <| Wl.y (y_fieldAddr (fa96_3VTxt _) rfl) rfl <| Wl.l (l_load one9VTxt rfl (by exact hB_o0.at rfl)) rfl <| Wl.call txt88VTxt rfl rfl (hq hr c4_52 _ hL) rfl ?_
   rintro _ w_k4 ⟨rfl, hs_k4⟩
   have hz_k4 := hs_k4.size
   have hb := hb.trans (hs_k4.mono hb.size)
   have hL := hL_hb.below hb
   refine Wl.sg rfl rfl <| Wl.sg rfl rfl <| Wl.nil <| Wq.next hK_53 <| Wc.ret <| Wq.block_ret (Wq.then_ret ?_)
   refine ret2 rfl rfl rfl ?_
   exact ⟨_, rfl, by unfold textV; rw [if_neg hr', if_neg c1_21, if_neg c2_32, if_neg c3_42, if_pos c4_52], hb⟩
  have c4_52_ := c4_52
  simp only [DZ] at c4_52
  refine Wc.skip <| Wq.block_normal <| Wq.next hK_14 <| Wc.seq fun _ hK_59 => Wc.region <| Wl.sg rfl rfl <| Wl.sg rfl rfl <| Wl.nil <| Wq.next hK_59 <| Wc.ret <| ret2 rfl rfl rfl ?_
  exact ⟨_, rfl, by unfold textV; rw [if_neg hr', if_neg c1_21, if_neg c2_32, if_neg c3_42, if_neg c4_52]; rfl, hb⟩

end Go.Proofs.YtjmlknjbhbfneaaGreatDoor
