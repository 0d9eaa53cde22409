/- Package value: Less, Right, Test, by the calculus. -/
import Derived.Test.YtcljmclolpgdmaaGreatDoorValA
namespace Go.Proofs.YtcljmclolpgdmaaGreatDoor
open Go.RowKit Go.Bw Go.Bw.Fl
set_option linter.unusedVariables false
set_option linter.unusedSimpArgs false
theorem exn53ValB : Extn Tryz.prog 53 Extern.MathFloatBits.float64bits := fun args w => run_callFunc_extern Tryz.func53 (by kernel_rfl) (by kernel_rfl) (by kernel_rfl) (by kernel_rfl) args w
theorem fa28_0ValB (p : Addr) (w : World) : (Instr.fieldAt 28 (.pointer (some p)) 0).run Tryz.prog w = .ok (.pointer (some (p.add 0))) w := run_fieldAt (i := 0) (sz := 0) Tryz.underlying28 rfl (by kernel_rfl) p w
theorem fa28_1ValB (p : Addr) (w : World) : (Instr.fieldAt 28 (.pointer (some p)) 1).run Tryz.prog w = .ok (.pointer (some (p.add 1))) w := run_fieldAt (i := 1) (sz := 0) Tryz.underlying28 rfl (by kernel_rfl) p w
theorem fa28_2ValB (p : Addr) (w : World) : (Instr.fieldAt 28 (.pointer (some p)) 2).run Tryz.prog w = .ok (.pointer (some (p.add 2))) w := run_fieldAt (i := 2) (sz := 0) Tryz.underlying28 rfl (by kernel_rfl) p w
theorem fa28_3ValB (p : Addr) (w : World) : (Instr.fieldAt 28 (.pointer (some p)) 3).run Tryz.prog w = .ok (.pointer (some (p.add 3))) w := run_fieldAt (i := 3) (sz := 0) Tryz.underlying28 rfl (by kernel_rfl) p w
theorem one2ValB : One Tryz.prog 2 := ⟨_, Tryz.underlying2, rfl, by kernel_rfl⟩
theorem one26ValB : One Tryz.prog 26 := ⟨_, Tryz.underlying26, rfl, by kernel_rfl⟩
theorem one3ValB : One Tryz.prog 3 := ⟨_, Tryz.underlying3, rfl, by kernel_rfl⟩
theorem one9ValB : One Tryz.prog 9 := ⟨_, Tryz.underlying9, rfl, by kernel_rfl⟩
theorem txt19ValB : Txt Tryz.prog 19 := ⟨_, Tryz.func19, by kernel_rfl, rfl⟩   -- bridleway/value.Right
theorem txt43ValB : Txt Tryz.prog 43 := ⟨_, Tryz.func43, by kernel_rfl, rfl⟩   -- bridleway/value.truth
theorem txt52ValB : Txt Tryz.prog 52 := ⟨_, Tryz.func52, by kernel_rfl, rfl⟩   -- bridleway/num.Canon
theorem txt59ValB : Txt Tryz.prog 59 := ⟨_, Tryz.func59, by kernel_rfl, rfl⟩   -- bridleway/value.tests
theorem txt60ValB : Txt Tryz.prog 60 := ⟨_, Tryz.func60, by kernel_rfl, rfl⟩   -- bridleway/value.number
theorem txt61ValB : Txt Tryz.prog 61 := ⟨_, Tryz.func61, by kernel_rfl, rfl⟩   -- bridleway/value.against
theorem right0 {v : Val} (h : v.k = 0) : rightV v = decide (v.n = 0 ∧ v.f = 0 ∧ v.s = []) := by unfold rightV; rw [if_pos h]
theorem right1 {v : Val} (h : v.k = 1) : rightV v = decide ((v.n = 0 ∨ v.n = 1) ∧ v.f = 0 ∧ v.s = []) := by unfold rightV; rw [if_neg (by omega), if_pos h]
theorem right2 {v : Val} (h : v.k = 2) : rightV v = decide (v.f = 0 ∧ v.s = []) := by unfold rightV; rw [if_neg (by omega), if_neg (by omega), if_pos h]
theorem right3 {v : Val} (h : v.k = 3) : rightV v = decide (v.n = 0 ∧ v.s = [] ∧ canon v.f = v.f) := by unfold rightV; rw [if_neg (by omega), if_neg (by omega), if_neg (by omega), if_pos h]
theorem right4 {v : Val} (h : v.k = 4) : rightV v = decide (v.n = 0 ∧ v.f = 0) := by unfold rightV; rw [if_neg (by omega), if_neg (by omega), if_neg (by omega), if_neg (by omega), if_pos h]
theorem tr1 (n : Int) : (n = if (n == 1) = true then 1 else 0) ↔ (n = 0 ∨ n = 1) := by split <;> simp_all <;> omega
theorem tr2 (n : Int) : (n = (truthV (n == 1)).n) ↔ (n = 0 ∨ n = 1) := tr1 n
theorem beqN (x y : Nat) : ((x : Int) == (y : Int)) = decide (x = y) := by rw [Bool.eq_iff_iff, beq_iff_eq, decide_eq_true_eq]; omega
theorem beq0 (x : Nat) : ((x : Int) == 0) = decide (x = 0) := beqN x 0
theorem beqC (x : Nat) : ((x : Int) == (canon x : Int)) = decide (canon x = x) := by rw [beqN]; exact decide_eq_decide.2 eq_comm
theorem Right_r (a : Val) (oa : a.Ok) (w : World) : Ret Tryz.prog 19 [a.enc] w fun v w' => v = .bool (rightV a) ∧ Below w.heap.size w w' := by
  have hb := Below.refl w.heap.size w
  refine enter Tryz.func19 rfl rfl rfl ?_
  refine Wc.seq fun _ hK_1 => ?_
  refine Wc.region ?_
  refine Wl.boxN rfl rfl ?_
  rintro g_o0 w_o0 hg_o0 hn_o0 hs_o0
  have hz_o0 := hs_o0.size
  have hb := hb.trans (hs_o0.mono hb.size)
  have hB_o0 := hn_o0
  have hl_o0 := hB_o0.lt
  refine Wl.y (y_assign rfl) rfl ?_
  refine Wl.nil ?_
  refine Wq.next hK_1 ?_
  refine Wc.seq fun _ hK_4 => ?_
  refine Wc.region ?_
  refine Wl.l (l_loadS Tryz.underlying28 (by kernel_rfl) rfl (by first | exact fun j u hu => hB_o0.at hu | assumption)) rfl ?_
  refine Wl.allocN (z := (.agg #[(.int .i64 0), (.int .i64 0), (.float .f64 0), (str [])])) (by kernel_rfl) rfl ?_
  rintro g_o2 w_o2 hg_o2 hn_o2 hs_o2
  have hz_o2 := hs_o2.size
  have hb := hb.trans (hs_o2.mono hb.size)
  try have hB_o0 := Blk.below hB_o0 hs_o2
  have hB_o2 := hn_o2
  have hl_o2 := hB_o2.lt
  refine Wl.storeS (by kernel_rfl) rfl rfl hB_o2 rfl rfl ?_
  rintro w_s0 hn_s0 hg_s0
  have hz_s0 := hg_s0.size
  have hb := below_blk hb hg_s0 hb.size (by omega)
  try have hB_o0 := hB_o0.over hg_s0 (by omega)
  have hB_o2 := hn_s0
  refine Wl.nil ?_
  refine Wq.next hK_4 ?_
  refine Wc.seq fun _ hK_7 => ?_
  refine Wc.seq fun _ hK_8 => ?_
  refine Wc.region ?_
  refine Wl.y (y_fieldAddr (fa28_0ValB _) rfl) rfl ?_
  refine Wl.l (l_load one3ValB rfl (by first | exact hB_o0.at rfl | exact hB_o2.at rfl | exact hB_o0.cell 0 | exact hB_o2.cell 0 | assumption)) rfl ?_
  refine Wl.nil ?_
  refine Wq.next hK_8 ?_
  refine Wc.block ?_
  refine Wc.seq fun _ hK_11 => ?_
  refine Wc.region ?_
  refine Wl.y (y_eqli rfl rfl) rfl ?_
  refine Wl.y (y_assign rfl) rfl ?_
  refine Wl.nil ?_
  refine Wq.next hK_11 ?_
  refine Wc.cond rfl (fun c0_14 => ?_) (fun c0_14 => ?_)
  ·
   try simp only [decide_eq_true_eq, decide_eq_false_iff_not, beq_iff_eq, beq_eq_false_iff_ne, bne_iff_ne, bne_eq_false_iff_eq, Bool.not_eq_true', Bool.not_eq_false', Bool.not_eq_eq_eq_not, Bool.not_true, Bool.not_false, ne_eq, Int.not_lt, Int.not_le] at c0_14
   refine Wc.region ?_
   refine Wl.y (y_buildS (z := [(.int .i64 0), (.int .i64 0), (.float .f64 0), (str [])]) (pl := [(0, 1), (1, 1), (2, 1), (3, 1)]) (cs := [_, _, _, _]) Tryz.underlying28 (by kernel_rfl) (by kernel_rfl) rfl rfl rfl) rfl ?_
   refine Wl.storeS (by kernel_rfl) rfl rfl hB_o2 rfl rfl ?_
   rintro w_s1 hn_s1 hg_s1
   have hz_s1 := hg_s1.size
   have hb := below_blk hb hg_s1 hb.size (by omega)
   try have hB_o0 := hB_o0.over hg_s1 (by omega)
   have hB_o2 := hn_s1
   refine Wl.nil ?_
   refine Wq.block_normal ?_
   refine Wq.next hK_7 ?_
   refine Wc.seq fun _ hK_16 => ?_
   refine Wc.quiet (by kernel_rfl) (by kernel_rfl) ?_
   refine Wy.y (y_fieldAddr (fa28_0ValB _) rfl) rfl ?_
   refine Wy.l (fun wq hq => l_load one3ValB rfl (by have hB_o0 := Blk.below hB_o0 hq; have hB_o2 := Blk.below hB_o2 hq; first | exact hB_o0.at rfl | exact hB_o2.at rfl | exact hB_o0.cell 0 | exact hB_o2.cell 0 | assumption)) rfl ?_
   refine Wy.y (y_fieldAddr (fa28_0ValB _) rfl) rfl ?_
   refine Wy.l (fun wq hq => l_load one3ValB rfl (by have hB_o0 := Blk.below hB_o0 hq; have hB_o2 := Blk.below hB_o2 hq; first | exact hB_o0.at rfl | exact hB_o2.at rfl | exact hB_o0.cell 0 | exact hB_o2.cell 0 | assumption)) rfl ?_
   refine Wy.y (y_eqli rfl rfl) rfl ?_
   refine Wy.y (y_move rfl) rfl ?_
   refine Wy.guardT rfl rfl rfl (fun g_23 => ?_) (fun g_23 => ?_)
   ·
    have g_23_ := g_23
    try simp only [decide_eq_true_eq, decide_eq_false_iff_not, beq_iff_eq, beq_eq_false_iff_ne, bne_iff_ne, bne_eq_false_iff_eq, Bool.not_eq_true', Bool.not_eq_false', Bool.not_eq_eq_eq_not, Bool.not_true, Bool.not_false, ne_eq, Int.not_lt, Int.not_le] at g_23
    refine Wy.y (y_fieldAddr (fa28_1ValB _) rfl) rfl ?_
    refine Wy.on' rfl rfl g_23_ ?_
    refine Wy.l (fun wq hq => l_load one2ValB rfl (by have hB_o0 := Blk.below hB_o0 hq; have hB_o2 := Blk.below hB_o2 hq; first | exact hB_o0.at rfl | exact hB_o2.at rfl | exact hB_o0.cell 0 | exact hB_o2.cell 0 | assumption)) rfl ?_
    refine Wy.on' rfl rfl g_23_ ?_
    refine Wy.y (y_fieldAddr (fa28_1ValB _) rfl) rfl ?_
    refine Wy.on' rfl rfl g_23_ ?_
    refine Wy.l (fun wq hq => l_load one2ValB rfl (by have hB_o0 := Blk.below hB_o0 hq; have hB_o2 := Blk.below hB_o2 hq; first | exact hB_o0.at rfl | exact hB_o2.at rfl | exact hB_o0.cell 0 | exact hB_o2.cell 0 | assumption)) rfl ?_
    refine Wy.on' rfl rfl g_23_ ?_
    refine Wy.y (y_eqli rfl rfl) rfl ?_
    refine Wy.y (y_pickT rfl g_23_ rfl) rfl ?_
    refine Wy.y (y_move rfl) rfl ?_
    refine Wy.guardT rfl rfl rfl (fun g_31 => ?_) (fun g_31 => ?_)
    ·
     have g_31_ := g_31
     try simp only [decide_eq_true_eq, decide_eq_false_iff_not, beq_iff_eq, beq_eq_false_iff_ne, bne_iff_ne, bne_eq_false_iff_eq, Bool.not_eq_true', Bool.not_eq_false', Bool.not_eq_eq_eq_not, Bool.not_true, Bool.not_false, ne_eq, Int.not_lt, Int.not_le] at g_31
     refine Wy.y (y_fieldAddr (fa28_3ValB _) rfl) rfl ?_
     refine Wy.on' rfl rfl g_31_ ?_
     refine Wy.l (fun wq hq => l_load one9ValB rfl (by have hB_o0 := Blk.below hB_o0 hq; have hB_o2 := Blk.below hB_o2 hq; first | exact hB_o0.at rfl | exact hB_o2.at rfl | exact hB_o0.cell 0 | exact hB_o2.cell 0 | assumption)) rfl ?_
     refine Wy.on' rfl rfl g_31_ ?_
     refine Wy.y (y_fieldAddr (fa28_3ValB _) rfl) rfl ?_
     refine Wy.on' rfl rfl g_31_ ?_
     refine Wy.l (fun wq hq => l_load one9ValB rfl (by have hB_o0 := Blk.below hB_o0 hq; have hB_o2 := Blk.below hB_o2 hq; first | exact hB_o0.at rfl | exact hB_o2.at rfl | exact hB_o0.cell 0 | exact hB_o2.cell 0 | assumption)) rfl ?_
     refine Wy.on' rfl rfl g_31_ ?_
     refine Wy.y (y_eqls rfl rfl) rfl ?_
     refine Wy.y (y_pickT rfl g_31_ rfl) rfl ?_
     refine Wy.y (y_move rfl) rfl ?_
     refine Wy.guardT rfl rfl rfl (fun g_39 => ?_) (fun g_39 => ?_)
     ·
      have g_39_ := g_39
      try simp only [decide_eq_true_eq, decide_eq_false_iff_not, beq_iff_eq, beq_eq_false_iff_ne, bne_iff_ne, bne_eq_false_iff_eq, Bool.not_eq_true', Bool.not_eq_false', Bool.not_eq_eq_eq_not, Bool.not_true, Bool.not_false, ne_eq, Int.not_lt, Int.not_le] at g_39
      refine Wy.y (y_fieldAddr (fa28_2ValB _) rfl) rfl ?_
      refine Wy.on' rfl rfl g_39_ ?_
      refine Wy.l (fun wq hq => l_load one26ValB rfl (by have hB_o0 := Blk.below hB_o0 hq; have hB_o2 := Blk.below hB_o2 hq; first | exact hB_o0.at rfl | exact hB_o2.at rfl | exact hB_o0.cell 0 | exact hB_o2.cell 0 | assumption)) rfl ?_
      refine Wy.on' rfl rfl g_39_ ?_
      refine Wy.y (y_f2b exn53ValB rfl rfl) rfl ?_
      refine Wy.on' rfl rfl g_39_ ?_
      refine Wy.y (y_fieldAddr (fa28_2ValB _) rfl) rfl ?_
      refine Wy.on' rfl rfl g_39_ ?_
      refine Wy.l (fun wq hq => l_load one26ValB rfl (by have hB_o0 := Blk.below hB_o0 hq; have hB_o2 := Blk.below hB_o2 hq; first | exact hB_o0.at rfl | exact hB_o2.at rfl | exact hB_o0.cell 0 | exact hB_o2.cell 0 | assumption)) rfl ?_
      refine Wy.on' rfl rfl g_39_ ?_
      refine Wy.y (y_f2b exn53ValB rfl rfl) rfl ?_
      refine Wy.on' rfl rfl g_39_ ?_
      refine Wy.y (y_eqli rfl rfl) rfl ?_
      refine Wy.y (y_pickT rfl g_39_ rfl) rfl ?_
      refine Wy.y (y_assign rfl) rfl ?_
      refine Wy.nil fun w_g14 hs_g14 => ?_
      have hz_g14 := hs_g14.size
      have hb := hb.trans (hs_g14.mono hb.size)
      refine Wq.next hK_16 ?_
      refine Wc.ret ?_
      refine ret1 rfl rfl ?_
      exact ⟨_, rfl, bool_eq (by rw [right0 c0_14]; first | exact absurd c0_14 g_23 | (exfalso; have h := g_39_; simp at h; done) | (exfalso; have h := g_31_; simp at h; done) | (simp [g_31, g_39, beq0, beqC]; done) | (simp [g_31, beq0, beqC]; done) | (simp [g_39, beq0, beqC]; done)), hb⟩
     ·
      have g_39_ := g_39
      try simp only [decide_eq_true_eq, decide_eq_false_iff_not, beq_iff_eq, beq_eq_false_iff_ne, bne_iff_ne, bne_eq_false_iff_eq, Bool.not_eq_true', Bool.not_eq_false', Bool.not_eq_eq_eq_not, Bool.not_true, Bool.not_false, ne_eq, Int.not_lt, Int.not_le] at g_39
      refine Wy.off' rfl rfl g_39_ rfl rfl ?_
      refine Wy.off' rfl rfl g_39_ rfl rfl ?_
      refine Wy.off' rfl rfl g_39_ rfl rfl ?_
      refine Wy.off' rfl rfl g_39_ rfl rfl ?_
      refine Wy.off' rfl rfl g_39_ rfl rfl ?_
      refine Wy.off' rfl rfl g_39_ rfl rfl ?_
      refine Wy.y (y_pickF rfl g_39_ rfl) rfl ?_
      refine Wy.y (y_assign rfl) rfl ?_
      refine Wy.nil fun w_g14 hs_g14 => ?_
      have hz_g14 := hs_g14.size
      have hb := hb.trans (hs_g14.mono hb.size)
      refine Wq.next hK_16 ?_
      refine Wc.ret ?_
      refine ret1 rfl rfl ?_
      exact ⟨_, rfl, bool_eq (by rw [right0 c0_14]; first | exact absurd c0_14 g_23 | (exfalso; have h := g_39_; simp at h; done) | (exfalso; have h := g_31_; simp at h; done) | (simp [g_31, g_39, beq0, beqC]; done) | (simp [g_31, beq0, beqC]; done) | (simp [g_39, beq0, beqC]; done)), hb⟩
    ·
     have g_31_ := g_31
     try simp only [decide_eq_true_eq, decide_eq_false_iff_not, beq_iff_eq, beq_eq_false_iff_ne, bne_iff_ne, bne_eq_false_iff_eq, Bool.not_eq_true', Bool.not_eq_false', Bool.not_eq_eq_eq_not, Bool.not_true, Bool.not_false, ne_eq, Int.not_lt, Int.not_le] at g_31
     refine Wy.off' rfl rfl g_31_ rfl rfl ?_
     refine Wy.off' rfl rfl g_31_ rfl rfl ?_
     refine Wy.off' rfl rfl g_31_ rfl rfl ?_
     refine Wy.off' rfl rfl g_31_ rfl rfl ?_
     refine Wy.y (y_pickF rfl g_31_ rfl) rfl ?_
     refine Wy.y (y_move rfl) rfl ?_
     refine Wy.off' rfl rfl rfl rfl rfl ?_
     refine Wy.off' rfl rfl rfl rfl rfl ?_
     refine Wy.off' rfl rfl rfl rfl rfl ?_
     refine Wy.off' rfl rfl rfl rfl rfl ?_
     refine Wy.off' rfl rfl rfl rfl rfl ?_
     refine Wy.off' rfl rfl rfl rfl rfl ?_
     refine Wy.off' rfl rfl rfl rfl rfl ?_
     refine Wy.y (y_pickF rfl rfl rfl) rfl ?_
     refine Wy.y (y_assign rfl) rfl ?_
     refine Wy.nil fun w_g14 hs_g14 => ?_
     have hz_g14 := hs_g14.size
     have hb := hb.trans (hs_g14.mono hb.size)
     refine Wq.next hK_16 ?_
     refine Wc.ret ?_
     refine ret1 rfl rfl ?_
     exact ⟨_, rfl, bool_eq (by rw [right0 c0_14]; first | exact absurd c0_14 g_23 | (exfalso; have h := MISSING_o38_; simp at h; done) | (exfalso; have h := g_31_; simp at h; done) | (simp [g_31, MISSING_o38, beq0, beqC]; done) | (simp [g_31, beq0, beqC]; done) | (simp [MISSING_o38, beq0, beqC]; done)), hb⟩
   ·
    have g_23_ := g_23
    try simp only [decide_eq_true_eq, decide_eq_false_iff_not, beq_iff_eq, beq_eq_false_iff_ne, bne_iff_ne, bne_eq_false_iff_eq, Bool.not_eq_true', Bool.not_eq_false', Bool.not_eq_eq_eq_not, Bool.not_true, Bool.not_false, ne_eq, Int.not_lt, Int.not_le] at g_23
    refine Wy.off' rfl rfl g_23_ rfl rfl ?_
    refine Wy.off' rfl rfl g_23_ rfl rfl ?_
    refine Wy.off' rfl rfl g_23_ rfl rfl ?_
    refine Wy.off' rfl rfl g_23_ rfl rfl ?_
    refine Wy.y (y_pickF rfl g_23_ rfl) rfl ?_
    refine Wy.y (y_move rfl) rfl ?_
    refine Wy.off' rfl rfl rfl rfl rfl ?_
    refine Wy.off' rfl rfl rfl rfl rfl ?_
    refine Wy.off' rfl rfl rfl rfl rfl ?_
    refine Wy.off' rfl rfl rfl rfl rfl ?_
    refine Wy.off' rfl rfl rfl rfl rfl ?_
    refine Wy.y (y_pickF rfl rfl rfl) rfl ?_
    refine Wy.y (y_move rfl) rfl ?_
    refine Wy.off' rfl rfl rfl rfl rfl ?_
    refine Wy.off' rfl rfl rfl rfl rfl ?_
    refine Wy.off' rfl rfl rfl rfl rfl ?_
    refine Wy.off' rfl rfl rfl rfl rfl ?_
    refine Wy.off' rfl rfl rfl rfl rfl ?_
    refine Wy.off' rfl rfl rfl rfl rfl ?_
    refine Wy.off' rfl rfl rfl rfl rfl ?_
    refine Wy.y (y_pickF rfl rfl rfl) rfl ?_
    refine Wy.y (y_assign rfl) rfl ?_
    refine Wy.nil fun w_g14 hs_g14 => ?_
    have hz_g14 := hs_g14.size
    have hb := hb.trans (hs_g14.mono hb.size)
    refine Wq.next hK_16 ?_
    refine Wc.ret ?_
    refine ret1 rfl rfl ?_
    exact ⟨_, rfl, bool_eq (by rw [right0 c0_14]; first | exact absurd c0_14 g_23 | (exfalso; have h := MISSING_o38_; simp at h; done) | (exfalso; have h := MISSING_o33_; simp at h; done) | (simp [MISSING_o33, MISSING_o38, beq0, beqC]; done) | (simp [MISSING_o33, beq0, beqC]; done) | (simp [MISSING_o38, beq0, beqC]; done)), hb⟩
  ·
   try simp only [decide_eq_true_eq, decide_eq_false_iff_not, beq_iff_eq, beq_eq_false_iff_ne, bne_iff_ne, bne_eq_false_iff_eq, Bool.not_eq_true', Bool.not_eq_false', Bool.not_eq_eq_eq_not, Bool.not_true, Bool.not_false, ne_eq, Int.not_lt, Int.not_le] at c0_14
   refine Wc.seq fun _ hK_61 => ?_
   refine Wc.region ?_
   refine Wl.y (y_eqli rfl rfl) rfl ?_
   refine Wl.y (y_assign rfl) rfl ?_
   refine Wl.nil ?_
   refine Wq.next hK_61 ?_
   refine Wc.cond rfl (fun c1_64 => ?_) (fun c1_64 => ?_)
   ·
    try simp only [decide_eq_true_eq, decide_eq_false_iff_not, beq_iff_eq, beq_eq_false_iff_ne, bne_iff_ne, bne_eq_false_iff_eq, Bool.not_eq_true', Bool.not_eq_false', Bool.not_eq_eq_eq_not, Bool.not_true, Bool.not_false, ne_eq, Int.not_lt, Int.not_le] at c1_64
    refine Wc.region ?_
    refine Wl.y (y_fieldAddr (fa28_1ValB _) rfl) rfl ?_
    refine Wl.l (l_load one2ValB rfl (by first | exact hB_o0.at rfl | exact hB_o2.at rfl | exact hB_o0.cell 0 | exact hB_o2.cell 0 | assumption)) rfl ?_
    refine Wl.y (y_eqli rfl rfl) rfl ?_
    refine Wl.call txt43ValB rfl rfl (truth_r _ _) rfl ?_
    rintro _ w_k0 ⟨rfl, hs_k0⟩
    have hz_k0 := hs_k0.size
    have hb := hb.trans (hs_k0.mono hb.size)
    try have hB_o0 := Blk.below hB_o0 hs_k0
    try have hB_o2 := Blk.below hB_o2 hs_k0
    refine Wl.storeS (by kernel_rfl) rfl rfl hB_o2 rfl rfl ?_
    rintro w_s2 hn_s2 hg_s2
    have hz_s2 := hg_s2.size
    have hb := below_blk hb hg_s2 hb.size (by omega)
    try have hB_o0 := hB_o0.over hg_s2 (by omega)
    have hB_o2 := hn_s2
    refine Wl.nil ?_
    refine Wq.block_normal ?_
    refine Wq.next hK_7 ?_
    refine Wc.seq fun _ hK_69 => ?_
    refine Wc.quiet (by kernel_rfl) (by kernel_rfl) ?_
    refine Wy.y (y_fieldAddr (fa28_0ValB _) rfl) rfl ?_
    refine Wy.l (fun wq hq => l_load one3ValB rfl (by have hB_o0 := Blk.below hB_o0 hq; have hB_o2 := Blk.below hB_o2 hq; first | exact hB_o0.at rfl | exact hB_o2.at rfl | exact hB_o0.cell 0 | exact hB_o2.cell 0 | assumption)) rfl ?_
    refine Wy.y (y_fieldAddr (fa28_0ValB _) rfl) rfl ?_
    refine Wy.l (fun wq hq => l_load one3ValB rfl (by have hB_o0 := Blk.below hB_o0 hq; have hB_o2 := Blk.below hB_o2 hq; first | exact hB_o0.at rfl | exact hB_o2.at rfl | exact hB_o0.cell 0 | exact hB_o2.cell 0 | assumption)) rfl ?_
    refine Wy.y (y_eqli rfl rfl) rfl ?_
    refine Wy.y (y_move rfl) rfl ?_
    refine Wy.guardT rfl rfl rfl (fun g_76 => ?_) (fun g_76 => ?_)
    ·
     have g_76_ := g_76
     try simp only [decide_eq_true_eq, decide_eq_false_iff_not, beq_iff_eq, beq_eq_false_iff_ne, bne_iff_ne, bne_eq_false_iff_eq, Bool.not_eq_true', Bool.not_eq_false', Bool.not_eq_eq_eq_not, Bool.not_true, Bool.not_false, ne_eq, Int.not_lt, Int.not_le] at g_76
     refine Wy.y (y_fieldAddr (fa28_1ValB _) rfl) rfl ?_
     refine Wy.on' rfl rfl g_76_ ?_
     refine Wy.l (fun wq hq => l_load one2ValB rfl (by have hB_o0 := Blk.below hB_o0 hq; have hB_o2 := Blk.below hB_o2 hq; first | exact hB_o0.at rfl | exact hB_o2.at rfl | exact hB_o0.cell 0 | exact hB_o2.cell 0 | assumption)) rfl ?_
     refine Wy.on' rfl rfl g_76_ ?_
     refine Wy.y (y_fieldAddr (fa28_1ValB _) rfl) rfl ?_
     refine Wy.on' rfl rfl g_76_ ?_
     refine Wy.l (fun wq hq => l_load one2ValB rfl (by have hB_o0 := Blk.below hB_o0 hq; have hB_o2 := Blk.below hB_o2 hq; first | exact hB_o0.at rfl | exact hB_o2.at rfl | exact hB_o0.cell 0 | exact hB_o2.cell 0 | assumption)) rfl ?_
     refine Wy.on' rfl rfl g_76_ ?_
     refine Wy.y (y_eqli rfl rfl) rfl ?_
     refine Wy.y (y_pickT rfl g_76_ rfl) rfl ?_
     refine Wy.y (y_move rfl) rfl ?_
     refine Wy.guardT rfl rfl rfl (fun g_84 => ?_) (fun g_84 => ?_)
     ·
      have g_84_ := g_84
      try simp only [decide_eq_true_eq, decide_eq_false_iff_not, beq_iff_eq, beq_eq_false_iff_ne, bne_iff_ne, bne_eq_false_iff_eq, Bool.not_eq_true', Bool.not_eq_false', Bool.not_eq_eq_eq_not, Bool.not_true, Bool.not_false, ne_eq, Int.not_lt, Int.not_le] at g_84
      refine Wy.y (y_fieldAddr (fa28_3ValB _) rfl) rfl ?_
      refine Wy.on' rfl rfl g_84_ ?_
      refine Wy.l (fun wq hq => l_load one9ValB rfl (by have hB_o0 := Blk.below hB_o0 hq; have hB_o2 := Blk.below hB_o2 hq; first | exact hB_o0.at rfl | exact hB_o2.at rfl | exact hB_o0.cell 0 | exact hB_o2.cell 0 | assumption)) rfl ?_
      refine Wy.on' rfl rfl g_84_ ?_
      refine Wy.y (y_fieldAddr (fa28_3ValB _) rfl) rfl ?_
      refine Wy.on' rfl rfl g_84_ ?_
      refine Wy.l (fun wq hq => l_load one9ValB rfl (by have hB_o0 := Blk.below hB_o0 hq; have hB_o2 := Blk.below hB_o2 hq; first | exact hB_o0.at rfl | exact hB_o2.at rfl | exact hB_o0.cell 0 | exact hB_o2.cell 0 | assumption)) rfl ?_
      refine Wy.on' rfl rfl g_84_ ?_
      refine Wy.y (y_eqls rfl rfl) rfl ?_
      refine Wy.y (y_pickT rfl g_84_ rfl) rfl ?_
      refine Wy.y (y_move rfl) rfl ?_
      refine Wy.guardT rfl rfl rfl (fun g_92 => ?_) (fun g_92 => ?_)
      ·
       have g_92_ := g_92
       try simp only [decide_eq_true_eq, decide_eq_false_iff_not, beq_iff_eq, beq_eq_false_iff_ne, bne_iff_ne, bne_eq_false_iff_eq, Bool.not_eq_true', Bool.not_eq_false', Bool.not_eq_eq_eq_not, Bool.not_true, Bool.not_false, ne_eq, Int.not_lt, Int.not_le] at g_92
       refine Wy.y (y_fieldAddr (fa28_2ValB _) rfl) rfl ?_
       refine Wy.on' rfl rfl g_92_ ?_
       refine Wy.l (fun wq hq => l_load one26ValB rfl (by have hB_o0 := Blk.below hB_o0 hq; have hB_o2 := Blk.below hB_o2 hq; first | exact hB_o0.at rfl | exact hB_o2.at rfl | exact hB_o0.cell 0 | exact hB_o2.cell 0 | assumption)) rfl ?_
       refine Wy.on' rfl rfl g_92_ ?_
       refine Wy.y (y_f2b exn53ValB rfl rfl) rfl ?_
       refine Wy.on' rfl rfl g_92_ ?_
       refine Wy.y (y_fieldAddr (fa28_2ValB _) rfl) rfl ?_
       refine Wy.on' rfl rfl g_92_ ?_
       refine Wy.l (fun wq hq => l_load one26ValB rfl (by have hB_o0 := Blk.below hB_o0 hq; have hB_o2 := Blk.below hB_o2 hq; first | exact hB_o0.at rfl | exact hB_o2.at rfl | exact hB_o0.cell 0 | exact hB_o2.cell 0 | assumption)) rfl ?_
       refine Wy.on' rfl rfl g_92_ ?_
       refine Wy.y (y_f2b exn53ValB rfl rfl) rfl ?_
       refine Wy.on' rfl rfl g_92_ ?_
       refine Wy.y (y_eqli rfl rfl) rfl ?_
       refine Wy.y (y_pickT rfl g_92_ rfl) rfl ?_
       refine Wy.y (y_assign rfl) rfl ?_
       refine Wy.nil fun w_g14 hs_g14 => ?_
       have hz_g14 := hs_g14.size
       have hb := hb.trans (hs_g14.mono hb.size)
       refine Wq.next hK_69 ?_
       refine Wc.ret ?_
       refine ret1 rfl rfl ?_
       exact ⟨_, rfl, bool_eq (by rw [right1 c1_64]; first | exact absurd c1_64 g_76 | (exfalso; have h := g_92_; simp at h; done) | (exfalso; have h := g_84_; simp at h; done) | (have h33 := g_84; rw [tr2] at h33; have h38 := g_92; simp [truthV] at h38; simp [h33, h38, beqN, beq0, truthV]; done) | (have h33 := g_84; rw [tr2] at h33; simp [h33, beqN, beq0, truthV]; done)), hb⟩
      ·
       have g_92_ := g_92
       try simp only [decide_eq_true_eq, decide_eq_false_iff_not, beq_iff_eq, beq_eq_false_iff_ne, bne_iff_ne, bne_eq_false_iff_eq, Bool.not_eq_true', Bool.not_eq_false', Bool.not_eq_eq_eq_not, Bool.not_true, Bool.not_false, ne_eq, Int.not_lt, Int.not_le] at g_92
       refine Wy.off' rfl rfl g_92_ rfl rfl ?_
       refine Wy.off' rfl rfl g_92_ rfl rfl ?_
       refine Wy.off' rfl rfl g_92_ rfl rfl ?_
       refine Wy.off' rfl rfl g_92_ rfl rfl ?_
       refine Wy.off' rfl rfl g_92_ rfl rfl ?_
       refine Wy.off' rfl rfl g_92_ rfl rfl ?_
       refine Wy.y (y_pickF rfl g_92_ rfl) rfl ?_
       refine Wy.y (y_assign rfl) rfl ?_
       refine Wy.nil fun w_g14 hs_g14 => ?_
       have hz_g14 := hs_g14.size
       have hb := hb.trans (hs_g14.mono hb.size)
       refine Wq.next hK_69 ?_
       refine Wc.ret ?_
       refine ret1 rfl rfl ?_
       exact ⟨_, rfl, bool_eq (by rw [right1 c1_64]; first | exact absurd c1_64 g_76 | (exfalso; have h := g_92_; simp at h; done) | (exfalso; have h := g_84_; simp at h; done) | (have h33 := g_84; rw [tr2] at h33; have h38 := g_92; simp [truthV] at h38; simp [h33, h38, beqN, beq0, truthV]; done) | (have h33 := g_84; rw [tr2] at h33; simp [h33, beqN, beq0, truthV]; done)), hb⟩
     ·
      have g_84_ := g_84
      try simp only [decide_eq_true_eq, decide_eq_false_iff_not, beq_iff_eq, beq_eq_false_iff_ne, bne_iff_ne, bne_eq_false_iff_eq, Bool.not_eq_true', Bool.not_eq_false', Bool.not_eq_eq_eq_not, Bool.not_true, Bool.not_false, ne_eq, Int.not_lt, Int.not_le] at g_84
      refine Wy.off' rfl rfl g_84_ rfl rfl ?_
      refine Wy.off' rfl rfl g_84_ rfl rfl ?_
      refine Wy.off' rfl rfl g_84_ rfl rfl ?_
      refine Wy.off' rfl rfl g_84_ rfl rfl ?_
      refine Wy.y (y_pickF rfl g_84_ rfl) rfl ?_
      refine Wy.y (y_move rfl) rfl ?_
      refine Wy.off' rfl rfl rfl rfl rfl ?_
      refine Wy.off' rfl rfl rfl rfl rfl ?_
      refine Wy.off' rfl rfl rfl rfl rfl ?_
      refine Wy.off' rfl rfl rfl rfl rfl ?_
      refine Wy.off' rfl rfl rfl rfl rfl ?_
      refine Wy.off' rfl rfl rfl rfl rfl ?_
      refine Wy.off' rfl rfl rfl rfl rfl ?_
      refine Wy.y (y_pickF rfl rfl rfl) rfl ?_
      refine Wy.y (y_assign rfl) rfl ?_
      refine Wy.nil fun w_g14 hs_g14 => ?_
      have hz_g14 := hs_g14.size
      have hb := hb.trans (hs_g14.mono hb.size)
      refine Wq.next hK_69 ?_
      refine Wc.ret ?_
      refine ret1 rfl rfl ?_
      exact ⟨_, rfl, bool_eq (by rw [right1 c1_64]; first | exact absurd c1_64 g_76 | (exfalso; have h := MISSING_o38_; simp at h; done) | (exfalso; have h := g_84_; simp at h; done) | (have h33 := g_84; rw [tr2] at h33; have h38 := MISSING_o38; simp [truthV] at h38; simp [h33, h38, beqN, beq0, truthV]; done) | (have h33 := g_84; rw [tr2] at h33; simp [h33, beqN, beq0, truthV]; done)), hb⟩
    ·
     have g_76_ := g_76
     try simp only [decide_eq_true_eq, decide_eq_false_iff_not, beq_iff_eq, beq_eq_false_iff_ne, bne_iff_ne, bne_eq_false_iff_eq, Bool.not_eq_true', Bool.not_eq_false', Bool.not_eq_eq_eq_not, Bool.not_true, Bool.not_false, ne_eq, Int.not_lt, Int.not_le] at g_76
     refine Wy.off' rfl rfl g_76_ rfl rfl ?_
     refine Wy.off' rfl rfl g_76_ rfl rfl ?_
     refine Wy.off' rfl rfl g_76_ rfl rfl ?_
     refine Wy.off' rfl rfl g_76_ rfl rfl ?_
     refine Wy.y (y_pickF rfl g_76_ rfl) rfl ?_
     refine Wy.y (y_move rfl) rfl ?_
     refine Wy.off' rfl rfl rfl rfl rfl ?_
     refine Wy.off' rfl rfl rfl rfl rfl ?_
     refine Wy.off' rfl rfl rfl rfl rfl ?_
     refine Wy.off' rfl rfl rfl rfl rfl ?_
     refine Wy.off' rfl rfl rfl rfl rfl ?_
     refine Wy.y (y_pickF rfl rfl rfl) rfl ?_
     refine Wy.y (y_move rfl) rfl ?_
     refine Wy.off' rfl rfl rfl rfl rfl ?_
     refine Wy.off' rfl rfl rfl rfl rfl ?_
     refine Wy.off' rfl rfl rfl rfl rfl ?_
     refine Wy.off' rfl rfl rfl rfl rfl ?_
     refine Wy.off' rfl rfl rfl rfl rfl ?_
     refine Wy.off' rfl rfl rfl rfl rfl ?_
     refine Wy.off' rfl rfl rfl rfl rfl ?_
     refine Wy.y (y_pickF rfl rfl rfl) rfl ?_
     refine Wy.y (y_assign rfl) rfl ?_
     refine Wy.nil fun w_g14 hs_g14 => ?_
     have hz_g14 := hs_g14.size
     have hb := hb.trans (hs_g14.mono hb.size)
     refine Wq.next hK_69 ?_
     refine Wc.ret ?_
     refine ret1 rfl rfl ?_
     exact ⟨_, rfl, bool_eq (by rw [right1 c1_64]; first | exact absurd c1_64 g_76 | (exfalso; have h := MISSING_o38_; simp at h; done) | (exfalso; have h := MISSING_o33_; simp at h; done) | (have h33 := MISSING_o33; rw [tr2] at h33; have h38 := MISSING_o38; simp [truthV] at h38; simp [h33, h38, beqN, beq0, truthV]; done) | (have h33 := MISSING_o33; rw [tr2] at h33; simp [h33, beqN, beq0, truthV]; done)), hb⟩
   ·
    try simp only [decide_eq_true_eq, decide_eq_false_iff_not, beq_iff_eq, beq_eq_false_iff_ne, bne_iff_ne, bne_eq_false_iff_eq, Bool.not_eq_true', Bool.not_eq_false', Bool.not_eq_eq_eq_not, Bool.not_true, Bool.not_false, ne_eq, Int.not_lt, Int.not_le] at c1_64
    refine Wc.seq fun _ hK_114 => ?_
    refine Wc.region ?_
    refine Wl.y (y_eqli rfl rfl) rfl ?_
    refine Wl.y (y_assign rfl) rfl ?_
    refine Wl.nil ?_
    refine Wq.next hK_114 ?_
    refine Wc.cond rfl (fun c2_117 => ?_) (fun c2_117 => ?_)
    ·
     try simp only [decide_eq_true_eq, decide_eq_false_iff_not, beq_iff_eq, beq_eq_false_iff_ne, bne_iff_ne, bne_eq_false_iff_eq, Bool.not_eq_true', Bool.not_eq_false', Bool.not_eq_eq_eq_not, Bool.not_true, Bool.not_false, ne_eq, Int.not_lt, Int.not_le] at c2_117
     refine Wc.region ?_
     refine Wl.y (y_fieldAddr (fa28_1ValB _) rfl) rfl ?_
     refine Wl.l (l_load one2ValB rfl (by first | exact hB_o0.at rfl | exact hB_o2.at rfl | exact hB_o0.cell 0 | exact hB_o2.cell 0 | assumption)) rfl ?_
     refine Wl.y (y_buildS (z := [(.int .i64 0), (.int .i64 0), (.float .f64 0), (str [])]) (pl := [(0, 1), (1, 1), (2, 1), (3, 1)]) (cs := [_, _, _, _]) Tryz.underlying28 (by kernel_rfl) (by kernel_rfl) rfl rfl rfl) rfl ?_
     refine Wl.storeS (by kernel_rfl) rfl rfl hB_o2 rfl rfl ?_
     rintro w_s3 hn_s3 hg_s3
     have hz_s3 := hg_s3.size
     have hb := below_blk hb hg_s3 hb.size (by omega)
     try have hB_o0 := hB_o0.over hg_s3 (by omega)
     have hB_o2 := hn_s3
     refine Wl.nil ?_
     refine Wq.block_normal ?_
     refine Wq.next hK_7 ?_
     refine Wc.seq fun _ hK_121 => ?_
     refine Wc.quiet (by kernel_rfl) (by kernel_rfl) ?_
     refine Wy.y (y_fieldAddr (fa28_0ValB _) rfl) rfl ?_
     refine Wy.l (fun wq hq => l_load one3ValB rfl (by have hB_o0 := Blk.below hB_o0 hq; have hB_o2 := Blk.below hB_o2 hq; first | exact hB_o0.at rfl | exact hB_o2.at rfl | exact hB_o0.cell 0 | exact hB_o2.cell 0 | assumption)) rfl ?_
     refine Wy.y (y_fieldAddr (fa28_0ValB _) rfl) rfl ?_
     refine Wy.l (fun wq hq => l_load one3ValB rfl (by have hB_o0 := Blk.below hB_o0 hq; have hB_o2 := Blk.below hB_o2 hq; first | exact hB_o0.at rfl | exact hB_o2.at rfl | exact hB_o0.cell 0 | exact hB_o2.cell 0 | assumption)) rfl ?_
     refine Wy.y (y_eqli rfl rfl) rfl ?_
     refine Wy.y (y_move rfl) rfl ?_
     refine Wy.guardT rfl rfl rfl (fun g_128 => ?_) (fun g_128 => ?_)
     ·
      have g_128_ := g_128
      try simp only [decide_eq_true_eq, decide_eq_false_iff_not, beq_iff_eq, beq_eq_false_iff_ne, bne_iff_ne, bne_eq_false_iff_eq, Bool.not_eq_true', Bool.not_eq_false', Bool.not_eq_eq_eq_not, Bool.not_true, Bool.not_false, ne_eq, Int.not_lt, Int.not_le] at g_128
      refine Wy.y (y_fieldAddr (fa28_1ValB _) rfl) rfl ?_
      refine Wy.on' rfl rfl g_128_ ?_
      refine Wy.l (fun wq hq => l_load one2ValB rfl (by have hB_o0 := Blk.below hB_o0 hq; have hB_o2 := Blk.below hB_o2 hq; first | exact hB_o0.at rfl | exact hB_o2.at rfl | exact hB_o0.cell 0 | exact hB_o2.cell 0 | assumption)) rfl ?_
      refine Wy.on' rfl rfl g_128_ ?_
      refine Wy.y (y_fieldAddr (fa28_1ValB _) rfl) rfl ?_
      refine Wy.on' rfl rfl g_128_ ?_
      refine Wy.l (fun wq hq => l_load one2ValB rfl (by have hB_o0 := Blk.below hB_o0 hq; have hB_o2 := Blk.below hB_o2 hq; first | exact hB_o0.at rfl | exact hB_o2.at rfl | exact hB_o0.cell 0 | exact hB_o2.cell 0 | assumption)) rfl ?_
      refine Wy.on' rfl rfl g_128_ ?_
      refine Wy.y (y_eqli rfl rfl) rfl ?_
      refine Wy.y (y_pickT rfl g_128_ rfl) rfl ?_
      refine Wy.y (y_move rfl) rfl ?_
      refine Wy.guardT rfl rfl rfl (fun g_136 => ?_) (fun g_136 => ?_)
      ·
       have g_136_ := g_136
       try simp only [decide_eq_true_eq, decide_eq_false_iff_not, beq_iff_eq, beq_eq_false_iff_ne, bne_iff_ne, bne_eq_false_iff_eq, Bool.not_eq_true', Bool.not_eq_false', Bool.not_eq_eq_eq_not, Bool.not_true, Bool.not_false, ne_eq, Int.not_lt, Int.not_le] at g_136
       refine Wy.y (y_fieldAddr (fa28_3ValB _) rfl) rfl ?_
       refine Wy.on' rfl rfl g_136_ ?_
       refine Wy.l (fun wq hq => l_load one9ValB rfl (by have hB_o0 := Blk.below hB_o0 hq; have hB_o2 := Blk.below hB_o2 hq; first | exact hB_o0.at rfl | exact hB_o2.at rfl | exact hB_o0.cell 0 | exact hB_o2.cell 0 | assumption)) rfl ?_
       refine Wy.on' rfl rfl g_136_ ?_
       refine Wy.y (y_fieldAddr (fa28_3ValB _) rfl) rfl ?_
       refine Wy.on' rfl rfl g_136_ ?_
       refine Wy.l (fun wq hq => l_load one9ValB rfl (by have hB_o0 := Blk.below hB_o0 hq; have hB_o2 := Blk.below hB_o2 hq; first | exact hB_o0.at rfl | exact hB_o2.at rfl | exact hB_o0.cell 0 | exact hB_o2.cell 0 | assumption)) rfl ?_
       refine Wy.on' rfl rfl g_136_ ?_
       refine Wy.y (y_eqls rfl rfl) rfl ?_
       refine Wy.y (y_pickT rfl g_136_ rfl) rfl ?_
       refine Wy.y (y_move rfl) rfl ?_
       refine Wy.guardT rfl rfl rfl (fun g_144 => ?_) (fun g_144 => ?_)
       ·
        have g_144_ := g_144
        try simp only [decide_eq_true_eq, decide_eq_false_iff_not, beq_iff_eq, beq_eq_false_iff_ne, bne_iff_ne, bne_eq_false_iff_eq, Bool.not_eq_true', Bool.not_eq_false', Bool.not_eq_eq_eq_not, Bool.not_true, Bool.not_false, ne_eq, Int.not_lt, Int.not_le] at g_144
        refine Wy.y (y_fieldAddr (fa28_2ValB _) rfl) rfl ?_
        refine Wy.on' rfl rfl g_144_ ?_
        refine Wy.l (fun wq hq => l_load one26ValB rfl (by have hB_o0 := Blk.below hB_o0 hq; have hB_o2 := Blk.below hB_o2 hq; first | exact hB_o0.at rfl | exact hB_o2.at rfl | exact hB_o0.cell 0 | exact hB_o2.cell 0 | assumption)) rfl ?_
        refine Wy.on' rfl rfl g_144_ ?_
        refine Wy.y (y_f2b exn53ValB rfl rfl) rfl ?_
        refine Wy.on' rfl rfl g_144_ ?_
        refine Wy.y (y_fieldAddr (fa28_2ValB _) rfl) rfl ?_
        refine Wy.on' rfl rfl g_144_ ?_
        refine Wy.l (fun wq hq => l_load one26ValB rfl (by have hB_o0 := Blk.below hB_o0 hq; have hB_o2 := Blk.below hB_o2 hq; first | exact hB_o0.at rfl | exact hB_o2.at rfl | exact hB_o0.cell 0 | exact hB_o2.cell 0 | assumption)) rfl ?_
        refine Wy.on' rfl rfl g_144_ ?_
        refine Wy.y (y_f2b exn53ValB rfl rfl) rfl ?_
        refine Wy.on' rfl rfl g_144_ ?_
        refine Wy.y (y_eqli rfl rfl) rfl ?_
        refine Wy.y (y_pickT rfl g_144_ rfl) rfl ?_
        refine Wy.y (y_assign rfl) rfl ?_
        refine Wy.nil fun w_g14 hs_g14 => ?_
        have hz_g14 := hs_g14.size
        have hb := hb.trans (hs_g14.mono hb.size)
        refine Wq.next hK_121 ?_
        refine Wc.ret ?_
        refine ret1 rfl rfl ?_
        exact ⟨_, rfl, bool_eq (by rw [right2 c2_117]; first | exact absurd c2_117 g_128 | (exfalso; have h := g_144_; simp at h; done) | (exfalso; have h := g_136_; simp at h; done) | (simp [g_136, g_144, beq0, beqC]; done) | (simp [g_136, beq0, beqC]; done) | (simp [g_144, beq0, beqC]; done)), hb⟩
       ·
        have g_144_ := g_144
        try simp only [decide_eq_true_eq, decide_eq_false_iff_not, beq_iff_eq, beq_eq_false_iff_ne, bne_iff_ne, bne_eq_false_iff_eq, Bool.not_eq_true', Bool.not_eq_false', Bool.not_eq_eq_eq_not, Bool.not_true, Bool.not_false, ne_eq, Int.not_lt, Int.not_le] at g_144
        refine Wy.off' rfl rfl g_144_ rfl rfl ?_
        refine Wy.off' rfl rfl g_144_ rfl rfl ?_
        refine Wy.off' rfl rfl g_144_ rfl rfl ?_
        refine Wy.off' rfl rfl g_144_ rfl rfl ?_
        refine Wy.off' rfl rfl g_144_ rfl rfl ?_
        refine Wy.off' rfl rfl g_144_ rfl rfl ?_
        refine Wy.y (y_pickF rfl g_144_ rfl) rfl ?_
        refine Wy.y (y_assign rfl) rfl ?_
        refine Wy.nil fun w_g14 hs_g14 => ?_
        have hz_g14 := hs_g14.size
        have hb := hb.trans (hs_g14.mono hb.size)
        refine Wq.next hK_121 ?_
        refine Wc.ret ?_
        refine ret1 rfl rfl ?_
        exact ⟨_, rfl, bool_eq (by rw [right2 c2_117]; first | exact absurd c2_117 g_128 | (exfalso; have h := g_144_; simp at h; done) | (exfalso; have h := g_136_; simp at h; done) | (simp [g_136, g_144, beq0, beqC]; done) | (simp [g_136, beq0, beqC]; done) | (simp [g_144, beq0, beqC]; done)), hb⟩
      ·
       have g_136_ := g_136
       try simp only [decide_eq_true_eq, decide_eq_false_iff_not, beq_iff_eq, beq_eq_false_iff_ne, bne_iff_ne, bne_eq_false_iff_eq, Bool.not_eq_true', Bool.not_eq_false', Bool.not_eq_eq_eq_not, Bool.not_true, Bool.not_false, ne_eq, Int.not_lt, Int.not_le] at g_136
       refine Wy.off' rfl rfl g_136_ rfl rfl ?_
       refine Wy.off' rfl rfl g_136_ rfl rfl ?_
       refine Wy.off' rfl rfl g_136_ rfl rfl ?_
       refine Wy.off' rfl rfl g_136_ rfl rfl ?_
       refine Wy.y (y_pickF rfl g_136_ rfl) rfl ?_
       refine Wy.y (y_move rfl) rfl ?_
       refine Wy.off' rfl rfl rfl rfl rfl ?_
       refine Wy.off' rfl rfl rfl rfl rfl ?_
       refine Wy.off' rfl rfl rfl rfl rfl ?_
       refine Wy.off' rfl rfl rfl rfl rfl ?_
       refine Wy.off' rfl rfl rfl rfl rfl ?_
       refine Wy.off' rfl rfl rfl rfl rfl ?_
       refine Wy.off' rfl rfl rfl rfl rfl ?_
       refine Wy.y (y_pickF rfl rfl rfl) rfl ?_
       refine Wy.y (y_assign rfl) rfl ?_
       refine Wy.nil fun w_g14 hs_g14 => ?_
       have hz_g14 := hs_g14.size
       have hb := hb.trans (hs_g14.mono hb.size)
       refine Wq.next hK_121 ?_
       refine Wc.ret ?_
       refine ret1 rfl rfl ?_
       exact ⟨_, rfl, bool_eq (by rw [right2 c2_117]; first | exact absurd c2_117 g_128 | (exfalso; have h := MISSING_o38_; simp at h; done) | (exfalso; have h := g_136_; simp at h; done) | (simp [g_136, MISSING_o38, beq0, beqC]; done) | (simp [g_136, beq0, beqC]; done) | (simp [MISSING_o38, beq0, beqC]; done)), hb⟩
     ·
      have g_128_ := g_128
      try simp only [decide_eq_true_eq, decide_eq_false_iff_not, beq_iff_eq, beq_eq_false_iff_ne, bne_iff_ne, bne_eq_false_iff_eq, Bool.not_eq_true', Bool.not_eq_false', Bool.not_eq_eq_eq_not, Bool.not_true, Bool.not_false, ne_eq, Int.not_lt, Int.not_le] at g_128
      refine Wy.off' rfl rfl g_128_ rfl rfl ?_
      refine Wy.off' rfl rfl g_128_ rfl rfl ?_
      refine Wy.off' rfl rfl g_128_ rfl rfl ?_
      refine Wy.off' rfl rfl g_128_ rfl rfl ?_
      refine Wy.y (y_pickF rfl g_128_ rfl) rfl ?_
      refine Wy.y (y_move rfl) rfl ?_
      refine Wy.off' rfl rfl rfl rfl rfl ?_
      refine Wy.off' rfl rfl rfl rfl rfl ?_
      refine Wy.off' rfl rfl rfl rfl rfl ?_
      refine Wy.off' rfl rfl rfl rfl rfl ?_
      refine Wy.off' rfl rfl rfl rfl rfl ?_
      refine Wy.y (y_pickF rfl rfl rfl) rfl ?_
      refine Wy.y (y_move rfl) rfl ?_
      refine Wy.off' rfl rfl rfl rfl rfl ?_
      refine Wy.off' rfl rfl rfl rfl rfl ?_
      refine Wy.off' rfl rfl rfl rfl rfl ?_
      refine Wy.off' rfl rfl rfl rfl rfl ?_
      refine Wy.off' rfl rfl rfl rfl rfl ?_
      refine Wy.off' rfl rfl rfl rfl rfl ?_
      refine Wy.off' rfl rfl rfl rfl rfl ?_
      refine Wy.y (y_pickF rfl rfl rfl) rfl ?_
      refine Wy.y (y_assign rfl) rfl ?_
      refine Wy.nil fun w_g14 hs_g14 => ?_
      have hz_g14 := hs_g14.size
      have hb := hb.trans (hs_g14.mono hb.size)
      refine Wq.next hK_121 ?_
      refine Wc.ret ?_
      refine ret1 rfl rfl ?_
      exact ⟨_, rfl, bool_eq (by rw [right2 c2_117]; first | exact absurd c2_117 g_128 | (exfalso; have h := MISSING_o38_; simp at h; done) | (exfalso; have h := MISSING_o33_; simp at h; done) | (simp [MISSING_o33, MISSING_o38, beq0, beqC]; done) | (simp [MISSING_o33, beq0, beqC]; done) | (simp [MISSING_o38, beq0, beqC]; done)), hb⟩
    ·
     try simp only [decide_eq_true_eq, decide_eq_false_iff_not, beq_iff_eq, beq_eq_false_iff_ne, bne_iff_ne, bne_eq_false_iff_eq, Bool.not_eq_true', Bool.not_eq_false', Bool.not_eq_eq_eq_not, Bool.not_true, Bool.not_false, ne_eq, Int.not_lt, Int.not_le] at c2_117
     refine Wc.seq fun _ hK_166 => ?_
     refine Wc.region ?_
     refine Wl.y (y_eqli rfl rfl) rfl ?_
     refine Wl.y (y_assign rfl) rfl ?_
     refine Wl.nil ?_
     refine Wq.next hK_166 ?_
     refine Wc.cond rfl (fun c3_169 => ?_) (fun c3_169 => ?_)
     ·
      try simp only [decide_eq_true_eq, decide_eq_false_iff_not, beq_iff_eq, beq_eq_false_iff_ne, bne_iff_ne, bne_eq_false_iff_eq, Bool.not_eq_true', Bool.not_eq_false', Bool.not_eq_eq_eq_not, Bool.not_true, Bool.not_false, ne_eq, Int.not_lt, Int.not_le] at c3_169
      refine Wc.region ?_
      refine Wl.y (y_fieldAddr (fa28_2ValB _) rfl) rfl ?_
      refine Wl.l (l_load one26ValB rfl (by first | exact hB_o0.at rfl | exact hB_o2.at rfl | exact hB_o0.cell 0 | exact hB_o2.cell 0 | assumption)) rfl ?_
      refine Wl.call txt52ValB rfl rfl (Canon_r _ _) rfl ?_
      rintro _ w_ ⟨rfl, hw_⟩
      have hw_ := hw_.symm; subst hw_
      refine Wl.y (y_buildS (z := [(.int .i64 0), (.int .i64 0), (.float .f64 0), (str [])]) (pl := [(0, 1), (1, 1), (2, 1), (3, 1)]) (cs := [_, _, _, _]) Tryz.underlying28 (by kernel_rfl) (by kernel_rfl) rfl rfl rfl) rfl ?_
      refine Wl.storeS (by kernel_rfl) rfl rfl hB_o2 rfl rfl ?_
      rintro w_s4 hn_s4 hg_s4
      have hz_s4 := hg_s4.size
      have hb := below_blk hb hg_s4 hb.size (by omega)
      try have hB_o0 := hB_o0.over hg_s4 (by omega)
      have hB_o2 := hn_s4
      refine Wl.nil ?_
      refine Wq.block_normal ?_
      refine Wq.next hK_7 ?_
      refine Wc.seq fun _ hK_174 => ?_
      refine Wc.quiet (by kernel_rfl) (by kernel_rfl) ?_
      refine Wy.y (y_fieldAddr (fa28_0ValB _) rfl) rfl ?_
      refine Wy.l (fun wq hq => l_load one3ValB rfl (by have hB_o0 := Blk.below hB_o0 hq; have hB_o2 := Blk.below hB_o2 hq; first | exact hB_o0.at rfl | exact hB_o2.at rfl | exact hB_o0.cell 0 | exact hB_o2.cell 0 | assumption)) rfl ?_
      refine Wy.y (y_fieldAddr (fa28_0ValB _) rfl) rfl ?_
      refine Wy.l (fun wq hq => l_load one3ValB rfl (by have hB_o0 := Blk.below hB_o0 hq; have hB_o2 := Blk.below hB_o2 hq; first | exact hB_o0.at rfl | exact hB_o2.at rfl | exact hB_o0.cell 0 | exact hB_o2.cell 0 | assumption)) rfl ?_
      refine Wy.y (y_eqli rfl rfl) rfl ?_
      refine Wy.y (y_move rfl) rfl ?_
      refine Wy.guardT rfl rfl rfl (fun g_181 => ?_) (fun g_181 => ?_)
      ·
       have g_181_ := g_181
       try simp only [decide_eq_true_eq, decide_eq_false_iff_not, beq_iff_eq, beq_eq_false_iff_ne, bne_iff_ne, bne_eq_false_iff_eq, Bool.not_eq_true', Bool.not_eq_false', Bool.not_eq_eq_eq_not, Bool.not_true, Bool.not_false, ne_eq, Int.not_lt, Int.not_le] at g_181
       refine Wy.y (y_fieldAddr (fa28_1ValB _) rfl) rfl ?_
       refine Wy.on' rfl rfl g_181_ ?_
       refine Wy.l (fun wq hq => l_load one2ValB rfl (by have hB_o0 := Blk.below hB_o0 hq; have hB_o2 := Blk.below hB_o2 hq; first | exact hB_o0.at rfl | exact hB_o2.at rfl | exact hB_o0.cell 0 | exact hB_o2.cell 0 | assumption)) rfl ?_
       refine Wy.on' rfl rfl g_181_ ?_
       refine Wy.y (y_fieldAddr (fa28_1ValB _) rfl) rfl ?_
       refine Wy.on' rfl rfl g_181_ ?_
       refine Wy.l (fun wq hq => l_load one2ValB rfl (by have hB_o0 := Blk.below hB_o0 hq; have hB_o2 := Blk.below hB_o2 hq; first | exact hB_o0.at rfl | exact hB_o2.at rfl | exact hB_o0.cell 0 | exact hB_o2.cell 0 | assumption)) rfl ?_
       refine Wy.on' rfl rfl g_181_ ?_
       refine Wy.y (y_eqli rfl rfl) rfl ?_
       refine Wy.y (y_pickT rfl g_181_ rfl) rfl ?_
       refine Wy.y (y_move rfl) rfl ?_
       refine Wy.guardT rfl rfl rfl (fun g_189 => ?_) (fun g_189 => ?_)
       ·
        have g_189_ := g_189
        try simp only [decide_eq_true_eq, decide_eq_false_iff_not, beq_iff_eq, beq_eq_false_iff_ne, bne_iff_ne, bne_eq_false_iff_eq, Bool.not_eq_true', Bool.not_eq_false', Bool.not_eq_eq_eq_not, Bool.not_true, Bool.not_false, ne_eq, Int.not_lt, Int.not_le] at g_189
        refine Wy.y (y_fieldAddr (fa28_3ValB _) rfl) rfl ?_
        refine Wy.on' rfl rfl g_189_ ?_
        refine Wy.l (fun wq hq => l_load one9ValB rfl (by have hB_o0 := Blk.below hB_o0 hq; have hB_o2 := Blk.below hB_o2 hq; first | exact hB_o0.at rfl | exact hB_o2.at rfl | exact hB_o0.cell 0 | exact hB_o2.cell 0 | assumption)) rfl ?_
        refine Wy.on' rfl rfl g_189_ ?_
        refine Wy.y (y_fieldAddr (fa28_3ValB _) rfl) rfl ?_
        refine Wy.on' rfl rfl g_189_ ?_
        refine Wy.l (fun wq hq => l_load one9ValB rfl (by have hB_o0 := Blk.below hB_o0 hq; have hB_o2 := Blk.below hB_o2 hq; first | exact hB_o0.at rfl | exact hB_o2.at rfl | exact hB_o0.cell 0 | exact hB_o2.cell 0 | assumption)) rfl ?_
        refine Wy.on' rfl rfl g_189_ ?_
        refine Wy.y (y_eqls rfl rfl) rfl ?_
        refine Wy.y (y_pickT rfl g_189_ rfl) rfl ?_
        refine Wy.y (y_move rfl) rfl ?_
        refine Wy.guardT rfl rfl rfl (fun g_197 => ?_) (fun g_197 => ?_)
        ·
         have g_197_ := g_197
         try simp only [decide_eq_true_eq, decide_eq_false_iff_not, beq_iff_eq, beq_eq_false_iff_ne, bne_iff_ne, bne_eq_false_iff_eq, Bool.not_eq_true', Bool.not_eq_false', Bool.not_eq_eq_eq_not, Bool.not_true, Bool.not_false, ne_eq, Int.not_lt, Int.not_le] at g_197
         refine Wy.y (y_fieldAddr (fa28_2ValB _) rfl) rfl ?_
         refine Wy.on' rfl rfl g_197_ ?_
         refine Wy.l (fun wq hq => l_load one26ValB rfl (by have hB_o0 := Blk.below hB_o0 hq; have hB_o2 := Blk.below hB_o2 hq; first | exact hB_o0.at rfl | exact hB_o2.at rfl | exact hB_o0.cell 0 | exact hB_o2.cell 0 | assumption)) rfl ?_
         refine Wy.on' rfl rfl g_197_ ?_
         refine Wy.y (y_f2b exn53ValB rfl rfl) rfl ?_
         refine Wy.on' rfl rfl g_197_ ?_
         refine Wy.y (y_fieldAddr (fa28_2ValB _) rfl) rfl ?_
         refine Wy.on' rfl rfl g_197_ ?_
         refine Wy.l (fun wq hq => l_load one26ValB rfl (by have hB_o0 := Blk.below hB_o0 hq; have hB_o2 := Blk.below hB_o2 hq; first | exact hB_o0.at rfl | exact hB_o2.at rfl | exact hB_o0.cell 0 | exact hB_o2.cell 0 | assumption)) rfl ?_
         refine Wy.on' rfl rfl g_197_ ?_
         refine Wy.y (y_f2b exn53ValB rfl rfl) rfl ?_
         refine Wy.on' rfl rfl g_197_ ?_
         refine Wy.y (y_eqli rfl rfl) rfl ?_
         refine Wy.y (y_pickT rfl g_197_ rfl) rfl ?_
         refine Wy.y (y_assign rfl) rfl ?_
         refine Wy.nil fun w_g14 hs_g14 => ?_
         have hz_g14 := hs_g14.size
         have hb := hb.trans (hs_g14.mono hb.size)
         refine Wq.next hK_174 ?_
         refine Wc.ret ?_
         refine ret1 rfl rfl ?_
         exact ⟨_, rfl, bool_eq (by rw [right3 c3_169]; first | exact absurd c3_169 g_181 | (exfalso; have h := g_197_; simp at h; done) | (exfalso; have h := g_189_; simp at h; done) | (simp [g_189, g_197, beq0, beqC]; done) | (simp [g_189, beq0, beqC]; done) | (simp [g_197, beq0, beqC]; done)), hb⟩
        ·
         have g_197_ := g_197
         try simp only [decide_eq_true_eq, decide_eq_false_iff_not, beq_iff_eq, beq_eq_false_iff_ne, bne_iff_ne, bne_eq_false_iff_eq, Bool.not_eq_true', Bool.not_eq_false', Bool.not_eq_eq_eq_not, Bool.not_true, Bool.not_false, ne_eq, Int.not_lt, Int.not_le] at g_197
         refine Wy.off' rfl rfl g_197_ rfl rfl ?_
         refine Wy.off' rfl rfl g_197_ rfl rfl ?_
         refine Wy.off' rfl rfl g_197_ rfl rfl ?_
         refine Wy.off' rfl rfl g_197_ rfl rfl ?_
         refine Wy.off' rfl rfl g_197_ rfl rfl ?_
         refine Wy.off' rfl rfl g_197_ rfl rfl ?_
         refine Wy.y (y_pickF rfl g_197_ rfl) rfl ?_
         refine Wy.y (y_assign rfl) rfl ?_
         refine Wy.nil fun w_g14 hs_g14 => ?_
         have hz_g14 := hs_g14.size
         have hb := hb.trans (hs_g14.mono hb.size)
         refine Wq.next hK_174 ?_
         refine Wc.ret ?_
         refine ret1 rfl rfl ?_
         exact ⟨_, rfl, bool_eq (by rw [right3 c3_169]; first | exact absurd c3_169 g_181 | (exfalso; have h := g_197_; simp at h; done) | (exfalso; have h := g_189_; simp at h; done) | (simp [g_189, g_197, beq0, beqC]; done) | (simp [g_189, beq0, beqC]; done) | (simp [g_197, beq0, beqC]; done)), hb⟩
       ·
        have g_189_ := g_189
        try simp only [decide_eq_true_eq, decide_eq_false_iff_not, beq_iff_eq, beq_eq_false_iff_ne, bne_iff_ne, bne_eq_false_iff_eq, Bool.not_eq_true', Bool.not_eq_false', Bool.not_eq_eq_eq_not, Bool.not_true, Bool.not_false, ne_eq, Int.not_lt, Int.not_le] at g_189
        refine Wy.off' rfl rfl g_189_ rfl rfl ?_
        refine Wy.off' rfl rfl g_189_ rfl rfl ?_
        refine Wy.off' rfl rfl g_189_ rfl rfl ?_
        refine Wy.off' rfl rfl g_189_ rfl rfl ?_
        refine Wy.y (y_pickF rfl g_189_ rfl) rfl ?_
        refine Wy.y (y_move rfl) rfl ?_
        refine Wy.off' rfl rfl rfl rfl rfl ?_
        refine Wy.off' rfl rfl rfl rfl rfl ?_
        refine Wy.off' rfl rfl rfl rfl rfl ?_
        refine Wy.off' rfl rfl rfl rfl rfl ?_
        refine Wy.off' rfl rfl rfl rfl rfl ?_
        refine Wy.off' rfl rfl rfl rfl rfl ?_
        refine Wy.off' rfl rfl rfl rfl rfl ?_
        refine Wy.y (y_pickF rfl rfl rfl) rfl ?_
        refine Wy.y (y_assign rfl) rfl ?_
        refine Wy.nil fun w_g14 hs_g14 => ?_
        have hz_g14 := hs_g14.size
        have hb := hb.trans (hs_g14.mono hb.size)
        refine Wq.next hK_174 ?_
        refine Wc.ret ?_
        refine ret1 rfl rfl ?_
        exact ⟨_, rfl, bool_eq (by rw [right3 c3_169]; first | exact absurd c3_169 g_181 | (exfalso; have h := MISSING_o38_; simp at h; done) | (exfalso; have h := g_189_; simp at h; done) | (simp [g_189, MISSING_o38, beq0, beqC]; done) | (simp [g_189, beq0, beqC]; done) | (simp [MISSING_o38, beq0, beqC]; done)), hb⟩
      ·
       have g_181_ := g_181
       try simp only [decide_eq_true_eq, decide_eq_false_iff_not, beq_iff_eq, beq_eq_false_iff_ne, bne_iff_ne, bne_eq_false_iff_eq, Bool.not_eq_true', Bool.not_eq_false', Bool.not_eq_eq_eq_not, Bool.not_true, Bool.not_false, ne_eq, Int.not_lt, Int.not_le] at g_181
       refine Wy.off' rfl rfl g_181_ rfl rfl ?_
       refine Wy.off' rfl rfl g_181_ rfl rfl ?_
       refine Wy.off' rfl rfl g_181_ rfl rfl ?_
       refine Wy.off' rfl rfl g_181_ rfl rfl ?_
       refine Wy.y (y_pickF rfl g_181_ rfl) rfl ?_
       refine Wy.y (y_move rfl) rfl ?_
       refine Wy.off' rfl rfl rfl rfl rfl ?_
       refine Wy.off' rfl rfl rfl rfl rfl ?_
       refine Wy.off' rfl rfl rfl rfl rfl ?_
       refine Wy.off' rfl rfl rfl rfl rfl ?_
       refine Wy.off' rfl rfl rfl rfl rfl ?_
       refine Wy.y (y_pickF rfl rfl rfl) rfl ?_
       refine Wy.y (y_move rfl) rfl ?_
       refine Wy.off' rfl rfl rfl rfl rfl ?_
       refine Wy.off' rfl rfl rfl rfl rfl ?_
       refine Wy.off' rfl rfl rfl rfl rfl ?_
       refine Wy.off' rfl rfl rfl rfl rfl ?_
       refine Wy.off' rfl rfl rfl rfl rfl ?_
       refine Wy.off' rfl rfl rfl rfl rfl ?_
       refine Wy.off' rfl rfl rfl rfl rfl ?_
       refine Wy.y (y_pickF rfl rfl rfl) rfl ?_
       refine Wy.y (y_assign rfl) rfl ?_
       refine Wy.nil fun w_g14 hs_g14 => ?_
       have hz_g14 := hs_g14.size
       have hb := hb.trans (hs_g14.mono hb.size)
       refine Wq.next hK_174 ?_
       refine Wc.ret ?_
       refine ret1 rfl rfl ?_
       exact ⟨_, rfl, bool_eq (by rw [right3 c3_169]; first | exact absurd c3_169 g_181 | (exfalso; have h := MISSING_o38_; simp at h; done) | (exfalso; have h := MISSING_o33_; simp at h; done) | (simp [MISSING_o33, MISSING_o38, beq0, beqC]; done) | (simp [MISSING_o33, beq0, beqC]; done) | (simp [MISSING_o38, beq0, beqC]; done)), hb⟩
     ·
      try simp only [decide_eq_true_eq, decide_eq_false_iff_not, beq_iff_eq, beq_eq_false_iff_ne, bne_iff_ne, bne_eq_false_iff_eq, Bool.not_eq_true', Bool.not_eq_false', Bool.not_eq_eq_eq_not, Bool.not_true, Bool.not_false, ne_eq, Int.not_lt, Int.not_le] at c3_169
      refine Wc.seq fun _ hK_219 => ?_
      refine Wc.region ?_
      refine Wl.y (y_eqli rfl rfl) rfl ?_
      refine Wl.y (y_assign rfl) rfl ?_
      refine Wl.nil ?_
      refine Wq.next hK_219 ?_
      refine Wc.cond rfl (fun c4_222 => ?_) (fun c4_222 => ?_)
      ·
       try simp only [decide_eq_true_eq, decide_eq_false_iff_not, beq_iff_eq, beq_eq_false_iff_ne, bne_iff_ne, bne_eq_false_iff_eq, Bool.not_eq_true', Bool.not_eq_false', Bool.not_eq_eq_eq_not, Bool.not_true, Bool.not_false, ne_eq, Int.not_lt, Int.not_le] at c4_222
       refine Wc.region ?_
       refine Wl.y (y_fieldAddr (fa28_3ValB _) rfl) rfl ?_
       refine Wl.l (l_load one9ValB rfl (by first | exact hB_o0.at rfl | exact hB_o2.at rfl | exact hB_o0.cell 0 | exact hB_o2.cell 0 | assumption)) rfl ?_
       refine Wl.y (y_buildS (z := [(.int .i64 0), (.int .i64 0), (.float .f64 0), (str [])]) (pl := [(0, 1), (1, 1), (2, 1), (3, 1)]) (cs := [_, _, _, _]) Tryz.underlying28 (by kernel_rfl) (by kernel_rfl) rfl rfl rfl) rfl ?_
       refine Wl.storeS (by kernel_rfl) rfl rfl hB_o2 rfl rfl ?_
       rintro w_s5 hn_s5 hg_s5
       have hz_s5 := hg_s5.size
       have hb := below_blk hb hg_s5 hb.size (by omega)
       try have hB_o0 := hB_o0.over hg_s5 (by omega)
       have hB_o2 := hn_s5
       refine Wl.nil ?_
       refine Wq.block_normal ?_
       refine Wq.next hK_7 ?_
       refine Wc.seq fun _ hK_226 => ?_
       refine Wc.quiet (by kernel_rfl) (by kernel_rfl) ?_
       refine Wy.y (y_fieldAddr (fa28_0ValB _) rfl) rfl ?_
       refine Wy.l (fun wq hq => l_load one3ValB rfl (by have hB_o0 := Blk.below hB_o0 hq; have hB_o2 := Blk.below hB_o2 hq; first | exact hB_o0.at rfl | exact hB_o2.at rfl | exact hB_o0.cell 0 | exact hB_o2.cell 0 | assumption)) rfl ?_
       refine Wy.y (y_fieldAddr (fa28_0ValB _) rfl) rfl ?_
       refine Wy.l (fun wq hq => l_load one3ValB rfl (by have hB_o0 := Blk.below hB_o0 hq; have hB_o2 := Blk.below hB_o2 hq; first | exact hB_o0.at rfl | exact hB_o2.at rfl | exact hB_o0.cell 0 | exact hB_o2.cell 0 | assumption)) rfl ?_
       refine Wy.y (y_eqli rfl rfl) rfl ?_
       refine Wy.y (y_move rfl) rfl ?_
       refine Wy.guardT rfl rfl rfl (fun g_233 => ?_) (fun g_233 => ?_)
       ·
        have g_233_ := g_233
        try simp only [decide_eq_true_eq, decide_eq_false_iff_not, beq_iff_eq, beq_eq_false_iff_ne, bne_iff_ne, bne_eq_false_iff_eq, Bool.not_eq_true', Bool.not_eq_false', Bool.not_eq_eq_eq_not, Bool.not_true, Bool.not_false, ne_eq, Int.not_lt, Int.not_le] at g_233
        refine Wy.y (y_fieldAddr (fa28_1ValB _) rfl) rfl ?_
        refine Wy.on' rfl rfl g_233_ ?_
        refine Wy.l (fun wq hq => l_load one2ValB rfl (by have hB_o0 := Blk.below hB_o0 hq; have hB_o2 := Blk.below hB_o2 hq; first | exact hB_o0.at rfl | exact hB_o2.at rfl | exact hB_o0.cell 0 | exact hB_o2.cell 0 | assumption)) rfl ?_
        refine Wy.on' rfl rfl g_233_ ?_
        refine Wy.y (y_fieldAddr (fa28_1ValB _) rfl) rfl ?_
        refine Wy.on' rfl rfl g_233_ ?_
        refine Wy.l (fun wq hq => l_load one2ValB rfl (by have hB_o0 := Blk.below hB_o0 hq; have hB_o2 := Blk.below hB_o2 hq; first | exact hB_o0.at rfl | exact hB_o2.at rfl | exact hB_o0.cell 0 | exact hB_o2.cell 0 | assumption)) rfl ?_
        refine Wy.on' rfl rfl g_233_ ?_
        refine Wy.y (y_eqli rfl rfl) rfl ?_
        refine Wy.y (y_pickT rfl g_233_ rfl) rfl ?_
        refine Wy.y (y_move rfl) rfl ?_
        refine Wy.guardT rfl rfl rfl (fun g_241 => ?_) (fun g_241 => ?_)
        ·
         have g_241_ := g_241
         try simp only [decide_eq_true_eq, decide_eq_false_iff_not, beq_iff_eq, beq_eq_false_iff_ne, bne_iff_ne, bne_eq_false_iff_eq, Bool.not_eq_true', Bool.not_eq_false', Bool.not_eq_eq_eq_not, Bool.not_true, Bool.not_false, ne_eq, Int.not_lt, Int.not_le] at g_241
         refine Wy.y (y_fieldAddr (fa28_3ValB _) rfl) rfl ?_
         refine Wy.on' rfl rfl g_241_ ?_
         refine Wy.l (fun wq hq => l_load one9ValB rfl (by have hB_o0 := Blk.below hB_o0 hq; have hB_o2 := Blk.below hB_o2 hq; first | exact hB_o0.at rfl | exact hB_o2.at rfl | exact hB_o0.cell 0 | exact hB_o2.cell 0 | assumption)) rfl ?_
         refine Wy.on' rfl rfl g_241_ ?_
         refine Wy.y (y_fieldAddr (fa28_3ValB _) rfl) rfl ?_
         refine Wy.on' rfl rfl g_241_ ?_
         refine Wy.l (fun wq hq => l_load one9ValB rfl (by have hB_o0 := Blk.below hB_o0 hq; have hB_o2 := Blk.below hB_o2 hq; first | exact hB_o0.at rfl | exact hB_o2.at rfl | exact hB_o0.cell 0 | exact hB_o2.cell 0 | assumption)) rfl ?_
         refine Wy.on' rfl rfl g_241_ ?_
         refine Wy.y (y_eqls rfl rfl) rfl ?_
         refine Wy.y (y_pickT rfl g_241_ rfl) rfl ?_
         refine Wy.y (y_move rfl) rfl ?_
         refine Wy.guardT rfl rfl rfl (fun g_249 => ?_) (fun g_249 => ?_)
         ·
          have g_249_ := g_249
          try simp only [decide_eq_true_eq, decide_eq_false_iff_not, beq_iff_eq, beq_eq_false_iff_ne, bne_iff_ne, bne_eq_false_iff_eq, Bool.not_eq_true', Bool.not_eq_false', Bool.not_eq_eq_eq_not, Bool.not_true, Bool.not_false, ne_eq, Int.not_lt, Int.not_le] at g_249
          refine Wy.y (y_fieldAddr (fa28_2ValB _) rfl) rfl ?_
          refine Wy.on' rfl rfl g_249_ ?_
          refine Wy.l (fun wq hq => l_load one26ValB rfl (by have hB_o0 := Blk.below hB_o0 hq; have hB_o2 := Blk.below hB_o2 hq; first | exact hB_o0.at rfl | exact hB_o2.at rfl | exact hB_o0.cell 0 | exact hB_o2.cell 0 | assumption)) rfl ?_
          refine Wy.on' rfl rfl g_249_ ?_
          refine Wy.y (y_f2b exn53ValB rfl rfl) rfl ?_
          refine Wy.on' rfl rfl g_249_ ?_
          refine Wy.y (y_fieldAddr (fa28_2ValB _) rfl) rfl ?_
          refine Wy.on' rfl rfl g_249_ ?_
          refine Wy.l (fun wq hq => l_load one26ValB rfl (by have hB_o0 := Blk.below hB_o0 hq; have hB_o2 := Blk.below hB_o2 hq; first | exact hB_o0.at rfl | exact hB_o2.at rfl | exact hB_o0.cell 0 | exact hB_o2.cell 0 | assumption)) rfl ?_
          refine Wy.on' rfl rfl g_249_ ?_
          refine Wy.y (y_f2b exn53ValB rfl rfl) rfl ?_
          refine Wy.on' rfl rfl g_249_ ?_
          refine Wy.y (y_eqli rfl rfl) rfl ?_
          refine Wy.y (y_pickT rfl g_249_ rfl) rfl ?_
          refine Wy.y (y_assign rfl) rfl ?_
          refine Wy.nil fun w_g14 hs_g14 => ?_
          have hz_g14 := hs_g14.size
          have hb := hb.trans (hs_g14.mono hb.size)
          refine Wq.next hK_226 ?_
          refine Wc.ret ?_
          refine ret1 rfl rfl ?_
          exact ⟨_, rfl, bool_eq (by rw [right4 c4_222]; first | exact absurd c4_222 g_233 | (exfalso; have h := g_249_; simp at h; done) | (exfalso; have h := g_241_; simp at h; done) | (simp [g_241, g_249, beq0, beqC]; done) | (simp [g_241, beq0, beqC]; done) | (simp [g_249, beq0, beqC]; done)), hb⟩
         ·
          have g_249_ := g_249
          try simp only [decide_eq_true_eq, decide_eq_false_iff_not, beq_iff_eq, beq_eq_false_iff_ne, bne_iff_ne, bne_eq_false_iff_eq, Bool.not_eq_true', Bool.not_eq_false', Bool.not_eq_eq_eq_not, Bool.not_true, Bool.not_false, ne_eq, Int.not_lt, Int.not_le] at g_249
          refine Wy.off' rfl rfl g_249_ rfl rfl ?_
          refine Wy.off' rfl rfl g_249_ rfl rfl ?_
          refine Wy.off' rfl rfl g_249_ rfl rfl ?_
          refine Wy.off' rfl rfl g_249_ rfl rfl ?_
          refine Wy.off' rfl rfl g_249_ rfl rfl ?_
          refine Wy.off' rfl rfl g_249_ rfl rfl ?_
          refine Wy.y (y_pickF rfl g_249_ rfl) rfl ?_
          refine Wy.y (y_assign rfl) rfl ?_
          refine Wy.nil fun w_g14 hs_g14 => ?_
          have hz_g14 := hs_g14.size
          have hb := hb.trans (hs_g14.mono hb.size)
          refine Wq.next hK_226 ?_
          refine Wc.ret ?_
          refine ret1 rfl rfl ?_
          exact ⟨_, rfl, bool_eq (by rw [right4 c4_222]; first | exact absurd c4_222 g_233 | (exfalso; have h := g_249_; simp at h; done) | (exfalso; have h := g_241_; simp at h; done) | (simp [g_241, g_249, beq0, beqC]; done) | (simp [g_241, beq0, beqC]; done) | (simp [g_249, beq0, beqC]; done)), hb⟩
        ·
         have g_241_ := g_241
         try simp only [decide_eq_true_eq, decide_eq_false_iff_not, beq_iff_eq, beq_eq_false_iff_ne, bne_iff_ne, bne_eq_false_iff_eq, Bool.not_eq_true', Bool.not_eq_false', Bool.not_eq_eq_eq_not, Bool.not_true, Bool.not_false, ne_eq, Int.not_lt, Int.not_le] at g_241
         refine Wy.off' rfl rfl g_241_ rfl rfl ?_
         refine Wy.off' rfl rfl g_241_ rfl rfl ?_
         refine Wy.off' rfl rfl g_241_ rfl rfl ?_
         refine Wy.off' rfl rfl g_241_ rfl rfl ?_
         refine Wy.y (y_pickF rfl g_241_ rfl) rfl ?_
         refine Wy.y (y_move rfl) rfl ?_
         refine Wy.off' rfl rfl rfl rfl rfl ?_
         refine Wy.off' rfl rfl rfl rfl rfl ?_
         refine Wy.off' rfl rfl rfl rfl rfl ?_
         refine Wy.off' rfl rfl rfl rfl rfl ?_
         refine Wy.off' rfl rfl rfl rfl rfl ?_
         refine Wy.off' rfl rfl rfl rfl rfl ?_
         refine Wy.off' rfl rfl rfl rfl rfl ?_
         refine Wy.y (y_pickF rfl rfl rfl) rfl ?_
         refine Wy.y (y_assign rfl) rfl ?_
         refine Wy.nil fun w_g14 hs_g14 => ?_
         have hz_g14 := hs_g14.size
         have hb := hb.trans (hs_g14.mono hb.size)
         refine Wq.next hK_226 ?_
         refine Wc.ret ?_
         refine ret1 rfl rfl ?_
         exact ⟨_, rfl, bool_eq (by rw [right4 c4_222]; first | exact absurd c4_222 g_233 | (exfalso; have h := MISSING_o38_; simp at h; done) | (exfalso; have h := g_241_; simp at h; done) | (simp [g_241, MISSING_o38, beq0, beqC]; done) | (simp [g_241, beq0, beqC]; done) | (simp [MISSING_o38, beq0, beqC]; done)), hb⟩
       ·
        have g_233_ := g_233
        try simp only [decide_eq_true_eq, decide_eq_false_iff_not, beq_iff_eq, beq_eq_false_iff_ne, bne_iff_ne, bne_eq_false_iff_eq, Bool.not_eq_true', Bool.not_eq_false', Bool.not_eq_eq_eq_not, Bool.not_true, Bool.not_false, ne_eq, Int.not_lt, Int.not_le] at g_233
        refine Wy.off' rfl rfl g_233_ rfl rfl ?_
        refine Wy.off' rfl rfl g_233_ rfl rfl ?_
        refine Wy.off' rfl rfl g_233_ rfl rfl ?_
        refine Wy.off' rfl rfl g_233_ rfl rfl ?_
        refine Wy.y (y_pickF rfl g_233_ rfl) rfl ?_
        refine Wy.y (y_move rfl) rfl ?_
        refine Wy.off' rfl rfl rfl rfl rfl ?_
        refine Wy.off' rfl rfl rfl rfl rfl ?_
        refine Wy.off' rfl rfl rfl rfl rfl ?_
        refine Wy.off' rfl rfl rfl rfl rfl ?_
        refine Wy.off' rfl rfl rfl rfl rfl ?_
        refine Wy.y (y_pickF rfl rfl rfl) rfl ?_
        refine Wy.y (y_move rfl) rfl ?_
        refine Wy.off' rfl rfl rfl rfl rfl ?_
        refine Wy.off' rfl rfl rfl rfl rfl ?_
        refine Wy.off' rfl rfl rfl rfl rfl ?_
        refine Wy.off' rfl rfl rfl rfl rfl ?_
        refine Wy.off' rfl rfl rfl rfl rfl ?_
        refine Wy.off' rfl rfl rfl rfl rfl ?_
        refine Wy.off' rfl rfl rfl rfl rfl ?_
        refine Wy.y (y_pickF rfl rfl rfl) rfl ?_
        refine Wy.y (y_assign rfl) rfl ?_
        refine Wy.nil fun w_g14 hs_g14 => ?_
        have hz_g14 := hs_g14.size
        have hb := hb.trans (hs_g14.mono hb.size)
        refine Wq.next hK_226 ?_
        refine Wc.ret ?_
        refine ret1 rfl rfl ?_
        exact ⟨_, rfl, bool_eq (by rw [right4 c4_222]; first | exact absurd c4_222 g_233 | (exfalso; have h := MISSING_o38_; simp at h; done) | (exfalso; have h := MISSING_o33_; simp at h; done) | (simp [MISSING_o33, MISSING_o38, beq0, beqC]; done) | (simp [MISSING_o33, beq0, beqC]; done) | (simp [MISSING_o38, beq0, beqC]; done)), hb⟩
      ·
       try simp only [decide_eq_true_eq, decide_eq_false_iff_not, beq_iff_eq, beq_eq_false_iff_ne, bne_iff_ne, bne_eq_false_iff_eq, Bool.not_eq_true', Bool.not_eq_false', Bool.not_eq_eq_eq_not, Bool.not_true, Bool.not_false, ne_eq, Int.not_lt, Int.not_le] at c4_222
       refine Wc.seq fun _ hK_271 => ?_
       refine Wc.region ?_
       refine Wl.y (y_assign rfl) rfl ?_
       refine Wl.nil ?_
       refine Wq.next hK_271 ?_
       refine Wc.ret ?_
       refine Wq.block_ret (Wq.then_ret ?_)
       refine ret1 rfl rfl ?_
       exact ⟨_, rfl, bool_eq (by unfold rightV; rw [if_neg c0_14, if_neg c1_64, if_neg c2_117, if_neg c3_169, if_neg c4_222]), hb⟩

theorem tests1_r (c : Int) (w : World) : Ret Tryz.prog 109 [.int .i64 c] w fun v w' => v = .bool (c == 0) ∧ w' = w := by
  refine enter Tryz.func109 rfl rfl rfl ?_
  refine Wc.seq fun _ hK_1 => ?_
  refine Wc.region ?_
  refine Wl.y (y_assign rfl) rfl ?_
  refine Wl.nil ?_
  refine Wq.next hK_1 ?_
  refine Wc.seq fun _ hK_3 => ?_
  refine Wc.region ?_
  refine Wl.y (y_move rfl) rfl ?_
  refine Wl.y (y_eqli rfl rfl) rfl ?_
  refine Wl.y (y_assign rfl) rfl ?_
  refine Wl.nil ?_
  refine Wq.next hK_3 ?_
  refine Wc.ret ?_
  refine ret1 rfl rfl ?_
  exact ⟨_, rfl, rfl, rfl⟩
theorem tests2_r (c : Int) (w : World) : Ret Tryz.prog 110 [.int .i64 c] w fun v w' => v = .bool (c != 0) ∧ w' = w := by
  refine enter Tryz.func110 rfl rfl rfl ?_
  refine Wc.seq fun _ hK_1 => ?_
  refine Wc.region ?_
  refine Wl.y (y_assign rfl) rfl ?_
  refine Wl.nil ?_
  refine Wq.next hK_1 ?_
  refine Wc.seq fun _ hK_3 => ?_
  refine Wc.region ?_
  refine Wl.y (y_move rfl) rfl ?_
  refine Wl.y (y_neqi rfl rfl) rfl ?_
  refine Wl.y (y_assign rfl) rfl ?_
  refine Wl.nil ?_
  refine Wq.next hK_3 ?_
  refine Wc.ret ?_
  refine ret1 rfl rfl ?_
  exact ⟨_, rfl, rfl, rfl⟩
theorem tests3_r (c : Int) (w : World) : Ret Tryz.prog 111 [.int .i64 c] w fun v w' => v = .bool (decide (c < 0)) ∧ w' = w := by
  refine enter Tryz.func111 rfl rfl rfl ?_
  refine Wc.seq fun _ hK_1 => ?_
  refine Wc.region ?_
  refine Wl.y (y_assign rfl) rfl ?_
  refine Wl.nil ?_
  refine Wq.next hK_1 ?_
  refine Wc.seq fun _ hK_3 => ?_
  refine Wc.region ?_
  refine Wl.y (y_move rfl) rfl ?_
  refine Wl.y (y_lssi rfl rfl) rfl ?_
  refine Wl.y (y_assign rfl) rfl ?_
  refine Wl.nil ?_
  refine Wq.next hK_3 ?_
  refine Wc.ret ?_
  refine ret1 rfl rfl ?_
  exact ⟨_, rfl, rfl, rfl⟩
theorem tests4_r (c : Int) (w : World) : Ret Tryz.prog 112 [.int .i64 c] w fun v w' => v = .bool (decide (c ≤ 0)) ∧ w' = w := by
  refine enter Tryz.func112 rfl rfl rfl ?_
  refine Wc.seq fun _ hK_1 => ?_
  refine Wc.region ?_
  refine Wl.y (y_assign rfl) rfl ?_
  refine Wl.nil ?_
  refine Wq.next hK_1 ?_
  refine Wc.seq fun _ hK_3 => ?_
  refine Wc.region ?_
  refine Wl.y (y_move rfl) rfl ?_
  refine Wl.y (y_leqi rfl rfl) rfl ?_
  refine Wl.y (y_assign rfl) rfl ?_
  refine Wl.nil ?_
  refine Wq.next hK_3 ?_
  refine Wc.ret ?_
  refine ret1 rfl rfl ?_
  exact ⟨_, rfl, rfl, rfl⟩
theorem tests5_r (c : Int) (w : World) : Ret Tryz.prog 113 [.int .i64 c] w fun v w' => v = .bool (decide (c > 0)) ∧ w' = w := by
  refine enter Tryz.func113 rfl rfl rfl ?_
  refine Wc.seq fun _ hK_1 => ?_
  refine Wc.region ?_
  refine Wl.y (y_assign rfl) rfl ?_
  refine Wl.nil ?_
  refine Wq.next hK_1 ?_
  refine Wc.seq fun _ hK_3 => ?_
  refine Wc.region ?_
  refine Wl.y (y_move rfl) rfl ?_
  refine Wl.y (y_gtri rfl rfl) rfl ?_
  refine Wl.y (y_assign rfl) rfl ?_
  refine Wl.nil ?_
  refine Wq.next hK_3 ?_
  refine Wc.ret ?_
  refine ret1 rfl rfl ?_
  exact ⟨_, rfl, rfl, rfl⟩
theorem tests6_r (c : Int) (w : World) : Ret Tryz.prog 114 [.int .i64 c] w fun v w' => v = .bool (decide (c ≥ 0)) ∧ w' = w := by
  refine enter Tryz.func114 rfl rfl rfl ?_
  refine Wc.seq fun _ hK_1 => ?_
  refine Wc.region ?_
  refine Wl.y (y_assign rfl) rfl ?_
  refine Wl.nil ?_
  refine Wq.next hK_1 ?_
  refine Wc.seq fun _ hK_3 => ?_
  refine Wc.region ?_
  refine Wl.y (y_move rfl) rfl ?_
  refine Wl.y (y_geqi rfl rfl) rfl ?_
  refine Wl.y (y_assign rfl) rfl ?_
  refine Wl.nil ?_
  refine Wq.next hK_3 ?_
  refine Wc.ret ?_
  refine ret1 rfl rfl ?_
  exact ⟨_, rfl, rfl, rfl⟩
def fv (f : Nat) : Value := .func (.func f) #[] #[]
def testsKV : List (List UInt8 × Value) := [([61], fv 109), ([60, 62], fv 110), ([60], fv 111), ([60, 61], fv 112), ([62], fv 113), ([62, 61], fv 114)]
theorem tests_r (w : World) : Ret Tryz.prog 59 [] w fun v w' => (∃ g, v = .map (some g) ∧ w.heap.size ≤ g ∧ Mp w' g testsKV) ∧ Below w.heap.size w w' := by
  have hb := Below.refl w.heap.size w
  refine enter Tryz.func59 rfl rfl rfl ?_
  refine Wc.seq fun _ hK_1 => ?_
  refine Wc.region ?_
  refine Wl.y (y_assign rfl) rfl ?_
  refine Wl.nil ?_
  refine Wq.next hK_1 ?_
  refine Wc.seq fun _ hK_3 => ?_
  refine Wc.region ?_
  refine Wl.makeMap rfl ?_
  rintro g_o1 w_o1 hg_o1 hn_o1 hs_o1
  have hz_o1 := hs_o1.size
  have hb := hb.trans (hs_o1.mono hb.size)
  have hM_o1 := hn_o1
  have hl_o1 := hM_o1.lt
  refine Wl.insert Tryz.underlying90 Tryz.underlying9 rfl rfl rfl hM_o1 (by rfl) ?_
  rintro w_o2 hn_o2 hg_o2
  have hz_o2 := hg_o2.size
  have hb := below_blk hb hg_o2 hb.size (by omega)
  have hM_o1 := hn_o2
  refine Wl.insert Tryz.underlying90 Tryz.underlying9 rfl rfl rfl hM_o1 (by rfl) ?_
  rintro w_o3 hn_o3 hg_o3
  have hz_o3 := hg_o3.size
  have hb := below_blk hb hg_o3 hb.size (by omega)
  have hM_o1 := hn_o3
  refine Wl.insert Tryz.underlying90 Tryz.underlying9 rfl rfl rfl hM_o1 (by rfl) ?_
  rintro w_o4 hn_o4 hg_o4
  have hz_o4 := hg_o4.size
  have hb := below_blk hb hg_o4 hb.size (by omega)
  have hM_o1 := hn_o4
  refine Wl.insert Tryz.underlying90 Tryz.underlying9 rfl rfl rfl hM_o1 (by rfl) ?_
  rintro w_o5 hn_o5 hg_o5
  have hz_o5 := hg_o5.size
  have hb := below_blk hb hg_o5 hb.size (by omega)
  have hM_o1 := hn_o5
  refine Wl.insert Tryz.underlying90 Tryz.underlying9 rfl rfl rfl hM_o1 (by rfl) ?_
  rintro w_o6 hn_o6 hg_o6
  have hz_o6 := hg_o6.size
  have hb := below_blk hb hg_o6 hb.size (by omega)
  have hM_o1 := hn_o6
  refine Wl.insert Tryz.underlying90 Tryz.underlying9 rfl rfl rfl hM_o1 (by rfl) ?_
  rintro w_o7 hn_o7 hg_o7
  have hz_o7 := hg_o7.size
  have hb := below_blk hb hg_o7 hb.size (by omega)
  have hM_o1 := hn_o7
  refine Wl.y (y_move rfl) rfl ?_
  refine Wl.y (y_assign rfl) rfl ?_
  refine Wl.nil ?_
  refine Wq.next hK_3 ?_
  refine Wc.ret ?_
  refine ret1 rfl rfl ?_
  exact ⟨_, rfl, ⟨_, rfl, hg_o1, hM_o1⟩, hb⟩
theorem look_none (op : List UInt8) : (mlook testsKV op).isSome = !(holdsV op 0).isNone := by
  unfold mlook testsKV holdsV
  simp only [List.find?_cons]
  repeat' split
  all_goals simp_all
theorem txt_t1 : Txt Tryz.prog 109 := ⟨_, Tryz.func109, by kernel_rfl, rfl⟩
theorem txt_t2 : Txt Tryz.prog 110 := ⟨_, Tryz.func110, by kernel_rfl, rfl⟩
theorem txt_t3 : Txt Tryz.prog 111 := ⟨_, Tryz.func111, by kernel_rfl, rfl⟩
theorem txt_t4 : Txt Tryz.prog 112 := ⟨_, Tryz.func112, by kernel_rfl, rfl⟩
theorem txt_t5 : Txt Tryz.prog 113 := ⟨_, Tryz.func113, by kernel_rfl, rfl⟩
theorem txt_t6 : Txt Tryz.prog 114 := ⟨_, Tryz.func114, by kernel_rfl, rfl⟩
theorem look_fn (op : List UInt8) (h : (mlook testsKV op).isSome = true) : ∃ f, (mlook testsKV op).getD .nilFunc = .func (.func f) #[] #[] ∧ Txt Tryz.prog f ∧ ∀ c w, Ret Tryz.prog f [.int .i64 c] w fun v w' => v = .bool ((holdsV op c).getD false) ∧ w' = w := by
  by_cases h1 : op = [61]
  · subst h1; exact ⟨_, rfl, txt_t1, tests1_r⟩
  by_cases h2 : op = [60, 62]
  · subst h2; exact ⟨_, rfl, txt_t2, tests2_r⟩
  by_cases h3 : op = [60]
  · subst h3; exact ⟨_, rfl, txt_t3, tests3_r⟩
  by_cases h4 : op = [60, 61]
  · subst h4; exact ⟨_, rfl, txt_t4, tests4_r⟩
  by_cases h5 : op = [62]
  · subst h5; exact ⟨_, rfl, txt_t5, tests5_r⟩
  by_cases h6 : op = [62, 61]
  · subst h6; exact ⟨_, rfl, txt_t6, tests6_r⟩
  exfalso
  rw [look_none] at h
  unfold holdsV at h
  rw [if_neg h1, if_neg h2, if_neg h3, if_neg h4, if_neg h5, if_neg h6] at h
  cases h
theorem beq_dec (x y : List UInt8) : (x == y) = decide (x = y) := by rw [Bool.eq_iff_iff]; simp
theorem Test_r (op : List UInt8) (a b : Val) (oa : a.Ok) (ob : b.Ok) (w : World) : Ret Tryz.prog 27 [str op, a.enc, b.enc] w fun v w' => v = .tuple #[(testV op a b).1.enc, .int .i64 (testV op a b).2] ∧ Below w.heap.size w w' := by
  have hN : (holdsV op 0).isNone = !(mlook testsKV op).isSome := by rw [look_none, Bool.not_not]
  have hb := Below.refl w.heap.size w
  refine enter Tryz.func27 rfl rfl rfl ?_
  refine Wc.seq fun _ hK_1 => ?_
  refine Wc.region ?_
  refine Wl.boxN rfl rfl ?_
  rintro g_o0 w_o0 hg_o0 hn_o0 hs_o0
  have hz_o0 := hs_o0.size
  have hb := hb.trans (hs_o0.mono hb.size)
  have hB_o0 := hn_o0
  have hl_o0 := hB_o0.lt
  refine Wl.boxN rfl rfl ?_
  rintro g_o1 w_o1 hg_o1 hn_o1 hs_o1
  have hz_o1 := hs_o1.size
  have hb := hb.trans (hs_o1.mono hb.size)
  try have hB_o0 := Blk.below hB_o0 hs_o1
  have hB_o1 := hn_o1
  have hl_o1 := hB_o1.lt
  refine Wl.allocN (z := (.agg #[(.int .i64 0), (.int .i64 0), (.float .f64 0), (str [])])) (by kernel_rfl) rfl ?_
  rintro g_o2 w_o2 hg_o2 hn_o2 hs_o2
  have hz_o2 := hs_o2.size
  have hb := hb.trans (hs_o2.mono hb.size)
  try have hB_o0 := Blk.below hB_o0 hs_o2
  try have hB_o1 := Blk.below hB_o1 hs_o2
  have hB_o2 := hn_o2
  have hl_o2 := hB_o2.lt
  refine Wl.y (y_assign rfl) rfl ?_
  refine Wl.nil ?_
  refine Wq.next hK_1 ?_
  refine Wc.seq fun _ hK_6 => ?_
  refine Wc.region ?_
  refine Wl.call txt59ValB rfl rfl (tests_r _) rfl ?_
  rintro _ w_k0 ⟨⟨g, rfl, hgm, hM⟩, hs_k0⟩
  have hz_k0 := hs_k0.size
  have hb := hb.trans (hs_k0.mono hb.size)
  try have hB_o0 := Blk.below hB_o0 hs_k0
  try have hB_o1 := Blk.below hB_o1 hs_k0
  try have hB_o2 := Blk.below hB_o2 hs_k0
  refine Wl.y (y_move rfl) rfl ?_
  refine Wl.l (l_lookup (z := .nilFunc) Tryz.underlying90 Tryz.underlying9 (by kernel_rfl) rfl rfl (by exact hM)) rfl ?_
  refine Wl.y (y_move rfl) rfl ?_
  refine Wl.y (y_extract rfl rfl) rfl ?_
  refine Wl.y (y_extract rfl rfl) rfl ?_
  refine Wl.y (y_assign rfl) rfl ?_
  refine Wl.y (y_assign rfl) rfl ?_
  refine Wl.nil ?_
  refine Wq.next hK_6 ?_
  refine Wc.seq fun _ hK_15 => ?_
  refine Wc.block ?_
  refine Wc.seq fun _ hK_16 => ?_
  refine Wc.region ?_
  refine Wl.y (y_move rfl) rfl ?_
  refine Wl.y (y_not rfl) rfl ?_
  refine Wl.y (y_move rfl) rfl ?_
  refine Wl.guardF rfl rfl rfl (fun g_20 => ?_) (fun g_20 => ?_)
  ·
   have g_20_ := g_20
   refine Wl.off' rfl rfl g_20_ rfl rfl ?_
   refine Wl.off' rfl rfl g_20_ rfl rfl ?_
   refine Wl.y (y_pickT rfl g_20_ rfl) rfl ?_
   refine Wl.y (y_move rfl) rfl ?_
   refine Wl.off' rfl rfl rfl rfl rfl ?_
   refine Wl.off' rfl rfl rfl rfl rfl ?_
   refine Wl.off' rfl rfl rfl rfl rfl ?_
   refine Wl.y (y_pickT rfl rfl rfl) rfl ?_
   refine Wl.y (y_assign rfl) rfl ?_
   refine Wl.nil ?_
   refine Wq.next hK_16 ?_
   refine Wc.condT rfl rfl ?_
   refine Wc.seq fun _ hK_25 => ?_
   refine Wc.region ?_
   refine Wl.y (y_buildS (z := [(.int .i64 0), (.int .i64 0), (.float .f64 0), (str [])]) (pl := [(0, 1), (1, 1), (2, 1), (3, 1)]) (cs := [_, _, _, _]) Tryz.underlying28 (by kernel_rfl) (by kernel_rfl) rfl rfl rfl) rfl ?_
   refine Wl.storeS (by kernel_rfl) rfl rfl hB_o2 rfl rfl ?_
   rintro w_s0 hn_s0 hg_s0
   have hz_s0 := hg_s0.size
   have hb := below_blk hb hg_s0 hb.size (by omega)
   try have hM := hM.over hg_s0 (by omega)
   have hB_o2 := hn_s0
   refine Wl.y (y_assign rfl) rfl ?_
   refine Wl.nil ?_
   refine Wq.next hK_25 ?_
   refine Wc.ret ?_
   refine Wq.block_ret (Wq.then_ret ?_)
   refine retN (rs := [.cell 6 28, .tmp 7]) (vs := [_, _]) rfl (.cell rfl (loadS Tryz.underlying28 (by kernel_rfl) (fun j u hu => hB_o2.at hu)) (.tmp rfl .nil)) ?_
   first | exact ⟨_, rfl, by unfold testV; rw [hN]; clear hN; simp_all <;> first | rfl | (rw [beq_dec]; rfl), hb⟩
  ·
   have g_20_ := g_20
   refine Wl.l (l_loadS Tryz.underlying28 (by kernel_rfl) rfl (by first | exact fun j u hu => hB_o0.at hu | exact fun j u hu => hB_o1.at hu | exact fun j u hu => hB_o2.at hu | assumption)) rfl ?_
   refine Wl.on' rfl rfl g_20_ ?_
   refine Wl.call txt19ValB rfl rfl (Right_r a oa _) rfl ?_
   rintro _ w_k1 ⟨rfl, hs_k1⟩
   have hz_k1 := hs_k1.size
   have hb := hb.trans (hs_k1.mono hb.size)
   try have hB_o0 := Blk.below hB_o0 hs_k1
   try have hB_o1 := Blk.below hB_o1 hs_k1
   try have hB_o2 := Blk.below hB_o2 hs_k1
   try have hM := Mp.below hM hs_k1
   refine Wl.on' rfl rfl g_20_ ?_
   refine Wl.y (y_not rfl) rfl ?_
   refine Wl.y (y_pickF rfl g_20_ rfl) rfl ?_
   refine Wl.y (y_move rfl) rfl ?_
   refine Wl.guardF rfl rfl rfl (fun g_33 => ?_) (fun g_33 => ?_)
   ·
    have g_33_ := g_33
    refine Wl.off' rfl rfl g_33_ rfl rfl ?_
    refine Wl.off' rfl rfl g_33_ rfl rfl ?_
    refine Wl.y (y_pickT rfl g_33_ rfl) rfl ?_
    refine Wl.y (y_assign rfl) rfl ?_
    refine Wl.nil ?_
    refine Wq.next hK_16 ?_
    refine Wc.condT rfl rfl ?_
    refine Wc.seq fun _ hK_36 => ?_
    refine Wc.region ?_
    refine Wl.y (y_buildS (z := [(.int .i64 0), (.int .i64 0), (.float .f64 0), (str [])]) (pl := [(0, 1), (1, 1), (2, 1), (3, 1)]) (cs := [_, _, _, _]) Tryz.underlying28 (by kernel_rfl) (by kernel_rfl) rfl rfl rfl) rfl ?_
    refine Wl.storeS (by kernel_rfl) rfl rfl hB_o2 rfl rfl ?_
    rintro w_s0 hn_s0 hg_s0
    have hz_s0 := hg_s0.size
    have hb := below_blk hb hg_s0 hb.size (by omega)
    try have hM := hM.over hg_s0 (by omega)
    have hB_o2 := hn_s0
    refine Wl.y (y_assign rfl) rfl ?_
    refine Wl.nil ?_
    refine Wq.next hK_36 ?_
    refine Wc.ret ?_
    refine Wq.block_ret (Wq.then_ret ?_)
    refine retN (rs := [.cell 6 28, .tmp 7]) (vs := [_, _]) rfl (.cell rfl (loadS Tryz.underlying28 (by kernel_rfl) (fun j u hu => hB_o2.at hu)) (.tmp rfl .nil)) ?_
    first | exact ⟨_, rfl, by unfold testV; rw [hN]; clear hN; simp_all <;> first | rfl | (rw [beq_dec]; rfl), hb⟩
   ·
    have g_33_ := g_33
    refine Wl.l (l_loadS Tryz.underlying28 (by kernel_rfl) rfl (by first | exact fun j u hu => hB_o0.at hu | exact fun j u hu => hB_o1.at hu | exact fun j u hu => hB_o2.at hu | assumption)) rfl ?_
    refine Wl.on' rfl rfl g_33_ ?_
    refine Wl.call txt19ValB rfl rfl (Right_r b ob _) rfl ?_
    rintro _ w_k2 ⟨rfl, hs_k2⟩
    have hz_k2 := hs_k2.size
    have hb := hb.trans (hs_k2.mono hb.size)
    try have hB_o0 := Blk.below hB_o0 hs_k2
    try have hB_o1 := Blk.below hB_o1 hs_k2
    try have hB_o2 := Blk.below hB_o2 hs_k2
    try have hM := Mp.below hM hs_k2
    refine Wl.on' rfl rfl g_33_ ?_
    refine Wl.y (y_not rfl) rfl ?_
    refine Wl.y (y_pickF rfl g_33_ rfl) rfl ?_
    refine Wl.y (y_assign rfl) rfl ?_
    refine Wl.nil ?_
    refine Wq.next hK_16 ?_
    refine Wc.cond rfl (fun c0_44 => ?_) (fun c0_44 => ?_)
    ·
     refine Wc.seq fun _ hK_45 => ?_
     refine Wc.region ?_
     refine Wl.y (y_buildS (z := [(.int .i64 0), (.int .i64 0), (.float .f64 0), (str [])]) (pl := [(0, 1), (1, 1), (2, 1), (3, 1)]) (cs := [_, _, _, _]) Tryz.underlying28 (by kernel_rfl) (by kernel_rfl) rfl rfl rfl) rfl ?_
     refine Wl.storeS (by kernel_rfl) rfl rfl hB_o2 rfl rfl ?_
     rintro w_s0 hn_s0 hg_s0
     have hz_s0 := hg_s0.size
     have hb := below_blk hb hg_s0 hb.size (by omega)
     try have hM := hM.over hg_s0 (by omega)
     have hB_o2 := hn_s0
     refine Wl.y (y_assign rfl) rfl ?_
     refine Wl.nil ?_
     refine Wq.next hK_45 ?_
     refine Wc.ret ?_
     refine Wq.block_ret (Wq.then_ret ?_)
     refine retN (rs := [.cell 6 28, .tmp 7]) (vs := [_, _]) rfl (.cell rfl (loadS Tryz.underlying28 (by kernel_rfl) (fun j u hu => hB_o2.at hu)) (.tmp rfl .nil)) ?_
     first | exact ⟨_, rfl, by unfold testV; rw [hN]; clear hN; simp_all <;> first | rfl | (rw [beq_dec]; rfl), hb⟩
    ·
     refine Wc.seq fun _ hK_48 => ?_
     refine Wc.region ?_
     refine Wl.y (y_fieldAddr (fa28_0ValB _) rfl) rfl ?_
     refine Wl.l (l_load one3ValB rfl (by first | exact hB_o0.at rfl | exact hB_o1.at rfl | exact hB_o2.at rfl | exact hB_o0.cell 0 | exact hB_o1.cell 0 | exact hB_o2.cell 0 | assumption)) rfl ?_
     refine Wl.y (y_eqli rfl rfl) rfl ?_
     refine Wl.y (y_move rfl) rfl ?_
     refine Wl.guardF rfl rfl rfl (fun g_53 => ?_) (fun g_53 => ?_)
     ·
      have g_53_ := g_53
      refine Wl.off' rfl rfl g_53_ rfl rfl ?_
      refine Wl.off' rfl rfl g_53_ rfl rfl ?_
      refine Wl.y (y_pickT rfl g_53_ rfl) rfl ?_
      refine Wl.y (y_assign rfl) rfl ?_
      refine Wl.nil ?_
      refine Wq.next hK_48 ?_
      refine Wc.condT rfl rfl ?_
      refine Wc.seq fun _ hK_56 => ?_
      refine Wc.region ?_
      refine Wl.y (y_buildS (z := [(.int .i64 0), (.int .i64 0), (.float .f64 0), (str [])]) (pl := [(0, 1), (1, 1), (2, 1), (3, 1)]) (cs := [_, _, _, _]) Tryz.underlying28 (by kernel_rfl) (by kernel_rfl) rfl rfl rfl) rfl ?_
      refine Wl.storeS (by kernel_rfl) rfl rfl hB_o2 rfl rfl ?_
      rintro w_s1 hn_s1 hg_s1
      have hz_s1 := hg_s1.size
      have hb := below_blk hb hg_s1 hb.size (by omega)
      try have hM := hM.over hg_s1 (by omega)
      have hB_o2 := hn_s1
      refine Wl.y (y_assign rfl) rfl ?_
      refine Wl.nil ?_
      refine Wq.next hK_56 ?_
      refine Wc.ret ?_
      refine Wq.block_ret (Wq.then_ret ?_)
      refine retN (rs := [.cell 6 28, .tmp 7]) (vs := [_, _]) rfl (.cell rfl (loadS Tryz.underlying28 (by kernel_rfl) (fun j u hu => hB_o2.at hu)) (.tmp rfl .nil)) ?_
      first | exact ⟨_, rfl, by unfold testV; rw [hN]; clear hN; simp_all <;> first | rfl | (rw [beq_dec]; rfl), hb⟩
     ·
      have g_53_ := g_53
      refine Wl.y (y_fieldAddr (fa28_0ValB _) rfl) rfl ?_
      refine Wl.on' rfl rfl g_53_ ?_
      refine Wl.l (l_load one3ValB rfl (by first | exact hB_o0.at rfl | exact hB_o1.at rfl | exact hB_o2.at rfl | exact hB_o0.cell 0 | exact hB_o1.cell 0 | exact hB_o2.cell 0 | assumption)) rfl ?_
      refine Wl.on' rfl rfl g_53_ ?_
      refine Wl.y (y_eqli rfl rfl) rfl ?_
      refine Wl.y (y_pickF rfl g_53_ rfl) rfl ?_
      refine Wl.y (y_assign rfl) rfl ?_
      refine Wl.nil ?_
      refine Wq.next hK_48 ?_
      refine Wc.cond rfl (fun c1_64 => ?_) (fun c1_64 => ?_)
      ·
       refine Wc.seq fun _ hK_65 => ?_
       refine Wc.region ?_
       refine Wl.y (y_buildS (z := [(.int .i64 0), (.int .i64 0), (.float .f64 0), (str [])]) (pl := [(0, 1), (1, 1), (2, 1), (3, 1)]) (cs := [_, _, _, _]) Tryz.underlying28 (by kernel_rfl) (by kernel_rfl) rfl rfl rfl) rfl ?_
       refine Wl.storeS (by kernel_rfl) rfl rfl hB_o2 rfl rfl ?_
       rintro w_s1 hn_s1 hg_s1
       have hz_s1 := hg_s1.size
       have hb := below_blk hb hg_s1 hb.size (by omega)
       try have hM := hM.over hg_s1 (by omega)
       have hB_o2 := hn_s1
       refine Wl.y (y_assign rfl) rfl ?_
       refine Wl.nil ?_
       refine Wq.next hK_65 ?_
       refine Wc.ret ?_
       refine Wq.block_ret (Wq.then_ret ?_)
       refine retN (rs := [.cell 6 28, .tmp 7]) (vs := [_, _]) rfl (.cell rfl (loadS Tryz.underlying28 (by kernel_rfl) (fun j u hu => hB_o2.at hu)) (.tmp rfl .nil)) ?_
       first | exact ⟨_, rfl, by unfold testV; rw [hN]; clear hN; simp_all <;> first | rfl | (rw [beq_dec]; rfl), hb⟩
      ·
       refine Wc.seq fun _ hK_68 => ?_
       refine Wc.region ?_
       refine Wl.y (y_fieldAddr (fa28_0ValB _) rfl) rfl ?_
       refine Wl.l (l_load one3ValB rfl (by first | exact hB_o0.at rfl | exact hB_o1.at rfl | exact hB_o2.at rfl | exact hB_o0.cell 0 | exact hB_o1.cell 0 | exact hB_o2.cell 0 | assumption)) rfl ?_
       refine Wl.y (y_fieldAddr (fa28_0ValB _) rfl) rfl ?_
       refine Wl.l (l_load one3ValB rfl (by first | exact hB_o0.at rfl | exact hB_o1.at rfl | exact hB_o2.at rfl | exact hB_o0.cell 0 | exact hB_o1.cell 0 | exact hB_o2.cell 0 | assumption)) rfl ?_
       refine Wl.y (y_neqi rfl rfl) rfl ?_
       refine Wl.y (y_move rfl) rfl ?_
       refine Wl.guardT rfl rfl rfl (fun g_75 => ?_) (fun g_75 => ?_)
       ·
        have g_75_ := g_75
        refine Wl.l (l_loadS Tryz.underlying28 (by kernel_rfl) rfl (by first | exact fun j u hu => hB_o0.at hu | exact fun j u hu => hB_o1.at hu | exact fun j u hu => hB_o2.at hu | assumption)) rfl ?_
        refine Wl.on' rfl rfl g_75_ ?_
        refine Wl.call txt60ValB rfl rfl (number_r a _) rfl ?_
        rintro _ w_k3 ⟨rfl, hs_k3⟩
        have hz_k3 := hs_k3.size
        have hb := hb.trans (hs_k3.mono hb.size)
        try have hB_o0 := Blk.below hB_o0 hs_k3
        try have hB_o1 := Blk.below hB_o1 hs_k3
        try have hB_o2 := Blk.below hB_o2 hs_k3
        try have hM := Mp.below hM hs_k3
        refine Wl.on' rfl rfl g_75_ ?_
        refine Wl.y (y_not rfl) rfl ?_
        refine Wl.on' rfl rfl g_75_ ?_
        refine Wl.y (y_move rfl) rfl ?_
        refine Wl.guardF rfl rfl rfl (fun g_80 => ?_) (fun g_80 => ?_)
        ·
         have g_80_ := g_80
         refine Wl.off' rfl rfl g_80_ rfl rfl ?_
         refine Wl.off' rfl rfl g_80_ rfl rfl ?_
         refine Wl.on' rfl rfl g_75_ ?_
         refine Wl.y (y_pickT rfl g_80_ rfl) rfl ?_
         refine Wl.y (y_pickT rfl g_75_ rfl) rfl ?_
         refine Wl.y (y_assign rfl) rfl ?_
         refine Wl.nil ?_
         refine Wq.next hK_68 ?_
         refine Wc.condT rfl rfl ?_
         refine Wc.seq fun _ hK_84 => ?_
         refine Wc.region ?_
         refine Wl.y (y_buildS (z := [(.int .i64 0), (.int .i64 0), (.float .f64 0), (str [])]) (pl := [(0, 1), (1, 1), (2, 1), (3, 1)]) (cs := [_, _, _, _]) Tryz.underlying28 (by kernel_rfl) (by kernel_rfl) rfl rfl rfl) rfl ?_
         refine Wl.storeS (by kernel_rfl) rfl rfl hB_o2 rfl rfl ?_
         rintro w_s2 hn_s2 hg_s2
         have hz_s2 := hg_s2.size
         have hb := below_blk hb hg_s2 hb.size (by omega)
         try have hM := hM.over hg_s2 (by omega)
         have hB_o2 := hn_s2
         refine Wl.y (y_assign rfl) rfl ?_
         refine Wl.nil ?_
         refine Wq.next hK_84 ?_
         refine Wc.ret ?_
         refine Wq.block_ret (Wq.then_ret ?_)
         refine retN (rs := [.cell 6 28, .tmp 7]) (vs := [_, _]) rfl (.cell rfl (loadS Tryz.underlying28 (by kernel_rfl) (fun j u hu => hB_o2.at hu)) (.tmp rfl .nil)) ?_
         first | exact ⟨_, rfl, by unfold testV; rw [hN]; clear hN; simp_all <;> first | rfl | (rw [beq_dec]; rfl), hb⟩
        ·
         have g_80_ := g_80
         refine Wl.l (l_loadS Tryz.underlying28 (by kernel_rfl) rfl (by first | exact fun j u hu => hB_o0.at hu | exact fun j u hu => hB_o1.at hu | exact fun j u hu => hB_o2.at hu | assumption)) rfl ?_
         refine Wl.on' rfl rfl g_80_ ?_
         refine Wl.call txt60ValB rfl rfl (number_r b _) rfl ?_
         rintro _ w_k4 ⟨rfl, hs_k4⟩
         have hz_k4 := hs_k4.size
         have hb := hb.trans (hs_k4.mono hb.size)
         try have hB_o0 := Blk.below hB_o0 hs_k4
         try have hB_o1 := Blk.below hB_o1 hs_k4
         try have hB_o2 := Blk.below hB_o2 hs_k4
         try have hM := Mp.below hM hs_k4
         refine Wl.on' rfl rfl g_80_ ?_
         refine Wl.y (y_not rfl) rfl ?_
         refine Wl.on' rfl rfl g_75_ ?_
         refine Wl.y (y_pickF rfl g_80_ rfl) rfl ?_
         refine Wl.y (y_pickT rfl g_75_ rfl) rfl ?_
         refine Wl.y (y_assign rfl) rfl ?_
         refine Wl.nil ?_
         refine Wq.next hK_68 ?_
         refine Wc.cond rfl (fun c2_93 => ?_) (fun c2_93 => ?_)
         ·
          refine Wc.seq fun _ hK_94 => ?_
          refine Wc.region ?_
          refine Wl.y (y_buildS (z := [(.int .i64 0), (.int .i64 0), (.float .f64 0), (str [])]) (pl := [(0, 1), (1, 1), (2, 1), (3, 1)]) (cs := [_, _, _, _]) Tryz.underlying28 (by kernel_rfl) (by kernel_rfl) rfl rfl rfl) rfl ?_
          refine Wl.storeS (by kernel_rfl) rfl rfl hB_o2 rfl rfl ?_
          rintro w_s2 hn_s2 hg_s2
          have hz_s2 := hg_s2.size
          have hb := below_blk hb hg_s2 hb.size (by omega)
          try have hM := hM.over hg_s2 (by omega)
          have hB_o2 := hn_s2
          refine Wl.y (y_assign rfl) rfl ?_
          refine Wl.nil ?_
          refine Wq.next hK_94 ?_
          refine Wc.ret ?_
          refine Wq.block_ret (Wq.then_ret ?_)
          refine retN (rs := [.cell 6 28, .tmp 7]) (vs := [_, _]) rfl (.cell rfl (loadS Tryz.underlying28 (by kernel_rfl) (fun j u hu => hB_o2.at hu)) (.tmp rfl .nil)) ?_
          first | exact ⟨_, rfl, by unfold testV; rw [hN]; clear hN; simp_all <;> first | rfl | (rw [beq_dec]; rfl), hb⟩
         ·
          refine Wc.skip ?_
          refine Wq.block_normal ?_
          refine Wq.next hK_15 ?_
          refine Wc.seq fun _ hK_97 => ?_
          refine Wc.region ?_
          refine Wl.l (l_loadS Tryz.underlying28 (by kernel_rfl) rfl (by first | exact fun j u hu => hB_o0.at hu | exact fun j u hu => hB_o1.at hu | exact fun j u hu => hB_o2.at hu | assumption)) rfl ?_
          refine Wl.l (l_loadS Tryz.underlying28 (by kernel_rfl) rfl (by first | exact fun j u hu => hB_o0.at hu | exact fun j u hu => hB_o1.at hu | exact fun j u hu => hB_o2.at hu | assumption)) rfl ?_
          refine Wl.call txt61ValB rfl rfl (against_r a b oa ob _) rfl ?_
          rintro _ w_k5 ⟨rfl, hs_k5⟩
          have hz_k5 := hs_k5.size
          have hb := hb.trans (hs_k5.mono hb.size)
          try have hB_o2 := Blk.below hB_o2 hs_k5
          try have hM := Mp.below hM hs_k5
          refine Wl.y (y_move rfl) rfl ?_
          refine Wl.y (y_extract rfl rfl) rfl ?_
          refine Wl.y (y_extract rfl rfl) rfl ?_
          refine Wl.y (y_assign rfl) rfl ?_
          refine Wl.y (y_assign rfl) rfl ?_
          refine Wl.nil ?_
          refine Wq.next hK_97 ?_
          refine Wc.seq fun _ hK_106 => ?_
          refine Wc.seq fun _ hK_107 => ?_
          refine Wc.region ?_
          refine Wl.y (y_move rfl) rfl ?_
          refine Wl.y (y_not rfl) rfl ?_
          refine Wl.nil ?_
          refine Wq.next hK_107 ?_
          refine Wc.cond rfl (fun c3_110 => ?_) (fun c3_110 => ?_)
          ·
           refine Wc.seq fun _ hK_111 => ?_
           refine Wc.region ?_
           refine Wl.y (y_move rfl) rfl ?_
           refine Wl.y (y_eqls rfl rfl) rfl ?_
           refine Wl.call txt43ValB rfl rfl (truth_r _ _) rfl ?_
           rintro _ w_k6 ⟨rfl, hs_k6⟩
           have hz_k6 := hs_k6.size
           have hb := hb.trans (hs_k6.mono hb.size)
           try have hB_o2 := Blk.below hB_o2 hs_k6
           try have hM := Mp.below hM hs_k6
           refine Wl.storeS (by kernel_rfl) rfl rfl hB_o2 rfl rfl ?_
           rintro w_s3 hn_s3 hg_s3
           have hz_s3 := hg_s3.size
           have hb := below_blk hb hg_s3 hb.size (by omega)
           try have hM := hM.over hg_s3 (by omega)
           have hB_o2 := hn_s3
           refine Wl.y (y_assign rfl) rfl ?_
           refine Wl.nil ?_
           refine Wq.next hK_111 ?_
           refine Wc.ret ?_
           refine Wq.then_ret ?_
           refine retN (rs := [.cell 6 28, .tmp 7]) (vs := [_, _]) rfl (.cell rfl (loadS Tryz.underlying28 (by kernel_rfl) (fun j u hu => hB_o2.at hu)) (.tmp rfl .nil)) ?_
           first | exact ⟨_, rfl, by unfold testV; rw [hN]; clear hN; simp_all <;> first | rfl | (rw [beq_dec]; rfl), hb⟩
          ·
           refine Wc.skip ?_
           refine Wq.next hK_106 ?_
           refine Wc.seq fun _ hK_116 => ?_
           refine Wc.region ?_
           refine Wl.y (y_move rfl) rfl ?_
           refine Wl.y (y_move rfl) rfl ?_
           (obtain ⟨f, hfn, htx, hfr⟩ := look_fn op (by simp_all); refine Wl.call htx (congrArg some hfn) rfl (hfr _ _) rfl ?_; rintro _ w_ ⟨rfl, hw_⟩; have hw_ := hw_.symm; subst hw_)
           refine Wl.call txt43ValB rfl rfl (truth_r _ _) rfl ?_
           rintro _ w_k8 ⟨rfl, hs_k8⟩
           have hz_k8 := hs_k8.size
           have hb := hb.trans (hs_k8.mono hb.size)
           try have hB_o2 := Blk.below hB_o2 hs_k8
           try have hM := Mp.below hM hs_k8
           refine Wl.storeS (by kernel_rfl) rfl rfl hB_o2 rfl rfl ?_
           rintro w_s4 hn_s4 hg_s4
           have hz_s4 := hg_s4.size
           have hb := below_blk hb hg_s4 hb.size (by omega)
           try have hM := hM.over hg_s4 (by omega)
           have hB_o2 := hn_s4
           refine Wl.y (y_assign rfl) rfl ?_
           refine Wl.nil ?_
           refine Wq.next hK_116 ?_
           refine Wc.ret ?_
           refine retN (rs := [.cell 6 28, .tmp 7]) (vs := [_, _]) rfl (.cell rfl (loadS Tryz.underlying28 (by kernel_rfl) (fun j u hu => hB_o2.at hu)) (.tmp rfl .nil)) ?_
           first | exact ⟨_, rfl, by unfold testV; rw [hN]; clear hN; simp_all <;> first | rfl | (rw [beq_dec]; rfl), hb⟩
       ·
        have g_75_ := g_75
        refine Wl.off' rfl rfl g_75_ rfl rfl ?_
        refine Wl.off' rfl rfl g_75_ rfl rfl ?_
        refine Wl.off' rfl rfl g_75_ rfl rfl ?_
        refine Wl.offU rfl rfl rfl ?_
        refine Wl.offU rfl rfl rfl ?_
        refine Wl.offU rfl rfl rfl ?_
        refine Wl.off' rfl rfl g_75_ rfl rfl ?_
        refine Wl.y (y_pickF rfl g_75_ rfl) rfl ?_
        refine Wl.y (y_assign rfl) rfl ?_
        refine Wl.nil ?_
        refine Wq.next hK_68 ?_
        refine Wc.condF rfl rfl ?_
        refine Wc.skip ?_
        refine Wq.block_normal ?_
        refine Wq.next hK_15 ?_
        refine Wc.seq fun _ hK_124 => ?_
        refine Wc.region ?_
        refine Wl.l (l_loadS Tryz.underlying28 (by kernel_rfl) rfl (by first | exact fun j u hu => hB_o0.at hu | exact fun j u hu => hB_o1.at hu | exact fun j u hu => hB_o2.at hu | assumption)) rfl ?_
        refine Wl.l (l_loadS Tryz.underlying28 (by kernel_rfl) rfl (by first | exact fun j u hu => hB_o0.at hu | exact fun j u hu => hB_o1.at hu | exact fun j u hu => hB_o2.at hu | assumption)) rfl ?_
        refine Wl.call txt61ValB rfl rfl (against_r a b oa ob _) rfl ?_
        rintro _ w_k5 ⟨rfl, hs_k5⟩
        have hz_k5 := hs_k5.size
        have hb := hb.trans (hs_k5.mono hb.size)
        try have hB_o2 := Blk.below hB_o2 hs_k5
        try have hM := Mp.below hM hs_k5
        refine Wl.y (y_move rfl) rfl ?_
        refine Wl.y (y_extract rfl rfl) rfl ?_
        refine Wl.y (y_extract rfl rfl) rfl ?_
        refine Wl.y (y_assign rfl) rfl ?_
        refine Wl.y (y_assign rfl) rfl ?_
        refine Wl.nil ?_
        refine Wq.next hK_124 ?_
        refine Wc.seq fun _ hK_133 => ?_
        refine Wc.seq fun _ hK_134 => ?_
        refine Wc.region ?_
        refine Wl.y (y_move rfl) rfl ?_
        refine Wl.y (y_not rfl) rfl ?_
        refine Wl.nil ?_
        refine Wq.next hK_134 ?_
        refine Wc.cond rfl (fun c3_137 => ?_) (fun c3_137 => ?_)
        ·
         refine Wc.seq fun _ hK_138 => ?_
         refine Wc.region ?_
         refine Wl.y (y_move rfl) rfl ?_
         refine Wl.y (y_eqls rfl rfl) rfl ?_
         refine Wl.call txt43ValB rfl rfl (truth_r _ _) rfl ?_
         rintro _ w_k6 ⟨rfl, hs_k6⟩
         have hz_k6 := hs_k6.size
         have hb := hb.trans (hs_k6.mono hb.size)
         try have hB_o2 := Blk.below hB_o2 hs_k6
         try have hM := Mp.below hM hs_k6
         refine Wl.storeS (by kernel_rfl) rfl rfl hB_o2 rfl rfl ?_
         rintro w_s3 hn_s3 hg_s3
         have hz_s3 := hg_s3.size
         have hb := below_blk hb hg_s3 hb.size (by omega)
         try have hM := hM.over hg_s3 (by omega)
         have hB_o2 := hn_s3
         refine Wl.y (y_assign rfl) rfl ?_
         refine Wl.nil ?_
         refine Wq.next hK_138 ?_
         refine Wc.ret ?_
         refine Wq.then_ret ?_
         refine retN (rs := [.cell 6 28, .tmp 7]) (vs := [_, _]) rfl (.cell rfl (loadS Tryz.underlying28 (by kernel_rfl) (fun j u hu => hB_o2.at hu)) (.tmp rfl .nil)) ?_
         first | exact ⟨_, rfl, by unfold testV; rw [hN]; clear hN; simp_all <;> first | rfl | (rw [beq_dec]; rfl), hb⟩
        ·
         refine Wc.skip ?_
         refine Wq.next hK_133 ?_
         refine Wc.seq fun _ hK_143 => ?_
         refine Wc.region ?_
         refine Wl.y (y_move rfl) rfl ?_
         refine Wl.y (y_move rfl) rfl ?_
         (obtain ⟨f, hfn, htx, hfr⟩ := look_fn op (by simp_all); refine Wl.call htx (congrArg some hfn) rfl (hfr _ _) rfl ?_; rintro _ w_ ⟨rfl, hw_⟩; have hw_ := hw_.symm; subst hw_)
         refine Wl.call txt43ValB rfl rfl (truth_r _ _) rfl ?_
         rintro _ w_k8 ⟨rfl, hs_k8⟩
         have hz_k8 := hs_k8.size
         have hb := hb.trans (hs_k8.mono hb.size)
         try have hB_o2 := Blk.below hB_o2 hs_k8
         try have hM := Mp.below hM hs_k8
         refine Wl.storeS (by kernel_rfl) rfl rfl hB_o2 rfl rfl ?_
         rintro w_s4 hn_s4 hg_s4
         have hz_s4 := hg_s4.size
         have hb := below_blk hb hg_s4 hb.size (by omega)
         try have hM := hM.over hg_s4 (by omega)
         have hB_o2 := hn_s4
         refine Wl.y (y_assign rfl) rfl ?_
         refine Wl.nil ?_
         refine Wq.next hK_143 ?_
         refine Wc.ret ?_
         refine retN (rs := [.cell 6 28, .tmp 7]) (vs := [_, _]) rfl (.cell rfl (loadS Tryz.underlying28 (by kernel_rfl) (fun j u hu => hB_o2.at hu)) (.tmp rfl .nil)) ?_
         first | exact ⟨_, rfl, by unfold testV; rw [hN]; clear hN; simp_all <;> first | rfl | (rw [beq_dec]; rfl), hb⟩
end Go.Proofs.YtcljmclolpgdmaaGreatDoor
