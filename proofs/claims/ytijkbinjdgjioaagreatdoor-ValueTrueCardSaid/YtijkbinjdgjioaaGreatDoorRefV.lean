/- The reference of package value, by the calculus. -/
import Derived.Test.YtijkbinjdgjioaaGreatDoorValC
import Derived.Test.YtijkbinjdgjioaaGreatDoorRefB
namespace Go.Proofs.YtijkbinjdgjioaaGreatDoor
open Go.RowKit Go.Bw Go.Bw.Fl
set_option linter.unusedVariables false
set_option linter.unusedSimpArgs false
theorem exn50RefV : Extn Tryz.prog 50 Extern.MathFloatBits.float64bits := fun args w => run_callFunc_extern Tryz.func50 (by kernel_rfl) (by kernel_rfl) (by kernel_rfl) (by kernel_rfl) args w
theorem fa28_0RefV (p : Addr) (w : World) : (Instr.fieldAt 28 (.pointer (some p)) 0).run Tryz.prog w = .ok (.pointer (some (p.add 0))) w := run_fieldAt (i := 0) (sz := 0) Tryz.underlying28 rfl (by kernel_rfl) p w
theorem fa28_1RefV (p : Addr) (w : World) : (Instr.fieldAt 28 (.pointer (some p)) 1).run Tryz.prog w = .ok (.pointer (some (p.add 1))) w := run_fieldAt (i := 1) (sz := 0) Tryz.underlying28 rfl (by kernel_rfl) p w
theorem fa28_2RefV (p : Addr) (w : World) : (Instr.fieldAt 28 (.pointer (some p)) 2).run Tryz.prog w = .ok (.pointer (some (p.add 2))) w := run_fieldAt (i := 2) (sz := 0) Tryz.underlying28 rfl (by kernel_rfl) p w
theorem fa28_3RefV (p : Addr) (w : World) : (Instr.fieldAt 28 (.pointer (some p)) 3).run Tryz.prog w = .ok (.pointer (some (p.add 3))) w := run_fieldAt (i := 3) (sz := 0) Tryz.underlying28 rfl (by kernel_rfl) p w
theorem one2RefV : One Tryz.prog 2 := ⟨_, Tryz.underlying2, rfl, by kernel_rfl⟩
theorem one26RefV : One Tryz.prog 26 := ⟨_, Tryz.underlying26, rfl, by kernel_rfl⟩
theorem one3RefV : One Tryz.prog 3 := ⟨_, Tryz.underlying3, rfl, by kernel_rfl⟩
theorem one9RefV : One Tryz.prog 9 := ⟨_, Tryz.underlying9, rfl, by kernel_rfl⟩
theorem txt43RefV : Txt Tryz.prog 43 := ⟨_, Tryz.func43, by kernel_rfl, rfl⟩   -- bridleway/bridlewayref01.Bits
theorem txt71RefV : Txt Tryz.prog 71 := ⟨_, Tryz.func71, by kernel_rfl, rfl⟩   -- bridleway/bridlewayref01.Order
theorem txt80RefV : Txt Tryz.prog 80 := ⟨_, Tryz.func80, by kernel_rfl, rfl⟩   -- bridleway/bridlewayref01.Against
theorem txt81RefV : Txt Tryz.prog 81 := ⟨_, Tryz.func81, by kernel_rfl, rfl⟩   -- bridleway/bridlewayref01.Nan
theorem RRight_r (a : Val) (oa : a.Ok) (w : World) : Ret Tryz.prog 28 [a.enc] w fun v w' => v = .bool (rightV a) ∧ Below w.heap.size w w' := by
  have hb := Below.refl w.heap.size w
  refine enter Tryz.func28 rfl rfl rfl ?_
  refine Wc.seq fun _ hK_1 => ?_
  refine Wc.region ?_
  refine Wl.boxN rfl rfl ?_
  rintro g_o0 w_o0 hg_o0 hn_o0 hs_o0
  have hz_o0 := hs_o0.size
  have hb := hb.trans (hs_o0.mono hb.size)
  have hB_o0 := hn_o0
  have hl_o0 := hB_o0.lt
  refine Wl.y (y_assign rfl) rfl ?_
  refine Wl.nil ?_
  refine Wq.next hK_1 ?_
  refine Wc.seq fun _ hK_4 => ?_
  refine Wc.region ?_
  refine Wl.y (y_fieldAddr (fa28_2RefV _) rfl) rfl ?_
  refine Wl.l (l_load one26RefV rfl (by first | exact hB_o0.at rfl | exact hB_o0.cell 0 | assumption)) rfl ?_
  refine Wl.y (y_f2b exn50RefV rfl rfl) rfl ?_
  refine Wl.y (y_eqli rfl rfl) rfl ?_
  refine Wl.y (y_assign rfl) rfl ?_
  refine Wl.nil ?_
  refine Wq.next hK_4 ?_
  refine Wc.seq fun _ hK_10 => ?_
  refine Wc.seq fun _ hK_11 => ?_
  refine Wc.region ?_
  refine Wl.y (y_fieldAddr (fa28_0RefV _) rfl) rfl ?_
  refine Wl.l (l_load one3RefV rfl (by first | exact hB_o0.at rfl | exact hB_o0.cell 0 | assumption)) rfl ?_
  refine Wl.nil ?_
  refine Wq.next hK_11 ?_
  refine Wc.block ?_
  refine Wc.seq fun _ hK_14 => ?_
  refine Wc.region ?_
  refine Wl.y (y_eqli rfl rfl) rfl ?_
  refine Wl.y (y_assign rfl) rfl ?_
  refine Wl.nil ?_
  refine Wq.next hK_14 ?_
  refine Wc.cond rfl (fun c0_17 => ?_) (fun c0_17 => ?_)
  ·
   try simp only [decide_eq_true_eq, decide_eq_false_iff_not, beq_iff_eq, beq_eq_false_iff_ne, bne_iff_ne, bne_eq_false_iff_eq, Bool.not_eq_true', Bool.not_eq_false', Bool.not_eq_eq_eq_not, Bool.not_true, Bool.not_false, ne_eq, Int.not_lt, Int.not_le] at c0_17
   refine Wc.seq fun _ hK_18 => ?_
   refine Wc.region ?_
   refine Wl.y (y_fieldAddr (fa28_1RefV _) rfl) rfl ?_
   refine Wl.l (l_load one2RefV rfl (by first | exact hB_o0.at rfl | exact hB_o0.cell 0 | assumption)) rfl ?_
   refine Wl.y (y_eqli rfl rfl) rfl ?_
   refine Wl.y (y_move rfl) rfl ?_
   refine Wl.guardT rfl rfl rfl (fun g_23 => ?_) (fun g_23 => ?_)
   ·
    have g_23_ := g_23
    refine Wl.y (y_move rfl) rfl ?_
    refine Wl.y (y_pickT rfl g_23_ rfl) rfl ?_
    refine Wl.y (y_move rfl) rfl ?_
    refine Wl.guardT rfl rfl rfl (fun g_27 => ?_) (fun g_27 => ?_)
    ·
     have g_27_ := g_27
     refine Wl.y (y_fieldAddr (fa28_3RefV _) rfl) rfl ?_
     refine Wl.on' rfl rfl g_27_ ?_
     refine Wl.l (l_load one9RefV rfl (by first | exact hB_o0.at rfl | exact hB_o0.cell 0 | assumption)) rfl ?_
     refine Wl.on' rfl rfl g_27_ ?_
     refine Wl.y (y_eqls rfl rfl) rfl ?_
     refine Wl.y (y_pickT rfl g_27_ rfl) rfl ?_
     refine Wl.y (y_assign rfl) rfl ?_
     refine Wl.nil ?_
     refine Wq.next hK_18 ?_
     refine Wc.ret ?_
     refine Wq.block_ret (Wq.then_ret ?_)
     refine ret1 rfl rfl ?_
     exact ⟨_, rfl, bool_eq (by rw [right0 c0_17]; simp_all [beq0] <;> (cases a.s <;> rfl)), hb⟩
    ·
     have g_27_ := g_27
     refine Wl.off' rfl rfl g_27_ rfl rfl ?_
     refine Wl.off' rfl rfl g_27_ rfl rfl ?_
     refine Wl.y (y_pickF rfl g_27_ rfl) rfl ?_
     refine Wl.y (y_assign rfl) rfl ?_
     refine Wl.nil ?_
     refine Wq.next hK_18 ?_
     refine Wc.ret ?_
     refine Wq.block_ret (Wq.then_ret ?_)
     refine ret1 rfl rfl ?_
     exact ⟨_, rfl, bool_eq (by rw [right0 c0_17]; simp_all [beq0] <;> (cases a.s <;> rfl)), hb⟩
   ·
    have g_23_ := g_23
    refine Wl.y (y_pickF rfl g_23_ rfl) rfl ?_
    refine Wl.y (y_move rfl) rfl ?_
    refine Wl.off' rfl rfl rfl rfl rfl ?_
    refine Wl.off' rfl rfl rfl rfl rfl ?_
    refine Wl.off' rfl rfl rfl rfl rfl ?_
    refine Wl.y (y_pickF rfl rfl rfl) rfl ?_
    refine Wl.y (y_assign rfl) rfl ?_
    refine Wl.nil ?_
    refine Wq.next hK_18 ?_
    refine Wc.ret ?_
    refine Wq.block_ret (Wq.then_ret ?_)
    refine ret1 rfl rfl ?_
    exact ⟨_, rfl, bool_eq (by rw [right0 c0_17]; simp_all [beq0] <;> (cases a.s <;> rfl)), hb⟩
  ·
   try simp only [decide_eq_true_eq, decide_eq_false_iff_not, beq_iff_eq, beq_eq_false_iff_ne, bne_iff_ne, bne_eq_false_iff_eq, Bool.not_eq_true', Bool.not_eq_false', Bool.not_eq_eq_eq_not, Bool.not_true, Bool.not_false, ne_eq, Int.not_lt, Int.not_le] at c0_17
   refine Wc.seq fun _ hK_39 => ?_
   refine Wc.region ?_
   refine Wl.y (y_eqli rfl rfl) rfl ?_
   refine Wl.y (y_assign rfl) rfl ?_
   refine Wl.nil ?_
   refine Wq.next hK_39 ?_
   refine Wc.cond rfl (fun c1_42 => ?_) (fun c1_42 => ?_)
   ·
    try simp only [decide_eq_true_eq, decide_eq_false_iff_not, beq_iff_eq, beq_eq_false_iff_ne, bne_iff_ne, bne_eq_false_iff_eq, Bool.not_eq_true', Bool.not_eq_false', Bool.not_eq_eq_eq_not, Bool.not_true, Bool.not_false, ne_eq, Int.not_lt, Int.not_le] at c1_42
    refine Wc.seq fun _ hK_43 => ?_
    refine Wc.region ?_
    refine Wl.y (y_fieldAddr (fa28_1RefV _) rfl) rfl ?_
    refine Wl.l (l_load one2RefV rfl (by first | exact hB_o0.at rfl | exact hB_o0.cell 0 | assumption)) rfl ?_
    refine Wl.y (y_eqli rfl rfl) rfl ?_
    refine Wl.y (y_move rfl) rfl ?_
    refine Wl.guardF rfl rfl rfl (fun g_48 => ?_) (fun g_48 => ?_)
    ·
     have g_48_ := g_48
     refine Wl.off' rfl rfl g_48_ rfl rfl ?_
     refine Wl.off' rfl rfl g_48_ rfl rfl ?_
     refine Wl.y (y_pickT rfl g_48_ rfl) rfl ?_
     refine Wl.y (y_move rfl) rfl ?_
     refine Wl.on' rfl rfl rfl ?_
     refine Wl.y (y_move rfl) rfl ?_
     refine Wl.y (y_pickT rfl rfl rfl) rfl ?_
     refine Wl.y (y_move rfl) rfl ?_
     refine Wl.guardT rfl rfl rfl (fun g_54 => ?_) (fun g_54 => ?_)
     ·
      have g_54_ := g_54
      refine Wl.y (y_fieldAddr (fa28_3RefV _) rfl) rfl ?_
      refine Wl.on' rfl rfl g_54_ ?_
      refine Wl.l (l_load one9RefV rfl (by first | exact hB_o0.at rfl | exact hB_o0.cell 0 | assumption)) rfl ?_
      refine Wl.on' rfl rfl g_54_ ?_
      refine Wl.y (y_eqls rfl rfl) rfl ?_
      refine Wl.y (y_pickT rfl g_54_ rfl) rfl ?_
      refine Wl.y (y_assign rfl) rfl ?_
      refine Wl.nil ?_
      refine Wq.next hK_43 ?_
      refine Wc.ret ?_
      refine Wq.block_ret (Wq.then_ret ?_)
      refine ret1 rfl rfl ?_
      exact ⟨_, rfl, bool_eq (by rw [right1 c1_42]; simp_all [beq0] <;> (cases a.s <;> rfl)), hb⟩
     ·
      have g_54_ := g_54
      refine Wl.off' rfl rfl g_54_ rfl rfl ?_
      refine Wl.off' rfl rfl g_54_ rfl rfl ?_
      refine Wl.y (y_pickF rfl g_54_ rfl) rfl ?_
      refine Wl.y (y_assign rfl) rfl ?_
      refine Wl.nil ?_
      refine Wq.next hK_43 ?_
      refine Wc.ret ?_
      refine Wq.block_ret (Wq.then_ret ?_)
      refine ret1 rfl rfl ?_
      exact ⟨_, rfl, bool_eq (by rw [right1 c1_42]; simp_all [beq0] <;> (cases a.s <;> rfl)), hb⟩
    ·
     have g_48_ := g_48
     refine Wl.y (y_fieldAddr (fa28_1RefV _) rfl) rfl ?_
     refine Wl.on' rfl rfl g_48_ ?_
     refine Wl.l (l_load one2RefV rfl (by first | exact hB_o0.at rfl | exact hB_o0.cell 0 | assumption)) rfl ?_
     refine Wl.on' rfl rfl g_48_ ?_
     refine Wl.y (y_eqli rfl rfl) rfl ?_
     refine Wl.y (y_pickF rfl g_48_ rfl) rfl ?_
     refine Wl.y (y_move rfl) rfl ?_
     refine Wl.guardT rfl rfl rfl (fun g_67 => ?_) (fun g_67 => ?_)
     ·
      have g_67_ := g_67
      refine Wl.y (y_move rfl) rfl ?_
      refine Wl.y (y_pickT rfl g_67_ rfl) rfl ?_
      refine Wl.y (y_move rfl) rfl ?_
      refine Wl.guardT rfl rfl rfl (fun g_71 => ?_) (fun g_71 => ?_)
      ·
       have g_71_ := g_71
       refine Wl.y (y_fieldAddr (fa28_3RefV _) rfl) rfl ?_
       refine Wl.on' rfl rfl g_71_ ?_
       refine Wl.l (l_load one9RefV rfl (by first | exact hB_o0.at rfl | exact hB_o0.cell 0 | assumption)) rfl ?_
       refine Wl.on' rfl rfl g_71_ ?_
       refine Wl.y (y_eqls rfl rfl) rfl ?_
       refine Wl.y (y_pickT rfl g_71_ rfl) rfl ?_
       refine Wl.y (y_assign rfl) rfl ?_
       refine Wl.nil ?_
       refine Wq.next hK_43 ?_
       refine Wc.ret ?_
       refine Wq.block_ret (Wq.then_ret ?_)
       refine ret1 rfl rfl ?_
       exact ⟨_, rfl, bool_eq (by rw [right1 c1_42]; simp_all [beq0] <;> (cases a.s <;> rfl)), hb⟩
      ·
       have g_71_ := g_71
       refine Wl.off' rfl rfl g_71_ rfl rfl ?_
       refine Wl.off' rfl rfl g_71_ rfl rfl ?_
       refine Wl.y (y_pickF rfl g_71_ rfl) rfl ?_
       refine Wl.y (y_assign rfl) rfl ?_
       refine Wl.nil ?_
       refine Wq.next hK_43 ?_
       refine Wc.ret ?_
       refine Wq.block_ret (Wq.then_ret ?_)
       refine ret1 rfl rfl ?_
       exact ⟨_, rfl, bool_eq (by rw [right1 c1_42]; simp_all [beq0] <;> (cases a.s <;> rfl)), hb⟩
     ·
      have g_67_ := g_67
      refine Wl.y (y_pickF rfl g_67_ rfl) rfl ?_
      refine Wl.y (y_move rfl) rfl ?_
      refine Wl.off' rfl rfl rfl rfl rfl ?_
      refine Wl.off' rfl rfl rfl rfl rfl ?_
      refine Wl.off' rfl rfl rfl rfl rfl ?_
      refine Wl.y (y_pickF rfl rfl rfl) rfl ?_
      refine Wl.y (y_assign rfl) rfl ?_
      refine Wl.nil ?_
      refine Wq.next hK_43 ?_
      refine Wc.ret ?_
      refine Wq.block_ret (Wq.then_ret ?_)
      refine ret1 rfl rfl ?_
      exact ⟨_, rfl, bool_eq (by rw [right1 c1_42]; simp_all [beq0] <;> (cases a.s <;> rfl)), hb⟩
   ·
    try simp only [decide_eq_true_eq, decide_eq_false_iff_not, beq_iff_eq, beq_eq_false_iff_ne, bne_iff_ne, bne_eq_false_iff_eq, Bool.not_eq_true', Bool.not_eq_false', Bool.not_eq_eq_eq_not, Bool.not_true, Bool.not_false, ne_eq, Int.not_lt, Int.not_le] at c1_42
    refine Wc.seq fun _ hK_83 => ?_
    refine Wc.region ?_
    refine Wl.y (y_eqli rfl rfl) rfl ?_
    refine Wl.y (y_assign rfl) rfl ?_
    refine Wl.nil ?_
    refine Wq.next hK_83 ?_
    refine Wc.cond rfl (fun c2_86 => ?_) (fun c2_86 => ?_)
    ·
     try simp only [decide_eq_true_eq, decide_eq_false_iff_not, beq_iff_eq, beq_eq_false_iff_ne, bne_iff_ne, bne_eq_false_iff_eq, Bool.not_eq_true', Bool.not_eq_false', Bool.not_eq_eq_eq_not, Bool.not_true, Bool.not_false, ne_eq, Int.not_lt, Int.not_le] at c2_86
     refine Wc.seq fun _ hK_87 => ?_
     refine Wc.region ?_
     refine Wl.y (y_move rfl) rfl ?_
     refine Wl.y (y_move rfl) rfl ?_
     refine Wl.guardT rfl rfl rfl (fun g_90 => ?_) (fun g_90 => ?_)
     ·
      have g_90_ := g_90
      refine Wl.y (y_fieldAddr (fa28_3RefV _) rfl) rfl ?_
      refine Wl.on' rfl rfl g_90_ ?_
      refine Wl.l (l_load one9RefV rfl (by first | exact hB_o0.at rfl | exact hB_o0.cell 0 | assumption)) rfl ?_
      refine Wl.on' rfl rfl g_90_ ?_
      refine Wl.y (y_eqls rfl rfl) rfl ?_
      refine Wl.y (y_pickT rfl g_90_ rfl) rfl ?_
      refine Wl.y (y_assign rfl) rfl ?_
      refine Wl.nil ?_
      refine Wq.next hK_87 ?_
      refine Wc.ret ?_
      refine Wq.block_ret (Wq.then_ret ?_)
      refine ret1 rfl rfl ?_
      exact ⟨_, rfl, bool_eq (by rw [right2 c2_86]; simp_all [beq0] <;> (cases a.s <;> rfl)), hb⟩
     ·
      have g_90_ := g_90
      refine Wl.off' rfl rfl g_90_ rfl rfl ?_
      refine Wl.off' rfl rfl g_90_ rfl rfl ?_
      refine Wl.y (y_pickF rfl g_90_ rfl) rfl ?_
      refine Wl.y (y_assign rfl) rfl ?_
      refine Wl.nil ?_
      refine Wq.next hK_87 ?_
      refine Wc.ret ?_
      refine Wq.block_ret (Wq.then_ret ?_)
      refine ret1 rfl rfl ?_
      exact ⟨_, rfl, bool_eq (by rw [right2 c2_86]; simp_all [beq0] <;> (cases a.s <;> rfl)), hb⟩
    ·
     try simp only [decide_eq_true_eq, decide_eq_false_iff_not, beq_iff_eq, beq_eq_false_iff_ne, bne_iff_ne, bne_eq_false_iff_eq, Bool.not_eq_true', Bool.not_eq_false', Bool.not_eq_eq_eq_not, Bool.not_true, Bool.not_false, ne_eq, Int.not_lt, Int.not_le] at c2_86
     refine Wc.seq fun _ hK_98 => ?_
     refine Wc.region ?_
     refine Wl.y (y_eqli rfl rfl) rfl ?_
     refine Wl.y (y_assign rfl) rfl ?_
     refine Wl.nil ?_
     refine Wq.next hK_98 ?_
     refine Wc.cond rfl (fun c3_101 => ?_) (fun c3_101 => ?_)
     ·
      try simp only [decide_eq_true_eq, decide_eq_false_iff_not, beq_iff_eq, beq_eq_false_iff_ne, bne_iff_ne, bne_eq_false_iff_eq, Bool.not_eq_true', Bool.not_eq_false', Bool.not_eq_eq_eq_not, Bool.not_true, Bool.not_false, ne_eq, Int.not_lt, Int.not_le] at c3_101
      refine Wc.seq fun _ hK_102 => ?_
      refine Wc.quiet (by kernel_rfl) (by kernel_rfl) ?_
      refine Wy.y (y_fieldAddr (fa28_1RefV _) rfl) rfl ?_
      refine Wy.l (fun wq hq => l_load one2RefV rfl (by have hB_o0 := Blk.below hB_o0 hq; first | exact hB_o0.at rfl | exact hB_o0.cell 0 | assumption)) rfl ?_
      refine Wy.y (y_eqli rfl rfl) rfl ?_
      refine Wy.y (y_move rfl) rfl ?_
      refine Wy.guardT rfl rfl rfl (fun g_107 => ?_) (fun g_107 => ?_)
      ·
       have g_107_ := g_107
       refine Wy.y (y_fieldAddr (fa28_3RefV _) rfl) rfl ?_
       refine Wy.on' rfl rfl g_107_ ?_
       refine Wy.l (fun wq hq => l_load one9RefV rfl (by have hB_o0 := Blk.below hB_o0 hq; first | exact hB_o0.at rfl | exact hB_o0.cell 0 | assumption)) rfl ?_
       refine Wy.on' rfl rfl g_107_ ?_
       refine Wy.y (y_eqls rfl rfl) rfl ?_
       refine Wy.y (y_pickT rfl g_107_ rfl) rfl ?_
       refine Wy.y (y_move rfl) rfl ?_
       refine Wy.guardT rfl rfl rfl (fun g_113 => ?_) (fun g_113 => ?_)
       ·
        have g_113_ := g_113
        refine Wy.y (y_fieldAddr (fa28_2RefV _) rfl) rfl ?_
        refine Wy.on' rfl rfl g_113_ ?_
        refine Wy.l (fun wq hq => l_load one26RefV rfl (by have hB_o0 := Blk.below hB_o0 hq; first | exact hB_o0.at rfl | exact hB_o0.cell 0 | assumption)) rfl ?_
        refine Wy.on' rfl rfl g_113_ ?_
        refine Wy.call txt43RefV rfl rfl (fun wq hq => by have hB_o0 := Blk.below hB_o0 hq; exact Ret.quiet (Bits_r _ oa.f1 _)) rfl ?_
        refine Wy.on' rfl rfl g_113_ ?_
        refine Wy.y (y_fieldAddr (fa28_2RefV _) rfl) rfl ?_
        refine Wy.on' rfl rfl g_113_ ?_
        refine Wy.l (fun wq hq => l_load one26RefV rfl (by have hB_o0 := Blk.below hB_o0 hq; first | exact hB_o0.at rfl | exact hB_o0.cell 0 | assumption)) rfl ?_
        refine Wy.on' rfl rfl g_113_ ?_
        refine Wy.y (y_f2b exn50RefV rfl rfl) rfl ?_
        refine Wy.on' rfl rfl g_113_ ?_
        refine Wy.y (y_eqli rfl rfl) rfl ?_
        refine Wy.y (y_pickT rfl g_113_ rfl) rfl ?_
        refine Wy.y (y_assign rfl) rfl ?_
        refine Wy.nil fun w_g10 hs_g10 => ?_
        have hz_g10 := hs_g10.size
        have hb := hb.trans (hs_g10.mono hb.size)
        refine Wq.next hK_102 ?_
        refine Wc.ret ?_
        refine Wq.block_ret (Wq.then_ret ?_)
        refine ret1 rfl rfl ?_
        exact ⟨_, rfl, bool_eq (by rw [right3 c3_101]; simp_all [beqN] <;> (cases a.s <;> rfl)), hb⟩
       ·
        have g_113_ := g_113
        refine Wy.off' rfl rfl g_113_ rfl rfl ?_
        refine Wy.off' rfl rfl g_113_ rfl rfl ?_
        refine Wy.off' rfl rfl g_113_ rfl rfl ?_
        refine Wy.off' rfl rfl g_113_ rfl rfl ?_
        refine Wy.off' rfl rfl g_113_ rfl rfl ?_
        refine Wy.off' rfl rfl g_113_ rfl rfl ?_
        refine Wy.y (y_pickF rfl g_113_ rfl) rfl ?_
        refine Wy.y (y_assign rfl) rfl ?_
        refine Wy.nil fun w_g10 hs_g10 => ?_
        have hz_g10 := hs_g10.size
        have hb := hb.trans (hs_g10.mono hb.size)
        refine Wq.next hK_102 ?_
        refine Wc.ret ?_
        refine Wq.block_ret (Wq.then_ret ?_)
        refine ret1 rfl rfl ?_
        exact ⟨_, rfl, bool_eq (by rw [right3 c3_101]; simp_all [beqN] <;> (cases a.s <;> rfl)), hb⟩
      ·
       have g_107_ := g_107
       refine Wy.off' rfl rfl g_107_ rfl rfl ?_
       refine Wy.off' rfl rfl g_107_ rfl rfl ?_
       refine Wy.y (y_pickF rfl g_107_ rfl) rfl ?_
       refine Wy.y (y_move rfl) rfl ?_
       refine Wy.off' rfl rfl rfl rfl rfl ?_
       refine Wy.off' rfl rfl rfl rfl rfl ?_
       refine Wy.off' rfl rfl rfl rfl rfl ?_
       refine Wy.off' rfl rfl rfl rfl rfl ?_
       refine Wy.off' rfl rfl rfl rfl rfl ?_
       refine Wy.off' rfl rfl rfl rfl rfl ?_
       refine Wy.off' rfl rfl rfl rfl rfl ?_
       refine Wy.y (y_pickF rfl rfl rfl) rfl ?_
       refine Wy.y (y_assign rfl) rfl ?_
       refine Wy.nil fun w_g10 hs_g10 => ?_
       have hz_g10 := hs_g10.size
       have hb := hb.trans (hs_g10.mono hb.size)
       refine Wq.next hK_102 ?_
       refine Wc.ret ?_
       refine Wq.block_ret (Wq.then_ret ?_)
       refine ret1 rfl rfl ?_
       exact ⟨_, rfl, bool_eq (by rw [right3 c3_101]; simp_all [beqN] <;> (cases a.s <;> rfl)), hb⟩
     ·
      try simp only [decide_eq_true_eq, decide_eq_false_iff_not, beq_iff_eq, beq_eq_false_iff_ne, bne_iff_ne, bne_eq_false_iff_eq, Bool.not_eq_true', Bool.not_eq_false', Bool.not_eq_eq_eq_not, Bool.not_true, Bool.not_false, ne_eq, Int.not_lt, Int.not_le] at c3_101
      refine Wc.seq fun _ hK_129 => ?_
      refine Wc.region ?_
      refine Wl.y (y_eqli rfl rfl) rfl ?_
      refine Wl.y (y_assign rfl) rfl ?_
      refine Wl.nil ?_
      refine Wq.next hK_129 ?_
      refine Wc.cond rfl (fun c4_132 => ?_) (fun c4_132 => ?_)
      ·
       try simp only [decide_eq_true_eq, decide_eq_false_iff_not, beq_iff_eq, beq_eq_false_iff_ne, bne_iff_ne, bne_eq_false_iff_eq, Bool.not_eq_true', Bool.not_eq_false', Bool.not_eq_eq_eq_not, Bool.not_true, Bool.not_false, ne_eq, Int.not_lt, Int.not_le] at c4_132
       refine Wc.seq fun _ hK_133 => ?_
       refine Wc.region ?_
       refine Wl.y (y_fieldAddr (fa28_1RefV _) rfl) rfl ?_
       refine Wl.l (l_load one2RefV rfl (by first | exact hB_o0.at rfl | exact hB_o0.cell 0 | assumption)) rfl ?_
       refine Wl.y (y_eqli rfl rfl) rfl ?_
       refine Wl.y (y_move rfl) rfl ?_
       refine Wl.guardT rfl rfl rfl (fun g_138 => ?_) (fun g_138 => ?_)
       ·
        have g_138_ := g_138
        refine Wl.y (y_move rfl) rfl ?_
        refine Wl.y (y_pickT rfl g_138_ rfl) rfl ?_
        refine Wl.y (y_assign rfl) rfl ?_
        refine Wl.nil ?_
        refine Wq.next hK_133 ?_
        refine Wc.ret ?_
        refine Wq.block_ret (Wq.then_ret ?_)
        refine ret1 rfl rfl ?_
        exact ⟨_, rfl, bool_eq (by rw [right4 c4_132]; simp_all [beq0] <;> (cases a.s <;> rfl)), hb⟩
       ·
        have g_138_ := g_138
        refine Wl.y (y_pickF rfl g_138_ rfl) rfl ?_
        refine Wl.y (y_assign rfl) rfl ?_
        refine Wl.nil ?_
        refine Wq.next hK_133 ?_
        refine Wc.ret ?_
        refine Wq.block_ret (Wq.then_ret ?_)
        refine ret1 rfl rfl ?_
        exact ⟨_, rfl, bool_eq (by rw [right4 c4_132]; simp_all [beq0] <;> (cases a.s <;> rfl)), hb⟩
      ·
       try simp only [decide_eq_true_eq, decide_eq_false_iff_not, beq_iff_eq, beq_eq_false_iff_ne, bne_iff_ne, bne_eq_false_iff_eq, Bool.not_eq_true', Bool.not_eq_false', Bool.not_eq_eq_eq_not, Bool.not_true, Bool.not_false, ne_eq, Int.not_lt, Int.not_le] at c4_132
       refine Wc.skip ?_
       refine Wq.block_normal ?_
       refine Wq.next hK_10 ?_
       refine Wc.seq fun _ hK_144 => ?_
       refine Wc.region ?_
       refine Wl.y (y_assign rfl) rfl ?_
       refine Wl.nil ?_
       refine Wq.next hK_144 ?_
       refine Wc.ret ?_
       refine ret1 rfl rfl ?_
       exact ⟨_, rfl, bool_eq (by unfold rightV; rw [if_neg c0_17, if_neg c1_42, if_neg c2_86, if_neg c3_101, if_neg c4_132]), hb⟩
theorem null_r (w : World) : Ret Tryz.prog 39 [] w fun v w' => v = nullV.enc ∧ Below w.heap.size w w' := by
  have hb := Below.refl w.heap.size w
  refine enter Tryz.func39 rfl rfl rfl ?_
  refine Wc.seq fun _ hK_1 => ?_
  refine Wc.region ?_
  refine Wl.allocN (z := (.agg #[(.int .i64 0), (.int .i64 0), (.float .f64 0), (str [])])) (by kernel_rfl) rfl ?_
  rintro g_o0 w_o0 hg_o0 hn_o0 hs_o0
  have hz_o0 := hs_o0.size
  have hb := hb.trans (hs_o0.mono hb.size)
  have hB_o0 := hn_o0
  have hl_o0 := hB_o0.lt
  refine Wl.nil ?_
  refine Wq.next hK_1 ?_
  refine Wc.seq fun _ hK_3 => ?_
  refine Wc.region ?_
  refine Wl.y (y_buildS (z := [(.int .i64 0), (.int .i64 0), (.float .f64 0), (str [])]) (pl := [(0, 1), (1, 1), (2, 1), (3, 1)]) (cs := [_, _, _, _]) Tryz.underlying28 (by kernel_rfl) (by kernel_rfl) rfl rfl rfl) rfl ?_
  refine Wl.storeS (by kernel_rfl) rfl rfl hB_o0 rfl rfl ?_
  rintro w_s0 hn_s0 hg_s0
  have hz_s0 := hg_s0.size
  have hb := below_blk hb hg_s0 hb.size (by omega)
  have hB_o0 := hn_s0
  refine Wl.nil ?_
  refine Wq.next hK_3 ?_
  refine Wc.ret ?_
  refine retN (rs := [.cell 0 28]) (vs := [_]) rfl (.cell rfl (loadS Tryz.underlying28 (by kernel_rfl) (fun j u hu => hB_o0.at hu)) .nil) ?_
  exact ⟨_, rfl, rfl, hb⟩
theorem Truth_r (t : Bool) (w : World) : Ret Tryz.prog 42 [.bool t] w fun v w' => v = (truthV t).enc ∧ Below w.heap.size w w' := by
  have hb := Below.refl w.heap.size w
  refine enter Tryz.func42 rfl rfl rfl ?_
  refine Wc.seq fun _ hK_1 => ?_
  refine Wc.region ?_
  refine Wl.allocN (z := (.agg #[(.int .i64 0), (.int .i64 0), (.float .f64 0), (str [])])) (by kernel_rfl) rfl ?_
  rintro g_o0 w_o0 hg_o0 hn_o0 hs_o0
  have hz_o0 := hs_o0.size
  have hb := hb.trans (hs_o0.mono hb.size)
  have hB_o0 := hn_o0
  have hl_o0 := hB_o0.lt
  refine Wl.nil ?_
  refine Wq.next hK_1 ?_
  refine Wc.seq fun _ hK_3 => ?_
  refine Wc.seq fun _ hK_4 => ?_
  refine Wc.region ?_
  refine Wl.y (y_move rfl) rfl ?_
  refine Wl.nil ?_
  refine Wq.next hK_4 ?_
  refine Wc.cond rfl (fun c0_6 => ?_) (fun c0_6 => ?_)
  ·
   have c0_6_ := c0_6
   try simp only [decide_eq_true_eq, decide_eq_false_iff_not, beq_iff_eq, beq_eq_false_iff_ne, bne_iff_ne, bne_eq_false_iff_eq, Bool.not_eq_true', Bool.not_eq_false', Bool.not_eq_eq_eq_not, Bool.not_true, Bool.not_false, ne_eq, Int.not_lt, Int.not_le] at c0_6
   refine Wc.seq fun _ hK_7 => ?_
   refine Wc.region ?_
   refine Wl.y (y_buildS (z := [(.int .i64 0), (.int .i64 0), (.float .f64 0), (str [])]) (pl := [(0, 1), (1, 1), (2, 1), (3, 1)]) (cs := [_, _, _, _]) Tryz.underlying28 (by kernel_rfl) (by kernel_rfl) rfl rfl rfl) rfl ?_
   refine Wl.storeS (by kernel_rfl) rfl rfl hB_o0 rfl rfl ?_
   rintro w_s0 hn_s0 hg_s0
   have hz_s0 := hg_s0.size
   have hb := below_blk hb hg_s0 hb.size (by omega)
   have hB_o0 := hn_s0
   refine Wl.nil ?_
   refine Wq.next hK_7 ?_
   refine Wc.ret ?_
   refine Wq.then_ret ?_
   refine retN (rs := [.cell 2 28]) (vs := [_]) rfl (.cell rfl (loadS Tryz.underlying28 (by kernel_rfl) (fun j u hu => hB_o0.at hu)) .nil) ?_
   exact ⟨_, rfl, by rw [c0_6_]; rfl, hb⟩
  ·
   have c0_6_ := c0_6
   try simp only [decide_eq_true_eq, decide_eq_false_iff_not, beq_iff_eq, beq_eq_false_iff_ne, bne_iff_ne, bne_eq_false_iff_eq, Bool.not_eq_true', Bool.not_eq_false', Bool.not_eq_eq_eq_not, Bool.not_true, Bool.not_false, ne_eq, Int.not_lt, Int.not_le] at c0_6
   refine Wc.skip ?_
   refine Wq.next hK_3 ?_
   refine Wc.seq fun _ hK_9 => ?_
   refine Wc.region ?_
   refine Wl.y (y_buildS (z := [(.int .i64 0), (.int .i64 0), (.float .f64 0), (str [])]) (pl := [(0, 1), (1, 1), (2, 1), (3, 1)]) (cs := [_, _, _, _]) Tryz.underlying28 (by kernel_rfl) (by kernel_rfl) rfl rfl rfl) rfl ?_
   refine Wl.storeS (by kernel_rfl) rfl rfl hB_o0 rfl rfl ?_
   rintro w_s1 hn_s1 hg_s1
   have hz_s1 := hg_s1.size
   have hb := below_blk hb hg_s1 hb.size (by omega)
   have hB_o0 := hn_s1
   refine Wl.nil ?_
   refine Wq.next hK_9 ?_
   refine Wc.ret ?_
   refine retN (rs := [.cell 2 28]) (vs := [_]) rfl (.cell rfl (loadS Tryz.underlying28 (by kernel_rfl) (fun j u hu => hB_o0.at hu)) .nil) ?_
   exact ⟨_, rfl, by rw [c0_6_]; rfl, hb⟩
theorem rnumber_r (a : Val) (w : World) : Ret Tryz.prog 40 [a.enc] w fun v w' => v = .bool (numV a) ∧ Below w.heap.size w w' := by
  have hb := Below.refl w.heap.size w
  refine enter Tryz.func40 rfl rfl rfl ?_
  refine Wc.seq fun _ hK_1 => ?_
  refine Wc.region ?_
  refine Wl.boxN rfl rfl ?_
  rintro g_o0 w_o0 hg_o0 hn_o0 hs_o0
  have hz_o0 := hs_o0.size
  have hb := hb.trans (hs_o0.mono hb.size)
  have hB_o0 := hn_o0
  have hl_o0 := hB_o0.lt
  refine Wl.y (y_assign rfl) rfl ?_
  refine Wl.nil ?_
  refine Wq.next hK_1 ?_
  refine Wc.seq fun _ hK_4 => ?_
  refine Wc.region ?_
  refine Wl.y (y_fieldAddr (fa28_0RefV _) rfl) rfl ?_
  refine Wl.l (l_load one3RefV rfl (by first | exact hB_o0.at rfl | exact hB_o0.cell 0 | assumption)) rfl ?_
  refine Wl.y (y_eqli rfl rfl) rfl ?_
  refine Wl.y (y_move rfl) rfl ?_
  refine Wl.guardF rfl rfl rfl (fun g_9 => ?_) (fun g_9 => ?_)
  ·
   have g_9_ := g_9
   try simp only [decide_eq_true_eq, decide_eq_false_iff_not, beq_iff_eq, beq_eq_false_iff_ne, bne_iff_ne, bne_eq_false_iff_eq, Bool.not_eq_true', Bool.not_eq_false', Bool.not_eq_eq_eq_not, Bool.not_true, Bool.not_false, ne_eq, Int.not_lt, Int.not_le] at g_9
   refine Wl.off' rfl rfl g_9_ rfl rfl ?_
   refine Wl.off' rfl rfl g_9_ rfl rfl ?_
   refine Wl.y (y_pickT rfl g_9_ rfl) rfl ?_
   refine Wl.y (y_assign rfl) rfl ?_
   refine Wl.nil ?_
   refine Wq.next hK_4 ?_
   refine Wc.ret ?_
   refine ret1 rfl rfl ?_
   exact ⟨_, rfl, bool_eq (by unfold numV; rw [Bool.eq_iff_iff]; simp_all), hb⟩
  ·
   have g_9_ := g_9
   try simp only [decide_eq_true_eq, decide_eq_false_iff_not, beq_iff_eq, beq_eq_false_iff_ne, bne_iff_ne, bne_eq_false_iff_eq, Bool.not_eq_true', Bool.not_eq_false', Bool.not_eq_eq_eq_not, Bool.not_true, Bool.not_false, ne_eq, Int.not_lt, Int.not_le] at g_9
   refine Wl.y (y_fieldAddr (fa28_0RefV _) rfl) rfl ?_
   refine Wl.on' rfl rfl g_9_ ?_
   refine Wl.l (l_load one3RefV rfl (by first | exact hB_o0.at rfl | exact hB_o0.cell 0 | assumption)) rfl ?_
   refine Wl.on' rfl rfl g_9_ ?_
   refine Wl.y (y_eqli rfl rfl) rfl ?_
   refine Wl.y (y_pickF rfl g_9_ rfl) rfl ?_
   refine Wl.y (y_assign rfl) rfl ?_
   refine Wl.nil ?_
   refine Wq.next hK_4 ?_
   refine Wc.ret ?_
   refine ret1 rfl rfl ?_
   exact ⟨_, rfl, bool_eq (by unfold numV; rw [Bool.eq_iff_iff]; simp_all), hb⟩
theorem key_canon_iff {a b : Nat} (ha : a < 18446744073709551616) (hb : b < 18446744073709551616) : keyW a = keyW b ↔ canon a = canon b :=
  ⟨canon_inj ha hb, fun h => by rw [← key_canon a, ← key_canon b, h]⟩
theorem RSame_r (a b : Val) (oa : a.Ok) (ob : b.Ok) (w : World) : Ret Tryz.prog 19 [a.enc, b.enc] w fun v w' => v = .bool (sameV a b) ∧ Below w.heap.size w w' := by
  have hk := key_canon_iff oa.f1 ob.f1
  have hb := Below.refl w.heap.size w
  refine enter Tryz.func19 rfl rfl rfl ?_
  refine Wc.seq fun _ hK_1 => ?_
  refine Wc.region ?_
  refine Wl.boxN rfl rfl ?_
  rintro g_o0 w_o0 hg_o0 hn_o0 hs_o0
  have hz_o0 := hs_o0.size
  have hb := hb.trans (hs_o0.mono hb.size)
  have hB_o0 := hn_o0
  have hl_o0 := hB_o0.lt
  refine Wl.boxN rfl rfl ?_
  rintro g_o1 w_o1 hg_o1 hn_o1 hs_o1
  have hz_o1 := hs_o1.size
  have hb := hb.trans (hs_o1.mono hb.size)
  try have hB_o0 := Blk.below hB_o0 hs_o1
  have hB_o1 := hn_o1
  have hl_o1 := hB_o1.lt
  refine Wl.y (y_assign rfl) rfl ?_
  refine Wl.nil ?_
  refine Wq.next hK_1 ?_
  refine Wc.seq fun _ hK_5 => ?_
  refine Wc.quiet (by kernel_rfl) (by kernel_rfl) ?_
  refine Wy.y (y_fieldAddr (fa28_0RefV _) rfl) rfl ?_
  refine Wy.l (fun wq hq => l_load one3RefV rfl (by have hB_o0 := Blk.below hB_o0 hq; have hB_o1 := Blk.below hB_o1 hq; first | exact hB_o0.at rfl | exact hB_o1.at rfl | exact hB_o0.cell 0 | exact hB_o1.cell 0 | assumption)) rfl ?_
  refine Wy.y (y_fieldAddr (fa28_0RefV _) rfl) rfl ?_
  refine Wy.l (fun wq hq => l_load one3RefV rfl (by have hB_o0 := Blk.below hB_o0 hq; have hB_o1 := Blk.below hB_o1 hq; first | exact hB_o0.at rfl | exact hB_o1.at rfl | exact hB_o0.cell 0 | exact hB_o1.cell 0 | assumption)) rfl ?_
  refine Wy.y (y_eqli rfl rfl) rfl ?_
  refine Wy.y (y_move rfl) rfl ?_
  refine Wy.guardT rfl rfl rfl (fun g_12 => ?_) (fun g_12 => ?_)
  ·
   have g_12_ := g_12
   refine Wy.y (y_fieldAddr (fa28_1RefV _) rfl) rfl ?_
   refine Wy.on' rfl rfl g_12_ ?_
   refine Wy.l (fun wq hq => l_load one2RefV rfl (by have hB_o0 := Blk.below hB_o0 hq; have hB_o1 := Blk.below hB_o1 hq; first | exact hB_o0.at rfl | exact hB_o1.at rfl | exact hB_o0.cell 0 | exact hB_o1.cell 0 | assumption)) rfl ?_
   refine Wy.on' rfl rfl g_12_ ?_
   refine Wy.y (y_fieldAddr (fa28_1RefV _) rfl) rfl ?_
   refine Wy.on' rfl rfl g_12_ ?_
   refine Wy.l (fun wq hq => l_load one2RefV rfl (by have hB_o0 := Blk.below hB_o0 hq; have hB_o1 := Blk.below hB_o1 hq; first | exact hB_o0.at rfl | exact hB_o1.at rfl | exact hB_o0.cell 0 | exact hB_o1.cell 0 | assumption)) rfl ?_
   refine Wy.on' rfl rfl g_12_ ?_
   refine Wy.y (y_eqli rfl rfl) rfl ?_
   refine Wy.y (y_pickT rfl g_12_ rfl) rfl ?_
   refine Wy.y (y_move rfl) rfl ?_
   refine Wy.guardT rfl rfl rfl (fun g_20 => ?_) (fun g_20 => ?_)
   ·
    have g_20_ := g_20
    refine Wy.y (y_fieldAddr (fa28_3RefV _) rfl) rfl ?_
    refine Wy.on' rfl rfl g_20_ ?_
    refine Wy.l (fun wq hq => l_load one9RefV rfl (by have hB_o0 := Blk.below hB_o0 hq; have hB_o1 := Blk.below hB_o1 hq; first | exact hB_o0.at rfl | exact hB_o1.at rfl | exact hB_o0.cell 0 | exact hB_o1.cell 0 | assumption)) rfl ?_
    refine Wy.on' rfl rfl g_20_ ?_
    refine Wy.y (y_fieldAddr (fa28_3RefV _) rfl) rfl ?_
    refine Wy.on' rfl rfl g_20_ ?_
    refine Wy.l (fun wq hq => l_load one9RefV rfl (by have hB_o0 := Blk.below hB_o0 hq; have hB_o1 := Blk.below hB_o1 hq; first | exact hB_o0.at rfl | exact hB_o1.at rfl | exact hB_o0.cell 0 | exact hB_o1.cell 0 | assumption)) rfl ?_
    refine Wy.on' rfl rfl g_20_ ?_
    refine Wy.y (y_eqls rfl rfl) rfl ?_
    refine Wy.y (y_pickT rfl g_20_ rfl) rfl ?_
    refine Wy.y (y_move rfl) rfl ?_
    refine Wy.guardT rfl rfl rfl (fun g_28 => ?_) (fun g_28 => ?_)
    ·
     have g_28_ := g_28
     refine Wy.y (y_fieldAddr (fa28_2RefV _) rfl) rfl ?_
     refine Wy.on' rfl rfl g_28_ ?_
     refine Wy.l (fun wq hq => l_load one26RefV rfl (by have hB_o0 := Blk.below hB_o0 hq; have hB_o1 := Blk.below hB_o1 hq; first | exact hB_o0.at rfl | exact hB_o1.at rfl | exact hB_o0.cell 0 | exact hB_o1.cell 0 | assumption)) rfl ?_
     refine Wy.on' rfl rfl g_28_ ?_
     refine Wy.call txt43RefV rfl rfl (fun wq hq => by have hB_o0 := Blk.below hB_o0 hq; have hB_o1 := Blk.below hB_o1 hq; exact Ret.quiet (Bits_r _ oa.f1 _)) rfl ?_
     refine Wy.on' rfl rfl g_28_ ?_
     refine Wy.y (y_fieldAddr (fa28_2RefV _) rfl) rfl ?_
     refine Wy.on' rfl rfl g_28_ ?_
     refine Wy.l (fun wq hq => l_load one26RefV rfl (by have hB_o0 := Blk.below hB_o0 hq; have hB_o1 := Blk.below hB_o1 hq; first | exact hB_o0.at rfl | exact hB_o1.at rfl | exact hB_o0.cell 0 | exact hB_o1.cell 0 | assumption)) rfl ?_
     refine Wy.on' rfl rfl g_28_ ?_
     refine Wy.call txt43RefV rfl rfl (fun wq hq => by have hB_o0 := Blk.below hB_o0 hq; have hB_o1 := Blk.below hB_o1 hq; exact Ret.quiet (Bits_r _ ob.f1 _)) rfl ?_
     refine Wy.on' rfl rfl g_28_ ?_
     refine Wy.y (y_eqli rfl rfl) rfl ?_
     refine Wy.y (y_pickT rfl g_28_ rfl) rfl ?_
     refine Wy.y (y_assign rfl) rfl ?_
     refine Wy.nil fun w_g1 hs_g1 => ?_
     have hz_g1 := hs_g1.size
     have hb := hb.trans (hs_g1.mono hb.size)
     refine Wq.next hK_5 ?_
     refine Wc.ret ?_
     refine ret1 rfl rfl ?_
     exact ⟨_, rfl, bool_eq (by unfold sameV; rw [Bool.eq_iff_iff]; simp only [decide_eq_true_eq, hk, beqN]; clear hk; simp_all), hb⟩
    ·
     have g_28_ := g_28
     refine Wy.off' rfl rfl g_28_ rfl rfl ?_
     refine Wy.off' rfl rfl g_28_ rfl rfl ?_
     refine Wy.off' rfl rfl g_28_ rfl rfl ?_
     refine Wy.off' rfl rfl g_28_ rfl rfl ?_
     refine Wy.off' rfl rfl g_28_ rfl rfl ?_
     refine Wy.off' rfl rfl g_28_ rfl rfl ?_
     refine Wy.y (y_pickF rfl g_28_ rfl) rfl ?_
     refine Wy.y (y_assign rfl) rfl ?_
     refine Wy.nil fun w_g1 hs_g1 => ?_
     have hz_g1 := hs_g1.size
     have hb := hb.trans (hs_g1.mono hb.size)
     refine Wq.next hK_5 ?_
     refine Wc.ret ?_
     refine ret1 rfl rfl ?_
     exact ⟨_, rfl, bool_eq (by unfold sameV; rw [Bool.eq_iff_iff]; simp only [decide_eq_true_eq, hk, beqN]; clear hk; simp_all), hb⟩
   ·
    have g_20_ := g_20
    refine Wy.off' rfl rfl g_20_ rfl rfl ?_
    refine Wy.off' rfl rfl g_20_ rfl rfl ?_
    refine Wy.off' rfl rfl g_20_ rfl rfl ?_
    refine Wy.off' rfl rfl g_20_ rfl rfl ?_
    refine Wy.y (y_pickF rfl g_20_ rfl) rfl ?_
    refine Wy.y (y_move rfl) rfl ?_
    refine Wy.off' rfl rfl rfl rfl rfl ?_
    refine Wy.off' rfl rfl rfl rfl rfl ?_
    refine Wy.off' rfl rfl rfl rfl rfl ?_
    refine Wy.off' rfl rfl rfl rfl rfl ?_
    refine Wy.off' rfl rfl rfl rfl rfl ?_
    refine Wy.off' rfl rfl rfl rfl rfl ?_
    refine Wy.off' rfl rfl rfl rfl rfl ?_
    refine Wy.y (y_pickF rfl rfl rfl) rfl ?_
    refine Wy.y (y_assign rfl) rfl ?_
    refine Wy.nil fun w_g1 hs_g1 => ?_
    have hz_g1 := hs_g1.size
    have hb := hb.trans (hs_g1.mono hb.size)
    refine Wq.next hK_5 ?_
    refine Wc.ret ?_
    refine ret1 rfl rfl ?_
    exact ⟨_, rfl, bool_eq (by unfold sameV; rw [Bool.eq_iff_iff]; simp only [decide_eq_true_eq, hk, beqN]; clear hk; simp_all), hb⟩
  ·
   have g_12_ := g_12
   refine Wy.off' rfl rfl g_12_ rfl rfl ?_
   refine Wy.off' rfl rfl g_12_ rfl rfl ?_
   refine Wy.off' rfl rfl g_12_ rfl rfl ?_
   refine Wy.off' rfl rfl g_12_ rfl rfl ?_
   refine Wy.y (y_pickF rfl g_12_ rfl) rfl ?_
   refine Wy.y (y_move rfl) rfl ?_
   refine Wy.off' rfl rfl rfl rfl rfl ?_
   refine Wy.off' rfl rfl rfl rfl rfl ?_
   refine Wy.off' rfl rfl rfl rfl rfl ?_
   refine Wy.off' rfl rfl rfl rfl rfl ?_
   refine Wy.off' rfl rfl rfl rfl rfl ?_
   refine Wy.y (y_pickF rfl rfl rfl) rfl ?_
   refine Wy.y (y_move rfl) rfl ?_
   refine Wy.off' rfl rfl rfl rfl rfl ?_
   refine Wy.off' rfl rfl rfl rfl rfl ?_
   refine Wy.off' rfl rfl rfl rfl rfl ?_
   refine Wy.off' rfl rfl rfl rfl rfl ?_
   refine Wy.off' rfl rfl rfl rfl rfl ?_
   refine Wy.off' rfl rfl rfl rfl rfl ?_
   refine Wy.off' rfl rfl rfl rfl rfl ?_
   refine Wy.y (y_pickF rfl rfl rfl) rfl ?_
   refine Wy.y (y_assign rfl) rfl ?_
   refine Wy.nil fun w_g1 hs_g1 => ?_
   have hz_g1 := hs_g1.size
   have hb := hb.trans (hs_g1.mono hb.size)
   refine Wq.next hK_5 ?_
   refine Wc.ret ?_
   refine ret1 rfl rfl ?_
   exact ⟨_, rfl, bool_eq (by unfold sameV; rw [Bool.eq_iff_iff]; simp only [decide_eq_true_eq, hk, beqN]; clear hk; simp_all), hb⟩
theorem beqI (x y : Int) : (x == y) = decide (x = y) := by rw [Bool.eq_iff_iff]; simp
theorem less_lt {l : List Int} {x : Int} (h : x ≠ 0) : orI (x :: l) = x := if_neg h
theorem less_eq {l : List Int} {x : Int} (h : x = 0) : orI (x :: l) = orI l := if_pos h
theorem cmpI_lt {x y : Int} : cmpI x y < 0 ↔ x < y := by unfold cmpI; split <;> (try split) <;> omega
theorem cmpI_ne {x y : Int} (h : ¬ x = y) : cmpI x y ≠ 0 := fun e => h (cmpI_zero.1 e)
theorem bytesLess_irrefl : ∀ (l : List UInt8), Op.bytesLess l l = false
  | [] => rfl
  | c :: r => by unfold Op.bytesLess; simp [bytesLess_irrefl r]
theorem cmpS_zero {x y : List UInt8} : cmpS x y = 0 ↔ x = y := by
  unfold cmpS
  by_cases e : x = y
  · subst e; rw [bytesLess_irrefl]; simp
  · split
    · simp [e]
    · simp [e]
theorem cmpS_lt {x y : List UInt8} : cmpS x y < 0 ↔ Op.bytesLess x y = true := by
  unfold cmpS; split
  · simp [*]
  · rename_i h; split <;> simp [h]
theorem RLess_r (a b : Val) (oa : a.Ok) (ob : b.Ok) (w : World) : Ret Tryz.prog 30 [a.enc, b.enc] w fun v w' => v = .bool (lessV a b) ∧ Below w.heap.size w w' := by
  have hb := Below.refl w.heap.size w
  refine enter Tryz.func30 rfl rfl rfl ?_
  refine Wc.seq fun _ hK_1 => ?_
  refine Wc.region ?_
  refine Wl.boxN rfl rfl ?_
  rintro g_o0 w_o0 hg_o0 hn_o0 hs_o0
  have hz_o0 := hs_o0.size
  have hb := hb.trans (hs_o0.mono hb.size)
  have hB_o0 := hn_o0
  have hl_o0 := hB_o0.lt
  refine Wl.boxN rfl rfl ?_
  rintro g_o1 w_o1 hg_o1 hn_o1 hs_o1
  have hz_o1 := hs_o1.size
  have hb := hb.trans (hs_o1.mono hb.size)
  try have hB_o0 := Blk.below hB_o0 hs_o1
  have hB_o1 := hn_o1
  have hl_o1 := hB_o1.lt
  refine Wl.y (y_assign rfl) rfl ?_
  refine Wl.nil ?_
  refine Wq.next hK_1 ?_
  refine Wc.seq fun _ hK_5 => ?_
  refine Wc.seq fun _ hK_6 => ?_
  refine Wc.region ?_
  refine Wl.y (y_fieldAddr (fa28_0RefV _) rfl) rfl ?_
  refine Wl.l (l_load one3RefV rfl (by first | exact hB_o0.at rfl | exact hB_o1.at rfl | exact hB_o0.cell 0 | exact hB_o1.cell 0 | assumption)) rfl ?_
  refine Wl.y (y_fieldAddr (fa28_0RefV _) rfl) rfl ?_
  refine Wl.l (l_load one3RefV rfl (by first | exact hB_o0.at rfl | exact hB_o1.at rfl | exact hB_o0.cell 0 | exact hB_o1.cell 0 | assumption)) rfl ?_
  refine Wl.y (y_neqi rfl rfl) rfl ?_
  refine Wl.nil ?_
  refine Wq.next hK_6 ?_
  refine Wc.cond rfl (fun c0_12 => ?_) (fun c0_12 => ?_)
  ·
   try simp only [decide_eq_true_eq, decide_eq_false_iff_not, beq_iff_eq, beq_eq_false_iff_ne, bne_iff_ne, bne_eq_false_iff_eq, Bool.not_eq_true', Bool.not_eq_false', Bool.not_eq_eq_eq_not, Bool.not_true, Bool.not_false, ne_eq, Int.not_lt, Int.not_le] at c0_12
   refine Wc.seq fun _ hK_13 => ?_
   refine Wc.region ?_
   refine Wl.y (y_fieldAddr (fa28_0RefV _) rfl) rfl ?_
   refine Wl.l (l_load one3RefV rfl (by first | exact hB_o0.at rfl | exact hB_o1.at rfl | exact hB_o0.cell 0 | exact hB_o1.cell 0 | assumption)) rfl ?_
   refine Wl.y (y_fieldAddr (fa28_0RefV _) rfl) rfl ?_
   refine Wl.l (l_load one3RefV rfl (by first | exact hB_o0.at rfl | exact hB_o1.at rfl | exact hB_o0.cell 0 | exact hB_o1.cell 0 | assumption)) rfl ?_
   refine Wl.y (y_lssi rfl rfl) rfl ?_
   refine Wl.y (y_assign rfl) rfl ?_
   refine Wl.nil ?_
   refine Wq.next hK_13 ?_
   refine Wc.ret ?_
   refine Wq.then_ret ?_
   refine ret1 rfl rfl ?_
   exact ⟨_, rfl, bool_eq (by unfold lessV; rw [less_lt (cmpI_ne c0_12)]; exact decide_eq_decide.2 cmpI_lt.symm), hb⟩
  ·
   try simp only [decide_eq_true_eq, decide_eq_false_iff_not, beq_iff_eq, beq_eq_false_iff_ne, bne_iff_ne, bne_eq_false_iff_eq, Bool.not_eq_true', Bool.not_eq_false', Bool.not_eq_eq_eq_not, Bool.not_true, Bool.not_false, ne_eq, Int.not_lt, Int.not_le] at c0_12
   refine Wc.skip ?_
   refine Wq.next hK_5 ?_
   refine Wc.seq fun _ hK_20 => ?_
   refine Wc.seq fun _ hK_21 => ?_
   refine Wc.region ?_
   refine Wl.y (y_fieldAddr (fa28_1RefV _) rfl) rfl ?_
   refine Wl.l (l_load one2RefV rfl (by first | exact hB_o0.at rfl | exact hB_o1.at rfl | exact hB_o0.cell 0 | exact hB_o1.cell 0 | assumption)) rfl ?_
   refine Wl.y (y_fieldAddr (fa28_1RefV _) rfl) rfl ?_
   refine Wl.l (l_load one2RefV rfl (by first | exact hB_o0.at rfl | exact hB_o1.at rfl | exact hB_o0.cell 0 | exact hB_o1.cell 0 | assumption)) rfl ?_
   refine Wl.y (y_neqi rfl rfl) rfl ?_
   refine Wl.nil ?_
   refine Wq.next hK_21 ?_
   refine Wc.cond rfl (fun c1_27 => ?_) (fun c1_27 => ?_)
   ·
    try simp only [decide_eq_true_eq, decide_eq_false_iff_not, beq_iff_eq, beq_eq_false_iff_ne, bne_iff_ne, bne_eq_false_iff_eq, Bool.not_eq_true', Bool.not_eq_false', Bool.not_eq_eq_eq_not, Bool.not_true, Bool.not_false, ne_eq, Int.not_lt, Int.not_le] at c1_27
    refine Wc.seq fun _ hK_28 => ?_
    refine Wc.region ?_
    refine Wl.y (y_fieldAddr (fa28_1RefV _) rfl) rfl ?_
    refine Wl.l (l_load one2RefV rfl (by first | exact hB_o0.at rfl | exact hB_o1.at rfl | exact hB_o0.cell 0 | exact hB_o1.cell 0 | assumption)) rfl ?_
    refine Wl.y (y_fieldAddr (fa28_1RefV _) rfl) rfl ?_
    refine Wl.l (l_load one2RefV rfl (by first | exact hB_o0.at rfl | exact hB_o1.at rfl | exact hB_o0.cell 0 | exact hB_o1.cell 0 | assumption)) rfl ?_
    refine Wl.y (y_lssi rfl rfl) rfl ?_
    refine Wl.y (y_assign rfl) rfl ?_
    refine Wl.nil ?_
    refine Wq.next hK_28 ?_
    refine Wc.ret ?_
    refine Wq.then_ret ?_
    refine ret1 rfl rfl ?_
    exact ⟨_, rfl, bool_eq (by unfold lessV; rw [less_eq (cmpI_zero.2 c0_12), less_lt (cmpI_ne c1_27)]; exact decide_eq_decide.2 cmpI_lt.symm), hb⟩
   ·
    try simp only [decide_eq_true_eq, decide_eq_false_iff_not, beq_iff_eq, beq_eq_false_iff_ne, bne_iff_ne, bne_eq_false_iff_eq, Bool.not_eq_true', Bool.not_eq_false', Bool.not_eq_eq_eq_not, Bool.not_true, Bool.not_false, ne_eq, Int.not_lt, Int.not_le] at c1_27
    refine Wc.skip ?_
    refine Wq.next hK_20 ?_
    refine Wc.seq fun _ hK_35 => ?_
    refine Wc.region ?_
    refine Wl.y (y_fieldAddr (fa28_2RefV _) rfl) rfl ?_
    refine Wl.l (l_load one26RefV rfl (by first | exact hB_o0.at rfl | exact hB_o1.at rfl | exact hB_o0.cell 0 | exact hB_o1.cell 0 | assumption)) rfl ?_
    refine Wl.y (y_fieldAddr (fa28_2RefV _) rfl) rfl ?_
    refine Wl.l (l_load one26RefV rfl (by first | exact hB_o0.at rfl | exact hB_o1.at rfl | exact hB_o0.cell 0 | exact hB_o1.cell 0 | assumption)) rfl ?_
    refine Wl.call txt71RefV rfl rfl (ROrder_r _ _ oa.f1 ob.f1 _) rfl ?_
    rintro _ w_ ⟨rfl, hw_⟩
    have hw_ := hw_.symm; subst hw_
    refine Wl.y (y_assign rfl) rfl ?_
    refine Wl.nil ?_
    refine Wq.next hK_35 ?_
    refine Wc.seq fun _ hK_42 => ?_
    refine Wc.seq fun _ hK_43 => ?_
    refine Wc.region ?_
    refine Wl.y (y_move rfl) rfl ?_
    refine Wl.y (y_neqi rfl rfl) rfl ?_
    refine Wl.nil ?_
    refine Wq.next hK_43 ?_
    refine Wc.cond rfl (fun c2_46 => ?_) (fun c2_46 => ?_)
    ·
     try simp only [decide_eq_true_eq, decide_eq_false_iff_not, beq_iff_eq, beq_eq_false_iff_ne, bne_iff_ne, bne_eq_false_iff_eq, Bool.not_eq_true', Bool.not_eq_false', Bool.not_eq_eq_eq_not, Bool.not_true, Bool.not_false, ne_eq, Int.not_lt, Int.not_le] at c2_46
     refine Wc.seq fun _ hK_47 => ?_
     refine Wc.region ?_
     refine Wl.y (y_move rfl) rfl ?_
     refine Wl.y (y_lssi rfl rfl) rfl ?_
     refine Wl.y (y_assign rfl) rfl ?_
     refine Wl.nil ?_
     refine Wq.next hK_47 ?_
     refine Wc.ret ?_
     refine Wq.then_ret ?_
     refine ret1 rfl rfl ?_
     exact ⟨_, rfl, bool_eq (by unfold lessV; rw [less_eq (cmpI_zero.2 c0_12), less_eq (cmpI_zero.2 c1_27), less_lt c2_46]), hb⟩
    ·
     try simp only [decide_eq_true_eq, decide_eq_false_iff_not, beq_iff_eq, beq_eq_false_iff_ne, bne_iff_ne, bne_eq_false_iff_eq, Bool.not_eq_true', Bool.not_eq_false', Bool.not_eq_eq_eq_not, Bool.not_true, Bool.not_false, ne_eq, Int.not_lt, Int.not_le] at c2_46
     refine Wc.skip ?_
     refine Wq.next hK_42 ?_
     refine Wc.seq fun _ hK_51 => ?_
     refine Wc.region ?_
     refine Wl.y (y_fieldAddr (fa28_3RefV _) rfl) rfl ?_
     refine Wl.l (l_load one9RefV rfl (by first | exact hB_o0.at rfl | exact hB_o1.at rfl | exact hB_o0.cell 0 | exact hB_o1.cell 0 | assumption)) rfl ?_
     refine Wl.y (y_fieldAddr (fa28_3RefV _) rfl) rfl ?_
     refine Wl.l (l_load one9RefV rfl (by first | exact hB_o0.at rfl | exact hB_o1.at rfl | exact hB_o0.cell 0 | exact hB_o1.cell 0 | assumption)) rfl ?_
     refine Wl.y (y_lsss rfl rfl) rfl ?_
     refine Wl.y (y_assign rfl) rfl ?_
     refine Wl.nil ?_
     refine Wq.next hK_51 ?_
     refine Wc.ret ?_
     refine ret1 rfl rfl ?_
     exact ⟨_, rfl, bool_eq (by unfold lessV; rw [less_eq (cmpI_zero.2 c0_12), less_eq (cmpI_zero.2 c1_27), less_eq c2_46]; rw [show orI [cmpS a.s b.s] = cmpS a.s b.s by unfold orI; split; rename_i h; rw [h]; rfl; rfl]; rw [Bool.eq_iff_iff, decide_eq_true_eq, cmpS_lt]), hb⟩

/-! ### floats against floats -/
theorem shl_zero (b : Nat) (hb : b < 18446744073709551616) : (IntKind.u64.wrap ((canon b : Nat) * 2 ^ (1 : Int).toNat) == 0) = decide (rung b = 0) := by
  rw [Bool.eq_iff_iff, beq_iff_eq, decide_eq_true_eq, IntKind.wrap_u64, show (2 : Int) ^ (1 : Int).toNat = 2 by decide]
  unfold canon
  split
  · rename_i h; unfold isNan at h; simp only [decide_eq_true_eq] at h; unfold rung; constructor
    · intro h; exact absurd h (by decide)
    · omega
  · unfold rung; omega
theorem val_sign {b : Nat} (hb : b < 18446744073709551616) : (b < 9223372036854775808 ∧ val b = (V b : Int) ∧ rung b = b) ∨ (9223372036854775808 ≤ b ∧ val b = -(V (b - 9223372036854775808) : Int) ∧ rung b = b - 9223372036854775808) := by
  rcases Nat.lt_or_ge b 9223372036854775808 with h | h
  · left; refine ⟨h, ?_, Nat.mod_eq_of_lt h⟩
    have hg : isNeg b = false := by unfold isNeg; rw [Nat.div_eq_of_lt h]; rfl
    have hr : rung b = b := Nat.mod_eq_of_lt h
    unfold val; rw [hg, hr, if_neg (by simp)]
  · right
    have hr : rung b = b - 9223372036854775808 := by unfold rung; omega
    refine ⟨h, ?_, hr⟩
    have hg : isNeg b = true := by unfold isNeg; rw [beq_iff_eq]; omega
    unfold val; rw [hg, hr, if_pos rfl]
theorem key_val {a b : Nat} (na : isNan a = false) (nb : isNan b = false) (ha : a < 18446744073709551616) (hb : b < 18446744073709551616) :
    (val a < val b ↔ keyW a < keyW b ∧ ¬ (rung a = 0 ∧ rung b = 0)) ∧ (val a = val b ↔ keyW a = keyW b ∨ (rung a = 0 ∧ rung b = 0)) := by
  have ka := key_num na ha
  have kb := key_num nb hb
  rcases val_sign ha with ⟨a1, a2, a3⟩ | ⟨a1, a2, a3⟩ <;> rcases val_sign hb with ⟨b1, b2, b3⟩ | ⟨b1, b2, b3⟩
  · have h1 : V a < V b ↔ a < b := V_lt_iff
    have h2 : V a = V b ↔ a = b := V_inj
    rw [a2, b2, a3, b3]; omega
  · have h1 : V a = 0 ↔ a = 0 := V_zero
    have h2 : V (b - 9223372036854775808) = 0 ↔ b - 9223372036854775808 = 0 := V_zero
    rw [a2, b2, a3, b3]; omega
  · have h1 : V b = 0 ↔ b = 0 := V_zero
    have h2 : V (a - 9223372036854775808) = 0 ↔ a - 9223372036854775808 = 0 := V_zero
    rw [a2, b2, a3, b3]; omega
  · have h1 : V (b - 9223372036854775808) < V (a - 9223372036854775808) ↔ b - 9223372036854775808 < a - 9223372036854775808 := V_lt_iff
    have h2 : V (a - 9223372036854775808) = V (b - 9223372036854775808) ↔ a - 9223372036854775808 = b - 9223372036854775808 := V_inj
    rw [a2, b2, a3, b3]; omega
theorem cmpF_num {a b : Nat} (na : isNan a = false) (nb : isNan b = false) : cmpF a b = cmpI (val a) (val b) := by unfold cmpF; rw [if_neg (ne_tt na), if_neg (ne_tt nb)]
/-- what less tells, of floats -/
theorem float_less {a b : Nat} (na : isNan a = false) (nb : isNan b = false) (ha : a < 18446744073709551616) (hb : b < 18446744073709551616) :
    (cmpF a b < 0 ↔ cmpI (keyW a : Nat) (keyW b : Nat) < 0 ∧ ¬ (rung a = 0 ∧ rung b = 0)) ∧ (cmpF a b = 0 ↔ cmpI (keyW a : Nat) (keyW b : Nat) = 0 ∨ (rung a = 0 ∧ rung b = 0)) := by
  obtain ⟨h1, h2⟩ := key_val na nb ha hb
  rw [cmpF_num na nb, cmpI_lt, cmpI_lt, cmpI_zero, cmpI_zero, h1, h2]
  constructor <;> omega
theorem lessV_text {a b : Val} (h : a.k = 4) : knownV a b = true ∧ againstV a b = cmpS a.s b.s := by
  have h1 : ¬ (a.k = 2 ∧ b.k = 3) := by omega
  have h2 : ¬ (a.k = 3 ∧ b.k = 2) := by omega
  have h3 : ¬ a.k = 3 := by omega
  unfold knownV againstV; rw [if_neg h1, if_neg h2, if_neg h3, if_neg h1, if_neg h2, if_neg h3, if_pos h]; exact ⟨rfl, rfl⟩
theorem lessV_if {a b : Val} (h : a.k = 2 ∧ b.k = 3) : knownV a b = (!isNan b.f) ∧ againstV a b = agV a.n b.f := by
  unfold knownV againstV; rw [if_pos h, if_pos h]; exact ⟨rfl, rfl⟩
theorem lessV_fi {a b : Val} (h : a.k = 3 ∧ b.k = 2) : knownV a b = (!isNan a.f) ∧ againstV a b = -agV b.n a.f := by
  have h1 : ¬ (a.k = 2 ∧ b.k = 3) := by omega
  unfold knownV againstV; rw [if_neg h1, if_pos h, if_neg h1, if_pos h]; exact ⟨rfl, rfl⟩
theorem lessV_ff {a b : Val} (h : ¬ (a.k = 3 ∧ b.k = 2)) (h3 : a.k = 3) : knownV a b = (!isNan a.f && !isNan b.f) ∧ againstV a b = cmpF a.f b.f := by
  have h1 : ¬ (a.k = 2 ∧ b.k = 3) := by omega
  unfold knownV againstV; rw [if_neg h1, if_neg h, if_pos h3, if_neg h1, if_neg h, if_pos h3]; exact ⟨rfl, rfl⟩
theorem lessV_ii {a b : Val} (h4 : ¬ a.k = 4) (h2 : ¬ (a.k = 2 ∧ b.k = 3)) (h3 : ¬ a.k = 3) : knownV a b = true ∧ againstV a b = cmpI a.n b.n := by
  have h1 : ¬ (a.k = 3 ∧ b.k = 2) := by omega
  unfold knownV againstV; rw [if_neg h2, if_neg h1, if_neg h3, if_neg h2, if_neg h1, if_neg h3, if_neg h4]; exact ⟨rfl, rfl⟩
theorem mkL {a b : Val} {l s k : Bool} (hk : k = knownV a b) (hl : knownV a b = true → l = decide (againstV a b < 0) ∧ s = decide (againstV a b = 0)) :
    ∃ l' s', Value.tuple #[.bool l, .bool s, .bool k] = .tuple #[.bool l', .bool s', .bool (knownV a b)] ∧ (knownV a b = true → l' = decide (againstV a b < 0) ∧ s' = decide (againstV a b = 0)) := ⟨l, s, by rw [hk], hl⟩
theorem zeros_T {x y : Nat} (hx : x < 18446744073709551616) (hy : y < 18446744073709551616) (h : (IntKind.u64.wrap ((canon x : Nat) * 2 ^ (1 : Int).toNat) == 0) = true) : (IntKind.u64.wrap ((canon y : Nat) * 2 ^ (1 : Int).toNat) == 0) = decide (rung x = 0 ∧ rung y = 0) := by
  rw [shl_zero _ hx, decide_eq_true_eq] at h
  rw [shl_zero _ hy]; simp [h]
theorem zeros_F {x y : Nat} (hx : x < 18446744073709551616) (h : (IntKind.u64.wrap ((canon x : Nat) * 2 ^ (1 : Int).toNat) == 0) = false) : false = decide (rung x = 0 ∧ rung y = 0) := by
  rw [shl_zero _ hx, decide_eq_false_iff_not] at h
  simp [h]
theorem ffL {a b : Val} (oa : a.Ok) (ob : b.Ok) (h : ¬ (a.k = 3 ∧ b.k = 2)) (h3 : a.k = 3) {l s k : Bool} (hk : k = (!isNan a.f && !isNan b.f))
    (hl : l = (decide (cmpI (keyW a.f : Nat) (keyW b.f : Nat) < 0) && !decide (rung a.f = 0 ∧ rung b.f = 0))) (hs : s = (decide (cmpI (keyW a.f : Nat) (keyW b.f : Nat) = 0) || decide (rung a.f = 0 ∧ rung b.f = 0))) :
    ∃ l' s', Value.tuple #[.bool l, .bool s, .bool k] = .tuple #[.bool l', .bool s', .bool (knownV a b)] ∧ (knownV a b = true → l' = decide (againstV a b < 0) ∧ s' = decide (againstV a b = 0)) := by
  obtain ⟨h1, h2⟩ := lessV_ff h h3
  refine mkL (by rw [hk, h1]) (fun hn => ?_)
  rw [h1] at hn
  simp only [Bool.and_eq_true, Bool.not_eq_true'] at hn
  obtain ⟨f1, f2⟩ := float_less hn.1 hn.2 oa.f1 ob.f1
  rw [h2, hl, hs]
  constructor
  · rw [Bool.eq_iff_iff]; simp only [Bool.and_eq_true, decide_eq_true_eq, Bool.not_eq_true', decide_eq_false_iff_not]; exact f1.symm
  · rw [Bool.eq_iff_iff]; simp only [Bool.or_eq_true, decide_eq_true_eq]; exact f2.symm
theorem less_r (a b : Val) (oa : a.Ok) (ob : b.Ok) (w : World) : Ret Tryz.prog 41 [a.enc, b.enc] w fun v w' => (∃ l s, v = .tuple #[.bool l, .bool s, .bool (knownV a b)] ∧ (knownV a b = true → l = decide (againstV a b < 0) ∧ s = decide (againstV a b = 0))) ∧ Below w.heap.size w w' := by
  have hb := Below.refl w.heap.size w
  refine enter Tryz.func41 rfl rfl rfl ?_
  refine Wc.seq fun _ hK_1 => ?_
  refine Wc.region ?_
  refine Wl.boxN rfl rfl ?_
  rintro g_o0 w_o0 hg_o0 hn_o0 hs_o0
  have hz_o0 := hs_o0.size
  have hb := hb.trans (hs_o0.mono hb.size)
  have hB_o0 := hn_o0
  have hl_o0 := hB_o0.lt
  refine Wl.boxN rfl rfl ?_
  rintro g_o1 w_o1 hg_o1 hn_o1 hs_o1
  have hz_o1 := hs_o1.size
  have hb := hb.trans (hs_o1.mono hb.size)
  try have hB_o0 := Blk.below hB_o0 hs_o1
  have hB_o1 := hn_o1
  have hl_o1 := hB_o1.lt
  refine Wl.y (y_assign rfl) rfl ?_
  refine Wl.y (y_assign rfl) rfl ?_
  refine Wl.y (y_assign rfl) rfl ?_
  refine Wl.nil ?_
  refine Wq.next hK_1 ?_
  refine Wc.seq fun _ hK_7 => ?_
  refine Wc.seq fun _ hK_8 => ?_
  refine Wc.region ?_
  refine Wl.y (y_fieldAddr (fa28_0RefV _) rfl) rfl ?_
  refine Wl.l (l_load one3RefV rfl (by first | exact hB_o0.at rfl | exact hB_o1.at rfl | exact hB_o0.cell 0 | exact hB_o1.cell 0 | assumption)) rfl ?_
  refine Wl.y (y_eqli rfl rfl) rfl ?_
  refine Wl.nil ?_
  refine Wq.next hK_8 ?_
  refine Wc.cond rfl (fun c0_12 => ?_) (fun c0_12 => ?_)
  ·
   try simp only [decide_eq_true_eq, decide_eq_false_iff_not, beq_iff_eq, beq_eq_false_iff_ne, bne_iff_ne, bne_eq_false_iff_eq, Bool.not_eq_true', Bool.not_eq_false', Bool.not_eq_eq_eq_not, Bool.not_true, Bool.not_false, ne_eq, Int.not_lt, Int.not_le] at c0_12
   refine Wc.seq fun _ hK_13 => ?_
   refine Wc.quiet (by kernel_rfl) (by kernel_rfl) ?_
   refine Wy.y (y_fieldAddr (fa28_3RefV _) rfl) rfl ?_
   refine Wy.l (fun wq hq => l_load one9RefV rfl (by have hB_o0 := Blk.below hB_o0 hq; have hB_o1 := Blk.below hB_o1 hq; first | exact hB_o0.at rfl | exact hB_o1.at rfl | exact hB_o0.cell 0 | exact hB_o1.cell 0 | assumption)) rfl ?_
   refine Wy.y (y_fieldAddr (fa28_3RefV _) rfl) rfl ?_
   refine Wy.l (fun wq hq => l_load one9RefV rfl (by have hB_o0 := Blk.below hB_o0 hq; have hB_o1 := Blk.below hB_o1 hq; first | exact hB_o0.at rfl | exact hB_o1.at rfl | exact hB_o0.cell 0 | exact hB_o1.cell 0 | assumption)) rfl ?_
   refine Wy.y (y_lsss rfl rfl) rfl ?_
   refine Wy.y (y_fieldAddr (fa28_3RefV _) rfl) rfl ?_
   refine Wy.l (fun wq hq => l_load one9RefV rfl (by have hB_o0 := Blk.below hB_o0 hq; have hB_o1 := Blk.below hB_o1 hq; first | exact hB_o0.at rfl | exact hB_o1.at rfl | exact hB_o0.cell 0 | exact hB_o1.cell 0 | assumption)) rfl ?_
   refine Wy.y (y_fieldAddr (fa28_3RefV _) rfl) rfl ?_
   refine Wy.l (fun wq hq => l_load one9RefV rfl (by have hB_o0 := Blk.below hB_o0 hq; have hB_o1 := Blk.below hB_o1 hq; first | exact hB_o0.at rfl | exact hB_o1.at rfl | exact hB_o0.cell 0 | exact hB_o1.cell 0 | assumption)) rfl ?_
   refine Wy.y (y_eqls rfl rfl) rfl ?_
   refine Wy.y (y_assign rfl) rfl ?_
   refine Wy.y (y_assign rfl) rfl ?_
   refine Wy.y (y_assign rfl) rfl ?_
   refine Wy.nil fun w_g2 hs_g2 => ?_
   have hz_g2 := hs_g2.size
   have hb := hb.trans (hs_g2.mono hb.size)
   refine Wq.next hK_13 ?_
   refine Wc.ret ?_
   refine Wq.then_ret ?_
   refine ret3 rfl rfl rfl rfl ?_
   exact ⟨_, rfl, mkL (lessV_text c0_12).1.symm (fun _ => by rw [(lessV_text c0_12).2, beq_dec]; exact ⟨by rw [Bool.eq_iff_iff, decide_eq_true_eq, cmpS_lt], decide_eq_decide.2 cmpS_zero.symm⟩), hb⟩
  ·
   try simp only [decide_eq_true_eq, decide_eq_false_iff_not, beq_iff_eq, beq_eq_false_iff_ne, bne_iff_ne, bne_eq_false_iff_eq, Bool.not_eq_true', Bool.not_eq_false', Bool.not_eq_eq_eq_not, Bool.not_true, Bool.not_false, ne_eq, Int.not_lt, Int.not_le] at c0_12
   refine Wc.skip ?_
   refine Wq.next hK_7 ?_
   refine Wc.seq fun _ hK_27 => ?_
   refine Wc.seq fun _ hK_28 => ?_
   refine Wc.meet (X := Unit) (fun u_ => [(2, .pointer (some ⟨g_o0, 0, none⟩)), (3, .pointer (some ⟨g_o1, 0, none⟩)), (35, .bool (decide (a.k = 2 ∧ b.k = 3)))]) (fun u_ wr => Below w.heap.size w wr ∧ Blk wr g_o0 28 a.cells ∧ Blk wr g_o1 28 b.cells) (fun _ hM_29 => ?_) ?_
   ·
    refine Wc.region ?_
    refine Wl.y (y_fieldAddr (fa28_0RefV _) rfl) rfl ?_
    refine Wl.l (l_load one3RefV rfl (by first | exact hB_o0.at rfl | exact hB_o1.at rfl | exact hB_o0.cell 0 | exact hB_o1.cell 0 | assumption)) rfl ?_
    refine Wl.y (y_eqli rfl rfl) rfl ?_
    refine Wl.y (y_move rfl) rfl ?_
    refine Wl.guardT rfl rfl rfl (fun g_34 => ?_) (fun g_34 => ?_)
    ·
     have g_34_ := g_34
     try simp only [decide_eq_true_eq, decide_eq_false_iff_not, beq_iff_eq, beq_eq_false_iff_ne, bne_iff_ne, bne_eq_false_iff_eq, Bool.not_eq_true', Bool.not_eq_false', Bool.not_eq_eq_eq_not, Bool.not_true, Bool.not_false, ne_eq, Int.not_lt, Int.not_le] at g_34
     refine Wl.y (y_fieldAddr (fa28_0RefV _) rfl) rfl ?_
     refine Wl.on' rfl rfl g_34_ ?_
     refine Wl.l (l_load one3RefV rfl (by first | exact hB_o0.at rfl | exact hB_o1.at rfl | exact hB_o0.cell 0 | exact hB_o1.cell 0 | assumption)) rfl ?_
     refine Wl.on' rfl rfl g_34_ ?_
     refine Wl.y (y_eqli rfl rfl) rfl ?_
     refine Wl.y (y_pickT rfl g_34_ rfl) rfl ?_
     refine Wl.nil ?_
     refine Wq.meet hM_29 (()) (Sub.cons' rfl (by first | rfl | exact bool_eq (by simp [g_34, beqI])) (Sub.cons' rfl (by first | rfl | exact bool_eq (by simp [g_34, beqI])) (Sub.cons' rfl (by first | rfl | exact bool_eq (by simp [g_34, beqI])) (Sub.nil)))) ?_
     exact ⟨hb, hB_o0, hB_o1⟩
    ·
     have g_34_ := g_34
     try simp only [decide_eq_true_eq, decide_eq_false_iff_not, beq_iff_eq, beq_eq_false_iff_ne, bne_iff_ne, bne_eq_false_iff_eq, Bool.not_eq_true', Bool.not_eq_false', Bool.not_eq_eq_eq_not, Bool.not_true, Bool.not_false, ne_eq, Int.not_lt, Int.not_le] at g_34
     refine Wl.off' rfl rfl g_34_ rfl rfl ?_
     refine Wl.off' rfl rfl g_34_ rfl rfl ?_
     refine Wl.y (y_pickF rfl g_34_ rfl) rfl ?_
     refine Wl.nil ?_
     refine Wq.meet hM_29 (()) (Sub.cons' rfl (by first | rfl | exact bool_eq (by simp [g_34, beqI])) (Sub.cons' rfl (by first | rfl | exact bool_eq (by simp [g_34, beqI])) (Sub.cons' rfl (by first | rfl | exact bool_eq (by simp [g_34, beqI])) (Sub.nil)))) ?_
     exact ⟨hb, hB_o0, hB_o1⟩
   ·
    rintro u_ wr hI_40
    replace hI_40 : Below w.heap.size w wr ∧ Blk wr g_o0 28 a.cells ∧ Blk wr g_o1 28 b.cells := hI_40
    obtain ⟨hb, hB_o0, hB_o1⟩ := hI_40
    show Wq _ _ _ _ [(2, .pointer (some ⟨g_o0, 0, none⟩)), (3, .pointer (some ⟨g_o1, 0, none⟩)), (35, .bool (decide (a.k = 2 ∧ b.k = 3)))] _
    try have hzhb_g3 := hb.size
    have hlhB_o0_g3 := hB_o0.lt
    have hlhB_o1_g3 := hB_o1.lt
    refine Wq.next hK_28 ?_
    refine Wc.cond rfl (fun c1_41 => ?_) (fun c1_41 => ?_)
    ·
     try simp only [decide_eq_true_eq, decide_eq_false_iff_not, beq_iff_eq, beq_eq_false_iff_ne, bne_iff_ne, bne_eq_false_iff_eq, Bool.not_eq_true', Bool.not_eq_false', Bool.not_eq_eq_eq_not, Bool.not_true, Bool.not_false, ne_eq, Int.not_lt, Int.not_le] at c1_41
     refine Wc.seq fun _ hK_42 => ?_
     refine Wc.region ?_
     refine Wl.y (y_fieldAddr (fa28_1RefV _) rfl) rfl ?_
     refine Wl.l (l_load one2RefV rfl (by first | exact hB_o0.at rfl | exact hB_o1.at rfl | exact hB_o0.cell 0 | exact hB_o1.cell 0 | assumption)) rfl ?_
     refine Wl.y (y_fieldAddr (fa28_2RefV _) rfl) rfl ?_
     refine Wl.l (l_load one26RefV rfl (by first | exact hB_o0.at rfl | exact hB_o1.at rfl | exact hB_o0.cell 0 | exact hB_o1.cell 0 | assumption)) rfl ?_
     refine Wl.call txt80RefV rfl rfl (RAgainst_r _ _ ob.f1 oa.n0 oa.n1 _) rfl ?_
     rintro _ w_ ⟨rfl, hw_⟩
     have hw_ := hw_.symm; subst hw_
     refine Wl.y (y_move rfl) rfl ?_
     refine Wl.y (y_extract rfl rfl) rfl ?_
     refine Wl.y (y_extract rfl rfl) rfl ?_
     refine Wl.y (y_assign rfl) rfl ?_
     refine Wl.y (y_assign rfl) rfl ?_
     refine Wl.nil ?_
     refine Wq.next hK_42 ?_
     refine Wc.seq fun _ hK_53 => ?_
     refine Wc.region ?_
     refine Wl.y (y_move rfl) rfl ?_
     refine Wl.y (y_lssi rfl rfl) rfl ?_
     refine Wl.y (y_move rfl) rfl ?_
     refine Wl.y (y_eqli rfl rfl) rfl ?_
     refine Wl.y (y_move rfl) rfl ?_
     refine Wl.y (y_assign rfl) rfl ?_
     refine Wl.y (y_assign rfl) rfl ?_
     refine Wl.y (y_assign rfl) rfl ?_
     refine Wl.nil ?_
     refine Wq.next hK_53 ?_
     refine Wc.ret ?_
     refine Wq.then_ret ?_
     refine ret3 rfl rfl rfl rfl ?_
     exact ⟨_, rfl, mkL (lessV_if c1_41).1.symm (fun _ => by rw [(lessV_if c1_41).2]; exact ⟨rfl, beqI _ _⟩), hb⟩
    ·
     try simp only [decide_eq_true_eq, decide_eq_false_iff_not, beq_iff_eq, beq_eq_false_iff_ne, bne_iff_ne, bne_eq_false_iff_eq, Bool.not_eq_true', Bool.not_eq_false', Bool.not_eq_eq_eq_not, Bool.not_true, Bool.not_false, ne_eq, Int.not_lt, Int.not_le] at c1_41
     refine Wc.skip ?_
     refine Wq.next hK_27 ?_
     refine Wc.seq fun _ hK_62 => ?_
     refine Wc.seq fun _ hK_63 => ?_
     refine Wc.meet (X := Unit) (fun u_ => [(2, .pointer (some ⟨g_o0, 0, none⟩)), (3, .pointer (some ⟨g_o1, 0, none⟩)), (56, .bool (decide (a.k = 3 ∧ b.k = 2)))]) (fun u_ wr => Below w.heap.size w wr ∧ Blk wr g_o0 28 a.cells ∧ Blk wr g_o1 28 b.cells) (fun _ hM_64 => ?_) ?_
     ·
      refine Wc.region ?_
      refine Wl.y (y_fieldAddr (fa28_0RefV _) rfl) rfl ?_
      refine Wl.l (l_load one3RefV rfl (by first | exact hB_o0.at rfl | exact hB_o1.at rfl | exact hB_o0.cell 0 | exact hB_o1.cell 0 | assumption)) rfl ?_
      refine Wl.y (y_eqli rfl rfl) rfl ?_
      refine Wl.y (y_move rfl) rfl ?_
      refine Wl.guardT rfl rfl rfl (fun g_69 => ?_) (fun g_69 => ?_)
      ·
       have g_69_ := g_69
       try simp only [decide_eq_true_eq, decide_eq_false_iff_not, beq_iff_eq, beq_eq_false_iff_ne, bne_iff_ne, bne_eq_false_iff_eq, Bool.not_eq_true', Bool.not_eq_false', Bool.not_eq_eq_eq_not, Bool.not_true, Bool.not_false, ne_eq, Int.not_lt, Int.not_le] at g_69
       refine Wl.y (y_fieldAddr (fa28_0RefV _) rfl) rfl ?_
       refine Wl.on' rfl rfl g_69_ ?_
       refine Wl.l (l_load one3RefV rfl (by first | exact hB_o0.at rfl | exact hB_o1.at rfl | exact hB_o0.cell 0 | exact hB_o1.cell 0 | assumption)) rfl ?_
       refine Wl.on' rfl rfl g_69_ ?_
       refine Wl.y (y_eqli rfl rfl) rfl ?_
       refine Wl.y (y_pickT rfl g_69_ rfl) rfl ?_
       refine Wl.nil ?_
       refine Wq.meet hM_64 (()) (Sub.cons' rfl (by first | rfl | exact bool_eq (by simp [g_69, beqI])) (Sub.cons' rfl (by first | rfl | exact bool_eq (by simp [g_69, beqI])) (Sub.cons' rfl (by first | rfl | exact bool_eq (by simp [g_69, beqI])) (Sub.nil)))) ?_
       exact ⟨hb, hB_o0, hB_o1⟩
      ·
       have g_69_ := g_69
       try simp only [decide_eq_true_eq, decide_eq_false_iff_not, beq_iff_eq, beq_eq_false_iff_ne, bne_iff_ne, bne_eq_false_iff_eq, Bool.not_eq_true', Bool.not_eq_false', Bool.not_eq_eq_eq_not, Bool.not_true, Bool.not_false, ne_eq, Int.not_lt, Int.not_le] at g_69
       refine Wl.off' rfl rfl g_69_ rfl rfl ?_
       refine Wl.off' rfl rfl g_69_ rfl rfl ?_
       refine Wl.y (y_pickF rfl g_69_ rfl) rfl ?_
       refine Wl.nil ?_
       refine Wq.meet hM_64 (()) (Sub.cons' rfl (by first | rfl | exact bool_eq (by simp [g_69, beqI])) (Sub.cons' rfl (by first | rfl | exact bool_eq (by simp [g_69, beqI])) (Sub.cons' rfl (by first | rfl | exact bool_eq (by simp [g_69, beqI])) (Sub.nil)))) ?_
       exact ⟨hb, hB_o0, hB_o1⟩
     ·
      rintro u_ wr hI_75
      replace hI_75 : Below w.heap.size w wr ∧ Blk wr g_o0 28 a.cells ∧ Blk wr g_o1 28 b.cells := hI_75
      obtain ⟨hb, hB_o0, hB_o1⟩ := hI_75
      show Wq _ _ _ _ [(2, .pointer (some ⟨g_o0, 0, none⟩)), (3, .pointer (some ⟨g_o1, 0, none⟩)), (56, .bool (decide (a.k = 3 ∧ b.k = 2)))] _
      try have hzhb_g6 := hb.size
      have hlhB_o0_g6 := hB_o0.lt
      have hlhB_o1_g6 := hB_o1.lt
      refine Wq.next hK_63 ?_
      refine Wc.cond rfl (fun c2_76 => ?_) (fun c2_76 => ?_)
      ·
       try simp only [decide_eq_true_eq, decide_eq_false_iff_not, beq_iff_eq, beq_eq_false_iff_ne, bne_iff_ne, bne_eq_false_iff_eq, Bool.not_eq_true', Bool.not_eq_false', Bool.not_eq_eq_eq_not, Bool.not_true, Bool.not_false, ne_eq, Int.not_lt, Int.not_le] at c2_76
       refine Wc.seq fun _ hK_77 => ?_
       refine Wc.region ?_
       refine Wl.y (y_fieldAddr (fa28_1RefV _) rfl) rfl ?_
       refine Wl.l (l_load one2RefV rfl (by first | exact hB_o0.at rfl | exact hB_o1.at rfl | exact hB_o0.cell 0 | exact hB_o1.cell 0 | assumption)) rfl ?_
       refine Wl.y (y_fieldAddr (fa28_2RefV _) rfl) rfl ?_
       refine Wl.l (l_load one26RefV rfl (by first | exact hB_o0.at rfl | exact hB_o1.at rfl | exact hB_o0.cell 0 | exact hB_o1.cell 0 | assumption)) rfl ?_
       refine Wl.call txt80RefV rfl rfl (RAgainst_r _ _ oa.f1 ob.n0 ob.n1 _) rfl ?_
       rintro _ w_ ⟨rfl, hw_⟩
       have hw_ := hw_.symm; subst hw_
       refine Wl.y (y_move rfl) rfl ?_
       refine Wl.y (y_extract rfl rfl) rfl ?_
       refine Wl.y (y_extract rfl rfl) rfl ?_
       refine Wl.y (y_assign rfl) rfl ?_
       refine Wl.y (y_assign rfl) rfl ?_
       refine Wl.nil ?_
       refine Wq.next hK_77 ?_
       refine Wc.seq fun _ hK_88 => ?_
       refine Wc.region ?_
       refine Wl.y (y_move rfl) rfl ?_
       refine Wl.y (y_gtri rfl rfl) rfl ?_
       refine Wl.y (y_move rfl) rfl ?_
       refine Wl.y (y_eqli rfl rfl) rfl ?_
       refine Wl.y (y_move rfl) rfl ?_
       refine Wl.y (y_assign rfl) rfl ?_
       refine Wl.y (y_assign rfl) rfl ?_
       refine Wl.y (y_assign rfl) rfl ?_
       refine Wl.nil ?_
       refine Wq.next hK_88 ?_
       refine Wc.ret ?_
       refine Wq.then_ret ?_
       refine ret3 rfl rfl rfl rfl ?_
       exact ⟨_, rfl, mkL (lessV_fi c2_76).1.symm (fun _ => by rw [(lessV_fi c2_76).2, beqI]; exact ⟨decide_eq_decide.2 (by omega), decide_eq_decide.2 (by omega)⟩), hb⟩
      ·
       try simp only [decide_eq_true_eq, decide_eq_false_iff_not, beq_iff_eq, beq_eq_false_iff_ne, bne_iff_ne, bne_eq_false_iff_eq, Bool.not_eq_true', Bool.not_eq_false', Bool.not_eq_eq_eq_not, Bool.not_true, Bool.not_false, ne_eq, Int.not_lt, Int.not_le] at c2_76
       refine Wc.skip ?_
       refine Wq.next hK_62 ?_
       refine Wc.seq fun _ hK_97 => ?_
       refine Wc.seq fun _ hK_98 => ?_
       refine Wc.region ?_
       refine Wl.y (y_fieldAddr (fa28_0RefV _) rfl) rfl ?_
       refine Wl.l (l_load one3RefV rfl (by first | exact hB_o0.at rfl | exact hB_o1.at rfl | exact hB_o0.cell 0 | exact hB_o1.cell 0 | assumption)) rfl ?_
       refine Wl.y (y_eqli rfl rfl) rfl ?_
       refine Wl.nil ?_
       refine Wq.next hK_98 ?_
       refine Wc.cond rfl (fun c3_102 => ?_) (fun c3_102 => ?_)
       ·
        try simp only [decide_eq_true_eq, decide_eq_false_iff_not, beq_iff_eq, beq_eq_false_iff_ne, bne_iff_ne, bne_eq_false_iff_eq, Bool.not_eq_true', Bool.not_eq_false', Bool.not_eq_eq_eq_not, Bool.not_true, Bool.not_false, ne_eq, Int.not_lt, Int.not_le] at c3_102
        refine Wc.seq fun _ hK_103 => ?_
        refine Wc.region ?_
        refine Wl.y (y_fieldAddr (fa28_2RefV _) rfl) rfl ?_
        refine Wl.l (l_load one26RefV rfl (by first | exact hB_o0.at rfl | exact hB_o1.at rfl | exact hB_o0.cell 0 | exact hB_o1.cell 0 | assumption)) rfl ?_
        refine Wl.call txt81RefV rfl rfl (Nan_r _ oa.f1 _) rfl ?_
        rintro _ w_ ⟨rfl, hw_⟩
        have hw_ := hw_.symm; subst hw_
        refine Wl.y (y_assign rfl) rfl ?_
        refine Wl.nil ?_
        refine Wq.next hK_103 ?_
        refine Wc.seq fun _ hK_108 => ?_
        refine Wc.region ?_
        refine Wl.y (y_fieldAddr (fa28_2RefV _) rfl) rfl ?_
        refine Wl.l (l_load one26RefV rfl (by first | exact hB_o0.at rfl | exact hB_o1.at rfl | exact hB_o0.cell 0 | exact hB_o1.cell 0 | assumption)) rfl ?_
        refine Wl.call txt81RefV rfl rfl (Nan_r _ ob.f1 _) rfl ?_
        rintro _ w_ ⟨rfl, hw_⟩
        have hw_ := hw_.symm; subst hw_
        refine Wl.y (y_assign rfl) rfl ?_
        refine Wl.nil ?_
        refine Wq.next hK_108 ?_
        refine Wc.seq fun _ hK_113 => ?_
        refine Wc.region ?_
        refine Wl.y (y_fieldAddr (fa28_2RefV _) rfl) rfl ?_
        refine Wl.l (l_load one26RefV rfl (by first | exact hB_o0.at rfl | exact hB_o1.at rfl | exact hB_o0.cell 0 | exact hB_o1.cell 0 | assumption)) rfl ?_
        refine Wl.y (y_fieldAddr (fa28_2RefV _) rfl) rfl ?_
        refine Wl.l (l_load one26RefV rfl (by first | exact hB_o0.at rfl | exact hB_o1.at rfl | exact hB_o0.cell 0 | exact hB_o1.cell 0 | assumption)) rfl ?_
        refine Wl.call txt71RefV rfl rfl (ROrder_r _ _ oa.f1 ob.f1 _) rfl ?_
        rintro _ w_ ⟨rfl, hw_⟩
        have hw_ := hw_.symm; subst hw_
        refine Wl.y (y_assign rfl) rfl ?_
        refine Wl.nil ?_
        refine Wq.next hK_113 ?_
        refine Wc.seq fun _ hK_120 => ?_
        refine Wc.meet (X := Unit) (fun u_ => [(11, .bool (isNan a.f)), (12, .bool (isNan b.f)), (13, .int .i64 (cmpI (keyW a.f : Nat) (keyW b.f : Nat))), (14, .bool (decide (rung a.f = 0 ∧ rung b.f = 0)))]) (fun u_ wr => Below w.heap.size w wr) (fun _ hM_121 => ?_) ?_
        ·
         refine Wc.region ?_
         refine Wl.y (y_fieldAddr (fa28_2RefV _) rfl) rfl ?_
         refine Wl.l (l_load one26RefV rfl (by first | exact hB_o0.at rfl | exact hB_o1.at rfl | exact hB_o0.cell 0 | exact hB_o1.cell 0 | assumption)) rfl ?_
         refine Wl.call txt43RefV rfl rfl (Bits_r _ oa.f1 _) rfl ?_
         rintro _ w_ ⟨rfl, hw_⟩
         have hw_ := hw_.symm; subst hw_
         refine Wl.y (y_shl rfl rfl (by first | decide | omega) (by first | decide | omega)) rfl ?_
         refine Wl.y (y_eqli rfl rfl) rfl ?_
         refine Wl.y (y_move rfl) rfl ?_
         refine Wl.guardT rfl rfl rfl (fun g_128 => ?_) (fun g_128 => ?_)
         ·
          have g_128_ := g_128
          refine Wl.y (y_fieldAddr (fa28_2RefV _) rfl) rfl ?_
          refine Wl.on' rfl rfl g_128_ ?_
          refine Wl.l (l_load one26RefV rfl (by first | exact hB_o0.at rfl | exact hB_o1.at rfl | exact hB_o0.cell 0 | exact hB_o1.cell 0 | assumption)) rfl ?_
          refine Wl.on' rfl rfl g_128_ ?_
          refine Wl.call txt43RefV rfl rfl (Bits_r _ ob.f1 _) rfl ?_
          rintro _ w_ ⟨rfl, hw_⟩
          have hw_ := hw_.symm; subst hw_
          refine Wl.on' rfl rfl g_128_ ?_
          refine Wl.y (y_shl rfl rfl (by first | decide | omega) (by first | decide | omega)) rfl ?_
          refine Wl.on' rfl rfl g_128_ ?_
          refine Wl.y (y_eqli rfl rfl) rfl ?_
          refine Wl.y (y_pickT rfl g_128_ rfl) rfl ?_
          refine Wl.y (y_assign rfl) rfl ?_
          refine Wl.nil ?_
          refine Wq.meet hM_121 (()) (Sub.cons' rfl (by first | rfl | exact bool_eq (zeros_T oa.f1 ob.f1 g_128_) | exact bool_eq (zeros_F oa.f1 g_128_)) (Sub.cons' rfl (by first | rfl | exact bool_eq (zeros_T oa.f1 ob.f1 g_128_) | exact bool_eq (zeros_F oa.f1 g_128_)) (Sub.cons' rfl (by first | rfl | exact bool_eq (zeros_T oa.f1 ob.f1 g_128_) | exact bool_eq (zeros_F oa.f1 g_128_)) (Sub.cons' rfl (by first | rfl | exact bool_eq (zeros_T oa.f1 ob.f1 g_128_) | exact bool_eq (zeros_F oa.f1 g_128_)) (Sub.nil))))) ?_
          exact hb
         ·
          have g_128_ := g_128
          refine Wl.off' rfl rfl g_128_ rfl rfl ?_
          refine Wl.off' rfl rfl g_128_ rfl rfl ?_
          refine Wl.off' rfl rfl g_128_ rfl rfl ?_
          refine Wl.off' rfl rfl g_128_ rfl rfl ?_
          refine Wl.y (y_pickF rfl g_128_ rfl) rfl ?_
          refine Wl.y (y_assign rfl) rfl ?_
          refine Wl.nil ?_
          refine Wq.meet hM_121 (()) (Sub.cons' rfl (by first | rfl | exact bool_eq (zeros_T oa.f1 ob.f1 g_128_) | exact bool_eq (zeros_F oa.f1 g_128_)) (Sub.cons' rfl (by first | rfl | exact bool_eq (zeros_T oa.f1 ob.f1 g_128_) | exact bool_eq (zeros_F oa.f1 g_128_)) (Sub.cons' rfl (by first | rfl | exact bool_eq (zeros_T oa.f1 ob.f1 g_128_) | exact bool_eq (zeros_F oa.f1 g_128_)) (Sub.cons' rfl (by first | rfl | exact bool_eq (zeros_T oa.f1 ob.f1 g_128_) | exact bool_eq (zeros_F oa.f1 g_128_)) (Sub.nil))))) ?_
          exact hb
        ·
         rintro u_ wr hI_138
         replace hI_138 : Below w.heap.size w wr := hI_138
         have hb := hI_138
         show Wq _ _ _ _ [(11, .bool (isNan a.f)), (12, .bool (isNan b.f)), (13, .int .i64 (cmpI (keyW a.f : Nat) (keyW b.f : Nat))), (14, .bool (decide (rung a.f = 0 ∧ rung b.f = 0)))] _
         try have hzhb_g13 := hb.size
         refine Wq.next hK_120 ?_
         refine Wc.seq fun _ hK_139 => ?_
         refine Wc.region ?_
         refine Wl.y (y_move rfl) rfl ?_
         refine Wl.y (y_lssi rfl rfl) rfl ?_
         refine Wl.y (y_move rfl) rfl ?_
         refine Wl.guardT rfl rfl rfl (fun g_143 => ?_) (fun g_143 => ?_)
         ·
          have g_143_ := g_143
          refine Wl.y (y_move rfl) rfl ?_
          refine Wl.on' rfl rfl g_143_ ?_
          refine Wl.y (y_not rfl) rfl ?_
          refine Wl.y (y_pickT rfl g_143_ rfl) rfl ?_
          refine Wl.y (y_move rfl) rfl ?_
          refine Wl.y (y_eqli rfl rfl) rfl ?_
          refine Wl.y (y_move rfl) rfl ?_
          refine Wl.guardF rfl rfl rfl (fun g_150 => ?_) (fun g_150 => ?_)
          ·
           have g_150_ := g_150
           refine Wl.y (y_pickT rfl g_150_ rfl) rfl ?_
           refine Wl.y (y_move rfl) rfl ?_
           refine Wl.y (y_not rfl) rfl ?_
           refine Wl.y (y_move rfl) rfl ?_
           refine Wl.guardT rfl rfl rfl (fun g_155 => ?_) (fun g_155 => ?_)
           ·
            have g_155_ := g_155
            refine Wl.y (y_move rfl) rfl ?_
            refine Wl.on' rfl rfl g_155_ ?_
            refine Wl.y (y_not rfl) rfl ?_
            refine Wl.y (y_pickT rfl g_155_ rfl) rfl ?_
            refine Wl.y (y_assign rfl) rfl ?_
            refine Wl.y (y_assign rfl) rfl ?_
            refine Wl.y (y_assign rfl) rfl ?_
            refine Wl.nil ?_
            refine Wq.next hK_139 ?_
            refine Wc.ret ?_
            refine Wq.then_ret ?_
            refine ret3 rfl rfl rfl rfl ?_
            exact ⟨_, rfl, ffL oa ob c2_76 c3_102 (by simp [g_155_]) (by rw [g_143_]; simp) (by rw [← beqI, g_150_]; simp), hb⟩
           ·
            have g_155_ := g_155
            refine Wl.off' rfl rfl g_155_ rfl rfl ?_
            refine Wl.y (y_pickF rfl g_155_ rfl) rfl ?_
            refine Wl.y (y_assign rfl) rfl ?_
            refine Wl.y (y_assign rfl) rfl ?_
            refine Wl.y (y_assign rfl) rfl ?_
            refine Wl.nil ?_
            refine Wq.next hK_139 ?_
            refine Wc.ret ?_
            refine Wq.then_ret ?_
            refine ret3 rfl rfl rfl rfl ?_
            exact ⟨_, rfl, ffL oa ob c2_76 c3_102 (by simp [g_155_]) (by rw [g_143_]; simp) (by rw [← beqI, g_150_]; simp), hb⟩
          ·
           have g_150_ := g_150
           refine Wl.y (y_move rfl) rfl ?_
           refine Wl.y (y_pickF rfl g_150_ rfl) rfl ?_
           refine Wl.y (y_move rfl) rfl ?_
           refine Wl.y (y_not rfl) rfl ?_
           refine Wl.y (y_move rfl) rfl ?_
           refine Wl.guardT rfl rfl rfl (fun g_171 => ?_) (fun g_171 => ?_)
           ·
            have g_171_ := g_171
            refine Wl.y (y_move rfl) rfl ?_
            refine Wl.on' rfl rfl g_171_ ?_
            refine Wl.y (y_not rfl) rfl ?_
            refine Wl.y (y_pickT rfl g_171_ rfl) rfl ?_
            refine Wl.y (y_assign rfl) rfl ?_
            refine Wl.y (y_assign rfl) rfl ?_
            refine Wl.y (y_assign rfl) rfl ?_
            refine Wl.nil ?_
            refine Wq.next hK_139 ?_
            refine Wc.ret ?_
            refine Wq.then_ret ?_
            refine ret3 rfl rfl rfl rfl ?_
            exact ⟨_, rfl, ffL oa ob c2_76 c3_102 (by simp [g_171_]) (by rw [g_143_]; simp) (by rw [← beqI, g_150_]; simp), hb⟩
           ·
            have g_171_ := g_171
            refine Wl.off' rfl rfl g_171_ rfl rfl ?_
            refine Wl.y (y_pickF rfl g_171_ rfl) rfl ?_
            refine Wl.y (y_assign rfl) rfl ?_
            refine Wl.y (y_assign rfl) rfl ?_
            refine Wl.y (y_assign rfl) rfl ?_
            refine Wl.nil ?_
            refine Wq.next hK_139 ?_
            refine Wc.ret ?_
            refine Wq.then_ret ?_
            refine ret3 rfl rfl rfl rfl ?_
            exact ⟨_, rfl, ffL oa ob c2_76 c3_102 (by simp [g_171_]) (by rw [g_143_]; simp) (by rw [← beqI, g_150_]; simp), hb⟩
         ·
          have g_143_ := g_143
          refine Wl.off' rfl rfl g_143_ rfl rfl ?_
          refine Wl.y (y_pickF rfl g_143_ rfl) rfl ?_
          refine Wl.y (y_move rfl) rfl ?_
          refine Wl.y (y_eqli rfl rfl) rfl ?_
          refine Wl.y (y_move rfl) rfl ?_
          refine Wl.guardF rfl rfl rfl (fun g_186 => ?_) (fun g_186 => ?_)
          ·
           have g_186_ := g_186
           refine Wl.y (y_pickT rfl g_186_ rfl) rfl ?_
           refine Wl.y (y_move rfl) rfl ?_
           refine Wl.y (y_not rfl) rfl ?_
           refine Wl.y (y_move rfl) rfl ?_
           refine Wl.guardT rfl rfl rfl (fun g_191 => ?_) (fun g_191 => ?_)
           ·
            have g_191_ := g_191
            refine Wl.y (y_move rfl) rfl ?_
            refine Wl.on' rfl rfl g_191_ ?_
            refine Wl.y (y_not rfl) rfl ?_
            refine Wl.y (y_pickT rfl g_191_ rfl) rfl ?_
            refine Wl.y (y_assign rfl) rfl ?_
            refine Wl.y (y_assign rfl) rfl ?_
            refine Wl.y (y_assign rfl) rfl ?_
            refine Wl.nil ?_
            refine Wq.next hK_139 ?_
            refine Wc.ret ?_
            refine Wq.then_ret ?_
            refine ret3 rfl rfl rfl rfl ?_
            exact ⟨_, rfl, ffL oa ob c2_76 c3_102 (by simp [g_191_]) (by rw [g_143_]; simp) (by rw [← beqI, g_186_]; simp), hb⟩
           ·
            have g_191_ := g_191
            refine Wl.off' rfl rfl g_191_ rfl rfl ?_
            refine Wl.y (y_pickF rfl g_191_ rfl) rfl ?_
            refine Wl.y (y_assign rfl) rfl ?_
            refine Wl.y (y_assign rfl) rfl ?_
            refine Wl.y (y_assign rfl) rfl ?_
            refine Wl.nil ?_
            refine Wq.next hK_139 ?_
            refine Wc.ret ?_
            refine Wq.then_ret ?_
            refine ret3 rfl rfl rfl rfl ?_
            exact ⟨_, rfl, ffL oa ob c2_76 c3_102 (by simp [g_191_]) (by rw [g_143_]; simp) (by rw [← beqI, g_186_]; simp), hb⟩
          ·
           have g_186_ := g_186
           refine Wl.y (y_move rfl) rfl ?_
           refine Wl.y (y_pickF rfl g_186_ rfl) rfl ?_
           refine Wl.y (y_move rfl) rfl ?_
           refine Wl.y (y_not rfl) rfl ?_
           refine Wl.y (y_move rfl) rfl ?_
           refine Wl.guardT rfl rfl rfl (fun g_207 => ?_) (fun g_207 => ?_)
           ·
            have g_207_ := g_207
            refine Wl.y (y_move rfl) rfl ?_
            refine Wl.on' rfl rfl g_207_ ?_
            refine Wl.y (y_not rfl) rfl ?_
            refine Wl.y (y_pickT rfl g_207_ rfl) rfl ?_
            refine Wl.y (y_assign rfl) rfl ?_
            refine Wl.y (y_assign rfl) rfl ?_
            refine Wl.y (y_assign rfl) rfl ?_
            refine Wl.nil ?_
            refine Wq.next hK_139 ?_
            refine Wc.ret ?_
            refine Wq.then_ret ?_
            refine ret3 rfl rfl rfl rfl ?_
            exact ⟨_, rfl, ffL oa ob c2_76 c3_102 (by simp [g_207_]) (by rw [g_143_]; simp) (by rw [← beqI, g_186_]; simp), hb⟩
           ·
            have g_207_ := g_207
            refine Wl.off' rfl rfl g_207_ rfl rfl ?_
            refine Wl.y (y_pickF rfl g_207_ rfl) rfl ?_
            refine Wl.y (y_assign rfl) rfl ?_
            refine Wl.y (y_assign rfl) rfl ?_
            refine Wl.y (y_assign rfl) rfl ?_
            refine Wl.nil ?_
            refine Wq.next hK_139 ?_
            refine Wc.ret ?_
            refine Wq.then_ret ?_
            refine ret3 rfl rfl rfl rfl ?_
            exact ⟨_, rfl, ffL oa ob c2_76 c3_102 (by simp [g_207_]) (by rw [g_143_]; simp) (by rw [← beqI, g_186_]; simp), hb⟩
       ·
        try simp only [decide_eq_true_eq, decide_eq_false_iff_not, beq_iff_eq, beq_eq_false_iff_ne, bne_iff_ne, bne_eq_false_iff_eq, Bool.not_eq_true', Bool.not_eq_false', Bool.not_eq_eq_eq_not, Bool.not_true, Bool.not_false, ne_eq, Int.not_lt, Int.not_le] at c3_102
        refine Wc.skip ?_
        refine Wq.next hK_97 ?_
        refine Wc.seq fun _ hK_218 => ?_
        refine Wc.quiet (by kernel_rfl) (by kernel_rfl) ?_
        refine Wy.y (y_fieldAddr (fa28_1RefV _) rfl) rfl ?_
        refine Wy.l (fun wq hq => l_load one2RefV rfl (by have hB_o0 := Blk.below hB_o0 hq; have hB_o1 := Blk.below hB_o1 hq; first | exact hB_o0.at rfl | exact hB_o1.at rfl | exact hB_o0.cell 0 | exact hB_o1.cell 0 | assumption)) rfl ?_
        refine Wy.y (y_fieldAddr (fa28_1RefV _) rfl) rfl ?_
        refine Wy.l (fun wq hq => l_load one2RefV rfl (by have hB_o0 := Blk.below hB_o0 hq; have hB_o1 := Blk.below hB_o1 hq; first | exact hB_o0.at rfl | exact hB_o1.at rfl | exact hB_o0.cell 0 | exact hB_o1.cell 0 | assumption)) rfl ?_
        refine Wy.y (y_lssi rfl rfl) rfl ?_
        refine Wy.y (y_fieldAddr (fa28_1RefV _) rfl) rfl ?_
        refine Wy.l (fun wq hq => l_load one2RefV rfl (by have hB_o0 := Blk.below hB_o0 hq; have hB_o1 := Blk.below hB_o1 hq; first | exact hB_o0.at rfl | exact hB_o1.at rfl | exact hB_o0.cell 0 | exact hB_o1.cell 0 | assumption)) rfl ?_
        refine Wy.y (y_fieldAddr (fa28_1RefV _) rfl) rfl ?_
        refine Wy.l (fun wq hq => l_load one2RefV rfl (by have hB_o0 := Blk.below hB_o0 hq; have hB_o1 := Blk.below hB_o1 hq; first | exact hB_o0.at rfl | exact hB_o1.at rfl | exact hB_o0.cell 0 | exact hB_o1.cell 0 | assumption)) rfl ?_
        refine Wy.y (y_eqli rfl rfl) rfl ?_
        refine Wy.y (y_assign rfl) rfl ?_
        refine Wy.y (y_assign rfl) rfl ?_
        refine Wy.y (y_assign rfl) rfl ?_
        refine Wy.nil fun w_g15 hs_g15 => ?_
        have hz_g15 := hs_g15.size
        have hb := hb.trans (hs_g15.mono hb.size)
        refine Wq.next hK_218 ?_
        refine Wc.ret ?_
        refine ret3 rfl rfl rfl rfl ?_
        exact ⟨_, rfl, mkL (lessV_ii c0_12 c1_41 c3_102).1.symm (fun _ => by rw [(lessV_ii c0_12 c1_41 c3_102).2, beqI]; exact ⟨decide_eq_decide.2 cmpI_lt.symm, decide_eq_decide.2 cmpI_zero.symm⟩), hb⟩
end Go.Proofs.YtijkbinjdgjioaaGreatDoor
