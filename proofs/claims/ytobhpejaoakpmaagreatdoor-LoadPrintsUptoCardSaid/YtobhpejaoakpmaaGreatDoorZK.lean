/- The reference: Right, Same, null, Truth, by the calculus. · bridlewayref02.Int and sign, by the calculus. · bridlewayref02.Text, by the calculus. -/
import Derived.Test.YtobhpejaoakpmaaGreatDoorZH
import Derived.Test.YtobhpejaoakpmaaGreatDoorZD
import Derived.Test.YtobhpejaoakpmaaGreatDoorZJ
namespace Go.Proofs.YtobhpejaoakpmaaGreatDoor
open Go.RowKit Go.Bw Go.Bw.Fl
set_option linter.unusedVariables false
set_option linter.unusedSimpArgs false
theorem exn116RefR : Extn Tryz.prog 116 Extern.MathFloatBits.float64bits := fun args w => run_callFunc_extern Tryz.func116 (by kernel_rfl) (by kernel_rfl) (by kernel_rfl) (by kernel_rfl) args w
theorem fa94_0RefR (p : Addr) (w : World) : (Instr.fieldAt 94 (.pointer (some p)) 0).run Tryz.prog w = .ok (.pointer (some (p.add 0))) w := run_fieldAt (i := 0) (sz := 0) Tryz.underlying94 rfl (by kernel_rfl) p w
theorem fa94_1RefR (p : Addr) (w : World) : (Instr.fieldAt 94 (.pointer (some p)) 1).run Tryz.prog w = .ok (.pointer (some (p.add 1))) w := run_fieldAt (i := 1) (sz := 0) Tryz.underlying94 rfl (by kernel_rfl) p w
theorem fa94_2RefR (p : Addr) (w : World) : (Instr.fieldAt 94 (.pointer (some p)) 2).run Tryz.prog w = .ok (.pointer (some (p.add 2))) w := run_fieldAt (i := 2) (sz := 0) Tryz.underlying94 rfl (by kernel_rfl) p w
theorem fa94_3RefR (p : Addr) (w : World) : (Instr.fieldAt 94 (.pointer (some p)) 3).run Tryz.prog w = .ok (.pointer (some (p.add 3))) w := run_fieldAt (i := 3) (sz := 0) Tryz.underlying94 rfl (by kernel_rfl) p w
theorem one2RefR : One Tryz.prog 2 := ⟨_, Tryz.underlying2, rfl, by kernel_rfl⟩
theorem one3RefR : One Tryz.prog 3 := ⟨_, Tryz.underlying3, rfl, by kernel_rfl⟩
theorem one9RefR : One Tryz.prog 9 := ⟨_, Tryz.underlying9, rfl, by kernel_rfl⟩
theorem one92RefR : One Tryz.prog 92 := ⟨_, Tryz.underlying92, rfl, by kernel_rfl⟩
theorem txt77RefR : Txt Tryz.prog 77 := ⟨_, Tryz.func77, by kernel_rfl, rfl⟩   -- bridleway/bridlewayref01.Bits
theorem RRight_r (a : Val) (oa : a.Ok) (w : World) : Ret Tryz.prog 110 [a.enc] w fun v w' => v = .bool (rightV a) ∧ Below w.heap.size w w' := by
  have hb := Below.refl w.heap.size w
  refine enter Tryz.func110 rfl rfl rfl ?_
  refine Wc.seq fun _ hK_1 => Wc.region ?_
  refine Wl.boxN rfl rfl ?_
  rintro g_o0 w_o0 hg_o0 hn_o0 hs_o0
  have hz_o0 := hs_o0.size
  have hb := hb.trans (hs_o0.mono hb.size)
  have hB_o0 := hn_o0
  have hl_o0 := hB_o0.lt
  refine Wl.sg rfl rfl <| Wl.nil <| Wq.next hK_1 <| Wc.seq fun _ hK_4 => Wc.region ?_
  refine Wl.y (y_fieldAddr (fa94_2RefR _) rfl) rfl ?_
  refine Wl.l (l_load one92RefR rfl (by exact hB_o0.at rfl)) rfl ?_
  refine Wl.y (y_f2b exn116RefR rfl rfl) rfl ?_
  refine Wl.y (y_eqli rfl rfl) rfl <| Wl.sg rfl rfl <| Wl.nil <| Wq.next hK_4 <| Wc.seq fun _ hK_10 => Wc.seq fun _ hK_11 => Wc.region ?_
  refine Wl.y (y_fieldAddr (fa94_0RefR _) rfl) rfl ?_
  refine Wl.l (l_load one3RefR rfl (by exact hB_o0.at rfl)) rfl ?_
  refine Wl.nil <| Wq.next hK_11 <| Wc.block <| Wc.seq fun _ hK_14 => Wc.region <| Wl.y (y_eqli rfl rfl) rfl <| Wl.sg rfl rfl <| Wl.nil <| Wq.next hK_14 ?_
  refine Wc.cond rfl (fun c0_17 => ?_) (fun c0_17 => ?_)
  ·
   simp only [DZ] at c0_17
   refine Wc.seq fun _ hK_18 => Wc.region ?_
   refine Wl.y (y_fieldAddr (fa94_1RefR _) rfl) rfl ?_
   refine Wl.l (l_load one2RefR rfl (by exact hB_o0.at rfl)) rfl ?_
   refine Wl.y (y_eqli rfl rfl) rfl <| Wl.mv rfl rfl ?_
   refine Wl.guardT rfl rfl rfl (fun g_23 => ?_) (fun g_23 => ?_)
   ·
    have g_23_ := g_23
    refine Wl.mv rfl rfl ?_
    refine Wl.y (y_pickT rfl g_23_ rfl) rfl ?_
    refine Wl.mv rfl rfl ?_
    refine Wl.guardT rfl rfl rfl (fun g_27 => ?_) (fun g_27 => ?_)
    ·
     have g_27_ := g_27
     refine Wl.y (y_fieldAddr (fa94_3RefR _) rfl) rfl ?_
     refine Wl.on' rfl rfl g_27_ ?_
     refine Wl.l (l_load one9RefR rfl (by exact hB_o0.at rfl)) rfl ?_
     refine Wl.on' rfl rfl g_27_ <| Wl.y (y_eqls rfl rfl) rfl ?_
     refine Wl.y (y_pickT rfl g_27_ rfl) rfl ?_
     refine Wl.sg rfl rfl <| Wl.nil <| Wq.next hK_18 <| Wc.ret ?_
     refine Wq.block_ret (Wq.then_ret ?_)
     refine ret1 rfl rfl ?_
     exact ⟨_, rfl, bool_eq (by rw [right0 c0_17]; simp_all [beq0] <;> (cases a.s <;> rfl)), hb⟩
    have g_27_ := g_27
    refine Wl.off' rfl rfl g_27_ rfl rfl <| Wl.off' rfl rfl g_27_ rfl rfl ?_
    refine Wl.y (y_pickF rfl g_27_ rfl) rfl ?_
    refine Wl.sg rfl rfl <| Wl.nil <| Wq.next hK_18 <| Wc.ret ?_
    refine Wq.block_ret (Wq.then_ret ?_)
    refine ret1 rfl rfl ?_
    exact ⟨_, rfl, bool_eq (by rw [right0 c0_17]; simp_all [beq0] <;> (cases a.s <;> rfl)), hb⟩
   have g_23_ := g_23
   refine Wl.y (y_pickF rfl g_23_ rfl) rfl ?_
   refine Wl.mv rfl rfl <| Wl.off' rfl rfl rfl rfl rfl <| Wl.off' rfl rfl rfl rfl rfl <| Wl.off' rfl rfl rfl rfl rfl <| Wl.y (y_pickF rfl rfl rfl) rfl <| Wl.sg rfl rfl <| Wl.nil <| Wq.next hK_18 <| Wc.ret ?_
   refine Wq.block_ret (Wq.then_ret ?_)
   refine ret1 rfl rfl ?_
   exact ⟨_, rfl, bool_eq (by rw [right0 c0_17]; simp_all [beq0] <;> (cases a.s <;> rfl)), hb⟩
  simp only [DZ] at c0_17
  refine Wc.seq fun _ hK_39 => Wc.region <| Wl.y (y_eqli rfl rfl) rfl <| Wl.sg rfl rfl <| Wl.nil <| Wq.next hK_39 ?_
  refine Wc.cond rfl (fun c1_42 => ?_) (fun c1_42 => ?_)
  ·
   simp only [DZ] at c1_42
   refine Wc.seq fun _ hK_43 => Wc.region ?_
   refine Wl.y (y_fieldAddr (fa94_1RefR _) rfl) rfl ?_
   refine Wl.l (l_load one2RefR rfl (by exact hB_o0.at rfl)) rfl ?_
   refine Wl.y (y_eqli rfl rfl) rfl <| Wl.mv rfl rfl ?_
   refine Wl.guardF rfl rfl rfl (fun g_48 => ?_) (fun g_48 => ?_)
   ·
    have g_48_ := g_48
    refine Wl.off' rfl rfl g_48_ rfl rfl <| Wl.off' rfl rfl g_48_ rfl rfl ?_
    refine Wl.y (y_pickT rfl g_48_ rfl) rfl ?_
    refine Wl.mv rfl rfl <| Wl.on' rfl rfl rfl <| Wl.mv rfl rfl <| Wl.y (y_pickT rfl rfl rfl) rfl <| Wl.mv rfl rfl ?_
    refine Wl.guardT rfl rfl rfl (fun g_54 => ?_) (fun g_54 => ?_)
    ·
     have g_54_ := g_54
     refine Wl.y (y_fieldAddr (fa94_3RefR _) rfl) rfl ?_
     refine Wl.on' rfl rfl g_54_ ?_
     refine Wl.l (l_load one9RefR rfl (by exact hB_o0.at rfl)) rfl ?_
     refine Wl.on' rfl rfl g_54_ <| Wl.y (y_eqls rfl rfl) rfl ?_
     refine Wl.y (y_pickT rfl g_54_ rfl) rfl ?_
     refine Wl.sg rfl rfl <| Wl.nil <| Wq.next hK_43 <| Wc.ret ?_
     refine Wq.block_ret (Wq.then_ret ?_)
     refine ret1 rfl rfl ?_
     exact ⟨_, rfl, bool_eq (by rw [right1 c1_42]; simp_all [beq0] <;> (cases a.s <;> rfl)), hb⟩
    have g_54_ := g_54
    refine Wl.off' rfl rfl g_54_ rfl rfl <| Wl.off' rfl rfl g_54_ rfl rfl ?_
    refine Wl.y (y_pickF rfl g_54_ rfl) rfl ?_
    refine Wl.sg rfl rfl <| Wl.nil <| Wq.next hK_43 <| Wc.ret ?_
    refine Wq.block_ret (Wq.then_ret ?_)
    refine ret1 rfl rfl ?_
    exact ⟨_, rfl, bool_eq (by rw [right1 c1_42]; simp_all [beq0] <;> (cases a.s <;> rfl)), hb⟩
   have g_48_ := g_48
   refine Wl.y (y_fieldAddr (fa94_1RefR _) rfl) rfl ?_
   refine Wl.on' rfl rfl g_48_ ?_
   refine Wl.l (l_load one2RefR rfl (by exact hB_o0.at rfl)) rfl ?_
   refine Wl.on' rfl rfl g_48_ <| Wl.y (y_eqli rfl rfl) rfl ?_
   refine Wl.y (y_pickF rfl g_48_ rfl) rfl ?_
   refine Wl.mv rfl rfl ?_
   refine Wl.guardT rfl rfl rfl (fun g_67 => ?_) (fun g_67 => ?_)
   ·
    have g_67_ := g_67
    refine Wl.mv rfl rfl ?_
    refine Wl.y (y_pickT rfl g_67_ rfl) rfl ?_
    refine Wl.mv rfl rfl ?_
    refine Wl.guardT rfl rfl rfl (fun g_71 => ?_) (fun g_71 => ?_)
    ·
     have g_71_ := g_71
     refine Wl.y (y_fieldAddr (fa94_3RefR _) rfl) rfl ?_
     refine Wl.on' rfl rfl g_71_ ?_
     refine Wl.l (l_load one9RefR rfl (by exact hB_o0.at rfl)) rfl ?_
     refine Wl.on' rfl rfl g_71_ <| Wl.y (y_eqls rfl rfl) rfl ?_
     refine Wl.y (y_pickT rfl g_71_ rfl) rfl ?_
     refine Wl.sg rfl rfl <| Wl.nil <| Wq.next hK_43 <| Wc.ret ?_
     refine Wq.block_ret (Wq.then_ret ?_)
     refine ret1 rfl rfl ?_
     exact ⟨_, rfl, bool_eq (by rw [right1 c1_42]; simp_all [beq0] <;> (cases a.s <;> rfl)), hb⟩
    have g_71_ := g_71
    refine Wl.off' rfl rfl g_71_ rfl rfl <| Wl.off' rfl rfl g_71_ rfl rfl ?_
    refine Wl.y (y_pickF rfl g_71_ rfl) rfl ?_
    refine Wl.sg rfl rfl <| Wl.nil <| Wq.next hK_43 <| Wc.ret ?_
    refine Wq.block_ret (Wq.then_ret ?_)
    refine ret1 rfl rfl ?_
    exact ⟨_, rfl, bool_eq (by rw [right1 c1_42]; simp_all [beq0] <;> (cases a.s <;> rfl)), hb⟩
   have g_67_ := g_67
   refine Wl.y (y_pickF rfl g_67_ rfl) rfl ?_
   refine Wl.mv rfl rfl <| Wl.off' rfl rfl rfl rfl rfl <| Wl.off' rfl rfl rfl rfl rfl <| Wl.off' rfl rfl rfl rfl rfl <| Wl.y (y_pickF rfl rfl rfl) rfl <| Wl.sg rfl rfl <| Wl.nil <| Wq.next hK_43 <| Wc.ret ?_
   refine Wq.block_ret (Wq.then_ret ?_)
   refine ret1 rfl rfl ?_
   exact ⟨_, rfl, bool_eq (by rw [right1 c1_42]; simp_all [beq0] <;> (cases a.s <;> rfl)), hb⟩
  simp only [DZ] at c1_42
  refine Wc.seq fun _ hK_83 => Wc.region <| Wl.y (y_eqli rfl rfl) rfl <| Wl.sg rfl rfl <| Wl.nil <| Wq.next hK_83 ?_
  refine Wc.cond rfl (fun c2_86 => ?_) (fun c2_86 => ?_)
  ·
   simp only [DZ] at c2_86
   refine Wc.seq fun _ hK_87 => Wc.region <| Wl.mv rfl rfl <| Wl.mv rfl rfl ?_
   refine Wl.guardT rfl rfl rfl (fun g_90 => ?_) (fun g_90 => ?_)
   ·
    have g_90_ := g_90
    refine Wl.y (y_fieldAddr (fa94_3RefR _) rfl) rfl ?_
    refine Wl.on' rfl rfl g_90_ ?_
    refine Wl.l (l_load one9RefR rfl (by exact hB_o0.at rfl)) rfl ?_
    refine Wl.on' rfl rfl g_90_ <| Wl.y (y_eqls rfl rfl) rfl ?_
    refine Wl.y (y_pickT rfl g_90_ rfl) rfl ?_
    refine Wl.sg rfl rfl <| Wl.nil <| Wq.next hK_87 <| Wc.ret ?_
    refine Wq.block_ret (Wq.then_ret ?_)
    refine ret1 rfl rfl ?_
    exact ⟨_, rfl, bool_eq (by rw [right2 c2_86]; simp_all [beq0] <;> (cases a.s <;> rfl)), hb⟩
   have g_90_ := g_90
   refine Wl.off' rfl rfl g_90_ rfl rfl <| Wl.off' rfl rfl g_90_ rfl rfl ?_
   refine Wl.y (y_pickF rfl g_90_ rfl) rfl ?_
   refine Wl.sg rfl rfl <| Wl.nil <| Wq.next hK_87 <| Wc.ret ?_
   refine Wq.block_ret (Wq.then_ret ?_)
   refine ret1 rfl rfl ?_
   exact ⟨_, rfl, bool_eq (by rw [right2 c2_86]; simp_all [beq0] <;> (cases a.s <;> rfl)), hb⟩
  simp only [DZ] at c2_86
  refine Wc.seq fun _ hK_98 => Wc.region <| Wl.y (y_eqli rfl rfl) rfl <| Wl.sg rfl rfl <| Wl.nil <| Wq.next hK_98 ?_
  refine Wc.cond rfl (fun c3_101 => ?_) (fun c3_101 => ?_)
  ·
   simp only [DZ] at c3_101
   refine Wc.seq fun _ hK_102 => ?_
   refine Wc.quiet (by kernel_rfl) (by kernel_rfl) ?_
   refine Wy.y (y_fieldAddr (fa94_1RefR _) rfl) rfl ?_
   refine Wy.l (fun wq hq => l_load one2RefR rfl (by have hB_o0 := Blk.below hB_o0 hq; first | exact hB_o0.at rfl | exact hB_o0.cell 0 | assumption)) rfl ?_
   refine Wy.y (y_eqli rfl rfl) rfl <| Wy.y (y_move rfl) rfl ?_
   refine Wy.guardT rfl rfl rfl (fun g_107 => ?_) (fun g_107 => ?_)
   ·
    have g_107_ := g_107
    refine Wy.y (y_fieldAddr (fa94_3RefR _) rfl) rfl ?_
    refine Wy.on' rfl rfl g_107_ ?_
    refine Wy.l (fun wq hq => l_load one9RefR rfl (by have hB_o0 := Blk.below hB_o0 hq; first | exact hB_o0.at rfl | exact hB_o0.cell 0 | assumption)) rfl ?_
    refine Wy.on' rfl rfl g_107_ <| Wy.y (y_eqls rfl rfl) rfl ?_
    refine Wy.y (y_pickT rfl g_107_ rfl) rfl ?_
    refine Wy.y (y_move rfl) rfl ?_
    refine Wy.guardT rfl rfl rfl (fun g_113 => ?_) (fun g_113 => ?_)
    ·
     have g_113_ := g_113
     refine Wy.y (y_fieldAddr (fa94_2RefR _) rfl) rfl ?_
     refine Wy.on' rfl rfl g_113_ ?_
     refine Wy.l (fun wq hq => l_load one92RefR rfl (by have hB_o0 := Blk.below hB_o0 hq; first | exact hB_o0.at rfl | exact hB_o0.cell 0 | assumption)) rfl ?_
     refine Wy.on' rfl rfl g_113_ ?_
     refine Wy.call txt77RefR rfl rfl (fun wq hq => by have hB_o0 := Blk.below hB_o0 hq; exact Ret.quiet (Bits_r _ oa.f1 _)) rfl ?_
     refine Wy.on' rfl rfl g_113_ ?_
     refine Wy.y (y_fieldAddr (fa94_2RefR _) rfl) rfl ?_
     refine Wy.on' rfl rfl g_113_ ?_
     refine Wy.l (fun wq hq => l_load one92RefR rfl (by have hB_o0 := Blk.below hB_o0 hq; first | exact hB_o0.at rfl | exact hB_o0.cell 0 | assumption)) rfl ?_
     refine Wy.on' rfl rfl g_113_ ?_
     refine Wy.y (y_f2b exn116RefR rfl rfl) rfl ?_
     refine Wy.on' rfl rfl g_113_ <| Wy.y (y_eqli rfl rfl) rfl ?_
     refine Wy.y (y_pickT rfl g_113_ rfl) rfl ?_
     refine Wy.y (y_assign rfl) rfl ?_
     refine Wy.nil fun w_g10 hs_g10 => ?_
     have hz_g10 := hs_g10.size
     have hb := hb.trans (hs_g10.mono hb.size)
     refine Wq.next hK_102 <| Wc.ret ?_
     refine Wq.block_ret (Wq.then_ret ?_)
     refine ret1 rfl rfl ?_
     exact ⟨_, rfl, bool_eq (by rw [right3 c3_101]; simp_all [beqN] <;> (cases a.s <;> rfl)), hb⟩
    have g_113_ := g_113
    refine Wy.off' rfl rfl g_113_ rfl rfl <| Wy.off' rfl rfl g_113_ rfl rfl <| Wy.off' rfl rfl g_113_ rfl rfl <| Wy.off' rfl rfl g_113_ rfl rfl <| Wy.off' rfl rfl g_113_ rfl rfl <| Wy.off' rfl rfl g_113_ rfl rfl ?_
    refine Wy.y (y_pickF rfl g_113_ rfl) rfl ?_
    refine Wy.y (y_assign rfl) rfl ?_
    refine Wy.nil fun w_g10 hs_g10 => ?_
    have hz_g10 := hs_g10.size
    have hb := hb.trans (hs_g10.mono hb.size)
    refine Wq.next hK_102 <| Wc.ret ?_
    refine Wq.block_ret (Wq.then_ret ?_)
    refine ret1 rfl rfl ?_
    exact ⟨_, rfl, bool_eq (by rw [right3 c3_101]; simp_all [beqN] <;> (cases a.s <;> rfl)), hb⟩
   have g_107_ := g_107
   refine Wy.off' rfl rfl g_107_ rfl rfl <| Wy.off' rfl rfl g_107_ rfl rfl ?_
   refine Wy.y (y_pickF rfl g_107_ rfl) rfl ?_
   refine Wy.y (y_move rfl) rfl <| Wy.off' rfl rfl rfl rfl rfl <| Wy.off' rfl rfl rfl rfl rfl <| Wy.off' rfl rfl rfl rfl rfl <| Wy.off' rfl rfl rfl rfl rfl <| Wy.off' rfl rfl rfl rfl rfl <| Wy.off' rfl rfl rfl rfl rfl <| Wy.off' rfl rfl rfl rfl rfl <| Wy.y (y_pickF rfl rfl rfl) rfl <| Wy.y (y_assign rfl) rfl ?_
   refine Wy.nil fun w_g10 hs_g10 => ?_
   have hz_g10 := hs_g10.size
   have hb := hb.trans (hs_g10.mono hb.size)
   refine Wq.next hK_102 <| Wc.ret ?_
   refine Wq.block_ret (Wq.then_ret ?_)
   refine ret1 rfl rfl ?_
   exact ⟨_, rfl, bool_eq (by rw [right3 c3_101]; simp_all [beqN] <;> (cases a.s <;> rfl)), hb⟩
  simp only [DZ] at c3_101
  refine Wc.seq fun _ hK_129 => Wc.region <| Wl.y (y_eqli rfl rfl) rfl <| Wl.sg rfl rfl <| Wl.nil <| Wq.next hK_129 ?_
  refine Wc.cond rfl (fun c4_132 => ?_) (fun c4_132 => ?_)
  ·
   simp only [DZ] at c4_132
   refine Wc.seq fun _ hK_133 => Wc.region ?_
   refine Wl.y (y_fieldAddr (fa94_1RefR _) rfl) rfl ?_
   refine Wl.l (l_load one2RefR rfl (by exact hB_o0.at rfl)) rfl ?_
   refine Wl.y (y_eqli rfl rfl) rfl <| Wl.mv rfl rfl ?_
   refine Wl.guardT rfl rfl rfl (fun g_138 => ?_) (fun g_138 => ?_)
   ·
    have g_138_ := g_138
    refine Wl.mv rfl rfl ?_
    refine Wl.y (y_pickT rfl g_138_ rfl) rfl ?_
    refine Wl.sg rfl rfl <| Wl.nil <| Wq.next hK_133 <| Wc.ret ?_
    refine Wq.block_ret (Wq.then_ret ?_)
    refine ret1 rfl rfl ?_
    exact ⟨_, rfl, bool_eq (by rw [right4 c4_132]; simp_all [beq0] <;> (cases a.s <;> rfl)), hb⟩
   have g_138_ := g_138
   refine Wl.y (y_pickF rfl g_138_ rfl) rfl ?_
   refine Wl.sg rfl rfl <| Wl.nil <| Wq.next hK_133 <| Wc.ret ?_
   refine Wq.block_ret (Wq.then_ret ?_)
   refine ret1 rfl rfl ?_
   exact ⟨_, rfl, bool_eq (by rw [right4 c4_132]; simp_all [beq0] <;> (cases a.s <;> rfl)), hb⟩
  simp only [DZ] at c4_132
  refine Wc.skip <| Wq.block_normal <| Wq.next hK_10 <| Wc.seq fun _ hK_144 => Wc.region <| Wl.sg rfl rfl <| Wl.nil <| Wq.next hK_144 <| Wc.ret ?_
  refine ret1 rfl rfl ?_
  exact ⟨_, rfl, bool_eq (by unfold rightV; rw [if_neg c0_17, if_neg c1_42, if_neg c2_86, if_neg c3_101, if_neg c4_132]), hb⟩
end Go.Proofs.YtobhpejaoakpmaaGreatDoor
namespace Go.Proofs.YtobhpejaoakpmaaGreatDoor
open Go.RowKit Go.Bw Go.Bw.Fl
set_option linter.unusedVariables false
set_option linter.unusedSimpArgs false
theorem txt111RInt : Txt Tryz.prog 111 := ⟨_, Tryz.func111, by kernel_rfl, rfl⟩   -- bridleway/bridlewayref02.Int
theorem nt_abs (n : Int) : (n.tdiv 10).natAbs = n.natAbs / 10 ∧ (0 ≤ n → n.tmod 10 = ((n.natAbs % 10 : Nat) : Int)) ∧ (n < 0 → n.tmod 10 = -((n.natAbs % 10 : Nat) : Int)) := by
  rcases Int.lt_or_le n 0 with h | h
  · obtain ⟨u, hu⟩ : ∃ u : Nat, n = -(u : Int) := ⟨n.natAbs, by omega⟩
    subst hu
    have e1 : ((-(u : Int)).tdiv 10) = -((u / 10 : Nat) : Int) := by rw [Int.neg_tdiv, Int.tdiv_eq_ediv_of_nonneg (by omega)]; omega
    have e2 : ((-(u : Int)).tmod 10) = -((u % 10 : Nat) : Int) := by rw [Int.neg_tmod, Int.tmod_eq_emod_of_nonneg (by omega)]; omega
    rw [e1, e2]; omega
  · obtain ⟨u, hu⟩ : ∃ u : Nat, n = (u : Int) := ⟨n.natAbs, by omega⟩
    subst hu
    have e1 : ((u : Int).tdiv 10) = ((u / 10 : Nat) : Int) := by rw [Int.tdiv_eq_ediv_of_nonneg (by omega)]; omega
    have e2 : ((u : Int).tmod 10) = ((u % 10 : Nat) : Int) := by rw [Int.tmod_eq_emod_of_nonneg (by omega)]; omega
    rw [e1, e2]; omega
theorem RInt_r (u : Nat) : ∀ (n : Int) (hu : n.natAbs = u) (h0 : -9223372036854775808 ≤ n) (h1 : n ≤ 9223372036854775807) (w : World), Ret Tryz.prog 111 [.int .i64 n] w fun v w' => v = str (Lib.decDigits u) ∧ Below w.heap.size w w' := by
  induction u using Nat.strongRecOn with
  | ind u ih =>
  intro n hu h0 h1 w
  obtain ⟨hq, hm0, hm1⟩ := nt_abs n
  rw [hu] at hq hm0 hm1
  have hqb : -9223372036854775808 ≤ n.tdiv 10 ∧ n.tdiv 10 ≤ 9223372036854775807 := by omega
  have hb := Below.refl w.heap.size w
  refine enter Tryz.func111 rfl rfl rfl ?_
  refine Wc.seq fun _ hK_1 => Wc.region <| Wl.sg rfl rfl <| Wl.nil <| Wq.next hK_1 <| Wc.seq fun _ hK_3 => Wc.region <| Wl.mv rfl rfl ?_
  refine Wl.y (y_rem rfl rfl (by decide)) rfl ?_
  refine Wl.sg rfl rfl <| Wl.nil <| Wq.next hK_3 <| Wc.seq fun _ hK_7 => Wc.seq fun _ hK_8 => Wc.region <| Wl.mv rfl rfl <| Wl.y (y_lssi rfl rfl) rfl <| Wl.nil <| Wq.next hK_8 ?_
  refine Wc.meet (X := Unit) (fun u_ => [(0, .int .i64 n), (3, .int .i64 (u % 10 : Nat))]) (fun u_ wr => Below w.heap.size w wr) (fun _ hM_11 => ?_) ?_
  ·
   refine Wc.cond rfl (fun c0_12 => ?_) (fun c0_12 => ?_)
   ·
    have c0_12_ := c0_12
    simp only [DZ] at c0_12
    refine Wc.region <| Wl.mv rfl rfl ?_
    refine Wl.y (y_eq (y_negi rfl) (int_eq (show _ = ((u % 10 : Nat) : Int) by have := c0_12; first | (rw [wrap_i64 _ (by omega) (by omega)]; omega) | omega))) rfl ?_
    refine Wl.sg rfl rfl <| Wl.nil ?_
    refine Wq.meet hM_11 (()) (by repeat first | exact Sub.nil | refine Sub.cons' rfl (by first | rfl | exact int_eq (by have := c0_12; omega)) ?_) ?_
    exact hb
   have c0_12_ := c0_12
   simp only [DZ] at c0_12
   refine Wc.skip ?_
   refine Wq.meet hM_11 (()) (by repeat first | exact Sub.nil | refine Sub.cons' rfl (by first | rfl | exact int_eq (by have := c0_12; omega)) ?_) ?_
   exact hb
  rintro u_ wr hI_16
  replace hI_16 : Below w.heap.size w wr := hI_16
  have hb := hI_16
  show Wq _ _ _ _ [(0, .int .i64 n), (3, .int .i64 (u % 10 : Nat))] _
  have hzhb_c0 := hb.size
  refine Wq.next hK_7 <| Wc.seq fun _ hK_17 => Wc.region <| Wl.mv rfl rfl ?_
  refine Wl.y (y_addI rfl rfl (by omega) (by omega)) rfl ?_
  refine Wl.y (y_eq (y_convi Tryz.underlying2 Tryz.underlying5 rfl) (int_eq (digit_u8 (u % 10) (by omega)))) rfl ?_
  refine Wl.litN (sz := 1) (vs := [_]) Tryz.underlying33 (by kernel_rfl) rfl rfl rfl rfl rfl rfl ?_
  rintro g_b0 w_b0 hg_b0 hn_b0 hs_b0
  have hz_b0 := hs_b0.size
  have hb := hb.trans (hs_b0.mono hb.size)
  have hB_b0 := hn_b0
  have hl_b0 := hB_b0.lt
  refine Wl.l (l_str Tryz.underlying33 Tryz.underlying5 Tryz.underlying9 rfl (by exact Rd.byte hB_b0)) rfl ?_
  refine Wl.sg rfl rfl <| Wl.nil <| Wq.next hK_17 <| Wc.seq fun _ hK_24 => Wc.region <| Wl.mv rfl rfl ?_
  refine Wl.y (y_eq (y_quo rfl rfl (by decide)) (int_eq (show _ = n.tdiv 10 from wrap_i64 _ (by omega) (by omega)))) rfl ?_
  refine Wl.sg rfl rfl <| Wl.nil <| Wq.next hK_24 <| Wc.seq fun _ hK_28 => Wc.seq fun _ hK_29 => Wc.region <| Wl.mv rfl rfl <| Wl.y (y_neqi rfl rfl) rfl <| Wl.nil <| Wq.next hK_29 ?_
  refine Wc.cond rfl (fun c1_32 => ?_) (fun c1_32 => ?_)
  ·
   have c1_32_ := c1_32
   simp only [DZ] at c1_32
   refine Wc.seq fun _ hK_33 => Wc.region <| Wl.mv rfl rfl ?_
   refine Wl.call txt111RInt rfl rfl (ih (u / 10) (by have := c1_32; omega) (n.tdiv 10) hq hqb.1 hqb.2 _) rfl ?_
   rintro _ w_k0 ⟨rfl, hs_k0⟩
   have hz_k0 := hs_k0.size
   have hb := hb.trans (hs_k0.mono hb.size)
   refine Wl.mv rfl rfl ?_
   refine Wl.y (y_adds rfl rfl (by have := decDigits_le (u / 10) (by omega); first | omega | (simp; omega))) rfl ?_
   refine Wl.sg rfl rfl <| Wl.nil <| Wq.next hK_33 <| Wc.ret <| Wq.then_ret ?_
   refine ret1 rfl rfl ?_
   exact ⟨_, rfl, by rw [Lib.decDigits.eq_def u, dif_neg (by have := c1_32; omega)], hb⟩
  have c1_32_ := c1_32
  simp only [DZ] at c1_32
  refine Wc.skip <| Wq.next hK_28 <| Wc.seq fun _ hK_39 => Wc.region <| Wl.mv rfl rfl <| Wl.sg rfl rfl <| Wl.nil <| Wq.next hK_39 <| Wc.ret ?_
  refine ret1 rfl rfl ?_
  exact ⟨_, rfl, by rw [Lib.decDigits.eq_def u, dif_pos (by have := c1_32; omega), Nat.mod_eq_of_lt (by have := c1_32; omega)], hb⟩
theorem rsign_r (n : Int) (w : World) : Ret Tryz.prog 112 [.int .i64 n] w fun v w' => v = str (if n < 0 then [45] else []) ∧ Below w.heap.size w w' := by
  have hb := Below.refl w.heap.size w
  refine enter Tryz.func112 rfl rfl rfl ?_
  refine Wc.seq fun _ hK_1 => Wc.region <| Wl.sg rfl rfl <| Wl.nil <| Wq.next hK_1 <| Wc.seq fun _ hK_3 => Wc.seq fun _ hK_4 => Wc.region <| Wl.mv rfl rfl <| Wl.y (y_lssi rfl rfl) rfl ?_
  refine Wl.nil <| Wq.next hK_4 ?_
  refine Wc.cond rfl (fun c0_7 => ?_) (fun c0_7 => ?_)
  ·
   have c0_7_ := c0_7
   simp only [DZ] at c0_7
   refine Wc.seq fun _ hK_8 => Wc.region <| Wl.sg rfl rfl <| Wl.nil <| Wq.next hK_8 <| Wc.ret <| Wq.then_ret ?_
   refine ret1 rfl rfl ?_
   exact ⟨_, rfl, str_eq (if_pos c0_7).symm, hb⟩
  have c0_7_ := c0_7
  simp only [DZ] at c0_7
  refine Wc.skip <| Wq.next hK_3 <| Wc.seq fun _ hK_10 => Wc.region <| Wl.sg rfl rfl <| Wl.nil <| Wq.next hK_10 <| Wc.ret ?_
  refine ret1 rfl rfl ?_
  exact ⟨_, rfl, str_eq (if_neg (by have := c0_7; omega)).symm, hb⟩
theorem take_end {l : List UInt8} {i : Nat} (h : i < l.length) : l.take (i + 1) = l.take i ++ [l.getD i 0] := by
  rw [List.take_add_one, List.getElem?_eq_getElem h]; simp [List.getD, List.getElem?_eq_getElem h]
theorem qc_take {s : List UInt8} {i : Nat} (h : i < s.length) : (s.take (i + 1)).flatMap qc = (s.take i).flatMap qc ++ qc (s.getD i 0) := by
  rw [take_end h, List.flatMap_append]; simp
theorem one_at {s : List UInt8} {i : Nat} (h : i < s.length) : (s.take (i + 1)).drop i = [s.getD i 0] := by
  rw [take_end h, List.drop_append_of_le_length (by rw [List.length_take]; omega), List.drop_eq_nil_of_le (by rw [List.length_take]; omega)]; rfl
theorem itoa_neg {n : Int} (h : n < 0) : Lib.itoa n = 45 :: Lib.decDigits n.natAbs := by unfold Lib.itoa; rw [if_pos h]
theorem itoa_pos {n : Int} (h : ¬ n < 0) : Lib.itoa n = Lib.decDigits n.natAbs := by unfold Lib.itoa; rw [if_neg h]; congr 1; omega
theorem itoa_sgn (n : Int) : Lib.itoa n = (if n < 0 then [45] else []) ++ Lib.decDigits n.natAbs := by
  by_cases h : n < 0
  · rw [itoa_neg h, if_pos h]; rfl
  · rw [itoa_pos h, if_neg h]; rfl
end Go.Proofs.YtobhpejaoakpmaaGreatDoor
namespace Go.Proofs.YtobhpejaoakpmaaGreatDoor
open Go.RowKit Go.Bw Go.Bw.Fl
set_option linter.unusedVariables false
set_option linter.unusedSimpArgs false
theorem fa94_0RTxt (p : Addr) (w : World) : (Instr.fieldAt 94 (.pointer (some p)) 0).run Tryz.prog w = .ok (.pointer (some (p.add 0))) w := run_fieldAt (i := 0) (sz := 0) Tryz.underlying94 rfl (by kernel_rfl) p w
theorem fa94_1RTxt (p : Addr) (w : World) : (Instr.fieldAt 94 (.pointer (some p)) 1).run Tryz.prog w = .ok (.pointer (some (p.add 1))) w := run_fieldAt (i := 1) (sz := 0) Tryz.underlying94 rfl (by kernel_rfl) p w
theorem fa94_2RTxt (p : Addr) (w : World) : (Instr.fieldAt 94 (.pointer (some p)) 2).run Tryz.prog w = .ok (.pointer (some (p.add 2))) w := run_fieldAt (i := 2) (sz := 0) Tryz.underlying94 rfl (by kernel_rfl) p w
theorem fa94_3RTxt (p : Addr) (w : World) : (Instr.fieldAt 94 (.pointer (some p)) 3).run Tryz.prog w = .ok (.pointer (some (p.add 3))) w := run_fieldAt (i := 3) (sz := 0) Tryz.underlying94 rfl (by kernel_rfl) p w
theorem one2RTxt : One Tryz.prog 2 := ⟨_, Tryz.underlying2, rfl, by kernel_rfl⟩
theorem one3RTxt : One Tryz.prog 3 := ⟨_, Tryz.underlying3, rfl, by kernel_rfl⟩
theorem one9RTxt : One Tryz.prog 9 := ⟨_, Tryz.underlying9, rfl, by kernel_rfl⟩
theorem one92RTxt : One Tryz.prog 92 := ⟨_, Tryz.underlying92, rfl, by kernel_rfl⟩
theorem txt110RTxt : Txt Tryz.prog 110 := ⟨_, Tryz.func110, by kernel_rfl, rfl⟩   -- bridleway/bridlewayref02.Right
theorem txt111RTxt : Txt Tryz.prog 111 := ⟨_, Tryz.func111, by kernel_rfl, rfl⟩   -- bridleway/bridlewayref02.Int
theorem txt112RTxt : Txt Tryz.prog 112 := ⟨_, Tryz.func112, by kernel_rfl, rfl⟩   -- bridleway/bridlewayref02.sign
theorem txt113RTxt : Txt Tryz.prog 113 := ⟨_, Tryz.func113, by kernel_rfl, rfl⟩   -- bridleway/bridlewayref01.Text
theorem right_k {a : Val} (h : rightV a = true) : a.k = 0 ∨ a.k = 1 ∨ a.k = 2 ∨ a.k = 3 ∨ a.k = 4 := by
  refine Classical.byContradiction fun hn => ?_
  unfold rightV at h
  rw [if_neg (by omega), if_neg (by omega), if_neg (by omega), if_neg (by omega), if_neg (by omega)] at h
  cases h
theorem RText2_r (a : Val) (oa : a.Ok) (hl : a.s.length ≤ 70368744177664) (w : World) : Ret Tryz.prog 73 [a.enc] w fun v w' => v = .tuple #[str (textV (quoteV a.s) a).1, .int .i64 (textV (quoteV a.s) a).2] ∧ Below w.heap.size w w' := by
  have hn0 := oa.n0
  have hn1 := oa.n1
  have hdl := decDigits_le a.n.natAbs (by omega)
  have hb := Below.refl w.heap.size w
  refine enter Tryz.func73 rfl rfl rfl ?_
  refine Wc.seq fun _ hK_1 => Wc.region ?_
  refine Wl.boxN rfl rfl ?_
  rintro g_o0 w_o0 hg_o0 hn_o0 hs_o0
  have hz_o0 := hs_o0.size
  have hb := hb.trans (hs_o0.mono hb.size)
  have hB_o0 := hn_o0
  have hl_o0 := hB_o0.lt
  refine Wl.sg rfl rfl <| Wl.sg rfl rfl <| Wl.nil <| Wq.next hK_1 <| Wc.seq fun _ hK_5 => Wc.region ?_
  refine Wl.l (l_loadS Tryz.underlying94 (by kernel_rfl) rfl (by exact fun j u hu => hB_o0.at hu)) rfl ?_
  refine Wl.call txt110RTxt rfl rfl (RRight_r a oa _) rfl ?_
  rintro _ w_k0 ⟨rfl, hs_k0⟩
  have hz_k0 := hs_k0.size
  have hb := hb.trans (hs_k0.mono hb.size)
  have hB_o0 := Blk.below hB_o0 hs_k0
  refine Wl.sg rfl rfl <| Wl.nil <| Wq.next hK_5 <| Wc.seq fun _ hK_9 => Wc.seq fun _ hK_10 => Wc.region <| Wl.mv rfl rfl <| Wl.y (y_not rfl) rfl <| Wl.nil <| Wq.next hK_10 ?_
  refine Wc.cond rfl (fun c0_13 => ?_) (fun c0_13 => ?_)
  ·
   have c0_13_ := c0_13
   simp only [DZ] at c0_13
   have hr : rightV a = false := by have h := c0_13_; simpa using h
   refine Wc.seq fun _ hK_14 => Wc.region <| Wl.sg rfl rfl <| Wl.sg rfl rfl <| Wl.nil <| Wq.next hK_14 <| Wc.ret <| Wq.then_ret ?_
   refine ret2 rfl rfl rfl ?_
   exact ⟨_, rfl, by unfold textV; rw [if_pos hr]; rfl, hb⟩
  have c0_13_ := c0_13
  simp only [DZ] at c0_13
  have hr : rightV a = true := by have h := c0_13_; simpa using h
  have hr' : ¬ rightV a = false := by rw [hr]; simp
  have hkk := right_k hr
  refine Wc.skip <| Wq.next hK_9 <| Wc.seq fun _ hK_17 => Wc.seq fun _ hK_18 => Wc.region ?_
  refine Wl.y (y_fieldAddr (fa94_0RTxt _) rfl) rfl ?_
  refine Wl.l (l_load one3RTxt rfl (by exact hB_o0.at rfl)) rfl ?_
  refine Wl.nil <| Wq.next hK_18 <| Wc.block <| Wc.seq fun _ hK_21 => Wc.region <| Wl.y (y_eqli rfl rfl) rfl <| Wl.sg rfl rfl <| Wl.nil <| Wq.next hK_21 ?_
  refine Wc.cond rfl (fun c1_24 => ?_) (fun c1_24 => ?_)
  ·
   have c1_24_ := c1_24
   simp only [DZ] at c1_24
   refine Wc.seq fun _ hK_25 => Wc.region <| Wl.sg rfl rfl <| Wl.sg rfl rfl <| Wl.nil <| Wq.next hK_25 <| Wc.ret ?_
   refine Wq.block_ret (Wq.then_ret ?_)
   refine ret2 rfl rfl rfl ?_
   exact ⟨_, rfl, by unfold textV; rw [if_neg hr', if_neg (by have := c1_24; omega), if_neg (by have := c1_24; omega), if_neg (by have := c1_24; omega), if_neg (by have := c1_24; omega)]; rfl, hb⟩
  have c1_24_ := c1_24
  simp only [DZ] at c1_24
  refine Wc.seq fun _ hK_28 => Wc.region <| Wl.y (y_eqli rfl rfl) rfl <| Wl.sg rfl rfl <| Wl.nil <| Wq.next hK_28 ?_
  refine Wc.cond rfl (fun c2_31 => ?_) (fun c2_31 => ?_)
  ·
   have c2_31_ := c2_31
   simp only [DZ] at c2_31
   refine Wc.seq fun _ hK_32 => Wc.seq fun _ hK_33 => Wc.region ?_
   refine Wl.y (y_fieldAddr (fa94_1RTxt _) rfl) rfl ?_
   refine Wl.l (l_load one2RTxt rfl (by exact hB_o0.at rfl)) rfl ?_
   refine Wl.y (y_eqli rfl rfl) rfl <| Wl.nil <| Wq.next hK_33 ?_
   refine Wc.cond rfl (fun c3_37 => ?_) (fun c3_37 => ?_)
   ·
    have c3_37_ := c3_37
    simp only [DZ] at c3_37
    refine Wc.seq fun _ hK_38 => Wc.region <| Wl.sg rfl rfl <| Wl.sg rfl rfl <| Wl.nil <| Wq.next hK_38 <| Wc.ret ?_
    refine Wq.then_ret (Wq.block_ret (Wq.then_ret ?_))
    refine ret2 rfl rfl rfl ?_
    exact ⟨_, rfl, by unfold textV; rw [if_neg hr', if_pos c2_31, if_pos (by have := c3_37; simpa using this)]; rfl, hb⟩
   have c3_37_ := c3_37
   simp only [DZ] at c3_37
   refine Wc.skip <| Wq.next hK_32 <| Wc.seq fun _ hK_41 => Wc.region <| Wl.sg rfl rfl <| Wl.sg rfl rfl <| Wl.nil <| Wq.next hK_41 <| Wc.ret ?_
   refine Wq.block_ret (Wq.then_ret ?_)
   refine ret2 rfl rfl rfl ?_
   exact ⟨_, rfl, by unfold textV; rw [if_neg hr', if_pos c2_31, if_neg (by have := c3_37; simpa using this)]; rfl, hb⟩
  have c2_31_ := c2_31
  simp only [DZ] at c2_31
  refine Wc.seq fun _ hK_44 => Wc.region <| Wl.y (y_eqli rfl rfl) rfl <| Wl.sg rfl rfl <| Wl.nil <| Wq.next hK_44 ?_
  refine Wc.cond rfl (fun c4_47 => ?_) (fun c4_47 => ?_)
  ·
   have c4_47_ := c4_47
   simp only [DZ] at c4_47
   refine Wc.seq fun _ hK_48 => Wc.seq fun _ hK_49 => Wc.region ?_
   refine Wl.y (y_fieldAddr (fa94_1RTxt _) rfl) rfl ?_
   refine Wl.l (l_load one2RTxt rfl (by exact hB_o0.at rfl)) rfl ?_
   refine Wl.y (y_lssi rfl rfl) rfl <| Wl.mv rfl rfl ?_
   refine Wl.guardT rfl rfl rfl (fun g_54 => ?_) (fun g_54 => ?_)
   ·
    have g_54_ := g_54
    simp only [DZ] at g_54
    refine Wl.y (y_fieldAddr (fa94_1RTxt _) rfl) rfl ?_
    refine Wl.on' rfl rfl g_54_ ?_
    refine Wl.l (l_load one2RTxt rfl (by exact hB_o0.at rfl)) rfl ?_
    refine Wl.on' rfl rfl g_54_ <| Wl.y (y_gtri rfl rfl) rfl ?_
    refine Wl.y (y_pickT rfl g_54_ rfl) rfl ?_
    refine Wl.nil <| Wq.next hK_49 ?_
    refine Wc.cond rfl (fun c5_59 => ?_) (fun c5_59 => ?_)
    ·
     have c5_59_ := c5_59
     simp only [DZ] at c5_59
     refine Wc.seq fun _ hK_60 => Wc.region ?_
     refine Wl.y (y_fieldAddr (fa94_1RTxt _) rfl) rfl ?_
     refine Wl.l (l_load one2RTxt rfl (by exact hB_o0.at rfl)) rfl ?_
     refine Wl.call txt111RTxt rfl rfl (RInt_r _ a.n rfl hn0 hn1 _) rfl ?_
     rintro _ w_k1 ⟨rfl, hs_k1⟩
     have hz_k1 := hs_k1.size
     have hb := hb.trans (hs_k1.mono hb.size)
     refine Wl.y (y_adds rfl rfl (by simp; omega)) rfl ?_
     refine Wl.sg rfl rfl <| Wl.sg rfl rfl <| Wl.nil <| Wq.next hK_60 <| Wc.ret ?_
     refine Wq.then_ret (Wq.block_ret (Wq.then_ret ?_))
     refine ret2 rfl rfl rfl ?_
     exact ⟨_, rfl, by unfold textV; rw [if_neg hr', if_neg c2_31, if_pos c4_47, itoa_neg (by have := g_54; omega)]; rfl, hb⟩
    have c5_59_ := c5_59
    simp only [DZ] at c5_59
    refine Wc.skip <| Wq.next hK_48 <| Wc.seq fun _ hK_67 => ?_
    refine Wc.any (n := 9) (fun w' => Below w.heap.size w w' ∧ Blk w' g_o0 94 a.cells) #[false, false, false, false, false, false, false, false, false] (by kernel_rfl) rfl (by kernel_rfl) ?_
    refine Wa.drew ?_
    rintro w_g14 hs_g14
    have hz_g14 := hs_g14.size
    have hb := hb.trans (hs_g14.mono hb.size)
    have hB_o0 := Blk.below hB_o0 hs_g14
    refine Wa.take (i := 0) #[true, false, false, false, false, false, false, false, false] rfl (by kernel_rfl) (fun _ _ _ h => h) rfl (fun wq hq => Yl.ld (y_fieldAddr (fa94_1RTxt _) rfl)) ⟨hb, hB_o0⟩ ?_
    refine Wa.take (i := 1) #[true, true, false, false, false, false, false, false, false] rfl (by kernel_rfl) (fun _ _ _ h => h) rfl (fun wq hq => l_load one2RTxt rfl (by obtain ⟨hq, hB_o0⟩ := hq; first | exact hB_o0.at rfl | exact hB_o0.cell 0 | assumption)) ⟨hb, hB_o0⟩ ?_
    refine Wa.take (i := 3) #[true, true, false, true, false, false, false, false, false] rfl (by kernel_rfl) (fun _ _ _ h => h) rfl (fun wq hq => Yl.ld (y_fieldAddr (fa94_1RTxt _) rfl)) ⟨hb, hB_o0⟩ ?_
    refine Wa.take (i := 4) #[true, true, false, true, true, false, false, false, false] rfl (by kernel_rfl) (fun _ _ _ h => h) rfl (fun wq hq => l_load one2RTxt rfl (by obtain ⟨hq, hB_o0⟩ := hq; first | exact hB_o0.at rfl | exact hB_o0.cell 0 | assumption)) ⟨hb, hB_o0⟩ ?_
    refine Wa.some (rs := [2]) (by kernel_rfl) rfl ?_
    refine Ws.cons #[true, true, true, true, true, false, false, false, false] rfl rfl (fun _ hK_72 => ?_) ?_
    ·
     refine Wl.call txt112RTxt rfl rfl (rsign_r a.n _) rfl ?_
     rintro _ w_k2 ⟨rfl, hs_k2⟩
     have hz_k2 := hs_k2.size
     have hb := hb.trans (hs_k2.mono hb.size)
     have hB_o0 := Blk.below hB_o0 hs_k2
     refine Wl.nil ?_
     refine Wq.back hK_72 ⟨hb, hB_o0⟩ ?_
     refine Wa.some (rs := [5]) (by kernel_rfl) rfl ?_
     refine Ws.cons #[true, true, true, true, true, true, false, false, false] rfl rfl (fun _ hK_74 => ?_) ?_
     ·
      refine Wl.call txt111RTxt rfl rfl (RInt_r _ a.n rfl hn0 hn1 _) rfl ?_
      rintro _ w_k3 ⟨rfl, hs_k3⟩
      have hz_k3 := hs_k3.size
      have hb := hb.trans (hs_k3.mono hb.size)
      have hB_o0 := Blk.below hB_o0 hs_k3
      refine Wl.nil ?_
      refine Wq.back hK_74 ⟨hb, hB_o0⟩ ?_
      refine Wa.take (i := 6) #[true, true, true, true, true, true, true, false, false] rfl (by kernel_rfl) (fun _ _ _ h => h) rfl (fun wq hq => Yl.ld (y_adds rfl rfl (by split <;> simp <;> omega))) ⟨hb, hB_o0⟩ ?_
      refine Wa.take (i := 7) #[true, true, true, true, true, true, true, true, false] rfl (by kernel_rfl) (fun _ _ _ h => h) rfl (fun wq hq => Yl.ld (y_assign rfl)) ⟨hb, hB_o0⟩ ?_
      refine Wa.take (i := 8) #[true, true, true, true, true, true, true, true, true] rfl (by kernel_rfl) (fun _ _ _ h => h) rfl (fun wq hq => Yl.ld (y_assign rfl)) ⟨hb, hB_o0⟩ ?_
      refine Wa.done (by kernel_rfl) ?_
      refine Wq.next hK_67 <| Wc.ret ?_
      refine Wq.block_ret (Wq.then_ret ?_)
      refine ret2 rfl rfl rfl ?_
      exact ⟨_, rfl, by unfold textV; rw [if_neg hr', if_neg c2_31, if_pos c4_47, itoa_sgn], hb⟩
     exact Ws.nil
    exact Ws.nil
   have g_54_ := g_54
   simp only [DZ] at g_54
   refine Wl.off' rfl rfl g_54_ rfl rfl <| Wl.off' rfl rfl g_54_ rfl rfl ?_
   refine Wl.y (y_pickF rfl g_54_ rfl) rfl ?_
   refine Wl.nil <| Wq.next hK_49 ?_
   refine Wc.condF rfl rfl ?_
   refine Wc.skip <| Wq.next hK_48 <| Wc.seq fun _ hK_80 => ?_
   refine Wc.any (n := 9) (fun w' => Below w.heap.size w w' ∧ Blk w' g_o0 94 a.cells) #[false, false, false, false, false, false, false, false, false] (by kernel_rfl) rfl (by kernel_rfl) ?_
   refine Wa.drew ?_
   rintro w_g14 hs_g14
   have hz_g14 := hs_g14.size
   have hb := hb.trans (hs_g14.mono hb.size)
   have hB_o0 := Blk.below hB_o0 hs_g14
   refine Wa.take (i := 0) #[true, false, false, false, false, false, false, false, false] rfl (by kernel_rfl) (fun _ _ _ h => h) rfl (fun wq hq => Yl.ld (y_fieldAddr (fa94_1RTxt _) rfl)) ⟨hb, hB_o0⟩ ?_
   refine Wa.take (i := 1) #[true, true, false, false, false, false, false, false, false] rfl (by kernel_rfl) (fun _ _ _ h => h) rfl (fun wq hq => l_load one2RTxt rfl (by obtain ⟨hq, hB_o0⟩ := hq; first | exact hB_o0.at rfl | exact hB_o0.cell 0 | assumption)) ⟨hb, hB_o0⟩ ?_
   refine Wa.take (i := 3) #[true, true, false, true, false, false, false, false, false] rfl (by kernel_rfl) (fun _ _ _ h => h) rfl (fun wq hq => Yl.ld (y_fieldAddr (fa94_1RTxt _) rfl)) ⟨hb, hB_o0⟩ ?_
   refine Wa.take (i := 4) #[true, true, false, true, true, false, false, false, false] rfl (by kernel_rfl) (fun _ _ _ h => h) rfl (fun wq hq => l_load one2RTxt rfl (by obtain ⟨hq, hB_o0⟩ := hq; first | exact hB_o0.at rfl | exact hB_o0.cell 0 | assumption)) ⟨hb, hB_o0⟩ ?_
   refine Wa.some (rs := [2]) (by kernel_rfl) rfl ?_
   refine Ws.cons #[true, true, true, true, true, false, false, false, false] rfl rfl (fun _ hK_85 => ?_) ?_
   ·
    refine Wl.call txt112RTxt rfl rfl (rsign_r a.n _) rfl ?_
    rintro _ w_k2 ⟨rfl, hs_k2⟩
    have hz_k2 := hs_k2.size
    have hb := hb.trans (hs_k2.mono hb.size)
    have hB_o0 := Blk.below hB_o0 hs_k2
    refine Wl.nil ?_
    refine Wq.back hK_85 ⟨hb, hB_o0⟩ ?_
    refine Wa.some (rs := [5]) (by kernel_rfl) rfl ?_
    refine Ws.cons #[true, true, true, true, true, true, false, false, false] rfl rfl (fun _ hK_87 => ?_) ?_
    ·
     refine Wl.call txt111RTxt rfl rfl (RInt_r _ a.n rfl hn0 hn1 _) rfl ?_
     rintro _ w_k3 ⟨rfl, hs_k3⟩
     have hz_k3 := hs_k3.size
     have hb := hb.trans (hs_k3.mono hb.size)
     have hB_o0 := Blk.below hB_o0 hs_k3
     refine Wl.nil ?_
     refine Wq.back hK_87 ⟨hb, hB_o0⟩ ?_
     refine Wa.take (i := 6) #[true, true, true, true, true, true, true, false, false] rfl (by kernel_rfl) (fun _ _ _ h => h) rfl (fun wq hq => Yl.ld (y_adds rfl rfl (by split <;> simp <;> omega))) ⟨hb, hB_o0⟩ ?_
     refine Wa.take (i := 7) #[true, true, true, true, true, true, true, true, false] rfl (by kernel_rfl) (fun _ _ _ h => h) rfl (fun wq hq => Yl.ld (y_assign rfl)) ⟨hb, hB_o0⟩ ?_
     refine Wa.take (i := 8) #[true, true, true, true, true, true, true, true, true] rfl (by kernel_rfl) (fun _ _ _ h => h) rfl (fun wq hq => Yl.ld (y_assign rfl)) ⟨hb, hB_o0⟩ ?_
     refine Wa.done (by kernel_rfl) ?_
     refine Wq.next hK_80 <| Wc.ret ?_
     refine Wq.block_ret (Wq.then_ret ?_)
     refine ret2 rfl rfl rfl ?_
     exact ⟨_, rfl, by unfold textV; rw [if_neg hr', if_neg c2_31, if_pos c4_47, itoa_sgn], hb⟩
    exact Ws.nil
   exact Ws.nil
  have c4_47_ := c4_47
  simp only [DZ] at c4_47
  refine Wc.seq fun _ hK_92 => Wc.region <| Wl.y (y_eqli rfl rfl) rfl <| Wl.sg rfl rfl <| Wl.nil <| Wq.next hK_92 ?_
  refine Wc.cond rfl (fun c6_95 => ?_) (fun c6_95 => ?_)
  ·
   have c6_95_ := c6_95
   simp only [DZ] at c6_95
   refine Wc.seq fun _ hK_96 => Wc.region ?_
   refine Wl.y (y_fieldAddr (fa94_2RTxt _) rfl) rfl ?_
   refine Wl.l (l_load one92RTxt rfl (by exact hB_o0.at rfl)) rfl ?_
   refine Wl.call txt113RTxt rfl rfl (RText_r _ oa.f1 _) rfl ?_
   rintro _ w_k4 ⟨rfl, hs_k4⟩
   have hz_k4 := hs_k4.size
   have hb := hb.trans (hs_k4.mono hb.size)
   refine Wl.sg rfl rfl <| Wl.sg rfl rfl <| Wl.nil <| Wq.next hK_96 <| Wc.ret ?_
   refine Wq.block_ret (Wq.then_ret ?_)
   refine ret2 rfl rfl rfl ?_
   exact ⟨_, rfl, by unfold textV; rw [if_neg hr', if_neg c2_31, if_neg c4_47, if_pos c6_95], hb⟩
  have c6_95_ := c6_95
  simp only [DZ] at c6_95
  have hk4 : a.k = 4 := by have h1 := c1_24; have h2 := c2_31; have h3 := c4_47; have h5 := c6_95; omega
  refine Wc.skip <| Wq.block_normal <| Wq.next hK_17 <| Wc.seq fun _ hK_102 => Wc.region <| Wl.sg rfl rfl <| Wl.nil <| Wq.next hK_102 <| Wc.seq fun _ hK_104 => Wc.seq fun _ hK_105 => ?_
  refine Wc.region <| Wl.sg rfl rfl <| Wl.nil <| Wq.next hK_105 <| Wc.block ?_
  refine Wc.loop (X := Nat) (fun i => [(1, .pointer (some ⟨g_o0, 0, none⟩)), (5, str (39 :: (a.s.take i).flatMap qc)), (6, .int .i64 (i : Int))]) (fun i wr => i ≤ a.s.length ∧ Below w.heap.size w wr ∧ Blk wr g_o0 94 a.cells) (fun i => a.s.length - i) (0) ?_ ?_ ?_
  · exact by repeat first | exact Sub.nil | refine Sub.cons' rfl (by first | rfl | exact int_eq (by omega) | exact str_eq (by rw [qc_take hil, ← hc, hqc]; rfl)) ?_
  · exact ⟨by omega, hb, hB_o0⟩
  rintro i wr hI_108 _ hL_107
  replace hI_108 : i ≤ a.s.length ∧ Below w.heap.size w wr ∧ Blk wr g_o0 94 a.cells := hI_108
  obtain ⟨hi, hb, hB_o0⟩ := hI_108
  show Wc _ _ _ _ _ [(1, .pointer (some ⟨g_o0, 0, none⟩)), (5, str (39 :: (a.s.take i).flatMap qc)), (6, .int .i64 (i : Int))] _
  have hzhb_L0 := hb.size
  have hlhB_o0_L0 := hB_o0.lt
  refine Wc.seq fun _ hK_109 => Wc.seq fun _ hK_110 => Wc.region <| Wl.mv rfl rfl ?_
  refine Wl.y (y_fieldAddr (fa94_3RTxt _) rfl) rfl ?_
  refine Wl.l (l_load one9RTxt rfl (by exact hB_o0.at (j := 3) rfl)) rfl ?_
  refine Wl.y (y_lens Tryz.underlying9 (by omega) rfl) rfl ?_
  refine Wl.y (y_lssi rfl rfl) rfl <| Wl.nil <| Wq.next hK_110 ?_
  refine Wc.cond rfl (fun c7_116 => ?_) (fun c7_116 => ?_)
  ·
   have c7_116_ := c7_116
   simp only [DZ] at c7_116
   have hil : i < a.s.length := by have := c7_116; omega
   obtain ⟨c, hc⟩ : ∃ c, c = a.s.getD i 0 := ⟨_, rfl⟩
   have hql := qc_len (a.s.take i)
   have hqt : (a.s.take i).length ≤ 70368744177664 := Nat.le_trans (List.length_take_le' _ _) hl
   refine Wc.skip <| Wq.next hK_109 <| Wc.seq fun _ hK_117 => Wc.block <| Wc.seq fun _ hK_118 => Wc.region ?_
   refine Wl.y (y_fieldAddr (fa94_3RTxt _) rfl) rfl ?_
   refine Wl.l (l_load one9RTxt rfl (by exact hB_o0.at (j := 3) rfl)) rfl ?_
   refine Wl.mv rfl rfl ?_
   refine Wl.y (y_eq (y_indexs Tryz.underlying9 rfl rfl (by omega) (by omega)) (int_eq (show _ = (c.toNat : Int) by rw [hc, Int.toNat_natCast]))) rfl ?_
   refine Wl.nil <| Wq.next hK_118 <| Wc.block <| Wc.seq fun _ hK_123 => Wc.region <| Wl.y (y_eqli rfl rfl) rfl <| Wl.sg rfl rfl <| Wl.nil <| Wq.next hK_123 ?_
   refine Wc.cond rfl (fun c8_126 => ?_) (fun c8_126 => ?_)
   ·
    have c8_126_ := c8_126
    simp only [DZ] at c8_126
    have hq1 : c = 92 := u8_of (n := 92) c8_126 (by decide)
    have hqc : qc c = [92, 92] := by unfold qc; rw [if_pos hq1]
    refine Wc.region <| Wl.mv rfl rfl ?_
    refine Wl.y (y_adds rfl rfl (by simp only [List.length_cons, List.length_append, List.length_nil]; omega)) rfl ?_
    refine Wl.sg rfl rfl <| Wl.nil <| Wq.block_normal <| Wq.block_normal <| Wq.next hK_117 <| Wc.region <| Wl.mv rfl rfl ?_
    refine Wl.y (y_addI rfl rfl (by omega) (by omega)) rfl ?_
    refine Wl.sg rfl rfl <| Wl.nil ?_
    refine fun a_ ha_ => hL_107 _ _ (i + 1) (by omega) (by repeat first | exact Sub.nil | refine Sub.cons' rfl (by first | rfl | exact int_eq (by omega) | exact str_eq (by rw [qc_take hil, ← hc, hqc]; rfl)) ?_) ?_ a_ ha_
    exact ⟨by omega, hb, hB_o0⟩
   have c8_126_ := c8_126
   simp only [DZ] at c8_126
   have hq1 : ¬ c = 92 := u8_not (n := 92) c8_126 (by decide)
   refine Wc.seq fun _ hK_133 => Wc.region <| Wl.y (y_eqli rfl rfl) rfl <| Wl.sg rfl rfl <| Wl.nil <| Wq.next hK_133 ?_
   refine Wc.cond rfl (fun c9_136 => ?_) (fun c9_136 => ?_)
   ·
    have c9_136_ := c9_136
    simp only [DZ] at c9_136
    have hq2 : c = 39 := u8_of (n := 39) c9_136 (by decide)
    have hqc : qc c = [92, 39] := by unfold qc; rw [if_neg hq1, if_pos hq2]
    refine Wc.region <| Wl.mv rfl rfl ?_
    refine Wl.y (y_adds rfl rfl (by simp only [List.length_cons, List.length_append, List.length_nil]; omega)) rfl ?_
    refine Wl.sg rfl rfl <| Wl.nil <| Wq.block_normal <| Wq.block_normal <| Wq.next hK_117 <| Wc.region <| Wl.mv rfl rfl ?_
    refine Wl.y (y_addI rfl rfl (by omega) (by omega)) rfl ?_
    refine Wl.sg rfl rfl <| Wl.nil ?_
    refine fun a_ ha_ => hL_107 _ _ (i + 1) (by omega) (by repeat first | exact Sub.nil | refine Sub.cons' rfl (by first | rfl | exact int_eq (by omega) | exact str_eq (by rw [qc_take hil, ← hc, hqc]; rfl)) ?_) ?_ a_ ha_
    exact ⟨by omega, hb, hB_o0⟩
   have c9_136_ := c9_136
   simp only [DZ] at c9_136
   have hq2 : ¬ c = 39 := u8_not (n := 39) c9_136 (by decide)
   refine Wc.seq fun _ hK_143 => Wc.region <| Wl.y (y_eqli rfl rfl) rfl <| Wl.sg rfl rfl <| Wl.nil <| Wq.next hK_143 ?_
   refine Wc.cond rfl (fun c10_146 => ?_) (fun c10_146 => ?_)
   ·
    have c10_146_ := c10_146
    simp only [DZ] at c10_146
    have hq3 : c = 10 := u8_of (n := 10) c10_146 (by decide)
    have hqc : qc c = [92, 110] := by unfold qc; rw [if_neg hq1, if_neg hq2, if_pos hq3]
    refine Wc.region <| Wl.mv rfl rfl ?_
    refine Wl.y (y_adds rfl rfl (by simp only [List.length_cons, List.length_append, List.length_nil]; omega)) rfl ?_
    refine Wl.sg rfl rfl <| Wl.nil <| Wq.block_normal <| Wq.block_normal <| Wq.next hK_117 <| Wc.region <| Wl.mv rfl rfl ?_
    refine Wl.y (y_addI rfl rfl (by omega) (by omega)) rfl ?_
    refine Wl.sg rfl rfl <| Wl.nil ?_
    refine fun a_ ha_ => hL_107 _ _ (i + 1) (by omega) (by repeat first | exact Sub.nil | refine Sub.cons' rfl (by first | rfl | exact int_eq (by omega) | exact str_eq (by rw [qc_take hil, ← hc, hqc]; rfl)) ?_) ?_ a_ ha_
    exact ⟨by omega, hb, hB_o0⟩
   have c10_146_ := c10_146
   simp only [DZ] at c10_146
   have hq3 : ¬ c = 10 := u8_not (n := 10) c10_146 (by decide)
   have hqc : qc c = [c] := by unfold qc; rw [if_neg hq1, if_neg hq2, if_neg hq3]
   refine Wc.region <| Wl.mv rfl rfl ?_
   refine Wl.y (y_fieldAddr (fa94_3RTxt _) rfl) rfl ?_
   refine Wl.l (l_load one9RTxt rfl (by exact hB_o0.at (j := 3) rfl)) rfl ?_
   refine Wl.mv rfl rfl <| Wl.mv rfl rfl ?_
   refine Wl.y (y_addI rfl rfl (by omega) (by omega)) rfl ?_
   refine Wl.y (y_eq (y_slices Tryz.underlying9 rfl rfl rfl (by omega) (by omega) (by omega)) (str_eq (show (a.s.take ((i : Int) + 1).toNat).drop (i : Int).toNat = [c] by rw [show ((i : Int) + 1).toNat = i + 1 by omega, Int.toNat_natCast, one_at hil, hc]))) rfl ?_
   refine Wl.y (y_adds rfl rfl (by simp only [List.length_cons, List.length_append, List.length_nil]; omega)) rfl ?_
   refine Wl.sg rfl rfl <| Wl.nil <| Wq.block_normal <| Wq.block_normal <| Wq.next hK_117 <| Wc.region <| Wl.mv rfl rfl ?_
   refine Wl.y (y_addI rfl rfl (by omega) (by omega)) rfl ?_
   refine Wl.sg rfl rfl <| Wl.nil ?_
   refine fun a_ ha_ => hL_107 _ _ (i + 1) (by omega) (by repeat first | exact Sub.nil | refine Sub.cons' rfl (by first | rfl | exact int_eq (by omega) | exact str_eq (by rw [qc_take hil, ← hc, hqc]; rfl)) ?_) ?_ a_ ha_
   exact ⟨by omega, hb, hB_o0⟩
  have c7_116_ := c7_116
  simp only [DZ] at c7_116
  refine Wc.exit ?_
  refine Wq.then_exit <| Wq.then_exit <| Wq.block_exit <| Wq.next hK_104 <| Wc.seq fun _ hK_165 => Wc.region ?_
  have hql := qc_len (a.s.take i)
  have hqt : (a.s.take i).length ≤ 70368744177664 := Nat.le_trans (List.length_take_le' _ _) hl
  refine Wl.mv rfl rfl ?_
  refine Wl.y (y_adds rfl rfl (by simp only [List.length_cons, List.length_append, List.length_nil]; omega)) rfl ?_
  refine Wl.sg rfl rfl <| Wl.sg rfl rfl <| Wl.nil <| Wq.next hK_165 <| Wc.ret ?_
  refine ret2 rfl rfl rfl ?_
  exact ⟨_, rfl, by unfold textV quoteV; rw [if_neg hr', if_neg c2_31, if_neg c4_47, if_neg c6_95, if_pos hk4, List.take_of_length_le (by have := c7_116; omega)]; rfl, hb⟩
end Go.Proofs.YtobhpejaoakpmaaGreatDoor
