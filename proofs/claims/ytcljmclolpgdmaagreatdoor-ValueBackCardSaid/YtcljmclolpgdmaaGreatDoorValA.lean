/- Package value: Same, Less, Right, against, Test, by the calculus. -/
import Derived.Test.YtcljmclolpgdmaaGreatDoorOrdB
namespace Go.Proofs.YtcljmclolpgdmaaGreatDoor
open Go.RowKit Go.Bw Go.Bw.Fl
set_option linter.unusedVariables false
set_option linter.unusedSimpArgs false
theorem fa28_0ValA (p : Addr) (w : World) : (Instr.fieldAt 28 (.pointer (some p)) 0).run Tryz.prog w = .ok (.pointer (some (p.add 0))) w := run_fieldAt (i := 0) (sz := 0) Tryz.underlying28 rfl (by kernel_rfl) p w
theorem fa28_1ValA (p : Addr) (w : World) : (Instr.fieldAt 28 (.pointer (some p)) 1).run Tryz.prog w = .ok (.pointer (some (p.add 1))) w := run_fieldAt (i := 1) (sz := 0) Tryz.underlying28 rfl (by kernel_rfl) p w
theorem fa28_2ValA (p : Addr) (w : World) : (Instr.fieldAt 28 (.pointer (some p)) 2).run Tryz.prog w = .ok (.pointer (some (p.add 2))) w := run_fieldAt (i := 2) (sz := 0) Tryz.underlying28 rfl (by kernel_rfl) p w
theorem fa28_3ValA (p : Addr) (w : World) : (Instr.fieldAt 28 (.pointer (some p)) 3).run Tryz.prog w = .ok (.pointer (some (p.add 3))) w := run_fieldAt (i := 3) (sz := 0) Tryz.underlying28 rfl (by kernel_rfl) p w
theorem one2ValA : One Tryz.prog 2 := ⟨_, Tryz.underlying2, rfl, by kernel_rfl⟩
theorem one26ValA : One Tryz.prog 26 := ⟨_, Tryz.underlying26, rfl, by kernel_rfl⟩
theorem one3ValA : One Tryz.prog 3 := ⟨_, Tryz.underlying3, rfl, by kernel_rfl⟩
theorem one9ValA : One Tryz.prog 9 := ⟨_, Tryz.underlying9, rfl, by kernel_rfl⟩
theorem txt115ValA : Txt Tryz.prog 115 := ⟨_, Tryz.func115, by kernel_rfl, rfl⟩   -- bridleway/num.Against
theorem txt116ValA : Txt Tryz.prog 116 := ⟨_, Tryz.func116, by kernel_rfl, rfl⟩   -- cmp.Compare[float64]
theorem txt117ValA : Txt Tryz.prog 117 := ⟨_, Tryz.func117, by kernel_rfl, rfl⟩   -- cmp.Compare[string]
theorem txt118ValA : Txt Tryz.prog 118 := ⟨_, Tryz.func118, by kernel_rfl, rfl⟩   -- cmp.Compare[int64]
theorem txt54ValA : Txt Tryz.prog 54 := ⟨_, Tryz.func54, by kernel_rfl, rfl⟩   -- bridleway/num.Order
theorem cmpI_zero {x y : Int} : cmpI x y = 0 ↔ x = y := by unfold cmpI; split <;> (try split) <;> omega
theorem cmpK_zero {x y : Nat} : cmpI x y = 0 ↔ x = y := by rw [cmpI_zero]; omega
theorem Same_r (a b : Val) (oa : a.Ok) (ob : b.Ok) (w : World) : Ret Tryz.prog 20 [a.enc, b.enc] w fun v w' => v = .bool (sameV a b) ∧ Below w.heap.size w w' := by
  have hb := Below.refl w.heap.size w
  refine enter Tryz.func20 rfl rfl rfl ?_
  refine Wc.seq fun _ hK_1 => ?_
  refine Wc.region ?_
  refine Wl.boxN rfl rfl ?_
  rintro g_o0 w_o0 hg_o0 hn_o0 hs_o0
  have hz_o0 := hs_o0.size
  have hb := hb.trans (hs_o0.mono hb.size)
  have hB_o0 := hn_o0
  have hl_o0 := hB_o0.lt
  refine Wl.boxN rfl rfl ?_
  rintro g_o1 w_o1 hg_o1 hn_o1 hs_o1
  have hz_o1 := hs_o1.size
  have hb := hb.trans (hs_o1.mono hb.size)
  try have hB_o0 := Blk.below hB_o0 hs_o1
  have hB_o1 := hn_o1
  have hl_o1 := hB_o1.lt
  refine Wl.y (y_assign rfl) rfl ?_
  refine Wl.nil ?_
  refine Wq.next hK_1 ?_
  refine Wc.seq fun _ hK_5 => ?_
  refine Wc.region ?_
  refine Wl.y (y_fieldAddr (fa28_0ValA _) rfl) rfl ?_
  refine Wl.l (l_load one3ValA rfl (by first | exact hB_o0.at rfl | exact hB_o1.at rfl | exact hB_o0.cell 0 | exact hB_o1.cell 0 | assumption)) rfl ?_
  refine Wl.y (y_fieldAddr (fa28_0ValA _) rfl) rfl ?_
  refine Wl.l (l_load one3ValA rfl (by first | exact hB_o0.at rfl | exact hB_o1.at rfl | exact hB_o0.cell 0 | exact hB_o1.cell 0 | assumption)) rfl ?_
  refine Wl.y (y_eqli rfl rfl) rfl ?_
  refine Wl.y (y_move rfl) rfl ?_
  refine Wl.guardT rfl rfl rfl (fun g_12 => ?_) (fun g_12 => ?_)
  ·
   have g_12_ := g_12
   refine Wl.y (y_fieldAddr (fa28_1ValA _) rfl) rfl ?_
   refine Wl.on' rfl rfl g_12_ ?_
   refine Wl.l (l_load one2ValA rfl (by first | exact hB_o0.at rfl | exact hB_o1.at rfl | exact hB_o0.cell 0 | exact hB_o1.cell 0 | assumption)) rfl ?_
   refine Wl.on' rfl rfl g_12_ ?_
   refine Wl.y (y_fieldAddr (fa28_1ValA _) rfl) rfl ?_
   refine Wl.on' rfl rfl g_12_ ?_
   refine Wl.l (l_load one2ValA rfl (by first | exact hB_o0.at rfl | exact hB_o1.at rfl | exact hB_o0.cell 0 | exact hB_o1.cell 0 | assumption)) rfl ?_
   refine Wl.on' rfl rfl g_12_ ?_
   refine Wl.y (y_eqli rfl rfl) rfl ?_
   refine Wl.y (y_pickT rfl g_12_ rfl) rfl ?_
   refine Wl.y (y_move rfl) rfl ?_
   refine Wl.guardT rfl rfl rfl (fun g_20 => ?_) (fun g_20 => ?_)
   ·
    have g_20_ := g_20
    refine Wl.y (y_fieldAddr (fa28_2ValA _) rfl) rfl ?_
    refine Wl.on' rfl rfl g_20_ ?_
    refine Wl.l (l_load one26ValA rfl (by first | exact hB_o0.at rfl | exact hB_o1.at rfl | exact hB_o0.cell 0 | exact hB_o1.cell 0 | assumption)) rfl ?_
    refine Wl.on' rfl rfl g_20_ ?_
    refine Wl.y (y_fieldAddr (fa28_2ValA _) rfl) rfl ?_
    refine Wl.on' rfl rfl g_20_ ?_
    refine Wl.l (l_load one26ValA rfl (by first | exact hB_o0.at rfl | exact hB_o1.at rfl | exact hB_o0.cell 0 | exact hB_o1.cell 0 | assumption)) rfl ?_
    refine Wl.on' rfl rfl g_20_ ?_
    refine Wl.call txt54ValA rfl rfl (Order_r _ _ oa.f1 ob.f1 _) rfl ?_
    rintro _ w_ ⟨rfl, hw_⟩
    have hw_ := hw_.symm; subst hw_
    refine Wl.on' rfl rfl g_20_ ?_
    refine Wl.y (y_eqli rfl rfl) rfl ?_
    refine Wl.y (y_pickT rfl g_20_ rfl) rfl ?_
    refine Wl.y (y_move rfl) rfl ?_
    refine Wl.guardT rfl rfl rfl (fun g_29 => ?_) (fun g_29 => ?_)
    ·
     have g_29_ := g_29
     refine Wl.y (y_fieldAddr (fa28_3ValA _) rfl) rfl ?_
     refine Wl.on' rfl rfl g_29_ ?_
     refine Wl.l (l_load one9ValA rfl (by first | exact hB_o0.at rfl | exact hB_o1.at rfl | exact hB_o0.cell 0 | exact hB_o1.cell 0 | assumption)) rfl ?_
     refine Wl.on' rfl rfl g_29_ ?_
     refine Wl.y (y_fieldAddr (fa28_3ValA _) rfl) rfl ?_
     refine Wl.on' rfl rfl g_29_ ?_
     refine Wl.l (l_load one9ValA rfl (by first | exact hB_o0.at rfl | exact hB_o1.at rfl | exact hB_o0.cell 0 | exact hB_o1.cell 0 | assumption)) rfl ?_
     refine Wl.on' rfl rfl g_29_ ?_
     refine Wl.y (y_eqls rfl rfl) rfl ?_
     refine Wl.y (y_pickT rfl g_29_ rfl) rfl ?_
     refine Wl.y (y_assign rfl) rfl ?_
     refine Wl.nil ?_
     refine Wq.next hK_5 ?_
     refine Wc.ret ?_
     refine ret1 rfl rfl ?_
     exact ⟨_, rfl, bool_eq (by unfold sameV; rw [Bool.eq_iff_iff]; simp only [decide_eq_true_eq, beq_iff_eq, cmpK_zero]; simp_all [cmpK_zero]), hb⟩
    ·
     have g_29_ := g_29
     refine Wl.off' rfl rfl g_29_ rfl rfl ?_
     refine Wl.off' rfl rfl g_29_ rfl rfl ?_
     refine Wl.off' rfl rfl g_29_ rfl rfl ?_
     refine Wl.off' rfl rfl g_29_ rfl rfl ?_
     refine Wl.y (y_pickF rfl g_29_ rfl) rfl ?_
     refine Wl.y (y_assign rfl) rfl ?_
     refine Wl.nil ?_
     refine Wq.next hK_5 ?_
     refine Wc.ret ?_
     refine ret1 rfl rfl ?_
     exact ⟨_, rfl, bool_eq (by unfold sameV; rw [Bool.eq_iff_iff]; simp only [decide_eq_true_eq, beq_iff_eq, cmpK_zero]; simp_all [cmpK_zero]), hb⟩
   ·
    have g_20_ := g_20
    refine Wl.off' rfl rfl g_20_ rfl rfl ?_
    refine Wl.off' rfl rfl g_20_ rfl rfl ?_
    refine Wl.off' rfl rfl g_20_ rfl rfl ?_
    refine Wl.off' rfl rfl g_20_ rfl rfl ?_
    refine Wl.off' rfl rfl g_20_ rfl rfl ?_
    refine Wl.y (y_pickF rfl g_20_ rfl) rfl ?_
    refine Wl.y (y_move rfl) rfl ?_
    refine Wl.off' rfl rfl rfl rfl rfl ?_
    refine Wl.off' rfl rfl rfl rfl rfl ?_
    refine Wl.off' rfl rfl rfl rfl rfl ?_
    refine Wl.off' rfl rfl rfl rfl rfl ?_
    refine Wl.off' rfl rfl rfl rfl rfl ?_
    refine Wl.y (y_pickF rfl rfl rfl) rfl ?_
    refine Wl.y (y_assign rfl) rfl ?_
    refine Wl.nil ?_
    refine Wq.next hK_5 ?_
    refine Wc.ret ?_
    refine ret1 rfl rfl ?_
    exact ⟨_, rfl, bool_eq (by unfold sameV; rw [Bool.eq_iff_iff]; simp only [decide_eq_true_eq, beq_iff_eq, cmpK_zero]; simp_all [cmpK_zero]), hb⟩
  ·
   have g_12_ := g_12
   refine Wl.off' rfl rfl g_12_ rfl rfl ?_
   refine Wl.off' rfl rfl g_12_ rfl rfl ?_
   refine Wl.off' rfl rfl g_12_ rfl rfl ?_
   refine Wl.off' rfl rfl g_12_ rfl rfl ?_
   refine Wl.y (y_pickF rfl g_12_ rfl) rfl ?_
   refine Wl.y (y_move rfl) rfl ?_
   refine Wl.off' rfl rfl rfl rfl rfl ?_
   refine Wl.off' rfl rfl rfl rfl rfl ?_
   refine Wl.off' rfl rfl rfl rfl rfl ?_
   refine Wl.off' rfl rfl rfl rfl rfl ?_
   refine Wl.off' rfl rfl rfl rfl rfl ?_
   refine Wl.off' rfl rfl rfl rfl rfl ?_
   refine Wl.y (y_pickF rfl rfl rfl) rfl ?_
   refine Wl.y (y_move rfl) rfl ?_
   refine Wl.off' rfl rfl rfl rfl rfl ?_
   refine Wl.off' rfl rfl rfl rfl rfl ?_
   refine Wl.off' rfl rfl rfl rfl rfl ?_
   refine Wl.off' rfl rfl rfl rfl rfl ?_
   refine Wl.off' rfl rfl rfl rfl rfl ?_
   refine Wl.y (y_pickF rfl rfl rfl) rfl ?_
   refine Wl.y (y_assign rfl) rfl ?_
   refine Wl.nil ?_
   refine Wq.next hK_5 ?_
   refine Wc.ret ?_
   refine ret1 rfl rfl ?_
   exact ⟨_, rfl, bool_eq (by unfold sameV; rw [Bool.eq_iff_iff]; simp only [decide_eq_true_eq, beq_iff_eq, cmpK_zero]; simp_all [cmpK_zero]), hb⟩

theorem truth_r (t : Bool) (w : World) : Ret Tryz.prog 43 [.bool t] w fun v w' => v = (truthV t).enc ∧ Below w.heap.size w w' := by
  have hb := Below.refl w.heap.size w
  refine enter Tryz.func43 rfl rfl rfl ?_
  refine Wc.seq fun _ hK_1 => ?_
  refine Wc.region ?_
  refine Wl.allocN (z := (.agg #[(.int .i64 0), (.int .i64 0), (.float .f64 0), (str [])])) (by kernel_rfl) rfl ?_
  rintro g_o0 w_o0 hg_o0 hn_o0 hs_o0
  have hz_o0 := hs_o0.size
  have hb := hb.trans (hs_o0.mono hb.size)
  have hB_o0 := hn_o0
  have hl_o0 := hB_o0.lt
  refine Wl.nil ?_
  refine Wq.next hK_1 ?_
  refine Wc.seq fun _ hK_3 => ?_
  refine Wc.seq fun _ hK_4 => ?_
  refine Wc.region ?_
  refine Wl.y (y_move rfl) rfl ?_
  refine Wl.nil ?_
  refine Wq.next hK_4 ?_
  refine Wc.cond rfl (fun c0_6 => ?_) (fun c0_6 => ?_)
  ·
   have c0_6_ := c0_6
   try simp only [decide_eq_true_eq, decide_eq_false_iff_not, beq_iff_eq, beq_eq_false_iff_ne, bne_iff_ne, bne_eq_false_iff_eq, Bool.not_eq_true', Bool.not_eq_false', Bool.not_eq_eq_eq_not, Bool.not_true, Bool.not_false, ne_eq, Int.not_lt, Int.not_le] at c0_6
   refine Wc.seq fun _ hK_7 => ?_
   refine Wc.region ?_
   refine Wl.y (y_buildS (z := [(.int .i64 0), (.int .i64 0), (.float .f64 0), (str [])]) (pl := [(0, 1), (1, 1), (2, 1), (3, 1)]) (cs := [_, _, _, _]) Tryz.underlying28 (by kernel_rfl) (by kernel_rfl) rfl rfl rfl) rfl ?_
   refine Wl.storeS (by kernel_rfl) rfl rfl hB_o0 rfl rfl ?_
   rintro w_s0 hn_s0 hg_s0
   have hz_s0 := hg_s0.size
   have hb := below_blk hb hg_s0 hb.size (by omega)
   have hB_o0 := hn_s0
   refine Wl.nil ?_
   refine Wq.next hK_7 ?_
   refine Wc.ret ?_
   refine Wq.then_ret ?_
   refine retN (rs := [.cell 2 28]) (vs := [_]) rfl (.cell rfl (loadS Tryz.underlying28 (by kernel_rfl) (fun j u hu => hB_o0.at hu)) .nil) ?_
   exact ⟨_, rfl, by rw [c0_6_]; rfl, hb⟩
  ·
   have c0_6_ := c0_6
   try simp only [decide_eq_true_eq, decide_eq_false_iff_not, beq_iff_eq, beq_eq_false_iff_ne, bne_iff_ne, bne_eq_false_iff_eq, Bool.not_eq_true', Bool.not_eq_false', Bool.not_eq_eq_eq_not, Bool.not_true, Bool.not_false, ne_eq, Int.not_lt, Int.not_le] at c0_6
   refine Wc.skip ?_
   refine Wq.next hK_3 ?_
   refine Wc.seq fun _ hK_9 => ?_
   refine Wc.region ?_
   refine Wl.y (y_buildS (z := [(.int .i64 0), (.int .i64 0), (.float .f64 0), (str [])]) (pl := [(0, 1), (1, 1), (2, 1), (3, 1)]) (cs := [_, _, _, _]) Tryz.underlying28 (by kernel_rfl) (by kernel_rfl) rfl rfl rfl) rfl ?_
   refine Wl.storeS (by kernel_rfl) rfl rfl hB_o0 rfl rfl ?_
   rintro w_s1 hn_s1 hg_s1
   have hz_s1 := hg_s1.size
   have hb := below_blk hb hg_s1 hb.size (by omega)
   have hB_o0 := hn_s1
   refine Wl.nil ?_
   refine Wq.next hK_9 ?_
   refine Wc.ret ?_
   refine retN (rs := [.cell 2 28]) (vs := [_]) rfl (.cell rfl (loadS Tryz.underlying28 (by kernel_rfl) (fun j u hu => hB_o0.at hu)) .nil) ?_
   exact ⟨_, rfl, by rw [c0_6_]; rfl, hb⟩
theorem number_r (a : Val) (w : World) : Ret Tryz.prog 60 [a.enc] w fun v w' => v = .bool (numV a) ∧ Below w.heap.size w w' := by
  have hb := Below.refl w.heap.size w
  refine enter Tryz.func60 rfl rfl rfl ?_
  refine Wc.seq fun _ hK_1 => ?_
  refine Wc.region ?_
  refine Wl.boxN rfl rfl ?_
  rintro g_o0 w_o0 hg_o0 hn_o0 hs_o0
  have hz_o0 := hs_o0.size
  have hb := hb.trans (hs_o0.mono hb.size)
  have hB_o0 := hn_o0
  have hl_o0 := hB_o0.lt
  refine Wl.y (y_assign rfl) rfl ?_
  refine Wl.nil ?_
  refine Wq.next hK_1 ?_
  refine Wc.seq fun _ hK_4 => ?_
  refine Wc.region ?_
  refine Wl.y (y_fieldAddr (fa28_0ValA _) rfl) rfl ?_
  refine Wl.l (l_load one3ValA rfl (by first | exact hB_o0.at rfl | exact hB_o0.cell 0 | assumption)) rfl ?_
  refine Wl.y (y_eqli rfl rfl) rfl ?_
  refine Wl.y (y_move rfl) rfl ?_
  refine Wl.guardF rfl rfl rfl (fun g_9 => ?_) (fun g_9 => ?_)
  ·
   have g_9_ := g_9
   try simp only [decide_eq_true_eq, decide_eq_false_iff_not, beq_iff_eq, beq_eq_false_iff_ne, bne_iff_ne, bne_eq_false_iff_eq, Bool.not_eq_true', Bool.not_eq_false', Bool.not_eq_eq_eq_not, Bool.not_true, Bool.not_false, ne_eq, Int.not_lt, Int.not_le] at g_9
   refine Wl.off' rfl rfl g_9_ rfl rfl ?_
   refine Wl.off' rfl rfl g_9_ rfl rfl ?_
   refine Wl.y (y_pickT rfl g_9_ rfl) rfl ?_
   refine Wl.y (y_assign rfl) rfl ?_
   refine Wl.nil ?_
   refine Wq.next hK_4 ?_
   refine Wc.ret ?_
   refine ret1 rfl rfl ?_
   exact ⟨_, rfl, bool_eq (by unfold numV; rw [Bool.eq_iff_iff]; simp_all), hb⟩
  ·
   have g_9_ := g_9
   try simp only [decide_eq_true_eq, decide_eq_false_iff_not, beq_iff_eq, beq_eq_false_iff_ne, bne_iff_ne, bne_eq_false_iff_eq, Bool.not_eq_true', Bool.not_eq_false', Bool.not_eq_eq_eq_not, Bool.not_true, Bool.not_false, ne_eq, Int.not_lt, Int.not_le] at g_9
   refine Wl.y (y_fieldAddr (fa28_0ValA _) rfl) rfl ?_
   refine Wl.on' rfl rfl g_9_ ?_
   refine Wl.l (l_load one3ValA rfl (by first | exact hB_o0.at rfl | exact hB_o0.cell 0 | assumption)) rfl ?_
   refine Wl.on' rfl rfl g_9_ ?_
   refine Wl.y (y_eqli rfl rfl) rfl ?_
   refine Wl.y (y_pickF rfl g_9_ rfl) rfl ?_
   refine Wl.y (y_assign rfl) rfl ?_
   refine Wl.nil ?_
   refine Wq.next hK_4 ?_
   refine Wc.ret ?_
   refine ret1 rfl rfl ?_
   exact ⟨_, rfl, bool_eq (by unfold numV; rw [Bool.eq_iff_iff]; simp_all), hb⟩

theorem eq_self_f (b : Nat) : (FloatKind.f64.format.order b b == some .eq) = !isNan b := by
  show (Ieee.double.order b b == some .eq) = _
  rw [eq_val]; simp
theorem cmpI_bd (x y : Int) : -1 ≤ cmpI x y ∧ cmpI x y ≤ 1 := by unfold cmpI; split <;> (try split) <;> omega
theorem agV_bd (n : Int) (b : Nat) : -1 ≤ agV n b ∧ agV n b ≤ 1 := by unfold agV; split; omega; exact cmpI_bd _ _
theorem neg_ag (n : Int) (b : Nat) : IntKind.i64.wrap (0 - agV n b) = -agV n b := by have := agV_bd n b; rw [wrap_i64 _ (by omega) (by omega)]; omega
theorem against_r (a b : Val) (oa : a.Ok) (ob : b.Ok) (w : World) : Ret Tryz.prog 61 [a.enc, b.enc] w fun v w' => v = .tuple #[.int .i64 (againstV a b), .bool (knownV a b)] ∧ Below w.heap.size w w' := by
  have hb := Below.refl w.heap.size w
  refine enter Tryz.func61 rfl rfl rfl ?_
  refine Wc.seq fun _ hK_1 => ?_
  refine Wc.region ?_
  refine Wl.boxN rfl rfl ?_
  rintro g_o0 w_o0 hg_o0 hn_o0 hs_o0
  have hz_o0 := hs_o0.size
  have hb := hb.trans (hs_o0.mono hb.size)
  have hB_o0 := hn_o0
  have hl_o0 := hB_o0.lt
  refine Wl.boxN rfl rfl ?_
  rintro g_o1 w_o1 hg_o1 hn_o1 hs_o1
  have hz_o1 := hs_o1.size
  have hb := hb.trans (hs_o1.mono hb.size)
  try have hB_o0 := Blk.below hB_o0 hs_o1
  have hB_o1 := hn_o1
  have hl_o1 := hB_o1.lt
  refine Wl.y (y_assign rfl) rfl ?_
  refine Wl.y (y_assign rfl) rfl ?_
  refine Wl.nil ?_
  refine Wq.next hK_1 ?_
  refine Wc.seq fun _ hK_6 => ?_
  refine Wc.block ?_
  refine Wc.seq fun _ hK_7 => ?_
  refine Wc.region ?_
  refine Wl.y (y_fieldAddr (fa28_0ValA _) rfl) rfl ?_
  refine Wl.l (l_load one3ValA rfl (by first | exact hB_o0.at rfl | exact hB_o1.at rfl | exact hB_o0.cell 0 | exact hB_o1.cell 0 | assumption)) rfl ?_
  refine Wl.y (y_eqli rfl rfl) rfl ?_
  refine Wl.y (y_move rfl) rfl ?_
  refine Wl.guardT rfl rfl rfl (fun g_12 => ?_) (fun g_12 => ?_)
  ·
   have g_12_ := g_12
   refine Wl.y (y_fieldAddr (fa28_0ValA _) rfl) rfl ?_
   refine Wl.on' rfl rfl g_12_ ?_
   refine Wl.l (l_load one3ValA rfl (by first | exact hB_o0.at rfl | exact hB_o1.at rfl | exact hB_o0.cell 0 | exact hB_o1.cell 0 | assumption)) rfl ?_
   refine Wl.on' rfl rfl g_12_ ?_
   refine Wl.y (y_eqli rfl rfl) rfl ?_
   refine Wl.y (y_pickT rfl g_12_ rfl) rfl ?_
   refine Wl.y (y_assign rfl) rfl ?_
   refine Wl.nil ?_
   refine Wq.next hK_7 ?_
   refine Wc.cond rfl (fun c0_18 => ?_) (fun c0_18 => ?_)
   ·
    refine Wc.seq fun _ hK_19 => ?_
    refine Wc.region ?_
    refine Wl.y (y_fieldAddr (fa28_1ValA _) rfl) rfl ?_
    refine Wl.l (l_load one2ValA rfl (by first | exact hB_o0.at rfl | exact hB_o1.at rfl | exact hB_o0.cell 0 | exact hB_o1.cell 0 | assumption)) rfl ?_
    refine Wl.y (y_fieldAddr (fa28_2ValA _) rfl) rfl ?_
    refine Wl.l (l_load one26ValA rfl (by first | exact hB_o0.at rfl | exact hB_o1.at rfl | exact hB_o0.cell 0 | exact hB_o1.cell 0 | assumption)) rfl ?_
    refine Wl.call txt115ValA rfl rfl (Against_r _ _ oa.n0 oa.n1 _) rfl ?_
    rintro _ w_ ⟨rfl, hw_⟩
    have hw_ := hw_.symm; subst hw_
    refine Wl.y (y_extract rfl rfl) rfl ?_
    refine Wl.y (y_extract rfl rfl) rfl ?_
    refine Wl.y (y_assign rfl) rfl ?_
    refine Wl.y (y_assign rfl) rfl ?_
    refine Wl.nil ?_
    refine Wq.next hK_19 ?_
    refine Wc.ret ?_
    refine Wq.block_ret (Wq.then_ret ?_)
    refine ret2 rfl rfl rfl ?_
    first | exact ⟨_, rfl, by unfold againstV knownV; simp_all, hb⟩
   ·
    refine Wc.seq fun _ hK_29 => ?_
    refine Wc.region ?_
    refine Wl.y (y_fieldAddr (fa28_0ValA _) rfl) rfl ?_
    refine Wl.l (l_load one3ValA rfl (by first | exact hB_o0.at rfl | exact hB_o1.at rfl | exact hB_o0.cell 0 | exact hB_o1.cell 0 | assumption)) rfl ?_
    refine Wl.y (y_eqli rfl rfl) rfl ?_
    refine Wl.y (y_move rfl) rfl ?_
    refine Wl.guardT rfl rfl rfl (fun g_34 => ?_) (fun g_34 => ?_)
    ·
     have g_34_ := g_34
     refine Wl.y (y_fieldAddr (fa28_0ValA _) rfl) rfl ?_
     refine Wl.on' rfl rfl g_34_ ?_
     refine Wl.l (l_load one3ValA rfl (by first | exact hB_o0.at rfl | exact hB_o1.at rfl | exact hB_o0.cell 0 | exact hB_o1.cell 0 | assumption)) rfl ?_
     refine Wl.on' rfl rfl g_34_ ?_
     refine Wl.y (y_eqli rfl rfl) rfl ?_
     refine Wl.y (y_pickT rfl g_34_ rfl) rfl ?_
     refine Wl.y (y_assign rfl) rfl ?_
     refine Wl.nil ?_
     refine Wq.next hK_29 ?_
     refine Wc.cond rfl (fun c1_40 => ?_) (fun c1_40 => ?_)
     ·
      refine Wc.seq fun _ hK_41 => ?_
      refine Wc.region ?_
      refine Wl.y (y_fieldAddr (fa28_1ValA _) rfl) rfl ?_
      refine Wl.l (l_load one2ValA rfl (by first | exact hB_o0.at rfl | exact hB_o1.at rfl | exact hB_o0.cell 0 | exact hB_o1.cell 0 | assumption)) rfl ?_
      refine Wl.y (y_fieldAddr (fa28_2ValA _) rfl) rfl ?_
      refine Wl.l (l_load one26ValA rfl (by first | exact hB_o0.at rfl | exact hB_o1.at rfl | exact hB_o0.cell 0 | exact hB_o1.cell 0 | assumption)) rfl ?_
      refine Wl.call txt115ValA rfl rfl (Against_r _ _ ob.n0 ob.n1 _) rfl ?_
      rintro _ w_ ⟨rfl, hw_⟩
      have hw_ := hw_.symm; subst hw_
      refine Wl.y (y_move rfl) rfl ?_
      refine Wl.y (y_extract rfl rfl) rfl ?_
      refine Wl.y (y_extract rfl rfl) rfl ?_
      refine Wl.y (y_assign rfl) rfl ?_
      refine Wl.y (y_assign rfl) rfl ?_
      refine Wl.nil ?_
      refine Wq.next hK_41 ?_
      refine Wc.seq fun _ hK_52 => ?_
      refine Wc.region ?_
      refine Wl.y (y_move rfl) rfl ?_
      refine Wl.y (y_eq (y_negi rfl) (int_eq (neg_ag _ _))) rfl ?_
      refine Wl.y (y_move rfl) rfl ?_
      refine Wl.y (y_assign rfl) rfl ?_
      refine Wl.y (y_assign rfl) rfl ?_
      refine Wl.nil ?_
      refine Wq.next hK_52 ?_
      refine Wc.ret ?_
      refine Wq.block_ret (Wq.then_ret ?_)
      refine ret2 rfl rfl rfl ?_
      first | exact ⟨_, rfl, by unfold againstV knownV; simp_all, hb⟩
     ·
      refine Wc.seq fun _ hK_58 => ?_
      refine Wc.region ?_
      refine Wl.y (y_fieldAddr (fa28_0ValA _) rfl) rfl ?_
      refine Wl.l (l_load one3ValA rfl (by first | exact hB_o0.at rfl | exact hB_o1.at rfl | exact hB_o0.cell 0 | exact hB_o1.cell 0 | assumption)) rfl ?_
      refine Wl.y (y_eqli rfl rfl) rfl ?_
      refine Wl.y (y_assign rfl) rfl ?_
      refine Wl.nil ?_
      refine Wq.next hK_58 ?_
      refine Wc.cond rfl (fun c2_63 => ?_) (fun c2_63 => ?_)
      ·
       refine Wc.seq fun _ hK_64 => ?_
       refine Wc.quiet (by kernel_rfl) (by kernel_rfl) ?_
       refine Wy.y (y_fieldAddr (fa28_2ValA _) rfl) rfl ?_
       refine Wy.l (fun wq hq => l_load one26ValA rfl (by have hB_o0 := Blk.below hB_o0 hq; have hB_o1 := Blk.below hB_o1 hq; first | exact hB_o0.at rfl | exact hB_o1.at rfl | exact hB_o0.cell 0 | exact hB_o1.cell 0 | assumption)) rfl ?_
       refine Wy.y (y_fieldAddr (fa28_2ValA _) rfl) rfl ?_
       refine Wy.l (fun wq hq => l_load one26ValA rfl (by have hB_o0 := Blk.below hB_o0 hq; have hB_o1 := Blk.below hB_o1 hq; first | exact hB_o0.at rfl | exact hB_o1.at rfl | exact hB_o0.cell 0 | exact hB_o1.cell 0 | assumption)) rfl ?_
       refine Wy.call txt116ValA rfl rfl (fun wq hq => by have hB_o0 := Blk.below hB_o0 hq; have hB_o1 := Blk.below hB_o1 hq; exact Ret.quiet (Cmpf_r _ _ _)) rfl ?_
       refine Wy.y (y_fieldAddr (fa28_2ValA _) rfl) rfl ?_
       refine Wy.l (fun wq hq => l_load one26ValA rfl (by have hB_o0 := Blk.below hB_o0 hq; have hB_o1 := Blk.below hB_o1 hq; first | exact hB_o0.at rfl | exact hB_o1.at rfl | exact hB_o0.cell 0 | exact hB_o1.cell 0 | assumption)) rfl ?_
       refine Wy.y (y_fieldAddr (fa28_2ValA _) rfl) rfl ?_
       refine Wy.l (fun wq hq => l_load one26ValA rfl (by have hB_o0 := Blk.below hB_o0 hq; have hB_o1 := Blk.below hB_o1 hq; first | exact hB_o0.at rfl | exact hB_o1.at rfl | exact hB_o0.cell 0 | exact hB_o1.cell 0 | assumption)) rfl ?_
       refine Wy.y (y_eq (y_eqlf rfl rfl) (bool_eq (eq_self_f _))) rfl ?_
       refine Wy.y (y_move rfl) rfl ?_
       refine Wy.guardT rfl rfl rfl (fun g_76 => ?_) (fun g_76 => ?_)
       ·
        have g_76_ := g_76
        refine Wy.y (y_fieldAddr (fa28_2ValA _) rfl) rfl ?_
        refine Wy.on' rfl rfl g_76_ ?_
        refine Wy.l (fun wq hq => l_load one26ValA rfl (by have hB_o0 := Blk.below hB_o0 hq; have hB_o1 := Blk.below hB_o1 hq; first | exact hB_o0.at rfl | exact hB_o1.at rfl | exact hB_o0.cell 0 | exact hB_o1.cell 0 | assumption)) rfl ?_
        refine Wy.on' rfl rfl g_76_ ?_
        refine Wy.y (y_fieldAddr (fa28_2ValA _) rfl) rfl ?_
        refine Wy.on' rfl rfl g_76_ ?_
        refine Wy.l (fun wq hq => l_load one26ValA rfl (by have hB_o0 := Blk.below hB_o0 hq; have hB_o1 := Blk.below hB_o1 hq; first | exact hB_o0.at rfl | exact hB_o1.at rfl | exact hB_o0.cell 0 | exact hB_o1.cell 0 | assumption)) rfl ?_
        refine Wy.on' rfl rfl g_76_ ?_
        refine Wy.y (y_eq (y_eqlf rfl rfl) (bool_eq (eq_self_f _))) rfl ?_
        refine Wy.y (y_pickT rfl g_76_ rfl) rfl ?_
        refine Wy.y (y_assign rfl) rfl ?_
        refine Wy.y (y_assign rfl) rfl ?_
        refine Wy.nil fun w_g7 hs_g7 => ?_
        have hz_g7 := hs_g7.size
        have hb := hb.trans (hs_g7.mono hb.size)
        refine Wq.next hK_64 ?_
        refine Wc.ret ?_
        refine Wq.block_ret (Wq.then_ret ?_)
        refine ret2 rfl rfl rfl ?_
        first | exact ⟨_, rfl, by unfold againstV knownV; simp_all, hb⟩
       ·
        have g_76_ := g_76
        refine Wy.off' rfl rfl g_76_ rfl rfl ?_
        refine Wy.off' rfl rfl g_76_ rfl rfl ?_
        refine Wy.off' rfl rfl g_76_ rfl rfl ?_
        refine Wy.off' rfl rfl g_76_ rfl rfl ?_
        refine Wy.y (y_pickF rfl g_76_ rfl) rfl ?_
        refine Wy.y (y_assign rfl) rfl ?_
        refine Wy.y (y_assign rfl) rfl ?_
        refine Wy.nil fun w_g7 hs_g7 => ?_
        have hz_g7 := hs_g7.size
        have hb := hb.trans (hs_g7.mono hb.size)
        refine Wq.next hK_64 ?_
        refine Wc.ret ?_
        refine Wq.block_ret (Wq.then_ret ?_)
        refine ret2 rfl rfl rfl ?_
        first | exact ⟨_, rfl, by unfold againstV knownV; simp_all, hb⟩
      ·
       refine Wc.seq fun _ hK_88 => ?_
       refine Wc.region ?_
       refine Wl.y (y_fieldAddr (fa28_0ValA _) rfl) rfl ?_
       refine Wl.l (l_load one3ValA rfl (by first | exact hB_o0.at rfl | exact hB_o1.at rfl | exact hB_o0.cell 0 | exact hB_o1.cell 0 | assumption)) rfl ?_
       refine Wl.y (y_eqli rfl rfl) rfl ?_
       refine Wl.y (y_assign rfl) rfl ?_
       refine Wl.nil ?_
       refine Wq.next hK_88 ?_
       refine Wc.cond rfl (fun c3_93 => ?_) (fun c3_93 => ?_)
       ·
        refine Wc.seq fun _ hK_94 => ?_
        refine Wc.region ?_
        refine Wl.y (y_fieldAddr (fa28_3ValA _) rfl) rfl ?_
        refine Wl.l (l_load one9ValA rfl (by first | exact hB_o0.at rfl | exact hB_o1.at rfl | exact hB_o0.cell 0 | exact hB_o1.cell 0 | assumption)) rfl ?_
        refine Wl.y (y_fieldAddr (fa28_3ValA _) rfl) rfl ?_
        refine Wl.l (l_load one9ValA rfl (by first | exact hB_o0.at rfl | exact hB_o1.at rfl | exact hB_o0.cell 0 | exact hB_o1.cell 0 | assumption)) rfl ?_
        refine Wl.call txt117ValA rfl rfl (Cmps_r _ _ _) rfl ?_
        rintro _ w_ ⟨rfl, hw_⟩
        have hw_ := hw_.symm; subst hw_
        refine Wl.y (y_assign rfl) rfl ?_
        refine Wl.y (y_assign rfl) rfl ?_
        refine Wl.nil ?_
        refine Wq.next hK_94 ?_
        refine Wc.ret ?_
        refine Wq.block_ret (Wq.then_ret ?_)
        refine ret2 rfl rfl rfl ?_
        first | exact ⟨_, rfl, by unfold againstV knownV; simp_all, hb⟩
       ·
        refine Wc.skip ?_
        refine Wq.block_normal ?_
        refine Wq.next hK_6 ?_
        refine Wc.seq fun _ hK_102 => ?_
        refine Wc.region ?_
        refine Wl.y (y_fieldAddr (fa28_1ValA _) rfl) rfl ?_
        refine Wl.l (l_load one2ValA rfl (by first | exact hB_o0.at rfl | exact hB_o1.at rfl | exact hB_o0.cell 0 | exact hB_o1.cell 0 | assumption)) rfl ?_
        refine Wl.y (y_fieldAddr (fa28_1ValA _) rfl) rfl ?_
        refine Wl.l (l_load one2ValA rfl (by first | exact hB_o0.at rfl | exact hB_o1.at rfl | exact hB_o0.cell 0 | exact hB_o1.cell 0 | assumption)) rfl ?_
        refine Wl.call txt118ValA rfl rfl (Cmpl_r _ _ _) rfl ?_
        rintro _ w_ ⟨rfl, hw_⟩
        have hw_ := hw_.symm; subst hw_
        refine Wl.y (y_assign rfl) rfl ?_
        refine Wl.y (y_assign rfl) rfl ?_
        refine Wl.nil ?_
        refine Wq.next hK_102 ?_
        refine Wc.ret ?_
        refine ret2 rfl rfl rfl ?_
        first | exact ⟨_, rfl, by unfold againstV knownV; simp_all, hb⟩
    ·
     have g_34_ := g_34
     refine Wl.off' rfl rfl g_34_ rfl rfl ?_
     refine Wl.off' rfl rfl g_34_ rfl rfl ?_
     refine Wl.y (y_pickF rfl g_34_ rfl) rfl ?_
     refine Wl.y (y_assign rfl) rfl ?_
     refine Wl.nil ?_
     refine Wq.next hK_29 ?_
     refine Wc.condF rfl rfl ?_
     refine Wc.seq fun _ hK_112 => ?_
     refine Wc.region ?_
     refine Wl.y (y_fieldAddr (fa28_0ValA _) rfl) rfl ?_
     refine Wl.l (l_load one3ValA rfl (by first | exact hB_o0.at rfl | exact hB_o1.at rfl | exact hB_o0.cell 0 | exact hB_o1.cell 0 | assumption)) rfl ?_
     refine Wl.y (y_eqli rfl rfl) rfl ?_
     refine Wl.y (y_assign rfl) rfl ?_
     refine Wl.nil ?_
     refine Wq.next hK_112 ?_
     refine Wc.cond rfl (fun c2_117 => ?_) (fun c2_117 => ?_)
     ·
      refine Wc.seq fun _ hK_118 => ?_
      refine Wc.quiet (by kernel_rfl) (by kernel_rfl) ?_
      refine Wy.y (y_fieldAddr (fa28_2ValA _) rfl) rfl ?_
      refine Wy.l (fun wq hq => l_load one26ValA rfl (by have hB_o0 := Blk.below hB_o0 hq; have hB_o1 := Blk.below hB_o1 hq; first | exact hB_o0.at rfl | exact hB_o1.at rfl | exact hB_o0.cell 0 | exact hB_o1.cell 0 | assumption)) rfl ?_
      refine Wy.y (y_fieldAddr (fa28_2ValA _) rfl) rfl ?_
      refine Wy.l (fun wq hq => l_load one26ValA rfl (by have hB_o0 := Blk.below hB_o0 hq; have hB_o1 := Blk.below hB_o1 hq; first | exact hB_o0.at rfl | exact hB_o1.at rfl | exact hB_o0.cell 0 | exact hB_o1.cell 0 | assumption)) rfl ?_
      refine Wy.call txt116ValA rfl rfl (fun wq hq => by have hB_o0 := Blk.below hB_o0 hq; have hB_o1 := Blk.below hB_o1 hq; exact Ret.quiet (Cmpf_r _ _ _)) rfl ?_
      refine Wy.y (y_fieldAddr (fa28_2ValA _) rfl) rfl ?_
      refine Wy.l (fun wq hq => l_load one26ValA rfl (by have hB_o0 := Blk.below hB_o0 hq; have hB_o1 := Blk.below hB_o1 hq; first | exact hB_o0.at rfl | exact hB_o1.at rfl | exact hB_o0.cell 0 | exact hB_o1.cell 0 | assumption)) rfl ?_
      refine Wy.y (y_fieldAddr (fa28_2ValA _) rfl) rfl ?_
      refine Wy.l (fun wq hq => l_load one26ValA rfl (by have hB_o0 := Blk.below hB_o0 hq; have hB_o1 := Blk.below hB_o1 hq; first | exact hB_o0.at rfl | exact hB_o1.at rfl | exact hB_o0.cell 0 | exact hB_o1.cell 0 | assumption)) rfl ?_
      refine Wy.y (y_eq (y_eqlf rfl rfl) (bool_eq (eq_self_f _))) rfl ?_
      refine Wy.y (y_move rfl) rfl ?_
      refine Wy.guardT rfl rfl rfl (fun g_130 => ?_) (fun g_130 => ?_)
      ·
       have g_130_ := g_130
       refine Wy.y (y_fieldAddr (fa28_2ValA _) rfl) rfl ?_
       refine Wy.on' rfl rfl g_130_ ?_
       refine Wy.l (fun wq hq => l_load one26ValA rfl (by have hB_o0 := Blk.below hB_o0 hq; have hB_o1 := Blk.below hB_o1 hq; first | exact hB_o0.at rfl | exact hB_o1.at rfl | exact hB_o0.cell 0 | exact hB_o1.cell 0 | assumption)) rfl ?_
       refine Wy.on' rfl rfl g_130_ ?_
       refine Wy.y (y_fieldAddr (fa28_2ValA _) rfl) rfl ?_
       refine Wy.on' rfl rfl g_130_ ?_
       refine Wy.l (fun wq hq => l_load one26ValA rfl (by have hB_o0 := Blk.below hB_o0 hq; have hB_o1 := Blk.below hB_o1 hq; first | exact hB_o0.at rfl | exact hB_o1.at rfl | exact hB_o0.cell 0 | exact hB_o1.cell 0 | assumption)) rfl ?_
       refine Wy.on' rfl rfl g_130_ ?_
       refine Wy.y (y_eq (y_eqlf rfl rfl) (bool_eq (eq_self_f _))) rfl ?_
       refine Wy.y (y_pickT rfl g_130_ rfl) rfl ?_
       refine Wy.y (y_assign rfl) rfl ?_
       refine Wy.y (y_assign rfl) rfl ?_
       refine Wy.nil fun w_g7 hs_g7 => ?_
       have hz_g7 := hs_g7.size
       have hb := hb.trans (hs_g7.mono hb.size)
       refine Wq.next hK_118 ?_
       refine Wc.ret ?_
       refine Wq.block_ret (Wq.then_ret ?_)
       refine ret2 rfl rfl rfl ?_
       first | exact ⟨_, rfl, by unfold againstV knownV; simp_all, hb⟩
      ·
       have g_130_ := g_130
       refine Wy.off' rfl rfl g_130_ rfl rfl ?_
       refine Wy.off' rfl rfl g_130_ rfl rfl ?_
       refine Wy.off' rfl rfl g_130_ rfl rfl ?_
       refine Wy.off' rfl rfl g_130_ rfl rfl ?_
       refine Wy.y (y_pickF rfl g_130_ rfl) rfl ?_
       refine Wy.y (y_assign rfl) rfl ?_
       refine Wy.y (y_assign rfl) rfl ?_
       refine Wy.nil fun w_g7 hs_g7 => ?_
       have hz_g7 := hs_g7.size
       have hb := hb.trans (hs_g7.mono hb.size)
       refine Wq.next hK_118 ?_
       refine Wc.ret ?_
       refine Wq.block_ret (Wq.then_ret ?_)
       refine ret2 rfl rfl rfl ?_
       first | exact ⟨_, rfl, by unfold againstV knownV; simp_all, hb⟩
     ·
      refine Wc.seq fun _ hK_142 => ?_
      refine Wc.region ?_
      refine Wl.y (y_fieldAddr (fa28_0ValA _) rfl) rfl ?_
      refine Wl.l (l_load one3ValA rfl (by first | exact hB_o0.at rfl | exact hB_o1.at rfl | exact hB_o0.cell 0 | exact hB_o1.cell 0 | assumption)) rfl ?_
      refine Wl.y (y_eqli rfl rfl) rfl ?_
      refine Wl.y (y_assign rfl) rfl ?_
      refine Wl.nil ?_
      refine Wq.next hK_142 ?_
      refine Wc.cond rfl (fun c3_147 => ?_) (fun c3_147 => ?_)
      ·
       refine Wc.seq fun _ hK_148 => ?_
       refine Wc.region ?_
       refine Wl.y (y_fieldAddr (fa28_3ValA _) rfl) rfl ?_
       refine Wl.l (l_load one9ValA rfl (by first | exact hB_o0.at rfl | exact hB_o1.at rfl | exact hB_o0.cell 0 | exact hB_o1.cell 0 | assumption)) rfl ?_
       refine Wl.y (y_fieldAddr (fa28_3ValA _) rfl) rfl ?_
       refine Wl.l (l_load one9ValA rfl (by first | exact hB_o0.at rfl | exact hB_o1.at rfl | exact hB_o0.cell 0 | exact hB_o1.cell 0 | assumption)) rfl ?_
       refine Wl.call txt117ValA rfl rfl (Cmps_r _ _ _) rfl ?_
       rintro _ w_ ⟨rfl, hw_⟩
       have hw_ := hw_.symm; subst hw_
       refine Wl.y (y_assign rfl) rfl ?_
       refine Wl.y (y_assign rfl) rfl ?_
       refine Wl.nil ?_
       refine Wq.next hK_148 ?_
       refine Wc.ret ?_
       refine Wq.block_ret (Wq.then_ret ?_)
       refine ret2 rfl rfl rfl ?_
       first | exact ⟨_, rfl, by unfold againstV knownV; simp_all, hb⟩
      ·
       refine Wc.skip ?_
       refine Wq.block_normal ?_
       refine Wq.next hK_6 ?_
       refine Wc.seq fun _ hK_156 => ?_
       refine Wc.region ?_
       refine Wl.y (y_fieldAddr (fa28_1ValA _) rfl) rfl ?_
       refine Wl.l (l_load one2ValA rfl (by first | exact hB_o0.at rfl | exact hB_o1.at rfl | exact hB_o0.cell 0 | exact hB_o1.cell 0 | assumption)) rfl ?_
       refine Wl.y (y_fieldAddr (fa28_1ValA _) rfl) rfl ?_
       refine Wl.l (l_load one2ValA rfl (by first | exact hB_o0.at rfl | exact hB_o1.at rfl | exact hB_o0.cell 0 | exact hB_o1.cell 0 | assumption)) rfl ?_
       refine Wl.call txt118ValA rfl rfl (Cmpl_r _ _ _) rfl ?_
       rintro _ w_ ⟨rfl, hw_⟩
       have hw_ := hw_.symm; subst hw_
       refine Wl.y (y_assign rfl) rfl ?_
       refine Wl.y (y_assign rfl) rfl ?_
       refine Wl.nil ?_
       refine Wq.next hK_156 ?_
       refine Wc.ret ?_
       refine ret2 rfl rfl rfl ?_
       first | exact ⟨_, rfl, by unfold againstV knownV; simp_all, hb⟩
  ·
   have g_12_ := g_12
   refine Wl.off' rfl rfl g_12_ rfl rfl ?_
   refine Wl.off' rfl rfl g_12_ rfl rfl ?_
   refine Wl.y (y_pickF rfl g_12_ rfl) rfl ?_
   refine Wl.y (y_assign rfl) rfl ?_
   refine Wl.nil ?_
   refine Wq.next hK_7 ?_
   refine Wc.condF rfl rfl ?_
   refine Wc.seq fun _ hK_166 => ?_
   refine Wc.region ?_
   refine Wl.y (y_fieldAddr (fa28_0ValA _) rfl) rfl ?_
   refine Wl.l (l_load one3ValA rfl (by first | exact hB_o0.at rfl | exact hB_o1.at rfl | exact hB_o0.cell 0 | exact hB_o1.cell 0 | assumption)) rfl ?_
   refine Wl.y (y_eqli rfl rfl) rfl ?_
   refine Wl.y (y_move rfl) rfl ?_
   refine Wl.guardT rfl rfl rfl (fun g_171 => ?_) (fun g_171 => ?_)
   ·
    have g_171_ := g_171
    refine Wl.y (y_fieldAddr (fa28_0ValA _) rfl) rfl ?_
    refine Wl.on' rfl rfl g_171_ ?_
    refine Wl.l (l_load one3ValA rfl (by first | exact hB_o0.at rfl | exact hB_o1.at rfl | exact hB_o0.cell 0 | exact hB_o1.cell 0 | assumption)) rfl ?_
    refine Wl.on' rfl rfl g_171_ ?_
    refine Wl.y (y_eqli rfl rfl) rfl ?_
    refine Wl.y (y_pickT rfl g_171_ rfl) rfl ?_
    refine Wl.y (y_assign rfl) rfl ?_
    refine Wl.nil ?_
    refine Wq.next hK_166 ?_
    refine Wc.cond rfl (fun c1_177 => ?_) (fun c1_177 => ?_)
    ·
     refine Wc.seq fun _ hK_178 => ?_
     refine Wc.region ?_
     refine Wl.y (y_fieldAddr (fa28_1ValA _) rfl) rfl ?_
     refine Wl.l (l_load one2ValA rfl (by first | exact hB_o0.at rfl | exact hB_o1.at rfl | exact hB_o0.cell 0 | exact hB_o1.cell 0 | assumption)) rfl ?_
     refine Wl.y (y_fieldAddr (fa28_2ValA _) rfl) rfl ?_
     refine Wl.l (l_load one26ValA rfl (by first | exact hB_o0.at rfl | exact hB_o1.at rfl | exact hB_o0.cell 0 | exact hB_o1.cell 0 | assumption)) rfl ?_
     refine Wl.call txt115ValA rfl rfl (Against_r _ _ ob.n0 ob.n1 _) rfl ?_
     rintro _ w_ ⟨rfl, hw_⟩
     have hw_ := hw_.symm; subst hw_
     refine Wl.y (y_move rfl) rfl ?_
     refine Wl.y (y_extract rfl rfl) rfl ?_
     refine Wl.y (y_extract rfl rfl) rfl ?_
     refine Wl.y (y_assign rfl) rfl ?_
     refine Wl.y (y_assign rfl) rfl ?_
     refine Wl.nil ?_
     refine Wq.next hK_178 ?_
     refine Wc.seq fun _ hK_189 => ?_
     refine Wc.region ?_
     refine Wl.y (y_move rfl) rfl ?_
     refine Wl.y (y_eq (y_negi rfl) (int_eq (neg_ag _ _))) rfl ?_
     refine Wl.y (y_move rfl) rfl ?_
     refine Wl.y (y_assign rfl) rfl ?_
     refine Wl.y (y_assign rfl) rfl ?_
     refine Wl.nil ?_
     refine Wq.next hK_189 ?_
     refine Wc.ret ?_
     refine Wq.block_ret (Wq.then_ret ?_)
     refine ret2 rfl rfl rfl ?_
     first | exact ⟨_, rfl, by unfold againstV knownV; simp_all, hb⟩
    ·
     refine Wc.seq fun _ hK_195 => ?_
     refine Wc.region ?_
     refine Wl.y (y_fieldAddr (fa28_0ValA _) rfl) rfl ?_
     refine Wl.l (l_load one3ValA rfl (by first | exact hB_o0.at rfl | exact hB_o1.at rfl | exact hB_o0.cell 0 | exact hB_o1.cell 0 | assumption)) rfl ?_
     refine Wl.y (y_eqli rfl rfl) rfl ?_
     refine Wl.y (y_assign rfl) rfl ?_
     refine Wl.nil ?_
     refine Wq.next hK_195 ?_
     refine Wc.cond rfl (fun c2_200 => ?_) (fun c2_200 => ?_)
     ·
      refine Wc.seq fun _ hK_201 => ?_
      refine Wc.quiet (by kernel_rfl) (by kernel_rfl) ?_
      refine Wy.y (y_fieldAddr (fa28_2ValA _) rfl) rfl ?_
      refine Wy.l (fun wq hq => l_load one26ValA rfl (by have hB_o0 := Blk.below hB_o0 hq; have hB_o1 := Blk.below hB_o1 hq; first | exact hB_o0.at rfl | exact hB_o1.at rfl | exact hB_o0.cell 0 | exact hB_o1.cell 0 | assumption)) rfl ?_
      refine Wy.y (y_fieldAddr (fa28_2ValA _) rfl) rfl ?_
      refine Wy.l (fun wq hq => l_load one26ValA rfl (by have hB_o0 := Blk.below hB_o0 hq; have hB_o1 := Blk.below hB_o1 hq; first | exact hB_o0.at rfl | exact hB_o1.at rfl | exact hB_o0.cell 0 | exact hB_o1.cell 0 | assumption)) rfl ?_
      refine Wy.call txt116ValA rfl rfl (fun wq hq => by have hB_o0 := Blk.below hB_o0 hq; have hB_o1 := Blk.below hB_o1 hq; exact Ret.quiet (Cmpf_r _ _ _)) rfl ?_
      refine Wy.y (y_fieldAddr (fa28_2ValA _) rfl) rfl ?_
      refine Wy.l (fun wq hq => l_load one26ValA rfl (by have hB_o0 := Blk.below hB_o0 hq; have hB_o1 := Blk.below hB_o1 hq; first | exact hB_o0.at rfl | exact hB_o1.at rfl | exact hB_o0.cell 0 | exact hB_o1.cell 0 | assumption)) rfl ?_
      refine Wy.y (y_fieldAddr (fa28_2ValA _) rfl) rfl ?_
      refine Wy.l (fun wq hq => l_load one26ValA rfl (by have hB_o0 := Blk.below hB_o0 hq; have hB_o1 := Blk.below hB_o1 hq; first | exact hB_o0.at rfl | exact hB_o1.at rfl | exact hB_o0.cell 0 | exact hB_o1.cell 0 | assumption)) rfl ?_
      refine Wy.y (y_eq (y_eqlf rfl rfl) (bool_eq (eq_self_f _))) rfl ?_
      refine Wy.y (y_move rfl) rfl ?_
      refine Wy.guardT rfl rfl rfl (fun g_213 => ?_) (fun g_213 => ?_)
      ·
       have g_213_ := g_213
       refine Wy.y (y_fieldAddr (fa28_2ValA _) rfl) rfl ?_
       refine Wy.on' rfl rfl g_213_ ?_
       refine Wy.l (fun wq hq => l_load one26ValA rfl (by have hB_o0 := Blk.below hB_o0 hq; have hB_o1 := Blk.below hB_o1 hq; first | exact hB_o0.at rfl | exact hB_o1.at rfl | exact hB_o0.cell 0 | exact hB_o1.cell 0 | assumption)) rfl ?_
       refine Wy.on' rfl rfl g_213_ ?_
       refine Wy.y (y_fieldAddr (fa28_2ValA _) rfl) rfl ?_
       refine Wy.on' rfl rfl g_213_ ?_
       refine Wy.l (fun wq hq => l_load one26ValA rfl (by have hB_o0 := Blk.below hB_o0 hq; have hB_o1 := Blk.below hB_o1 hq; first | exact hB_o0.at rfl | exact hB_o1.at rfl | exact hB_o0.cell 0 | exact hB_o1.cell 0 | assumption)) rfl ?_
       refine Wy.on' rfl rfl g_213_ ?_
       refine Wy.y (y_eq (y_eqlf rfl rfl) (bool_eq (eq_self_f _))) rfl ?_
       refine Wy.y (y_pickT rfl g_213_ rfl) rfl ?_
       refine Wy.y (y_assign rfl) rfl ?_
       refine Wy.y (y_assign rfl) rfl ?_
       refine Wy.nil fun w_g7 hs_g7 => ?_
       have hz_g7 := hs_g7.size
       have hb := hb.trans (hs_g7.mono hb.size)
       refine Wq.next hK_201 ?_
       refine Wc.ret ?_
       refine Wq.block_ret (Wq.then_ret ?_)
       refine ret2 rfl rfl rfl ?_
       first | exact ⟨_, rfl, by unfold againstV knownV; simp_all, hb⟩
      ·
       have g_213_ := g_213
       refine Wy.off' rfl rfl g_213_ rfl rfl ?_
       refine Wy.off' rfl rfl g_213_ rfl rfl ?_
       refine Wy.off' rfl rfl g_213_ rfl rfl ?_
       refine Wy.off' rfl rfl g_213_ rfl rfl ?_
       refine Wy.y (y_pickF rfl g_213_ rfl) rfl ?_
       refine Wy.y (y_assign rfl) rfl ?_
       refine Wy.y (y_assign rfl) rfl ?_
       refine Wy.nil fun w_g7 hs_g7 => ?_
       have hz_g7 := hs_g7.size
       have hb := hb.trans (hs_g7.mono hb.size)
       refine Wq.next hK_201 ?_
       refine Wc.ret ?_
       refine Wq.block_ret (Wq.then_ret ?_)
       refine ret2 rfl rfl rfl ?_
       first | exact ⟨_, rfl, by unfold againstV knownV; simp_all, hb⟩
     ·
      refine Wc.seq fun _ hK_225 => ?_
      refine Wc.region ?_
      refine Wl.y (y_fieldAddr (fa28_0ValA _) rfl) rfl ?_
      refine Wl.l (l_load one3ValA rfl (by first | exact hB_o0.at rfl | exact hB_o1.at rfl | exact hB_o0.cell 0 | exact hB_o1.cell 0 | assumption)) rfl ?_
      refine Wl.y (y_eqli rfl rfl) rfl ?_
      refine Wl.y (y_assign rfl) rfl ?_
      refine Wl.nil ?_
      refine Wq.next hK_225 ?_
      refine Wc.cond rfl (fun c3_230 => ?_) (fun c3_230 => ?_)
      ·
       refine Wc.seq fun _ hK_231 => ?_
       refine Wc.region ?_
       refine Wl.y (y_fieldAddr (fa28_3ValA _) rfl) rfl ?_
       refine Wl.l (l_load one9ValA rfl (by first | exact hB_o0.at rfl | exact hB_o1.at rfl | exact hB_o0.cell 0 | exact hB_o1.cell 0 | assumption)) rfl ?_
       refine Wl.y (y_fieldAddr (fa28_3ValA _) rfl) rfl ?_
       refine Wl.l (l_load one9ValA rfl (by first | exact hB_o0.at rfl | exact hB_o1.at rfl | exact hB_o0.cell 0 | exact hB_o1.cell 0 | assumption)) rfl ?_
       refine Wl.call txt117ValA rfl rfl (Cmps_r _ _ _) rfl ?_
       rintro _ w_ ⟨rfl, hw_⟩
       have hw_ := hw_.symm; subst hw_
       refine Wl.y (y_assign rfl) rfl ?_
       refine Wl.y (y_assign rfl) rfl ?_
       refine Wl.nil ?_
       refine Wq.next hK_231 ?_
       refine Wc.ret ?_
       refine Wq.block_ret (Wq.then_ret ?_)
       refine ret2 rfl rfl rfl ?_
       first | exact ⟨_, rfl, by unfold againstV knownV; simp_all, hb⟩
      ·
       refine Wc.skip ?_
       refine Wq.block_normal ?_
       refine Wq.next hK_6 ?_
       refine Wc.seq fun _ hK_239 => ?_
       refine Wc.region ?_
       refine Wl.y (y_fieldAddr (fa28_1ValA _) rfl) rfl ?_
       refine Wl.l (l_load one2ValA rfl (by first | exact hB_o0.at rfl | exact hB_o1.at rfl | exact hB_o0.cell 0 | exact hB_o1.cell 0 | assumption)) rfl ?_
       refine Wl.y (y_fieldAddr (fa28_1ValA _) rfl) rfl ?_
       refine Wl.l (l_load one2ValA rfl (by first | exact hB_o0.at rfl | exact hB_o1.at rfl | exact hB_o0.cell 0 | exact hB_o1.cell 0 | assumption)) rfl ?_
       refine Wl.call txt118ValA rfl rfl (Cmpl_r _ _ _) rfl ?_
       rintro _ w_ ⟨rfl, hw_⟩
       have hw_ := hw_.symm; subst hw_
       refine Wl.y (y_assign rfl) rfl ?_
       refine Wl.y (y_assign rfl) rfl ?_
       refine Wl.nil ?_
       refine Wq.next hK_239 ?_
       refine Wc.ret ?_
       refine ret2 rfl rfl rfl ?_
       first | exact ⟨_, rfl, by unfold againstV knownV; simp_all, hb⟩
   ·
    have g_171_ := g_171
    refine Wl.off' rfl rfl g_171_ rfl rfl ?_
    refine Wl.off' rfl rfl g_171_ rfl rfl ?_
    refine Wl.y (y_pickF rfl g_171_ rfl) rfl ?_
    refine Wl.y (y_assign rfl) rfl ?_
    refine Wl.nil ?_
    refine Wq.next hK_166 ?_
    refine Wc.condF rfl rfl ?_
    refine Wc.seq fun _ hK_249 => ?_
    refine Wc.region ?_
    refine Wl.y (y_fieldAddr (fa28_0ValA _) rfl) rfl ?_
    refine Wl.l (l_load one3ValA rfl (by first | exact hB_o0.at rfl | exact hB_o1.at rfl | exact hB_o0.cell 0 | exact hB_o1.cell 0 | assumption)) rfl ?_
    refine Wl.y (y_eqli rfl rfl) rfl ?_
    refine Wl.y (y_assign rfl) rfl ?_
    refine Wl.nil ?_
    refine Wq.next hK_249 ?_
    refine Wc.cond rfl (fun c2_254 => ?_) (fun c2_254 => ?_)
    ·
     refine Wc.seq fun _ hK_255 => ?_
     refine Wc.quiet (by kernel_rfl) (by kernel_rfl) ?_
     refine Wy.y (y_fieldAddr (fa28_2ValA _) rfl) rfl ?_
     refine Wy.l (fun wq hq => l_load one26ValA rfl (by have hB_o0 := Blk.below hB_o0 hq; have hB_o1 := Blk.below hB_o1 hq; first | exact hB_o0.at rfl | exact hB_o1.at rfl | exact hB_o0.cell 0 | exact hB_o1.cell 0 | assumption)) rfl ?_
     refine Wy.y (y_fieldAddr (fa28_2ValA _) rfl) rfl ?_
     refine Wy.l (fun wq hq => l_load one26ValA rfl (by have hB_o0 := Blk.below hB_o0 hq; have hB_o1 := Blk.below hB_o1 hq; first | exact hB_o0.at rfl | exact hB_o1.at rfl | exact hB_o0.cell 0 | exact hB_o1.cell 0 | assumption)) rfl ?_
     refine Wy.call txt116ValA rfl rfl (fun wq hq => by have hB_o0 := Blk.below hB_o0 hq; have hB_o1 := Blk.below hB_o1 hq; exact Ret.quiet (Cmpf_r _ _ _)) rfl ?_
     refine Wy.y (y_fieldAddr (fa28_2ValA _) rfl) rfl ?_
     refine Wy.l (fun wq hq => l_load one26ValA rfl (by have hB_o0 := Blk.below hB_o0 hq; have hB_o1 := Blk.below hB_o1 hq; first | exact hB_o0.at rfl | exact hB_o1.at rfl | exact hB_o0.cell 0 | exact hB_o1.cell 0 | assumption)) rfl ?_
     refine Wy.y (y_fieldAddr (fa28_2ValA _) rfl) rfl ?_
     refine Wy.l (fun wq hq => l_load one26ValA rfl (by have hB_o0 := Blk.below hB_o0 hq; have hB_o1 := Blk.below hB_o1 hq; first | exact hB_o0.at rfl | exact hB_o1.at rfl | exact hB_o0.cell 0 | exact hB_o1.cell 0 | assumption)) rfl ?_
     refine Wy.y (y_eq (y_eqlf rfl rfl) (bool_eq (eq_self_f _))) rfl ?_
     refine Wy.y (y_move rfl) rfl ?_
     refine Wy.guardT rfl rfl rfl (fun g_267 => ?_) (fun g_267 => ?_)
     ·
      have g_267_ := g_267
      refine Wy.y (y_fieldAddr (fa28_2ValA _) rfl) rfl ?_
      refine Wy.on' rfl rfl g_267_ ?_
      refine Wy.l (fun wq hq => l_load one26ValA rfl (by have hB_o0 := Blk.below hB_o0 hq; have hB_o1 := Blk.below hB_o1 hq; first | exact hB_o0.at rfl | exact hB_o1.at rfl | exact hB_o0.cell 0 | exact hB_o1.cell 0 | assumption)) rfl ?_
      refine Wy.on' rfl rfl g_267_ ?_
      refine Wy.y (y_fieldAddr (fa28_2ValA _) rfl) rfl ?_
      refine Wy.on' rfl rfl g_267_ ?_
      refine Wy.l (fun wq hq => l_load one26ValA rfl (by have hB_o0 := Blk.below hB_o0 hq; have hB_o1 := Blk.below hB_o1 hq; first | exact hB_o0.at rfl | exact hB_o1.at rfl | exact hB_o0.cell 0 | exact hB_o1.cell 0 | assumption)) rfl ?_
      refine Wy.on' rfl rfl g_267_ ?_
      refine Wy.y (y_eq (y_eqlf rfl rfl) (bool_eq (eq_self_f _))) rfl ?_
      refine Wy.y (y_pickT rfl g_267_ rfl) rfl ?_
      refine Wy.y (y_assign rfl) rfl ?_
      refine Wy.y (y_assign rfl) rfl ?_
      refine Wy.nil fun w_g7 hs_g7 => ?_
      have hz_g7 := hs_g7.size
      have hb := hb.trans (hs_g7.mono hb.size)
      refine Wq.next hK_255 ?_
      refine Wc.ret ?_
      refine Wq.block_ret (Wq.then_ret ?_)
      refine ret2 rfl rfl rfl ?_
      first | exact ⟨_, rfl, by unfold againstV knownV; simp_all, hb⟩
     ·
      have g_267_ := g_267
      refine Wy.off' rfl rfl g_267_ rfl rfl ?_
      refine Wy.off' rfl rfl g_267_ rfl rfl ?_
      refine Wy.off' rfl rfl g_267_ rfl rfl ?_
      refine Wy.off' rfl rfl g_267_ rfl rfl ?_
      refine Wy.y (y_pickF rfl g_267_ rfl) rfl ?_
      refine Wy.y (y_assign rfl) rfl ?_
      refine Wy.y (y_assign rfl) rfl ?_
      refine Wy.nil fun w_g7 hs_g7 => ?_
      have hz_g7 := hs_g7.size
      have hb := hb.trans (hs_g7.mono hb.size)
      refine Wq.next hK_255 ?_
      refine Wc.ret ?_
      refine Wq.block_ret (Wq.then_ret ?_)
      refine ret2 rfl rfl rfl ?_
      first | exact ⟨_, rfl, by unfold againstV knownV; simp_all, hb⟩
    ·
     refine Wc.seq fun _ hK_279 => ?_
     refine Wc.region ?_
     refine Wl.y (y_fieldAddr (fa28_0ValA _) rfl) rfl ?_
     refine Wl.l (l_load one3ValA rfl (by first | exact hB_o0.at rfl | exact hB_o1.at rfl | exact hB_o0.cell 0 | exact hB_o1.cell 0 | assumption)) rfl ?_
     refine Wl.y (y_eqli rfl rfl) rfl ?_
     refine Wl.y (y_assign rfl) rfl ?_
     refine Wl.nil ?_
     refine Wq.next hK_279 ?_
     refine Wc.cond rfl (fun c3_284 => ?_) (fun c3_284 => ?_)
     ·
      refine Wc.seq fun _ hK_285 => ?_
      refine Wc.region ?_
      refine Wl.y (y_fieldAddr (fa28_3ValA _) rfl) rfl ?_
      refine Wl.l (l_load one9ValA rfl (by first | exact hB_o0.at rfl | exact hB_o1.at rfl | exact hB_o0.cell 0 | exact hB_o1.cell 0 | assumption)) rfl ?_
      refine Wl.y (y_fieldAddr (fa28_3ValA _) rfl) rfl ?_
      refine Wl.l (l_load one9ValA rfl (by first | exact hB_o0.at rfl | exact hB_o1.at rfl | exact hB_o0.cell 0 | exact hB_o1.cell 0 | assumption)) rfl ?_
      refine Wl.call txt117ValA rfl rfl (Cmps_r _ _ _) rfl ?_
      rintro _ w_ ⟨rfl, hw_⟩
      have hw_ := hw_.symm; subst hw_
      refine Wl.y (y_assign rfl) rfl ?_
      refine Wl.y (y_assign rfl) rfl ?_
      refine Wl.nil ?_
      refine Wq.next hK_285 ?_
      refine Wc.ret ?_
      refine Wq.block_ret (Wq.then_ret ?_)
      refine ret2 rfl rfl rfl ?_
      first | exact ⟨_, rfl, by unfold againstV knownV; simp_all, hb⟩
     ·
      refine Wc.skip ?_
      refine Wq.block_normal ?_
      refine Wq.next hK_6 ?_
      refine Wc.seq fun _ hK_293 => ?_
      refine Wc.region ?_
      refine Wl.y (y_fieldAddr (fa28_1ValA _) rfl) rfl ?_
      refine Wl.l (l_load one2ValA rfl (by first | exact hB_o0.at rfl | exact hB_o1.at rfl | exact hB_o0.cell 0 | exact hB_o1.cell 0 | assumption)) rfl ?_
      refine Wl.y (y_fieldAddr (fa28_1ValA _) rfl) rfl ?_
      refine Wl.l (l_load one2ValA rfl (by first | exact hB_o0.at rfl | exact hB_o1.at rfl | exact hB_o0.cell 0 | exact hB_o1.cell 0 | assumption)) rfl ?_
      refine Wl.call txt118ValA rfl rfl (Cmpl_r _ _ _) rfl ?_
      rintro _ w_ ⟨rfl, hw_⟩
      have hw_ := hw_.symm; subst hw_
      refine Wl.y (y_assign rfl) rfl ?_
      refine Wl.y (y_assign rfl) rfl ?_
      refine Wl.nil ?_
      refine Wq.next hK_293 ?_
      refine Wc.ret ?_
      refine ret2 rfl rfl rfl ?_
      first | exact ⟨_, rfl, by unfold againstV knownV; simp_all, hb⟩
end Go.Proofs.YtcljmclolpgdmaaGreatDoor
