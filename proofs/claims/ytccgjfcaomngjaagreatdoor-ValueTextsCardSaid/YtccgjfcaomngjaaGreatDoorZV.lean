/- Package value: Same, Less, Right, against, Test, by the calculus. · Package value: Less, Right, Test, by the calculus. · Package value: reckoning, by the calculus. -/
import Derived.Test.YtccgjfcaomngjaaGreatDoorZE
import Derived.Test.YtccgjfcaomngjaaGreatDoorZH
import Derived.Test.YtccgjfcaomngjaaGreatDoorZD
namespace Go.Proofs.YtccgjfcaomngjaaGreatDoor
open Go.RowKit Go.Bw Go.Bw.Fl
set_option linter.unusedVariables false
set_option linter.unusedSimpArgs false
theorem fa28_0ValA (p : Addr) (w : World) : (Instr.fieldAt 28 (.pointer (some p)) 0).run Tryz.prog w = .ok (.pointer (some (p.add 0))) w := run_fieldAt (i := 0) (sz := 0) Tryz.underlying28 rfl (by kernel_rfl) p w
theorem fa28_1ValA (p : Addr) (w : World) : (Instr.fieldAt 28 (.pointer (some p)) 1).run Tryz.prog w = .ok (.pointer (some (p.add 1))) w := run_fieldAt (i := 1) (sz := 0) Tryz.underlying28 rfl (by kernel_rfl) p w
theorem fa28_2ValA (p : Addr) (w : World) : (Instr.fieldAt 28 (.pointer (some p)) 2).run Tryz.prog w = .ok (.pointer (some (p.add 2))) w := run_fieldAt (i := 2) (sz := 0) Tryz.underlying28 rfl (by kernel_rfl) p w
theorem fa28_3ValA (p : Addr) (w : World) : (Instr.fieldAt 28 (.pointer (some p)) 3).run Tryz.prog w = .ok (.pointer (some (p.add 3))) w := run_fieldAt (i := 3) (sz := 0) Tryz.underlying28 rfl (by kernel_rfl) p w
theorem one2ValA : One Tryz.prog 2 := ⟨_, Tryz.underlying2, rfl, by kernel_rfl⟩
theorem one26ValA : One Tryz.prog 26 := ⟨_, Tryz.underlying26, rfl, by kernel_rfl⟩
theorem one3ValA : One Tryz.prog 3 := ⟨_, Tryz.underlying3, rfl, by kernel_rfl⟩
theorem one9ValA : One Tryz.prog 9 := ⟨_, Tryz.underlying9, rfl, by kernel_rfl⟩
theorem txt163ValA : Txt Tryz.prog 163 := ⟨_, Tryz.func163, by kernel_rfl, rfl⟩   -- bridleway/num.Against
theorem txt164ValA : Txt Tryz.prog 164 := ⟨_, Tryz.func164, by kernel_rfl, rfl⟩   -- cmp.Compare[float64]
theorem txt165ValA : Txt Tryz.prog 165 := ⟨_, Tryz.func165, by kernel_rfl, rfl⟩   -- cmp.Compare[string]
theorem txt166ValA : Txt Tryz.prog 166 := ⟨_, Tryz.func166, by kernel_rfl, rfl⟩   -- cmp.Compare[int64]
theorem cmpI_zero {x y : Int} : cmpI x y = 0 ↔ x = y := by unfold cmpI; split <;> (try split) <;> omega
theorem cmpK_zero {x y : Nat} : cmpI x y = 0 ↔ x = y := by rw [cmpI_zero]; omega
theorem number_r (a : Val) (w : World) : Ret Tryz.prog 86 [a.enc] w fun v w' => v = .bool (numV a) ∧ Below w.heap.size w w' := by
  have hb := Below.refl w.heap.size w
  refine enter Tryz.func86 rfl rfl rfl ?_
  refine Wc.seq fun _ hK_1 => Wc.region ?_
  refine Wl.boxN rfl rfl ?_
  rintro g_o0 w_o0 hg_o0 hn_o0 hs_o0
  have hz_o0 := hs_o0.size
  have hb := hb.trans (hs_o0.mono hb.size)
  have hB_o0 := hn_o0
  have hl_o0 := hB_o0.lt
  refine Wl.sg rfl rfl <| Wl.nil <| Wq.next hK_1 <| Wc.seq fun _ hK_4 => Wc.region ?_
  refine Wl.y (y_fieldAddr (fa28_0ValA _) rfl) rfl ?_
  refine Wl.l (l_load one3ValA rfl (by first | exact hB_o0.at rfl | exact hB_o0.cell 0 | assumption)) rfl ?_
  refine Wl.y (y_eqli rfl rfl) rfl <| Wl.mv rfl rfl ?_
  refine Wl.guardF rfl rfl rfl (fun g_9 => ?_) (fun g_9 => ?_)
  ·
   have g_9_ := g_9
   try simp only [DZ] at g_9
   refine Wl.off' rfl rfl g_9_ rfl rfl <| Wl.off' rfl rfl g_9_ rfl rfl ?_
   refine Wl.y (y_pickT rfl g_9_ rfl) rfl ?_
   refine Wl.sg rfl rfl <| Wl.nil <| Wq.next hK_4 <| Wc.ret ?_
   refine ret1 rfl rfl ?_
   exact ⟨_, rfl, bool_eq (by unfold numV; rw [Bool.eq_iff_iff]; simp_all), hb⟩
  have g_9_ := g_9
  try simp only [DZ] at g_9
  refine Wl.y (y_fieldAddr (fa28_0ValA _) rfl) rfl ?_
  refine Wl.on' rfl rfl g_9_ ?_
  refine Wl.l (l_load one3ValA rfl (by first | exact hB_o0.at rfl | exact hB_o0.cell 0 | assumption)) rfl ?_
  refine Wl.on' rfl rfl g_9_ <| Wl.y (y_eqli rfl rfl) rfl ?_
  refine Wl.y (y_pickF rfl g_9_ rfl) rfl ?_
  refine Wl.sg rfl rfl <| Wl.nil <| Wq.next hK_4 <| Wc.ret ?_
  refine ret1 rfl rfl ?_
  exact ⟨_, rfl, bool_eq (by unfold numV; rw [Bool.eq_iff_iff]; simp_all), hb⟩

theorem eq_self_f (b : Nat) : (FloatKind.f64.format.order b b == some .eq) = !isNan b := by
  show (Ieee.double.order b b == some .eq) = _
  rw [eq_val]; simp
theorem cmpI_bd (x y : Int) : -1 ≤ cmpI x y ∧ cmpI x y ≤ 1 := by unfold cmpI; split <;> (try split) <;> omega
theorem agV_bd (n : Int) (b : Nat) : -1 ≤ agV n b ∧ agV n b ≤ 1 := by unfold agV; split; omega; exact cmpI_bd _ _
theorem neg_ag (n : Int) (b : Nat) : IntKind.i64.wrap (0 - agV n b) = -agV n b := by have := agV_bd n b; rw [wrap_i64 _ (by omega) (by omega)]; omega
theorem against_r (a b : Val) (oa : a.Ok) (ob : b.Ok) (w : World) : Ret Tryz.prog 87 [a.enc, b.enc] w fun v w' => v = .tuple #[.int .i64 (againstV a b), .bool (knownV a b)] ∧ Below w.heap.size w w' := by
  have hb := Below.refl w.heap.size w
  refine enter Tryz.func87 rfl rfl rfl ?_
  refine Wc.seq fun _ hK_1 => Wc.region ?_
  refine Wl.boxN rfl rfl ?_
  rintro g_o0 w_o0 hg_o0 hn_o0 hs_o0
  have hz_o0 := hs_o0.size
  have hb := hb.trans (hs_o0.mono hb.size)
  have hB_o0 := hn_o0
  have hl_o0 := hB_o0.lt
  refine Wl.boxN rfl rfl ?_
  rintro g_o1 w_o1 hg_o1 hn_o1 hs_o1
  have hz_o1 := hs_o1.size
  have hb := hb.trans (hs_o1.mono hb.size)
  try have hB_o0 := Blk.below hB_o0 hs_o1
  have hB_o1 := hn_o1
  have hl_o1 := hB_o1.lt
  refine Wl.sg rfl rfl <| Wl.sg rfl rfl <| Wl.nil <| Wq.next hK_1 <| Wc.seq fun _ hK_6 => Wc.block <| Wc.seq fun _ hK_7 => Wc.region ?_
  refine Wl.y (y_fieldAddr (fa28_0ValA _) rfl) rfl ?_
  refine Wl.l (l_load one3ValA rfl (by first | exact hB_o0.at rfl | exact hB_o1.at rfl | exact hB_o0.cell 0 | exact hB_o1.cell 0 | assumption)) rfl ?_
  refine Wl.y (y_eqli rfl rfl) rfl <| Wl.mv rfl rfl ?_
  refine Wl.guardT rfl rfl rfl (fun g_12 => ?_) (fun g_12 => ?_)
  ·
   have g_12_ := g_12
   refine Wl.y (y_fieldAddr (fa28_0ValA _) rfl) rfl ?_
   refine Wl.on' rfl rfl g_12_ ?_
   refine Wl.l (l_load one3ValA rfl (by first | exact hB_o0.at rfl | exact hB_o1.at rfl | exact hB_o0.cell 0 | exact hB_o1.cell 0 | assumption)) rfl ?_
   refine Wl.on' rfl rfl g_12_ <| Wl.y (y_eqli rfl rfl) rfl ?_
   refine Wl.y (y_pickT rfl g_12_ rfl) rfl ?_
   refine Wl.sg rfl rfl <| Wl.nil <| Wq.next hK_7 ?_
   refine Wc.cond rfl (fun c0_18 => ?_) (fun c0_18 => ?_)
   ·
    refine Wc.seq fun _ hK_19 => Wc.region ?_
    refine Wl.y (y_fieldAddr (fa28_1ValA _) rfl) rfl ?_
    refine Wl.l (l_load one2ValA rfl (by first | exact hB_o0.at rfl | exact hB_o1.at rfl | exact hB_o0.cell 0 | exact hB_o1.cell 0 | assumption)) rfl ?_
    refine Wl.y (y_fieldAddr (fa28_2ValA _) rfl) rfl ?_
    refine Wl.l (l_load one26ValA rfl (by first | exact hB_o0.at rfl | exact hB_o1.at rfl | exact hB_o0.cell 0 | exact hB_o1.cell 0 | assumption)) rfl ?_
    refine Wl.call txt163ValA rfl rfl (Against_r _ _ oa.n0 oa.n1 _) rfl ?_
    rintro _ w_ ⟨rfl, hw_⟩
    have hw_ := hw_.symm; subst hw_
    refine Wl.y (y_extract rfl rfl) rfl <| Wl.y (y_extract rfl rfl) rfl <| Wl.sg rfl rfl <| Wl.sg rfl rfl <| Wl.nil <| Wq.next hK_19 <| Wc.ret ?_
    refine Wq.block_ret (Wq.then_ret ?_)
    refine ret2 rfl rfl rfl ?_
    first | exact ⟨_, rfl, by unfold againstV knownV; simp_all, hb⟩
   refine Wc.seq fun _ hK_29 => Wc.region ?_
   refine Wl.y (y_fieldAddr (fa28_0ValA _) rfl) rfl ?_
   refine Wl.l (l_load one3ValA rfl (by first | exact hB_o0.at rfl | exact hB_o1.at rfl | exact hB_o0.cell 0 | exact hB_o1.cell 0 | assumption)) rfl ?_
   refine Wl.y (y_eqli rfl rfl) rfl <| Wl.mv rfl rfl ?_
   refine Wl.guardT rfl rfl rfl (fun g_34 => ?_) (fun g_34 => ?_)
   ·
    have g_34_ := g_34
    refine Wl.y (y_fieldAddr (fa28_0ValA _) rfl) rfl ?_
    refine Wl.on' rfl rfl g_34_ ?_
    refine Wl.l (l_load one3ValA rfl (by first | exact hB_o0.at rfl | exact hB_o1.at rfl | exact hB_o0.cell 0 | exact hB_o1.cell 0 | assumption)) rfl ?_
    refine Wl.on' rfl rfl g_34_ <| Wl.y (y_eqli rfl rfl) rfl ?_
    refine Wl.y (y_pickT rfl g_34_ rfl) rfl ?_
    refine Wl.sg rfl rfl <| Wl.nil <| Wq.next hK_29 ?_
    refine Wc.cond rfl (fun c1_40 => ?_) (fun c1_40 => ?_)
    ·
     refine Wc.seq fun _ hK_41 => Wc.region ?_
     refine Wl.y (y_fieldAddr (fa28_1ValA _) rfl) rfl ?_
     refine Wl.l (l_load one2ValA rfl (by first | exact hB_o0.at rfl | exact hB_o1.at rfl | exact hB_o0.cell 0 | exact hB_o1.cell 0 | assumption)) rfl ?_
     refine Wl.y (y_fieldAddr (fa28_2ValA _) rfl) rfl ?_
     refine Wl.l (l_load one26ValA rfl (by first | exact hB_o0.at rfl | exact hB_o1.at rfl | exact hB_o0.cell 0 | exact hB_o1.cell 0 | assumption)) rfl ?_
     refine Wl.call txt163ValA rfl rfl (Against_r _ _ ob.n0 ob.n1 _) rfl ?_
     rintro _ w_ ⟨rfl, hw_⟩
     have hw_ := hw_.symm; subst hw_
     refine Wl.mv rfl rfl <| Wl.y (y_extract rfl rfl) rfl <| Wl.y (y_extract rfl rfl) rfl <| Wl.sg rfl rfl <| Wl.sg rfl rfl <| Wl.nil <| Wq.next hK_41 <| Wc.seq fun _ hK_52 => Wc.region <| Wl.mv rfl rfl ?_
     refine Wl.y (y_eq (y_negi rfl) (int_eq (neg_ag _ _))) rfl ?_
     refine Wl.mv rfl rfl <| Wl.sg rfl rfl <| Wl.sg rfl rfl <| Wl.nil <| Wq.next hK_52 <| Wc.ret ?_
     refine Wq.block_ret (Wq.then_ret ?_)
     refine ret2 rfl rfl rfl ?_
     first | exact ⟨_, rfl, by unfold againstV knownV; simp_all, hb⟩
    refine Wc.seq fun _ hK_58 => Wc.region ?_
    refine Wl.y (y_fieldAddr (fa28_0ValA _) rfl) rfl ?_
    refine Wl.l (l_load one3ValA rfl (by first | exact hB_o0.at rfl | exact hB_o1.at rfl | exact hB_o0.cell 0 | exact hB_o1.cell 0 | assumption)) rfl ?_
    refine Wl.y (y_eqli rfl rfl) rfl <| Wl.sg rfl rfl <| Wl.nil <| Wq.next hK_58 ?_
    refine Wc.cond rfl (fun c2_63 => ?_) (fun c2_63 => ?_)
    ·
     refine Wc.seq fun _ hK_64 => ?_
     refine Wc.quiet (by kernel_rfl) (by kernel_rfl) ?_
     refine Wy.y (y_fieldAddr (fa28_2ValA _) rfl) rfl ?_
     refine Wy.l (fun wq hq => l_load one26ValA rfl (by have hB_o0 := Blk.below hB_o0 hq; have hB_o1 := Blk.below hB_o1 hq; first | exact hB_o0.at rfl | exact hB_o1.at rfl | exact hB_o0.cell 0 | exact hB_o1.cell 0 | assumption)) rfl ?_
     refine Wy.y (y_fieldAddr (fa28_2ValA _) rfl) rfl ?_
     refine Wy.l (fun wq hq => l_load one26ValA rfl (by have hB_o0 := Blk.below hB_o0 hq; have hB_o1 := Blk.below hB_o1 hq; first | exact hB_o0.at rfl | exact hB_o1.at rfl | exact hB_o0.cell 0 | exact hB_o1.cell 0 | assumption)) rfl ?_
     refine Wy.call txt164ValA rfl rfl (fun wq hq => by have hB_o0 := Blk.below hB_o0 hq; have hB_o1 := Blk.below hB_o1 hq; exact Ret.quiet (Cmpf_r _ _ _)) rfl ?_
     refine Wy.y (y_fieldAddr (fa28_2ValA _) rfl) rfl ?_
     refine Wy.l (fun wq hq => l_load one26ValA rfl (by have hB_o0 := Blk.below hB_o0 hq; have hB_o1 := Blk.below hB_o1 hq; first | exact hB_o0.at rfl | exact hB_o1.at rfl | exact hB_o0.cell 0 | exact hB_o1.cell 0 | assumption)) rfl ?_
     refine Wy.y (y_fieldAddr (fa28_2ValA _) rfl) rfl ?_
     refine Wy.l (fun wq hq => l_load one26ValA rfl (by have hB_o0 := Blk.below hB_o0 hq; have hB_o1 := Blk.below hB_o1 hq; first | exact hB_o0.at rfl | exact hB_o1.at rfl | exact hB_o0.cell 0 | exact hB_o1.cell 0 | assumption)) rfl ?_
     refine Wy.y (y_eq (y_eqlf rfl rfl) (bool_eq (eq_self_f _))) rfl ?_
     refine Wy.y (y_move rfl) rfl ?_
     refine Wy.guardT rfl rfl rfl (fun g_76 => ?_) (fun g_76 => ?_)
     ·
      have g_76_ := g_76
      refine Wy.y (y_fieldAddr (fa28_2ValA _) rfl) rfl ?_
      refine Wy.on' rfl rfl g_76_ ?_
      refine Wy.l (fun wq hq => l_load one26ValA rfl (by have hB_o0 := Blk.below hB_o0 hq; have hB_o1 := Blk.below hB_o1 hq; first | exact hB_o0.at rfl | exact hB_o1.at rfl | exact hB_o0.cell 0 | exact hB_o1.cell 0 | assumption)) rfl ?_
      refine Wy.on' rfl rfl g_76_ ?_
      refine Wy.y (y_fieldAddr (fa28_2ValA _) rfl) rfl ?_
      refine Wy.on' rfl rfl g_76_ ?_
      refine Wy.l (fun wq hq => l_load one26ValA rfl (by have hB_o0 := Blk.below hB_o0 hq; have hB_o1 := Blk.below hB_o1 hq; first | exact hB_o0.at rfl | exact hB_o1.at rfl | exact hB_o0.cell 0 | exact hB_o1.cell 0 | assumption)) rfl ?_
      refine Wy.on' rfl rfl g_76_ ?_
      refine Wy.y (y_eq (y_eqlf rfl rfl) (bool_eq (eq_self_f _))) rfl ?_
      refine Wy.y (y_pickT rfl g_76_ rfl) rfl ?_
      refine Wy.y (y_assign rfl) rfl <| Wy.y (y_assign rfl) rfl ?_
      refine Wy.nil fun w_g7 hs_g7 => ?_
      have hz_g7 := hs_g7.size
      have hb := hb.trans (hs_g7.mono hb.size)
      refine Wq.next hK_64 <| Wc.ret ?_
      refine Wq.block_ret (Wq.then_ret ?_)
      refine ret2 rfl rfl rfl ?_
      first | exact ⟨_, rfl, by unfold againstV knownV; simp_all, hb⟩
     have g_76_ := g_76
     refine Wy.off' rfl rfl g_76_ rfl rfl <| Wy.off' rfl rfl g_76_ rfl rfl <| Wy.off' rfl rfl g_76_ rfl rfl <| Wy.off' rfl rfl g_76_ rfl rfl ?_
     refine Wy.y (y_pickF rfl g_76_ rfl) rfl ?_
     refine Wy.y (y_assign rfl) rfl <| Wy.y (y_assign rfl) rfl ?_
     refine Wy.nil fun w_g7 hs_g7 => ?_
     have hz_g7 := hs_g7.size
     have hb := hb.trans (hs_g7.mono hb.size)
     refine Wq.next hK_64 <| Wc.ret ?_
     refine Wq.block_ret (Wq.then_ret ?_)
     refine ret2 rfl rfl rfl ?_
     first | exact ⟨_, rfl, by unfold againstV knownV; simp_all, hb⟩
    refine Wc.seq fun _ hK_88 => Wc.region ?_
    refine Wl.y (y_fieldAddr (fa28_0ValA _) rfl) rfl ?_
    refine Wl.l (l_load one3ValA rfl (by first | exact hB_o0.at rfl | exact hB_o1.at rfl | exact hB_o0.cell 0 | exact hB_o1.cell 0 | assumption)) rfl ?_
    refine Wl.y (y_eqli rfl rfl) rfl <| Wl.sg rfl rfl <| Wl.nil <| Wq.next hK_88 ?_
    refine Wc.cond rfl (fun c3_93 => ?_) (fun c3_93 => ?_)
    ·
     refine Wc.seq fun _ hK_94 => Wc.region ?_
     refine Wl.y (y_fieldAddr (fa28_3ValA _) rfl) rfl ?_
     refine Wl.l (l_load one9ValA rfl (by first | exact hB_o0.at rfl | exact hB_o1.at rfl | exact hB_o0.cell 0 | exact hB_o1.cell 0 | assumption)) rfl ?_
     refine Wl.y (y_fieldAddr (fa28_3ValA _) rfl) rfl ?_
     refine Wl.l (l_load one9ValA rfl (by first | exact hB_o0.at rfl | exact hB_o1.at rfl | exact hB_o0.cell 0 | exact hB_o1.cell 0 | assumption)) rfl ?_
     refine Wl.call txt165ValA rfl rfl (Cmps_r _ _ _) rfl ?_
     rintro _ w_ ⟨rfl, hw_⟩
     have hw_ := hw_.symm; subst hw_
     refine Wl.sg rfl rfl <| Wl.sg rfl rfl <| Wl.nil <| Wq.next hK_94 <| Wc.ret ?_
     refine Wq.block_ret (Wq.then_ret ?_)
     refine ret2 rfl rfl rfl ?_
     first | exact ⟨_, rfl, by unfold againstV knownV; simp_all, hb⟩
    refine Wc.skip <| Wq.block_normal <| Wq.next hK_6 <| Wc.seq fun _ hK_102 => Wc.region ?_
    refine Wl.y (y_fieldAddr (fa28_1ValA _) rfl) rfl ?_
    refine Wl.l (l_load one2ValA rfl (by first | exact hB_o0.at rfl | exact hB_o1.at rfl | exact hB_o0.cell 0 | exact hB_o1.cell 0 | assumption)) rfl ?_
    refine Wl.y (y_fieldAddr (fa28_1ValA _) rfl) rfl ?_
    refine Wl.l (l_load one2ValA rfl (by first | exact hB_o0.at rfl | exact hB_o1.at rfl | exact hB_o0.cell 0 | exact hB_o1.cell 0 | assumption)) rfl ?_
    refine Wl.call txt166ValA rfl rfl (Cmpl_r _ _ _) rfl ?_
    rintro _ w_ ⟨rfl, hw_⟩
    have hw_ := hw_.symm; subst hw_
    refine Wl.sg rfl rfl <| Wl.sg rfl rfl <| Wl.nil <| Wq.next hK_102 <| Wc.ret ?_
    refine ret2 rfl rfl rfl ?_
    first | exact ⟨_, rfl, by unfold againstV knownV; simp_all, hb⟩
   have g_34_ := g_34
   refine Wl.off' rfl rfl g_34_ rfl rfl <| Wl.off' rfl rfl g_34_ rfl rfl ?_
   refine Wl.y (y_pickF rfl g_34_ rfl) rfl ?_
   refine Wl.sg rfl rfl <| Wl.nil <| Wq.next hK_29 ?_
   refine Wc.condF rfl rfl ?_
   refine Wc.seq fun _ hK_112 => Wc.region ?_
   refine Wl.y (y_fieldAddr (fa28_0ValA _) rfl) rfl ?_
   refine Wl.l (l_load one3ValA rfl (by first | exact hB_o0.at rfl | exact hB_o1.at rfl | exact hB_o0.cell 0 | exact hB_o1.cell 0 | assumption)) rfl ?_
   refine Wl.y (y_eqli rfl rfl) rfl <| Wl.sg rfl rfl <| Wl.nil <| Wq.next hK_112 ?_
   refine Wc.cond rfl (fun c2_117 => ?_) (fun c2_117 => ?_)
   ·
    refine Wc.seq fun _ hK_118 => ?_
    refine Wc.quiet (by kernel_rfl) (by kernel_rfl) ?_
    refine Wy.y (y_fieldAddr (fa28_2ValA _) rfl) rfl ?_
    refine Wy.l (fun wq hq => l_load one26ValA rfl (by have hB_o0 := Blk.below hB_o0 hq; have hB_o1 := Blk.below hB_o1 hq; first | exact hB_o0.at rfl | exact hB_o1.at rfl | exact hB_o0.cell 0 | exact hB_o1.cell 0 | assumption)) rfl ?_
    refine Wy.y (y_fieldAddr (fa28_2ValA _) rfl) rfl ?_
    refine Wy.l (fun wq hq => l_load one26ValA rfl (by have hB_o0 := Blk.below hB_o0 hq; have hB_o1 := Blk.below hB_o1 hq; first | exact hB_o0.at rfl | exact hB_o1.at rfl | exact hB_o0.cell 0 | exact hB_o1.cell 0 | assumption)) rfl ?_
    refine Wy.call txt164ValA rfl rfl (fun wq hq => by have hB_o0 := Blk.below hB_o0 hq; have hB_o1 := Blk.below hB_o1 hq; exact Ret.quiet (Cmpf_r _ _ _)) rfl ?_
    refine Wy.y (y_fieldAddr (fa28_2ValA _) rfl) rfl ?_
    refine Wy.l (fun wq hq => l_load one26ValA rfl (by have hB_o0 := Blk.below hB_o0 hq; have hB_o1 := Blk.below hB_o1 hq; first | exact hB_o0.at rfl | exact hB_o1.at rfl | exact hB_o0.cell 0 | exact hB_o1.cell 0 | assumption)) rfl ?_
    refine Wy.y (y_fieldAddr (fa28_2ValA _) rfl) rfl ?_
    refine Wy.l (fun wq hq => l_load one26ValA rfl (by have hB_o0 := Blk.below hB_o0 hq; have hB_o1 := Blk.below hB_o1 hq; first | exact hB_o0.at rfl | exact hB_o1.at rfl | exact hB_o0.cell 0 | exact hB_o1.cell 0 | assumption)) rfl ?_
    refine Wy.y (y_eq (y_eqlf rfl rfl) (bool_eq (eq_self_f _))) rfl ?_
    refine Wy.y (y_move rfl) rfl ?_
    refine Wy.guardT rfl rfl rfl (fun g_130 => ?_) (fun g_130 => ?_)
    ·
     have g_130_ := g_130
     refine Wy.y (y_fieldAddr (fa28_2ValA _) rfl) rfl ?_
     refine Wy.on' rfl rfl g_130_ ?_
     refine Wy.l (fun wq hq => l_load one26ValA rfl (by have hB_o0 := Blk.below hB_o0 hq; have hB_o1 := Blk.below hB_o1 hq; first | exact hB_o0.at rfl | exact hB_o1.at rfl | exact hB_o0.cell 0 | exact hB_o1.cell 0 | assumption)) rfl ?_
     refine Wy.on' rfl rfl g_130_ ?_
     refine Wy.y (y_fieldAddr (fa28_2ValA _) rfl) rfl ?_
     refine Wy.on' rfl rfl g_130_ ?_
     refine Wy.l (fun wq hq => l_load one26ValA rfl (by have hB_o0 := Blk.below hB_o0 hq; have hB_o1 := Blk.below hB_o1 hq; first | exact hB_o0.at rfl | exact hB_o1.at rfl | exact hB_o0.cell 0 | exact hB_o1.cell 0 | assumption)) rfl ?_
     refine Wy.on' rfl rfl g_130_ ?_
     refine Wy.y (y_eq (y_eqlf rfl rfl) (bool_eq (eq_self_f _))) rfl ?_
     refine Wy.y (y_pickT rfl g_130_ rfl) rfl ?_
     refine Wy.y (y_assign rfl) rfl <| Wy.y (y_assign rfl) rfl ?_
     refine Wy.nil fun w_g7 hs_g7 => ?_
     have hz_g7 := hs_g7.size
     have hb := hb.trans (hs_g7.mono hb.size)
     refine Wq.next hK_118 <| Wc.ret ?_
     refine Wq.block_ret (Wq.then_ret ?_)
     refine ret2 rfl rfl rfl ?_
     first | exact ⟨_, rfl, by unfold againstV knownV; simp_all, hb⟩
    have g_130_ := g_130
    refine Wy.off' rfl rfl g_130_ rfl rfl <| Wy.off' rfl rfl g_130_ rfl rfl <| Wy.off' rfl rfl g_130_ rfl rfl <| Wy.off' rfl rfl g_130_ rfl rfl ?_
    refine Wy.y (y_pickF rfl g_130_ rfl) rfl ?_
    refine Wy.y (y_assign rfl) rfl <| Wy.y (y_assign rfl) rfl ?_
    refine Wy.nil fun w_g7 hs_g7 => ?_
    have hz_g7 := hs_g7.size
    have hb := hb.trans (hs_g7.mono hb.size)
    refine Wq.next hK_118 <| Wc.ret ?_
    refine Wq.block_ret (Wq.then_ret ?_)
    refine ret2 rfl rfl rfl ?_
    first | exact ⟨_, rfl, by unfold againstV knownV; simp_all, hb⟩
   refine Wc.seq fun _ hK_142 => Wc.region ?_
   refine Wl.y (y_fieldAddr (fa28_0ValA _) rfl) rfl ?_
   refine Wl.l (l_load one3ValA rfl (by first | exact hB_o0.at rfl | exact hB_o1.at rfl | exact hB_o0.cell 0 | exact hB_o1.cell 0 | assumption)) rfl ?_
   refine Wl.y (y_eqli rfl rfl) rfl <| Wl.sg rfl rfl <| Wl.nil <| Wq.next hK_142 ?_
   refine Wc.cond rfl (fun c3_147 => ?_) (fun c3_147 => ?_)
   ·
    refine Wc.seq fun _ hK_148 => Wc.region ?_
    refine Wl.y (y_fieldAddr (fa28_3ValA _) rfl) rfl ?_
    refine Wl.l (l_load one9ValA rfl (by first | exact hB_o0.at rfl | exact hB_o1.at rfl | exact hB_o0.cell 0 | exact hB_o1.cell 0 | assumption)) rfl ?_
    refine Wl.y (y_fieldAddr (fa28_3ValA _) rfl) rfl ?_
    refine Wl.l (l_load one9ValA rfl (by first | exact hB_o0.at rfl | exact hB_o1.at rfl | exact hB_o0.cell 0 | exact hB_o1.cell 0 | assumption)) rfl ?_
    refine Wl.call txt165ValA rfl rfl (Cmps_r _ _ _) rfl ?_
    rintro _ w_ ⟨rfl, hw_⟩
    have hw_ := hw_.symm; subst hw_
    refine Wl.sg rfl rfl <| Wl.sg rfl rfl <| Wl.nil <| Wq.next hK_148 <| Wc.ret ?_
    refine Wq.block_ret (Wq.then_ret ?_)
    refine ret2 rfl rfl rfl ?_
    first | exact ⟨_, rfl, by unfold againstV knownV; simp_all, hb⟩
   refine Wc.skip <| Wq.block_normal <| Wq.next hK_6 <| Wc.seq fun _ hK_156 => Wc.region ?_
   refine Wl.y (y_fieldAddr (fa28_1ValA _) rfl) rfl ?_
   refine Wl.l (l_load one2ValA rfl (by first | exact hB_o0.at rfl | exact hB_o1.at rfl | exact hB_o0.cell 0 | exact hB_o1.cell 0 | assumption)) rfl ?_
   refine Wl.y (y_fieldAddr (fa28_1ValA _) rfl) rfl ?_
   refine Wl.l (l_load one2ValA rfl (by first | exact hB_o0.at rfl | exact hB_o1.at rfl | exact hB_o0.cell 0 | exact hB_o1.cell 0 | assumption)) rfl ?_
   refine Wl.call txt166ValA rfl rfl (Cmpl_r _ _ _) rfl ?_
   rintro _ w_ ⟨rfl, hw_⟩
   have hw_ := hw_.symm; subst hw_
   refine Wl.sg rfl rfl <| Wl.sg rfl rfl <| Wl.nil <| Wq.next hK_156 <| Wc.ret ?_
   refine ret2 rfl rfl rfl ?_
   first | exact ⟨_, rfl, by unfold againstV knownV; simp_all, hb⟩
  have g_12_ := g_12
  refine Wl.off' rfl rfl g_12_ rfl rfl <| Wl.off' rfl rfl g_12_ rfl rfl ?_
  refine Wl.y (y_pickF rfl g_12_ rfl) rfl ?_
  refine Wl.sg rfl rfl <| Wl.nil <| Wq.next hK_7 ?_
  refine Wc.condF rfl rfl ?_
  refine Wc.seq fun _ hK_166 => Wc.region ?_
  refine Wl.y (y_fieldAddr (fa28_0ValA _) rfl) rfl ?_
  refine Wl.l (l_load one3ValA rfl (by first | exact hB_o0.at rfl | exact hB_o1.at rfl | exact hB_o0.cell 0 | exact hB_o1.cell 0 | assumption)) rfl ?_
  refine Wl.y (y_eqli rfl rfl) rfl <| Wl.mv rfl rfl ?_
  refine Wl.guardT rfl rfl rfl (fun g_171 => ?_) (fun g_171 => ?_)
  ·
   have g_171_ := g_171
   refine Wl.y (y_fieldAddr (fa28_0ValA _) rfl) rfl ?_
   refine Wl.on' rfl rfl g_171_ ?_
   refine Wl.l (l_load one3ValA rfl (by first | exact hB_o0.at rfl | exact hB_o1.at rfl | exact hB_o0.cell 0 | exact hB_o1.cell 0 | assumption)) rfl ?_
   refine Wl.on' rfl rfl g_171_ <| Wl.y (y_eqli rfl rfl) rfl ?_
   refine Wl.y (y_pickT rfl g_171_ rfl) rfl ?_
   refine Wl.sg rfl rfl <| Wl.nil <| Wq.next hK_166 ?_
   refine Wc.cond rfl (fun c1_177 => ?_) (fun c1_177 => ?_)
   ·
    refine Wc.seq fun _ hK_178 => Wc.region ?_
    refine Wl.y (y_fieldAddr (fa28_1ValA _) rfl) rfl ?_
    refine Wl.l (l_load one2ValA rfl (by first | exact hB_o0.at rfl | exact hB_o1.at rfl | exact hB_o0.cell 0 | exact hB_o1.cell 0 | assumption)) rfl ?_
    refine Wl.y (y_fieldAddr (fa28_2ValA _) rfl) rfl ?_
    refine Wl.l (l_load one26ValA rfl (by first | exact hB_o0.at rfl | exact hB_o1.at rfl | exact hB_o0.cell 0 | exact hB_o1.cell 0 | assumption)) rfl ?_
    refine Wl.call txt163ValA rfl rfl (Against_r _ _ ob.n0 ob.n1 _) rfl ?_
    rintro _ w_ ⟨rfl, hw_⟩
    have hw_ := hw_.symm; subst hw_
    refine Wl.mv rfl rfl <| Wl.y (y_extract rfl rfl) rfl <| Wl.y (y_extract rfl rfl) rfl <| Wl.sg rfl rfl <| Wl.sg rfl rfl <| Wl.nil <| Wq.next hK_178 <| Wc.seq fun _ hK_189 => Wc.region <| Wl.mv rfl rfl ?_
    refine Wl.y (y_eq (y_negi rfl) (int_eq (neg_ag _ _))) rfl ?_
    refine Wl.mv rfl rfl <| Wl.sg rfl rfl <| Wl.sg rfl rfl <| Wl.nil <| Wq.next hK_189 <| Wc.ret ?_
    refine Wq.block_ret (Wq.then_ret ?_)
    refine ret2 rfl rfl rfl ?_
    first | exact ⟨_, rfl, by unfold againstV knownV; simp_all, hb⟩
   refine Wc.seq fun _ hK_195 => Wc.region ?_
   refine Wl.y (y_fieldAddr (fa28_0ValA _) rfl) rfl ?_
   refine Wl.l (l_load one3ValA rfl (by first | exact hB_o0.at rfl | exact hB_o1.at rfl | exact hB_o0.cell 0 | exact hB_o1.cell 0 | assumption)) rfl ?_
   refine Wl.y (y_eqli rfl rfl) rfl <| Wl.sg rfl rfl <| Wl.nil <| Wq.next hK_195 ?_
   refine Wc.cond rfl (fun c2_200 => ?_) (fun c2_200 => ?_)
   ·
    refine Wc.seq fun _ hK_201 => ?_
    refine Wc.quiet (by kernel_rfl) (by kernel_rfl) ?_
    refine Wy.y (y_fieldAddr (fa28_2ValA _) rfl) rfl ?_
    refine Wy.l (fun wq hq => l_load one26ValA rfl (by have hB_o0 := Blk.below hB_o0 hq; have hB_o1 := Blk.below hB_o1 hq; first | exact hB_o0.at rfl | exact hB_o1.at rfl | exact hB_o0.cell 0 | exact hB_o1.cell 0 | assumption)) rfl ?_
    refine Wy.y (y_fieldAddr (fa28_2ValA _) rfl) rfl ?_
    refine Wy.l (fun wq hq => l_load one26ValA rfl (by have hB_o0 := Blk.below hB_o0 hq; have hB_o1 := Blk.below hB_o1 hq; first | exact hB_o0.at rfl | exact hB_o1.at rfl | exact hB_o0.cell 0 | exact hB_o1.cell 0 | assumption)) rfl ?_
    refine Wy.call txt164ValA rfl rfl (fun wq hq => by have hB_o0 := Blk.below hB_o0 hq; have hB_o1 := Blk.below hB_o1 hq; exact Ret.quiet (Cmpf_r _ _ _)) rfl ?_
    refine Wy.y (y_fieldAddr (fa28_2ValA _) rfl) rfl ?_
    refine Wy.l (fun wq hq => l_load one26ValA rfl (by have hB_o0 := Blk.below hB_o0 hq; have hB_o1 := Blk.below hB_o1 hq; first | exact hB_o0.at rfl | exact hB_o1.at rfl | exact hB_o0.cell 0 | exact hB_o1.cell 0 | assumption)) rfl ?_
    refine Wy.y (y_fieldAddr (fa28_2ValA _) rfl) rfl ?_
    refine Wy.l (fun wq hq => l_load one26ValA rfl (by have hB_o0 := Blk.below hB_o0 hq; have hB_o1 := Blk.below hB_o1 hq; first | exact hB_o0.at rfl | exact hB_o1.at rfl | exact hB_o0.cell 0 | exact hB_o1.cell 0 | assumption)) rfl ?_
    refine Wy.y (y_eq (y_eqlf rfl rfl) (bool_eq (eq_self_f _))) rfl ?_
    refine Wy.y (y_move rfl) rfl ?_
    refine Wy.guardT rfl rfl rfl (fun g_213 => ?_) (fun g_213 => ?_)
    ·
     have g_213_ := g_213
     refine Wy.y (y_fieldAddr (fa28_2ValA _) rfl) rfl ?_
     refine Wy.on' rfl rfl g_213_ ?_
     refine Wy.l (fun wq hq => l_load one26ValA rfl (by have hB_o0 := Blk.below hB_o0 hq; have hB_o1 := Blk.below hB_o1 hq; first | exact hB_o0.at rfl | exact hB_o1.at rfl | exact hB_o0.cell 0 | exact hB_o1.cell 0 | assumption)) rfl ?_
     refine Wy.on' rfl rfl g_213_ ?_
     refine Wy.y (y_fieldAddr (fa28_2ValA _) rfl) rfl ?_
     refine Wy.on' rfl rfl g_213_ ?_
     refine Wy.l (fun wq hq => l_load one26ValA rfl (by have hB_o0 := Blk.below hB_o0 hq; have hB_o1 := Blk.below hB_o1 hq; first | exact hB_o0.at rfl | exact hB_o1.at rfl | exact hB_o0.cell 0 | exact hB_o1.cell 0 | assumption)) rfl ?_
     refine Wy.on' rfl rfl g_213_ ?_
     refine Wy.y (y_eq (y_eqlf rfl rfl) (bool_eq (eq_self_f _))) rfl ?_
     refine Wy.y (y_pickT rfl g_213_ rfl) rfl ?_
     refine Wy.y (y_assign rfl) rfl <| Wy.y (y_assign rfl) rfl ?_
     refine Wy.nil fun w_g7 hs_g7 => ?_
     have hz_g7 := hs_g7.size
     have hb := hb.trans (hs_g7.mono hb.size)
     refine Wq.next hK_201 <| Wc.ret ?_
     refine Wq.block_ret (Wq.then_ret ?_)
     refine ret2 rfl rfl rfl ?_
     first | exact ⟨_, rfl, by unfold againstV knownV; simp_all, hb⟩
    have g_213_ := g_213
    refine Wy.off' rfl rfl g_213_ rfl rfl <| Wy.off' rfl rfl g_213_ rfl rfl <| Wy.off' rfl rfl g_213_ rfl rfl <| Wy.off' rfl rfl g_213_ rfl rfl ?_
    refine Wy.y (y_pickF rfl g_213_ rfl) rfl ?_
    refine Wy.y (y_assign rfl) rfl <| Wy.y (y_assign rfl) rfl ?_
    refine Wy.nil fun w_g7 hs_g7 => ?_
    have hz_g7 := hs_g7.size
    have hb := hb.trans (hs_g7.mono hb.size)
    refine Wq.next hK_201 <| Wc.ret ?_
    refine Wq.block_ret (Wq.then_ret ?_)
    refine ret2 rfl rfl rfl ?_
    first | exact ⟨_, rfl, by unfold againstV knownV; simp_all, hb⟩
   refine Wc.seq fun _ hK_225 => Wc.region ?_
   refine Wl.y (y_fieldAddr (fa28_0ValA _) rfl) rfl ?_
   refine Wl.l (l_load one3ValA rfl (by first | exact hB_o0.at rfl | exact hB_o1.at rfl | exact hB_o0.cell 0 | exact hB_o1.cell 0 | assumption)) rfl ?_
   refine Wl.y (y_eqli rfl rfl) rfl <| Wl.sg rfl rfl <| Wl.nil <| Wq.next hK_225 ?_
   refine Wc.cond rfl (fun c3_230 => ?_) (fun c3_230 => ?_)
   ·
    refine Wc.seq fun _ hK_231 => Wc.region ?_
    refine Wl.y (y_fieldAddr (fa28_3ValA _) rfl) rfl ?_
    refine Wl.l (l_load one9ValA rfl (by first | exact hB_o0.at rfl | exact hB_o1.at rfl | exact hB_o0.cell 0 | exact hB_o1.cell 0 | assumption)) rfl ?_
    refine Wl.y (y_fieldAddr (fa28_3ValA _) rfl) rfl ?_
    refine Wl.l (l_load one9ValA rfl (by first | exact hB_o0.at rfl | exact hB_o1.at rfl | exact hB_o0.cell 0 | exact hB_o1.cell 0 | assumption)) rfl ?_
    refine Wl.call txt165ValA rfl rfl (Cmps_r _ _ _) rfl ?_
    rintro _ w_ ⟨rfl, hw_⟩
    have hw_ := hw_.symm; subst hw_
    refine Wl.sg rfl rfl <| Wl.sg rfl rfl <| Wl.nil <| Wq.next hK_231 <| Wc.ret ?_
    refine Wq.block_ret (Wq.then_ret ?_)
    refine ret2 rfl rfl rfl ?_
    first | exact ⟨_, rfl, by unfold againstV knownV; simp_all, hb⟩
   refine Wc.skip <| Wq.block_normal <| Wq.next hK_6 <| Wc.seq fun _ hK_239 => Wc.region ?_
   refine Wl.y (y_fieldAddr (fa28_1ValA _) rfl) rfl ?_
   refine Wl.l (l_load one2ValA rfl (by first | exact hB_o0.at rfl | exact hB_o1.at rfl | exact hB_o0.cell 0 | exact hB_o1.cell 0 | assumption)) rfl ?_
   refine Wl.y (y_fieldAddr (fa28_1ValA _) rfl) rfl ?_
   refine Wl.l (l_load one2ValA rfl (by first | exact hB_o0.at rfl | exact hB_o1.at rfl | exact hB_o0.cell 0 | exact hB_o1.cell 0 | assumption)) rfl ?_
   refine Wl.call txt166ValA rfl rfl (Cmpl_r _ _ _) rfl ?_
   rintro _ w_ ⟨rfl, hw_⟩
   have hw_ := hw_.symm; subst hw_
   refine Wl.sg rfl rfl <| Wl.sg rfl rfl <| Wl.nil <| Wq.next hK_239 <| Wc.ret ?_
   refine ret2 rfl rfl rfl ?_
   first | exact ⟨_, rfl, by unfold againstV knownV; simp_all, hb⟩
  have g_171_ := g_171
  refine Wl.off' rfl rfl g_171_ rfl rfl <| Wl.off' rfl rfl g_171_ rfl rfl ?_
  refine Wl.y (y_pickF rfl g_171_ rfl) rfl ?_
  refine Wl.sg rfl rfl <| Wl.nil <| Wq.next hK_166 ?_
  refine Wc.condF rfl rfl ?_
  refine Wc.seq fun _ hK_249 => Wc.region ?_
  refine Wl.y (y_fieldAddr (fa28_0ValA _) rfl) rfl ?_
  refine Wl.l (l_load one3ValA rfl (by first | exact hB_o0.at rfl | exact hB_o1.at rfl | exact hB_o0.cell 0 | exact hB_o1.cell 0 | assumption)) rfl ?_
  refine Wl.y (y_eqli rfl rfl) rfl <| Wl.sg rfl rfl <| Wl.nil <| Wq.next hK_249 ?_
  refine Wc.cond rfl (fun c2_254 => ?_) (fun c2_254 => ?_)
  ·
   refine Wc.seq fun _ hK_255 => ?_
   refine Wc.quiet (by kernel_rfl) (by kernel_rfl) ?_
   refine Wy.y (y_fieldAddr (fa28_2ValA _) rfl) rfl ?_
   refine Wy.l (fun wq hq => l_load one26ValA rfl (by have hB_o0 := Blk.below hB_o0 hq; have hB_o1 := Blk.below hB_o1 hq; first | exact hB_o0.at rfl | exact hB_o1.at rfl | exact hB_o0.cell 0 | exact hB_o1.cell 0 | assumption)) rfl ?_
   refine Wy.y (y_fieldAddr (fa28_2ValA _) rfl) rfl ?_
   refine Wy.l (fun wq hq => l_load one26ValA rfl (by have hB_o0 := Blk.below hB_o0 hq; have hB_o1 := Blk.below hB_o1 hq; first | exact hB_o0.at rfl | exact hB_o1.at rfl | exact hB_o0.cell 0 | exact hB_o1.cell 0 | assumption)) rfl ?_
   refine Wy.call txt164ValA rfl rfl (fun wq hq => by have hB_o0 := Blk.below hB_o0 hq; have hB_o1 := Blk.below hB_o1 hq; exact Ret.quiet (Cmpf_r _ _ _)) rfl ?_
   refine Wy.y (y_fieldAddr (fa28_2ValA _) rfl) rfl ?_
   refine Wy.l (fun wq hq => l_load one26ValA rfl (by have hB_o0 := Blk.below hB_o0 hq; have hB_o1 := Blk.below hB_o1 hq; first | exact hB_o0.at rfl | exact hB_o1.at rfl | exact hB_o0.cell 0 | exact hB_o1.cell 0 | assumption)) rfl ?_
   refine Wy.y (y_fieldAddr (fa28_2ValA _) rfl) rfl ?_
   refine Wy.l (fun wq hq => l_load one26ValA rfl (by have hB_o0 := Blk.below hB_o0 hq; have hB_o1 := Blk.below hB_o1 hq; first | exact hB_o0.at rfl | exact hB_o1.at rfl | exact hB_o0.cell 0 | exact hB_o1.cell 0 | assumption)) rfl ?_
   refine Wy.y (y_eq (y_eqlf rfl rfl) (bool_eq (eq_self_f _))) rfl ?_
   refine Wy.y (y_move rfl) rfl ?_
   refine Wy.guardT rfl rfl rfl (fun g_267 => ?_) (fun g_267 => ?_)
   ·
    have g_267_ := g_267
    refine Wy.y (y_fieldAddr (fa28_2ValA _) rfl) rfl ?_
    refine Wy.on' rfl rfl g_267_ ?_
    refine Wy.l (fun wq hq => l_load one26ValA rfl (by have hB_o0 := Blk.below hB_o0 hq; have hB_o1 := Blk.below hB_o1 hq; first | exact hB_o0.at rfl | exact hB_o1.at rfl | exact hB_o0.cell 0 | exact hB_o1.cell 0 | assumption)) rfl ?_
    refine Wy.on' rfl rfl g_267_ ?_
    refine Wy.y (y_fieldAddr (fa28_2ValA _) rfl) rfl ?_
    refine Wy.on' rfl rfl g_267_ ?_
    refine Wy.l (fun wq hq => l_load one26ValA rfl (by have hB_o0 := Blk.below hB_o0 hq; have hB_o1 := Blk.below hB_o1 hq; first | exact hB_o0.at rfl | exact hB_o1.at rfl | exact hB_o0.cell 0 | exact hB_o1.cell 0 | assumption)) rfl ?_
    refine Wy.on' rfl rfl g_267_ ?_
    refine Wy.y (y_eq (y_eqlf rfl rfl) (bool_eq (eq_self_f _))) rfl ?_
    refine Wy.y (y_pickT rfl g_267_ rfl) rfl ?_
    refine Wy.y (y_assign rfl) rfl <| Wy.y (y_assign rfl) rfl ?_
    refine Wy.nil fun w_g7 hs_g7 => ?_
    have hz_g7 := hs_g7.size
    have hb := hb.trans (hs_g7.mono hb.size)
    refine Wq.next hK_255 <| Wc.ret ?_
    refine Wq.block_ret (Wq.then_ret ?_)
    refine ret2 rfl rfl rfl ?_
    first | exact ⟨_, rfl, by unfold againstV knownV; simp_all, hb⟩
   have g_267_ := g_267
   refine Wy.off' rfl rfl g_267_ rfl rfl <| Wy.off' rfl rfl g_267_ rfl rfl <| Wy.off' rfl rfl g_267_ rfl rfl <| Wy.off' rfl rfl g_267_ rfl rfl ?_
   refine Wy.y (y_pickF rfl g_267_ rfl) rfl ?_
   refine Wy.y (y_assign rfl) rfl <| Wy.y (y_assign rfl) rfl ?_
   refine Wy.nil fun w_g7 hs_g7 => ?_
   have hz_g7 := hs_g7.size
   have hb := hb.trans (hs_g7.mono hb.size)
   refine Wq.next hK_255 <| Wc.ret ?_
   refine Wq.block_ret (Wq.then_ret ?_)
   refine ret2 rfl rfl rfl ?_
   first | exact ⟨_, rfl, by unfold againstV knownV; simp_all, hb⟩
  refine Wc.seq fun _ hK_279 => Wc.region ?_
  refine Wl.y (y_fieldAddr (fa28_0ValA _) rfl) rfl ?_
  refine Wl.l (l_load one3ValA rfl (by first | exact hB_o0.at rfl | exact hB_o1.at rfl | exact hB_o0.cell 0 | exact hB_o1.cell 0 | assumption)) rfl ?_
  refine Wl.y (y_eqli rfl rfl) rfl <| Wl.sg rfl rfl <| Wl.nil <| Wq.next hK_279 ?_
  refine Wc.cond rfl (fun c3_284 => ?_) (fun c3_284 => ?_)
  ·
   refine Wc.seq fun _ hK_285 => Wc.region ?_
   refine Wl.y (y_fieldAddr (fa28_3ValA _) rfl) rfl ?_
   refine Wl.l (l_load one9ValA rfl (by first | exact hB_o0.at rfl | exact hB_o1.at rfl | exact hB_o0.cell 0 | exact hB_o1.cell 0 | assumption)) rfl ?_
   refine Wl.y (y_fieldAddr (fa28_3ValA _) rfl) rfl ?_
   refine Wl.l (l_load one9ValA rfl (by first | exact hB_o0.at rfl | exact hB_o1.at rfl | exact hB_o0.cell 0 | exact hB_o1.cell 0 | assumption)) rfl ?_
   refine Wl.call txt165ValA rfl rfl (Cmps_r _ _ _) rfl ?_
   rintro _ w_ ⟨rfl, hw_⟩
   have hw_ := hw_.symm; subst hw_
   refine Wl.sg rfl rfl <| Wl.sg rfl rfl <| Wl.nil <| Wq.next hK_285 <| Wc.ret ?_
   refine Wq.block_ret (Wq.then_ret ?_)
   refine ret2 rfl rfl rfl ?_
   first | exact ⟨_, rfl, by unfold againstV knownV; simp_all, hb⟩
  refine Wc.skip <| Wq.block_normal <| Wq.next hK_6 <| Wc.seq fun _ hK_293 => Wc.region ?_
  refine Wl.y (y_fieldAddr (fa28_1ValA _) rfl) rfl ?_
  refine Wl.l (l_load one2ValA rfl (by first | exact hB_o0.at rfl | exact hB_o1.at rfl | exact hB_o0.cell 0 | exact hB_o1.cell 0 | assumption)) rfl ?_
  refine Wl.y (y_fieldAddr (fa28_1ValA _) rfl) rfl ?_
  refine Wl.l (l_load one2ValA rfl (by first | exact hB_o0.at rfl | exact hB_o1.at rfl | exact hB_o0.cell 0 | exact hB_o1.cell 0 | assumption)) rfl ?_
  refine Wl.call txt166ValA rfl rfl (Cmpl_r _ _ _) rfl ?_
  rintro _ w_ ⟨rfl, hw_⟩
  have hw_ := hw_.symm; subst hw_
  refine Wl.sg rfl rfl <| Wl.sg rfl rfl <| Wl.nil <| Wq.next hK_293 <| Wc.ret ?_
  refine ret2 rfl rfl rfl ?_
  first | exact ⟨_, rfl, by unfold againstV knownV; simp_all, hb⟩
end Go.Proofs.YtccgjfcaomngjaaGreatDoor
namespace Go.Proofs.YtccgjfcaomngjaaGreatDoor
open Go.RowKit Go.Bw Go.Bw.Fl
set_option linter.unusedVariables false
set_option linter.unusedSimpArgs false
theorem fa28_0ValB (p : Addr) (w : World) : (Instr.fieldAt 28 (.pointer (some p)) 0).run Tryz.prog w = .ok (.pointer (some (p.add 0))) w := run_fieldAt (i := 0) (sz := 0) Tryz.underlying28 rfl (by kernel_rfl) p w
theorem one3ValB : One Tryz.prog 3 := ⟨_, Tryz.underlying3, rfl, by kernel_rfl⟩
theorem txt43ValB : Txt Tryz.prog 43 := ⟨_, Tryz.func43, by kernel_rfl, rfl⟩   -- bridleway/value.Right
theorem txt54ValB : Txt Tryz.prog 54 := ⟨_, Tryz.func54, by kernel_rfl, rfl⟩   -- bridleway/value.truth
theorem txt85ValB : Txt Tryz.prog 85 := ⟨_, Tryz.func85, by kernel_rfl, rfl⟩   -- bridleway/value.tests
theorem txt86ValB : Txt Tryz.prog 86 := ⟨_, Tryz.func86, by kernel_rfl, rfl⟩   -- bridleway/value.number
theorem txt87ValB : Txt Tryz.prog 87 := ⟨_, Tryz.func87, by kernel_rfl, rfl⟩   -- bridleway/value.against
theorem tests1_r (c : Int) (w : World) : Ret Tryz.prog 157 [.int .i64 c] w fun v w' => v = .bool (c == 0) ∧ w' = w := by
  refine enter Tryz.func157 rfl rfl rfl ?_
  refine Wc.seq fun _ hK_1 => Wc.region <| Wl.sg rfl rfl <| Wl.nil <| Wq.next hK_1 <| Wc.seq fun _ hK_3 => Wc.region <| Wl.mv rfl rfl <| Wl.y (y_eqli rfl rfl) rfl <| Wl.sg rfl rfl ?_
  refine Wl.nil <| Wq.next hK_3 <| Wc.ret ?_
  refine ret1 rfl rfl ?_
  exact ⟨_, rfl, rfl, rfl⟩
theorem tests2_r (c : Int) (w : World) : Ret Tryz.prog 158 [.int .i64 c] w fun v w' => v = .bool (c != 0) ∧ w' = w := by
  refine enter Tryz.func158 rfl rfl rfl ?_
  refine Wc.seq fun _ hK_1 => Wc.region <| Wl.sg rfl rfl <| Wl.nil <| Wq.next hK_1 <| Wc.seq fun _ hK_3 => Wc.region <| Wl.mv rfl rfl <| Wl.y (y_neqi rfl rfl) rfl <| Wl.sg rfl rfl ?_
  refine Wl.nil <| Wq.next hK_3 <| Wc.ret ?_
  refine ret1 rfl rfl ?_
  exact ⟨_, rfl, rfl, rfl⟩
theorem tests3_r (c : Int) (w : World) : Ret Tryz.prog 159 [.int .i64 c] w fun v w' => v = .bool (decide (c < 0)) ∧ w' = w := by
  refine enter Tryz.func159 rfl rfl rfl ?_
  refine Wc.seq fun _ hK_1 => Wc.region <| Wl.sg rfl rfl <| Wl.nil <| Wq.next hK_1 <| Wc.seq fun _ hK_3 => Wc.region <| Wl.mv rfl rfl <| Wl.y (y_lssi rfl rfl) rfl <| Wl.sg rfl rfl ?_
  refine Wl.nil <| Wq.next hK_3 <| Wc.ret ?_
  refine ret1 rfl rfl ?_
  exact ⟨_, rfl, rfl, rfl⟩
theorem tests4_r (c : Int) (w : World) : Ret Tryz.prog 160 [.int .i64 c] w fun v w' => v = .bool (decide (c ≤ 0)) ∧ w' = w := by
  refine enter Tryz.func160 rfl rfl rfl ?_
  refine Wc.seq fun _ hK_1 => Wc.region <| Wl.sg rfl rfl <| Wl.nil <| Wq.next hK_1 <| Wc.seq fun _ hK_3 => Wc.region <| Wl.mv rfl rfl <| Wl.y (y_leqi rfl rfl) rfl <| Wl.sg rfl rfl ?_
  refine Wl.nil <| Wq.next hK_3 <| Wc.ret ?_
  refine ret1 rfl rfl ?_
  exact ⟨_, rfl, rfl, rfl⟩
theorem tests5_r (c : Int) (w : World) : Ret Tryz.prog 161 [.int .i64 c] w fun v w' => v = .bool (decide (c > 0)) ∧ w' = w := by
  refine enter Tryz.func161 rfl rfl rfl ?_
  refine Wc.seq fun _ hK_1 => Wc.region <| Wl.sg rfl rfl <| Wl.nil <| Wq.next hK_1 <| Wc.seq fun _ hK_3 => Wc.region <| Wl.mv rfl rfl <| Wl.y (y_gtri rfl rfl) rfl <| Wl.sg rfl rfl ?_
  refine Wl.nil <| Wq.next hK_3 <| Wc.ret ?_
  refine ret1 rfl rfl ?_
  exact ⟨_, rfl, rfl, rfl⟩
theorem tests6_r (c : Int) (w : World) : Ret Tryz.prog 162 [.int .i64 c] w fun v w' => v = .bool (decide (c ≥ 0)) ∧ w' = w := by
  refine enter Tryz.func162 rfl rfl rfl ?_
  refine Wc.seq fun _ hK_1 => Wc.region <| Wl.sg rfl rfl <| Wl.nil <| Wq.next hK_1 <| Wc.seq fun _ hK_3 => Wc.region <| Wl.mv rfl rfl <| Wl.y (y_geqi rfl rfl) rfl <| Wl.sg rfl rfl ?_
  refine Wl.nil <| Wq.next hK_3 <| Wc.ret ?_
  refine ret1 rfl rfl ?_
  exact ⟨_, rfl, rfl, rfl⟩
def fv (f : Nat) : Value := .func (.func f) #[] #[]
def testsKV : List (List UInt8 × Value) := [([61], fv 157), ([60, 62], fv 158), ([60], fv 159), ([60, 61], fv 160), ([62], fv 161), ([62, 61], fv 162)]
theorem tests_r (w : World) : Ret Tryz.prog 85 [] w fun v w' => (∃ g, v = .map (some g) ∧ w.heap.size ≤ g ∧ Mp w' g testsKV) ∧ Below w.heap.size w w' := by
  have hb := Below.refl w.heap.size w
  refine enter Tryz.func85 rfl rfl rfl ?_
  refine Wc.seq fun _ hK_1 => Wc.region <| Wl.sg rfl rfl <| Wl.nil <| Wq.next hK_1 <| Wc.seq fun _ hK_3 => Wc.region ?_
  refine Wl.makeMap rfl ?_
  rintro g_o1 w_o1 hg_o1 hn_o1 hs_o1
  have hz_o1 := hs_o1.size
  have hb := hb.trans (hs_o1.mono hb.size)
  have hM_o1 := hn_o1
  have hl_o1 := hM_o1.lt
  refine Wl.insert Tryz.underlying141 Tryz.underlying9 rfl rfl rfl hM_o1 (by rfl) ?_
  rintro w_o2 hn_o2 hg_o2
  have hz_o2 := hg_o2.size
  have hb := below_blk hb hg_o2 hb.size (by omega)
  have hM_o1 := hn_o2
  refine Wl.insert Tryz.underlying141 Tryz.underlying9 rfl rfl rfl hM_o1 (by rfl) ?_
  rintro w_o3 hn_o3 hg_o3
  have hz_o3 := hg_o3.size
  have hb := below_blk hb hg_o3 hb.size (by omega)
  have hM_o1 := hn_o3
  refine Wl.insert Tryz.underlying141 Tryz.underlying9 rfl rfl rfl hM_o1 (by rfl) ?_
  rintro w_o4 hn_o4 hg_o4
  have hz_o4 := hg_o4.size
  have hb := below_blk hb hg_o4 hb.size (by omega)
  have hM_o1 := hn_o4
  refine Wl.insert Tryz.underlying141 Tryz.underlying9 rfl rfl rfl hM_o1 (by rfl) ?_
  rintro w_o5 hn_o5 hg_o5
  have hz_o5 := hg_o5.size
  have hb := below_blk hb hg_o5 hb.size (by omega)
  have hM_o1 := hn_o5
  refine Wl.insert Tryz.underlying141 Tryz.underlying9 rfl rfl rfl hM_o1 (by rfl) ?_
  rintro w_o6 hn_o6 hg_o6
  have hz_o6 := hg_o6.size
  have hb := below_blk hb hg_o6 hb.size (by omega)
  have hM_o1 := hn_o6
  refine Wl.insert Tryz.underlying141 Tryz.underlying9 rfl rfl rfl hM_o1 (by rfl) ?_
  rintro w_o7 hn_o7 hg_o7
  have hz_o7 := hg_o7.size
  have hb := below_blk hb hg_o7 hb.size (by omega)
  have hM_o1 := hn_o7
  refine Wl.mv rfl rfl <| Wl.sg rfl rfl <| Wl.nil <| Wq.next hK_3 <| Wc.ret ?_
  refine ret1 rfl rfl ?_
  exact ⟨_, rfl, ⟨_, rfl, hg_o1, hM_o1⟩, hb⟩
theorem look_none (op : List UInt8) : (mlook testsKV op).isSome = !(holdsV op 0).isNone := by
  unfold mlook testsKV holdsV
  simp only [List.find?_cons]
  repeat' split
  all_goals simp_all
theorem txt_t1 : Txt Tryz.prog 157 := ⟨_, Tryz.func157, by kernel_rfl, rfl⟩
theorem txt_t2 : Txt Tryz.prog 158 := ⟨_, Tryz.func158, by kernel_rfl, rfl⟩
theorem txt_t3 : Txt Tryz.prog 159 := ⟨_, Tryz.func159, by kernel_rfl, rfl⟩
theorem txt_t4 : Txt Tryz.prog 160 := ⟨_, Tryz.func160, by kernel_rfl, rfl⟩
theorem txt_t5 : Txt Tryz.prog 161 := ⟨_, Tryz.func161, by kernel_rfl, rfl⟩
theorem txt_t6 : Txt Tryz.prog 162 := ⟨_, Tryz.func162, by kernel_rfl, rfl⟩
theorem look_fn (op : List UInt8) (h : (mlook testsKV op).isSome = true) : ∃ f, (mlook testsKV op).getD .nilFunc = .func (.func f) #[] #[] ∧ Txt Tryz.prog f ∧ ∀ c w, Ret Tryz.prog f [.int .i64 c] w fun v w' => v = .bool ((holdsV op c).getD false) ∧ w' = w := by
  by_cases h1 : op = [61]
  · subst h1; exact ⟨_, rfl, txt_t1, tests1_r⟩
  by_cases h2 : op = [60, 62]
  · subst h2; exact ⟨_, rfl, txt_t2, tests2_r⟩
  by_cases h3 : op = [60]
  · subst h3; exact ⟨_, rfl, txt_t3, tests3_r⟩
  by_cases h4 : op = [60, 61]
  · subst h4; exact ⟨_, rfl, txt_t4, tests4_r⟩
  by_cases h5 : op = [62]
  · subst h5; exact ⟨_, rfl, txt_t5, tests5_r⟩
  by_cases h6 : op = [62, 61]
  · subst h6; exact ⟨_, rfl, txt_t6, tests6_r⟩
  exfalso
  rw [look_none] at h
  unfold holdsV at h
  rw [if_neg h1, if_neg h2, if_neg h3, if_neg h4, if_neg h5, if_neg h6] at h
  cases h
theorem beq_dec (x y : List UInt8) : (x == y) = decide (x = y) := by rw [Bool.eq_iff_iff]; simp
theorem Test_r (op : List UInt8) (a b : Val) (oa : a.Ok) (ob : b.Ok) (w : World) : Ret Tryz.prog 38 [str op, a.enc, b.enc] w fun v w' => v = .tuple #[(testV op a b).1.enc, .int .i64 (testV op a b).2] ∧ Below w.heap.size w w' := by
  have hN : (holdsV op 0).isNone = !(mlook testsKV op).isSome := by rw [look_none, Bool.not_not]
  have hb := Below.refl w.heap.size w
  refine enter Tryz.func38 rfl rfl rfl ?_
  refine Wc.seq fun _ hK_1 => Wc.region ?_
  refine Wl.boxN rfl rfl ?_
  rintro g_o0 w_o0 hg_o0 hn_o0 hs_o0
  have hz_o0 := hs_o0.size
  have hb := hb.trans (hs_o0.mono hb.size)
  have hB_o0 := hn_o0
  have hl_o0 := hB_o0.lt
  refine Wl.boxN rfl rfl ?_
  rintro g_o1 w_o1 hg_o1 hn_o1 hs_o1
  have hz_o1 := hs_o1.size
  have hb := hb.trans (hs_o1.mono hb.size)
  try have hB_o0 := Blk.below hB_o0 hs_o1
  have hB_o1 := hn_o1
  have hl_o1 := hB_o1.lt
  refine Wl.allocN (z := (.agg #[(.int .i64 0), (.int .i64 0), (.float .f64 0), (str [])])) (by kernel_rfl) rfl ?_
  rintro g_o2 w_o2 hg_o2 hn_o2 hs_o2
  have hz_o2 := hs_o2.size
  have hb := hb.trans (hs_o2.mono hb.size)
  try have hB_o0 := Blk.below hB_o0 hs_o2
  try have hB_o1 := Blk.below hB_o1 hs_o2
  have hB_o2 := hn_o2
  have hl_o2 := hB_o2.lt
  refine Wl.sg rfl rfl <| Wl.nil <| Wq.next hK_1 <| Wc.seq fun _ hK_6 => Wc.region ?_
  refine Wl.call txt85ValB rfl rfl (tests_r _) rfl ?_
  rintro _ w_k0 ⟨⟨g, rfl, hgm, hM⟩, hs_k0⟩
  have hz_k0 := hs_k0.size
  have hb := hb.trans (hs_k0.mono hb.size)
  try have hB_o0 := Blk.below hB_o0 hs_k0
  try have hB_o1 := Blk.below hB_o1 hs_k0
  try have hB_o2 := Blk.below hB_o2 hs_k0
  refine Wl.mv rfl rfl ?_
  refine Wl.l (l_lookup (z := .nilFunc) Tryz.underlying141 Tryz.underlying9 (by kernel_rfl) rfl rfl (by exact hM)) rfl ?_
  refine Wl.mv rfl rfl <| Wl.y (y_extract rfl rfl) rfl <| Wl.y (y_extract rfl rfl) rfl <| Wl.sg rfl rfl <| Wl.sg rfl rfl <| Wl.nil <| Wq.next hK_6 <| Wc.seq fun _ hK_15 => Wc.block <| Wc.seq fun _ hK_16 => ?_
  refine Wc.region <| Wl.mv rfl rfl <| Wl.y (y_not rfl) rfl <| Wl.mv rfl rfl ?_
  refine Wl.guardF rfl rfl rfl (fun g_20 => ?_) (fun g_20 => ?_)
  ·
   have g_20_ := g_20
   refine Wl.off' rfl rfl g_20_ rfl rfl <| Wl.off' rfl rfl g_20_ rfl rfl ?_
   refine Wl.y (y_pickT rfl g_20_ rfl) rfl ?_
   refine Wl.mv rfl rfl <| Wl.off' rfl rfl rfl rfl rfl <| Wl.off' rfl rfl rfl rfl rfl <| Wl.off' rfl rfl rfl rfl rfl <| Wl.y (y_pickT rfl rfl rfl) rfl <| Wl.sg rfl rfl <| Wl.nil <| Wq.next hK_16 ?_
   refine Wc.condT rfl rfl ?_
   refine Wc.seq fun _ hK_25 => Wc.region ?_
   refine Wl.y (y_buildS (z := [(.int .i64 0), (.int .i64 0), (.float .f64 0), (str [])]) (pl := [(0, 1), (1, 1), (2, 1), (3, 1)]) (cs := [_, _, _, _]) Tryz.underlying28 (by kernel_rfl) (by kernel_rfl) rfl rfl rfl) rfl ?_
   refine Wl.storeS (by kernel_rfl) rfl rfl hB_o2 rfl rfl ?_
   rintro w_s0 hn_s0 hg_s0
   have hz_s0 := hg_s0.size
   have hb := below_blk hb hg_s0 hb.size (by omega)
   try have hM := hM.over hg_s0 (by omega)
   have hB_o2 := hn_s0
   refine Wl.sg rfl rfl <| Wl.nil <| Wq.next hK_25 <| Wc.ret ?_
   refine Wq.block_ret (Wq.then_ret ?_)
   refine retN (rs := [.cell 6 28, .tmp 7]) (vs := [_, _]) rfl (.cell rfl (loadS Tryz.underlying28 (by kernel_rfl) (fun j u hu => hB_o2.at hu)) (.tmp rfl .nil)) ?_
   first | exact ⟨_, rfl, by unfold testV; rw [hN]; clear hN; simp_all <;> first | rfl | (rw [beq_dec]; rfl), hb⟩
  have g_20_ := g_20
  refine Wl.l (l_loadS Tryz.underlying28 (by kernel_rfl) rfl (by first | exact fun j u hu => hB_o0.at hu | exact fun j u hu => hB_o1.at hu | exact fun j u hu => hB_o2.at hu | assumption)) rfl ?_
  refine Wl.on' rfl rfl g_20_ ?_
  refine Wl.call txt43ValB rfl rfl (Right_r a oa _) rfl ?_
  rintro _ w_k1 ⟨rfl, hs_k1⟩
  have hz_k1 := hs_k1.size
  have hb := hb.trans (hs_k1.mono hb.size)
  try have hB_o0 := Blk.below hB_o0 hs_k1
  try have hB_o1 := Blk.below hB_o1 hs_k1
  try have hB_o2 := Blk.below hB_o2 hs_k1
  try have hM := Mp.below hM hs_k1
  refine Wl.on' rfl rfl g_20_ <| Wl.y (y_not rfl) rfl ?_
  refine Wl.y (y_pickF rfl g_20_ rfl) rfl ?_
  refine Wl.mv rfl rfl ?_
  refine Wl.guardF rfl rfl rfl (fun g_33 => ?_) (fun g_33 => ?_)
  ·
   have g_33_ := g_33
   refine Wl.off' rfl rfl g_33_ rfl rfl <| Wl.off' rfl rfl g_33_ rfl rfl ?_
   refine Wl.y (y_pickT rfl g_33_ rfl) rfl ?_
   refine Wl.sg rfl rfl <| Wl.nil <| Wq.next hK_16 ?_
   refine Wc.condT rfl rfl ?_
   refine Wc.seq fun _ hK_36 => Wc.region ?_
   refine Wl.y (y_buildS (z := [(.int .i64 0), (.int .i64 0), (.float .f64 0), (str [])]) (pl := [(0, 1), (1, 1), (2, 1), (3, 1)]) (cs := [_, _, _, _]) Tryz.underlying28 (by kernel_rfl) (by kernel_rfl) rfl rfl rfl) rfl ?_
   refine Wl.storeS (by kernel_rfl) rfl rfl hB_o2 rfl rfl ?_
   rintro w_s0 hn_s0 hg_s0
   have hz_s0 := hg_s0.size
   have hb := below_blk hb hg_s0 hb.size (by omega)
   try have hM := hM.over hg_s0 (by omega)
   have hB_o2 := hn_s0
   refine Wl.sg rfl rfl <| Wl.nil <| Wq.next hK_36 <| Wc.ret ?_
   refine Wq.block_ret (Wq.then_ret ?_)
   refine retN (rs := [.cell 6 28, .tmp 7]) (vs := [_, _]) rfl (.cell rfl (loadS Tryz.underlying28 (by kernel_rfl) (fun j u hu => hB_o2.at hu)) (.tmp rfl .nil)) ?_
   first | exact ⟨_, rfl, by unfold testV; rw [hN]; clear hN; simp_all <;> first | rfl | (rw [beq_dec]; rfl), hb⟩
  have g_33_ := g_33
  refine Wl.l (l_loadS Tryz.underlying28 (by kernel_rfl) rfl (by first | exact fun j u hu => hB_o0.at hu | exact fun j u hu => hB_o1.at hu | exact fun j u hu => hB_o2.at hu | assumption)) rfl ?_
  refine Wl.on' rfl rfl g_33_ ?_
  refine Wl.call txt43ValB rfl rfl (Right_r b ob _) rfl ?_
  rintro _ w_k2 ⟨rfl, hs_k2⟩
  have hz_k2 := hs_k2.size
  have hb := hb.trans (hs_k2.mono hb.size)
  try have hB_o0 := Blk.below hB_o0 hs_k2
  try have hB_o1 := Blk.below hB_o1 hs_k2
  try have hB_o2 := Blk.below hB_o2 hs_k2
  try have hM := Mp.below hM hs_k2
  refine Wl.on' rfl rfl g_33_ <| Wl.y (y_not rfl) rfl ?_
  refine Wl.y (y_pickF rfl g_33_ rfl) rfl ?_
  refine Wl.sg rfl rfl <| Wl.nil <| Wq.next hK_16 ?_
  refine Wc.cond rfl (fun c0_44 => ?_) (fun c0_44 => ?_)
  ·
   refine Wc.seq fun _ hK_45 => Wc.region ?_
   refine Wl.y (y_buildS (z := [(.int .i64 0), (.int .i64 0), (.float .f64 0), (str [])]) (pl := [(0, 1), (1, 1), (2, 1), (3, 1)]) (cs := [_, _, _, _]) Tryz.underlying28 (by kernel_rfl) (by kernel_rfl) rfl rfl rfl) rfl ?_
   refine Wl.storeS (by kernel_rfl) rfl rfl hB_o2 rfl rfl ?_
   rintro w_s0 hn_s0 hg_s0
   have hz_s0 := hg_s0.size
   have hb := below_blk hb hg_s0 hb.size (by omega)
   try have hM := hM.over hg_s0 (by omega)
   have hB_o2 := hn_s0
   refine Wl.sg rfl rfl <| Wl.nil <| Wq.next hK_45 <| Wc.ret ?_
   refine Wq.block_ret (Wq.then_ret ?_)
   refine retN (rs := [.cell 6 28, .tmp 7]) (vs := [_, _]) rfl (.cell rfl (loadS Tryz.underlying28 (by kernel_rfl) (fun j u hu => hB_o2.at hu)) (.tmp rfl .nil)) ?_
   first | exact ⟨_, rfl, by unfold testV; rw [hN]; clear hN; simp_all <;> first | rfl | (rw [beq_dec]; rfl), hb⟩
  refine Wc.seq fun _ hK_48 => Wc.region ?_
  refine Wl.y (y_fieldAddr (fa28_0ValB _) rfl) rfl ?_
  refine Wl.l (l_load one3ValB rfl (by first | exact hB_o0.at rfl | exact hB_o1.at rfl | exact hB_o2.at rfl | exact hB_o0.cell 0 | exact hB_o1.cell 0 | exact hB_o2.cell 0 | assumption)) rfl ?_
  refine Wl.y (y_eqli rfl rfl) rfl <| Wl.mv rfl rfl ?_
  refine Wl.guardF rfl rfl rfl (fun g_53 => ?_) (fun g_53 => ?_)
  ·
   have g_53_ := g_53
   refine Wl.off' rfl rfl g_53_ rfl rfl <| Wl.off' rfl rfl g_53_ rfl rfl ?_
   refine Wl.y (y_pickT rfl g_53_ rfl) rfl ?_
   refine Wl.sg rfl rfl <| Wl.nil <| Wq.next hK_48 ?_
   refine Wc.condT rfl rfl ?_
   refine Wc.seq fun _ hK_56 => Wc.region ?_
   refine Wl.y (y_buildS (z := [(.int .i64 0), (.int .i64 0), (.float .f64 0), (str [])]) (pl := [(0, 1), (1, 1), (2, 1), (3, 1)]) (cs := [_, _, _, _]) Tryz.underlying28 (by kernel_rfl) (by kernel_rfl) rfl rfl rfl) rfl ?_
   refine Wl.storeS (by kernel_rfl) rfl rfl hB_o2 rfl rfl ?_
   rintro w_s1 hn_s1 hg_s1
   have hz_s1 := hg_s1.size
   have hb := below_blk hb hg_s1 hb.size (by omega)
   try have hM := hM.over hg_s1 (by omega)
   have hB_o2 := hn_s1
   refine Wl.sg rfl rfl <| Wl.nil <| Wq.next hK_56 <| Wc.ret ?_
   refine Wq.block_ret (Wq.then_ret ?_)
   refine retN (rs := [.cell 6 28, .tmp 7]) (vs := [_, _]) rfl (.cell rfl (loadS Tryz.underlying28 (by kernel_rfl) (fun j u hu => hB_o2.at hu)) (.tmp rfl .nil)) ?_
   first | exact ⟨_, rfl, by unfold testV; rw [hN]; clear hN; simp_all <;> first | rfl | (rw [beq_dec]; rfl), hb⟩
  have g_53_ := g_53
  refine Wl.y (y_fieldAddr (fa28_0ValB _) rfl) rfl ?_
  refine Wl.on' rfl rfl g_53_ ?_
  refine Wl.l (l_load one3ValB rfl (by first | exact hB_o0.at rfl | exact hB_o1.at rfl | exact hB_o2.at rfl | exact hB_o0.cell 0 | exact hB_o1.cell 0 | exact hB_o2.cell 0 | assumption)) rfl ?_
  refine Wl.on' rfl rfl g_53_ <| Wl.y (y_eqli rfl rfl) rfl ?_
  refine Wl.y (y_pickF rfl g_53_ rfl) rfl ?_
  refine Wl.sg rfl rfl <| Wl.nil <| Wq.next hK_48 ?_
  refine Wc.cond rfl (fun c1_64 => ?_) (fun c1_64 => ?_)
  ·
   refine Wc.seq fun _ hK_65 => Wc.region ?_
   refine Wl.y (y_buildS (z := [(.int .i64 0), (.int .i64 0), (.float .f64 0), (str [])]) (pl := [(0, 1), (1, 1), (2, 1), (3, 1)]) (cs := [_, _, _, _]) Tryz.underlying28 (by kernel_rfl) (by kernel_rfl) rfl rfl rfl) rfl ?_
   refine Wl.storeS (by kernel_rfl) rfl rfl hB_o2 rfl rfl ?_
   rintro w_s1 hn_s1 hg_s1
   have hz_s1 := hg_s1.size
   have hb := below_blk hb hg_s1 hb.size (by omega)
   try have hM := hM.over hg_s1 (by omega)
   have hB_o2 := hn_s1
   refine Wl.sg rfl rfl <| Wl.nil <| Wq.next hK_65 <| Wc.ret ?_
   refine Wq.block_ret (Wq.then_ret ?_)
   refine retN (rs := [.cell 6 28, .tmp 7]) (vs := [_, _]) rfl (.cell rfl (loadS Tryz.underlying28 (by kernel_rfl) (fun j u hu => hB_o2.at hu)) (.tmp rfl .nil)) ?_
   first | exact ⟨_, rfl, by unfold testV; rw [hN]; clear hN; simp_all <;> first | rfl | (rw [beq_dec]; rfl), hb⟩
  refine Wc.seq fun _ hK_68 => Wc.region ?_
  refine Wl.y (y_fieldAddr (fa28_0ValB _) rfl) rfl ?_
  refine Wl.l (l_load one3ValB rfl (by first | exact hB_o0.at rfl | exact hB_o1.at rfl | exact hB_o2.at rfl | exact hB_o0.cell 0 | exact hB_o1.cell 0 | exact hB_o2.cell 0 | assumption)) rfl ?_
  refine Wl.y (y_fieldAddr (fa28_0ValB _) rfl) rfl ?_
  refine Wl.l (l_load one3ValB rfl (by first | exact hB_o0.at rfl | exact hB_o1.at rfl | exact hB_o2.at rfl | exact hB_o0.cell 0 | exact hB_o1.cell 0 | exact hB_o2.cell 0 | assumption)) rfl ?_
  refine Wl.y (y_neqi rfl rfl) rfl <| Wl.mv rfl rfl ?_
  refine Wl.guardT rfl rfl rfl (fun g_75 => ?_) (fun g_75 => ?_)
  ·
   have g_75_ := g_75
   refine Wl.l (l_loadS Tryz.underlying28 (by kernel_rfl) rfl (by first | exact fun j u hu => hB_o0.at hu | exact fun j u hu => hB_o1.at hu | exact fun j u hu => hB_o2.at hu | assumption)) rfl ?_
   refine Wl.on' rfl rfl g_75_ ?_
   refine Wl.call txt86ValB rfl rfl (number_r a _) rfl ?_
   rintro _ w_k3 ⟨rfl, hs_k3⟩
   have hz_k3 := hs_k3.size
   have hb := hb.trans (hs_k3.mono hb.size)
   try have hB_o0 := Blk.below hB_o0 hs_k3
   try have hB_o1 := Blk.below hB_o1 hs_k3
   try have hB_o2 := Blk.below hB_o2 hs_k3
   try have hM := Mp.below hM hs_k3
   refine Wl.on' rfl rfl g_75_ <| Wl.y (y_not rfl) rfl <| Wl.on' rfl rfl g_75_ <| Wl.mv rfl rfl ?_
   refine Wl.guardF rfl rfl rfl (fun g_80 => ?_) (fun g_80 => ?_)
   ·
    have g_80_ := g_80
    refine Wl.off' rfl rfl g_80_ rfl rfl <| Wl.off' rfl rfl g_80_ rfl rfl <| Wl.on' rfl rfl g_75_ ?_
    refine Wl.y (y_pickT rfl g_80_ rfl) rfl ?_
    refine Wl.y (y_pickT rfl g_75_ rfl) rfl ?_
    refine Wl.sg rfl rfl <| Wl.nil <| Wq.next hK_68 ?_
    refine Wc.condT rfl rfl ?_
    refine Wc.seq fun _ hK_84 => Wc.region ?_
    refine Wl.y (y_buildS (z := [(.int .i64 0), (.int .i64 0), (.float .f64 0), (str [])]) (pl := [(0, 1), (1, 1), (2, 1), (3, 1)]) (cs := [_, _, _, _]) Tryz.underlying28 (by kernel_rfl) (by kernel_rfl) rfl rfl rfl) rfl ?_
    refine Wl.storeS (by kernel_rfl) rfl rfl hB_o2 rfl rfl ?_
    rintro w_s2 hn_s2 hg_s2
    have hz_s2 := hg_s2.size
    have hb := below_blk hb hg_s2 hb.size (by omega)
    try have hM := hM.over hg_s2 (by omega)
    have hB_o2 := hn_s2
    refine Wl.sg rfl rfl <| Wl.nil <| Wq.next hK_84 <| Wc.ret ?_
    refine Wq.block_ret (Wq.then_ret ?_)
    refine retN (rs := [.cell 6 28, .tmp 7]) (vs := [_, _]) rfl (.cell rfl (loadS Tryz.underlying28 (by kernel_rfl) (fun j u hu => hB_o2.at hu)) (.tmp rfl .nil)) ?_
    first | exact ⟨_, rfl, by unfold testV; rw [hN]; clear hN; simp_all <;> first | rfl | (rw [beq_dec]; rfl), hb⟩
   have g_80_ := g_80
   refine Wl.l (l_loadS Tryz.underlying28 (by kernel_rfl) rfl (by first | exact fun j u hu => hB_o0.at hu | exact fun j u hu => hB_o1.at hu | exact fun j u hu => hB_o2.at hu | assumption)) rfl ?_
   refine Wl.on' rfl rfl g_80_ ?_
   refine Wl.call txt86ValB rfl rfl (number_r b _) rfl ?_
   rintro _ w_k4 ⟨rfl, hs_k4⟩
   have hz_k4 := hs_k4.size
   have hb := hb.trans (hs_k4.mono hb.size)
   try have hB_o0 := Blk.below hB_o0 hs_k4
   try have hB_o1 := Blk.below hB_o1 hs_k4
   try have hB_o2 := Blk.below hB_o2 hs_k4
   try have hM := Mp.below hM hs_k4
   refine Wl.on' rfl rfl g_80_ <| Wl.y (y_not rfl) rfl <| Wl.on' rfl rfl g_75_ ?_
   refine Wl.y (y_pickF rfl g_80_ rfl) rfl ?_
   refine Wl.y (y_pickT rfl g_75_ rfl) rfl ?_
   refine Wl.sg rfl rfl <| Wl.nil <| Wq.next hK_68 ?_
   refine Wc.cond rfl (fun c2_93 => ?_) (fun c2_93 => ?_)
   ·
    refine Wc.seq fun _ hK_94 => Wc.region ?_
    refine Wl.y (y_buildS (z := [(.int .i64 0), (.int .i64 0), (.float .f64 0), (str [])]) (pl := [(0, 1), (1, 1), (2, 1), (3, 1)]) (cs := [_, _, _, _]) Tryz.underlying28 (by kernel_rfl) (by kernel_rfl) rfl rfl rfl) rfl ?_
    refine Wl.storeS (by kernel_rfl) rfl rfl hB_o2 rfl rfl ?_
    rintro w_s2 hn_s2 hg_s2
    have hz_s2 := hg_s2.size
    have hb := below_blk hb hg_s2 hb.size (by omega)
    try have hM := hM.over hg_s2 (by omega)
    have hB_o2 := hn_s2
    refine Wl.sg rfl rfl <| Wl.nil <| Wq.next hK_94 <| Wc.ret ?_
    refine Wq.block_ret (Wq.then_ret ?_)
    refine retN (rs := [.cell 6 28, .tmp 7]) (vs := [_, _]) rfl (.cell rfl (loadS Tryz.underlying28 (by kernel_rfl) (fun j u hu => hB_o2.at hu)) (.tmp rfl .nil)) ?_
    first | exact ⟨_, rfl, by unfold testV; rw [hN]; clear hN; simp_all <;> first | rfl | (rw [beq_dec]; rfl), hb⟩
   refine Wc.skip <| Wq.block_normal <| Wq.next hK_15 <| Wc.seq fun _ hK_97 => Wc.region ?_
   refine Wl.l (l_loadS Tryz.underlying28 (by kernel_rfl) rfl (by first | exact fun j u hu => hB_o0.at hu | exact fun j u hu => hB_o1.at hu | exact fun j u hu => hB_o2.at hu | assumption)) rfl ?_
   refine Wl.l (l_loadS Tryz.underlying28 (by kernel_rfl) rfl (by first | exact fun j u hu => hB_o0.at hu | exact fun j u hu => hB_o1.at hu | exact fun j u hu => hB_o2.at hu | assumption)) rfl ?_
   refine Wl.call txt87ValB rfl rfl (against_r a b oa ob _) rfl ?_
   rintro _ w_k5 ⟨rfl, hs_k5⟩
   have hz_k5 := hs_k5.size
   have hb := hb.trans (hs_k5.mono hb.size)
   try have hB_o2 := Blk.below hB_o2 hs_k5
   try have hM := Mp.below hM hs_k5
   refine Wl.mv rfl rfl <| Wl.y (y_extract rfl rfl) rfl <| Wl.y (y_extract rfl rfl) rfl <| Wl.sg rfl rfl <| Wl.sg rfl rfl <| Wl.nil <| Wq.next hK_97 <| Wc.seq fun _ hK_106 => Wc.seq fun _ hK_107 => Wc.region ?_
   refine Wl.mv rfl rfl <| Wl.y (y_not rfl) rfl <| Wl.nil <| Wq.next hK_107 ?_
   refine Wc.cond rfl (fun c3_110 => ?_) (fun c3_110 => ?_)
   ·
    refine Wc.seq fun _ hK_111 => Wc.region <| Wl.mv rfl rfl <| Wl.y (y_eqls rfl rfl) rfl ?_
    refine Wl.call txt54ValB rfl rfl (truth_r _ _) rfl ?_
    rintro _ w_k6 ⟨rfl, hs_k6⟩
    have hz_k6 := hs_k6.size
    have hb := hb.trans (hs_k6.mono hb.size)
    try have hB_o2 := Blk.below hB_o2 hs_k6
    try have hM := Mp.below hM hs_k6
    refine Wl.storeS (by kernel_rfl) rfl rfl hB_o2 rfl rfl ?_
    rintro w_s3 hn_s3 hg_s3
    have hz_s3 := hg_s3.size
    have hb := below_blk hb hg_s3 hb.size (by omega)
    try have hM := hM.over hg_s3 (by omega)
    have hB_o2 := hn_s3
    refine Wl.sg rfl rfl <| Wl.nil <| Wq.next hK_111 <| Wc.ret <| Wq.then_ret ?_
    refine retN (rs := [.cell 6 28, .tmp 7]) (vs := [_, _]) rfl (.cell rfl (loadS Tryz.underlying28 (by kernel_rfl) (fun j u hu => hB_o2.at hu)) (.tmp rfl .nil)) ?_
    first | exact ⟨_, rfl, by unfold testV; rw [hN]; clear hN; simp_all <;> first | rfl | (rw [beq_dec]; rfl), hb⟩
   refine Wc.skip <| Wq.next hK_106 <| Wc.seq fun _ hK_116 => Wc.region <| Wl.mv rfl rfl <| Wl.mv rfl rfl ?_
   (obtain ⟨f, hfn, htx, hfr⟩ := look_fn op (by simp_all); refine Wl.call htx (congrArg some hfn) rfl (hfr _ _) rfl ?_; rintro _ w_ ⟨rfl, hw_⟩; have hw_ := hw_.symm; subst hw_)
   refine Wl.call txt54ValB rfl rfl (truth_r _ _) rfl ?_
   rintro _ w_k8 ⟨rfl, hs_k8⟩
   have hz_k8 := hs_k8.size
   have hb := hb.trans (hs_k8.mono hb.size)
   try have hB_o2 := Blk.below hB_o2 hs_k8
   try have hM := Mp.below hM hs_k8
   refine Wl.storeS (by kernel_rfl) rfl rfl hB_o2 rfl rfl ?_
   rintro w_s4 hn_s4 hg_s4
   have hz_s4 := hg_s4.size
   have hb := below_blk hb hg_s4 hb.size (by omega)
   try have hM := hM.over hg_s4 (by omega)
   have hB_o2 := hn_s4
   refine Wl.sg rfl rfl <| Wl.nil <| Wq.next hK_116 <| Wc.ret ?_
   refine retN (rs := [.cell 6 28, .tmp 7]) (vs := [_, _]) rfl (.cell rfl (loadS Tryz.underlying28 (by kernel_rfl) (fun j u hu => hB_o2.at hu)) (.tmp rfl .nil)) ?_
   first | exact ⟨_, rfl, by unfold testV; rw [hN]; clear hN; simp_all <;> first | rfl | (rw [beq_dec]; rfl), hb⟩
  have g_75_ := g_75
  refine Wl.off' rfl rfl g_75_ rfl rfl <| Wl.off' rfl rfl g_75_ rfl rfl <| Wl.off' rfl rfl g_75_ rfl rfl <| Wl.offU rfl rfl rfl <| Wl.offU rfl rfl rfl <| Wl.offU rfl rfl rfl <| Wl.off' rfl rfl g_75_ rfl rfl ?_
  refine Wl.y (y_pickF rfl g_75_ rfl) rfl ?_
  refine Wl.sg rfl rfl <| Wl.nil <| Wq.next hK_68 ?_
  refine Wc.condF rfl rfl ?_
  refine Wc.skip <| Wq.block_normal <| Wq.next hK_15 <| Wc.seq fun _ hK_124 => Wc.region ?_
  refine Wl.l (l_loadS Tryz.underlying28 (by kernel_rfl) rfl (by first | exact fun j u hu => hB_o0.at hu | exact fun j u hu => hB_o1.at hu | exact fun j u hu => hB_o2.at hu | assumption)) rfl ?_
  refine Wl.l (l_loadS Tryz.underlying28 (by kernel_rfl) rfl (by first | exact fun j u hu => hB_o0.at hu | exact fun j u hu => hB_o1.at hu | exact fun j u hu => hB_o2.at hu | assumption)) rfl ?_
  refine Wl.call txt87ValB rfl rfl (against_r a b oa ob _) rfl ?_
  rintro _ w_k5 ⟨rfl, hs_k5⟩
  have hz_k5 := hs_k5.size
  have hb := hb.trans (hs_k5.mono hb.size)
  try have hB_o2 := Blk.below hB_o2 hs_k5
  try have hM := Mp.below hM hs_k5
  refine Wl.mv rfl rfl <| Wl.y (y_extract rfl rfl) rfl <| Wl.y (y_extract rfl rfl) rfl <| Wl.sg rfl rfl <| Wl.sg rfl rfl <| Wl.nil <| Wq.next hK_124 <| Wc.seq fun _ hK_133 => Wc.seq fun _ hK_134 => Wc.region ?_
  refine Wl.mv rfl rfl <| Wl.y (y_not rfl) rfl <| Wl.nil <| Wq.next hK_134 ?_
  refine Wc.cond rfl (fun c3_137 => ?_) (fun c3_137 => ?_)
  ·
   refine Wc.seq fun _ hK_138 => Wc.region <| Wl.mv rfl rfl <| Wl.y (y_eqls rfl rfl) rfl ?_
   refine Wl.call txt54ValB rfl rfl (truth_r _ _) rfl ?_
   rintro _ w_k6 ⟨rfl, hs_k6⟩
   have hz_k6 := hs_k6.size
   have hb := hb.trans (hs_k6.mono hb.size)
   try have hB_o2 := Blk.below hB_o2 hs_k6
   try have hM := Mp.below hM hs_k6
   refine Wl.storeS (by kernel_rfl) rfl rfl hB_o2 rfl rfl ?_
   rintro w_s3 hn_s3 hg_s3
   have hz_s3 := hg_s3.size
   have hb := below_blk hb hg_s3 hb.size (by omega)
   try have hM := hM.over hg_s3 (by omega)
   have hB_o2 := hn_s3
   refine Wl.sg rfl rfl <| Wl.nil <| Wq.next hK_138 <| Wc.ret <| Wq.then_ret ?_
   refine retN (rs := [.cell 6 28, .tmp 7]) (vs := [_, _]) rfl (.cell rfl (loadS Tryz.underlying28 (by kernel_rfl) (fun j u hu => hB_o2.at hu)) (.tmp rfl .nil)) ?_
   first | exact ⟨_, rfl, by unfold testV; rw [hN]; clear hN; simp_all <;> first | rfl | (rw [beq_dec]; rfl), hb⟩
  refine Wc.skip <| Wq.next hK_133 <| Wc.seq fun _ hK_143 => Wc.region <| Wl.mv rfl rfl <| Wl.mv rfl rfl ?_
  (obtain ⟨f, hfn, htx, hfr⟩ := look_fn op (by simp_all); refine Wl.call htx (congrArg some hfn) rfl (hfr _ _) rfl ?_; rintro _ w_ ⟨rfl, hw_⟩; have hw_ := hw_.symm; subst hw_)
  refine Wl.call txt54ValB rfl rfl (truth_r _ _) rfl ?_
  rintro _ w_k8 ⟨rfl, hs_k8⟩
  have hz_k8 := hs_k8.size
  have hb := hb.trans (hs_k8.mono hb.size)
  try have hB_o2 := Blk.below hB_o2 hs_k8
  try have hM := Mp.below hM hs_k8
  refine Wl.storeS (by kernel_rfl) rfl rfl hB_o2 rfl rfl ?_
  rintro w_s4 hn_s4 hg_s4
  have hz_s4 := hg_s4.size
  have hb := below_blk hb hg_s4 hb.size (by omega)
  try have hM := hM.over hg_s4 (by omega)
  have hB_o2 := hn_s4
  refine Wl.sg rfl rfl <| Wl.nil <| Wq.next hK_143 <| Wc.ret ?_
  refine retN (rs := [.cell 6 28, .tmp 7]) (vs := [_, _]) rfl (.cell rfl (loadS Tryz.underlying28 (by kernel_rfl) (fun j u hu => hB_o2.at hu)) (.tmp rfl .nil)) ?_
  first | exact ⟨_, rfl, by unfold testV; rw [hN]; clear hN; simp_all <;> first | rfl | (rw [beq_dec]; rfl), hb⟩
end Go.Proofs.YtccgjfcaomngjaaGreatDoor
namespace Go.Proofs.YtccgjfcaomngjaaGreatDoor
open Go.RowKit Go.Bw Go.Bw.Fl
set_option linter.unusedVariables false
set_option linter.unusedSimpArgs false
theorem fa28_0ValC (p : Addr) (w : World) : (Instr.fieldAt 28 (.pointer (some p)) 0).run Tryz.prog w = .ok (.pointer (some (p.add 0))) w := run_fieldAt (i := 0) (sz := 0) Tryz.underlying28 rfl (by kernel_rfl) p w
theorem fa28_1ValC (p : Addr) (w : World) : (Instr.fieldAt 28 (.pointer (some p)) 1).run Tryz.prog w = .ok (.pointer (some (p.add 1))) w := run_fieldAt (i := 1) (sz := 0) Tryz.underlying28 rfl (by kernel_rfl) p w
theorem fa28_2ValC (p : Addr) (w : World) : (Instr.fieldAt 28 (.pointer (some p)) 2).run Tryz.prog w = .ok (.pointer (some (p.add 2))) w := run_fieldAt (i := 2) (sz := 0) Tryz.underlying28 rfl (by kernel_rfl) p w
theorem one2ValC : One Tryz.prog 2 := ⟨_, Tryz.underlying2, rfl, by kernel_rfl⟩
theorem one26ValC : One Tryz.prog 26 := ⟨_, Tryz.underlying26, rfl, by kernel_rfl⟩
theorem one3ValC : One Tryz.prog 3 := ⟨_, Tryz.underlying3, rfl, by kernel_rfl⟩
theorem txt167ValC : Txt Tryz.prog 167 := ⟨_, Tryz.func167, by kernel_rfl, rfl⟩   -- math/bits.Mul64
theorem txt43ValC : Txt Tryz.prog 43 := ⟨_, Tryz.func43, by kernel_rfl, rfl⟩   -- bridleway/value.Right
theorem txt86ValC : Txt Tryz.prog 86 := ⟨_, Tryz.func86, by kernel_rfl, rfl⟩   -- bridleway/value.number
theorem txt88ValC : Txt Tryz.prog 88 := ⟨_, Tryz.func88, by kernel_rfl, rfl⟩   -- bridleway/value.whole
theorem txt89ValC : Txt Tryz.prog 89 := ⟨_, Tryz.func89, by kernel_rfl, rfl⟩   -- bridleway/value.float
theorem txt90ValC : Txt Tryz.prog 90 := ⟨_, Tryz.func90, by kernel_rfl, rfl⟩   -- bridleway/value.wide
theorem txt91ValC : Txt Tryz.prog 91 := ⟨_, Tryz.func91, by kernel_rfl, rfl⟩   -- bridleway/num.Canon
/-! ### signs of bits -/
theorem msb_int {x : Int} (h0 : -9223372036854775808 ≤ x) (h1 : x ≤ 9223372036854775807) : (BitVec.ofInt 64 x).msb = decide (x < 0) := by
  rw [BitVec.msb_eq_decide, BitVec.toNat_ofInt]
  apply decide_eq_decide.2
  have : ((2 ^ 64 : Nat) : Int) = 18446744073709551616 := by decide
  rw [this, show (2 ^ (64 - 1) : Nat) = 9223372036854775808 by decide]; omega
theorem wrap_neg (v : BitVec 64) : IntKind.i64.wrap (v.toNat : Int) < 0 ↔ v.msb = true := by
  rw [BitVec.msb_eq_decide, decide_eq_true_eq, IntKind.wrap_i64, show (2 ^ (64 - 1) : Nat) = 9223372036854775808 by decide]
  have := v.isLt
  omega
theorem wrap_rng (n : Int) : -9223372036854775808 ≤ IntKind.i64.wrap n ∧ IntKind.i64.wrap n ≤ 9223372036854775807 := by rw [IntKind.wrap_i64]; omega
theorem xor_rng (x y : Int) : -9223372036854775808 ≤ bits .xor .i64 x y ∧ bits .xor .i64 x y ≤ 9223372036854775807 := wrap_rng _
theorem xor_neg {x y : Int} (hx : -9223372036854775808 ≤ x ∧ x ≤ 9223372036854775807) (hy : -9223372036854775808 ≤ y ∧ y ≤ 9223372036854775807) : bits .xor .i64 x y < 0 ↔ ¬ (x < 0 ↔ y < 0) := by
  show IntKind.i64.wrap ((BitVec.ofInt 64 x ^^^ BitVec.ofInt 64 y).toNat : Int) < 0 ↔ _
  rw [wrap_neg, BitVec.msb_xor, msb_int hx.1 hx.2, msb_int hy.1 hy.2]
  by_cases h1 : x < 0 <;> by_cases h2 : y < 0 <;> simp [h1, h2]
theorem and_neg {x y : Int} (hx : -9223372036854775808 ≤ x ∧ x ≤ 9223372036854775807) (hy : -9223372036854775808 ≤ y ∧ y ≤ 9223372036854775807) : bits .and .i64 x y < 0 ↔ (x < 0 ∧ y < 0) := by
  show IntKind.i64.wrap ((BitVec.ofInt 64 x &&& BitVec.ofInt 64 y).toNat : Int) < 0 ↔ _
  rw [wrap_neg, BitVec.msb_and, msb_int hx.1 hx.2, msb_int hy.1 hy.2]
  by_cases h1 : x < 0 <;> by_cases h2 : y < 0 <;> simp [h1, h2]
theorem sum_ok {a b : Int} (ra : -9223372036854775808 ≤ a ∧ a ≤ 9223372036854775807) (rb : -9223372036854775808 ≤ b ∧ b ≤ 9223372036854775807) :
    decide (0 ≤ bits .and .i64 (bits .xor .i64 a (IntKind.i64.wrap (a + b))) (bits .xor .i64 b (IntKind.i64.wrap (a + b)))) = fitsI (a + b) := by
  have rs := wrap_rng (a + b)
  have h1 := and_neg (xor_rng a (IntKind.i64.wrap (a + b))) (xor_rng b (IntKind.i64.wrap (a + b)))
  rw [xor_neg ra rs, xor_neg rb rs, IntKind.wrap_i64] at h1
  unfold fitsI
  apply decide_eq_decide.2
  rw [IntKind.wrap_i64]; omega
theorem dif_ok {a b : Int} (ra : -9223372036854775808 ≤ a ∧ a ≤ 9223372036854775807) (rb : -9223372036854775808 ≤ b ∧ b ≤ 9223372036854775807) :
    decide (0 ≤ bits .and .i64 (bits .xor .i64 a b) (bits .xor .i64 a (IntKind.i64.wrap (a - b)))) = fitsI (a - b) := by
  have rs := wrap_rng (a - b)
  have h1 := and_neg (xor_rng a b) (xor_rng a (IntKind.i64.wrap (a - b)))
  rw [xor_neg ra rs, xor_neg ra rb, IntKind.wrap_i64] at h1
  unfold fitsI
  apply decide_eq_decide.2
  rw [IntKind.wrap_i64]; omega
theorem abs64 {a : Int} (ra : -9223372036854775808 ≤ a ∧ a ≤ 9223372036854775807) : IntKind.u64.wrap (max a (IntKind.i64.wrap (0 - a))) = (a.natAbs : Int) := by
  rw [IntKind.wrap_i64, IntKind.wrap_u64]; omega
theorem mul_unlike {a b : Int} (h : ((decide (a < 0)) != (decide (b < 0))) = true) : a * b = -((a.natAbs * b.natAbs : Nat) : Int) := by
  rw [Int.natCast_mul]
  by_cases h1 : a < 0 <;> by_cases h2 : b < 0 <;> simp [h1, h2] at h
  · rw [show (a.natAbs : Int) = -a by omega, show (b.natAbs : Int) = b by omega, Int.neg_mul, Int.neg_neg]
  · rw [show (a.natAbs : Int) = a by omega, show (b.natAbs : Int) = -b by omega, Int.mul_neg, Int.neg_neg]
theorem mul_like {a b : Int} (h : ((decide (a < 0)) != (decide (b < 0))) = false) : a * b = ((a.natAbs * b.natAbs : Nat) : Int) := by
  rw [Int.natCast_mul]
  by_cases h1 : a < 0 <;> by_cases h2 : b < 0 <;> simp [h1, h2] at h
  · rw [show (a.natAbs : Int) = -a by omega, show (b.natAbs : Int) = -b by omega, Int.neg_mul_neg]
  · rw [show (a.natAbs : Int) = a by omega, show (b.natAbs : Int) = b by omega]
theorem mul_ok1 {x : Int} {p : Nat} (h : x = -(p : Int)) (hp : ((p / 18446744073709551616 : Nat) : Int) = 0) : decide (((p % 18446744073709551616 : Nat) : Int) ≤ 9223372036854775808) = fitsI x ∧ (fitsI x = true → IntKind.i64.wrap (0 - IntKind.i64.wrap ((p % 18446744073709551616 : Nat) : Int)) = x) := by
  unfold fitsI
  refine ⟨decide_eq_decide.2 (by omega), fun hf => ?_⟩
  rw [decide_eq_true_eq] at hf
  rw [IntKind.wrap_i64, IntKind.wrap_i64]; omega
theorem mul_ok2 {x : Int} {p : Nat} (h : x = (p : Int)) (hp : ((p / 18446744073709551616 : Nat) : Int) = 0) : decide (((p % 18446744073709551616 : Nat) : Int) < 9223372036854775808) = fitsI x ∧ (fitsI x = true → IntKind.i64.wrap ((p % 18446744073709551616 : Nat) : Int) = x) := by
  unfold fitsI
  refine ⟨decide_eq_decide.2 (by omega), fun hf => ?_⟩
  rw [decide_eq_true_eq] at hf
  rw [IntKind.wrap_i64]; omega
theorem mul_no {x : Int} {p : Nat} (h : x = (p : Int) ∨ x = -(p : Int)) (hp : ¬ ((p / 18446744073709551616 : Nat) : Int) = 0) : fitsI x = false := by
  unfold fitsI; rw [decide_eq_false_iff_not]; omega
theorem whole_r (op : List UInt8) (a b : Int) (ra : -9223372036854775808 ≤ a ∧ a ≤ 9223372036854775807) (rb : -9223372036854775808 ≤ b ∧ b ≤ 9223372036854775807) (w : World) : Ret Tryz.prog 88 [str op, .int .i64 a, .int .i64 b] w fun v w' => (∃ n t, v = .tuple #[.int .i64 n, .bool t] ∧ t = fitsI (exactV op a b) ∧ (fitsI (exactV op a b) = true → n = exactV op a b)) ∧ w' = w := by
  refine enter Tryz.func88 rfl rfl rfl ?_
  refine Wc.seq fun _ hK_1 => Wc.region <| Wl.sg rfl rfl <| Wl.sg rfl rfl <| Wl.nil <| Wq.next hK_1 <| Wc.seq fun _ hK_4 => Wc.seq fun _ hK_5 => Wc.region <| Wl.mv rfl rfl ?_
  refine Wl.nil <| Wq.next hK_5 <| Wc.block <| Wc.seq fun _ hK_7 => Wc.region <| Wl.y (y_eqls rfl rfl) rfl <| Wl.sg rfl rfl <| Wl.nil <| Wq.next hK_7 ?_
  refine Wc.cond rfl (fun c0_10 => ?_) (fun c0_10 => ?_)
  ·
   have c0_10_ := c0_10
   try simp only [DZ] at c0_10
   have hx : exactV op a b = a + b := by unfold exactV; rw [if_pos c0_10]
   refine Wc.seq fun _ hK_11 => Wc.region <| Wl.mv rfl rfl <| Wl.mv rfl rfl <| Wl.y (y_add rfl rfl) rfl <| Wl.mv rfl rfl <| Wl.mv rfl rfl <| Wl.mv rfl rfl <| Wl.y (y_add rfl rfl) rfl <| Wl.y (y_xor rfl rfl) rfl ?_
   refine Wl.mv rfl rfl <| Wl.mv rfl rfl <| Wl.mv rfl rfl <| Wl.y (y_add rfl rfl) rfl <| Wl.y (y_xor rfl rfl) rfl <| Wl.y (y_and rfl rfl) rfl <| Wl.y (y_geqi rfl rfl) rfl <| Wl.sg rfl rfl <| Wl.sg rfl rfl <| Wl.nil ?_
   refine Wq.next hK_11 <| Wc.ret ?_
   refine Wq.block_ret (Wq.then_ret ?_)
   refine ret2 rfl rfl rfl ?_
   exact ⟨_, rfl, ⟨_, _, rfl, by rw [hx]; exact sum_ok ra rb, fun h => by rw [hx] at h ⊢; unfold fitsI at h; rw [decide_eq_true_eq] at h; exact wrap_i64 _ h.1 h.2⟩, rfl⟩
  have c0_10_ := c0_10
  try simp only [DZ] at c0_10
  refine Wc.seq fun _ hK_29 => Wc.region <| Wl.y (y_eqls rfl rfl) rfl <| Wl.sg rfl rfl <| Wl.nil <| Wq.next hK_29 ?_
  refine Wc.cond rfl (fun c1_32 => ?_) (fun c1_32 => ?_)
  ·
   have c1_32_ := c1_32
   try simp only [DZ] at c1_32
   have hx : exactV op a b = a - b := by unfold exactV; rw [if_neg c0_10, if_pos c1_32]
   refine Wc.seq fun _ hK_33 => Wc.region <| Wl.mv rfl rfl <| Wl.mv rfl rfl <| Wl.y (y_sub rfl rfl) rfl <| Wl.mv rfl rfl <| Wl.mv rfl rfl <| Wl.y (y_xor rfl rfl) rfl <| Wl.mv rfl rfl <| Wl.mv rfl rfl ?_
   refine Wl.mv rfl rfl <| Wl.y (y_sub rfl rfl) rfl <| Wl.y (y_xor rfl rfl) rfl <| Wl.y (y_and rfl rfl) rfl <| Wl.y (y_geqi rfl rfl) rfl <| Wl.sg rfl rfl <| Wl.sg rfl rfl <| Wl.nil <| Wq.next hK_33 <| Wc.ret ?_
   refine Wq.block_ret (Wq.then_ret ?_)
   refine ret2 rfl rfl rfl ?_
   exact ⟨_, rfl, ⟨_, _, rfl, by rw [hx]; exact dif_ok ra rb, fun h => by rw [hx] at h ⊢; unfold fitsI at h; rw [decide_eq_true_eq] at h; exact wrap_i64 _ h.1 h.2⟩, rfl⟩
  have c1_32_ := c1_32
  try simp only [DZ] at c1_32
  have hx : exactV op a b = a * b := by unfold exactV; rw [if_neg c0_10, if_neg c1_32]
  refine Wc.skip <| Wq.block_normal <| Wq.next hK_4 <| Wc.seq fun _ hK_49 => Wc.region <| Wl.mv rfl rfl <| Wl.mv rfl rfl <| Wl.y (y_negi rfl) rfl <| Wl.y (y_max rfl rfl) rfl ?_
  refine Wl.y (y_eq (y_convi Tryz.underlying2 Tryz.underlying22 rfl) (int_eq (abs64 ra))) rfl ?_
  refine Wl.mv rfl rfl <| Wl.mv rfl rfl <| Wl.y (y_negi rfl) rfl <| Wl.y (y_max rfl rfl) rfl ?_
  refine Wl.y (y_eq (y_convi Tryz.underlying2 Tryz.underlying22 rfl) (int_eq (abs64 rb))) rfl ?_
  refine Wl.call txt167ValC rfl rfl (Mul64_r _ _ (by omega) (by omega) _) rfl ?_
  rintro _ w_ ⟨rfl, hw_⟩
  have hw_ := hw_.symm; subst hw_
  refine Wl.mv rfl rfl <| Wl.y (y_extract rfl rfl) rfl <| Wl.y (y_extract rfl rfl) rfl <| Wl.sg rfl rfl <| Wl.sg rfl rfl <| Wl.nil <| Wq.next hK_49 <| Wc.seq fun _ hK_66 => Wc.seq fun _ hK_67 => Wc.region ?_
  refine Wl.mv rfl rfl <| Wl.y (y_lssi rfl rfl) rfl <| Wl.mv rfl rfl <| Wl.y (y_lssi rfl rfl) rfl ?_
  refine Wl.y (y_neqb Tryz.underlying4 rfl rfl) rfl ?_
  refine Wl.nil <| Wq.next hK_67 ?_
  refine Wc.cond rfl (fun c2_73 => ?_) (fun c2_73 => ?_)
  ·
   have c2_73_ := c2_73
   try simp only [DZ] at c2_73
   refine Wc.seq fun _ hK_74 => Wc.region <| Wl.mv rfl rfl ?_
   refine Wl.y (y_convi Tryz.underlying22 Tryz.underlying2 rfl) rfl ?_
   refine Wl.y (y_negi rfl) rfl <| Wl.mv rfl rfl <| Wl.y (y_eqli rfl rfl) rfl <| Wl.mv rfl rfl ?_
   refine Wl.guardT rfl rfl rfl (fun g_81 => ?_) (fun g_81 => ?_)
   ·
    have g_81_ := g_81
    try simp only [DZ] at g_81
    refine Wl.mv rfl rfl <| Wl.on' rfl rfl g_81_ <| Wl.y (y_leqi rfl rfl) rfl ?_
    refine Wl.y (y_pickT rfl g_81_ rfl) rfl ?_
    refine Wl.sg rfl rfl <| Wl.sg rfl rfl <| Wl.nil <| Wq.next hK_74 <| Wc.ret <| Wq.then_ret ?_
    refine ret2 rfl rfl rfl ?_
    exact ⟨_, rfl, ⟨_, _, rfl, by rw [hx]; exact (mul_ok1 (mul_unlike c2_73_) g_81).1, fun h => by rw [hx] at h ⊢; exact (mul_ok1 (mul_unlike c2_73_) g_81).2 h⟩, rfl⟩
   have g_81_ := g_81
   try simp only [DZ] at g_81
   refine Wl.off' rfl rfl g_81_ rfl rfl ?_
   refine Wl.y (y_pickF rfl g_81_ rfl) rfl ?_
   refine Wl.sg rfl rfl <| Wl.sg rfl rfl <| Wl.nil <| Wq.next hK_74 <| Wc.ret <| Wq.then_ret ?_
   refine ret2 rfl rfl rfl ?_
   exact ⟨_, rfl, ⟨_, _, rfl, by rw [hx]; exact (mul_no (.inr (mul_unlike c2_73_)) g_81).symm, fun h => by rw [hx, mul_no (.inr (mul_unlike c2_73_)) g_81] at h; cases h⟩, rfl⟩
  have c2_73_ := c2_73
  try simp only [DZ] at c2_73
  refine Wc.skip <| Wq.next hK_66 <| Wc.seq fun _ hK_90 => Wc.region <| Wl.mv rfl rfl ?_
  refine Wl.y (y_convi Tryz.underlying22 Tryz.underlying2 rfl) rfl ?_
  refine Wl.mv rfl rfl <| Wl.y (y_eqli rfl rfl) rfl <| Wl.mv rfl rfl ?_
  refine Wl.guardT rfl rfl rfl (fun g_96 => ?_) (fun g_96 => ?_)
  ·
   have g_96_ := g_96
   try simp only [DZ] at g_96
   refine Wl.mv rfl rfl <| Wl.on' rfl rfl g_96_ <| Wl.y (y_lssi rfl rfl) rfl ?_
   refine Wl.y (y_pickT rfl g_96_ rfl) rfl ?_
   refine Wl.sg rfl rfl <| Wl.sg rfl rfl <| Wl.nil <| Wq.next hK_90 <| Wc.ret ?_
   refine ret2 rfl rfl rfl ?_
   exact ⟨_, rfl, ⟨_, _, rfl, by rw [hx]; exact (mul_ok2 (mul_like c2_73_) g_96).1, fun h => by rw [hx] at h ⊢; exact (mul_ok2 (mul_like c2_73_) g_96).2 h⟩, rfl⟩
  have g_96_ := g_96
  try simp only [DZ] at g_96
  refine Wl.off' rfl rfl g_96_ rfl rfl ?_
  refine Wl.y (y_pickF rfl g_96_ rfl) rfl ?_
  refine Wl.sg rfl rfl <| Wl.sg rfl rfl <| Wl.nil <| Wq.next hK_90 <| Wc.ret ?_
  refine ret2 rfl rfl rfl ?_
  exact ⟨_, rfl, ⟨_, _, rfl, by rw [hx]; exact (mul_no (.inl (mul_like c2_73_)) g_96).symm, fun h => by rw [hx, mul_no (.inl (mul_like c2_73_)) g_96] at h; cases h⟩, rfl⟩

theorem float_r (op : List UInt8) (a b : Nat) (w : World) : Ret Tryz.prog 89 [str op, .float .f64 a, .float .f64 b] w fun v w' => v = .float .f64 (floatV op a b) ∧ Below w.heap.size w w' := by
  have hb := Below.refl w.heap.size w
  refine enter Tryz.func89 rfl rfl rfl ?_
  refine Wc.seq fun _ hK_1 => Wc.region <| Wl.sg rfl rfl <| Wl.nil <| Wq.next hK_1 <| Wc.seq fun _ hK_3 => Wc.seq fun _ hK_4 => Wc.region <| Wl.mv rfl rfl <| Wl.nil ?_
  refine Wq.next hK_4 <| Wc.block <| Wc.seq fun _ hK_6 => Wc.region <| Wl.y (y_eqls rfl rfl) rfl <| Wl.sg rfl rfl <| Wl.nil <| Wq.next hK_6 ?_
  refine Wc.cond rfl (fun c0_9 => ?_) (fun c0_9 => ?_)
  ·
   have c0_9_ := c0_9
   try simp only [DZ] at c0_9
   refine Wc.seq fun _ hK_10 => Wc.region <| Wl.mv rfl rfl <| Wl.mv rfl rfl ?_
   refine Wl.arithf (by simp) rfl rfl rfl ?_
   rintro r_o6 w_o6 hs_o6 hf_o6
   have hz_o6 := hs_o6.size
   have hb := hb.trans (hs_o6.mono hb.size)
   refine Wl.call txt91ValC rfl rfl (Canon_r _ _) rfl ?_
   rintro _ w_ ⟨rfl, hw_⟩
   have hw_ := hw_.symm; subst hw_
   refine Wl.sg rfl rfl <| Wl.nil <| Wq.next hK_10 <| Wc.ret ?_
   refine Wq.block_ret (Wq.then_ret ?_)
   refine ret1 rfl rfl ?_
   exact ⟨_, rfl, by rw [fop_of hf_o6.1]; unfold floatV; rw [if_pos c0_9], hb⟩
  have c0_9_ := c0_9
  try simp only [DZ] at c0_9
  refine Wc.seq fun _ hK_16 => Wc.region <| Wl.y (y_eqls rfl rfl) rfl <| Wl.sg rfl rfl <| Wl.nil <| Wq.next hK_16 ?_
  refine Wc.cond rfl (fun c1_19 => ?_) (fun c1_19 => ?_)
  ·
   have c1_19_ := c1_19
   try simp only [DZ] at c1_19
   refine Wc.seq fun _ hK_20 => Wc.region <| Wl.mv rfl rfl <| Wl.mv rfl rfl ?_
   refine Wl.arithf (by simp) rfl rfl rfl ?_
   rintro r_o12 w_o12 hs_o12 hf_o12
   have hz_o12 := hs_o12.size
   have hb := hb.trans (hs_o12.mono hb.size)
   refine Wl.call txt91ValC rfl rfl (Canon_r _ _) rfl ?_
   rintro _ w_ ⟨rfl, hw_⟩
   have hw_ := hw_.symm; subst hw_
   refine Wl.sg rfl rfl <| Wl.nil <| Wq.next hK_20 <| Wc.ret ?_
   refine Wq.block_ret (Wq.then_ret ?_)
   refine ret1 rfl rfl ?_
   exact ⟨_, rfl, by rw [fop_of hf_o12.1]; unfold floatV; rw [if_neg c0_9, if_pos c1_19], hb⟩
  have c1_19_ := c1_19
  try simp only [DZ] at c1_19
  refine Wc.skip <| Wq.block_normal <| Wq.next hK_3 <| Wc.seq fun _ hK_26 => Wc.region <| Wl.mv rfl rfl <| Wl.mv rfl rfl ?_
  refine Wl.arithf (by simp) rfl rfl rfl ?_
  rintro r_o16 w_o16 hs_o16 hf_o16
  have hz_o16 := hs_o16.size
  have hb := hb.trans (hs_o16.mono hb.size)
  refine Wl.call txt91ValC rfl rfl (Canon_r _ _) rfl ?_
  rintro _ w_ ⟨rfl, hw_⟩
  have hw_ := hw_.symm; subst hw_
  refine Wl.sg rfl rfl <| Wl.nil <| Wq.next hK_26 <| Wc.ret ?_
  refine ret1 rfl rfl ?_
  exact ⟨_, rfl, by rw [fop_of hf_o16.1]; unfold floatV; rw [if_neg c0_9, if_neg c1_19], hb⟩

theorem wide_r (a : Val) (w : World) : Ret Tryz.prog 90 [a.enc] w fun v w' => v = .float .f64 (wideV a) ∧ Below w.heap.size w w' := by
  have hb := Below.refl w.heap.size w
  refine enter Tryz.func90 rfl rfl rfl ?_
  refine Wc.seq fun _ hK_1 => Wc.region ?_
  refine Wl.boxN rfl rfl ?_
  rintro g_o0 w_o0 hg_o0 hn_o0 hs_o0
  have hz_o0 := hs_o0.size
  have hb := hb.trans (hs_o0.mono hb.size)
  have hB_o0 := hn_o0
  have hl_o0 := hB_o0.lt
  refine Wl.sg rfl rfl <| Wl.nil <| Wq.next hK_1 <| Wc.seq fun _ hK_4 => Wc.seq fun _ hK_5 => Wc.region ?_
  refine Wl.y (y_fieldAddr (fa28_0ValC _) rfl) rfl ?_
  refine Wl.l (l_load one3ValC rfl (by first | exact hB_o0.at rfl | exact hB_o0.cell 0 | assumption)) rfl ?_
  refine Wl.y (y_eqli rfl rfl) rfl <| Wl.nil <| Wq.next hK_5 ?_
  refine Wc.cond rfl (fun c0_9 => ?_) (fun c0_9 => ?_)
  ·
   have c0_9_ := c0_9
   try simp only [DZ] at c0_9
   refine Wc.seq fun _ hK_10 => Wc.region ?_
   refine Wl.y (y_fieldAddr (fa28_1ValC _) rfl) rfl ?_
   refine Wl.l (l_load one2ValC rfl (by first | exact hB_o0.at rfl | exact hB_o0.cell 0 | assumption)) rfl ?_
   refine Wl.y (y_convf Tryz.underlying2 Tryz.underlying26 rfl) rfl ?_
   refine Wl.sg rfl rfl <| Wl.nil <| Wq.next hK_10 <| Wc.ret <| Wq.then_ret ?_
   refine ret1 rfl rfl ?_
   exact ⟨_, rfl, by unfold wideV; rw [if_pos c0_9], hb⟩
  have c0_9_ := c0_9
  try simp only [DZ] at c0_9
  refine Wc.skip <| Wq.next hK_4 <| Wc.seq fun _ hK_15 => Wc.region ?_
  refine Wl.y (y_fieldAddr (fa28_2ValC _) rfl) rfl ?_
  refine Wl.l (l_load one26ValC rfl (by first | exact hB_o0.at rfl | exact hB_o0.cell 0 | assumption)) rfl ?_
  refine Wl.sg rfl rfl <| Wl.nil <| Wq.next hK_15 <| Wc.ret ?_
  refine ret1 rfl rfl ?_
  exact ⟨_, rfl, by unfold wideV; rw [if_neg c0_9], hb⟩

set_option maxHeartbeats 2000000 in
theorem Reckon_r (op : List UInt8) (a b : Val) (oa : a.Ok) (ob : b.Ok) (w : World) : Ret Tryz.prog 41 [str op, a.enc, b.enc] w fun v w' => v = .tuple #[(reckonV op a b).1.enc, .int .i64 (reckonV op a b).2] ∧ Below w.heap.size w w' := by
  have hb := Below.refl w.heap.size w
  refine enter Tryz.func41 rfl rfl rfl ?_
  refine Wc.seq fun _ hK_1 => Wc.region ?_
  refine Wl.boxN rfl rfl ?_
  rintro g_o0 w_o0 hg_o0 hn_o0 hs_o0
  have hz_o0 := hs_o0.size
  have hb := hb.trans (hs_o0.mono hb.size)
  have hB_o0 := hn_o0
  have hl_o0 := hB_o0.lt
  refine Wl.boxN rfl rfl ?_
  rintro g_o1 w_o1 hg_o1 hn_o1 hs_o1
  have hz_o1 := hs_o1.size
  have hb := hb.trans (hs_o1.mono hb.size)
  try have hB_o0 := Blk.below hB_o0 hs_o1
  have hB_o1 := hn_o1
  have hl_o1 := hB_o1.lt
  refine Wl.allocN (z := (.agg #[(.int .i64 0), (.int .i64 0), (.float .f64 0), (str [])])) (by kernel_rfl) rfl ?_
  rintro g_o2 w_o2 hg_o2 hn_o2 hs_o2
  have hz_o2 := hs_o2.size
  have hb := hb.trans (hs_o2.mono hb.size)
  try have hB_o0 := Blk.below hB_o0 hs_o2
  try have hB_o1 := Blk.below hB_o1 hs_o2
  have hB_o2 := hn_o2
  have hl_o2 := hB_o2.lt
  refine Wl.sg rfl rfl <| Wl.nil <| Wq.next hK_1 <| Wc.seq fun _ hK_6 => Wc.block <| Wc.seq fun _ hK_7 => Wc.region <| Wl.mv rfl rfl <| Wl.y (y_neqs rfl rfl) rfl <| Wl.mv rfl rfl ?_
  refine Wl.guardT rfl rfl rfl (fun g_11 => ?_) (fun g_11 => ?_)
  ·
   have g_11_ := g_11
   refine Wl.mv rfl rfl <| Wl.on' rfl rfl g_11_ <| Wl.y (y_neqs rfl rfl) rfl ?_
   refine Wl.y (y_pickT rfl g_11_ rfl) rfl ?_
   refine Wl.mv rfl rfl ?_
   refine Wl.guardT rfl rfl rfl (fun g_16 => ?_) (fun g_16 => ?_)
   ·
    have g_16_ := g_16
    refine Wl.mv rfl rfl <| Wl.on' rfl rfl g_16_ <| Wl.y (y_neqs rfl rfl) rfl ?_
    refine Wl.y (y_pickT rfl g_16_ rfl) rfl ?_
    refine Wl.mv rfl rfl ?_
    refine Wl.guardF rfl rfl rfl (fun g_21 => ?_) (fun g_21 => ?_)
    ·
     have g_21_ := g_21
     refine Wl.off' rfl rfl g_21_ rfl rfl <| Wl.off' rfl rfl g_21_ rfl rfl ?_
     refine Wl.y (y_pickT rfl g_21_ rfl) rfl ?_
     refine Wl.mv rfl rfl <| Wl.off' rfl rfl rfl rfl rfl <| Wl.off' rfl rfl rfl rfl rfl <| Wl.off' rfl rfl rfl rfl rfl <| Wl.y (y_pickT rfl rfl rfl) rfl <| Wl.sg rfl rfl <| Wl.nil <| Wq.next hK_7 ?_
     refine Wc.condT rfl rfl ?_
     refine Wc.seq fun _ hK_26 => Wc.region ?_
     refine Wl.y (y_buildS (z := [(.int .i64 0), (.int .i64 0), (.float .f64 0), (str [])]) (pl := [(0, 1), (1, 1), (2, 1), (3, 1)]) (cs := [_, _, _, _]) Tryz.underlying28 (by kernel_rfl) (by kernel_rfl) rfl rfl rfl) rfl ?_
     refine Wl.storeS (by kernel_rfl) rfl rfl hB_o2 rfl rfl ?_
     rintro w_s0 hn_s0 hg_s0
     have hz_s0 := hg_s0.size
     have hb := below_blk hb hg_s0 hb.size (by omega)
     have hB_o2 := hn_s0
     refine Wl.sg rfl rfl <| Wl.nil <| Wq.next hK_26 <| Wc.ret ?_
     refine Wq.block_ret (Wq.then_ret ?_)
     refine retN (rs := [.cell 6 28, .tmp 7]) (vs := [_, _]) rfl (.cell rfl (loadS Tryz.underlying28 (by kernel_rfl) (fun j u hu => hB_o2.at hu)) (.tmp rfl .nil)) ?_
     first | exact ⟨_, rfl, by unfold reckonV arithV; simp_all <;> rfl, hb⟩
    have g_21_ := g_21
    refine Wl.l (l_loadS Tryz.underlying28 (by kernel_rfl) rfl (by first | exact fun j u hu => hB_o0.at hu | exact fun j u hu => hB_o1.at hu | exact fun j u hu => hB_o2.at hu | assumption)) rfl ?_
    refine Wl.on' rfl rfl g_21_ ?_
    refine Wl.call txt43ValC rfl rfl (Right_r a oa _) rfl ?_
    rintro _ w_k0 ⟨rfl, hs_k0⟩
    have hz_k0 := hs_k0.size
    have hb := hb.trans (hs_k0.mono hb.size)
    try have hB_o0 := Blk.below hB_o0 hs_k0
    try have hB_o1 := Blk.below hB_o1 hs_k0
    try have hB_o2 := Blk.below hB_o2 hs_k0
    refine Wl.on' rfl rfl g_21_ <| Wl.y (y_not rfl) rfl ?_
    refine Wl.y (y_pickF rfl g_21_ rfl) rfl ?_
    refine Wl.mv rfl rfl ?_
    refine Wl.guardF rfl rfl rfl (fun g_34 => ?_) (fun g_34 => ?_)
    ·
     have g_34_ := g_34
     refine Wl.off' rfl rfl g_34_ rfl rfl <| Wl.off' rfl rfl g_34_ rfl rfl ?_
     refine Wl.y (y_pickT rfl g_34_ rfl) rfl ?_
     refine Wl.sg rfl rfl <| Wl.nil <| Wq.next hK_7 ?_
     refine Wc.condT rfl rfl ?_
     refine Wc.seq fun _ hK_37 => Wc.region ?_
     refine Wl.y (y_buildS (z := [(.int .i64 0), (.int .i64 0), (.float .f64 0), (str [])]) (pl := [(0, 1), (1, 1), (2, 1), (3, 1)]) (cs := [_, _, _, _]) Tryz.underlying28 (by kernel_rfl) (by kernel_rfl) rfl rfl rfl) rfl ?_
     refine Wl.storeS (by kernel_rfl) rfl rfl hB_o2 rfl rfl ?_
     rintro w_s0 hn_s0 hg_s0
     have hz_s0 := hg_s0.size
     have hb := below_blk hb hg_s0 hb.size (by omega)
     have hB_o2 := hn_s0
     refine Wl.sg rfl rfl <| Wl.nil <| Wq.next hK_37 <| Wc.ret ?_
     refine Wq.block_ret (Wq.then_ret ?_)
     refine retN (rs := [.cell 6 28, .tmp 7]) (vs := [_, _]) rfl (.cell rfl (loadS Tryz.underlying28 (by kernel_rfl) (fun j u hu => hB_o2.at hu)) (.tmp rfl .nil)) ?_
     first | exact ⟨_, rfl, by unfold reckonV arithV; simp_all <;> rfl, hb⟩
    have g_34_ := g_34
    refine Wl.l (l_loadS Tryz.underlying28 (by kernel_rfl) rfl (by first | exact fun j u hu => hB_o0.at hu | exact fun j u hu => hB_o1.at hu | exact fun j u hu => hB_o2.at hu | assumption)) rfl ?_
    refine Wl.on' rfl rfl g_34_ ?_
    refine Wl.call txt43ValC rfl rfl (Right_r b ob _) rfl ?_
    rintro _ w_k1 ⟨rfl, hs_k1⟩
    have hz_k1 := hs_k1.size
    have hb := hb.trans (hs_k1.mono hb.size)
    try have hB_o0 := Blk.below hB_o0 hs_k1
    try have hB_o1 := Blk.below hB_o1 hs_k1
    try have hB_o2 := Blk.below hB_o2 hs_k1
    refine Wl.on' rfl rfl g_34_ <| Wl.y (y_not rfl) rfl ?_
    refine Wl.y (y_pickF rfl g_34_ rfl) rfl ?_
    refine Wl.sg rfl rfl <| Wl.nil <| Wq.next hK_7 ?_
    refine Wc.cond rfl (fun c0_45 => ?_) (fun c0_45 => ?_)
    ·
     refine Wc.seq fun _ hK_46 => Wc.region ?_
     refine Wl.y (y_buildS (z := [(.int .i64 0), (.int .i64 0), (.float .f64 0), (str [])]) (pl := [(0, 1), (1, 1), (2, 1), (3, 1)]) (cs := [_, _, _, _]) Tryz.underlying28 (by kernel_rfl) (by kernel_rfl) rfl rfl rfl) rfl ?_
     refine Wl.storeS (by kernel_rfl) rfl rfl hB_o2 rfl rfl ?_
     rintro w_s0 hn_s0 hg_s0
     have hz_s0 := hg_s0.size
     have hb := below_blk hb hg_s0 hb.size (by omega)
     have hB_o2 := hn_s0
     refine Wl.sg rfl rfl <| Wl.nil <| Wq.next hK_46 <| Wc.ret ?_
     refine Wq.block_ret (Wq.then_ret ?_)
     refine retN (rs := [.cell 6 28, .tmp 7]) (vs := [_, _]) rfl (.cell rfl (loadS Tryz.underlying28 (by kernel_rfl) (fun j u hu => hB_o2.at hu)) (.tmp rfl .nil)) ?_
     first | exact ⟨_, rfl, by unfold reckonV arithV; simp_all <;> rfl, hb⟩
    refine Wc.seq fun _ hK_49 => Wc.region ?_
    refine Wl.y (y_fieldAddr (fa28_0ValC _) rfl) rfl ?_
    refine Wl.l (l_load one3ValC rfl (by first | exact hB_o0.at rfl | exact hB_o1.at rfl | exact hB_o2.at rfl | exact hB_o0.cell 0 | exact hB_o1.cell 0 | exact hB_o2.cell 0 | assumption)) rfl ?_
    refine Wl.y (y_eqli rfl rfl) rfl <| Wl.mv rfl rfl ?_
    refine Wl.guardF rfl rfl rfl (fun g_54 => ?_) (fun g_54 => ?_)
    ·
     have g_54_ := g_54
     refine Wl.off' rfl rfl g_54_ rfl rfl <| Wl.off' rfl rfl g_54_ rfl rfl ?_
     refine Wl.y (y_pickT rfl g_54_ rfl) rfl ?_
     refine Wl.sg rfl rfl <| Wl.nil <| Wq.next hK_49 ?_
     refine Wc.condT rfl rfl ?_
     refine Wc.seq fun _ hK_57 => Wc.region ?_
     refine Wl.y (y_buildS (z := [(.int .i64 0), (.int .i64 0), (.float .f64 0), (str [])]) (pl := [(0, 1), (1, 1), (2, 1), (3, 1)]) (cs := [_, _, _, _]) Tryz.underlying28 (by kernel_rfl) (by kernel_rfl) rfl rfl rfl) rfl ?_
     refine Wl.storeS (by kernel_rfl) rfl rfl hB_o2 rfl rfl ?_
     rintro w_s1 hn_s1 hg_s1
     have hz_s1 := hg_s1.size
     have hb := below_blk hb hg_s1 hb.size (by omega)
     have hB_o2 := hn_s1
     refine Wl.sg rfl rfl <| Wl.nil <| Wq.next hK_57 <| Wc.ret ?_
     refine Wq.block_ret (Wq.then_ret ?_)
     refine retN (rs := [.cell 6 28, .tmp 7]) (vs := [_, _]) rfl (.cell rfl (loadS Tryz.underlying28 (by kernel_rfl) (fun j u hu => hB_o2.at hu)) (.tmp rfl .nil)) ?_
     first | exact ⟨_, rfl, by unfold reckonV arithV; simp_all <;> rfl, hb⟩
    have g_54_ := g_54
    refine Wl.y (y_fieldAddr (fa28_0ValC _) rfl) rfl ?_
    refine Wl.on' rfl rfl g_54_ ?_
    refine Wl.l (l_load one3ValC rfl (by first | exact hB_o0.at rfl | exact hB_o1.at rfl | exact hB_o2.at rfl | exact hB_o0.cell 0 | exact hB_o1.cell 0 | exact hB_o2.cell 0 | assumption)) rfl ?_
    refine Wl.on' rfl rfl g_54_ <| Wl.y (y_eqli rfl rfl) rfl ?_
    refine Wl.y (y_pickF rfl g_54_ rfl) rfl ?_
    refine Wl.sg rfl rfl <| Wl.nil <| Wq.next hK_49 ?_
    refine Wc.cond rfl (fun c1_65 => ?_) (fun c1_65 => ?_)
    ·
     refine Wc.seq fun _ hK_66 => Wc.region ?_
     refine Wl.y (y_buildS (z := [(.int .i64 0), (.int .i64 0), (.float .f64 0), (str [])]) (pl := [(0, 1), (1, 1), (2, 1), (3, 1)]) (cs := [_, _, _, _]) Tryz.underlying28 (by kernel_rfl) (by kernel_rfl) rfl rfl rfl) rfl ?_
     refine Wl.storeS (by kernel_rfl) rfl rfl hB_o2 rfl rfl ?_
     rintro w_s1 hn_s1 hg_s1
     have hz_s1 := hg_s1.size
     have hb := below_blk hb hg_s1 hb.size (by omega)
     have hB_o2 := hn_s1
     refine Wl.sg rfl rfl <| Wl.nil <| Wq.next hK_66 <| Wc.ret ?_
     refine Wq.block_ret (Wq.then_ret ?_)
     refine retN (rs := [.cell 6 28, .tmp 7]) (vs := [_, _]) rfl (.cell rfl (loadS Tryz.underlying28 (by kernel_rfl) (fun j u hu => hB_o2.at hu)) (.tmp rfl .nil)) ?_
     first | exact ⟨_, rfl, by unfold reckonV arithV; simp_all <;> rfl, hb⟩
    refine Wc.seq fun _ hK_69 => Wc.region ?_
    refine Wl.l (l_loadS Tryz.underlying28 (by kernel_rfl) rfl (by first | exact fun j u hu => hB_o0.at hu | exact fun j u hu => hB_o1.at hu | exact fun j u hu => hB_o2.at hu | assumption)) rfl ?_
    refine Wl.call txt86ValC rfl rfl (number_r a _) rfl ?_
    rintro _ w_k2 ⟨rfl, hs_k2⟩
    have hz_k2 := hs_k2.size
    have hb := hb.trans (hs_k2.mono hb.size)
    try have hB_o0 := Blk.below hB_o0 hs_k2
    try have hB_o1 := Blk.below hB_o1 hs_k2
    try have hB_o2 := Blk.below hB_o2 hs_k2
    refine Wl.y (y_not rfl) rfl <| Wl.mv rfl rfl ?_
    refine Wl.guardF rfl rfl rfl (fun g_74 => ?_) (fun g_74 => ?_)
    ·
     have g_74_ := g_74
     refine Wl.off' rfl rfl g_74_ rfl rfl <| Wl.off' rfl rfl g_74_ rfl rfl ?_
     refine Wl.y (y_pickT rfl g_74_ rfl) rfl ?_
     refine Wl.sg rfl rfl <| Wl.nil <| Wq.next hK_69 ?_
     refine Wc.condT rfl rfl ?_
     refine Wc.seq fun _ hK_77 => Wc.region ?_
     refine Wl.y (y_buildS (z := [(.int .i64 0), (.int .i64 0), (.float .f64 0), (str [])]) (pl := [(0, 1), (1, 1), (2, 1), (3, 1)]) (cs := [_, _, _, _]) Tryz.underlying28 (by kernel_rfl) (by kernel_rfl) rfl rfl rfl) rfl ?_
     refine Wl.storeS (by kernel_rfl) rfl rfl hB_o2 rfl rfl ?_
     rintro w_s2 hn_s2 hg_s2
     have hz_s2 := hg_s2.size
     have hb := below_blk hb hg_s2 hb.size (by omega)
     have hB_o2 := hn_s2
     refine Wl.sg rfl rfl <| Wl.nil <| Wq.next hK_77 <| Wc.ret ?_
     refine Wq.block_ret (Wq.then_ret ?_)
     refine retN (rs := [.cell 6 28, .tmp 7]) (vs := [_, _]) rfl (.cell rfl (loadS Tryz.underlying28 (by kernel_rfl) (fun j u hu => hB_o2.at hu)) (.tmp rfl .nil)) ?_
     first | exact ⟨_, rfl, by unfold reckonV arithV; simp_all <;> rfl, hb⟩
    have g_74_ := g_74
    refine Wl.l (l_loadS Tryz.underlying28 (by kernel_rfl) rfl (by first | exact fun j u hu => hB_o0.at hu | exact fun j u hu => hB_o1.at hu | exact fun j u hu => hB_o2.at hu | assumption)) rfl ?_
    refine Wl.on' rfl rfl g_74_ ?_
    refine Wl.call txt86ValC rfl rfl (number_r b _) rfl ?_
    rintro _ w_k3 ⟨rfl, hs_k3⟩
    have hz_k3 := hs_k3.size
    have hb := hb.trans (hs_k3.mono hb.size)
    try have hB_o0 := Blk.below hB_o0 hs_k3
    try have hB_o1 := Blk.below hB_o1 hs_k3
    try have hB_o2 := Blk.below hB_o2 hs_k3
    refine Wl.on' rfl rfl g_74_ <| Wl.y (y_not rfl) rfl ?_
    refine Wl.y (y_pickF rfl g_74_ rfl) rfl ?_
    refine Wl.sg rfl rfl <| Wl.nil <| Wq.next hK_69 ?_
    refine Wc.cond rfl (fun c2_85 => ?_) (fun c2_85 => ?_)
    ·
     refine Wc.seq fun _ hK_86 => Wc.region ?_
     refine Wl.y (y_buildS (z := [(.int .i64 0), (.int .i64 0), (.float .f64 0), (str [])]) (pl := [(0, 1), (1, 1), (2, 1), (3, 1)]) (cs := [_, _, _, _]) Tryz.underlying28 (by kernel_rfl) (by kernel_rfl) rfl rfl rfl) rfl ?_
     refine Wl.storeS (by kernel_rfl) rfl rfl hB_o2 rfl rfl ?_
     rintro w_s2 hn_s2 hg_s2
     have hz_s2 := hg_s2.size
     have hb := below_blk hb hg_s2 hb.size (by omega)
     have hB_o2 := hn_s2
     refine Wl.sg rfl rfl <| Wl.nil <| Wq.next hK_86 <| Wc.ret ?_
     refine Wq.block_ret (Wq.then_ret ?_)
     refine retN (rs := [.cell 6 28, .tmp 7]) (vs := [_, _]) rfl (.cell rfl (loadS Tryz.underlying28 (by kernel_rfl) (fun j u hu => hB_o2.at hu)) (.tmp rfl .nil)) ?_
     first | exact ⟨_, rfl, by unfold reckonV arithV; simp_all <;> rfl, hb⟩
    refine Wc.seq fun _ hK_89 => Wc.region ?_
    refine Wl.y (y_fieldAddr (fa28_0ValC _) rfl) rfl ?_
    refine Wl.l (l_load one3ValC rfl (by first | exact hB_o0.at rfl | exact hB_o1.at rfl | exact hB_o2.at rfl | exact hB_o0.cell 0 | exact hB_o1.cell 0 | exact hB_o2.cell 0 | assumption)) rfl ?_
    refine Wl.y (y_eqli rfl rfl) rfl <| Wl.mv rfl rfl ?_
    refine Wl.guardT rfl rfl rfl (fun g_94 => ?_) (fun g_94 => ?_)
    ·
     have g_94_ := g_94
     refine Wl.y (y_fieldAddr (fa28_0ValC _) rfl) rfl ?_
     refine Wl.on' rfl rfl g_94_ ?_
     refine Wl.l (l_load one3ValC rfl (by first | exact hB_o0.at rfl | exact hB_o1.at rfl | exact hB_o2.at rfl | exact hB_o0.cell 0 | exact hB_o1.cell 0 | exact hB_o2.cell 0 | assumption)) rfl ?_
     refine Wl.on' rfl rfl g_94_ <| Wl.y (y_eqli rfl rfl) rfl ?_
     refine Wl.y (y_pickT rfl g_94_ rfl) rfl ?_
     refine Wl.sg rfl rfl <| Wl.nil <| Wq.next hK_89 ?_
     refine Wc.cond rfl (fun c3_100 => ?_) (fun c3_100 => ?_)
     ·
      refine Wc.seq fun _ hK_101 => Wc.region <| Wl.mv rfl rfl ?_
      refine Wl.y (y_fieldAddr (fa28_1ValC _) rfl) rfl ?_
      refine Wl.l (l_load one2ValC rfl (by first | exact hB_o0.at rfl | exact hB_o1.at rfl | exact hB_o2.at rfl | exact hB_o0.cell 0 | exact hB_o1.cell 0 | exact hB_o2.cell 0 | assumption)) rfl ?_
      refine Wl.y (y_fieldAddr (fa28_1ValC _) rfl) rfl ?_
      refine Wl.l (l_load one2ValC rfl (by first | exact hB_o0.at rfl | exact hB_o1.at rfl | exact hB_o2.at rfl | exact hB_o0.cell 0 | exact hB_o1.cell 0 | exact hB_o2.cell 0 | assumption)) rfl ?_
      refine Wl.call txt88ValC rfl rfl (whole_r op _ _ ⟨oa.n0, oa.n1⟩ ⟨ob.n0, ob.n1⟩ _) rfl ?_
      rintro _ w_ ⟨⟨n, t, rfl, ht, hn⟩, hw_⟩
      have hw_ := hw_.symm; subst hw_
      refine Wl.mv rfl rfl <| Wl.y (y_extract rfl rfl) rfl <| Wl.y (y_extract rfl rfl) rfl <| Wl.sg rfl rfl <| Wl.sg rfl rfl <| Wl.nil <| Wq.next hK_101 <| Wc.seq fun _ hK_113 => Wc.seq fun _ hK_114 => Wc.region ?_
      refine Wl.mv rfl rfl <| Wl.y (y_not rfl) rfl <| Wl.nil <| Wq.next hK_114 ?_
      refine Wc.cond rfl (fun c4_117 => ?_) (fun c4_117 => ?_)
      ·
       refine Wc.seq fun _ hK_118 => Wc.region ?_
       refine Wl.y (y_buildS (z := [(.int .i64 0), (.int .i64 0), (.float .f64 0), (str [])]) (pl := [(0, 1), (1, 1), (2, 1), (3, 1)]) (cs := [_, _, _, _]) Tryz.underlying28 (by kernel_rfl) (by kernel_rfl) rfl rfl rfl) rfl ?_
       refine Wl.storeS (by kernel_rfl) rfl rfl hB_o2 rfl rfl ?_
       rintro w_s3 hn_s3 hg_s3
       have hz_s3 := hg_s3.size
       have hb := below_blk hb hg_s3 hb.size (by omega)
       have hB_o2 := hn_s3
       refine Wl.sg rfl rfl <| Wl.nil <| Wq.next hK_118 <| Wc.ret ?_
       refine Wq.then_ret (Wq.block_ret (Wq.then_ret ?_))
       refine retN (rs := [.cell 6 28, .tmp 7]) (vs := [_, _]) rfl (.cell rfl (loadS Tryz.underlying28 (by kernel_rfl) (fun j u hu => hB_o2.at hu)) (.tmp rfl .nil)) ?_
       first | exact ⟨_, rfl, by unfold reckonV arithV; simp_all <;> rfl, hb⟩
      refine Wc.skip <| Wq.next hK_113 <| Wc.seq fun _ hK_121 => Wc.region <| Wl.mv rfl rfl ?_
      refine Wl.y (y_buildS (z := [(.int .i64 0), (.int .i64 0), (.float .f64 0), (str [])]) (pl := [(0, 1), (1, 1), (2, 1), (3, 1)]) (cs := [_, _, _, _]) Tryz.underlying28 (by kernel_rfl) (by kernel_rfl) rfl rfl rfl) rfl ?_
      refine Wl.storeS (by kernel_rfl) rfl rfl hB_o2 rfl rfl ?_
      rintro w_s4 hn_s4 hg_s4
      have hz_s4 := hg_s4.size
      have hb := below_blk hb hg_s4 hb.size (by omega)
      have hB_o2 := hn_s4
      refine Wl.sg rfl rfl <| Wl.nil <| Wq.next hK_121 <| Wc.ret ?_
      refine Wq.block_ret (Wq.then_ret ?_)
      refine retN (rs := [.cell 6 28, .tmp 7]) (vs := [_, _]) rfl (.cell rfl (loadS Tryz.underlying28 (by kernel_rfl) (fun j u hu => hB_o2.at hu)) (.tmp rfl .nil)) ?_
      first | exact ⟨_, rfl, by unfold reckonV arithV; simp_all <;> rfl, hb⟩
     refine Wc.skip <| Wq.block_normal <| Wq.next hK_6 <| Wc.seq fun _ hK_125 => ?_
     refine Wc.any (n := 9) (fun w' => Below w.heap.size w w' ∧ Blk w' g_o0 28 a.cells ∧ Blk w' g_o1 28 b.cells) #[false, false, false, false, false, false, false, false, false] (by kernel_rfl) rfl (by kernel_rfl) ?_
     refine Wa.drew ?_
     rintro w_g12 hs_g12
     have hz_g12 := hs_g12.size
     have hb := hb.trans (hs_g12.mono hb.size)
     try have hB_o0 := Blk.below hB_o0 hs_g12
     try have hB_o1 := Blk.below hB_o1 hs_g12
     try have hB_o2 := Blk.below hB_o2 hs_g12
     refine Wa.take (i := 0) #[true, false, false, false, false, false, false, false, false] rfl (by kernel_rfl) (fun _ _ _ h => h) rfl (fun wq hq => Yl.ld (y_move rfl)) ⟨hb, hB_o0, hB_o1⟩ ?_
     refine Wa.take (i := 1) #[true, true, false, false, false, false, false, false, false] rfl (by kernel_rfl) (fun _ _ _ h => h) rfl (fun wq hq => l_loadS Tryz.underlying28 (by kernel_rfl) rfl (by obtain ⟨hq, hB_o0, hB_o1⟩ := hq; first | exact fun j u hu => hB_o0.at hu | exact fun j u hu => hB_o1.at hu | assumption)) ⟨hb, hB_o0, hB_o1⟩ ?_
     refine Wa.take (i := 3) #[true, true, false, true, false, false, false, false, false] rfl (by kernel_rfl) (fun _ _ _ h => h) rfl (fun wq hq => l_loadS Tryz.underlying28 (by kernel_rfl) rfl (by obtain ⟨hq, hB_o0, hB_o1⟩ := hq; first | exact fun j u hu => hB_o0.at hu | exact fun j u hu => hB_o1.at hu | assumption)) ⟨hb, hB_o0, hB_o1⟩ ?_
     refine Wa.some (rs := [2]) (by kernel_rfl) rfl ?_
     refine Ws.cons #[true, true, true, true, false, false, false, false, false] rfl rfl (fun _ hK_129 => ?_) ?_
     ·
      refine Wl.call txt90ValC rfl rfl (wide_r a _) rfl ?_
      rintro _ w_k5 ⟨rfl, hs_k5⟩
      have hz_k5 := hs_k5.size
      have hb := hb.trans (hs_k5.mono hb.size)
      try have hB_o0 := Blk.below hB_o0 hs_k5
      try have hB_o1 := Blk.below hB_o1 hs_k5
      try have hB_o2 := Blk.below hB_o2 hs_k5
      refine Wl.nil ?_
      refine Wq.back hK_129 ⟨hb, hB_o0, hB_o1⟩ ?_
      refine Wa.some (rs := [4]) (by kernel_rfl) rfl ?_
      refine Ws.cons #[true, true, true, true, true, false, false, false, false] rfl rfl (fun _ hK_131 => ?_) ?_
      ·
       refine Wl.call txt90ValC rfl rfl (wide_r b _) rfl ?_
       rintro _ w_k6 ⟨rfl, hs_k6⟩
       have hz_k6 := hs_k6.size
       have hb := hb.trans (hs_k6.mono hb.size)
       try have hB_o0 := Blk.below hB_o0 hs_k6
       try have hB_o1 := Blk.below hB_o1 hs_k6
       try have hB_o2 := Blk.below hB_o2 hs_k6
       refine Wl.nil ?_
       refine Wq.back hK_131 ⟨hb, hB_o0, hB_o1⟩ ?_
       refine Wa.some (rs := [5]) (by kernel_rfl) rfl ?_
       refine Ws.cons #[true, true, true, true, true, true, false, false, false] rfl rfl (fun _ hK_133 => ?_) ?_
       ·
        refine Wl.call txt89ValC rfl rfl (float_r op _ _ _) rfl ?_
        rintro _ w_k7 ⟨rfl, hs_k7⟩
        have hz_k7 := hs_k7.size
        have hb := hb.trans (hs_k7.mono hb.size)
        try have hB_o0 := Blk.below hB_o0 hs_k7
        try have hB_o1 := Blk.below hB_o1 hs_k7
        try have hB_o2 := Blk.below hB_o2 hs_k7
        refine Wl.nil ?_
        refine Wq.back hK_133 ⟨hb, hB_o0, hB_o1⟩ ?_
        refine Wa.take (i := 6) #[true, true, true, true, true, true, true, false, false] rfl (by kernel_rfl) (fun _ _ _ h => h) rfl (fun wq hq => Yl.ld (y_buildS (z := [(.int .i64 0), (.int .i64 0), (.float .f64 0), (str [])]) (pl := [(0, 1), (1, 1), (2, 1), (3, 1)]) (cs := [_, _, _, _]) Tryz.underlying28 (by kernel_rfl) (by kernel_rfl) rfl rfl rfl)) ⟨hb, hB_o0, hB_o1⟩ ?_
        refine Wa.some (rs := [7]) (by kernel_rfl) rfl ?_
        refine Ws.cons #[true, true, true, true, true, true, true, true, false] rfl rfl (fun _ hK_136 => ?_) ?_
        ·
         refine Wl.storeS (by kernel_rfl) rfl rfl hB_o2 rfl rfl ?_
         rintro w_s5 hn_s5 hg_s5
         have hz_s5 := hg_s5.size
         have hb := below_blk hb hg_s5 hb.size (by omega)
         try have hB_o0 := hB_o0.over hg_s5 (by omega)
         try have hB_o1 := hB_o1.over hg_s5 (by omega)
         have hB_o2 := hn_s5
         refine Wl.nil ?_
         refine Wq.back hK_136 ⟨hb, hB_o0, hB_o1⟩ ?_
         refine Wa.take (i := 8) #[true, true, true, true, true, true, true, true, true] rfl (by kernel_rfl) (fun _ _ _ h => h) rfl (fun wq hq => Yl.ld (y_assign rfl)) ⟨hb, hB_o0, hB_o1⟩ ?_
         refine Wa.done (by kernel_rfl) ?_
         refine Wq.next hK_125 <| Wc.ret ?_
         refine retN (rs := [.cell 6 28, .tmp 7]) (vs := [_, _]) rfl (.cell rfl (loadS Tryz.underlying28 (by kernel_rfl) (fun j u hu => hB_o2.at hu)) (.tmp rfl .nil)) ?_
         first | exact ⟨_, rfl, by unfold reckonV arithV; simp_all <;> rfl, hb⟩
        exact Ws.nil
       exact Ws.nil
      exact Ws.nil
     exact Ws.nil
    have g_94_ := g_94
    refine Wl.off' rfl rfl g_94_ rfl rfl <| Wl.off' rfl rfl g_94_ rfl rfl ?_
    refine Wl.y (y_pickF rfl g_94_ rfl) rfl ?_
    refine Wl.sg rfl rfl <| Wl.nil <| Wq.next hK_89 ?_
    refine Wc.condF rfl rfl ?_
    refine Wc.skip <| Wq.block_normal <| Wq.next hK_6 <| Wc.seq fun _ hK_140 => ?_
    refine Wc.any (n := 9) (fun w' => Below w.heap.size w w' ∧ Blk w' g_o0 28 a.cells ∧ Blk w' g_o1 28 b.cells) #[false, false, false, false, false, false, false, false, false] (by kernel_rfl) rfl (by kernel_rfl) ?_
    refine Wa.drew ?_
    rintro w_g12 hs_g12
    have hz_g12 := hs_g12.size
    have hb := hb.trans (hs_g12.mono hb.size)
    try have hB_o0 := Blk.below hB_o0 hs_g12
    try have hB_o1 := Blk.below hB_o1 hs_g12
    try have hB_o2 := Blk.below hB_o2 hs_g12
    refine Wa.take (i := 0) #[true, false, false, false, false, false, false, false, false] rfl (by kernel_rfl) (fun _ _ _ h => h) rfl (fun wq hq => Yl.ld (y_move rfl)) ⟨hb, hB_o0, hB_o1⟩ ?_
    refine Wa.take (i := 1) #[true, true, false, false, false, false, false, false, false] rfl (by kernel_rfl) (fun _ _ _ h => h) rfl (fun wq hq => l_loadS Tryz.underlying28 (by kernel_rfl) rfl (by obtain ⟨hq, hB_o0, hB_o1⟩ := hq; first | exact fun j u hu => hB_o0.at hu | exact fun j u hu => hB_o1.at hu | assumption)) ⟨hb, hB_o0, hB_o1⟩ ?_
    refine Wa.take (i := 3) #[true, true, false, true, false, false, false, false, false] rfl (by kernel_rfl) (fun _ _ _ h => h) rfl (fun wq hq => l_loadS Tryz.underlying28 (by kernel_rfl) rfl (by obtain ⟨hq, hB_o0, hB_o1⟩ := hq; first | exact fun j u hu => hB_o0.at hu | exact fun j u hu => hB_o1.at hu | assumption)) ⟨hb, hB_o0, hB_o1⟩ ?_
    refine Wa.some (rs := [2]) (by kernel_rfl) rfl ?_
    refine Ws.cons #[true, true, true, true, false, false, false, false, false] rfl rfl (fun _ hK_144 => ?_) ?_
    ·
     refine Wl.call txt90ValC rfl rfl (wide_r a _) rfl ?_
     rintro _ w_k5 ⟨rfl, hs_k5⟩
     have hz_k5 := hs_k5.size
     have hb := hb.trans (hs_k5.mono hb.size)
     try have hB_o0 := Blk.below hB_o0 hs_k5
     try have hB_o1 := Blk.below hB_o1 hs_k5
     try have hB_o2 := Blk.below hB_o2 hs_k5
     refine Wl.nil ?_
     refine Wq.back hK_144 ⟨hb, hB_o0, hB_o1⟩ ?_
     refine Wa.some (rs := [4]) (by kernel_rfl) rfl ?_
     refine Ws.cons #[true, true, true, true, true, false, false, false, false] rfl rfl (fun _ hK_146 => ?_) ?_
     ·
      refine Wl.call txt90ValC rfl rfl (wide_r b _) rfl ?_
      rintro _ w_k6 ⟨rfl, hs_k6⟩
      have hz_k6 := hs_k6.size
      have hb := hb.trans (hs_k6.mono hb.size)
      try have hB_o0 := Blk.below hB_o0 hs_k6
      try have hB_o1 := Blk.below hB_o1 hs_k6
      try have hB_o2 := Blk.below hB_o2 hs_k6
      refine Wl.nil ?_
      refine Wq.back hK_146 ⟨hb, hB_o0, hB_o1⟩ ?_
      refine Wa.some (rs := [5]) (by kernel_rfl) rfl ?_
      refine Ws.cons #[true, true, true, true, true, true, false, false, false] rfl rfl (fun _ hK_148 => ?_) ?_
      ·
       refine Wl.call txt89ValC rfl rfl (float_r op _ _ _) rfl ?_
       rintro _ w_k7 ⟨rfl, hs_k7⟩
       have hz_k7 := hs_k7.size
       have hb := hb.trans (hs_k7.mono hb.size)
       try have hB_o0 := Blk.below hB_o0 hs_k7
       try have hB_o1 := Blk.below hB_o1 hs_k7
       try have hB_o2 := Blk.below hB_o2 hs_k7
       refine Wl.nil ?_
       refine Wq.back hK_148 ⟨hb, hB_o0, hB_o1⟩ ?_
       refine Wa.take (i := 6) #[true, true, true, true, true, true, true, false, false] rfl (by kernel_rfl) (fun _ _ _ h => h) rfl (fun wq hq => Yl.ld (y_buildS (z := [(.int .i64 0), (.int .i64 0), (.float .f64 0), (str [])]) (pl := [(0, 1), (1, 1), (2, 1), (3, 1)]) (cs := [_, _, _, _]) Tryz.underlying28 (by kernel_rfl) (by kernel_rfl) rfl rfl rfl)) ⟨hb, hB_o0, hB_o1⟩ ?_
       refine Wa.some (rs := [7]) (by kernel_rfl) rfl ?_
       refine Ws.cons #[true, true, true, true, true, true, true, true, false] rfl rfl (fun _ hK_151 => ?_) ?_
       ·
        refine Wl.storeS (by kernel_rfl) rfl rfl hB_o2 rfl rfl ?_
        rintro w_s5 hn_s5 hg_s5
        have hz_s5 := hg_s5.size
        have hb := below_blk hb hg_s5 hb.size (by omega)
        try have hB_o0 := hB_o0.over hg_s5 (by omega)
        try have hB_o1 := hB_o1.over hg_s5 (by omega)
        have hB_o2 := hn_s5
        refine Wl.nil ?_
        refine Wq.back hK_151 ⟨hb, hB_o0, hB_o1⟩ ?_
        refine Wa.take (i := 8) #[true, true, true, true, true, true, true, true, true] rfl (by kernel_rfl) (fun _ _ _ h => h) rfl (fun wq hq => Yl.ld (y_assign rfl)) ⟨hb, hB_o0, hB_o1⟩ ?_
        refine Wa.done (by kernel_rfl) ?_
        refine Wq.next hK_140 <| Wc.ret ?_
        refine retN (rs := [.cell 6 28, .tmp 7]) (vs := [_, _]) rfl (.cell rfl (loadS Tryz.underlying28 (by kernel_rfl) (fun j u hu => hB_o2.at hu)) (.tmp rfl .nil)) ?_
        first | exact ⟨_, rfl, by unfold reckonV arithV; simp_all <;> rfl, hb⟩
       exact Ws.nil
      exact Ws.nil
     exact Ws.nil
    exact Ws.nil
   have g_16_ := g_16
   refine Wl.off' rfl rfl g_16_ rfl rfl ?_
   refine Wl.y (y_pickF rfl g_16_ rfl) rfl ?_
   refine Wl.mv rfl rfl <| Wl.on' rfl rfl rfl ?_
   refine Wl.l (l_loadS Tryz.underlying28 (by kernel_rfl) rfl (by first | exact fun j u hu => hB_o0.at hu | exact fun j u hu => hB_o1.at hu | exact fun j u hu => hB_o2.at hu | assumption)) rfl ?_
   refine Wl.on' rfl rfl rfl ?_
   refine Wl.call txt43ValC rfl rfl (Right_r a oa _) rfl ?_
   rintro _ w_k0 ⟨rfl, hs_k0⟩
   have hz_k0 := hs_k0.size
   have hb := hb.trans (hs_k0.mono hb.size)
   try have hB_o0 := Blk.below hB_o0 hs_k0
   try have hB_o1 := Blk.below hB_o1 hs_k0
   try have hB_o2 := Blk.below hB_o2 hs_k0
   refine Wl.on' rfl rfl rfl <| Wl.y (y_not rfl) rfl <| Wl.y (y_pickF rfl rfl rfl) rfl <| Wl.mv rfl rfl ?_
   refine Wl.guardF rfl rfl rfl (fun g_160 => ?_) (fun g_160 => ?_)
   ·
    have g_160_ := g_160
    refine Wl.off' rfl rfl g_160_ rfl rfl <| Wl.off' rfl rfl g_160_ rfl rfl ?_
    refine Wl.y (y_pickT rfl g_160_ rfl) rfl ?_
    refine Wl.sg rfl rfl <| Wl.nil <| Wq.next hK_7 ?_
    refine Wc.condT rfl rfl ?_
    refine Wc.seq fun _ hK_163 => Wc.region ?_
    refine Wl.y (y_buildS (z := [(.int .i64 0), (.int .i64 0), (.float .f64 0), (str [])]) (pl := [(0, 1), (1, 1), (2, 1), (3, 1)]) (cs := [_, _, _, _]) Tryz.underlying28 (by kernel_rfl) (by kernel_rfl) rfl rfl rfl) rfl ?_
    refine Wl.storeS (by kernel_rfl) rfl rfl hB_o2 rfl rfl ?_
    rintro w_s0 hn_s0 hg_s0
    have hz_s0 := hg_s0.size
    have hb := below_blk hb hg_s0 hb.size (by omega)
    have hB_o2 := hn_s0
    refine Wl.sg rfl rfl <| Wl.nil <| Wq.next hK_163 <| Wc.ret ?_
    refine Wq.block_ret (Wq.then_ret ?_)
    refine retN (rs := [.cell 6 28, .tmp 7]) (vs := [_, _]) rfl (.cell rfl (loadS Tryz.underlying28 (by kernel_rfl) (fun j u hu => hB_o2.at hu)) (.tmp rfl .nil)) ?_
    first | exact ⟨_, rfl, by unfold reckonV arithV; simp_all <;> rfl, hb⟩
   have g_160_ := g_160
   refine Wl.l (l_loadS Tryz.underlying28 (by kernel_rfl) rfl (by first | exact fun j u hu => hB_o0.at hu | exact fun j u hu => hB_o1.at hu | exact fun j u hu => hB_o2.at hu | assumption)) rfl ?_
   refine Wl.on' rfl rfl g_160_ ?_
   refine Wl.call txt43ValC rfl rfl (Right_r b ob _) rfl ?_
   rintro _ w_k1 ⟨rfl, hs_k1⟩
   have hz_k1 := hs_k1.size
   have hb := hb.trans (hs_k1.mono hb.size)
   try have hB_o0 := Blk.below hB_o0 hs_k1
   try have hB_o1 := Blk.below hB_o1 hs_k1
   try have hB_o2 := Blk.below hB_o2 hs_k1
   refine Wl.on' rfl rfl g_160_ <| Wl.y (y_not rfl) rfl ?_
   refine Wl.y (y_pickF rfl g_160_ rfl) rfl ?_
   refine Wl.sg rfl rfl <| Wl.nil <| Wq.next hK_7 ?_
   refine Wc.cond rfl (fun c0_171 => ?_) (fun c0_171 => ?_)
   ·
    refine Wc.seq fun _ hK_172 => Wc.region ?_
    refine Wl.y (y_buildS (z := [(.int .i64 0), (.int .i64 0), (.float .f64 0), (str [])]) (pl := [(0, 1), (1, 1), (2, 1), (3, 1)]) (cs := [_, _, _, _]) Tryz.underlying28 (by kernel_rfl) (by kernel_rfl) rfl rfl rfl) rfl ?_
    refine Wl.storeS (by kernel_rfl) rfl rfl hB_o2 rfl rfl ?_
    rintro w_s0 hn_s0 hg_s0
    have hz_s0 := hg_s0.size
    have hb := below_blk hb hg_s0 hb.size (by omega)
    have hB_o2 := hn_s0
    refine Wl.sg rfl rfl <| Wl.nil <| Wq.next hK_172 <| Wc.ret ?_
    refine Wq.block_ret (Wq.then_ret ?_)
    refine retN (rs := [.cell 6 28, .tmp 7]) (vs := [_, _]) rfl (.cell rfl (loadS Tryz.underlying28 (by kernel_rfl) (fun j u hu => hB_o2.at hu)) (.tmp rfl .nil)) ?_
    first | exact ⟨_, rfl, by unfold reckonV arithV; simp_all <;> rfl, hb⟩
   refine Wc.seq fun _ hK_175 => Wc.region ?_
   refine Wl.y (y_fieldAddr (fa28_0ValC _) rfl) rfl ?_
   refine Wl.l (l_load one3ValC rfl (by first | exact hB_o0.at rfl | exact hB_o1.at rfl | exact hB_o2.at rfl | exact hB_o0.cell 0 | exact hB_o1.cell 0 | exact hB_o2.cell 0 | assumption)) rfl ?_
   refine Wl.y (y_eqli rfl rfl) rfl <| Wl.mv rfl rfl ?_
   refine Wl.guardF rfl rfl rfl (fun g_180 => ?_) (fun g_180 => ?_)
   ·
    have g_180_ := g_180
    refine Wl.off' rfl rfl g_180_ rfl rfl <| Wl.off' rfl rfl g_180_ rfl rfl ?_
    refine Wl.y (y_pickT rfl g_180_ rfl) rfl ?_
    refine Wl.sg rfl rfl <| Wl.nil <| Wq.next hK_175 ?_
    refine Wc.condT rfl rfl ?_
    refine Wc.seq fun _ hK_183 => Wc.region ?_
    refine Wl.y (y_buildS (z := [(.int .i64 0), (.int .i64 0), (.float .f64 0), (str [])]) (pl := [(0, 1), (1, 1), (2, 1), (3, 1)]) (cs := [_, _, _, _]) Tryz.underlying28 (by kernel_rfl) (by kernel_rfl) rfl rfl rfl) rfl ?_
    refine Wl.storeS (by kernel_rfl) rfl rfl hB_o2 rfl rfl ?_
    rintro w_s1 hn_s1 hg_s1
    have hz_s1 := hg_s1.size
    have hb := below_blk hb hg_s1 hb.size (by omega)
    have hB_o2 := hn_s1
    refine Wl.sg rfl rfl <| Wl.nil <| Wq.next hK_183 <| Wc.ret ?_
    refine Wq.block_ret (Wq.then_ret ?_)
    refine retN (rs := [.cell 6 28, .tmp 7]) (vs := [_, _]) rfl (.cell rfl (loadS Tryz.underlying28 (by kernel_rfl) (fun j u hu => hB_o2.at hu)) (.tmp rfl .nil)) ?_
    first | exact ⟨_, rfl, by unfold reckonV arithV; simp_all <;> rfl, hb⟩
   have g_180_ := g_180
   refine Wl.y (y_fieldAddr (fa28_0ValC _) rfl) rfl ?_
   refine Wl.on' rfl rfl g_180_ ?_
   refine Wl.l (l_load one3ValC rfl (by first | exact hB_o0.at rfl | exact hB_o1.at rfl | exact hB_o2.at rfl | exact hB_o0.cell 0 | exact hB_o1.cell 0 | exact hB_o2.cell 0 | assumption)) rfl ?_
   refine Wl.on' rfl rfl g_180_ <| Wl.y (y_eqli rfl rfl) rfl ?_
   refine Wl.y (y_pickF rfl g_180_ rfl) rfl ?_
   refine Wl.sg rfl rfl <| Wl.nil <| Wq.next hK_175 ?_
   refine Wc.cond rfl (fun c1_191 => ?_) (fun c1_191 => ?_)
   ·
    refine Wc.seq fun _ hK_192 => Wc.region ?_
    refine Wl.y (y_buildS (z := [(.int .i64 0), (.int .i64 0), (.float .f64 0), (str [])]) (pl := [(0, 1), (1, 1), (2, 1), (3, 1)]) (cs := [_, _, _, _]) Tryz.underlying28 (by kernel_rfl) (by kernel_rfl) rfl rfl rfl) rfl ?_
    refine Wl.storeS (by kernel_rfl) rfl rfl hB_o2 rfl rfl ?_
    rintro w_s1 hn_s1 hg_s1
    have hz_s1 := hg_s1.size
    have hb := below_blk hb hg_s1 hb.size (by omega)
    have hB_o2 := hn_s1
    refine Wl.sg rfl rfl <| Wl.nil <| Wq.next hK_192 <| Wc.ret ?_
    refine Wq.block_ret (Wq.then_ret ?_)
    refine retN (rs := [.cell 6 28, .tmp 7]) (vs := [_, _]) rfl (.cell rfl (loadS Tryz.underlying28 (by kernel_rfl) (fun j u hu => hB_o2.at hu)) (.tmp rfl .nil)) ?_
    first | exact ⟨_, rfl, by unfold reckonV arithV; simp_all <;> rfl, hb⟩
   refine Wc.seq fun _ hK_195 => Wc.region ?_
   refine Wl.l (l_loadS Tryz.underlying28 (by kernel_rfl) rfl (by first | exact fun j u hu => hB_o0.at hu | exact fun j u hu => hB_o1.at hu | exact fun j u hu => hB_o2.at hu | assumption)) rfl ?_
   refine Wl.call txt86ValC rfl rfl (number_r a _) rfl ?_
   rintro _ w_k2 ⟨rfl, hs_k2⟩
   have hz_k2 := hs_k2.size
   have hb := hb.trans (hs_k2.mono hb.size)
   try have hB_o0 := Blk.below hB_o0 hs_k2
   try have hB_o1 := Blk.below hB_o1 hs_k2
   try have hB_o2 := Blk.below hB_o2 hs_k2
   refine Wl.y (y_not rfl) rfl <| Wl.mv rfl rfl ?_
   refine Wl.guardF rfl rfl rfl (fun g_200 => ?_) (fun g_200 => ?_)
   ·
    have g_200_ := g_200
    refine Wl.off' rfl rfl g_200_ rfl rfl <| Wl.off' rfl rfl g_200_ rfl rfl ?_
    refine Wl.y (y_pickT rfl g_200_ rfl) rfl ?_
    refine Wl.sg rfl rfl <| Wl.nil <| Wq.next hK_195 ?_
    refine Wc.condT rfl rfl ?_
    refine Wc.seq fun _ hK_203 => Wc.region ?_
    refine Wl.y (y_buildS (z := [(.int .i64 0), (.int .i64 0), (.float .f64 0), (str [])]) (pl := [(0, 1), (1, 1), (2, 1), (3, 1)]) (cs := [_, _, _, _]) Tryz.underlying28 (by kernel_rfl) (by kernel_rfl) rfl rfl rfl) rfl ?_
    refine Wl.storeS (by kernel_rfl) rfl rfl hB_o2 rfl rfl ?_
    rintro w_s2 hn_s2 hg_s2
    have hz_s2 := hg_s2.size
    have hb := below_blk hb hg_s2 hb.size (by omega)
    have hB_o2 := hn_s2
    refine Wl.sg rfl rfl <| Wl.nil <| Wq.next hK_203 <| Wc.ret ?_
    refine Wq.block_ret (Wq.then_ret ?_)
    refine retN (rs := [.cell 6 28, .tmp 7]) (vs := [_, _]) rfl (.cell rfl (loadS Tryz.underlying28 (by kernel_rfl) (fun j u hu => hB_o2.at hu)) (.tmp rfl .nil)) ?_
    first | exact ⟨_, rfl, by unfold reckonV arithV; simp_all <;> rfl, hb⟩
   have g_200_ := g_200
   refine Wl.l (l_loadS Tryz.underlying28 (by kernel_rfl) rfl (by first | exact fun j u hu => hB_o0.at hu | exact fun j u hu => hB_o1.at hu | exact fun j u hu => hB_o2.at hu | assumption)) rfl ?_
   refine Wl.on' rfl rfl g_200_ ?_
   refine Wl.call txt86ValC rfl rfl (number_r b _) rfl ?_
   rintro _ w_k3 ⟨rfl, hs_k3⟩
   have hz_k3 := hs_k3.size
   have hb := hb.trans (hs_k3.mono hb.size)
   try have hB_o0 := Blk.below hB_o0 hs_k3
   try have hB_o1 := Blk.below hB_o1 hs_k3
   try have hB_o2 := Blk.below hB_o2 hs_k3
   refine Wl.on' rfl rfl g_200_ <| Wl.y (y_not rfl) rfl ?_
   refine Wl.y (y_pickF rfl g_200_ rfl) rfl ?_
   refine Wl.sg rfl rfl <| Wl.nil <| Wq.next hK_195 ?_
   refine Wc.cond rfl (fun c2_211 => ?_) (fun c2_211 => ?_)
   ·
    refine Wc.seq fun _ hK_212 => Wc.region ?_
    refine Wl.y (y_buildS (z := [(.int .i64 0), (.int .i64 0), (.float .f64 0), (str [])]) (pl := [(0, 1), (1, 1), (2, 1), (3, 1)]) (cs := [_, _, _, _]) Tryz.underlying28 (by kernel_rfl) (by kernel_rfl) rfl rfl rfl) rfl ?_
    refine Wl.storeS (by kernel_rfl) rfl rfl hB_o2 rfl rfl ?_
    rintro w_s2 hn_s2 hg_s2
    have hz_s2 := hg_s2.size
    have hb := below_blk hb hg_s2 hb.size (by omega)
    have hB_o2 := hn_s2
    refine Wl.sg rfl rfl <| Wl.nil <| Wq.next hK_212 <| Wc.ret ?_
    refine Wq.block_ret (Wq.then_ret ?_)
    refine retN (rs := [.cell 6 28, .tmp 7]) (vs := [_, _]) rfl (.cell rfl (loadS Tryz.underlying28 (by kernel_rfl) (fun j u hu => hB_o2.at hu)) (.tmp rfl .nil)) ?_
    first | exact ⟨_, rfl, by unfold reckonV arithV; simp_all <;> rfl, hb⟩
   refine Wc.seq fun _ hK_215 => Wc.region ?_
   refine Wl.y (y_fieldAddr (fa28_0ValC _) rfl) rfl ?_
   refine Wl.l (l_load one3ValC rfl (by first | exact hB_o0.at rfl | exact hB_o1.at rfl | exact hB_o2.at rfl | exact hB_o0.cell 0 | exact hB_o1.cell 0 | exact hB_o2.cell 0 | assumption)) rfl ?_
   refine Wl.y (y_eqli rfl rfl) rfl <| Wl.mv rfl rfl ?_
   refine Wl.guardT rfl rfl rfl (fun g_220 => ?_) (fun g_220 => ?_)
   ·
    have g_220_ := g_220
    refine Wl.y (y_fieldAddr (fa28_0ValC _) rfl) rfl ?_
    refine Wl.on' rfl rfl g_220_ ?_
    refine Wl.l (l_load one3ValC rfl (by first | exact hB_o0.at rfl | exact hB_o1.at rfl | exact hB_o2.at rfl | exact hB_o0.cell 0 | exact hB_o1.cell 0 | exact hB_o2.cell 0 | assumption)) rfl ?_
    refine Wl.on' rfl rfl g_220_ <| Wl.y (y_eqli rfl rfl) rfl ?_
    refine Wl.y (y_pickT rfl g_220_ rfl) rfl ?_
    refine Wl.sg rfl rfl <| Wl.nil <| Wq.next hK_215 ?_
    refine Wc.cond rfl (fun c3_226 => ?_) (fun c3_226 => ?_)
    ·
     refine Wc.seq fun _ hK_227 => Wc.region <| Wl.mv rfl rfl ?_
     refine Wl.y (y_fieldAddr (fa28_1ValC _) rfl) rfl ?_
     refine Wl.l (l_load one2ValC rfl (by first | exact hB_o0.at rfl | exact hB_o1.at rfl | exact hB_o2.at rfl | exact hB_o0.cell 0 | exact hB_o1.cell 0 | exact hB_o2.cell 0 | assumption)) rfl ?_
     refine Wl.y (y_fieldAddr (fa28_1ValC _) rfl) rfl ?_
     refine Wl.l (l_load one2ValC rfl (by first | exact hB_o0.at rfl | exact hB_o1.at rfl | exact hB_o2.at rfl | exact hB_o0.cell 0 | exact hB_o1.cell 0 | exact hB_o2.cell 0 | assumption)) rfl ?_
     refine Wl.call txt88ValC rfl rfl (whole_r op _ _ ⟨oa.n0, oa.n1⟩ ⟨ob.n0, ob.n1⟩ _) rfl ?_
     rintro _ w_ ⟨⟨n, t, rfl, ht, hn⟩, hw_⟩
     have hw_ := hw_.symm; subst hw_
     refine Wl.mv rfl rfl <| Wl.y (y_extract rfl rfl) rfl <| Wl.y (y_extract rfl rfl) rfl <| Wl.sg rfl rfl <| Wl.sg rfl rfl <| Wl.nil <| Wq.next hK_227 <| Wc.seq fun _ hK_239 => Wc.seq fun _ hK_240 => Wc.region ?_
     refine Wl.mv rfl rfl <| Wl.y (y_not rfl) rfl <| Wl.nil <| Wq.next hK_240 ?_
     refine Wc.cond rfl (fun c4_243 => ?_) (fun c4_243 => ?_)
     ·
      refine Wc.seq fun _ hK_244 => Wc.region ?_
      refine Wl.y (y_buildS (z := [(.int .i64 0), (.int .i64 0), (.float .f64 0), (str [])]) (pl := [(0, 1), (1, 1), (2, 1), (3, 1)]) (cs := [_, _, _, _]) Tryz.underlying28 (by kernel_rfl) (by kernel_rfl) rfl rfl rfl) rfl ?_
      refine Wl.storeS (by kernel_rfl) rfl rfl hB_o2 rfl rfl ?_
      rintro w_s3 hn_s3 hg_s3
      have hz_s3 := hg_s3.size
      have hb := below_blk hb hg_s3 hb.size (by omega)
      have hB_o2 := hn_s3
      refine Wl.sg rfl rfl <| Wl.nil <| Wq.next hK_244 <| Wc.ret ?_
      refine Wq.then_ret (Wq.block_ret (Wq.then_ret ?_))
      refine retN (rs := [.cell 6 28, .tmp 7]) (vs := [_, _]) rfl (.cell rfl (loadS Tryz.underlying28 (by kernel_rfl) (fun j u hu => hB_o2.at hu)) (.tmp rfl .nil)) ?_
      first | exact ⟨_, rfl, by unfold reckonV arithV; simp_all <;> rfl, hb⟩
     refine Wc.skip <| Wq.next hK_239 <| Wc.seq fun _ hK_247 => Wc.region <| Wl.mv rfl rfl ?_
     refine Wl.y (y_buildS (z := [(.int .i64 0), (.int .i64 0), (.float .f64 0), (str [])]) (pl := [(0, 1), (1, 1), (2, 1), (3, 1)]) (cs := [_, _, _, _]) Tryz.underlying28 (by kernel_rfl) (by kernel_rfl) rfl rfl rfl) rfl ?_
     refine Wl.storeS (by kernel_rfl) rfl rfl hB_o2 rfl rfl ?_
     rintro w_s4 hn_s4 hg_s4
     have hz_s4 := hg_s4.size
     have hb := below_blk hb hg_s4 hb.size (by omega)
     have hB_o2 := hn_s4
     refine Wl.sg rfl rfl <| Wl.nil <| Wq.next hK_247 <| Wc.ret ?_
     refine Wq.block_ret (Wq.then_ret ?_)
     refine retN (rs := [.cell 6 28, .tmp 7]) (vs := [_, _]) rfl (.cell rfl (loadS Tryz.underlying28 (by kernel_rfl) (fun j u hu => hB_o2.at hu)) (.tmp rfl .nil)) ?_
     first | exact ⟨_, rfl, by unfold reckonV arithV; simp_all <;> rfl, hb⟩
    refine Wc.skip <| Wq.block_normal <| Wq.next hK_6 <| Wc.seq fun _ hK_251 => ?_
    refine Wc.any (n := 9) (fun w' => Below w.heap.size w w' ∧ Blk w' g_o0 28 a.cells ∧ Blk w' g_o1 28 b.cells) #[false, false, false, false, false, false, false, false, false] (by kernel_rfl) rfl (by kernel_rfl) ?_
    refine Wa.drew ?_
    rintro w_g12 hs_g12
    have hz_g12 := hs_g12.size
    have hb := hb.trans (hs_g12.mono hb.size)
    try have hB_o0 := Blk.below hB_o0 hs_g12
    try have hB_o1 := Blk.below hB_o1 hs_g12
    try have hB_o2 := Blk.below hB_o2 hs_g12
    refine Wa.take (i := 0) #[true, false, false, false, false, false, false, false, false] rfl (by kernel_rfl) (fun _ _ _ h => h) rfl (fun wq hq => Yl.ld (y_move rfl)) ⟨hb, hB_o0, hB_o1⟩ ?_
    refine Wa.take (i := 1) #[true, true, false, false, false, false, false, false, false] rfl (by kernel_rfl) (fun _ _ _ h => h) rfl (fun wq hq => l_loadS Tryz.underlying28 (by kernel_rfl) rfl (by obtain ⟨hq, hB_o0, hB_o1⟩ := hq; first | exact fun j u hu => hB_o0.at hu | exact fun j u hu => hB_o1.at hu | assumption)) ⟨hb, hB_o0, hB_o1⟩ ?_
    refine Wa.take (i := 3) #[true, true, false, true, false, false, false, false, false] rfl (by kernel_rfl) (fun _ _ _ h => h) rfl (fun wq hq => l_loadS Tryz.underlying28 (by kernel_rfl) rfl (by obtain ⟨hq, hB_o0, hB_o1⟩ := hq; first | exact fun j u hu => hB_o0.at hu | exact fun j u hu => hB_o1.at hu | assumption)) ⟨hb, hB_o0, hB_o1⟩ ?_
    refine Wa.some (rs := [2]) (by kernel_rfl) rfl ?_
    refine Ws.cons #[true, true, true, true, false, false, false, false, false] rfl rfl (fun _ hK_255 => ?_) ?_
    ·
     refine Wl.call txt90ValC rfl rfl (wide_r a _) rfl ?_
     rintro _ w_k5 ⟨rfl, hs_k5⟩
     have hz_k5 := hs_k5.size
     have hb := hb.trans (hs_k5.mono hb.size)
     try have hB_o0 := Blk.below hB_o0 hs_k5
     try have hB_o1 := Blk.below hB_o1 hs_k5
     try have hB_o2 := Blk.below hB_o2 hs_k5
     refine Wl.nil ?_
     refine Wq.back hK_255 ⟨hb, hB_o0, hB_o1⟩ ?_
     refine Wa.some (rs := [4]) (by kernel_rfl) rfl ?_
     refine Ws.cons #[true, true, true, true, true, false, false, false, false] rfl rfl (fun _ hK_257 => ?_) ?_
     ·
      refine Wl.call txt90ValC rfl rfl (wide_r b _) rfl ?_
      rintro _ w_k6 ⟨rfl, hs_k6⟩
      have hz_k6 := hs_k6.size
      have hb := hb.trans (hs_k6.mono hb.size)
      try have hB_o0 := Blk.below hB_o0 hs_k6
      try have hB_o1 := Blk.below hB_o1 hs_k6
      try have hB_o2 := Blk.below hB_o2 hs_k6
      refine Wl.nil ?_
      refine Wq.back hK_257 ⟨hb, hB_o0, hB_o1⟩ ?_
      refine Wa.some (rs := [5]) (by kernel_rfl) rfl ?_
      refine Ws.cons #[true, true, true, true, true, true, false, false, false] rfl rfl (fun _ hK_259 => ?_) ?_
      ·
       refine Wl.call txt89ValC rfl rfl (float_r op _ _ _) rfl ?_
       rintro _ w_k7 ⟨rfl, hs_k7⟩
       have hz_k7 := hs_k7.size
       have hb := hb.trans (hs_k7.mono hb.size)
       try have hB_o0 := Blk.below hB_o0 hs_k7
       try have hB_o1 := Blk.below hB_o1 hs_k7
       try have hB_o2 := Blk.below hB_o2 hs_k7
       refine Wl.nil ?_
       refine Wq.back hK_259 ⟨hb, hB_o0, hB_o1⟩ ?_
       refine Wa.take (i := 6) #[true, true, true, true, true, true, true, false, false] rfl (by kernel_rfl) (fun _ _ _ h => h) rfl (fun wq hq => Yl.ld (y_buildS (z := [(.int .i64 0), (.int .i64 0), (.float .f64 0), (str [])]) (pl := [(0, 1), (1, 1), (2, 1), (3, 1)]) (cs := [_, _, _, _]) Tryz.underlying28 (by kernel_rfl) (by kernel_rfl) rfl rfl rfl)) ⟨hb, hB_o0, hB_o1⟩ ?_
       refine Wa.some (rs := [7]) (by kernel_rfl) rfl ?_
       refine Ws.cons #[true, true, true, true, true, true, true, true, false] rfl rfl (fun _ hK_262 => ?_) ?_
       ·
        refine Wl.storeS (by kernel_rfl) rfl rfl hB_o2 rfl rfl ?_
        rintro w_s5 hn_s5 hg_s5
        have hz_s5 := hg_s5.size
        have hb := below_blk hb hg_s5 hb.size (by omega)
        try have hB_o0 := hB_o0.over hg_s5 (by omega)
        try have hB_o1 := hB_o1.over hg_s5 (by omega)
        have hB_o2 := hn_s5
        refine Wl.nil ?_
        refine Wq.back hK_262 ⟨hb, hB_o0, hB_o1⟩ ?_
        refine Wa.take (i := 8) #[true, true, true, true, true, true, true, true, true] rfl (by kernel_rfl) (fun _ _ _ h => h) rfl (fun wq hq => Yl.ld (y_assign rfl)) ⟨hb, hB_o0, hB_o1⟩ ?_
        refine Wa.done (by kernel_rfl) ?_
        refine Wq.next hK_251 <| Wc.ret ?_
        refine retN (rs := [.cell 6 28, .tmp 7]) (vs := [_, _]) rfl (.cell rfl (loadS Tryz.underlying28 (by kernel_rfl) (fun j u hu => hB_o2.at hu)) (.tmp rfl .nil)) ?_
        first | exact ⟨_, rfl, by unfold reckonV arithV; simp_all <;> rfl, hb⟩
       exact Ws.nil
      exact Ws.nil
     exact Ws.nil
    exact Ws.nil
   have g_220_ := g_220
   refine Wl.off' rfl rfl g_220_ rfl rfl <| Wl.off' rfl rfl g_220_ rfl rfl ?_
   refine Wl.y (y_pickF rfl g_220_ rfl) rfl ?_
   refine Wl.sg rfl rfl <| Wl.nil <| Wq.next hK_215 ?_
   refine Wc.condF rfl rfl ?_
   refine Wc.skip <| Wq.block_normal <| Wq.next hK_6 <| Wc.seq fun _ hK_266 => ?_
   refine Wc.any (n := 9) (fun w' => Below w.heap.size w w' ∧ Blk w' g_o0 28 a.cells ∧ Blk w' g_o1 28 b.cells) #[false, false, false, false, false, false, false, false, false] (by kernel_rfl) rfl (by kernel_rfl) ?_
   refine Wa.drew ?_
   rintro w_g12 hs_g12
   have hz_g12 := hs_g12.size
   have hb := hb.trans (hs_g12.mono hb.size)
   try have hB_o0 := Blk.below hB_o0 hs_g12
   try have hB_o1 := Blk.below hB_o1 hs_g12
   try have hB_o2 := Blk.below hB_o2 hs_g12
   refine Wa.take (i := 0) #[true, false, false, false, false, false, false, false, false] rfl (by kernel_rfl) (fun _ _ _ h => h) rfl (fun wq hq => Yl.ld (y_move rfl)) ⟨hb, hB_o0, hB_o1⟩ ?_
   refine Wa.take (i := 1) #[true, true, false, false, false, false, false, false, false] rfl (by kernel_rfl) (fun _ _ _ h => h) rfl (fun wq hq => l_loadS Tryz.underlying28 (by kernel_rfl) rfl (by obtain ⟨hq, hB_o0, hB_o1⟩ := hq; first | exact fun j u hu => hB_o0.at hu | exact fun j u hu => hB_o1.at hu | assumption)) ⟨hb, hB_o0, hB_o1⟩ ?_
   refine Wa.take (i := 3) #[true, true, false, true, false, false, false, false, false] rfl (by kernel_rfl) (fun _ _ _ h => h) rfl (fun wq hq => l_loadS Tryz.underlying28 (by kernel_rfl) rfl (by obtain ⟨hq, hB_o0, hB_o1⟩ := hq; first | exact fun j u hu => hB_o0.at hu | exact fun j u hu => hB_o1.at hu | assumption)) ⟨hb, hB_o0, hB_o1⟩ ?_
   refine Wa.some (rs := [2]) (by kernel_rfl) rfl ?_
   refine Ws.cons #[true, true, true, true, false, false, false, false, false] rfl rfl (fun _ hK_270 => ?_) ?_
   ·
    refine Wl.call txt90ValC rfl rfl (wide_r a _) rfl ?_
    rintro _ w_k5 ⟨rfl, hs_k5⟩
    have hz_k5 := hs_k5.size
    have hb := hb.trans (hs_k5.mono hb.size)
    try have hB_o0 := Blk.below hB_o0 hs_k5
    try have hB_o1 := Blk.below hB_o1 hs_k5
    try have hB_o2 := Blk.below hB_o2 hs_k5
    refine Wl.nil ?_
    refine Wq.back hK_270 ⟨hb, hB_o0, hB_o1⟩ ?_
    refine Wa.some (rs := [4]) (by kernel_rfl) rfl ?_
    refine Ws.cons #[true, true, true, true, true, false, false, false, false] rfl rfl (fun _ hK_272 => ?_) ?_
    ·
     refine Wl.call txt90ValC rfl rfl (wide_r b _) rfl ?_
     rintro _ w_k6 ⟨rfl, hs_k6⟩
     have hz_k6 := hs_k6.size
     have hb := hb.trans (hs_k6.mono hb.size)
     try have hB_o0 := Blk.below hB_o0 hs_k6
     try have hB_o1 := Blk.below hB_o1 hs_k6
     try have hB_o2 := Blk.below hB_o2 hs_k6
     refine Wl.nil ?_
     refine Wq.back hK_272 ⟨hb, hB_o0, hB_o1⟩ ?_
     refine Wa.some (rs := [5]) (by kernel_rfl) rfl ?_
     refine Ws.cons #[true, true, true, true, true, true, false, false, false] rfl rfl (fun _ hK_274 => ?_) ?_
     ·
      refine Wl.call txt89ValC rfl rfl (float_r op _ _ _) rfl ?_
      rintro _ w_k7 ⟨rfl, hs_k7⟩
      have hz_k7 := hs_k7.size
      have hb := hb.trans (hs_k7.mono hb.size)
      try have hB_o0 := Blk.below hB_o0 hs_k7
      try have hB_o1 := Blk.below hB_o1 hs_k7
      try have hB_o2 := Blk.below hB_o2 hs_k7
      refine Wl.nil ?_
      refine Wq.back hK_274 ⟨hb, hB_o0, hB_o1⟩ ?_
      refine Wa.take (i := 6) #[true, true, true, true, true, true, true, false, false] rfl (by kernel_rfl) (fun _ _ _ h => h) rfl (fun wq hq => Yl.ld (y_buildS (z := [(.int .i64 0), (.int .i64 0), (.float .f64 0), (str [])]) (pl := [(0, 1), (1, 1), (2, 1), (3, 1)]) (cs := [_, _, _, _]) Tryz.underlying28 (by kernel_rfl) (by kernel_rfl) rfl rfl rfl)) ⟨hb, hB_o0, hB_o1⟩ ?_
      refine Wa.some (rs := [7]) (by kernel_rfl) rfl ?_
      refine Ws.cons #[true, true, true, true, true, true, true, true, false] rfl rfl (fun _ hK_277 => ?_) ?_
      ·
       refine Wl.storeS (by kernel_rfl) rfl rfl hB_o2 rfl rfl ?_
       rintro w_s5 hn_s5 hg_s5
       have hz_s5 := hg_s5.size
       have hb := below_blk hb hg_s5 hb.size (by omega)
       try have hB_o0 := hB_o0.over hg_s5 (by omega)
       try have hB_o1 := hB_o1.over hg_s5 (by omega)
       have hB_o2 := hn_s5
       refine Wl.nil ?_
       refine Wq.back hK_277 ⟨hb, hB_o0, hB_o1⟩ ?_
       refine Wa.take (i := 8) #[true, true, true, true, true, true, true, true, true] rfl (by kernel_rfl) (fun _ _ _ h => h) rfl (fun wq hq => Yl.ld (y_assign rfl)) ⟨hb, hB_o0, hB_o1⟩ ?_
       refine Wa.done (by kernel_rfl) ?_
       refine Wq.next hK_266 <| Wc.ret ?_
       refine retN (rs := [.cell 6 28, .tmp 7]) (vs := [_, _]) rfl (.cell rfl (loadS Tryz.underlying28 (by kernel_rfl) (fun j u hu => hB_o2.at hu)) (.tmp rfl .nil)) ?_
       first | exact ⟨_, rfl, by unfold reckonV arithV; simp_all <;> rfl, hb⟩
      exact Ws.nil
     exact Ws.nil
    exact Ws.nil
   exact Ws.nil
  have g_11_ := g_11
  refine Wl.off' rfl rfl g_11_ rfl rfl ?_
  refine Wl.y (y_pickF rfl g_11_ rfl) rfl ?_
  refine Wl.mv rfl rfl <| Wl.off' rfl rfl rfl rfl rfl <| Wl.off' rfl rfl rfl rfl rfl <| Wl.y (y_pickF rfl rfl rfl) rfl <| Wl.mv rfl rfl <| Wl.on' rfl rfl rfl ?_
  refine Wl.l (l_loadS Tryz.underlying28 (by kernel_rfl) rfl (by first | exact fun j u hu => hB_o0.at hu | exact fun j u hu => hB_o1.at hu | exact fun j u hu => hB_o2.at hu | assumption)) rfl ?_
  refine Wl.on' rfl rfl rfl ?_
  refine Wl.call txt43ValC rfl rfl (Right_r a oa _) rfl ?_
  rintro _ w_k0 ⟨rfl, hs_k0⟩
  have hz_k0 := hs_k0.size
  have hb := hb.trans (hs_k0.mono hb.size)
  try have hB_o0 := Blk.below hB_o0 hs_k0
  try have hB_o1 := Blk.below hB_o1 hs_k0
  try have hB_o2 := Blk.below hB_o2 hs_k0
  refine Wl.on' rfl rfl rfl <| Wl.y (y_not rfl) rfl <| Wl.y (y_pickF rfl rfl rfl) rfl <| Wl.mv rfl rfl ?_
  refine Wl.guardF rfl rfl rfl (fun g_288 => ?_) (fun g_288 => ?_)
  ·
   have g_288_ := g_288
   refine Wl.off' rfl rfl g_288_ rfl rfl <| Wl.off' rfl rfl g_288_ rfl rfl ?_
   refine Wl.y (y_pickT rfl g_288_ rfl) rfl ?_
   refine Wl.sg rfl rfl <| Wl.nil <| Wq.next hK_7 ?_
   refine Wc.condT rfl rfl ?_
   refine Wc.seq fun _ hK_291 => Wc.region ?_
   refine Wl.y (y_buildS (z := [(.int .i64 0), (.int .i64 0), (.float .f64 0), (str [])]) (pl := [(0, 1), (1, 1), (2, 1), (3, 1)]) (cs := [_, _, _, _]) Tryz.underlying28 (by kernel_rfl) (by kernel_rfl) rfl rfl rfl) rfl ?_
   refine Wl.storeS (by kernel_rfl) rfl rfl hB_o2 rfl rfl ?_
   rintro w_s0 hn_s0 hg_s0
   have hz_s0 := hg_s0.size
   have hb := below_blk hb hg_s0 hb.size (by omega)
   have hB_o2 := hn_s0
   refine Wl.sg rfl rfl <| Wl.nil <| Wq.next hK_291 <| Wc.ret ?_
   refine Wq.block_ret (Wq.then_ret ?_)
   refine retN (rs := [.cell 6 28, .tmp 7]) (vs := [_, _]) rfl (.cell rfl (loadS Tryz.underlying28 (by kernel_rfl) (fun j u hu => hB_o2.at hu)) (.tmp rfl .nil)) ?_
   first | exact ⟨_, rfl, by unfold reckonV arithV; simp_all <;> rfl, hb⟩
  have g_288_ := g_288
  refine Wl.l (l_loadS Tryz.underlying28 (by kernel_rfl) rfl (by first | exact fun j u hu => hB_o0.at hu | exact fun j u hu => hB_o1.at hu | exact fun j u hu => hB_o2.at hu | assumption)) rfl ?_
  refine Wl.on' rfl rfl g_288_ ?_
  refine Wl.call txt43ValC rfl rfl (Right_r b ob _) rfl ?_
  rintro _ w_k1 ⟨rfl, hs_k1⟩
  have hz_k1 := hs_k1.size
  have hb := hb.trans (hs_k1.mono hb.size)
  try have hB_o0 := Blk.below hB_o0 hs_k1
  try have hB_o1 := Blk.below hB_o1 hs_k1
  try have hB_o2 := Blk.below hB_o2 hs_k1
  refine Wl.on' rfl rfl g_288_ <| Wl.y (y_not rfl) rfl ?_
  refine Wl.y (y_pickF rfl g_288_ rfl) rfl ?_
  refine Wl.sg rfl rfl <| Wl.nil <| Wq.next hK_7 ?_
  refine Wc.cond rfl (fun c0_299 => ?_) (fun c0_299 => ?_)
  ·
   refine Wc.seq fun _ hK_300 => Wc.region ?_
   refine Wl.y (y_buildS (z := [(.int .i64 0), (.int .i64 0), (.float .f64 0), (str [])]) (pl := [(0, 1), (1, 1), (2, 1), (3, 1)]) (cs := [_, _, _, _]) Tryz.underlying28 (by kernel_rfl) (by kernel_rfl) rfl rfl rfl) rfl ?_
   refine Wl.storeS (by kernel_rfl) rfl rfl hB_o2 rfl rfl ?_
   rintro w_s0 hn_s0 hg_s0
   have hz_s0 := hg_s0.size
   have hb := below_blk hb hg_s0 hb.size (by omega)
   have hB_o2 := hn_s0
   refine Wl.sg rfl rfl <| Wl.nil <| Wq.next hK_300 <| Wc.ret ?_
   refine Wq.block_ret (Wq.then_ret ?_)
   refine retN (rs := [.cell 6 28, .tmp 7]) (vs := [_, _]) rfl (.cell rfl (loadS Tryz.underlying28 (by kernel_rfl) (fun j u hu => hB_o2.at hu)) (.tmp rfl .nil)) ?_
   first | exact ⟨_, rfl, by unfold reckonV arithV; simp_all <;> rfl, hb⟩
  refine Wc.seq fun _ hK_303 => Wc.region ?_
  refine Wl.y (y_fieldAddr (fa28_0ValC _) rfl) rfl ?_
  refine Wl.l (l_load one3ValC rfl (by first | exact hB_o0.at rfl | exact hB_o1.at rfl | exact hB_o2.at rfl | exact hB_o0.cell 0 | exact hB_o1.cell 0 | exact hB_o2.cell 0 | assumption)) rfl ?_
  refine Wl.y (y_eqli rfl rfl) rfl <| Wl.mv rfl rfl ?_
  refine Wl.guardF rfl rfl rfl (fun g_308 => ?_) (fun g_308 => ?_)
  ·
   have g_308_ := g_308
   refine Wl.off' rfl rfl g_308_ rfl rfl <| Wl.off' rfl rfl g_308_ rfl rfl ?_
   refine Wl.y (y_pickT rfl g_308_ rfl) rfl ?_
   refine Wl.sg rfl rfl <| Wl.nil <| Wq.next hK_303 ?_
   refine Wc.condT rfl rfl ?_
   refine Wc.seq fun _ hK_311 => Wc.region ?_
   refine Wl.y (y_buildS (z := [(.int .i64 0), (.int .i64 0), (.float .f64 0), (str [])]) (pl := [(0, 1), (1, 1), (2, 1), (3, 1)]) (cs := [_, _, _, _]) Tryz.underlying28 (by kernel_rfl) (by kernel_rfl) rfl rfl rfl) rfl ?_
   refine Wl.storeS (by kernel_rfl) rfl rfl hB_o2 rfl rfl ?_
   rintro w_s1 hn_s1 hg_s1
   have hz_s1 := hg_s1.size
   have hb := below_blk hb hg_s1 hb.size (by omega)
   have hB_o2 := hn_s1
   refine Wl.sg rfl rfl <| Wl.nil <| Wq.next hK_311 <| Wc.ret ?_
   refine Wq.block_ret (Wq.then_ret ?_)
   refine retN (rs := [.cell 6 28, .tmp 7]) (vs := [_, _]) rfl (.cell rfl (loadS Tryz.underlying28 (by kernel_rfl) (fun j u hu => hB_o2.at hu)) (.tmp rfl .nil)) ?_
   first | exact ⟨_, rfl, by unfold reckonV arithV; simp_all <;> rfl, hb⟩
  have g_308_ := g_308
  refine Wl.y (y_fieldAddr (fa28_0ValC _) rfl) rfl ?_
  refine Wl.on' rfl rfl g_308_ ?_
  refine Wl.l (l_load one3ValC rfl (by first | exact hB_o0.at rfl | exact hB_o1.at rfl | exact hB_o2.at rfl | exact hB_o0.cell 0 | exact hB_o1.cell 0 | exact hB_o2.cell 0 | assumption)) rfl ?_
  refine Wl.on' rfl rfl g_308_ <| Wl.y (y_eqli rfl rfl) rfl ?_
  refine Wl.y (y_pickF rfl g_308_ rfl) rfl ?_
  refine Wl.sg rfl rfl <| Wl.nil <| Wq.next hK_303 ?_
  refine Wc.cond rfl (fun c1_319 => ?_) (fun c1_319 => ?_)
  ·
   refine Wc.seq fun _ hK_320 => Wc.region ?_
   refine Wl.y (y_buildS (z := [(.int .i64 0), (.int .i64 0), (.float .f64 0), (str [])]) (pl := [(0, 1), (1, 1), (2, 1), (3, 1)]) (cs := [_, _, _, _]) Tryz.underlying28 (by kernel_rfl) (by kernel_rfl) rfl rfl rfl) rfl ?_
   refine Wl.storeS (by kernel_rfl) rfl rfl hB_o2 rfl rfl ?_
   rintro w_s1 hn_s1 hg_s1
   have hz_s1 := hg_s1.size
   have hb := below_blk hb hg_s1 hb.size (by omega)
   have hB_o2 := hn_s1
   refine Wl.sg rfl rfl <| Wl.nil <| Wq.next hK_320 <| Wc.ret ?_
   refine Wq.block_ret (Wq.then_ret ?_)
   refine retN (rs := [.cell 6 28, .tmp 7]) (vs := [_, _]) rfl (.cell rfl (loadS Tryz.underlying28 (by kernel_rfl) (fun j u hu => hB_o2.at hu)) (.tmp rfl .nil)) ?_
   first | exact ⟨_, rfl, by unfold reckonV arithV; simp_all <;> rfl, hb⟩
  refine Wc.seq fun _ hK_323 => Wc.region ?_
  refine Wl.l (l_loadS Tryz.underlying28 (by kernel_rfl) rfl (by first | exact fun j u hu => hB_o0.at hu | exact fun j u hu => hB_o1.at hu | exact fun j u hu => hB_o2.at hu | assumption)) rfl ?_
  refine Wl.call txt86ValC rfl rfl (number_r a _) rfl ?_
  rintro _ w_k2 ⟨rfl, hs_k2⟩
  have hz_k2 := hs_k2.size
  have hb := hb.trans (hs_k2.mono hb.size)
  try have hB_o0 := Blk.below hB_o0 hs_k2
  try have hB_o1 := Blk.below hB_o1 hs_k2
  try have hB_o2 := Blk.below hB_o2 hs_k2
  refine Wl.y (y_not rfl) rfl <| Wl.mv rfl rfl ?_
  refine Wl.guardF rfl rfl rfl (fun g_328 => ?_) (fun g_328 => ?_)
  ·
   have g_328_ := g_328
   refine Wl.off' rfl rfl g_328_ rfl rfl <| Wl.off' rfl rfl g_328_ rfl rfl ?_
   refine Wl.y (y_pickT rfl g_328_ rfl) rfl ?_
   refine Wl.sg rfl rfl <| Wl.nil <| Wq.next hK_323 ?_
   refine Wc.condT rfl rfl ?_
   refine Wc.seq fun _ hK_331 => Wc.region ?_
   refine Wl.y (y_buildS (z := [(.int .i64 0), (.int .i64 0), (.float .f64 0), (str [])]) (pl := [(0, 1), (1, 1), (2, 1), (3, 1)]) (cs := [_, _, _, _]) Tryz.underlying28 (by kernel_rfl) (by kernel_rfl) rfl rfl rfl) rfl ?_
   refine Wl.storeS (by kernel_rfl) rfl rfl hB_o2 rfl rfl ?_
   rintro w_s2 hn_s2 hg_s2
   have hz_s2 := hg_s2.size
   have hb := below_blk hb hg_s2 hb.size (by omega)
   have hB_o2 := hn_s2
   refine Wl.sg rfl rfl <| Wl.nil <| Wq.next hK_331 <| Wc.ret ?_
   refine Wq.block_ret (Wq.then_ret ?_)
   refine retN (rs := [.cell 6 28, .tmp 7]) (vs := [_, _]) rfl (.cell rfl (loadS Tryz.underlying28 (by kernel_rfl) (fun j u hu => hB_o2.at hu)) (.tmp rfl .nil)) ?_
   first | exact ⟨_, rfl, by unfold reckonV arithV; simp_all <;> rfl, hb⟩
  have g_328_ := g_328
  refine Wl.l (l_loadS Tryz.underlying28 (by kernel_rfl) rfl (by first | exact fun j u hu => hB_o0.at hu | exact fun j u hu => hB_o1.at hu | exact fun j u hu => hB_o2.at hu | assumption)) rfl ?_
  refine Wl.on' rfl rfl g_328_ ?_
  refine Wl.call txt86ValC rfl rfl (number_r b _) rfl ?_
  rintro _ w_k3 ⟨rfl, hs_k3⟩
  have hz_k3 := hs_k3.size
  have hb := hb.trans (hs_k3.mono hb.size)
  try have hB_o0 := Blk.below hB_o0 hs_k3
  try have hB_o1 := Blk.below hB_o1 hs_k3
  try have hB_o2 := Blk.below hB_o2 hs_k3
  refine Wl.on' rfl rfl g_328_ <| Wl.y (y_not rfl) rfl ?_
  refine Wl.y (y_pickF rfl g_328_ rfl) rfl ?_
  refine Wl.sg rfl rfl <| Wl.nil <| Wq.next hK_323 ?_
  refine Wc.cond rfl (fun c2_339 => ?_) (fun c2_339 => ?_)
  ·
   refine Wc.seq fun _ hK_340 => Wc.region ?_
   refine Wl.y (y_buildS (z := [(.int .i64 0), (.int .i64 0), (.float .f64 0), (str [])]) (pl := [(0, 1), (1, 1), (2, 1), (3, 1)]) (cs := [_, _, _, _]) Tryz.underlying28 (by kernel_rfl) (by kernel_rfl) rfl rfl rfl) rfl ?_
   refine Wl.storeS (by kernel_rfl) rfl rfl hB_o2 rfl rfl ?_
   rintro w_s2 hn_s2 hg_s2
   have hz_s2 := hg_s2.size
   have hb := below_blk hb hg_s2 hb.size (by omega)
   have hB_o2 := hn_s2
   refine Wl.sg rfl rfl <| Wl.nil <| Wq.next hK_340 <| Wc.ret ?_
   refine Wq.block_ret (Wq.then_ret ?_)
   refine retN (rs := [.cell 6 28, .tmp 7]) (vs := [_, _]) rfl (.cell rfl (loadS Tryz.underlying28 (by kernel_rfl) (fun j u hu => hB_o2.at hu)) (.tmp rfl .nil)) ?_
   first | exact ⟨_, rfl, by unfold reckonV arithV; simp_all <;> rfl, hb⟩
  refine Wc.seq fun _ hK_343 => Wc.region ?_
  refine Wl.y (y_fieldAddr (fa28_0ValC _) rfl) rfl ?_
  refine Wl.l (l_load one3ValC rfl (by first | exact hB_o0.at rfl | exact hB_o1.at rfl | exact hB_o2.at rfl | exact hB_o0.cell 0 | exact hB_o1.cell 0 | exact hB_o2.cell 0 | assumption)) rfl ?_
  refine Wl.y (y_eqli rfl rfl) rfl <| Wl.mv rfl rfl ?_
  refine Wl.guardT rfl rfl rfl (fun g_348 => ?_) (fun g_348 => ?_)
  ·
   have g_348_ := g_348
   refine Wl.y (y_fieldAddr (fa28_0ValC _) rfl) rfl ?_
   refine Wl.on' rfl rfl g_348_ ?_
   refine Wl.l (l_load one3ValC rfl (by first | exact hB_o0.at rfl | exact hB_o1.at rfl | exact hB_o2.at rfl | exact hB_o0.cell 0 | exact hB_o1.cell 0 | exact hB_o2.cell 0 | assumption)) rfl ?_
   refine Wl.on' rfl rfl g_348_ <| Wl.y (y_eqli rfl rfl) rfl ?_
   refine Wl.y (y_pickT rfl g_348_ rfl) rfl ?_
   refine Wl.sg rfl rfl <| Wl.nil <| Wq.next hK_343 ?_
   refine Wc.cond rfl (fun c3_354 => ?_) (fun c3_354 => ?_)
   ·
    refine Wc.seq fun _ hK_355 => Wc.region <| Wl.mv rfl rfl ?_
    refine Wl.y (y_fieldAddr (fa28_1ValC _) rfl) rfl ?_
    refine Wl.l (l_load one2ValC rfl (by first | exact hB_o0.at rfl | exact hB_o1.at rfl | exact hB_o2.at rfl | exact hB_o0.cell 0 | exact hB_o1.cell 0 | exact hB_o2.cell 0 | assumption)) rfl ?_
    refine Wl.y (y_fieldAddr (fa28_1ValC _) rfl) rfl ?_
    refine Wl.l (l_load one2ValC rfl (by first | exact hB_o0.at rfl | exact hB_o1.at rfl | exact hB_o2.at rfl | exact hB_o0.cell 0 | exact hB_o1.cell 0 | exact hB_o2.cell 0 | assumption)) rfl ?_
    refine Wl.call txt88ValC rfl rfl (whole_r op _ _ ⟨oa.n0, oa.n1⟩ ⟨ob.n0, ob.n1⟩ _) rfl ?_
    rintro _ w_ ⟨⟨n, t, rfl, ht, hn⟩, hw_⟩
    have hw_ := hw_.symm; subst hw_
    refine Wl.mv rfl rfl <| Wl.y (y_extract rfl rfl) rfl <| Wl.y (y_extract rfl rfl) rfl <| Wl.sg rfl rfl <| Wl.sg rfl rfl <| Wl.nil <| Wq.next hK_355 <| Wc.seq fun _ hK_367 => Wc.seq fun _ hK_368 => Wc.region ?_
    refine Wl.mv rfl rfl <| Wl.y (y_not rfl) rfl <| Wl.nil <| Wq.next hK_368 ?_
    refine Wc.cond rfl (fun c4_371 => ?_) (fun c4_371 => ?_)
    ·
     refine Wc.seq fun _ hK_372 => Wc.region ?_
     refine Wl.y (y_buildS (z := [(.int .i64 0), (.int .i64 0), (.float .f64 0), (str [])]) (pl := [(0, 1), (1, 1), (2, 1), (3, 1)]) (cs := [_, _, _, _]) Tryz.underlying28 (by kernel_rfl) (by kernel_rfl) rfl rfl rfl) rfl ?_
     refine Wl.storeS (by kernel_rfl) rfl rfl hB_o2 rfl rfl ?_
     rintro w_s3 hn_s3 hg_s3
     have hz_s3 := hg_s3.size
     have hb := below_blk hb hg_s3 hb.size (by omega)
     have hB_o2 := hn_s3
     refine Wl.sg rfl rfl <| Wl.nil <| Wq.next hK_372 <| Wc.ret ?_
     refine Wq.then_ret (Wq.block_ret (Wq.then_ret ?_))
     refine retN (rs := [.cell 6 28, .tmp 7]) (vs := [_, _]) rfl (.cell rfl (loadS Tryz.underlying28 (by kernel_rfl) (fun j u hu => hB_o2.at hu)) (.tmp rfl .nil)) ?_
     first | exact ⟨_, rfl, by unfold reckonV arithV; simp_all <;> rfl, hb⟩
    refine Wc.skip <| Wq.next hK_367 <| Wc.seq fun _ hK_375 => Wc.region <| Wl.mv rfl rfl ?_
    refine Wl.y (y_buildS (z := [(.int .i64 0), (.int .i64 0), (.float .f64 0), (str [])]) (pl := [(0, 1), (1, 1), (2, 1), (3, 1)]) (cs := [_, _, _, _]) Tryz.underlying28 (by kernel_rfl) (by kernel_rfl) rfl rfl rfl) rfl ?_
    refine Wl.storeS (by kernel_rfl) rfl rfl hB_o2 rfl rfl ?_
    rintro w_s4 hn_s4 hg_s4
    have hz_s4 := hg_s4.size
    have hb := below_blk hb hg_s4 hb.size (by omega)
    have hB_o2 := hn_s4
    refine Wl.sg rfl rfl <| Wl.nil <| Wq.next hK_375 <| Wc.ret ?_
    refine Wq.block_ret (Wq.then_ret ?_)
    refine retN (rs := [.cell 6 28, .tmp 7]) (vs := [_, _]) rfl (.cell rfl (loadS Tryz.underlying28 (by kernel_rfl) (fun j u hu => hB_o2.at hu)) (.tmp rfl .nil)) ?_
    first | exact ⟨_, rfl, by unfold reckonV arithV; simp_all <;> rfl, hb⟩
   refine Wc.skip <| Wq.block_normal <| Wq.next hK_6 <| Wc.seq fun _ hK_379 => ?_
   refine Wc.any (n := 9) (fun w' => Below w.heap.size w w' ∧ Blk w' g_o0 28 a.cells ∧ Blk w' g_o1 28 b.cells) #[false, false, false, false, false, false, false, false, false] (by kernel_rfl) rfl (by kernel_rfl) ?_
   refine Wa.drew ?_
   rintro w_g12 hs_g12
   have hz_g12 := hs_g12.size
   have hb := hb.trans (hs_g12.mono hb.size)
   try have hB_o0 := Blk.below hB_o0 hs_g12
   try have hB_o1 := Blk.below hB_o1 hs_g12
   try have hB_o2 := Blk.below hB_o2 hs_g12
   refine Wa.take (i := 0) #[true, false, false, false, false, false, false, false, false] rfl (by kernel_rfl) (fun _ _ _ h => h) rfl (fun wq hq => Yl.ld (y_move rfl)) ⟨hb, hB_o0, hB_o1⟩ ?_
   refine Wa.take (i := 1) #[true, true, false, false, false, false, false, false, false] rfl (by kernel_rfl) (fun _ _ _ h => h) rfl (fun wq hq => l_loadS Tryz.underlying28 (by kernel_rfl) rfl (by obtain ⟨hq, hB_o0, hB_o1⟩ := hq; first | exact fun j u hu => hB_o0.at hu | exact fun j u hu => hB_o1.at hu | assumption)) ⟨hb, hB_o0, hB_o1⟩ ?_
   refine Wa.take (i := 3) #[true, true, false, true, false, false, false, false, false] rfl (by kernel_rfl) (fun _ _ _ h => h) rfl (fun wq hq => l_loadS Tryz.underlying28 (by kernel_rfl) rfl (by obtain ⟨hq, hB_o0, hB_o1⟩ := hq; first | exact fun j u hu => hB_o0.at hu | exact fun j u hu => hB_o1.at hu | assumption)) ⟨hb, hB_o0, hB_o1⟩ ?_
   refine Wa.some (rs := [2]) (by kernel_rfl) rfl ?_
   refine Ws.cons #[true, true, true, true, false, false, false, false, false] rfl rfl (fun _ hK_383 => ?_) ?_
   ·
    refine Wl.call txt90ValC rfl rfl (wide_r a _) rfl ?_
    rintro _ w_k5 ⟨rfl, hs_k5⟩
    have hz_k5 := hs_k5.size
    have hb := hb.trans (hs_k5.mono hb.size)
    try have hB_o0 := Blk.below hB_o0 hs_k5
    try have hB_o1 := Blk.below hB_o1 hs_k5
    try have hB_o2 := Blk.below hB_o2 hs_k5
    refine Wl.nil ?_
    refine Wq.back hK_383 ⟨hb, hB_o0, hB_o1⟩ ?_
    refine Wa.some (rs := [4]) (by kernel_rfl) rfl ?_
    refine Ws.cons #[true, true, true, true, true, false, false, false, false] rfl rfl (fun _ hK_385 => ?_) ?_
    ·
     refine Wl.call txt90ValC rfl rfl (wide_r b _) rfl ?_
     rintro _ w_k6 ⟨rfl, hs_k6⟩
     have hz_k6 := hs_k6.size
     have hb := hb.trans (hs_k6.mono hb.size)
     try have hB_o0 := Blk.below hB_o0 hs_k6
     try have hB_o1 := Blk.below hB_o1 hs_k6
     try have hB_o2 := Blk.below hB_o2 hs_k6
     refine Wl.nil ?_
     refine Wq.back hK_385 ⟨hb, hB_o0, hB_o1⟩ ?_
     refine Wa.some (rs := [5]) (by kernel_rfl) rfl ?_
     refine Ws.cons #[true, true, true, true, true, true, false, false, false] rfl rfl (fun _ hK_387 => ?_) ?_
     ·
      refine Wl.call txt89ValC rfl rfl (float_r op _ _ _) rfl ?_
      rintro _ w_k7 ⟨rfl, hs_k7⟩
      have hz_k7 := hs_k7.size
      have hb := hb.trans (hs_k7.mono hb.size)
      try have hB_o0 := Blk.below hB_o0 hs_k7
      try have hB_o1 := Blk.below hB_o1 hs_k7
      try have hB_o2 := Blk.below hB_o2 hs_k7
      refine Wl.nil ?_
      refine Wq.back hK_387 ⟨hb, hB_o0, hB_o1⟩ ?_
      refine Wa.take (i := 6) #[true, true, true, true, true, true, true, false, false] rfl (by kernel_rfl) (fun _ _ _ h => h) rfl (fun wq hq => Yl.ld (y_buildS (z := [(.int .i64 0), (.int .i64 0), (.float .f64 0), (str [])]) (pl := [(0, 1), (1, 1), (2, 1), (3, 1)]) (cs := [_, _, _, _]) Tryz.underlying28 (by kernel_rfl) (by kernel_rfl) rfl rfl rfl)) ⟨hb, hB_o0, hB_o1⟩ ?_
      refine Wa.some (rs := [7]) (by kernel_rfl) rfl ?_
      refine Ws.cons #[true, true, true, true, true, true, true, true, false] rfl rfl (fun _ hK_390 => ?_) ?_
      ·
       refine Wl.storeS (by kernel_rfl) rfl rfl hB_o2 rfl rfl ?_
       rintro w_s5 hn_s5 hg_s5
       have hz_s5 := hg_s5.size
       have hb := below_blk hb hg_s5 hb.size (by omega)
       try have hB_o0 := hB_o0.over hg_s5 (by omega)
       try have hB_o1 := hB_o1.over hg_s5 (by omega)
       have hB_o2 := hn_s5
       refine Wl.nil ?_
       refine Wq.back hK_390 ⟨hb, hB_o0, hB_o1⟩ ?_
       refine Wa.take (i := 8) #[true, true, true, true, true, true, true, true, true] rfl (by kernel_rfl) (fun _ _ _ h => h) rfl (fun wq hq => Yl.ld (y_assign rfl)) ⟨hb, hB_o0, hB_o1⟩ ?_
       refine Wa.done (by kernel_rfl) ?_
       refine Wq.next hK_379 <| Wc.ret ?_
       refine retN (rs := [.cell 6 28, .tmp 7]) (vs := [_, _]) rfl (.cell rfl (loadS Tryz.underlying28 (by kernel_rfl) (fun j u hu => hB_o2.at hu)) (.tmp rfl .nil)) ?_
       first | exact ⟨_, rfl, by unfold reckonV arithV; simp_all <;> rfl, hb⟩
      exact Ws.nil
     exact Ws.nil
    exact Ws.nil
   exact Ws.nil
  have g_348_ := g_348
  refine Wl.off' rfl rfl g_348_ rfl rfl <| Wl.off' rfl rfl g_348_ rfl rfl ?_
  refine Wl.y (y_pickF rfl g_348_ rfl) rfl ?_
  refine Wl.sg rfl rfl <| Wl.nil <| Wq.next hK_343 ?_
  refine Wc.condF rfl rfl ?_
  refine Wc.skip <| Wq.block_normal <| Wq.next hK_6 <| Wc.seq fun _ hK_394 => ?_
  refine Wc.any (n := 9) (fun w' => Below w.heap.size w w' ∧ Blk w' g_o0 28 a.cells ∧ Blk w' g_o1 28 b.cells) #[false, false, false, false, false, false, false, false, false] (by kernel_rfl) rfl (by kernel_rfl) ?_
  refine Wa.drew ?_
  rintro w_g12 hs_g12
  have hz_g12 := hs_g12.size
  have hb := hb.trans (hs_g12.mono hb.size)
  try have hB_o0 := Blk.below hB_o0 hs_g12
  try have hB_o1 := Blk.below hB_o1 hs_g12
  try have hB_o2 := Blk.below hB_o2 hs_g12
  refine Wa.take (i := 0) #[true, false, false, false, false, false, false, false, false] rfl (by kernel_rfl) (fun _ _ _ h => h) rfl (fun wq hq => Yl.ld (y_move rfl)) ⟨hb, hB_o0, hB_o1⟩ ?_
  refine Wa.take (i := 1) #[true, true, false, false, false, false, false, false, false] rfl (by kernel_rfl) (fun _ _ _ h => h) rfl (fun wq hq => l_loadS Tryz.underlying28 (by kernel_rfl) rfl (by obtain ⟨hq, hB_o0, hB_o1⟩ := hq; first | exact fun j u hu => hB_o0.at hu | exact fun j u hu => hB_o1.at hu | assumption)) ⟨hb, hB_o0, hB_o1⟩ ?_
  refine Wa.take (i := 3) #[true, true, false, true, false, false, false, false, false] rfl (by kernel_rfl) (fun _ _ _ h => h) rfl (fun wq hq => l_loadS Tryz.underlying28 (by kernel_rfl) rfl (by obtain ⟨hq, hB_o0, hB_o1⟩ := hq; first | exact fun j u hu => hB_o0.at hu | exact fun j u hu => hB_o1.at hu | assumption)) ⟨hb, hB_o0, hB_o1⟩ ?_
  refine Wa.some (rs := [2]) (by kernel_rfl) rfl ?_
  refine Ws.cons #[true, true, true, true, false, false, false, false, false] rfl rfl (fun _ hK_398 => ?_) ?_
  ·
   refine Wl.call txt90ValC rfl rfl (wide_r a _) rfl ?_
   rintro _ w_k5 ⟨rfl, hs_k5⟩
   have hz_k5 := hs_k5.size
   have hb := hb.trans (hs_k5.mono hb.size)
   try have hB_o0 := Blk.below hB_o0 hs_k5
   try have hB_o1 := Blk.below hB_o1 hs_k5
   try have hB_o2 := Blk.below hB_o2 hs_k5
   refine Wl.nil ?_
   refine Wq.back hK_398 ⟨hb, hB_o0, hB_o1⟩ ?_
   refine Wa.some (rs := [4]) (by kernel_rfl) rfl ?_
   refine Ws.cons #[true, true, true, true, true, false, false, false, false] rfl rfl (fun _ hK_400 => ?_) ?_
   ·
    refine Wl.call txt90ValC rfl rfl (wide_r b _) rfl ?_
    rintro _ w_k6 ⟨rfl, hs_k6⟩
    have hz_k6 := hs_k6.size
    have hb := hb.trans (hs_k6.mono hb.size)
    try have hB_o0 := Blk.below hB_o0 hs_k6
    try have hB_o1 := Blk.below hB_o1 hs_k6
    try have hB_o2 := Blk.below hB_o2 hs_k6
    refine Wl.nil ?_
    refine Wq.back hK_400 ⟨hb, hB_o0, hB_o1⟩ ?_
    refine Wa.some (rs := [5]) (by kernel_rfl) rfl ?_
    refine Ws.cons #[true, true, true, true, true, true, false, false, false] rfl rfl (fun _ hK_402 => ?_) ?_
    ·
     refine Wl.call txt89ValC rfl rfl (float_r op _ _ _) rfl ?_
     rintro _ w_k7 ⟨rfl, hs_k7⟩
     have hz_k7 := hs_k7.size
     have hb := hb.trans (hs_k7.mono hb.size)
     try have hB_o0 := Blk.below hB_o0 hs_k7
     try have hB_o1 := Blk.below hB_o1 hs_k7
     try have hB_o2 := Blk.below hB_o2 hs_k7
     refine Wl.nil ?_
     refine Wq.back hK_402 ⟨hb, hB_o0, hB_o1⟩ ?_
     refine Wa.take (i := 6) #[true, true, true, true, true, true, true, false, false] rfl (by kernel_rfl) (fun _ _ _ h => h) rfl (fun wq hq => Yl.ld (y_buildS (z := [(.int .i64 0), (.int .i64 0), (.float .f64 0), (str [])]) (pl := [(0, 1), (1, 1), (2, 1), (3, 1)]) (cs := [_, _, _, _]) Tryz.underlying28 (by kernel_rfl) (by kernel_rfl) rfl rfl rfl)) ⟨hb, hB_o0, hB_o1⟩ ?_
     refine Wa.some (rs := [7]) (by kernel_rfl) rfl ?_
     refine Ws.cons #[true, true, true, true, true, true, true, true, false] rfl rfl (fun _ hK_405 => ?_) ?_
     ·
      refine Wl.storeS (by kernel_rfl) rfl rfl hB_o2 rfl rfl ?_
      rintro w_s5 hn_s5 hg_s5
      have hz_s5 := hg_s5.size
      have hb := below_blk hb hg_s5 hb.size (by omega)
      try have hB_o0 := hB_o0.over hg_s5 (by omega)
      try have hB_o1 := hB_o1.over hg_s5 (by omega)
      have hB_o2 := hn_s5
      refine Wl.nil ?_
      refine Wq.back hK_405 ⟨hb, hB_o0, hB_o1⟩ ?_
      refine Wa.take (i := 8) #[true, true, true, true, true, true, true, true, true] rfl (by kernel_rfl) (fun _ _ _ h => h) rfl (fun wq hq => Yl.ld (y_assign rfl)) ⟨hb, hB_o0, hB_o1⟩ ?_
      refine Wa.done (by kernel_rfl) ?_
      refine Wq.next hK_394 <| Wc.ret ?_
      refine retN (rs := [.cell 6 28, .tmp 7]) (vs := [_, _]) rfl (.cell rfl (loadS Tryz.underlying28 (by kernel_rfl) (fun j u hu => hB_o2.at hu)) (.tmp rfl .nil)) ?_
      first | exact ⟨_, rfl, by unfold reckonV arithV; simp_all <;> rfl, hb⟩
     exact Ws.nil
    exact Ws.nil
   exact Ws.nil
  exact Ws.nil
end Go.Proofs.YtccgjfcaomngjaaGreatDoor
