/- value.Text, by the calculus. -/
import Derived.Test.YtcljmclolpgdmaaGreatDoorValD
import Derived.Test.YtcljmclolpgdmaaGreatDoorValC
namespace Go.Proofs.YtcljmclolpgdmaaGreatDoor
open Go.RowKit Go.Bw Go.Bw.Fl
set_option linter.unusedVariables false
set_option linter.unusedSimpArgs false
theorem fa28_0VTxt (p : Addr) (w : World) : (Instr.fieldAt 28 (.pointer (some p)) 0).run Tryz.prog w = .ok (.pointer (some (p.add 0))) w := run_fieldAt (i := 0) (sz := 0) Tryz.underlying28 rfl (by kernel_rfl) p w
theorem fa28_1VTxt (p : Addr) (w : World) : (Instr.fieldAt 28 (.pointer (some p)) 1).run Tryz.prog w = .ok (.pointer (some (p.add 1))) w := run_fieldAt (i := 1) (sz := 0) Tryz.underlying28 rfl (by kernel_rfl) p w
theorem fa28_2VTxt (p : Addr) (w : World) : (Instr.fieldAt 28 (.pointer (some p)) 2).run Tryz.prog w = .ok (.pointer (some (p.add 2))) w := run_fieldAt (i := 2) (sz := 0) Tryz.underlying28 rfl (by kernel_rfl) p w
theorem fa28_3VTxt (p : Addr) (w : World) : (Instr.fieldAt 28 (.pointer (some p)) 3).run Tryz.prog w = .ok (.pointer (some (p.add 3))) w := run_fieldAt (i := 3) (sz := 0) Tryz.underlying28 rfl (by kernel_rfl) p w
theorem one2VTxt : One Tryz.prog 2 := ⟨_, Tryz.underlying2, rfl, by kernel_rfl⟩
theorem one26VTxt : One Tryz.prog 26 := ⟨_, Tryz.underlying26, rfl, by kernel_rfl⟩
theorem one3VTxt : One Tryz.prog 3 := ⟨_, Tryz.underlying3, rfl, by kernel_rfl⟩
theorem one9VTxt : One Tryz.prog 9 := ⟨_, Tryz.underlying9, rfl, by kernel_rfl⟩
theorem txt19VTxt : Txt Tryz.prog 19 := ⟨_, Tryz.func19, by kernel_rfl, rfl⟩   -- bridleway/value.Right
theorem txt33VTxt : Txt Tryz.prog 33 := ⟨_, Tryz.func33, by kernel_rfl, rfl⟩   -- strconv.FormatBool
theorem txt34VTxt : Txt Tryz.prog 34 := ⟨_, Tryz.func34, by kernel_rfl, rfl⟩   -- strconv.FormatInt
theorem txt35VTxt : Txt Tryz.prog 35 := ⟨_, Tryz.func35, by kernel_rfl, rfl⟩   -- bridleway/num.Text
theorem txt36VTxt : Txt Tryz.prog 36 := ⟨_, Tryz.func36, by kernel_rfl, rfl⟩   -- bridleway/value.quoted
def textV (q : List UInt8) (a : Val) : List UInt8 × Int :=
  if rightV a = false then ([], 1) else if a.k = 1 then ((if (a.n == 1) = true then [116, 114, 117, 101] else [102, 97, 108, 115, 101]), 0)
  else if a.k = 2 then (Lib.itoa a.n, 0) else if a.k = 3 then (textF a.f, 0) else if a.k = 4 then (q, 0) else ([110, 117, 108, 108], 0)
theorem VText_r (q : List UInt8) (a : Val) (oa : a.Ok) (w : World) (hL : Lb w) (hq : rightV a = true → a.k = 4 → ∀ w, Lb w → Ret Tryz.prog 36 [str a.s] w fun v w' => v = str q ∧ Below w.heap.size w w') : Ret Tryz.prog 14 [a.enc] w fun v w' => v = .tuple #[str (textV q a).1, .int .i64 (textV q a).2] ∧ Below w.heap.size w w' := by
  have hb := Below.refl w.heap.size w
  have hL_hb := hL
  refine enter Tryz.func14 rfl rfl rfl ?_
  refine Wc.seq fun _ hK_1 => ?_
  refine Wc.region ?_
  refine Wl.boxN rfl rfl ?_
  rintro g_o0 w_o0 hg_o0 hn_o0 hs_o0
  have hz_o0 := hs_o0.size
  have hb := hb.trans (hs_o0.mono hb.size)
  have hL := hL_hb.below hb
  have hB_o0 := hn_o0
  have hl_o0 := hB_o0.lt
  refine Wl.y (y_assign rfl) rfl ?_
  refine Wl.y (y_assign rfl) rfl ?_
  refine Wl.nil ?_
  refine Wq.next hK_1 ?_
  refine Wc.seq fun _ hK_5 => ?_
  refine Wc.seq fun _ hK_6 => ?_
  refine Wc.region ?_
  refine Wl.l (l_loadS Tryz.underlying28 (by kernel_rfl) rfl (by first | exact fun j u hu => hB_o0.at hu | assumption)) rfl ?_
  refine Wl.call txt19VTxt rfl rfl (Right_r a oa _) rfl ?_
  rintro _ w_k0 ⟨rfl, hs_k0⟩
  have hz_k0 := hs_k0.size
  have hb := hb.trans (hs_k0.mono hb.size)
  have hL := hL_hb.below hb
  try have hB_o0 := Blk.below hB_o0 hs_k0
  refine Wl.y (y_not rfl) rfl ?_
  refine Wl.nil ?_
  refine Wq.next hK_6 ?_
  refine Wc.cond rfl (fun c0_10 => ?_) (fun c0_10 => ?_)
  ·
   have c0_10_ := c0_10
   try simp only [decide_eq_true_eq, decide_eq_false_iff_not, beq_iff_eq, beq_eq_false_iff_ne, bne_iff_ne, bne_eq_false_iff_eq, Bool.not_eq_true', Bool.not_eq_false', Bool.not_eq_eq_eq_not, Bool.not_true, Bool.not_false, ne_eq, Int.not_lt, Int.not_le] at c0_10
   refine Wc.seq fun _ hK_11 => ?_
   refine Wc.region ?_
   refine Wl.y (y_assign rfl) rfl ?_
   refine Wl.y (y_assign rfl) rfl ?_
   refine Wl.nil ?_
   refine Wq.next hK_11 ?_
   refine Wc.ret ?_
   refine Wq.then_ret ?_
   refine ret2 rfl rfl rfl ?_
   exact ⟨_, rfl, by unfold textV; rw [if_pos (by have h := c0_10_; simpa using h)]; rfl, hb⟩
  ·
   have c0_10_ := c0_10
   try simp only [decide_eq_true_eq, decide_eq_false_iff_not, beq_iff_eq, beq_eq_false_iff_ne, bne_iff_ne, bne_eq_false_iff_eq, Bool.not_eq_true', Bool.not_eq_false', Bool.not_eq_eq_eq_not, Bool.not_true, Bool.not_false, ne_eq, Int.not_lt, Int.not_le] at c0_10
   have hr : rightV a = true := by have h := c0_10_; simpa using h
   have hr' : ¬ rightV a = false := by rw [hr]; simp
   refine Wc.skip ?_
   refine Wq.next hK_5 ?_
   refine Wc.seq fun _ hK_14 => ?_
   refine Wc.seq fun _ hK_15 => ?_
   refine Wc.region ?_
   refine Wl.y (y_fieldAddr (fa28_0VTxt _) rfl) rfl ?_
   refine Wl.l (l_load one3VTxt rfl (by first | exact hB_o0.at rfl | exact hB_o0.cell 0 | assumption)) rfl ?_
   refine Wl.nil ?_
   refine Wq.next hK_15 ?_
   refine Wc.block ?_
   refine Wc.seq fun _ hK_18 => ?_
   refine Wc.region ?_
   refine Wl.y (y_eqli rfl rfl) rfl ?_
   refine Wl.y (y_assign rfl) rfl ?_
   refine Wl.nil ?_
   refine Wq.next hK_18 ?_
   refine Wc.cond rfl (fun c1_21 => ?_) (fun c1_21 => ?_)
   ·
    have c1_21_ := c1_21
    try simp only [decide_eq_true_eq, decide_eq_false_iff_not, beq_iff_eq, beq_eq_false_iff_ne, bne_iff_ne, bne_eq_false_iff_eq, Bool.not_eq_true', Bool.not_eq_false', Bool.not_eq_eq_eq_not, Bool.not_true, Bool.not_false, ne_eq, Int.not_lt, Int.not_le] at c1_21
    refine Wc.seq fun _ hK_22 => ?_
    refine Wc.region ?_
    refine Wl.y (y_fieldAddr (fa28_1VTxt _) rfl) rfl ?_
    refine Wl.l (l_load one2VTxt rfl (by first | exact hB_o0.at rfl | exact hB_o0.cell 0 | assumption)) rfl ?_
    refine Wl.y (y_eqli rfl rfl) rfl ?_
    refine Wl.call txt33VTxt rfl rfl (FormatBool_r _ _) rfl ?_
    rintro _ w_ ⟨rfl, hw_⟩
    have hw_ := hw_.symm; subst hw_
    refine Wl.y (y_assign rfl) rfl ?_
    refine Wl.y (y_assign rfl) rfl ?_
    refine Wl.nil ?_
    refine Wq.next hK_22 ?_
    refine Wc.ret ?_
    refine Wq.block_ret (Wq.then_ret ?_)
    refine ret2 rfl rfl rfl ?_
    exact ⟨_, rfl, by unfold textV; rw [if_neg hr', if_pos c1_21], hb⟩
   ·
    have c1_21_ := c1_21
    try simp only [decide_eq_true_eq, decide_eq_false_iff_not, beq_iff_eq, beq_eq_false_iff_ne, bne_iff_ne, bne_eq_false_iff_eq, Bool.not_eq_true', Bool.not_eq_false', Bool.not_eq_eq_eq_not, Bool.not_true, Bool.not_false, ne_eq, Int.not_lt, Int.not_le] at c1_21
    refine Wc.seq fun _ hK_29 => ?_
    refine Wc.region ?_
    refine Wl.y (y_eqli rfl rfl) rfl ?_
    refine Wl.y (y_assign rfl) rfl ?_
    refine Wl.nil ?_
    refine Wq.next hK_29 ?_
    refine Wc.cond rfl (fun c2_32 => ?_) (fun c2_32 => ?_)
    ·
     have c2_32_ := c2_32
     try simp only [decide_eq_true_eq, decide_eq_false_iff_not, beq_iff_eq, beq_eq_false_iff_ne, bne_iff_ne, bne_eq_false_iff_eq, Bool.not_eq_true', Bool.not_eq_false', Bool.not_eq_eq_eq_not, Bool.not_true, Bool.not_false, ne_eq, Int.not_lt, Int.not_le] at c2_32
     refine Wc.seq fun _ hK_33 => ?_
     refine Wc.region ?_
     refine Wl.y (y_fieldAddr (fa28_1VTxt _) rfl) rfl ?_
     refine Wl.l (l_load one2VTxt rfl (by first | exact hB_o0.at rfl | exact hB_o0.cell 0 | assumption)) rfl ?_
     refine Wl.call txt34VTxt rfl rfl (FormatInt_r _ oa.n0 oa.n1 _ hL) rfl ?_
     rintro _ w_k2 ⟨rfl, hs_k2⟩
     have hz_k2 := hs_k2.size
     have hb := hb.trans (hs_k2.mono hb.size)
     have hL := hL_hb.below hb
     refine Wl.y (y_assign rfl) rfl ?_
     refine Wl.y (y_assign rfl) rfl ?_
     refine Wl.nil ?_
     refine Wq.next hK_33 ?_
     refine Wc.ret ?_
     refine Wq.block_ret (Wq.then_ret ?_)
     refine ret2 rfl rfl rfl ?_
     exact ⟨_, rfl, by unfold textV; rw [if_neg hr', if_neg c1_21, if_pos c2_32], hb⟩
    ·
     have c2_32_ := c2_32
     try simp only [decide_eq_true_eq, decide_eq_false_iff_not, beq_iff_eq, beq_eq_false_iff_ne, bne_iff_ne, bne_eq_false_iff_eq, Bool.not_eq_true', Bool.not_eq_false', Bool.not_eq_eq_eq_not, Bool.not_true, Bool.not_false, ne_eq, Int.not_lt, Int.not_le] at c2_32
     refine Wc.seq fun _ hK_39 => ?_
     refine Wc.region ?_
     refine Wl.y (y_eqli rfl rfl) rfl ?_
     refine Wl.y (y_assign rfl) rfl ?_
     refine Wl.nil ?_
     refine Wq.next hK_39 ?_
     refine Wc.cond rfl (fun c3_42 => ?_) (fun c3_42 => ?_)
     ·
      have c3_42_ := c3_42
      try simp only [decide_eq_true_eq, decide_eq_false_iff_not, beq_iff_eq, beq_eq_false_iff_ne, bne_iff_ne, bne_eq_false_iff_eq, Bool.not_eq_true', Bool.not_eq_false', Bool.not_eq_eq_eq_not, Bool.not_true, Bool.not_false, ne_eq, Int.not_lt, Int.not_le] at c3_42
      refine Wc.seq fun _ hK_43 => ?_
      refine Wc.region ?_
      refine Wl.y (y_fieldAddr (fa28_2VTxt _) rfl) rfl ?_
      refine Wl.l (l_load one26VTxt rfl (by first | exact hB_o0.at rfl | exact hB_o0.cell 0 | assumption)) rfl ?_
      refine Wl.call txt35VTxt rfl rfl (Text_r _ oa.f1 _ hL) rfl ?_
      rintro _ w_k3 ⟨rfl, hs_k3⟩
      have hz_k3 := hs_k3.size
      have hb := hb.trans (hs_k3.mono hb.size)
      have hL := hL_hb.below hb
      refine Wl.y (y_assign rfl) rfl ?_
      refine Wl.y (y_assign rfl) rfl ?_
      refine Wl.nil ?_
      refine Wq.next hK_43 ?_
      refine Wc.ret ?_
      refine Wq.block_ret (Wq.then_ret ?_)
      refine ret2 rfl rfl rfl ?_
      exact ⟨_, rfl, by unfold textV; rw [if_neg hr', if_neg c1_21, if_neg c2_32, if_pos c3_42], hb⟩
     ·
      have c3_42_ := c3_42
      try simp only [decide_eq_true_eq, decide_eq_false_iff_not, beq_iff_eq, beq_eq_false_iff_ne, bne_iff_ne, bne_eq_false_iff_eq, Bool.not_eq_true', Bool.not_eq_false', Bool.not_eq_eq_eq_not, Bool.not_true, Bool.not_false, ne_eq, Int.not_lt, Int.not_le] at c3_42
      refine Wc.seq fun _ hK_49 => ?_
      refine Wc.region ?_
      refine Wl.y (y_eqli rfl rfl) rfl ?_
      refine Wl.y (y_assign rfl) rfl ?_
      refine Wl.nil ?_
      refine Wq.next hK_49 ?_
      refine Wc.cond rfl (fun c4_52 => ?_) (fun c4_52 => ?_)
      ·
       have c4_52_ := c4_52
       try simp only [decide_eq_true_eq, decide_eq_false_iff_not, beq_iff_eq, beq_eq_false_iff_ne, bne_iff_ne, bne_eq_false_iff_eq, Bool.not_eq_true', Bool.not_eq_false', Bool.not_eq_eq_eq_not, Bool.not_true, Bool.not_false, ne_eq, Int.not_lt, Int.not_le] at c4_52
       refine Wc.seq fun _ hK_53 => ?_
       refine Wc.region ?_
       refine Wl.y (y_fieldAddr (fa28_3VTxt _) rfl) rfl ?_
       refine Wl.l (l_load one9VTxt rfl (by first | exact hB_o0.at rfl | exact hB_o0.cell 0 | assumption)) rfl ?_
       refine Wl.call txt36VTxt rfl rfl (hq hr c4_52 _ hL) rfl ?_
       rintro _ w_k4 ⟨rfl, hs_k4⟩
       have hz_k4 := hs_k4.size
       have hb := hb.trans (hs_k4.mono hb.size)
       have hL := hL_hb.below hb
       refine Wl.y (y_assign rfl) rfl ?_
       refine Wl.y (y_assign rfl) rfl ?_
       refine Wl.nil ?_
       refine Wq.next hK_53 ?_
       refine Wc.ret ?_
       refine Wq.block_ret (Wq.then_ret ?_)
       refine ret2 rfl rfl rfl ?_
       exact ⟨_, rfl, by unfold textV; rw [if_neg hr', if_neg c1_21, if_neg c2_32, if_neg c3_42, if_pos c4_52], hb⟩
      ·
       have c4_52_ := c4_52
       try simp only [decide_eq_true_eq, decide_eq_false_iff_not, beq_iff_eq, beq_eq_false_iff_ne, bne_iff_ne, bne_eq_false_iff_eq, Bool.not_eq_true', Bool.not_eq_false', Bool.not_eq_eq_eq_not, Bool.not_true, Bool.not_false, ne_eq, Int.not_lt, Int.not_le] at c4_52
       refine Wc.skip ?_
       refine Wq.block_normal ?_
       refine Wq.next hK_14 ?_
       refine Wc.seq fun _ hK_59 => ?_
       refine Wc.region ?_
       refine Wl.y (y_assign rfl) rfl ?_
       refine Wl.y (y_assign rfl) rfl ?_
       refine Wl.nil ?_
       refine Wq.next hK_59 ?_
       refine Wc.ret ?_
       refine ret2 rfl rfl rfl ?_
       exact ⟨_, rfl, by unfold textV; rw [if_neg hr', if_neg c1_21, if_neg c2_32, if_neg c3_42, if_neg c4_52]; rfl, hb⟩

end Go.Proofs.YtcljmclolpgdmaaGreatDoor
