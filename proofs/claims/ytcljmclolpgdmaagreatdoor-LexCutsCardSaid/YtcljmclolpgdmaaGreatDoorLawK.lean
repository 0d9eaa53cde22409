/- The statement LexCuts, by the calculus. -/
import Derived.Test.YtcljmclolpgdmaaGreatDoorLexY
namespace Go.Proofs.YtcljmclolpgdmaaGreatDoor
open Go.RowKit Go.Bw Go.Bw.Fl
set_option linter.unusedVariables false
set_option linter.unusedSimpArgs false
theorem fa49_2LawK (p : Addr) (w : World) : (Instr.fieldAt 49 (.pointer (some p)) 2).run Tryz.prog w = .ok (.pointer (some (p.add 2))) w := run_fieldAt (i := 2) (sz := 0) Tryz.underlying49 rfl (by kernel_rfl) p w
theorem one3LawK : One Tryz.prog 3 := ⟨_, Tryz.underlying3, rfl, by kernel_rfl⟩
theorem one9LawK : One Tryz.prog 9 := ⟨_, Tryz.underlying9, rfl, by kernel_rfl⟩
theorem sz49LawK : (Tryz.prog.info? 49).map (·.size) = some 3 := by kernel_rfl
theorem txt21LawK : Txt Tryz.prog 21 := ⟨_, Tryz.func21, by kernel_rfl, rfl⟩   -- bridleway/bridlewaylaw10.shown
theorem txt22LawK : Txt Tryz.prog 22 := ⟨_, Tryz.func22, by kernel_rfl, rfl⟩   -- bridleway/lex.Lex
theorem Cuts_r (s : List UInt8) (x : Int) (w : World) (hX : Lx w) (hs : s.length ≤ 140737488355328) : Ret Tryz.prog 9 [str s, .int .i64 x] w fun v w' => v = .bool true ∧ Below w.heap.size w w' := by
  obtain ⟨a, ha⟩ : ∃ a, a = s.take 1000 := ⟨_, rfl⟩
  have hal : a.length ≤ 1000 := by rw [ha]; exact List.length_take_le _ _
  obtain ⟨n, hn⟩ := and65535 x
  have hb := Below.refl w.heap.size w
  have hX_hb := hX
  refine enter Tryz.func9 rfl rfl rfl ?_
  refine Wc.seq fun _ hK_1 => ?_
  refine Wc.region ?_
  refine Wl.y (y_assign rfl) rfl ?_
  refine Wl.nil ?_
  refine Wq.next hK_1 ?_
  refine Wc.seq fun _ hK_3 => ?_
  refine Wc.region ?_
  refine Wl.call txt21LawK rfl rfl (lshown_r _ hX) rfl ?_
  rintro _ w_k0 ⟨rfl, hs_k0⟩
  have hz_k0 := hs_k0.size
  have hb := hb.trans (hs_k0.mono hb.size)
  have hX := hX_hb.below hb
  refine Wl.y (y_assign rfl) rfl ?_
  refine Wl.nil ?_
  refine Wq.next hK_3 ?_
  refine Wc.seq fun _ hK_6 => ?_
  refine Wc.region ?_
  refine Wl.y (y_move rfl) rfl ?_
  refine Wl.y (y_move rfl) rfl ?_
  refine Wl.y (y_lens Tryz.underlying9 (by omega) rfl) rfl ?_
  refine Wl.y (y_eq (y_min rfl rfl) (int_eq (show min (s.length : Int) 1000 = ((min s.length 1000 : Nat) : Int) by omega))) rfl ?_
  refine Wl.y (y_eq (y_slicesH Tryz.underlying9 rfl rfl (by omega) (by omega)) (str_eq (show _ = a by rw [ha, Int.toNat_natCast]; exact List.take_eq_take_iff.2 (by omega)))) rfl ?_
  refine Wl.y (y_assign rfl) rfl ?_
  refine Wl.nil ?_
  refine Wq.next hK_6 ?_
  refine Wc.seq fun _ hK_13 => ?_
  refine Wc.region ?_
  refine Wl.y (y_move rfl) rfl ?_
  refine Wl.call txt22LawK rfl rfl (Lex_y a (by omega) _ hX) rfl ?_
  rintro _ w_k1 ⟨⟨A1, c1, l1, i1, e1, rfl, hR1, hl1, hc1, hx1⟩, hs_k1⟩
  have hz_k1 := hs_k1.size
  have hb := hb.trans (hs_k1.mono hb.size)
  have hX := hX_hb.below hb
  refine Wl.y (y_move rfl) rfl ?_
  refine Wl.y (y_extract rfl rfl) rfl ?_
  refine Wl.y (y_extract rfl rfl) rfl ?_
  refine Wl.y (y_extract rfl rfl) rfl ?_
  refine Wl.y (y_assign rfl) rfl ?_
  refine Wl.y (y_assign rfl) rfl ?_
  refine Wl.y (y_assign rfl) rfl ?_
  refine Wl.nil ?_
  refine Wq.next hK_13 ?_
  refine Wc.seq fun _ hK_23 => ?_
  refine Wc.seq fun _ hK_24 => ?_
  refine Wc.region ?_
  refine Wl.y (y_move rfl) rfl ?_
  refine Wl.y (y_neqi rfl rfl) rfl ?_
  refine Wl.y (y_move rfl) rfl ?_
  refine Wl.guardF rfl rfl rfl (fun g_28 => ?_) (fun g_28 => ?_)
  ·
   have g_28_ := g_28
   try simp only [decide_eq_true_eq, decide_eq_false_iff_not, beq_iff_eq, beq_eq_false_iff_ne, bne_iff_ne, bne_eq_false_iff_eq, Bool.not_eq_true', Bool.not_eq_false', Bool.not_eq_eq_eq_not, Bool.not_true, Bool.not_false, ne_eq, Int.not_lt, Int.not_le] at g_28
   refine Wl.off' rfl rfl g_28_ rfl rfl ?_
   refine Wl.off' rfl rfl g_28_ rfl rfl ?_
   refine Wl.y (y_pickT rfl g_28_ rfl) rfl ?_
   refine Wl.nil ?_
   refine Wq.next hK_24 ?_
   refine Wc.condT rfl rfl ?_
   refine Wc.seq fun _ hK_30 => ?_
   refine Wc.region ?_
   refine Wl.y (y_move rfl) rfl ?_
   refine Wl.y (y_assign rfl) rfl ?_
   refine Wl.nil ?_
   refine Wq.next hK_30 ?_
   refine Wc.ret ?_
   refine Wq.then_ret ?_
   refine ret1 rfl rfl ?_
   exact ⟨_, rfl, rfl, hb⟩
  ·
   have g_28_ := g_28
   try simp only [decide_eq_true_eq, decide_eq_false_iff_not, beq_iff_eq, beq_eq_false_iff_ne, bne_iff_ne, bne_eq_false_iff_eq, Bool.not_eq_true', Bool.not_eq_false', Bool.not_eq_eq_eq_not, Bool.not_true, Bool.not_false, ne_eq, Int.not_lt, Int.not_le] at g_28
   refine Wl.y (y_move rfl) rfl ?_
   refine Wl.on' rfl rfl g_28_ ?_
   refine Wl.y (y_lenl Tryz.underlying39 (by omega) rfl) rfl ?_
   refine Wl.on' rfl rfl g_28_ ?_
   refine Wl.y (y_eqli rfl rfl) rfl ?_
   refine Wl.y (y_pickF rfl g_28_ rfl) rfl ?_
   refine Wl.nil ?_
   refine Wq.next hK_24 ?_
   refine Wc.cond rfl (fun c0_37 => ?_) (fun c0_37 => ?_)
   ·
    have c0_37_ := c0_37
    try simp only [decide_eq_true_eq, decide_eq_false_iff_not, beq_iff_eq, beq_eq_false_iff_ne, bne_iff_ne, bne_eq_false_iff_eq, Bool.not_eq_true', Bool.not_eq_false', Bool.not_eq_eq_eq_not, Bool.not_true, Bool.not_false, ne_eq, Int.not_lt, Int.not_le] at c0_37
    refine Wc.seq fun _ hK_38 => ?_
    refine Wc.region ?_
    refine Wl.y (y_move rfl) rfl ?_
    refine Wl.y (y_assign rfl) rfl ?_
    refine Wl.nil ?_
    refine Wq.next hK_38 ?_
    refine Wc.ret ?_
    refine Wq.then_ret ?_
    refine ret1 rfl rfl ?_
    exact ⟨_, rfl, rfl, hb⟩
   ·
    have c0_37_ := c0_37
    try simp only [decide_eq_true_eq, decide_eq_false_iff_not, beq_iff_eq, beq_eq_false_iff_ne, bne_iff_ne, bne_eq_false_iff_eq, Bool.not_eq_true', Bool.not_eq_false', Bool.not_eq_eq_eq_not, Bool.not_true, Bool.not_false, ne_eq, Int.not_lt, Int.not_le] at c0_37
    obtain ⟨_, hok1⟩ := hx1.good (by have h := g_28; omega)
    have hn0 : l1.length ≠ 0 := by have := c0_37; omega
    obtain ⟨k, hk⟩ : ∃ k, k = n % l1.length := ⟨_, rfl⟩
    have hkl : k < l1.length := by rw [hk]; exact Nat.mod_lt _ (by omega)
    obtain ⟨p1, hp1, hc1_⟩ := Rd.tok hR1 hkl
    subst hp1
    obtain ⟨_, hat, hcut⟩ := lexV_cut _ a 0 l1 k hkl (Nat.le_refl _) hok1
    rw [Nat.sub_zero] at hcut
    refine Wc.skip ?_
    refine Wq.next hK_23 ?_
    refine Wc.seq fun _ hK_41 => ?_
    refine Wc.region ?_
    refine Wl.y (y_move rfl) rfl ?_
    refine Wl.y (y_eq (y_and rfl rfl) (int_eq (show _ = (n : Int) from hn))) rfl ?_
    refine Wl.y (y_move rfl) rfl ?_
    refine Wl.y (y_lenl Tryz.underlying39 (by omega) rfl) rfl ?_
    refine Wl.y (y_eq (y_rem rfl rfl (by first | decide | omega)) (int_eq (show _ = (k : Int) by rw [hk]; rfl))) rfl ?_
    refine Wl.y (y_assign rfl) rfl ?_
    refine Wl.nil ?_
    refine Wq.next hK_41 ?_
    refine Wc.seq fun _ hK_48 => ?_
    refine Wc.region ?_
    refine Wl.y (y_move rfl) rfl ?_
    refine Wl.y (y_move rfl) rfl ?_
    refine Wl.y (y_move rfl) rfl ?_
    refine Wl.y (y_indexAddr Tryz.underlying39 sz49LawK rfl rfl (by omega) (by omega)) rfl ?_
    refine Wl.y (y_fieldAddr (fa49_2LawK _) rfl) rfl ?_
    refine Wl.l (l_load one3LawK rfl (by exact at3 (hc1_ 2 (.int .i64 ((l1[k]).a : Int)) rfl))) rfl ?_
    refine Wl.y (y_eq (y_slicesH Tryz.underlying9 rfl rfl (by omega) (by omega)) (str_eq (show _ = a.take (l1[k]).a by rw [Int.toNat_natCast]))) rfl ?_
    refine Wl.call txt22LawK rfl rfl (Lex_y (a.take (l1[k]).a) (Nat.le_trans (List.length_take_le' _ _) (by omega)) _ hX) rfl ?_
    rintro _ w_k2 ⟨⟨A2, c2, l2, i2, e2, rfl, hR2, hl2, hc2, hx2⟩, hs_k2⟩
    have hz_k2 := hs_k2.size
    have hb := hb.trans (hs_k2.mono hb.size)
    have hX := hX_hb.below hb
    try have hR1 := Rd.below hR1 hs_k2
    refine Wl.y (y_move rfl) rfl ?_
    refine Wl.y (y_extract rfl rfl) rfl ?_
    refine Wl.y (y_extract rfl rfl) rfl ?_
    refine Wl.y (y_extract rfl rfl) rfl ?_
    refine Wl.y (y_assign rfl) rfl ?_
    refine Wl.y (y_assign rfl) rfl ?_
    refine Wl.y (y_assign rfl) rfl ?_
    refine Wl.nil ?_
    refine Wq.next hK_48 ?_
    refine Wc.seq fun _ hK_64 => ?_
    refine Wc.seq fun _ hK_65 => ?_
    obtain ⟨rfl, _, hl2e⟩ := hx2.fine hcut
    have hl2n : l2.length = k := by rw [hl2e, List.length_take]; omega
    refine Wc.region ?_
    refine Wl.y (y_move rfl) rfl ?_
    refine Wl.y (y_neqi rfl rfl) rfl ?_
    refine Wl.y (y_move rfl) rfl ?_
    refine Wl.guardF rfl rfl rfl (fun g_69 => ?_) (fun g_69 => ?_)
    ·
     have g_69_ := g_69
     try simp only [decide_eq_true_eq, decide_eq_false_iff_not, beq_iff_eq, beq_eq_false_iff_ne, bne_iff_ne, bne_eq_false_iff_eq, Bool.not_eq_true', Bool.not_eq_false', Bool.not_eq_eq_eq_not, Bool.not_true, Bool.not_false, ne_eq, Int.not_lt, Int.not_le] at g_69
     exact absurd g_69_ (by decide)
    ·
     have g_69_ := g_69
     try simp only [decide_eq_true_eq, decide_eq_false_iff_not, beq_iff_eq, beq_eq_false_iff_ne, bne_iff_ne, bne_eq_false_iff_eq, Bool.not_eq_true', Bool.not_eq_false', Bool.not_eq_eq_eq_not, Bool.not_true, Bool.not_false, ne_eq, Int.not_lt, Int.not_le] at g_69
     refine Wl.y (y_move rfl) rfl ?_
     refine Wl.on' rfl rfl g_69_ ?_
     refine Wl.y (y_lenl Tryz.underlying39 (by omega) rfl) rfl ?_
     refine Wl.on' rfl rfl g_69_ ?_
     refine Wl.y (y_move rfl) rfl ?_
     refine Wl.on' rfl rfl g_69_ ?_
     refine Wl.y (y_neqi rfl rfl) rfl ?_
     refine Wl.y (y_pickF rfl g_69_ rfl) rfl ?_
     refine Wl.nil ?_
     refine Wq.next hK_65 ?_
     refine Wc.cond rfl (fun c1_75 => ?_) (fun c1_75 => ?_)
     ·
      have c1_75_ := c1_75
      try simp only [decide_eq_true_eq, decide_eq_false_iff_not, beq_iff_eq, beq_eq_false_iff_ne, bne_iff_ne, bne_eq_false_iff_eq, Bool.not_eq_true', Bool.not_eq_false', Bool.not_eq_eq_eq_not, Bool.not_true, Bool.not_false, ne_eq, Int.not_lt, Int.not_le] at c1_75
      (have h := c1_75; omega)
     ·
      have c1_75_ := c1_75
      try simp only [decide_eq_true_eq, decide_eq_false_iff_not, beq_iff_eq, beq_eq_false_iff_ne, bne_iff_ne, bne_eq_false_iff_eq, Bool.not_eq_true', Bool.not_eq_false', Bool.not_eq_eq_eq_not, Bool.not_true, Bool.not_false, ne_eq, Int.not_lt, Int.not_le] at c1_75
      refine Wc.skip ?_
      refine Wq.next hK_64 ?_
      refine Wc.seq fun _ hK_76 => ?_
      refine Wc.seq fun _ hK_77 => ?_
      refine Wc.region ?_
      refine Wl.y (y_assign rfl) rfl ?_
      refine Wl.nil ?_
      refine Wq.next hK_77 ?_
      refine Wc.block ?_
      refine Wc.loop (X := Nat) (fun i => [(5, .bool true), (6, .slice (some p1) l1.length c1), (9, .int .i64 (k : Int)), (10, .slice A2 l2.length c2), (13, .int .i64 (i : Int))]) (fun i wr => i ≤ k ∧ Below w.heap.size w wr ∧ Rd wr 3 (some p1) l1.length (l1.flatMap Tok.cells) ∧ Rd wr 3 A2 l2.length (l2.flatMap Tok.cells)) (fun i => k - i) (0) ?_ ?_ ?_
      · exact Sub.cons' rfl (by first | rfl | exact int_eq (by omega)) (Sub.cons' rfl (by first | rfl | exact int_eq (by omega)) (Sub.cons' rfl (by first | rfl | exact int_eq (by omega)) (Sub.cons' rfl (by first | rfl | exact int_eq (by omega)) (Sub.cons' rfl (by first | rfl | exact int_eq (by omega)) (Sub.nil)))))
      · exact ⟨by omega, hb, hR1, hR2⟩
      ·
       rintro i wr hI_80 _ hL_79
       replace hI_80 : i ≤ k ∧ Below w.heap.size w wr ∧ Rd wr 3 (some p1) l1.length (l1.flatMap Tok.cells) ∧ Rd wr 3 A2 l2.length (l2.flatMap Tok.cells) := hI_80
       obtain ⟨hi, hb, hR1, hR2⟩ := hI_80
       show Wc _ _ _ _ _ [(5, .bool true), (6, .slice (some p1) l1.length c1), (9, .int .i64 (k : Int)), (10, .slice A2 l2.length c2), (13, .int .i64 (i : Int))] _
       have hX := hX_hb.below hb
       try have hzhb_L0 := hb.size
       refine Wc.seq fun _ hK_81 => ?_
       refine Wc.seq fun _ hK_82 => ?_
       refine Wc.region ?_
       refine Wl.y (y_move rfl) rfl ?_
       refine Wl.y (y_move rfl) rfl ?_
       refine Wl.y (y_lssi rfl rfl) rfl ?_
       refine Wl.nil ?_
       refine Wq.next hK_82 ?_
       refine Wc.cond rfl (fun c2_86 => ?_) (fun c2_86 => ?_)
       ·
        have c2_86_ := c2_86
        try simp only [decide_eq_true_eq, decide_eq_false_iff_not, beq_iff_eq, beq_eq_false_iff_ne, bne_iff_ne, bne_eq_false_iff_eq, Bool.not_eq_true', Bool.not_eq_false', Bool.not_eq_eq_eq_not, Bool.not_true, Bool.not_false, ne_eq, Int.not_lt, Int.not_le] at c2_86
        have hik : i < k := by have := c2_86; omega
        have hil1 : i < l1.length := by omega
        have hil2 : i < l2.length := by omega
        obtain ⟨p2, hp2, hc2_⟩ := Rd.tok hR2 hil2
        subst hp2
        obtain ⟨p1', hp1', hd1_⟩ := Rd.tok hR1 hil1
        cases hp1'
        have heq : l2[i] = l1[i] := by subst hl2e; exact List.getElem_take
        refine Wc.skip ?_
        refine Wq.next hK_81 ?_
        refine Wc.seq fun _ hK_87 => ?_
        refine Wc.block ?_
        refine Wc.seq fun _ hK_88 => ?_
        have hb2 := Below.refl wr.heap.size wr
        have hR1_hb2 := hR1
        have hR2_hb2 := hR2
        refine Wc.any (n := 9) (fun w' => Below wr.heap.size wr w') #[false, false, false, false, false, false, false, false, false] (by kernel_rfl) rfl (by kernel_rfl) ?_
        refine Wa.drew ?_
        rintro w_g12 hs_g12
        have hz_g12 := hs_g12.size
        have hb := hb.trans (hs_g12.mono hb.size)
        have hX := hX_hb.below hb
        have hb2 := hb2.trans (hs_g12.mono hb2.size)
        have hR1 := hR1_hb2.below hb2
        have hR2 := hR2_hb2.below hb2
        refine Wa.take (i := 0) #[true, false, false, false, false, false, false, false, false] rfl (by kernel_rfl) (fun _ _ _ h => h) rfl (fun wq hq => Yl.ld (y_move rfl)) hb2 ?_
        refine Wa.take (i := 1) #[true, true, false, false, false, false, false, false, false] rfl (by kernel_rfl) (fun _ _ _ h => h) rfl (fun wq hq => Yl.ld (y_move rfl)) hb2 ?_
        refine Wa.take (i := 2) #[true, true, true, false, false, false, false, false, false] rfl (by kernel_rfl) (fun _ _ _ h => h) rfl (fun wq hq => Yl.ld (y_indexAddr Tryz.underlying39 sz49LawK rfl rfl (by omega) (by omega))) hb2 ?_
        refine Wa.take (i := 3) #[true, true, true, true, false, false, false, false, false] rfl (by kernel_rfl) (fun _ _ _ h => h) rfl (fun wq hq => l_loadS Tryz.underlying49 (by kernel_rfl) rfl (by have hR1 := hR1_hb2.below hq; have hR2 := hR2_hb2.below hq; exact fun j u hu => cell_below hq (hc2_ j u hu))) hb2 ?_
        refine Wa.take (i := 4) #[true, true, true, true, true, false, false, false, false] rfl (by kernel_rfl) (fun _ _ _ h => h) rfl (fun wq hq => Yl.ld (y_move rfl)) hb2 ?_
        refine Wa.take (i := 5) #[true, true, true, true, true, true, false, false, false] rfl (by kernel_rfl) (fun _ _ _ h => h) rfl (fun wq hq => Yl.ld (y_move rfl)) hb2 ?_
        refine Wa.take (i := 6) #[true, true, true, true, true, true, true, false, false] rfl (by kernel_rfl) (fun _ _ _ h => h) rfl (fun wq hq => Yl.ld (y_indexAddr Tryz.underlying39 sz49LawK rfl rfl (by omega) (by omega))) hb2 ?_
        refine Wa.take (i := 7) #[true, true, true, true, true, true, true, true, false] rfl (by kernel_rfl) (fun _ _ _ h => h) rfl (fun wq hq => l_loadS Tryz.underlying49 (by kernel_rfl) rfl (by have hR1 := hR1_hb2.below hq; have hR2 := hR2_hb2.below hq; exact fun j u hu => cell_below hq (hd1_ j u hu))) hb2 ?_
        refine Wa.take (i := 8) #[true, true, true, true, true, true, true, true, true] rfl (by kernel_rfl) (fun _ _ _ h => h) rfl (fun wq hq => Yl.ld (y_neqS (by kernel_rfl) rfl rfl (EqIs.struct Tryz.underlying49 (by kernel_rfl) (FieldsIs.one rfl one3LawK rfl rfl (EqIs.int Tryz.underlying3) (FieldsIs.one rfl one9LawK rfl rfl (EqIs.str Tryz.underlying9) (FieldsIs.one rfl one3LawK rfl rfl (EqIs.int Tryz.underlying3) FieldsIs.nil)))))) hb2 ?_
        refine Wa.done (by kernel_rfl) ?_
        refine Wq.next hK_88 ?_
        refine Wc.cond rfl (fun c3_98 => ?_) (fun c3_98 => ?_)
        ·
         have c3_98_ := c3_98
         try simp only [decide_eq_true_eq, decide_eq_false_iff_not, beq_iff_eq, beq_eq_false_iff_ne, bne_iff_ne, bne_eq_false_iff_eq, Bool.not_eq_true', Bool.not_eq_false', Bool.not_eq_eq_eq_not, Bool.not_true, Bool.not_false, ne_eq, Int.not_lt, Int.not_le] at c3_98
         exact absurd c3_98_ (by simp [heq])
        ·
         have c3_98_ := c3_98
         try simp only [decide_eq_true_eq, decide_eq_false_iff_not, beq_iff_eq, beq_eq_false_iff_ne, bne_iff_ne, bne_eq_false_iff_eq, Bool.not_eq_true', Bool.not_eq_false', Bool.not_eq_eq_eq_not, Bool.not_true, Bool.not_false, ne_eq, Int.not_lt, Int.not_le] at c3_98
         refine Wc.skip ?_
         refine Wq.block_normal ?_
         refine Wq.next hK_87 ?_
         refine Wc.region ?_
         refine Wl.y (y_move rfl) rfl ?_
         refine Wl.y (y_addI rfl rfl (by first | omega | (simp; done) | (simp; omega)) (by first | omega | (simp; done) | (simp; omega))) rfl ?_
         refine Wl.y (y_assign rfl) rfl ?_
         refine Wl.nil ?_
         refine fun a_ ha_ => hL_79 _ _ (i + 1) (by first | omega | (simp; omega)) (Sub.cons' rfl (by first | rfl | exact int_eq (by omega)) (Sub.cons' rfl (by first | rfl | exact int_eq (by omega)) (Sub.cons' rfl (by first | rfl | exact int_eq (by omega)) (Sub.cons' rfl (by first | rfl | exact int_eq (by omega)) (Sub.cons' rfl (by first | rfl | exact int_eq (by omega)) (Sub.nil)))))) ?_ a_ ha_
         exact ⟨by omega, hb, hR1, hR2⟩
       ·
        have c2_86_ := c2_86
        try simp only [decide_eq_true_eq, decide_eq_false_iff_not, beq_iff_eq, beq_eq_false_iff_ne, bne_iff_ne, bne_eq_false_iff_eq, Bool.not_eq_true', Bool.not_eq_false', Bool.not_eq_eq_eq_not, Bool.not_true, Bool.not_false, ne_eq, Int.not_lt, Int.not_le] at c2_86
        refine Wc.exit ?_
        refine Wq.then_exit ?_
        refine Wq.then_exit ?_
        refine Wq.block_exit ?_
        refine Wq.next hK_76 ?_
        refine Wc.seq fun _ hK_102 => ?_
        refine Wc.region ?_
        refine Wl.y (y_move rfl) rfl ?_
        refine Wl.y (y_assign rfl) rfl ?_
        refine Wl.nil ?_
        refine Wq.next hK_102 ?_
        refine Wc.ret ?_
        refine ret1 rfl rfl ?_
        exact ⟨_, rfl, rfl, hb⟩
end Go.Proofs.YtcljmclolpgdmaaGreatDoor
