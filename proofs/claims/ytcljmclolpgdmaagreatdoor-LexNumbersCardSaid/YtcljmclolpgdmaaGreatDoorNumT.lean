/- bridlewayref02.Text at what LexNumbers writes: the walk. -/
import Derived.Test.YtcljmclolpgdmaaGreatDoorNumR
namespace Go.Proofs.YtcljmclolpgdmaaGreatDoor
open Go.RowKit Go.Bw Go.Bw.Fl
set_option linter.unusedVariables false
set_option linter.unusedSimpArgs false
theorem fa28_0NumT (p : Addr) (w : World) : (Instr.fieldAt 28 (.pointer (some p)) 0).run Tryz.prog w = .ok (.pointer (some (p.add 0))) w := run_fieldAt (i := 0) (sz := 0) Tryz.underlying28 rfl (by kernel_rfl) p w
theorem fa28_1NumT (p : Addr) (w : World) : (Instr.fieldAt 28 (.pointer (some p)) 1).run Tryz.prog w = .ok (.pointer (some (p.add 1))) w := run_fieldAt (i := 1) (sz := 0) Tryz.underlying28 rfl (by kernel_rfl) p w
theorem fa28_3NumT (p : Addr) (w : World) : (Instr.fieldAt 28 (.pointer (some p)) 3).run Tryz.prog w = .ok (.pointer (some (p.add 3))) w := run_fieldAt (i := 3) (sz := 0) Tryz.underlying28 rfl (by kernel_rfl) p w
theorem one2NumT : One Tryz.prog 2 := ⟨_, Tryz.underlying2, rfl, by kernel_rfl⟩
theorem one3NumT : One Tryz.prog 3 := ⟨_, Tryz.underlying3, rfl, by kernel_rfl⟩
theorem one9NumT : One Tryz.prog 9 := ⟨_, Tryz.underlying9, rfl, by kernel_rfl⟩
theorem txt37NumT : Txt Tryz.prog 37 := ⟨_, Tryz.func37, by kernel_rfl, rfl⟩   -- bridleway/bridlewayref02.Right
theorem txt38NumT : Txt Tryz.prog 38 := ⟨_, Tryz.func38, by kernel_rfl, rfl⟩   -- bridleway/bridlewayref02.Int
theorem txt39NumT : Txt Tryz.prog 39 := ⟨_, Tryz.func39, by kernel_rfl, rfl⟩   -- bridleway/bridlewayref02.sign
def qc (c : UInt8) : List UInt8 := if c = 92 then [92, 92] else if c = 39 then [92, 39] else if c = 10 then [92, 110] else [c]
def quoteV (s : List UInt8) : List UInt8 := 39 :: (s.flatMap qc ++ [39])
def rtV (a : Val) : List UInt8 := if a.k = 1 then (if a.n = 1 then [116, 114, 117, 101] else [102, 97, 108, 115, 101]) else if a.k = 2 then Lib.itoa a.n else quoteV a.s
theorem qc_len (s : List UInt8) : (s.flatMap qc).length ≤ 2 * s.length := by
  induction s with
  | nil => simp
  | cons c r ih =>
    rw [List.flatMap_cons, List.length_append, List.length_cons]
    have : (qc c).length ≤ 2 := by unfold qc; split <;> (try split) <;> (try split) <;> simp
    omega
theorem qc_take {s : List UInt8} {i : Nat} (h : i < s.length) : (s.take (i + 1)).flatMap qc = (s.take i).flatMap qc ++ qc (s.getD i 0) := by
  rw [take_snoc 0 h, List.flatMap_append]; simp
theorem one_at {s : List UInt8} {i : Nat} (h : i < s.length) : (s.take (i + 1)).drop i = [s.getD i 0] := by
  rw [take_snoc 0 h, List.drop_append_of_le_length (by rw [List.length_take]; omega), List.drop_eq_nil_of_le (by rw [List.length_take]; omega)]; rfl
theorem itoa_neg {n : Int} (h : n < 0) : Lib.itoa n = 45 :: Lib.decDigits n.natAbs := by unfold Lib.itoa; rw [if_pos h]
theorem itoa_pos {n : Int} (h : ¬ n < 0) : Lib.itoa n = Lib.decDigits n.natAbs := by unfold Lib.itoa; rw [if_neg h]; congr 1; omega
theorem itoa_sgn (n : Int) : Lib.itoa n = (if n < 0 then [45] else []) ++ Lib.decDigits n.natAbs := by
  by_cases h : n < 0
  · rw [itoa_neg h, if_pos h]; rfl
  · rw [itoa_pos h, if_neg h]; rfl
theorem rt_val {a : Val} {l : List UInt8} (h : l = rtV a) : Value.tuple #[str l, .int .i64 0] = .tuple #[str (rtV a), .int .i64 0] := by rw [h]
theorem RTextN_r (a : Val) (ha : N3 a) (oa : a.Ok) (hl : a.s.length ≤ 50) (w : World) : Ret Tryz.prog 15 [a.enc] w fun v w' => v = .tuple #[str (rtV a), .int .i64 0] ∧ Below w.heap.size w w' := by
  have hn0 := oa.n0
  have hn1 := oa.n1
  have hdl := decDigits_le a.n.natAbs (by omega)
  have hb := Below.refl w.heap.size w
  refine enter Tryz.func15 rfl rfl rfl ?_
  refine Wc.seq fun _ hK_1 => ?_
  refine Wc.region ?_
  refine Wl.boxN rfl rfl ?_
  rintro g_o0 w_o0 hg_o0 hn_o0 hs_o0
  have hz_o0 := hs_o0.size
  have hb := hb.trans (hs_o0.mono hb.size)
  have hB_o0 := hn_o0
  have hl_o0 := hB_o0.lt
  refine Wl.y (y_assign rfl) rfl ?_
  refine Wl.y (y_assign rfl) rfl ?_
  refine Wl.nil ?_
  refine Wq.next hK_1 ?_
  refine Wc.seq fun _ hK_5 => ?_
  refine Wc.region ?_
  refine Wl.l (l_loadS Tryz.underlying28 (by kernel_rfl) rfl (by first | exact fun j u hu => hB_o0.at hu | assumption)) rfl ?_
  refine Wl.call txt37NumT rfl rfl (RRightN_r a ha _) rfl ?_
  rintro _ w_k0 ⟨rfl, hs_k0⟩
  have hz_k0 := hs_k0.size
  have hb := hb.trans (hs_k0.mono hb.size)
  try have hB_o0 := Blk.below hB_o0 hs_k0
  refine Wl.y (y_assign rfl) rfl ?_
  refine Wl.nil ?_
  refine Wq.next hK_5 ?_
  refine Wc.seq fun _ hK_9 => ?_
  refine Wc.seq fun _ hK_10 => ?_
  refine Wc.region ?_
  refine Wl.y (y_move rfl) rfl ?_
  refine Wl.y (y_not rfl) rfl ?_
  refine Wl.nil ?_
  refine Wq.next hK_10 ?_
  refine Wc.cond rfl (fun c0_13 => ?_) (fun c0_13 => ?_)
  ·
   have c0_13_ := c0_13
   try simp only [decide_eq_true_eq, decide_eq_false_iff_not, beq_iff_eq, beq_eq_false_iff_ne, bne_iff_ne, bne_eq_false_iff_eq, Bool.not_eq_true', Bool.not_eq_false', Bool.not_eq_eq_eq_not, Bool.not_true, Bool.not_false, ne_eq, Int.not_lt, Int.not_le] at c0_13
   cases c0_13_
  ·
   have c0_13_ := c0_13
   try simp only [decide_eq_true_eq, decide_eq_false_iff_not, beq_iff_eq, beq_eq_false_iff_ne, bne_iff_ne, bne_eq_false_iff_eq, Bool.not_eq_true', Bool.not_eq_false', Bool.not_eq_eq_eq_not, Bool.not_true, Bool.not_false, ne_eq, Int.not_lt, Int.not_le] at c0_13
   refine Wc.skip ?_
   refine Wq.next hK_9 ?_
   refine Wc.seq fun _ hK_14 => ?_
   refine Wc.seq fun _ hK_15 => ?_
   refine Wc.region ?_
   refine Wl.y (y_fieldAddr (fa28_0NumT _) rfl) rfl ?_
   refine Wl.l (l_load one3NumT rfl (by first | exact hB_o0.at rfl | exact hB_o0.cell 0 | assumption)) rfl ?_
   refine Wl.nil ?_
   refine Wq.next hK_15 ?_
   refine Wc.block ?_
   refine Wc.seq fun _ hK_18 => ?_
   refine Wc.region ?_
   refine Wl.y (y_eqli rfl rfl) rfl ?_
   refine Wl.y (y_assign rfl) rfl ?_
   refine Wl.nil ?_
   refine Wq.next hK_18 ?_
   refine Wc.cond rfl (fun c1_21 => ?_) (fun c1_21 => ?_)
   ·
    have c1_21_ := c1_21
    try simp only [decide_eq_true_eq, decide_eq_false_iff_not, beq_iff_eq, beq_eq_false_iff_ne, bne_iff_ne, bne_eq_false_iff_eq, Bool.not_eq_true', Bool.not_eq_false', Bool.not_eq_eq_eq_not, Bool.not_true, Bool.not_false, ne_eq, Int.not_lt, Int.not_le] at c1_21
    (have h := c1_21; unfold N3 at ha; omega)
   ·
    have c1_21_ := c1_21
    try simp only [decide_eq_true_eq, decide_eq_false_iff_not, beq_iff_eq, beq_eq_false_iff_ne, bne_iff_ne, bne_eq_false_iff_eq, Bool.not_eq_true', Bool.not_eq_false', Bool.not_eq_eq_eq_not, Bool.not_true, Bool.not_false, ne_eq, Int.not_lt, Int.not_le] at c1_21
    refine Wc.seq fun _ hK_22 => ?_
    refine Wc.region ?_
    refine Wl.y (y_eqli rfl rfl) rfl ?_
    refine Wl.y (y_assign rfl) rfl ?_
    refine Wl.nil ?_
    refine Wq.next hK_22 ?_
    refine Wc.cond rfl (fun c2_25 => ?_) (fun c2_25 => ?_)
    ·
     have c2_25_ := c2_25
     try simp only [decide_eq_true_eq, decide_eq_false_iff_not, beq_iff_eq, beq_eq_false_iff_ne, bne_iff_ne, bne_eq_false_iff_eq, Bool.not_eq_true', Bool.not_eq_false', Bool.not_eq_eq_eq_not, Bool.not_true, Bool.not_false, ne_eq, Int.not_lt, Int.not_le] at c2_25
     refine Wc.seq fun _ hK_26 => ?_
     refine Wc.seq fun _ hK_27 => ?_
     refine Wc.region ?_
     refine Wl.y (y_fieldAddr (fa28_1NumT _) rfl) rfl ?_
     refine Wl.l (l_load one2NumT rfl (by first | exact hB_o0.at rfl | exact hB_o0.cell 0 | assumption)) rfl ?_
     refine Wl.y (y_eqli rfl rfl) rfl ?_
     refine Wl.nil ?_
     refine Wq.next hK_27 ?_
     refine Wc.cond rfl (fun c3_31 => ?_) (fun c3_31 => ?_)
     ·
      have c3_31_ := c3_31
      try simp only [decide_eq_true_eq, decide_eq_false_iff_not, beq_iff_eq, beq_eq_false_iff_ne, bne_iff_ne, bne_eq_false_iff_eq, Bool.not_eq_true', Bool.not_eq_false', Bool.not_eq_eq_eq_not, Bool.not_true, Bool.not_false, ne_eq, Int.not_lt, Int.not_le] at c3_31
      refine Wc.seq fun _ hK_32 => ?_
      refine Wc.region ?_
      refine Wl.y (y_assign rfl) rfl ?_
      refine Wl.y (y_assign rfl) rfl ?_
      refine Wl.nil ?_
      refine Wq.next hK_32 ?_
      refine Wc.ret ?_
      refine Wq.then_ret (Wq.block_ret (Wq.then_ret ?_))
      refine ret2 rfl rfl rfl ?_
      exact ⟨_, rfl, rt_val (by unfold rtV; rw [if_pos c2_25, if_pos c3_31]), hb⟩
     ·
      have c3_31_ := c3_31
      try simp only [decide_eq_true_eq, decide_eq_false_iff_not, beq_iff_eq, beq_eq_false_iff_ne, bne_iff_ne, bne_eq_false_iff_eq, Bool.not_eq_true', Bool.not_eq_false', Bool.not_eq_eq_eq_not, Bool.not_true, Bool.not_false, ne_eq, Int.not_lt, Int.not_le] at c3_31
      refine Wc.skip ?_
      refine Wq.next hK_26 ?_
      refine Wc.seq fun _ hK_35 => ?_
      refine Wc.region ?_
      refine Wl.y (y_assign rfl) rfl ?_
      refine Wl.y (y_assign rfl) rfl ?_
      refine Wl.nil ?_
      refine Wq.next hK_35 ?_
      refine Wc.ret ?_
      refine Wq.block_ret (Wq.then_ret ?_)
      refine ret2 rfl rfl rfl ?_
      exact ⟨_, rfl, rt_val (by unfold rtV; rw [if_pos c2_25, if_neg c3_31]), hb⟩
    ·
     have c2_25_ := c2_25
     try simp only [decide_eq_true_eq, decide_eq_false_iff_not, beq_iff_eq, beq_eq_false_iff_ne, bne_iff_ne, bne_eq_false_iff_eq, Bool.not_eq_true', Bool.not_eq_false', Bool.not_eq_eq_eq_not, Bool.not_true, Bool.not_false, ne_eq, Int.not_lt, Int.not_le] at c2_25
     refine Wc.seq fun _ hK_38 => ?_
     refine Wc.region ?_
     refine Wl.y (y_eqli rfl rfl) rfl ?_
     refine Wl.y (y_assign rfl) rfl ?_
     refine Wl.nil ?_
     refine Wq.next hK_38 ?_
     refine Wc.cond rfl (fun c4_41 => ?_) (fun c4_41 => ?_)
     ·
      have c4_41_ := c4_41
      try simp only [decide_eq_true_eq, decide_eq_false_iff_not, beq_iff_eq, beq_eq_false_iff_ne, bne_iff_ne, bne_eq_false_iff_eq, Bool.not_eq_true', Bool.not_eq_false', Bool.not_eq_eq_eq_not, Bool.not_true, Bool.not_false, ne_eq, Int.not_lt, Int.not_le] at c4_41
      refine Wc.seq fun _ hK_42 => ?_
      refine Wc.seq fun _ hK_43 => ?_
      refine Wc.region ?_
      refine Wl.y (y_fieldAddr (fa28_1NumT _) rfl) rfl ?_
      refine Wl.l (l_load one2NumT rfl (by first | exact hB_o0.at rfl | exact hB_o0.cell 0 | assumption)) rfl ?_
      refine Wl.y (y_lssi rfl rfl) rfl ?_
      refine Wl.y (y_move rfl) rfl ?_
      refine Wl.guardT rfl rfl rfl (fun g_48 => ?_) (fun g_48 => ?_)
      ·
       have g_48_ := g_48
       try simp only [decide_eq_true_eq, decide_eq_false_iff_not, beq_iff_eq, beq_eq_false_iff_ne, bne_iff_ne, bne_eq_false_iff_eq, Bool.not_eq_true', Bool.not_eq_false', Bool.not_eq_eq_eq_not, Bool.not_true, Bool.not_false, ne_eq, Int.not_lt, Int.not_le] at g_48
       refine Wl.y (y_fieldAddr (fa28_1NumT _) rfl) rfl ?_
       refine Wl.on' rfl rfl g_48_ ?_
       refine Wl.l (l_load one2NumT rfl (by first | exact hB_o0.at rfl | exact hB_o0.cell 0 | assumption)) rfl ?_
       refine Wl.on' rfl rfl g_48_ ?_
       refine Wl.y (y_gtri rfl rfl) rfl ?_
       refine Wl.y (y_pickT rfl g_48_ rfl) rfl ?_
       refine Wl.nil ?_
       refine Wq.next hK_43 ?_
       refine Wc.cond rfl (fun c5_53 => ?_) (fun c5_53 => ?_)
       ·
        have c5_53_ := c5_53
        try simp only [decide_eq_true_eq, decide_eq_false_iff_not, beq_iff_eq, beq_eq_false_iff_ne, bne_iff_ne, bne_eq_false_iff_eq, Bool.not_eq_true', Bool.not_eq_false', Bool.not_eq_eq_eq_not, Bool.not_true, Bool.not_false, ne_eq, Int.not_lt, Int.not_le] at c5_53
        refine Wc.seq fun _ hK_54 => ?_
        refine Wc.region ?_
        refine Wl.y (y_fieldAddr (fa28_1NumT _) rfl) rfl ?_
        refine Wl.l (l_load one2NumT rfl (by first | exact hB_o0.at rfl | exact hB_o0.cell 0 | assumption)) rfl ?_
        refine Wl.call txt38NumT rfl rfl (RInt_r _ a.n rfl hn0 hn1 _) rfl ?_
        rintro _ w_k1 ⟨rfl, hs_k1⟩
        have hz_k1 := hs_k1.size
        have hb := hb.trans (hs_k1.mono hb.size)
        refine Wl.y (y_adds rfl rfl (by first | omega | (simp; done) | (simp; omega))) rfl ?_
        refine Wl.y (y_assign rfl) rfl ?_
        refine Wl.y (y_assign rfl) rfl ?_
        refine Wl.nil ?_
        refine Wq.next hK_54 ?_
        refine Wc.ret ?_
        refine Wq.then_ret (Wq.block_ret (Wq.then_ret ?_))
        refine ret2 rfl rfl rfl ?_
        exact ⟨_, rfl, rt_val (by unfold rtV; rw [if_neg c2_25, if_pos c4_41, itoa_neg (by have := g_48; omega)]; rfl), hb⟩
       ·
        have c5_53_ := c5_53
        try simp only [decide_eq_true_eq, decide_eq_false_iff_not, beq_iff_eq, beq_eq_false_iff_ne, bne_iff_ne, bne_eq_false_iff_eq, Bool.not_eq_true', Bool.not_eq_false', Bool.not_eq_eq_eq_not, Bool.not_true, Bool.not_false, ne_eq, Int.not_lt, Int.not_le] at c5_53
        refine Wc.skip ?_
        refine Wq.next hK_42 ?_
        refine Wc.seq fun _ hK_61 => ?_
        refine Wc.any (n := 9) (fun w' => Below w.heap.size w w' ∧ Blk w' g_o0 28 a.cells) #[false, false, false, false, false, false, false, false, false] (by kernel_rfl) rfl (by kernel_rfl) ?_
        refine Wa.drew ?_
        rintro w_g14 hs_g14
        have hz_g14 := hs_g14.size
        have hb := hb.trans (hs_g14.mono hb.size)
        try have hB_o0 := Blk.below hB_o0 hs_g14
        refine Wa.take (i := 0) #[true, false, false, false, false, false, false, false, false] rfl (by kernel_rfl) (fun _ _ _ h => h) rfl (fun wq hq => Yl.ld (y_fieldAddr (fa28_1NumT _) rfl)) ⟨hb, hB_o0⟩ ?_
        refine Wa.take (i := 1) #[true, true, false, false, false, false, false, false, false] rfl (by kernel_rfl) (fun _ _ _ h => h) rfl (fun wq hq => l_load one2NumT rfl (by obtain ⟨hq, hB_o0⟩ := hq; first | exact hB_o0.at rfl | exact hB_o0.cell 0 | assumption)) ⟨hb, hB_o0⟩ ?_
        refine Wa.take (i := 3) #[true, true, false, true, false, false, false, false, false] rfl (by kernel_rfl) (fun _ _ _ h => h) rfl (fun wq hq => Yl.ld (y_fieldAddr (fa28_1NumT _) rfl)) ⟨hb, hB_o0⟩ ?_
        refine Wa.take (i := 4) #[true, true, false, true, true, false, false, false, false] rfl (by kernel_rfl) (fun _ _ _ h => h) rfl (fun wq hq => l_load one2NumT rfl (by obtain ⟨hq, hB_o0⟩ := hq; first | exact hB_o0.at rfl | exact hB_o0.cell 0 | assumption)) ⟨hb, hB_o0⟩ ?_
        refine Wa.some (rs := [2]) (by kernel_rfl) rfl ?_
        refine Ws.cons #[true, true, true, true, true, false, false, false, false] rfl rfl (fun _ hK_66 => ?_) ?_
        ·
         refine Wl.call txt39NumT rfl rfl (rsign_r a.n _) rfl ?_
         rintro _ w_k2 ⟨rfl, hs_k2⟩
         have hz_k2 := hs_k2.size
         have hb := hb.trans (hs_k2.mono hb.size)
         try have hB_o0 := Blk.below hB_o0 hs_k2
         refine Wl.nil ?_
         refine Wq.back hK_66 ⟨hb, hB_o0⟩ ?_
         refine Wa.some (rs := [5]) (by kernel_rfl) rfl ?_
         refine Ws.cons #[true, true, true, true, true, true, false, false, false] rfl rfl (fun _ hK_68 => ?_) ?_
         ·
          refine Wl.call txt38NumT rfl rfl (RInt_r _ a.n rfl hn0 hn1 _) rfl ?_
          rintro _ w_k3 ⟨rfl, hs_k3⟩
          have hz_k3 := hs_k3.size
          have hb := hb.trans (hs_k3.mono hb.size)
          try have hB_o0 := Blk.below hB_o0 hs_k3
          refine Wl.nil ?_
          refine Wq.back hK_68 ⟨hb, hB_o0⟩ ?_
          refine Wa.take (i := 6) #[true, true, true, true, true, true, true, false, false] rfl (by kernel_rfl) (fun _ _ _ h => h) rfl (fun wq hq => Yl.ld (y_adds rfl rfl (by first | omega | (split <;> simp <;> omega)))) ⟨hb, hB_o0⟩ ?_
          refine Wa.take (i := 7) #[true, true, true, true, true, true, true, true, false] rfl (by kernel_rfl) (fun _ _ _ h => h) rfl (fun wq hq => Yl.ld (y_assign rfl)) ⟨hb, hB_o0⟩ ?_
          refine Wa.take (i := 8) #[true, true, true, true, true, true, true, true, true] rfl (by kernel_rfl) (fun _ _ _ h => h) rfl (fun wq hq => Yl.ld (y_assign rfl)) ⟨hb, hB_o0⟩ ?_
          refine Wa.done (by kernel_rfl) ?_
          refine Wq.next hK_61 ?_
          refine Wc.ret ?_
          refine Wq.block_ret (Wq.then_ret ?_)
          refine ret2 rfl rfl rfl ?_
          exact ⟨_, rfl, rt_val (by unfold rtV; rw [if_neg c2_25, if_pos c4_41, itoa_sgn]), hb⟩
         exact Ws.nil
        exact Ws.nil
      ·
       have g_48_ := g_48
       try simp only [decide_eq_true_eq, decide_eq_false_iff_not, beq_iff_eq, beq_eq_false_iff_ne, bne_iff_ne, bne_eq_false_iff_eq, Bool.not_eq_true', Bool.not_eq_false', Bool.not_eq_eq_eq_not, Bool.not_true, Bool.not_false, ne_eq, Int.not_lt, Int.not_le] at g_48
       refine Wl.off' rfl rfl g_48_ rfl rfl ?_
       refine Wl.off' rfl rfl g_48_ rfl rfl ?_
       refine Wl.y (y_pickF rfl g_48_ rfl) rfl ?_
       refine Wl.nil ?_
       refine Wq.next hK_43 ?_
       refine Wc.condF rfl rfl ?_
       refine Wc.skip ?_
       refine Wq.next hK_42 ?_
       refine Wc.seq fun _ hK_74 => ?_
       refine Wc.any (n := 9) (fun w' => Below w.heap.size w w' ∧ Blk w' g_o0 28 a.cells) #[false, false, false, false, false, false, false, false, false] (by kernel_rfl) rfl (by kernel_rfl) ?_
       refine Wa.drew ?_
       rintro w_g14 hs_g14
       have hz_g14 := hs_g14.size
       have hb := hb.trans (hs_g14.mono hb.size)
       try have hB_o0 := Blk.below hB_o0 hs_g14
       refine Wa.take (i := 0) #[true, false, false, false, false, false, false, false, false] rfl (by kernel_rfl) (fun _ _ _ h => h) rfl (fun wq hq => Yl.ld (y_fieldAddr (fa28_1NumT _) rfl)) ⟨hb, hB_o0⟩ ?_
       refine Wa.take (i := 1) #[true, true, false, false, false, false, false, false, false] rfl (by kernel_rfl) (fun _ _ _ h => h) rfl (fun wq hq => l_load one2NumT rfl (by obtain ⟨hq, hB_o0⟩ := hq; first | exact hB_o0.at rfl | exact hB_o0.cell 0 | assumption)) ⟨hb, hB_o0⟩ ?_
       refine Wa.take (i := 3) #[true, true, false, true, false, false, false, false, false] rfl (by kernel_rfl) (fun _ _ _ h => h) rfl (fun wq hq => Yl.ld (y_fieldAddr (fa28_1NumT _) rfl)) ⟨hb, hB_o0⟩ ?_
       refine Wa.take (i := 4) #[true, true, false, true, true, false, false, false, false] rfl (by kernel_rfl) (fun _ _ _ h => h) rfl (fun wq hq => l_load one2NumT rfl (by obtain ⟨hq, hB_o0⟩ := hq; first | exact hB_o0.at rfl | exact hB_o0.cell 0 | assumption)) ⟨hb, hB_o0⟩ ?_
       refine Wa.some (rs := [2]) (by kernel_rfl) rfl ?_
       refine Ws.cons #[true, true, true, true, true, false, false, false, false] rfl rfl (fun _ hK_79 => ?_) ?_
       ·
        refine Wl.call txt39NumT rfl rfl (rsign_r a.n _) rfl ?_
        rintro _ w_k2 ⟨rfl, hs_k2⟩
        have hz_k2 := hs_k2.size
        have hb := hb.trans (hs_k2.mono hb.size)
        try have hB_o0 := Blk.below hB_o0 hs_k2
        refine Wl.nil ?_
        refine Wq.back hK_79 ⟨hb, hB_o0⟩ ?_
        refine Wa.some (rs := [5]) (by kernel_rfl) rfl ?_
        refine Ws.cons #[true, true, true, true, true, true, false, false, false] rfl rfl (fun _ hK_81 => ?_) ?_
        ·
         refine Wl.call txt38NumT rfl rfl (RInt_r _ a.n rfl hn0 hn1 _) rfl ?_
         rintro _ w_k3 ⟨rfl, hs_k3⟩
         have hz_k3 := hs_k3.size
         have hb := hb.trans (hs_k3.mono hb.size)
         try have hB_o0 := Blk.below hB_o0 hs_k3
         refine Wl.nil ?_
         refine Wq.back hK_81 ⟨hb, hB_o0⟩ ?_
         refine Wa.take (i := 6) #[true, true, true, true, true, true, true, false, false] rfl (by kernel_rfl) (fun _ _ _ h => h) rfl (fun wq hq => Yl.ld (y_adds rfl rfl (by first | omega | (split <;> simp <;> omega)))) ⟨hb, hB_o0⟩ ?_
         refine Wa.take (i := 7) #[true, true, true, true, true, true, true, true, false] rfl (by kernel_rfl) (fun _ _ _ h => h) rfl (fun wq hq => Yl.ld (y_assign rfl)) ⟨hb, hB_o0⟩ ?_
         refine Wa.take (i := 8) #[true, true, true, true, true, true, true, true, true] rfl (by kernel_rfl) (fun _ _ _ h => h) rfl (fun wq hq => Yl.ld (y_assign rfl)) ⟨hb, hB_o0⟩ ?_
         refine Wa.done (by kernel_rfl) ?_
         refine Wq.next hK_74 ?_
         refine Wc.ret ?_
         refine Wq.block_ret (Wq.then_ret ?_)
         refine ret2 rfl rfl rfl ?_
         exact ⟨_, rfl, rt_val (by unfold rtV; rw [if_neg c2_25, if_pos c4_41, itoa_sgn]), hb⟩
        exact Ws.nil
       exact Ws.nil
     ·
      have c4_41_ := c4_41
      try simp only [decide_eq_true_eq, decide_eq_false_iff_not, beq_iff_eq, beq_eq_false_iff_ne, bne_iff_ne, bne_eq_false_iff_eq, Bool.not_eq_true', Bool.not_eq_false', Bool.not_eq_eq_eq_not, Bool.not_true, Bool.not_false, ne_eq, Int.not_lt, Int.not_le] at c4_41
      have hk4 : a.k = 4 := by have h1 := c1_21; have h2 := c2_25; have h3 := c4_41; unfold N3 at ha; omega
      refine Wc.seq fun _ hK_86 => ?_
      refine Wc.region ?_
      refine Wl.y (y_eqli rfl rfl) rfl ?_
      refine Wl.y (y_assign rfl) rfl ?_
      refine Wl.nil ?_
      refine Wq.next hK_86 ?_
      refine Wc.cond rfl (fun c6_89 => ?_) (fun c6_89 => ?_)
      ·
       have c6_89_ := c6_89
       try simp only [decide_eq_true_eq, decide_eq_false_iff_not, beq_iff_eq, beq_eq_false_iff_ne, bne_iff_ne, bne_eq_false_iff_eq, Bool.not_eq_true', Bool.not_eq_false', Bool.not_eq_eq_eq_not, Bool.not_true, Bool.not_false, ne_eq, Int.not_lt, Int.not_le] at c6_89
       (have h := c6_89; unfold N3 at ha; omega)
      ·
       have c6_89_ := c6_89
       try simp only [decide_eq_true_eq, decide_eq_false_iff_not, beq_iff_eq, beq_eq_false_iff_ne, bne_iff_ne, bne_eq_false_iff_eq, Bool.not_eq_true', Bool.not_eq_false', Bool.not_eq_eq_eq_not, Bool.not_true, Bool.not_false, ne_eq, Int.not_lt, Int.not_le] at c6_89
       refine Wc.skip ?_
       refine Wq.block_normal ?_
       refine Wq.next hK_14 ?_
       refine Wc.seq fun _ hK_90 => ?_
       refine Wc.region ?_
       refine Wl.y (y_assign rfl) rfl ?_
       refine Wl.nil ?_
       refine Wq.next hK_90 ?_
       refine Wc.seq fun _ hK_92 => ?_
       refine Wc.seq fun _ hK_93 => ?_
       refine Wc.region ?_
       refine Wl.y (y_assign rfl) rfl ?_
       refine Wl.nil ?_
       refine Wq.next hK_93 ?_
       refine Wc.block ?_
       refine Wc.loop (X := Nat) (fun i => [(1, .pointer (some ⟨g_o0, 0, none⟩)), (5, str (39 :: (a.s.take i).flatMap qc)), (6, .int .i64 (i : Int))]) (fun i wr => i ≤ a.s.length ∧ Below w.heap.size w wr ∧ Blk wr g_o0 28 a.cells) (fun i => a.s.length - i) (0) ?_ ?_ ?_
       · exact Sub.cons' rfl (by first | rfl | exact int_eq (by omega) | exact str_eq (by rw [qc_take hil, ← hc, hqc]; rfl)) (Sub.cons' rfl (by first | rfl | exact int_eq (by omega) | exact str_eq (by rw [qc_take hil, ← hc, hqc]; rfl)) (Sub.cons' rfl (by first | rfl | exact int_eq (by omega) | exact str_eq (by rw [qc_take hil, ← hc, hqc]; rfl)) (Sub.nil)))
       · exact ⟨by omega, hb, hB_o0⟩
       ·
        rintro i wr hI_96 _ hL_95
        replace hI_96 : i ≤ a.s.length ∧ Below w.heap.size w wr ∧ Blk wr g_o0 28 a.cells := hI_96
        obtain ⟨hi, hb, hB_o0⟩ := hI_96
        show Wc _ _ _ _ _ [(1, .pointer (some ⟨g_o0, 0, none⟩)), (5, str (39 :: (a.s.take i).flatMap qc)), (6, .int .i64 (i : Int))] _
        try have hzhb_L0 := hb.size
        have hlhB_o0_L0 := hB_o0.lt
        refine Wc.seq fun _ hK_97 => ?_
        refine Wc.seq fun _ hK_98 => ?_
        refine Wc.region ?_
        refine Wl.y (y_move rfl) rfl ?_
        refine Wl.y (y_fieldAddr (fa28_3NumT _) rfl) rfl ?_
        refine Wl.l (l_load one9NumT rfl (by exact hB_o0.at (j := 3) rfl)) rfl ?_
        refine Wl.y (y_lens Tryz.underlying9 (by omega) rfl) rfl ?_
        refine Wl.y (y_lssi rfl rfl) rfl ?_
        refine Wl.nil ?_
        refine Wq.next hK_98 ?_
        refine Wc.cond rfl (fun c7_104 => ?_) (fun c7_104 => ?_)
        ·
         have c7_104_ := c7_104
         try simp only [decide_eq_true_eq, decide_eq_false_iff_not, beq_iff_eq, beq_eq_false_iff_ne, bne_iff_ne, bne_eq_false_iff_eq, Bool.not_eq_true', Bool.not_eq_false', Bool.not_eq_eq_eq_not, Bool.not_true, Bool.not_false, ne_eq, Int.not_lt, Int.not_le] at c7_104
         have hil : i < a.s.length := by have := c7_104; omega
         obtain ⟨c, hc⟩ : ∃ c, c = a.s.getD i 0 := ⟨_, rfl⟩
         have hql := qc_len (a.s.take i)
         have hqt : (a.s.take i).length ≤ 50 := Nat.le_trans (List.length_take_le' _ _) hl
         refine Wc.skip ?_
         refine Wq.next hK_97 ?_
         refine Wc.seq fun _ hK_105 => ?_
         refine Wc.block ?_
         refine Wc.seq fun _ hK_106 => ?_
         refine Wc.region ?_
         refine Wl.y (y_fieldAddr (fa28_3NumT _) rfl) rfl ?_
         refine Wl.l (l_load one9NumT rfl (by exact hB_o0.at (j := 3) rfl)) rfl ?_
         refine Wl.y (y_move rfl) rfl ?_
         refine Wl.y (y_eq (y_indexs Tryz.underlying9 rfl rfl (by omega) (by omega)) (int_eq (show _ = (c.toNat : Int) by rw [hc, Int.toNat_natCast]))) rfl ?_
         refine Wl.nil ?_
         refine Wq.next hK_106 ?_
         refine Wc.block ?_
         refine Wc.seq fun _ hK_111 => ?_
         refine Wc.region ?_
         refine Wl.y (y_eqli rfl rfl) rfl ?_
         refine Wl.y (y_assign rfl) rfl ?_
         refine Wl.nil ?_
         refine Wq.next hK_111 ?_
         refine Wc.cond rfl (fun c8_114 => ?_) (fun c8_114 => ?_)
         ·
          have c8_114_ := c8_114
          try simp only [decide_eq_true_eq, decide_eq_false_iff_not, beq_iff_eq, beq_eq_false_iff_ne, bne_iff_ne, bne_eq_false_iff_eq, Bool.not_eq_true', Bool.not_eq_false', Bool.not_eq_eq_eq_not, Bool.not_true, Bool.not_false, ne_eq, Int.not_lt, Int.not_le] at c8_114
          have hq1 : c = 92 := u8_of (n := 92) c8_114 (by decide)
          have hqc : qc c = [92, 92] := by unfold qc; rw [if_pos hq1]
          refine Wc.region ?_
          refine Wl.y (y_move rfl) rfl ?_
          refine Wl.y (y_adds rfl rfl (by simp only [List.length_cons, List.length_append, List.length_nil]; omega)) rfl ?_
          refine Wl.y (y_assign rfl) rfl ?_
          refine Wl.nil ?_
          refine Wq.block_normal ?_
          refine Wq.block_normal ?_
          refine Wq.next hK_105 ?_
          refine Wc.region ?_
          refine Wl.y (y_move rfl) rfl ?_
          refine Wl.y (y_addI rfl rfl (by first | omega | (simp; done) | (simp; omega)) (by first | omega | (simp; done) | (simp; omega))) rfl ?_
          refine Wl.y (y_assign rfl) rfl ?_
          refine Wl.nil ?_
          refine fun a_ ha_ => hL_95 _ _ (i + 1) (by first | omega | (simp; omega)) (Sub.cons' rfl (by first | rfl | exact int_eq (by omega) | exact str_eq (by rw [qc_take hil, ← hc, hqc]; rfl)) (Sub.cons' rfl (by first | rfl | exact int_eq (by omega) | exact str_eq (by rw [qc_take hil, ← hc, hqc]; rfl)) (Sub.cons' rfl (by first | rfl | exact int_eq (by omega) | exact str_eq (by rw [qc_take hil, ← hc, hqc]; rfl)) (Sub.nil)))) ?_ a_ ha_
          exact ⟨by omega, hb, hB_o0⟩
         ·
          have c8_114_ := c8_114
          try simp only [decide_eq_true_eq, decide_eq_false_iff_not, beq_iff_eq, beq_eq_false_iff_ne, bne_iff_ne, bne_eq_false_iff_eq, Bool.not_eq_true', Bool.not_eq_false', Bool.not_eq_eq_eq_not, Bool.not_true, Bool.not_false, ne_eq, Int.not_lt, Int.not_le] at c8_114
          have hq1 : ¬ c = 92 := u8_not (n := 92) c8_114 (by decide)
          refine Wc.seq fun _ hK_121 => ?_
          refine Wc.region ?_
          refine Wl.y (y_eqli rfl rfl) rfl ?_
          refine Wl.y (y_assign rfl) rfl ?_
          refine Wl.nil ?_
          refine Wq.next hK_121 ?_
          refine Wc.cond rfl (fun c9_124 => ?_) (fun c9_124 => ?_)
          ·
           have c9_124_ := c9_124
           try simp only [decide_eq_true_eq, decide_eq_false_iff_not, beq_iff_eq, beq_eq_false_iff_ne, bne_iff_ne, bne_eq_false_iff_eq, Bool.not_eq_true', Bool.not_eq_false', Bool.not_eq_eq_eq_not, Bool.not_true, Bool.not_false, ne_eq, Int.not_lt, Int.not_le] at c9_124
           have hq2 : c = 39 := u8_of (n := 39) c9_124 (by decide)
           have hqc : qc c = [92, 39] := by unfold qc; rw [if_neg hq1, if_pos hq2]
           refine Wc.region ?_
           refine Wl.y (y_move rfl) rfl ?_
           refine Wl.y (y_adds rfl rfl (by simp only [List.length_cons, List.length_append, List.length_nil]; omega)) rfl ?_
           refine Wl.y (y_assign rfl) rfl ?_
           refine Wl.nil ?_
           refine Wq.block_normal ?_
           refine Wq.block_normal ?_
           refine Wq.next hK_105 ?_
           refine Wc.region ?_
           refine Wl.y (y_move rfl) rfl ?_
           refine Wl.y (y_addI rfl rfl (by first | omega | (simp; done) | (simp; omega)) (by first | omega | (simp; done) | (simp; omega))) rfl ?_
           refine Wl.y (y_assign rfl) rfl ?_
           refine Wl.nil ?_
           refine fun a_ ha_ => hL_95 _ _ (i + 1) (by first | omega | (simp; omega)) (Sub.cons' rfl (by first | rfl | exact int_eq (by omega) | exact str_eq (by rw [qc_take hil, ← hc, hqc]; rfl)) (Sub.cons' rfl (by first | rfl | exact int_eq (by omega) | exact str_eq (by rw [qc_take hil, ← hc, hqc]; rfl)) (Sub.cons' rfl (by first | rfl | exact int_eq (by omega) | exact str_eq (by rw [qc_take hil, ← hc, hqc]; rfl)) (Sub.nil)))) ?_ a_ ha_
           exact ⟨by omega, hb, hB_o0⟩
          ·
           have c9_124_ := c9_124
           try simp only [decide_eq_true_eq, decide_eq_false_iff_not, beq_iff_eq, beq_eq_false_iff_ne, bne_iff_ne, bne_eq_false_iff_eq, Bool.not_eq_true', Bool.not_eq_false', Bool.not_eq_eq_eq_not, Bool.not_true, Bool.not_false, ne_eq, Int.not_lt, Int.not_le] at c9_124
           have hq2 : ¬ c = 39 := u8_not (n := 39) c9_124 (by decide)
           refine Wc.seq fun _ hK_131 => ?_
           refine Wc.region ?_
           refine Wl.y (y_eqli rfl rfl) rfl ?_
           refine Wl.y (y_assign rfl) rfl ?_
           refine Wl.nil ?_
           refine Wq.next hK_131 ?_
           refine Wc.cond rfl (fun c10_134 => ?_) (fun c10_134 => ?_)
           ·
            have c10_134_ := c10_134
            try simp only [decide_eq_true_eq, decide_eq_false_iff_not, beq_iff_eq, beq_eq_false_iff_ne, bne_iff_ne, bne_eq_false_iff_eq, Bool.not_eq_true', Bool.not_eq_false', Bool.not_eq_eq_eq_not, Bool.not_true, Bool.not_false, ne_eq, Int.not_lt, Int.not_le] at c10_134
            have hq3 : c = 10 := u8_of (n := 10) c10_134 (by decide)
            have hqc : qc c = [92, 110] := by unfold qc; rw [if_neg hq1, if_neg hq2, if_pos hq3]
            refine Wc.region ?_
            refine Wl.y (y_move rfl) rfl ?_
            refine Wl.y (y_adds rfl rfl (by simp only [List.length_cons, List.length_append, List.length_nil]; omega)) rfl ?_
            refine Wl.y (y_assign rfl) rfl ?_
            refine Wl.nil ?_
            refine Wq.block_normal ?_
            refine Wq.block_normal ?_
            refine Wq.next hK_105 ?_
            refine Wc.region ?_
            refine Wl.y (y_move rfl) rfl ?_
            refine Wl.y (y_addI rfl rfl (by first | omega | (simp; done) | (simp; omega)) (by first | omega | (simp; done) | (simp; omega))) rfl ?_
            refine Wl.y (y_assign rfl) rfl ?_
            refine Wl.nil ?_
            refine fun a_ ha_ => hL_95 _ _ (i + 1) (by first | omega | (simp; omega)) (Sub.cons' rfl (by first | rfl | exact int_eq (by omega) | exact str_eq (by rw [qc_take hil, ← hc, hqc]; rfl)) (Sub.cons' rfl (by first | rfl | exact int_eq (by omega) | exact str_eq (by rw [qc_take hil, ← hc, hqc]; rfl)) (Sub.cons' rfl (by first | rfl | exact int_eq (by omega) | exact str_eq (by rw [qc_take hil, ← hc, hqc]; rfl)) (Sub.nil)))) ?_ a_ ha_
            exact ⟨by omega, hb, hB_o0⟩
           ·
            have c10_134_ := c10_134
            try simp only [decide_eq_true_eq, decide_eq_false_iff_not, beq_iff_eq, beq_eq_false_iff_ne, bne_iff_ne, bne_eq_false_iff_eq, Bool.not_eq_true', Bool.not_eq_false', Bool.not_eq_eq_eq_not, Bool.not_true, Bool.not_false, ne_eq, Int.not_lt, Int.not_le] at c10_134
            have hq3 : ¬ c = 10 := u8_not (n := 10) c10_134 (by decide)
            have hqc : qc c = [c] := by unfold qc; rw [if_neg hq1, if_neg hq2, if_neg hq3]
            refine Wc.region ?_
            refine Wl.y (y_move rfl) rfl ?_
            refine Wl.y (y_fieldAddr (fa28_3NumT _) rfl) rfl ?_
            refine Wl.l (l_load one9NumT rfl (by exact hB_o0.at (j := 3) rfl)) rfl ?_
            refine Wl.y (y_move rfl) rfl ?_
            refine Wl.y (y_move rfl) rfl ?_
            refine Wl.y (y_addI rfl rfl (by first | omega | (simp; done) | (simp; omega)) (by first | omega | (simp; done) | (simp; omega))) rfl ?_
            refine Wl.y (y_eq (y_slices Tryz.underlying9 rfl rfl rfl (by omega) (by omega) (by omega)) (str_eq (show (a.s.take ((i : Int) + 1).toNat).drop (i : Int).toNat = [c] by rw [show ((i : Int) + 1).toNat = i + 1 by omega, Int.toNat_natCast, one_at hil, hc]))) rfl ?_
            refine Wl.y (y_adds rfl rfl (by simp only [List.length_cons, List.length_append, List.length_nil]; omega)) rfl ?_
            refine Wl.y (y_assign rfl) rfl ?_
            refine Wl.nil ?_
            refine Wq.block_normal ?_
            refine Wq.block_normal ?_
            refine Wq.next hK_105 ?_
            refine Wc.region ?_
            refine Wl.y (y_move rfl) rfl ?_
            refine Wl.y (y_addI rfl rfl (by first | omega | (simp; done) | (simp; omega)) (by first | omega | (simp; done) | (simp; omega))) rfl ?_
            refine Wl.y (y_assign rfl) rfl ?_
            refine Wl.nil ?_
            refine fun a_ ha_ => hL_95 _ _ (i + 1) (by first | omega | (simp; omega)) (Sub.cons' rfl (by first | rfl | exact int_eq (by omega) | exact str_eq (by rw [qc_take hil, ← hc, hqc]; rfl)) (Sub.cons' rfl (by first | rfl | exact int_eq (by omega) | exact str_eq (by rw [qc_take hil, ← hc, hqc]; rfl)) (Sub.cons' rfl (by first | rfl | exact int_eq (by omega) | exact str_eq (by rw [qc_take hil, ← hc, hqc]; rfl)) (Sub.nil)))) ?_ a_ ha_
            exact ⟨by omega, hb, hB_o0⟩
        ·
         have c7_104_ := c7_104
         try simp only [decide_eq_true_eq, decide_eq_false_iff_not, beq_iff_eq, beq_eq_false_iff_ne, bne_iff_ne, bne_eq_false_iff_eq, Bool.not_eq_true', Bool.not_eq_false', Bool.not_eq_eq_eq_not, Bool.not_true, Bool.not_false, ne_eq, Int.not_lt, Int.not_le] at c7_104
         refine Wc.exit ?_
         refine Wq.then_exit ?_
         refine Wq.then_exit ?_
         refine Wq.block_exit ?_
         refine Wq.next hK_92 ?_
         refine Wc.seq fun _ hK_153 => ?_
         refine Wc.region ?_
         have hql := qc_len (a.s.take i)
         have hqt : (a.s.take i).length ≤ 50 := Nat.le_trans (List.length_take_le' _ _) hl
         refine Wl.y (y_move rfl) rfl ?_
         refine Wl.y (y_adds rfl rfl (by simp only [List.length_cons, List.length_append, List.length_nil]; omega)) rfl ?_
         refine Wl.y (y_assign rfl) rfl ?_
         refine Wl.y (y_assign rfl) rfl ?_
         refine Wl.nil ?_
         refine Wq.next hK_153 ?_
         refine Wc.ret ?_
         refine ret2 rfl rfl rfl ?_
         exact ⟨_, rfl, rt_val (by unfold rtV quoteV; rw [if_neg c2_25, if_neg c4_41, List.take_of_length_le (by have := c7_104; omega)]; rfl), hb⟩
end Go.Proofs.YtcljmclolpgdmaaGreatDoor
