/- bridlewayref02.Text at what LexNumbers writes, by the calculus. -/
import Derived.Test.YtcljmclolpgdmaaGreatDoorLexY
import Derived.Test.YtcljmclolpgdmaaGreatDoorRefA
namespace Go.Proofs.YtcljmclolpgdmaaGreatDoor
open Go.RowKit Go.Bw Go.Bw.Fl
set_option linter.unusedVariables false
set_option linter.unusedSimpArgs false
theorem exn53NumR : Extn Tryz.prog 53 Extern.MathFloatBits.float64bits := fun args w => run_callFunc_extern Tryz.func53 (by kernel_rfl) (by kernel_rfl) (by kernel_rfl) (by kernel_rfl) args w
theorem fa28_0NumR (p : Addr) (w : World) : (Instr.fieldAt 28 (.pointer (some p)) 0).run Tryz.prog w = .ok (.pointer (some (p.add 0))) w := run_fieldAt (i := 0) (sz := 0) Tryz.underlying28 rfl (by kernel_rfl) p w
theorem fa28_1NumR (p : Addr) (w : World) : (Instr.fieldAt 28 (.pointer (some p)) 1).run Tryz.prog w = .ok (.pointer (some (p.add 1))) w := run_fieldAt (i := 1) (sz := 0) Tryz.underlying28 rfl (by kernel_rfl) p w
theorem fa28_2NumR (p : Addr) (w : World) : (Instr.fieldAt 28 (.pointer (some p)) 2).run Tryz.prog w = .ok (.pointer (some (p.add 2))) w := run_fieldAt (i := 2) (sz := 0) Tryz.underlying28 rfl (by kernel_rfl) p w
theorem fa28_3NumR (p : Addr) (w : World) : (Instr.fieldAt 28 (.pointer (some p)) 3).run Tryz.prog w = .ok (.pointer (some (p.add 3))) w := run_fieldAt (i := 3) (sz := 0) Tryz.underlying28 rfl (by kernel_rfl) p w
theorem one2NumR : One Tryz.prog 2 := ⟨_, Tryz.underlying2, rfl, by kernel_rfl⟩
theorem one26NumR : One Tryz.prog 26 := ⟨_, Tryz.underlying26, rfl, by kernel_rfl⟩
theorem one3NumR : One Tryz.prog 3 := ⟨_, Tryz.underlying3, rfl, by kernel_rfl⟩
theorem one9NumR : One Tryz.prog 9 := ⟨_, Tryz.underlying9, rfl, by kernel_rfl⟩
theorem txt38NumR : Txt Tryz.prog 38 := ⟨_, Tryz.func38, by kernel_rfl, rfl⟩   -- bridleway/bridlewayref02.Int
theorem nt_abs (n : Int) : (n.tdiv 10).natAbs = n.natAbs / 10 ∧ (0 ≤ n → n.tmod 10 = ((n.natAbs % 10 : Nat) : Int)) ∧ (n < 0 → n.tmod 10 = -((n.natAbs % 10 : Nat) : Int)) := by
  rcases Int.lt_or_le n 0 with h | h
  · obtain ⟨u, hu⟩ : ∃ u : Nat, n = -(u : Int) := ⟨n.natAbs, by omega⟩
    subst hu
    have e1 : ((-(u : Int)).tdiv 10) = -((u / 10 : Nat) : Int) := by rw [Int.neg_tdiv, Int.tdiv_eq_ediv_of_nonneg (by omega)]; omega
    have e2 : ((-(u : Int)).tmod 10) = -((u % 10 : Nat) : Int) := by rw [Int.neg_tmod, Int.tmod_eq_emod_of_nonneg (by omega)]; omega
    rw [e1, e2]; omega
  · obtain ⟨u, hu⟩ : ∃ u : Nat, n = (u : Int) := ⟨n.natAbs, by omega⟩
    subst hu
    have e1 : ((u : Int).tdiv 10) = ((u / 10 : Nat) : Int) := by rw [Int.tdiv_eq_ediv_of_nonneg (by omega)]; omega
    have e2 : ((u : Int).tmod 10) = ((u % 10 : Nat) : Int) := by rw [Int.tmod_eq_emod_of_nonneg (by omega)]; omega
    rw [e1, e2]; omega
theorem RInt_r (u : Nat) : ∀ (n : Int) (hu : n.natAbs = u) (h0 : -9223372036854775808 ≤ n) (h1 : n ≤ 9223372036854775807) (w : World), Ret Tryz.prog 38 [.int .i64 n] w fun v w' => v = str (Lib.decDigits u) ∧ Below w.heap.size w w' := by
  induction u using Nat.strongRecOn with
  | ind u ih =>
  intro n hu h0 h1 w
  obtain ⟨hq, hm0, hm1⟩ := nt_abs n
  rw [hu] at hq hm0 hm1
  have hqb : -9223372036854775808 ≤ n.tdiv 10 ∧ n.tdiv 10 ≤ 9223372036854775807 := by omega
  have hb := Below.refl w.heap.size w
  refine enter Tryz.func38 rfl rfl rfl ?_
  refine Wc.seq fun _ hK_1 => ?_
  refine Wc.region ?_
  refine Wl.y (y_assign rfl) rfl ?_
  refine Wl.nil ?_
  refine Wq.next hK_1 ?_
  refine Wc.seq fun _ hK_3 => ?_
  refine Wc.region ?_
  refine Wl.y (y_move rfl) rfl ?_
  refine Wl.y (y_rem rfl rfl (by first | decide | omega)) rfl ?_
  refine Wl.y (y_assign rfl) rfl ?_
  refine Wl.nil ?_
  refine Wq.next hK_3 ?_
  refine Wc.seq fun _ hK_7 => ?_
  refine Wc.seq fun _ hK_8 => ?_
  refine Wc.region ?_
  refine Wl.y (y_move rfl) rfl ?_
  refine Wl.y (y_lssi rfl rfl) rfl ?_
  refine Wl.nil ?_
  refine Wq.next hK_8 ?_
  refine Wc.meet (X := Unit) (fun u_ => [(0, .int .i64 n), (3, .int .i64 (u % 10 : Nat))]) (fun u_ wr => Below w.heap.size w wr) (fun _ hM_11 => ?_) ?_
  ·
   refine Wc.cond rfl (fun c0_12 => ?_) (fun c0_12 => ?_)
   ·
    have c0_12_ := c0_12
    try simp only [decide_eq_true_eq, decide_eq_false_iff_not, beq_iff_eq, beq_eq_false_iff_ne, bne_iff_ne, bne_eq_false_iff_eq, Bool.not_eq_true', Bool.not_eq_false', Bool.not_eq_eq_eq_not, Bool.not_true, Bool.not_false, ne_eq, Int.not_lt, Int.not_le] at c0_12
    refine Wc.region ?_
    refine Wl.y (y_move rfl) rfl ?_
    refine Wl.y (y_eq (y_negi rfl) (int_eq (show _ = ((u % 10 : Nat) : Int) by have := c0_12; first | (rw [wrap_i64 _ (by omega) (by omega)]; omega) | omega))) rfl ?_
    refine Wl.y (y_assign rfl) rfl ?_
    refine Wl.nil ?_
    refine Wq.meet hM_11 (()) (Sub.cons' rfl (by first | rfl | exact int_eq (by have := c0_12; omega)) (Sub.cons' rfl (by first | rfl | exact int_eq (by have := c0_12; omega)) (Sub.nil))) ?_
    exact hb
   ·
    have c0_12_ := c0_12
    try simp only [decide_eq_true_eq, decide_eq_false_iff_not, beq_iff_eq, beq_eq_false_iff_ne, bne_iff_ne, bne_eq_false_iff_eq, Bool.not_eq_true', Bool.not_eq_false', Bool.not_eq_eq_eq_not, Bool.not_true, Bool.not_false, ne_eq, Int.not_lt, Int.not_le] at c0_12
    refine Wc.skip ?_
    refine Wq.meet hM_11 (()) (Sub.cons' rfl (by first | rfl | exact int_eq (by have := c0_12; omega)) (Sub.cons' rfl (by first | rfl | exact int_eq (by have := c0_12; omega)) (Sub.nil))) ?_
    exact hb
  ·
   rintro u_ wr hI_16
   replace hI_16 : Below w.heap.size w wr := hI_16
   have hb := hI_16
   show Wq _ _ _ _ [(0, .int .i64 n), (3, .int .i64 (u % 10 : Nat))] _
   try have hzhb_c0 := hb.size
   refine Wq.next hK_7 ?_
   refine Wc.seq fun _ hK_17 => ?_
   refine Wc.region ?_
   refine Wl.y (y_move rfl) rfl ?_
   refine Wl.y (y_addI rfl rfl (by first | omega | (simp; done) | (simp; omega)) (by first | omega | (simp; done) | (simp; omega))) rfl ?_
   refine Wl.y (y_eq (y_convi Tryz.underlying2 Tryz.underlying5 rfl) (int_eq (digit_u8 (u % 10) (by omega)))) rfl ?_
   refine Wl.litN (sz := 1) (vs := [_]) Tryz.underlying106 (by kernel_rfl) rfl rfl rfl rfl rfl rfl ?_
   rintro g_b0 w_b0 hg_b0 hn_b0 hs_b0
   have hz_b0 := hs_b0.size
   have hb := hb.trans (hs_b0.mono hb.size)
   have hB_b0 := hn_b0
   have hl_b0 := hB_b0.lt
   refine Wl.l (l_str Tryz.underlying106 Tryz.underlying5 Tryz.underlying9 rfl (by exact Rd.byte hB_b0)) rfl ?_
   refine Wl.y (y_assign rfl) rfl ?_
   refine Wl.nil ?_
   refine Wq.next hK_17 ?_
   refine Wc.seq fun _ hK_24 => ?_
   refine Wc.region ?_
   refine Wl.y (y_move rfl) rfl ?_
   refine Wl.y (y_eq (y_quo rfl rfl (by first | decide | omega)) (int_eq (show _ = n.tdiv 10 from wrap_i64 _ (by omega) (by omega)))) rfl ?_
   refine Wl.y (y_assign rfl) rfl ?_
   refine Wl.nil ?_
   refine Wq.next hK_24 ?_
   refine Wc.seq fun _ hK_28 => ?_
   refine Wc.seq fun _ hK_29 => ?_
   refine Wc.region ?_
   refine Wl.y (y_move rfl) rfl ?_
   refine Wl.y (y_neqi rfl rfl) rfl ?_
   refine Wl.nil ?_
   refine Wq.next hK_29 ?_
   refine Wc.cond rfl (fun c1_32 => ?_) (fun c1_32 => ?_)
   ·
    have c1_32_ := c1_32
    try simp only [decide_eq_true_eq, decide_eq_false_iff_not, beq_iff_eq, beq_eq_false_iff_ne, bne_iff_ne, bne_eq_false_iff_eq, Bool.not_eq_true', Bool.not_eq_false', Bool.not_eq_eq_eq_not, Bool.not_true, Bool.not_false, ne_eq, Int.not_lt, Int.not_le] at c1_32
    refine Wc.seq fun _ hK_33 => ?_
    refine Wc.region ?_
    refine Wl.y (y_move rfl) rfl ?_
    refine Wl.call txt38NumR rfl rfl (ih (u / 10) (by have := c1_32; omega) (n.tdiv 10) hq hqb.1 hqb.2 _) rfl ?_
    rintro _ w_k0 ⟨rfl, hs_k0⟩
    have hz_k0 := hs_k0.size
    have hb := hb.trans (hs_k0.mono hb.size)
    refine Wl.y (y_move rfl) rfl ?_
    refine Wl.y (y_adds rfl rfl (by have := decDigits_le (u / 10) (by omega); first | omega | (simp; omega))) rfl ?_
    refine Wl.y (y_assign rfl) rfl ?_
    refine Wl.nil ?_
    refine Wq.next hK_33 ?_
    refine Wc.ret ?_
    refine Wq.then_ret ?_
    refine ret1 rfl rfl ?_
    exact ⟨_, rfl, by rw [Lib.decDigits.eq_def u, dif_neg (by have := c1_32; omega)], hb⟩
   ·
    have c1_32_ := c1_32
    try simp only [decide_eq_true_eq, decide_eq_false_iff_not, beq_iff_eq, beq_eq_false_iff_ne, bne_iff_ne, bne_eq_false_iff_eq, Bool.not_eq_true', Bool.not_eq_false', Bool.not_eq_eq_eq_not, Bool.not_true, Bool.not_false, ne_eq, Int.not_lt, Int.not_le] at c1_32
    refine Wc.skip ?_
    refine Wq.next hK_28 ?_
    refine Wc.seq fun _ hK_39 => ?_
    refine Wc.region ?_
    refine Wl.y (y_move rfl) rfl ?_
    refine Wl.y (y_assign rfl) rfl ?_
    refine Wl.nil ?_
    refine Wq.next hK_39 ?_
    refine Wc.ret ?_
    refine ret1 rfl rfl ?_
    exact ⟨_, rfl, by rw [Lib.decDigits.eq_def u, dif_pos (by have := c1_32; omega), Nat.mod_eq_of_lt (by have := c1_32; omega)], hb⟩
theorem rsign_r (n : Int) (w : World) : Ret Tryz.prog 39 [.int .i64 n] w fun v w' => v = str (if n < 0 then [45] else []) ∧ Below w.heap.size w w' := by
  have hb := Below.refl w.heap.size w
  refine enter Tryz.func39 rfl rfl rfl ?_
  refine Wc.seq fun _ hK_1 => ?_
  refine Wc.region ?_
  refine Wl.y (y_assign rfl) rfl ?_
  refine Wl.nil ?_
  refine Wq.next hK_1 ?_
  refine Wc.seq fun _ hK_3 => ?_
  refine Wc.seq fun _ hK_4 => ?_
  refine Wc.region ?_
  refine Wl.y (y_move rfl) rfl ?_
  refine Wl.y (y_lssi rfl rfl) rfl ?_
  refine Wl.nil ?_
  refine Wq.next hK_4 ?_
  refine Wc.cond rfl (fun c0_7 => ?_) (fun c0_7 => ?_)
  ·
   have c0_7_ := c0_7
   try simp only [decide_eq_true_eq, decide_eq_false_iff_not, beq_iff_eq, beq_eq_false_iff_ne, bne_iff_ne, bne_eq_false_iff_eq, Bool.not_eq_true', Bool.not_eq_false', Bool.not_eq_eq_eq_not, Bool.not_true, Bool.not_false, ne_eq, Int.not_lt, Int.not_le] at c0_7
   refine Wc.seq fun _ hK_8 => ?_
   refine Wc.region ?_
   refine Wl.y (y_assign rfl) rfl ?_
   refine Wl.nil ?_
   refine Wq.next hK_8 ?_
   refine Wc.ret ?_
   refine Wq.then_ret ?_
   refine ret1 rfl rfl ?_
   exact ⟨_, rfl, str_eq (if_pos c0_7).symm, hb⟩
  ·
   have c0_7_ := c0_7
   try simp only [decide_eq_true_eq, decide_eq_false_iff_not, beq_iff_eq, beq_eq_false_iff_ne, bne_iff_ne, bne_eq_false_iff_eq, Bool.not_eq_true', Bool.not_eq_false', Bool.not_eq_eq_eq_not, Bool.not_true, Bool.not_false, ne_eq, Int.not_lt, Int.not_le] at c0_7
   refine Wc.skip ?_
   refine Wq.next hK_3 ?_
   refine Wc.seq fun _ hK_10 => ?_
   refine Wc.region ?_
   refine Wl.y (y_assign rfl) rfl ?_
   refine Wl.nil ?_
   refine Wq.next hK_10 ?_
   refine Wc.ret ?_
   refine ret1 rfl rfl ?_
   exact ⟨_, rfl, str_eq (if_neg (by have := c0_7; omega)).symm, hb⟩
theorem TruthN_r (t : Bool) (w : World) : Ret Tryz.prog 26 [.bool t] w fun v w' => v = (truthV t).enc ∧ Below w.heap.size w w' := by
  have hb := Below.refl w.heap.size w
  refine enter Tryz.func26 rfl rfl rfl ?_
  refine Wc.seq fun _ hK_1 => ?_
  refine Wc.region ?_
  refine Wl.allocN (z := (.agg #[(.int .i64 0), (.int .i64 0), (.float .f64 0), (str [])])) (by kernel_rfl) rfl ?_
  rintro g_o0 w_o0 hg_o0 hn_o0 hs_o0
  have hz_o0 := hs_o0.size
  have hb := hb.trans (hs_o0.mono hb.size)
  have hB_o0 := hn_o0
  have hl_o0 := hB_o0.lt
  refine Wl.nil ?_
  refine Wq.next hK_1 ?_
  refine Wc.seq fun _ hK_3 => ?_
  refine Wc.seq fun _ hK_4 => ?_
  refine Wc.region ?_
  refine Wl.y (y_move rfl) rfl ?_
  refine Wl.nil ?_
  refine Wq.next hK_4 ?_
  refine Wc.cond rfl (fun c0_6 => ?_) (fun c0_6 => ?_)
  ·
   have c0_6_ := c0_6
   try simp only [decide_eq_true_eq, decide_eq_false_iff_not, beq_iff_eq, beq_eq_false_iff_ne, bne_iff_ne, bne_eq_false_iff_eq, Bool.not_eq_true', Bool.not_eq_false', Bool.not_eq_eq_eq_not, Bool.not_true, Bool.not_false, ne_eq, Int.not_lt, Int.not_le] at c0_6
   refine Wc.seq fun _ hK_7 => ?_
   refine Wc.region ?_
   refine Wl.y (y_buildS (z := [(.int .i64 0), (.int .i64 0), (.float .f64 0), (str [])]) (pl := [(0, 1), (1, 1), (2, 1), (3, 1)]) (cs := [_, _, _, _]) Tryz.underlying28 (by kernel_rfl) (by kernel_rfl) rfl rfl rfl) rfl ?_
   refine Wl.storeS (by kernel_rfl) rfl rfl hB_o0 rfl rfl ?_
   rintro w_s0 hn_s0 hg_s0
   have hz_s0 := hg_s0.size
   have hb := below_blk hb hg_s0 hb.size (by omega)
   have hB_o0 := hn_s0
   refine Wl.nil ?_
   refine Wq.next hK_7 ?_
   refine Wc.ret ?_
   refine Wq.then_ret ?_
   refine retN (rs := [.cell 2 28]) (vs := [_]) rfl (.cell rfl (loadS Tryz.underlying28 (by kernel_rfl) (fun j u hu => hB_o0.at hu)) .nil) ?_
   exact ⟨_, rfl, by rw [c0_6_]; rfl, hb⟩
  ·
   have c0_6_ := c0_6
   try simp only [decide_eq_true_eq, decide_eq_false_iff_not, beq_iff_eq, beq_eq_false_iff_ne, bne_iff_ne, bne_eq_false_iff_eq, Bool.not_eq_true', Bool.not_eq_false', Bool.not_eq_eq_eq_not, Bool.not_true, Bool.not_false, ne_eq, Int.not_lt, Int.not_le] at c0_6
   refine Wc.skip ?_
   refine Wq.next hK_3 ?_
   refine Wc.seq fun _ hK_9 => ?_
   refine Wc.region ?_
   refine Wl.y (y_buildS (z := [(.int .i64 0), (.int .i64 0), (.float .f64 0), (str [])]) (pl := [(0, 1), (1, 1), (2, 1), (3, 1)]) (cs := [_, _, _, _]) Tryz.underlying28 (by kernel_rfl) (by kernel_rfl) rfl rfl rfl) rfl ?_
   refine Wl.storeS (by kernel_rfl) rfl rfl hB_o0 rfl rfl ?_
   rintro w_s1 hn_s1 hg_s1
   have hz_s1 := hg_s1.size
   have hb := below_blk hb hg_s1 hb.size (by omega)
   have hB_o0 := hn_s1
   refine Wl.nil ?_
   refine Wq.next hK_9 ?_
   refine Wc.ret ?_
   refine retN (rs := [.cell 2 28]) (vs := [_]) rfl (.cell rfl (loadS Tryz.underlying28 (by kernel_rfl) (fun j u hu => hB_o0.at hu)) .nil) ?_
   exact ⟨_, rfl, by rw [c0_6_]; rfl, hb⟩
theorem rt1 {v : Val} (h : v.k = 1) : rightV v = decide ((v.n = 0 ∨ v.n = 1) ∧ v.f = 0 ∧ v.s = []) := by unfold rightV; rw [if_neg (by omega), if_pos h]
theorem rt2 {v : Val} (h : v.k = 2) : rightV v = decide (v.f = 0 ∧ v.s = []) := by unfold rightV; rw [if_neg (by omega), if_neg (by omega), if_pos h]
theorem rt4 {v : Val} (h : v.k = 4) : rightV v = decide (v.n = 0 ∧ v.f = 0) := by unfold rightV; rw [if_neg (by omega), if_neg (by omega), if_neg (by omega), if_neg (by omega), if_pos h]
/-- what the three kinds look like -/
def N3 (a : Val) : Prop := (a.k = 1 ∧ (a.n = 0 ∨ a.n = 1) ∧ a.f = 0 ∧ a.s = []) ∨ (a.k = 2 ∧ a.f = 0 ∧ a.s = []) ∨ (a.k = 4 ∧ a.n = 0 ∧ a.f = 0)
theorem RRightN_r (a : Val) (ha : N3 a) (w : World) : Ret Tryz.prog 37 [a.enc] w fun v w' => v = .bool true ∧ Below w.heap.size w w' := by
  have hb := Below.refl w.heap.size w
  refine enter Tryz.func37 rfl rfl rfl ?_
  refine Wc.seq fun _ hK_1 => ?_
  refine Wc.region ?_
  refine Wl.boxN rfl rfl ?_
  rintro g_o0 w_o0 hg_o0 hn_o0 hs_o0
  have hz_o0 := hs_o0.size
  have hb := hb.trans (hs_o0.mono hb.size)
  have hB_o0 := hn_o0
  have hl_o0 := hB_o0.lt
  refine Wl.y (y_assign rfl) rfl ?_
  refine Wl.nil ?_
  refine Wq.next hK_1 ?_
  refine Wc.seq fun _ hK_4 => ?_
  refine Wc.region ?_
  refine Wl.y (y_fieldAddr (fa28_2NumR _) rfl) rfl ?_
  refine Wl.l (l_load one26NumR rfl (by first | exact hB_o0.at rfl | exact hB_o0.cell 0 | assumption)) rfl ?_
  refine Wl.y (y_f2b exn53NumR rfl rfl) rfl ?_
  refine Wl.y (y_eqli rfl rfl) rfl ?_
  refine Wl.y (y_assign rfl) rfl ?_
  refine Wl.nil ?_
  refine Wq.next hK_4 ?_
  refine Wc.seq fun _ hK_10 => ?_
  refine Wc.seq fun _ hK_11 => ?_
  refine Wc.region ?_
  refine Wl.y (y_fieldAddr (fa28_0NumR _) rfl) rfl ?_
  refine Wl.l (l_load one3NumR rfl (by first | exact hB_o0.at rfl | exact hB_o0.cell 0 | assumption)) rfl ?_
  refine Wl.nil ?_
  refine Wq.next hK_11 ?_
  refine Wc.block ?_
  refine Wc.seq fun _ hK_14 => ?_
  refine Wc.region ?_
  refine Wl.y (y_eqli rfl rfl) rfl ?_
  refine Wl.y (y_assign rfl) rfl ?_
  refine Wl.nil ?_
  refine Wq.next hK_14 ?_
  refine Wc.cond rfl (fun c0_17 => ?_) (fun c0_17 => ?_)
  ·
   try simp only [decide_eq_true_eq, decide_eq_false_iff_not, beq_iff_eq, beq_eq_false_iff_ne, bne_iff_ne, bne_eq_false_iff_eq, Bool.not_eq_true', Bool.not_eq_false', Bool.not_eq_eq_eq_not, Bool.not_true, Bool.not_false, ne_eq, Int.not_lt, Int.not_le] at c0_17
   (have h := c0_17; unfold N3 at ha; omega)
  ·
   refine Wc.seq fun _ hK_18 => ?_
   refine Wc.region ?_
   refine Wl.y (y_eqli rfl rfl) rfl ?_
   refine Wl.y (y_assign rfl) rfl ?_
   refine Wl.nil ?_
   refine Wq.next hK_18 ?_
   refine Wc.cond rfl (fun c1_21 => ?_) (fun c1_21 => ?_)
   ·
    try simp only [decide_eq_true_eq, decide_eq_false_iff_not, beq_iff_eq, beq_eq_false_iff_ne, bne_iff_ne, bne_eq_false_iff_eq, Bool.not_eq_true', Bool.not_eq_false', Bool.not_eq_eq_eq_not, Bool.not_true, Bool.not_false, ne_eq, Int.not_lt, Int.not_le] at c1_21
    have h1 : (a.n = 0 ∨ a.n = 1) ∧ a.f = 0 ∧ a.s = [] := by have := c1_21; unfold N3 at ha; rcases ha with h | h | h; exact h.2; (have := h.1; omega); (have := h.1; omega)
    refine Wc.seq fun _ hK_22 => ?_
    refine Wc.region ?_
    refine Wl.y (y_fieldAddr (fa28_1NumR _) rfl) rfl ?_
    refine Wl.l (l_load one2NumR rfl (by first | exact hB_o0.at rfl | exact hB_o0.cell 0 | assumption)) rfl ?_
    refine Wl.y (y_eqli rfl rfl) rfl ?_
    refine Wl.y (y_move rfl) rfl ?_
    refine Wl.guardF rfl rfl rfl (fun g_27 => ?_) (fun g_27 => ?_)
    ·
     have g_27_ := g_27
     refine Wl.off' rfl rfl g_27_ rfl rfl ?_
     refine Wl.off' rfl rfl g_27_ rfl rfl ?_
     refine Wl.y (y_pickT rfl g_27_ rfl) rfl ?_
     refine Wl.y (y_move rfl) rfl ?_
     refine Wl.on' rfl rfl rfl ?_
     refine Wl.y (y_move rfl) rfl ?_
     refine Wl.y (y_pickT rfl rfl rfl) rfl ?_
     refine Wl.y (y_move rfl) rfl ?_
     refine Wl.guardT rfl rfl rfl (fun g_33 => ?_) (fun g_33 => ?_)
     ·
      have g_33_ := g_33
      refine Wl.y (y_fieldAddr (fa28_3NumR _) rfl) rfl ?_
      refine Wl.on' rfl rfl g_33_ ?_
      refine Wl.l (l_load one9NumR rfl (by first | exact hB_o0.at rfl | exact hB_o0.cell 0 | assumption)) rfl ?_
      refine Wl.on' rfl rfl g_33_ ?_
      refine Wl.y (y_eqls rfl rfl) rfl ?_
      refine Wl.y (y_pickT rfl g_33_ rfl) rfl ?_
      refine Wl.y (y_assign rfl) rfl ?_
      refine Wl.nil ?_
      refine Wq.next hK_22 ?_
      refine Wc.ret ?_
      refine Wq.block_ret (Wq.then_ret ?_)
      refine ret1 rfl rfl ?_
      exact ⟨_, rfl, bool_eq (by simp_all), hb⟩
     ·
      have g_33_ := g_33
      refine Wl.off' rfl rfl g_33_ rfl rfl ?_
      refine Wl.off' rfl rfl g_33_ rfl rfl ?_
      refine Wl.y (y_pickF rfl g_33_ rfl) rfl ?_
      refine Wl.y (y_assign rfl) rfl ?_
      refine Wl.nil ?_
      refine Wq.next hK_22 ?_
      refine Wc.ret ?_
      refine Wq.block_ret (Wq.then_ret ?_)
      refine ret1 rfl rfl ?_
      exact ⟨_, rfl, bool_eq (by simp_all), hb⟩
    ·
     have g_27_ := g_27
     refine Wl.y (y_fieldAddr (fa28_1NumR _) rfl) rfl ?_
     refine Wl.on' rfl rfl g_27_ ?_
     refine Wl.l (l_load one2NumR rfl (by first | exact hB_o0.at rfl | exact hB_o0.cell 0 | assumption)) rfl ?_
     refine Wl.on' rfl rfl g_27_ ?_
     refine Wl.y (y_eqli rfl rfl) rfl ?_
     refine Wl.y (y_pickF rfl g_27_ rfl) rfl ?_
     refine Wl.y (y_move rfl) rfl ?_
     refine Wl.guardT rfl rfl rfl (fun g_46 => ?_) (fun g_46 => ?_)
     ·
      have g_46_ := g_46
      refine Wl.y (y_move rfl) rfl ?_
      refine Wl.y (y_pickT rfl g_46_ rfl) rfl ?_
      refine Wl.y (y_move rfl) rfl ?_
      refine Wl.guardT rfl rfl rfl (fun g_50 => ?_) (fun g_50 => ?_)
      ·
       have g_50_ := g_50
       refine Wl.y (y_fieldAddr (fa28_3NumR _) rfl) rfl ?_
       refine Wl.on' rfl rfl g_50_ ?_
       refine Wl.l (l_load one9NumR rfl (by first | exact hB_o0.at rfl | exact hB_o0.cell 0 | assumption)) rfl ?_
       refine Wl.on' rfl rfl g_50_ ?_
       refine Wl.y (y_eqls rfl rfl) rfl ?_
       refine Wl.y (y_pickT rfl g_50_ rfl) rfl ?_
       refine Wl.y (y_assign rfl) rfl ?_
       refine Wl.nil ?_
       refine Wq.next hK_22 ?_
       refine Wc.ret ?_
       refine Wq.block_ret (Wq.then_ret ?_)
       refine ret1 rfl rfl ?_
       exact ⟨_, rfl, bool_eq (by simp_all), hb⟩
      ·
       have g_50_ := g_50
       refine Wl.off' rfl rfl g_50_ rfl rfl ?_
       refine Wl.off' rfl rfl g_50_ rfl rfl ?_
       refine Wl.y (y_pickF rfl g_50_ rfl) rfl ?_
       refine Wl.y (y_assign rfl) rfl ?_
       refine Wl.nil ?_
       refine Wq.next hK_22 ?_
       refine Wc.ret ?_
       refine Wq.block_ret (Wq.then_ret ?_)
       refine ret1 rfl rfl ?_
       exact ⟨_, rfl, bool_eq (by simp_all), hb⟩
     ·
      have g_46_ := g_46
      refine Wl.y (y_pickF rfl g_46_ rfl) rfl ?_
      refine Wl.y (y_move rfl) rfl ?_
      refine Wl.off' rfl rfl rfl rfl rfl ?_
      refine Wl.off' rfl rfl rfl rfl rfl ?_
      refine Wl.off' rfl rfl rfl rfl rfl ?_
      refine Wl.y (y_pickF rfl rfl rfl) rfl ?_
      refine Wl.y (y_assign rfl) rfl ?_
      refine Wl.nil ?_
      refine Wq.next hK_22 ?_
      refine Wc.ret ?_
      refine Wq.block_ret (Wq.then_ret ?_)
      refine ret1 rfl rfl ?_
      exact ⟨_, rfl, bool_eq (by simp_all), hb⟩
   ·
    try simp only [decide_eq_true_eq, decide_eq_false_iff_not, beq_iff_eq, beq_eq_false_iff_ne, bne_iff_ne, bne_eq_false_iff_eq, Bool.not_eq_true', Bool.not_eq_false', Bool.not_eq_eq_eq_not, Bool.not_true, Bool.not_false, ne_eq, Int.not_lt, Int.not_le] at c1_21
    refine Wc.seq fun _ hK_62 => ?_
    refine Wc.region ?_
    refine Wl.y (y_eqli rfl rfl) rfl ?_
    refine Wl.y (y_assign rfl) rfl ?_
    refine Wl.nil ?_
    refine Wq.next hK_62 ?_
    refine Wc.cond rfl (fun c2_65 => ?_) (fun c2_65 => ?_)
    ·
     try simp only [decide_eq_true_eq, decide_eq_false_iff_not, beq_iff_eq, beq_eq_false_iff_ne, bne_iff_ne, bne_eq_false_iff_eq, Bool.not_eq_true', Bool.not_eq_false', Bool.not_eq_eq_eq_not, Bool.not_true, Bool.not_false, ne_eq, Int.not_lt, Int.not_le] at c2_65
     have h2 : a.f = 0 ∧ a.s = [] := by have := c2_65; unfold N3 at ha; rcases ha with h | h | h; (have := h.1; omega); exact h.2; (have := h.1; omega)
     refine Wc.seq fun _ hK_66 => ?_
     refine Wc.region ?_
     refine Wl.y (y_move rfl) rfl ?_
     refine Wl.y (y_move rfl) rfl ?_
     refine Wl.guardT rfl rfl rfl (fun g_69 => ?_) (fun g_69 => ?_)
     ·
      have g_69_ := g_69
      refine Wl.y (y_fieldAddr (fa28_3NumR _) rfl) rfl ?_
      refine Wl.on' rfl rfl g_69_ ?_
      refine Wl.l (l_load one9NumR rfl (by first | exact hB_o0.at rfl | exact hB_o0.cell 0 | assumption)) rfl ?_
      refine Wl.on' rfl rfl g_69_ ?_
      refine Wl.y (y_eqls rfl rfl) rfl ?_
      refine Wl.y (y_pickT rfl g_69_ rfl) rfl ?_
      refine Wl.y (y_assign rfl) rfl ?_
      refine Wl.nil ?_
      refine Wq.next hK_66 ?_
      refine Wc.ret ?_
      refine Wq.block_ret (Wq.then_ret ?_)
      refine ret1 rfl rfl ?_
      exact ⟨_, rfl, bool_eq (by simp_all), hb⟩
     ·
      have g_69_ := g_69
      refine Wl.off' rfl rfl g_69_ rfl rfl ?_
      refine Wl.off' rfl rfl g_69_ rfl rfl ?_
      refine Wl.y (y_pickF rfl g_69_ rfl) rfl ?_
      refine Wl.y (y_assign rfl) rfl ?_
      refine Wl.nil ?_
      refine Wq.next hK_66 ?_
      refine Wc.ret ?_
      refine Wq.block_ret (Wq.then_ret ?_)
      refine ret1 rfl rfl ?_
      exact ⟨_, rfl, bool_eq (by simp_all), hb⟩
    ·
     try simp only [decide_eq_true_eq, decide_eq_false_iff_not, beq_iff_eq, beq_eq_false_iff_ne, bne_iff_ne, bne_eq_false_iff_eq, Bool.not_eq_true', Bool.not_eq_false', Bool.not_eq_eq_eq_not, Bool.not_true, Bool.not_false, ne_eq, Int.not_lt, Int.not_le] at c2_65
     refine Wc.seq fun _ hK_77 => ?_
     refine Wc.region ?_
     refine Wl.y (y_eqli rfl rfl) rfl ?_
     refine Wl.y (y_assign rfl) rfl ?_
     refine Wl.nil ?_
     refine Wq.next hK_77 ?_
     refine Wc.cond rfl (fun c3_80 => ?_) (fun c3_80 => ?_)
     ·
      try simp only [decide_eq_true_eq, decide_eq_false_iff_not, beq_iff_eq, beq_eq_false_iff_ne, bne_iff_ne, bne_eq_false_iff_eq, Bool.not_eq_true', Bool.not_eq_false', Bool.not_eq_eq_eq_not, Bool.not_true, Bool.not_false, ne_eq, Int.not_lt, Int.not_le] at c3_80
      (have h := c3_80; unfold N3 at ha; omega)
     ·
      refine Wc.seq fun _ hK_81 => ?_
      refine Wc.region ?_
      refine Wl.y (y_eqli rfl rfl) rfl ?_
      refine Wl.y (y_assign rfl) rfl ?_
      refine Wl.nil ?_
      refine Wq.next hK_81 ?_
      refine Wc.cond rfl (fun c4_84 => ?_) (fun c4_84 => ?_)
      ·
       try simp only [decide_eq_true_eq, decide_eq_false_iff_not, beq_iff_eq, beq_eq_false_iff_ne, bne_iff_ne, bne_eq_false_iff_eq, Bool.not_eq_true', Bool.not_eq_false', Bool.not_eq_eq_eq_not, Bool.not_true, Bool.not_false, ne_eq, Int.not_lt, Int.not_le] at c4_84
       have h4 : a.n = 0 ∧ a.f = 0 := by have := c4_84; unfold N3 at ha; rcases ha with h | h | h; (have := h.1; omega); (have := h.1; omega); exact h.2
       refine Wc.seq fun _ hK_85 => ?_
       refine Wc.region ?_
       refine Wl.y (y_fieldAddr (fa28_1NumR _) rfl) rfl ?_
       refine Wl.l (l_load one2NumR rfl (by first | exact hB_o0.at rfl | exact hB_o0.cell 0 | assumption)) rfl ?_
       refine Wl.y (y_eqli rfl rfl) rfl ?_
       refine Wl.y (y_move rfl) rfl ?_
       refine Wl.guardT rfl rfl rfl (fun g_90 => ?_) (fun g_90 => ?_)
       ·
        have g_90_ := g_90
        refine Wl.y (y_move rfl) rfl ?_
        refine Wl.y (y_pickT rfl g_90_ rfl) rfl ?_
        refine Wl.y (y_assign rfl) rfl ?_
        refine Wl.nil ?_
        refine Wq.next hK_85 ?_
        refine Wc.ret ?_
        refine Wq.block_ret (Wq.then_ret ?_)
        refine ret1 rfl rfl ?_
        exact ⟨_, rfl, bool_eq (by simp_all), hb⟩
       ·
        have g_90_ := g_90
        refine Wl.y (y_pickF rfl g_90_ rfl) rfl ?_
        refine Wl.y (y_assign rfl) rfl ?_
        refine Wl.nil ?_
        refine Wq.next hK_85 ?_
        refine Wc.ret ?_
        refine Wq.block_ret (Wq.then_ret ?_)
        refine ret1 rfl rfl ?_
        exact ⟨_, rfl, bool_eq (by simp_all), hb⟩
      ·
       try simp only [decide_eq_true_eq, decide_eq_false_iff_not, beq_iff_eq, beq_eq_false_iff_ne, bne_iff_ne, bne_eq_false_iff_eq, Bool.not_eq_true', Bool.not_eq_false', Bool.not_eq_eq_eq_not, Bool.not_true, Bool.not_false, ne_eq, Int.not_lt, Int.not_le] at c4_84
       (have h := c4_84; have h1 := c1_21; have h2 := c2_65; unfold N3 at ha; omega)
end Go.Proofs.YtcljmclolpgdmaaGreatDoor
