/- The document's answer for floats' texts, by the calculus. -/
import Derived.Test.YtcljmclolpgdmaaGreatDoorNumB
namespace Go.Proofs.YtcljmclolpgdmaaGreatDoor
open Go.RowKit Go.Bw Go.Bw.Fl
set_option linter.unusedVariables false
set_option linter.unusedSimpArgs false
theorem txt76RefA : Txt Tryz.prog 76 := ⟨_, Tryz.func76, by kernel_rfl, rfl⟩   -- bridleway/bridlewayref01.Parts
theorem txt77RefA : Txt Tryz.prog 77 := ⟨_, Tryz.func77, by kernel_rfl, rfl⟩   -- bridleway/bridlewayref01.Digits
theorem txt78RefA : Txt Tryz.prog 78 := ⟨_, Tryz.func78, by kernel_rfl, rfl⟩   -- bridleway/bridlewayref01.Signed
theorem digit_u8 (k : Nat) (h : k < 10) : IntKind.u8.wrap (48 + (k : Int)) = ((UInt8.ofNat (48 + k)).toNat : Int) := by
  rw [wrap_u8 _ (by omega) (by omega)]
  have : (UInt8.ofNat (48 + k)).toNat = 48 + k := by simp; omega
  rw [this]; omega
theorem Rd.byte {w : World} {g : Nat} {t : TypeId} {c : UInt8} (h : Blk w g t [.int .u8 c.toNat]) : Rd w 1 (some ⟨g, 0, none⟩) 1 (u8s [c]) := h.rd 1 1 rfl
theorem Digits_r (n : Nat) : ∀ (hn : n < 9223372036854775808) (w : World), Ret Tryz.prog 77 [.int .i64 n] w fun v w' => v = str (Lib.decDigits n) ∧ Below w.heap.size w w' := by
  induction n using Nat.strongRecOn with
  | ind n ih =>
  intro hn w
  have hdq : ((n : Int).tdiv 10) = ((n / 10 : Nat) : Int) := by rw [Int.tdiv_eq_ediv_of_nonneg (by omega)]; omega
  have hm : ((n : Int).tmod 10) = ((n % 10 : Nat) : Int) := by rw [Int.tmod_eq_emod_of_nonneg (by omega)]; omega
  have hb := Below.refl w.heap.size w
  refine enter Tryz.func77 rfl rfl rfl ?_
  refine Wc.seq fun _ hK_1 => ?_
  refine Wc.region ?_
  refine Wl.y (y_assign rfl) rfl ?_
  refine Wl.nil ?_
  refine Wq.next hK_1 ?_
  refine Wc.seq fun _ hK_3 => ?_
  refine Wc.seq fun _ hK_4 => ?_
  refine Wc.region ?_
  refine Wl.y (y_move rfl) rfl ?_
  refine Wl.y (y_lssi rfl rfl) rfl ?_
  refine Wl.nil ?_
  refine Wq.next hK_4 ?_
  refine Wc.cond rfl (fun c0_7 => ?_) (fun c0_7 => ?_)
  ·
   have c0_7_ := c0_7
   try simp only [decide_eq_true_eq, decide_eq_false_iff_not, beq_iff_eq, beq_eq_false_iff_ne, bne_iff_ne, bne_eq_false_iff_eq, Bool.not_eq_true', Bool.not_eq_false', Bool.not_eq_eq_eq_not, Bool.not_true, Bool.not_false, ne_eq, Int.not_lt, Int.not_le] at c0_7
   refine Wc.seq fun _ hK_8 => ?_
   refine Wc.region ?_
   refine Wl.y (y_move rfl) rfl ?_
   refine Wl.y (y_addI rfl rfl (by first | omega | (simp; done) | (simp; omega)) (by first | omega | (simp; done) | (simp; omega))) rfl ?_
   refine Wl.y (y_eq (y_convi Tryz.underlying3 Tryz.underlying5 rfl) (int_eq (digit_u8 n (by have := c0_7; omega)))) rfl ?_
   refine Wl.litN (sz := 1) (vs := [_]) Tryz.underlying106 (by kernel_rfl) rfl rfl rfl rfl rfl rfl ?_
   rintro g_b0 w_b0 hg_b0 hn_b0 hs_b0
   have hz_b0 := hs_b0.size
   have hb := hb.trans (hs_b0.mono hb.size)
   have hB_b0 := hn_b0
   have hl_b0 := hB_b0.lt
   refine Wl.l (l_str Tryz.underlying106 Tryz.underlying5 Tryz.underlying9 rfl (by exact Rd.byte hB_b0)) rfl ?_
   refine Wl.y (y_assign rfl) rfl ?_
   refine Wl.nil ?_
   refine Wq.next hK_8 ?_
   refine Wc.ret ?_
   refine Wq.then_ret ?_
   refine ret1 rfl rfl ?_
   exact ⟨_, rfl, by rw [Lib.decDigits, dif_pos (by have := c0_7; omega)], hb⟩
  ·
   have c0_7_ := c0_7
   try simp only [decide_eq_true_eq, decide_eq_false_iff_not, beq_iff_eq, beq_eq_false_iff_ne, bne_iff_ne, bne_eq_false_iff_eq, Bool.not_eq_true', Bool.not_eq_false', Bool.not_eq_eq_eq_not, Bool.not_true, Bool.not_false, ne_eq, Int.not_lt, Int.not_le] at c0_7
   refine Wc.skip ?_
   refine Wq.next hK_3 ?_
   refine Wc.seq fun _ hK_15 => ?_
   refine Wc.any (n := 11) (fun w' => Below w.heap.size w w') #[false, false, false, false, false, false, false, false, false, false, false] (by kernel_rfl) rfl (by kernel_rfl) ?_
   refine Wa.drew ?_
   rintro w_g3 hs_g3
   have hz_g3 := hs_g3.size
   have hb := hb.trans (hs_g3.mono hb.size)
   refine Wa.take (i := 0) #[true, false, false, false, false, false, false, false, false, false, false] rfl (by kernel_rfl) (fun _ _ _ h => h) rfl (fun wq hq => Yl.ld (y_move rfl)) hb ?_
   refine Wa.take (i := 1) #[true, true, false, false, false, false, false, false, false, false, false] rfl (by kernel_rfl) (fun _ _ _ h => h) rfl (fun wq hq => Yl.ld (y_eq (y_quo rfl rfl (by first | decide | omega)) (int_eq ((congrArg IntKind.i64.wrap hdq).trans (wrap_i64 _ (by omega) (by omega)))))) hb ?_
   refine Wa.take (i := 3) #[true, true, false, true, false, false, false, false, false, false, false] rfl (by kernel_rfl) (fun _ _ _ h => h) rfl (fun wq hq => Yl.ld (y_move rfl)) hb ?_
   refine Wa.take (i := 4) #[true, true, false, true, true, false, false, false, false, false, false] rfl (by kernel_rfl) (fun _ _ _ h => h) rfl (fun wq hq => Yl.ld (y_eq (y_rem rfl rfl (by first | decide | omega)) (int_eq hm))) hb ?_
   refine Wa.take (i := 5) #[true, true, false, true, true, true, false, false, false, false, false] rfl (by kernel_rfl) (fun _ _ _ h => h) rfl (fun wq hq => Yl.ld (y_addI rfl rfl (by first | omega | (simp; done) | (simp; omega)) (by first | omega | (simp; done) | (simp; omega)))) hb ?_
   refine Wa.take (i := 6) #[true, true, false, true, true, true, true, false, false, false, false] rfl (by kernel_rfl) (fun _ _ _ h => h) rfl (fun wq hq => Yl.ld (y_eq (y_convi Tryz.underlying3 Tryz.underlying5 rfl) (int_eq (digit_u8 (n % 10) (by omega))))) hb ?_
   refine Wa.some (rs := [2, 7]) (by kernel_rfl) rfl ?_
   refine Ws.cons #[true, true, true, true, true, true, true, false, false, false, false] rfl rfl (fun _ hK_22 => ?_) ?_
   ·
    refine Wl.call txt77RefA rfl rfl (ih (n / 10) (by have := c0_7; omega) (by omega) _) rfl ?_
    rintro _ w_k0 ⟨rfl, hs_k0⟩
    have hz_k0 := hs_k0.size
    have hb := hb.trans (hs_k0.mono hb.size)
    refine Wl.nil ?_
    refine Wq.back hK_22 hb ?_
    refine Wa.some (rs := [7]) (by kernel_rfl) rfl ?_
    refine Ws.cons #[true, true, true, true, true, true, true, true, false, false, false] rfl rfl (fun _ hK_24 => ?_) ?_
    ·
     refine Wl.litN (sz := 1) (vs := [_]) Tryz.underlying106 (by kernel_rfl) rfl rfl rfl rfl rfl rfl ?_
     rintro g_b1 w_b1 hg_b1 hn_b1 hs_b1
     have hz_b1 := hs_b1.size
     have hb := hb.trans (hs_b1.mono hb.size)
     have hB_b1 := hn_b1
     have hl_b1 := hB_b1.lt
     refine Wl.nil ?_
     refine Wq.back hK_24 hb ?_
     refine Wa.some (rs := [8]) (by kernel_rfl) rfl ?_
     refine Ws.cons #[true, true, true, true, true, true, true, true, true, false, false] rfl rfl (fun _ hK_26 => ?_) ?_
     ·
      refine Wl.l (l_str Tryz.underlying106 Tryz.underlying5 Tryz.underlying9 rfl (by exact Rd.byte hB_b1)) rfl ?_
      refine Wl.nil ?_
      refine Wq.back hK_26 hb ?_
      refine Wa.take (i := 9) #[true, true, true, true, true, true, true, true, true, true, false] rfl (by kernel_rfl) (fun _ _ _ h => h) rfl (fun wq hq => Yl.ld (y_adds rfl rfl (by have := decDigits_le (n / 10) (by omega); first | omega | (simp; omega)))) hb ?_
      refine Wa.take (i := 10) #[true, true, true, true, true, true, true, true, true, true, true] rfl (by kernel_rfl) (fun _ _ _ h => h) rfl (fun wq hq => Yl.ld (y_assign rfl)) hb ?_
      refine Wa.done (by kernel_rfl) ?_
      refine Wq.next hK_15 ?_
      refine Wc.ret ?_
      refine ret1 rfl rfl ?_
      exact ⟨_, rfl, by rw [Lib.decDigits.eq_def n, dif_neg (by have := c0_7; omega)], hb⟩
     exact Ws.nil
    exact Ws.nil
   refine Ws.cons #[true, true, false, true, true, true, true, true, false, false, false] rfl rfl (fun _ hK_30 => ?_) ?_
   ·
    refine Wl.litN (sz := 1) (vs := [_]) Tryz.underlying106 (by kernel_rfl) rfl rfl rfl rfl rfl rfl ?_
    rintro g_b1 w_b1 hg_b1 hn_b1 hs_b1
    have hz_b1 := hs_b1.size
    have hb := hb.trans (hs_b1.mono hb.size)
    have hB_b1 := hn_b1
    have hl_b1 := hB_b1.lt
    refine Wl.nil ?_
    refine Wq.back hK_30 hb ?_
    refine Wa.some (rs := [2, 8]) (by kernel_rfl) rfl ?_
    refine Ws.cons #[true, true, true, true, true, true, true, true, false, false, false] rfl rfl (fun _ hK_32 => ?_) ?_
    ·
     refine Wl.call txt77RefA rfl rfl (ih (n / 10) (by have := c0_7; omega) (by omega) _) rfl ?_
     rintro _ w_k0 ⟨rfl, hs_k0⟩
     have hz_k0 := hs_k0.size
     have hb := hb.trans (hs_k0.mono hb.size)
     try have hB_b1 := Blk.below hB_b1 hs_k0
     refine Wl.nil ?_
     refine Wq.back hK_32 hb ?_
     refine Wa.some (rs := [8]) (by kernel_rfl) rfl ?_
     refine Ws.cons #[true, true, true, true, true, true, true, true, true, false, false] rfl rfl (fun _ hK_34 => ?_) ?_
     ·
      refine Wl.l (l_str Tryz.underlying106 Tryz.underlying5 Tryz.underlying9 rfl (by exact Rd.byte hB_b1)) rfl ?_
      refine Wl.nil ?_
      refine Wq.back hK_34 hb ?_
      refine Wa.take (i := 9) #[true, true, true, true, true, true, true, true, true, true, false] rfl (by kernel_rfl) (fun _ _ _ h => h) rfl (fun wq hq => Yl.ld (y_adds rfl rfl (by have := decDigits_le (n / 10) (by omega); first | omega | (simp; omega)))) hb ?_
      refine Wa.take (i := 10) #[true, true, true, true, true, true, true, true, true, true, true] rfl (by kernel_rfl) (fun _ _ _ h => h) rfl (fun wq hq => Yl.ld (y_assign rfl)) hb ?_
      refine Wa.done (by kernel_rfl) ?_
      refine Wq.next hK_15 ?_
      refine Wc.ret ?_
      refine ret1 rfl rfl ?_
      exact ⟨_, rfl, by rw [Lib.decDigits.eq_def n, dif_neg (by have := c0_7; omega)], hb⟩
     exact Ws.nil
    refine Ws.cons #[true, true, false, true, true, true, true, true, true, false, false] rfl rfl (fun _ hK_38 => ?_) ?_
    ·
     refine Wl.l (l_str Tryz.underlying106 Tryz.underlying5 Tryz.underlying9 rfl (by exact Rd.byte hB_b1)) rfl ?_
     refine Wl.nil ?_
     refine Wq.back hK_38 hb ?_
     refine Wa.some (rs := [2]) (by kernel_rfl) rfl ?_
     refine Ws.cons #[true, true, true, true, true, true, true, true, true, false, false] rfl rfl (fun _ hK_40 => ?_) ?_
     ·
      refine Wl.call txt77RefA rfl rfl (ih (n / 10) (by have := c0_7; omega) (by omega) _) rfl ?_
      rintro _ w_k0 ⟨rfl, hs_k0⟩
      have hz_k0 := hs_k0.size
      have hb := hb.trans (hs_k0.mono hb.size)
      refine Wl.nil ?_
      refine Wq.back hK_40 hb ?_
      refine Wa.take (i := 9) #[true, true, true, true, true, true, true, true, true, true, false] rfl (by kernel_rfl) (fun _ _ _ h => h) rfl (fun wq hq => Yl.ld (y_adds rfl rfl (by have := decDigits_le (n / 10) (by omega); first | omega | (simp; omega)))) hb ?_
      refine Wa.take (i := 10) #[true, true, true, true, true, true, true, true, true, true, true] rfl (by kernel_rfl) (fun _ _ _ h => h) rfl (fun wq hq => Yl.ld (y_assign rfl)) hb ?_
      refine Wa.done (by kernel_rfl) ?_
      refine Wq.next hK_15 ?_
      refine Wc.ret ?_
      refine ret1 rfl rfl ?_
      exact ⟨_, rfl, by rw [Lib.decDigits.eq_def n, dif_neg (by have := c0_7; omega)], hb⟩
     exact Ws.nil
    exact Ws.nil
   exact Ws.nil

theorem Signed_neg (u : Nat) : ∀ (h1 : 1 ≤ u) (hn : u < 9223372036854775808) (w : World), Ret Tryz.prog 78 [.int .i64 (-(u : Int))] w fun v w' => v = str (45 :: Lib.decDigits u) ∧ Below w.heap.size w w' := by
  induction u using Nat.strongRecOn with
  | ind u ih =>
  intro h1 hn w
  have hdq : ((-(u : Int)).tdiv 10) = -((u / 10 : Nat) : Int) := by rw [Int.neg_tdiv, Int.tdiv_eq_ediv_of_nonneg (by omega)]; omega
  have hm : ((-(u : Int)).tmod 10) = -((u % 10 : Nat) : Int) := by rw [Int.neg_tmod, Int.tmod_eq_emod_of_nonneg (by omega)]; omega
  have hb := Below.refl w.heap.size w
  refine enter Tryz.func78 rfl rfl rfl ?_
  refine Wc.seq fun _ hK_1 => ?_
  refine Wc.region ?_
  refine Wl.y (y_assign rfl) rfl ?_
  refine Wl.nil ?_
  refine Wq.next hK_1 ?_
  refine Wc.seq fun _ hK_3 => ?_
  refine Wc.seq fun _ hK_4 => ?_
  refine Wc.region ?_
  refine Wl.y (y_move rfl) rfl ?_
  refine Wl.y (y_geqi rfl rfl) rfl ?_
  refine Wl.nil ?_
  refine Wq.next hK_4 ?_
  refine Wc.cond rfl (fun c0_7 => ?_) (fun c0_7 => ?_)
  ·
   have c0_7_ := c0_7
   try simp only [decide_eq_true_eq, decide_eq_false_iff_not, beq_iff_eq, beq_eq_false_iff_ne, bne_iff_ne, bne_eq_false_iff_eq, Bool.not_eq_true', Bool.not_eq_false', Bool.not_eq_eq_eq_not, Bool.not_true, Bool.not_false, ne_eq, Int.not_lt, Int.not_le] at c0_7
   exact absurd c0_7 (by omega)
  ·
   have c0_7_ := c0_7
   try simp only [decide_eq_true_eq, decide_eq_false_iff_not, beq_iff_eq, beq_eq_false_iff_ne, bne_iff_ne, bne_eq_false_iff_eq, Bool.not_eq_true', Bool.not_eq_false', Bool.not_eq_eq_eq_not, Bool.not_true, Bool.not_false, ne_eq, Int.not_lt, Int.not_le] at c0_7
   refine Wc.skip ?_
   refine Wq.next hK_3 ?_
   refine Wc.seq fun _ hK_8 => ?_
   refine Wc.seq fun _ hK_9 => ?_
   refine Wc.region ?_
   refine Wl.y (y_move rfl) rfl ?_
   refine Wl.y (y_gtri rfl rfl) rfl ?_
   refine Wl.nil ?_
   refine Wq.next hK_9 ?_
   refine Wc.cond rfl (fun c1_12 => ?_) (fun c1_12 => ?_)
   ·
    have c1_12_ := c1_12
    try simp only [decide_eq_true_eq, decide_eq_false_iff_not, beq_iff_eq, beq_eq_false_iff_ne, bne_iff_ne, bne_eq_false_iff_eq, Bool.not_eq_true', Bool.not_eq_false', Bool.not_eq_eq_eq_not, Bool.not_true, Bool.not_false, ne_eq, Int.not_lt, Int.not_le] at c1_12
    refine Wc.seq fun _ hK_13 => ?_
    refine Wc.region ?_
    refine Wl.y (y_move rfl) rfl ?_
    refine Wl.y (y_subI rfl rfl (by first | omega | (simp; done) | (simp; omega)) (by first | omega | (simp; done) | (simp; omega))) rfl ?_
    refine Wl.y (y_eq (y_convi Tryz.underlying3 Tryz.underlying5 rfl) (int_eq ((congrArg IntKind.u8.wrap (show 48 - -(u : Int) = 48 + (u : Int) by omega)).trans (digit_u8 u (by have := c1_12; omega))))) rfl ?_
    refine Wl.litN (sz := 1) (vs := [_]) Tryz.underlying106 (by kernel_rfl) rfl rfl rfl rfl rfl rfl ?_
    rintro g_b0 w_b0 hg_b0 hn_b0 hs_b0
    have hz_b0 := hs_b0.size
    have hb := hb.trans (hs_b0.mono hb.size)
    have hB_b0 := hn_b0
    have hl_b0 := hB_b0.lt
    refine Wl.l (l_str Tryz.underlying106 Tryz.underlying5 Tryz.underlying9 rfl (by exact Rd.byte hB_b0)) rfl ?_
    refine Wl.y (y_adds rfl rfl (by first | omega | (simp; done) | (simp; omega))) rfl ?_
    refine Wl.y (y_assign rfl) rfl ?_
    refine Wl.nil ?_
    refine Wq.next hK_13 ?_
    refine Wc.ret ?_
    refine Wq.then_ret ?_
    refine ret1 rfl rfl ?_
    exact ⟨_, rfl, by rw [Lib.decDigits, dif_pos (by have := c1_12; omega)]; rfl, hb⟩
   ·
    have c1_12_ := c1_12
    try simp only [decide_eq_true_eq, decide_eq_false_iff_not, beq_iff_eq, beq_eq_false_iff_ne, bne_iff_ne, bne_eq_false_iff_eq, Bool.not_eq_true', Bool.not_eq_false', Bool.not_eq_eq_eq_not, Bool.not_true, Bool.not_false, ne_eq, Int.not_lt, Int.not_le] at c1_12
    refine Wc.skip ?_
    refine Wq.next hK_8 ?_
    refine Wc.seq fun _ hK_21 => ?_
    refine Wc.any (n := 11) (fun w' => Below w.heap.size w w') #[false, false, false, false, false, false, false, false, false, false, false] (by kernel_rfl) rfl (by kernel_rfl) ?_
    refine Wa.drew ?_
    rintro w_g5 hs_g5
    have hz_g5 := hs_g5.size
    have hb := hb.trans (hs_g5.mono hb.size)
    refine Wa.take (i := 0) #[true, false, false, false, false, false, false, false, false, false, false] rfl (by kernel_rfl) (fun _ _ _ h => h) rfl (fun wq hq => Yl.ld (y_move rfl)) hb ?_
    refine Wa.take (i := 1) #[true, true, false, false, false, false, false, false, false, false, false] rfl (by kernel_rfl) (fun _ _ _ h => h) rfl (fun wq hq => Yl.ld (y_eq (y_quo rfl rfl (by first | decide | omega)) (int_eq ((congrArg IntKind.i64.wrap hdq).trans (wrap_i64 _ (by omega) (by omega)))))) hb ?_
    refine Wa.take (i := 3) #[true, true, false, true, false, false, false, false, false, false, false] rfl (by kernel_rfl) (fun _ _ _ h => h) rfl (fun wq hq => Yl.ld (y_move rfl)) hb ?_
    refine Wa.take (i := 4) #[true, true, false, true, true, false, false, false, false, false, false] rfl (by kernel_rfl) (fun _ _ _ h => h) rfl (fun wq hq => Yl.ld (y_eq (y_rem rfl rfl (by first | decide | omega)) (int_eq hm))) hb ?_
    refine Wa.take (i := 5) #[true, true, false, true, true, true, false, false, false, false, false] rfl (by kernel_rfl) (fun _ _ _ h => h) rfl (fun wq hq => Yl.ld (y_subI rfl rfl (by first | omega | (simp; done) | (simp; omega)) (by first | omega | (simp; done) | (simp; omega)))) hb ?_
    refine Wa.take (i := 6) #[true, true, false, true, true, true, true, false, false, false, false] rfl (by kernel_rfl) (fun _ _ _ h => h) rfl (fun wq hq => Yl.ld (y_eq (y_convi Tryz.underlying3 Tryz.underlying5 rfl) (int_eq ((congrArg IntKind.u8.wrap (show 48 - -((u % 10 : Nat) : Int) = 48 + ((u % 10 : Nat) : Int) by omega)).trans (digit_u8 (u % 10) (by omega)))))) hb ?_
    refine Wa.some (rs := [2, 7]) (by kernel_rfl) rfl ?_
    refine Ws.cons #[true, true, true, true, true, true, true, false, false, false, false] rfl rfl (fun _ hK_28 => ?_) ?_
    ·
     refine Wl.call txt78RefA rfl rfl (ih (u / 10) (by have := c1_12; omega) (by have := c1_12; omega) (by omega) _) rfl ?_
     rintro _ w_k1 ⟨rfl, hs_k1⟩
     have hz_k1 := hs_k1.size
     have hb := hb.trans (hs_k1.mono hb.size)
     refine Wl.nil ?_
     refine Wq.back hK_28 hb ?_
     refine Wa.some (rs := [7]) (by kernel_rfl) rfl ?_
     refine Ws.cons #[true, true, true, true, true, true, true, true, false, false, false] rfl rfl (fun _ hK_30 => ?_) ?_
     ·
      refine Wl.litN (sz := 1) (vs := [_]) Tryz.underlying106 (by kernel_rfl) rfl rfl rfl rfl rfl rfl ?_
      rintro g_b1 w_b1 hg_b1 hn_b1 hs_b1
      have hz_b1 := hs_b1.size
      have hb := hb.trans (hs_b1.mono hb.size)
      have hB_b1 := hn_b1
      have hl_b1 := hB_b1.lt
      refine Wl.nil ?_
      refine Wq.back hK_30 hb ?_
      refine Wa.some (rs := [8]) (by kernel_rfl) rfl ?_
      refine Ws.cons #[true, true, true, true, true, true, true, true, true, false, false] rfl rfl (fun _ hK_32 => ?_) ?_
      ·
       refine Wl.l (l_str Tryz.underlying106 Tryz.underlying5 Tryz.underlying9 rfl (by exact Rd.byte hB_b1)) rfl ?_
       refine Wl.nil ?_
       refine Wq.back hK_32 hb ?_
       refine Wa.take (i := 9) #[true, true, true, true, true, true, true, true, true, true, false] rfl (by kernel_rfl) (fun _ _ _ h => h) rfl (fun wq hq => Yl.ld (y_adds rfl rfl (by have := decDigits_le (u / 10) (by omega); first | omega | (simp; omega)))) hb ?_
       refine Wa.take (i := 10) #[true, true, true, true, true, true, true, true, true, true, true] rfl (by kernel_rfl) (fun _ _ _ h => h) rfl (fun wq hq => Yl.ld (y_assign rfl)) hb ?_
       refine Wa.done (by kernel_rfl) ?_
       refine Wq.next hK_21 ?_
       refine Wc.ret ?_
       refine ret1 rfl rfl ?_
       exact ⟨_, rfl, by rw [Lib.decDigits.eq_def u, dif_neg (by have := c1_12; omega)]; rfl, hb⟩
      exact Ws.nil
     exact Ws.nil
    refine Ws.cons #[true, true, false, true, true, true, true, true, false, false, false] rfl rfl (fun _ hK_36 => ?_) ?_
    ·
     refine Wl.litN (sz := 1) (vs := [_]) Tryz.underlying106 (by kernel_rfl) rfl rfl rfl rfl rfl rfl ?_
     rintro g_b1 w_b1 hg_b1 hn_b1 hs_b1
     have hz_b1 := hs_b1.size
     have hb := hb.trans (hs_b1.mono hb.size)
     have hB_b1 := hn_b1
     have hl_b1 := hB_b1.lt
     refine Wl.nil ?_
     refine Wq.back hK_36 hb ?_
     refine Wa.some (rs := [2, 8]) (by kernel_rfl) rfl ?_
     refine Ws.cons #[true, true, true, true, true, true, true, true, false, false, false] rfl rfl (fun _ hK_38 => ?_) ?_
     ·
      refine Wl.call txt78RefA rfl rfl (ih (u / 10) (by have := c1_12; omega) (by have := c1_12; omega) (by omega) _) rfl ?_
      rintro _ w_k1 ⟨rfl, hs_k1⟩
      have hz_k1 := hs_k1.size
      have hb := hb.trans (hs_k1.mono hb.size)
      try have hB_b1 := Blk.below hB_b1 hs_k1
      refine Wl.nil ?_
      refine Wq.back hK_38 hb ?_
      refine Wa.some (rs := [8]) (by kernel_rfl) rfl ?_
      refine Ws.cons #[true, true, true, true, true, true, true, true, true, false, false] rfl rfl (fun _ hK_40 => ?_) ?_
      ·
       refine Wl.l (l_str Tryz.underlying106 Tryz.underlying5 Tryz.underlying9 rfl (by exact Rd.byte hB_b1)) rfl ?_
       refine Wl.nil ?_
       refine Wq.back hK_40 hb ?_
       refine Wa.take (i := 9) #[true, true, true, true, true, true, true, true, true, true, false] rfl (by kernel_rfl) (fun _ _ _ h => h) rfl (fun wq hq => Yl.ld (y_adds rfl rfl (by have := decDigits_le (u / 10) (by omega); first | omega | (simp; omega)))) hb ?_
       refine Wa.take (i := 10) #[true, true, true, true, true, true, true, true, true, true, true] rfl (by kernel_rfl) (fun _ _ _ h => h) rfl (fun wq hq => Yl.ld (y_assign rfl)) hb ?_
       refine Wa.done (by kernel_rfl) ?_
       refine Wq.next hK_21 ?_
       refine Wc.ret ?_
       refine ret1 rfl rfl ?_
       exact ⟨_, rfl, by rw [Lib.decDigits.eq_def u, dif_neg (by have := c1_12; omega)]; rfl, hb⟩
      exact Ws.nil
     refine Ws.cons #[true, true, false, true, true, true, true, true, true, false, false] rfl rfl (fun _ hK_44 => ?_) ?_
     ·
      refine Wl.l (l_str Tryz.underlying106 Tryz.underlying5 Tryz.underlying9 rfl (by exact Rd.byte hB_b1)) rfl ?_
      refine Wl.nil ?_
      refine Wq.back hK_44 hb ?_
      refine Wa.some (rs := [2]) (by kernel_rfl) rfl ?_
      refine Ws.cons #[true, true, true, true, true, true, true, true, true, false, false] rfl rfl (fun _ hK_46 => ?_) ?_
      ·
       refine Wl.call txt78RefA rfl rfl (ih (u / 10) (by have := c1_12; omega) (by have := c1_12; omega) (by omega) _) rfl ?_
       rintro _ w_k1 ⟨rfl, hs_k1⟩
       have hz_k1 := hs_k1.size
       have hb := hb.trans (hs_k1.mono hb.size)
       refine Wl.nil ?_
       refine Wq.back hK_46 hb ?_
       refine Wa.take (i := 9) #[true, true, true, true, true, true, true, true, true, true, false] rfl (by kernel_rfl) (fun _ _ _ h => h) rfl (fun wq hq => Yl.ld (y_adds rfl rfl (by have := decDigits_le (u / 10) (by omega); first | omega | (simp; omega)))) hb ?_
       refine Wa.take (i := 10) #[true, true, true, true, true, true, true, true, true, true, true] rfl (by kernel_rfl) (fun _ _ _ h => h) rfl (fun wq hq => Yl.ld (y_assign rfl)) hb ?_
       refine Wa.done (by kernel_rfl) ?_
       refine Wq.next hK_21 ?_
       refine Wc.ret ?_
       refine ret1 rfl rfl ?_
       exact ⟨_, rfl, by rw [Lib.decDigits.eq_def u, dif_neg (by have := c1_12; omega)]; rfl, hb⟩
      exact Ws.nil
     exact Ws.nil
    exact Ws.nil
theorem Signed_r (n : Int) (h0 : -9223372036854775808 < n) (h1 : n ≤ 9223372036854775807) (w : World) : Ret Tryz.prog 78 [.int .i64 n] w fun v w' => v = str (Lib.itoa n) ∧ Below w.heap.size w w' := by
  by_cases hn : n < 0
  · have := Signed_neg n.natAbs (by omega) (by omega) w
    have e : -((n.natAbs : Nat) : Int) = n := by omega
    rw [e] at this
    unfold Lib.itoa; rw [if_pos hn]; exact this
  · obtain ⟨m, rfl⟩ := Int.eq_ofNat_of_zero_le (show 0 ≤ n by omega)
    rw [Lib.itoa_nonneg]
    have hb := Below.refl w.heap.size w
    refine enter Tryz.func78 rfl rfl rfl ?_
    refine Wc.seq fun _ hK_1 => ?_
    refine Wc.region ?_
    refine Wl.y (y_assign rfl) rfl ?_
    refine Wl.nil ?_
    refine Wq.next hK_1 ?_
    refine Wc.seq fun _ hK_3 => ?_
    refine Wc.seq fun _ hK_4 => ?_
    refine Wc.region ?_
    refine Wl.y (y_move rfl) rfl ?_
    refine Wl.y (y_geqi rfl rfl) rfl ?_
    refine Wl.nil ?_
    refine Wq.next hK_4 ?_
    refine Wc.cond rfl (fun c0_7 => ?_) (fun c0_7 => ?_)
    ·
     have c0_7_ := c0_7
     try simp only [decide_eq_true_eq, decide_eq_false_iff_not, beq_iff_eq, beq_eq_false_iff_ne, bne_iff_ne, bne_eq_false_iff_eq, Bool.not_eq_true', Bool.not_eq_false', Bool.not_eq_eq_eq_not, Bool.not_true, Bool.not_false, ne_eq, Int.not_lt, Int.not_le] at c0_7
     refine Wc.seq fun _ hK_8 => ?_
     refine Wc.region ?_
     refine Wl.y (y_move rfl) rfl ?_
     refine Wl.call txt77RefA rfl rfl (Digits_r m (by omega) _) rfl ?_
     rintro _ w_k0 ⟨rfl, hs_k0⟩
     have hz_k0 := hs_k0.size
     have hb := hb.trans (hs_k0.mono hb.size)
     refine Wl.y (y_assign rfl) rfl ?_
     refine Wl.nil ?_
     refine Wq.next hK_8 ?_
     refine Wc.ret ?_
     refine Wq.then_ret ?_
     refine ret1 rfl rfl ?_
     exact ⟨_, rfl, rfl, hb⟩
    ·
     have c0_7_ := c0_7
     try simp only [decide_eq_true_eq, decide_eq_false_iff_not, beq_iff_eq, beq_eq_false_iff_ne, bne_iff_ne, bne_eq_false_iff_eq, Bool.not_eq_true', Bool.not_eq_false', Bool.not_eq_eq_eq_not, Bool.not_true, Bool.not_false, ne_eq, Int.not_lt, Int.not_le] at c0_7
     exact absurd c0_7 (by omega)
theorem exp_low {b e : Nat} (he : e = b / 4503599627370496 % 2048) (h : (e : Int) = 0) : exp0 (rung b) + 1075 = 1 := by
  have : rung b < 4503599627370496 := by unfold rung; omega
  unfold exp0; rw [if_pos this]; omega
theorem exp_high {b e : Nat} (he : e = b / 4503599627370496 % 2048) (hr : rung b < 9218868437227405312) (h : ¬ (e : Int) = 0) : exp0 (rung b) + 1075 = (e : Int) := by
  have : ¬ rung b < 4503599627370496 := by unfold rung; omega
  unfold exp0; rw [if_neg this]
  have : rung b / 4503599627370496 = e := by unfold rung; omega
  rw [this]; omega
theorem mant_low {b e m : Nat} (he : e = b / 4503599627370496 % 2048) (hm : m = b % 4503599627370496) (h : (e : Int) = 0) : ((mant0 (rung b) : Nat) : Int) = (m : Int) := by
  have : rung b < 4503599627370496 := by unfold rung; omega
  unfold mant0; rw [if_pos this]; unfold rung; omega
theorem mant_high {b e m : Nat} (he : e = b / 4503599627370496 % 2048) (hm : m = b % 4503599627370496) (h : ¬ (e : Int) = 0) : ((mant0 (rung b) : Nat) : Int) = (m : Int) + 4503599627370496 := by
  have : ¬ rung b < 4503599627370496 := by unfold rung; omega
  unfold mant0; rw [if_neg this]; unfold rung; omega
theorem mant0_lt {r : Nat} (h : r < 9218868437227405312) : mant0 r < 9007199254740992 := by
  unfold mant0; have := Nat.mod_lt r (show 0 < 4503599627370496 by decide); split <;> omega
theorem exp0_bd {r : Nat} (h : r < 9218868437227405312) : -1074 ≤ exp0 r ∧ exp0 r ≤ 971 := by
  unfold exp0; split <;> omega
theorem v2_le {r : Nat} (h : r < 9218868437227405312) (h0 : r ≠ 0) : v2 (mant0 r) ≤ 53 := by
  obtain ⟨h1, h2⟩ := od_spec _ (mant0_ne h0)
  have h3 := mant0_lt h
  rcases Nat.lt_or_ge 53 (v2 (mant0 r)) with h4 | h4
  · have : 2 ^ 53 ≤ 2 ^ v2 (mant0 r) := Nat.pow_le_pow_right (by decide) (by omega)
    have h5 : 1 * 2 ^ v2 (mant0 r) ≤ od (mant0 r) * 2 ^ v2 (mant0 r) := Nat.mul_le_mul_right _ (by omega)
    omega
  · exact h4
theorem half_of {m o t j : Nat} (h1 : m = o * 2 ^ t) (h2 : o % 2 = 1) (hm : m < 9007199254740992) (hj : j ≤ t) :
    ((((o * 2 ^ (t - j) : Nat) : Int).tmod 2 = 0) ↔ j < t) ∧ (j < t → ((o * 2 ^ (t - (j + 1)) : Nat) : Int) = IntKind.i64.wrap (((o * 2 ^ (t - j) : Nat) : Int).tdiv 2)) ∧ o * 2 ^ (t - j) < 9007199254740992 := by
  have hlt : o * 2 ^ (t - j) < 9007199254740992 := Nat.lt_of_le_of_lt (by rw [h1]; exact Nat.mul_le_mul_left _ (Nat.pow_le_pow_right (by decide) (by omega))) hm
  rw [Int.tmod_eq_emod_of_nonneg (by omega), Int.tdiv_eq_ediv_of_nonneg (by omega)]
  refine ⟨?_, fun h => ?_, hlt⟩
  · rcases Nat.lt_or_ge j t with h | h
    · obtain ⟨k, hk⟩ : ∃ k, t - j = k + 1 := ⟨t - j - 1, by omega⟩
      rw [hk, Nat.pow_succ, ← Nat.mul_assoc]
      exact ⟨fun _ => h, fun _ => by omega⟩
    · rw [show t - j = 0 by omega]; simp; omega
  · obtain ⟨k, hk⟩ : ∃ k, t - j = k + 1 := ⟨t - j - 1, by omega⟩
    rw [hk, show t - (j + 1) = k by omega]
    rw [hk, Nat.pow_succ, ← Nat.mul_assoc] at hlt
    rw [Nat.pow_succ, ← Nat.mul_assoc, wrap_i64 _ (by omega) (by omega)]; omega
theorem RText_r (b : Nat) (hb0 : b < 18446744073709551616) (w : World) : Ret Tryz.prog 40 [.float .f64 b] w fun v w' => v = str (textF b) ∧ Below w.heap.size w w' := by
  have hsl := sgn_le b
  have hb := Below.refl w.heap.size w
  refine enter Tryz.func40 rfl rfl rfl ?_
  refine Wc.seq fun _ hK_1 => ?_
  refine Wc.region ?_
  refine Wl.y (y_assign rfl) rfl ?_
  refine Wl.nil ?_
  refine Wq.next hK_1 ?_
  refine Wc.seq fun _ hK_3 => ?_
  refine Wc.region ?_
  refine Wl.y (y_move rfl) rfl ?_
  refine Wl.call txt76RefA rfl rfl (Parts_r b hb0 _) rfl ?_
  rintro _ w_ ⟨rfl, hw_⟩
  have hw_ := hw_.symm; subst hw_
  refine Wl.y (y_move rfl) rfl ?_
  refine Wl.y (y_extract rfl rfl) rfl ?_
  refine Wl.y (y_extract rfl rfl) rfl ?_
  refine Wl.y (y_extract rfl rfl) rfl ?_
  refine Wl.y (y_assign rfl) rfl ?_
  refine Wl.y (y_assign rfl) rfl ?_
  refine Wl.y (y_assign rfl) rfl ?_
  refine Wl.nil ?_
  refine Wq.next hK_3 ?_
  refine Wc.seq fun _ hK_13 => ?_
  refine Wc.seq fun _ hK_14 => ?_
  refine Wc.region ?_
  refine Wl.y (y_move rfl) rfl ?_
  refine Wl.y (y_eqli rfl rfl) rfl ?_
  refine Wl.y (y_move rfl) rfl ?_
  refine Wl.guardT rfl rfl rfl (fun g_18 => ?_) (fun g_18 => ?_)
  ·
   have g_18_ := g_18
   try simp only [decide_eq_true_eq, decide_eq_false_iff_not, beq_iff_eq, beq_eq_false_iff_ne, bne_iff_ne, bne_eq_false_iff_eq, Bool.not_eq_true', Bool.not_eq_false', Bool.not_eq_eq_eq_not, Bool.not_true, Bool.not_false, ne_eq, Int.not_lt, Int.not_le] at g_18
   refine Wl.y (y_move rfl) rfl ?_
   refine Wl.on' rfl rfl g_18_ ?_
   refine Wl.y (y_neqi rfl rfl) rfl ?_
   refine Wl.y (y_pickT rfl g_18_ rfl) rfl ?_
   refine Wl.nil ?_
   refine Wq.next hK_14 ?_
   refine Wc.cond rfl (fun c0_22 => ?_) (fun c0_22 => ?_)
   ·
    have c0_22_ := c0_22
    try simp only [decide_eq_true_eq, decide_eq_false_iff_not, beq_iff_eq, beq_eq_false_iff_ne, bne_iff_ne, bne_eq_false_iff_eq, Bool.not_eq_true', Bool.not_eq_false', Bool.not_eq_eq_eq_not, Bool.not_true, Bool.not_false, ne_eq, Int.not_lt, Int.not_le] at c0_22
    refine Wc.seq fun _ hK_23 => ?_
    refine Wc.region ?_
    refine Wl.y (y_assign rfl) rfl ?_
    refine Wl.nil ?_
    refine Wq.next hK_23 ?_
    refine Wc.ret ?_
    refine Wq.then_ret ?_
    refine ret1 rfl rfl ?_
    exact ⟨_, rfl, text_nan (by unfold isNan; simp only [decide_eq_true_eq]; have := g_18; have := c0_22; omega), hb⟩
   ·
    have c0_22_ := c0_22
    try simp only [decide_eq_true_eq, decide_eq_false_iff_not, beq_iff_eq, beq_eq_false_iff_ne, bne_iff_ne, bne_eq_false_iff_eq, Bool.not_eq_true', Bool.not_eq_false', Bool.not_eq_eq_eq_not, Bool.not_true, Bool.not_false, ne_eq, Int.not_lt, Int.not_le] at c0_22
    refine Wc.skip ?_
    refine Wq.next hK_13 ?_
    refine Wc.seq fun _ hK_25 => ?_
    obtain ⟨e, he⟩ : ∃ e : Nat, e = b / 4503599627370496 % 2048 := ⟨_, rfl⟩
    obtain ⟨m, hm⟩ : ∃ m : Nat, m = b % 4503599627370496 := ⟨_, rfl⟩
    have hnn : isNan b = false := by unfold isNan; simp only [decide_eq_false_iff_not]; first | (have := g_18; omega) | (have := g_18; have := c0_22; omega)
    rw [← he, ← hm]
    refine Wc.region ?_
    refine Wl.y (y_assign rfl) rfl ?_
    refine Wl.nil ?_
    refine Wq.next hK_25 ?_
    refine Wc.seq fun _ hK_27 => ?_
    refine Wc.seq fun _ hK_28 => ?_
    refine Wc.region ?_
    refine Wl.y (y_move rfl) rfl ?_
    refine Wl.nil ?_
    refine Wq.next hK_28 ?_
    refine Wc.meet (X := Unit) (fun u_ => [(4, .int .i64 (e : Int)), (5, .int .i64 (m : Int)), (6, str (sgn b))]) (fun u_ wr => Below w.heap.size w wr) (fun _ hM_30 => ?_) ?_
    ·
     refine Wc.cond rfl (fun c1_31 => ?_) (fun c1_31 => ?_)
     ·
      have c1_31_ := c1_31
      try simp only [decide_eq_true_eq, decide_eq_false_iff_not, beq_iff_eq, beq_eq_false_iff_ne, bne_iff_ne, bne_eq_false_iff_eq, Bool.not_eq_true', Bool.not_eq_false', Bool.not_eq_eq_eq_not, Bool.not_true, Bool.not_false, ne_eq, Int.not_lt, Int.not_le] at c1_31
      refine Wc.region ?_
      refine Wl.y (y_assign rfl) rfl ?_
      refine Wl.nil ?_
      refine Wq.meet hM_30 (()) (Sub.cons' rfl (by first | rfl | exact str_eq (if_pos c1_31_).symm | exact str_eq (if_neg (ne_tt c1_31_)).symm) (Sub.cons' rfl (by first | rfl | exact str_eq (if_pos c1_31_).symm | exact str_eq (if_neg (ne_tt c1_31_)).symm) (Sub.cons' rfl (by first | rfl | exact str_eq (if_pos c1_31_).symm | exact str_eq (if_neg (ne_tt c1_31_)).symm) (Sub.nil)))) ?_
      exact hb
     ·
      have c1_31_ := c1_31
      try simp only [decide_eq_true_eq, decide_eq_false_iff_not, beq_iff_eq, beq_eq_false_iff_ne, bne_iff_ne, bne_eq_false_iff_eq, Bool.not_eq_true', Bool.not_eq_false', Bool.not_eq_eq_eq_not, Bool.not_true, Bool.not_false, ne_eq, Int.not_lt, Int.not_le] at c1_31
      refine Wc.skip ?_
      refine Wq.meet hM_30 (()) (Sub.cons' rfl (by first | rfl | exact str_eq (if_pos c1_31_).symm | exact str_eq (if_neg (ne_tt c1_31_)).symm) (Sub.cons' rfl (by first | rfl | exact str_eq (if_pos c1_31_).symm | exact str_eq (if_neg (ne_tt c1_31_)).symm) (Sub.cons' rfl (by first | rfl | exact str_eq (if_pos c1_31_).symm | exact str_eq (if_neg (ne_tt c1_31_)).symm) (Sub.nil)))) ?_
      exact hb
    ·
     rintro u_ wr hI_33
     replace hI_33 : Below w.heap.size w wr := hI_33
     have hb := hI_33
     show Wq _ _ _ _ [(4, .int .i64 (e : Int)), (5, .int .i64 (m : Int)), (6, str (sgn b))] _
     try have hzhb_c1 := hb.size
     refine Wq.next hK_27 ?_
     refine Wc.seq fun _ hK_34 => ?_
     refine Wc.seq fun _ hK_35 => ?_
     refine Wc.region ?_
     refine Wl.y (y_move rfl) rfl ?_
     refine Wl.y (y_eqli rfl rfl) rfl ?_
     refine Wl.nil ?_
     refine Wq.next hK_35 ?_
     refine Wc.cond rfl (fun c2_38 => ?_) (fun c2_38 => ?_)
     ·
      have c2_38_ := c2_38
      try simp only [decide_eq_true_eq, decide_eq_false_iff_not, beq_iff_eq, beq_eq_false_iff_ne, bne_iff_ne, bne_eq_false_iff_eq, Bool.not_eq_true', Bool.not_eq_false', Bool.not_eq_eq_eq_not, Bool.not_true, Bool.not_false, ne_eq, Int.not_lt, Int.not_le] at c2_38
      refine Wc.seq fun _ hK_39 => ?_
      refine Wc.region ?_
      refine Wl.y (y_move rfl) rfl ?_
      refine Wl.y (y_adds rfl rfl (by first | omega | (simp; done) | (simp; omega))) rfl ?_
      refine Wl.y (y_assign rfl) rfl ?_
      refine Wl.nil ?_
      refine Wq.next hK_39 ?_
      refine Wc.ret ?_
      refine Wq.then_ret ?_
      refine ret1 rfl rfl ?_
      first | exact ⟨_, rfl, by rw [text_num hnn hr3 hr2, hjt], hb⟩ | exact ⟨_, rfl, by rw [text_zero hnn (by have := MISSING_c3; have := MISSING_o27; unfold rung; omega) (by have := MISSING_c3; have := MISSING_o27; unfold rung; omega)], hb⟩ | exact ⟨_, rfl, by rw [text_inf hnn (by have := c2_38; unfold isNan at hnn; simp only [decide_eq_false_iff_not] at hnn; unfold rung; omega)], hb⟩
     ·
      have c2_38_ := c2_38
      try simp only [decide_eq_true_eq, decide_eq_false_iff_not, beq_iff_eq, beq_eq_false_iff_ne, bne_iff_ne, bne_eq_false_iff_eq, Bool.not_eq_true', Bool.not_eq_false', Bool.not_eq_eq_eq_not, Bool.not_true, Bool.not_false, ne_eq, Int.not_lt, Int.not_le] at c2_38
      refine Wc.skip ?_
      refine Wq.next hK_34 ?_
      refine Wc.seq fun _ hK_43 => ?_
      refine Wc.seq fun _ hK_44 => ?_
      refine Wc.region ?_
      refine Wl.y (y_move rfl) rfl ?_
      refine Wl.y (y_eqli rfl rfl) rfl ?_
      refine Wl.y (y_move rfl) rfl ?_
      refine Wl.guardT rfl rfl rfl (fun g_48 => ?_) (fun g_48 => ?_)
      ·
       have g_48_ := g_48
       try simp only [decide_eq_true_eq, decide_eq_false_iff_not, beq_iff_eq, beq_eq_false_iff_ne, bne_iff_ne, bne_eq_false_iff_eq, Bool.not_eq_true', Bool.not_eq_false', Bool.not_eq_eq_eq_not, Bool.not_true, Bool.not_false, ne_eq, Int.not_lt, Int.not_le] at g_48
       have hr0 : m = 0 → rung b = 0 := fun h => by have := g_48; unfold rung; omega
       refine Wl.y (y_move rfl) rfl ?_
       refine Wl.on' rfl rfl g_48_ ?_
       refine Wl.y (y_eqli rfl rfl) rfl ?_
       refine Wl.y (y_pickT rfl g_48_ rfl) rfl ?_
       refine Wl.nil ?_
       refine Wq.next hK_44 ?_
       refine Wc.cond rfl (fun c3_52 => ?_) (fun c3_52 => ?_)
       ·
        have c3_52_ := c3_52
        try simp only [decide_eq_true_eq, decide_eq_false_iff_not, beq_iff_eq, beq_eq_false_iff_ne, bne_iff_ne, bne_eq_false_iff_eq, Bool.not_eq_true', Bool.not_eq_false', Bool.not_eq_eq_eq_not, Bool.not_true, Bool.not_false, ne_eq, Int.not_lt, Int.not_le] at c3_52
        refine Wc.seq fun _ hK_53 => ?_
        refine Wc.region ?_
        refine Wl.y (y_move rfl) rfl ?_
        refine Wl.y (y_adds rfl rfl (by first | omega | (simp; done) | (simp; omega))) rfl ?_
        refine Wl.y (y_assign rfl) rfl ?_
        refine Wl.nil ?_
        refine Wq.next hK_53 ?_
        refine Wc.ret ?_
        refine Wq.then_ret ?_
        refine ret1 rfl rfl ?_
        first | exact ⟨_, rfl, by rw [text_num hnn hr3 hr2, hjt], hb⟩ | exact ⟨_, rfl, by rw [text_zero hnn (by have := c3_52; have := g_48; unfold rung; omega) (by have := c3_52; have := g_48; unfold rung; omega)], hb⟩ | exact ⟨_, rfl, by rw [text_inf hnn (by have := c2_38; unfold isNan at hnn; simp only [decide_eq_false_iff_not] at hnn; unfold rung; omega)], hb⟩
       ·
        have c3_52_ := c3_52
        try simp only [decide_eq_true_eq, decide_eq_false_iff_not, beq_iff_eq, beq_eq_false_iff_ne, bne_iff_ne, bne_eq_false_iff_eq, Bool.not_eq_true', Bool.not_eq_false', Bool.not_eq_eq_eq_not, Bool.not_true, Bool.not_false, ne_eq, Int.not_lt, Int.not_le] at c3_52
        refine Wc.skip ?_
        refine Wq.next hK_43 ?_
        refine Wc.seq fun _ hK_57 => ?_
        refine Wc.seq fun _ hK_58 => ?_
        refine Wc.region ?_
        refine Wl.y (y_move rfl) rfl ?_
        refine Wl.y (y_eqli rfl rfl) rfl ?_
        refine Wl.nil ?_
        refine Wq.next hK_58 ?_
        have hr1 : rung b < 9218868437227405312 := by unfold isNan at hnn; simp only [decide_eq_false_iff_not] at hnn; have := c2_38; unfold rung; omega
        have hr2 : rung b ≠ 0 := by unfold rung; first | (have := g_48; omega) | (have := g_48; have := c3_52; omega)
        have hr3 : rung b ≠ 9218868437227405312 := by omega
        refine Wc.meet (X := Unit) (fun u_ => [(4, .int .i64 (exp0 (rung b) + 1075)), (5, .int .i64 (mant0 (rung b) : Nat)), (6, str (sgn b))]) (fun u_ wr => Below w.heap.size w wr) (fun _ hM_61 => ?_) ?_
        ·
         refine Wc.cond rfl (fun c4_62 => ?_) (fun c4_62 => ?_)
         ·
          have c4_62_ := c4_62
          try simp only [decide_eq_true_eq, decide_eq_false_iff_not, beq_iff_eq, beq_eq_false_iff_ne, bne_iff_ne, bne_eq_false_iff_eq, Bool.not_eq_true', Bool.not_eq_false', Bool.not_eq_eq_eq_not, Bool.not_true, Bool.not_false, ne_eq, Int.not_lt, Int.not_le] at c4_62
          refine Wc.region ?_
          refine Wl.y (y_assign rfl) rfl ?_
          refine Wl.nil ?_
          refine Wq.meet hM_61 (()) (Sub.cons' rfl (by first | rfl | exact int_eq (exp_low he c4_62).symm | exact int_eq (exp_high he hr1 c4_62).symm | exact int_eq (mant_low he hm c4_62).symm | exact int_eq (mant_high he hm c4_62).symm) (Sub.cons' rfl (by first | rfl | exact int_eq (exp_low he c4_62).symm | exact int_eq (exp_high he hr1 c4_62).symm | exact int_eq (mant_low he hm c4_62).symm | exact int_eq (mant_high he hm c4_62).symm) (Sub.cons' rfl (by first | rfl | exact int_eq (exp_low he c4_62).symm | exact int_eq (exp_high he hr1 c4_62).symm | exact int_eq (mant_low he hm c4_62).symm | exact int_eq (mant_high he hm c4_62).symm) (Sub.nil)))) ?_
          exact hb
         ·
          have c4_62_ := c4_62
          try simp only [decide_eq_true_eq, decide_eq_false_iff_not, beq_iff_eq, beq_eq_false_iff_ne, bne_iff_ne, bne_eq_false_iff_eq, Bool.not_eq_true', Bool.not_eq_false', Bool.not_eq_eq_eq_not, Bool.not_true, Bool.not_false, ne_eq, Int.not_lt, Int.not_le] at c4_62
          refine Wc.region ?_
          refine Wl.y (y_move rfl) rfl ?_
          refine Wl.y (y_addI rfl rfl (by first | omega | (simp; done) | (simp; omega)) (by first | omega | (simp; done) | (simp; omega))) rfl ?_
          refine Wl.y (y_assign rfl) rfl ?_
          refine Wl.nil ?_
          refine Wq.meet hM_61 (()) (Sub.cons' rfl (by first | rfl | exact int_eq (exp_low he c4_62).symm | exact int_eq (exp_high he hr1 c4_62).symm | exact int_eq (mant_low he hm c4_62).symm | exact int_eq (mant_high he hm c4_62).symm) (Sub.cons' rfl (by first | rfl | exact int_eq (exp_low he c4_62).symm | exact int_eq (exp_high he hr1 c4_62).symm | exact int_eq (mant_low he hm c4_62).symm | exact int_eq (mant_high he hm c4_62).symm) (Sub.cons' rfl (by first | rfl | exact int_eq (exp_low he c4_62).symm | exact int_eq (exp_high he hr1 c4_62).symm | exact int_eq (mant_low he hm c4_62).symm | exact int_eq (mant_high he hm c4_62).symm) (Sub.nil)))) ?_
          exact hb
        ·
         rintro u_ wr hI_67
         replace hI_67 : Below w.heap.size w wr := hI_67
         have hb := hI_67
         show Wq _ _ _ _ [(4, .int .i64 (exp0 (rung b) + 1075)), (5, .int .i64 (mant0 (rung b) : Nat)), (6, str (sgn b))] _
         try have hzhb_c4 := hb.size
         obtain ⟨ho1, ho2⟩ := od_spec _ (mant0_ne hr2)
         have hml := mant0_lt hr1
         have hex := exp0_bd hr1
         have hv := v2_le hr1 hr2
         refine Wq.next hK_57 ?_
         refine Wc.seq fun _ hK_68 => ?_
         refine Wc.region ?_
         refine Wl.y (y_move rfl) rfl ?_
         refine Wl.y (y_subI rfl rfl (by first | omega | (simp; done) | (simp; omega)) (by first | omega | (simp; done) | (simp; omega))) rfl ?_
         refine Wl.y (y_assign rfl) rfl ?_
         refine Wl.nil ?_
         refine Wq.next hK_68 ?_
         refine Wc.seq fun _ hK_72 => ?_
         refine Wc.block ?_
         refine Wc.loop (X := Nat) (fun j => [(6, str (sgn b)), (5, .int .i64 ((od (mant0 (rung b)) * 2 ^ (v2 (mant0 (rung b)) - j) : Nat) : Int)), (4, .int .i64 (exp0 (rung b) + (j : Int)))]) (fun j wr => j ≤ v2 (mant0 (rung b)) ∧ Below w.heap.size w wr) (fun j => v2 (mant0 (rung b)) - j) (0) ?_ ?_ ?_
         · exact Sub.cons' rfl (by first | rfl | exact int_eq (by rw [Nat.sub_zero, ← ho1]) | exact int_eq (by omega) | exact int_eq hhalf) (Sub.cons' rfl (by first | rfl | exact int_eq (by rw [Nat.sub_zero, ← ho1]) | exact int_eq (by omega) | exact int_eq hhalf) (Sub.cons' rfl (by first | rfl | exact int_eq (by rw [Nat.sub_zero, ← ho1]) | exact int_eq (by omega) | exact int_eq hhalf) (Sub.nil)))
         · exact ⟨by omega, hb⟩
         ·
          rintro j wr hI_74 _ hL_73
          replace hI_74 : j ≤ v2 (mant0 (rung b)) ∧ Below w.heap.size w wr := hI_74
          obtain ⟨hj, hb⟩ := hI_74
          show Wc _ _ _ _ _ [(6, str (sgn b)), (5, .int .i64 ((od (mant0 (rung b)) * 2 ^ (v2 (mant0 (rung b)) - j) : Nat) : Int)), (4, .int .i64 (exp0 (rung b) + (j : Int)))] _
          try have hzhb_L0 := hb.size
          obtain ⟨hp1, hp2, hp3⟩ := half_of ho1 ho2 hml hj
          refine Wc.seq fun _ hK_75 => ?_
          refine Wc.seq fun _ hK_76 => ?_
          refine Wc.region ?_
          refine Wl.y (y_move rfl) rfl ?_
          refine Wl.y (y_rem rfl rfl (by first | decide | omega)) rfl ?_
          refine Wl.y (y_eqli rfl rfl) rfl ?_
          refine Wl.nil ?_
          refine Wq.next hK_76 ?_
          refine Wc.cond rfl (fun c5_80 => ?_) (fun c5_80 => ?_)
          ·
           have c5_80_ := c5_80
           try simp only [decide_eq_true_eq, decide_eq_false_iff_not, beq_iff_eq, beq_eq_false_iff_ne, bne_iff_ne, bne_eq_false_iff_eq, Bool.not_eq_true', Bool.not_eq_false', Bool.not_eq_eq_eq_not, Bool.not_true, Bool.not_false, ne_eq, Int.not_lt, Int.not_le] at c5_80
           have hjt : j < v2 (mant0 (rung b)) := hp1.1 c5_80
           have hhalf := hp2 hjt
           refine Wc.skip ?_
           refine Wq.next hK_75 ?_
           refine Wc.block ?_
           refine Wc.seq fun _ hK_81 => ?_
           refine Wc.region ?_
           refine Wl.y (y_move rfl) rfl ?_
           refine Wl.y (y_quo rfl rfl (by first | decide | omega)) rfl ?_
           refine Wl.y (y_assign rfl) rfl ?_
           refine Wl.nil ?_
           refine Wq.next hK_81 ?_
           refine Wc.region ?_
           refine Wl.y (y_move rfl) rfl ?_
           refine Wl.y (y_addI rfl rfl (by first | omega | (simp; done) | (simp; omega)) (by first | omega | (simp; done) | (simp; omega))) rfl ?_
           refine Wl.y (y_assign rfl) rfl ?_
           refine Wl.nil ?_
           refine Wq.block_normal ?_
           refine fun a_ ha_ => hL_73 _ _ (j + 1) (by first | omega | (simp; omega)) (Sub.cons' rfl (by first | rfl | exact int_eq (by rw [Nat.sub_zero, ← ho1]) | exact int_eq (by omega) | exact int_eq hhalf) (Sub.cons' rfl (by first | rfl | exact int_eq (by rw [Nat.sub_zero, ← ho1]) | exact int_eq (by omega) | exact int_eq hhalf) (Sub.cons' rfl (by first | rfl | exact int_eq (by rw [Nat.sub_zero, ← ho1]) | exact int_eq (by omega) | exact int_eq hhalf) (Sub.nil)))) ?_ a_ ha_
           exact ⟨by omega, hb⟩
          ·
           have c5_80_ := c5_80
           try simp only [decide_eq_true_eq, decide_eq_false_iff_not, beq_iff_eq, beq_eq_false_iff_ne, bne_iff_ne, bne_eq_false_iff_eq, Bool.not_eq_true', Bool.not_eq_false', Bool.not_eq_eq_eq_not, Bool.not_true, Bool.not_false, ne_eq, Int.not_lt, Int.not_le] at c5_80
           have hjt : j = v2 (mant0 (rung b)) := by have := mt hp1.2 c5_80; omega
           have hod : ((od (mant0 (rung b)) * 2 ^ (v2 (mant0 (rung b)) - j) : Nat) : Int) = ((od (mant0 (rung b)) : Nat) : Int) := by rw [hjt, Nat.sub_self, Nat.pow_zero, Nat.mul_one]
           have hol : od (mant0 (rung b)) < 9007199254740992 := by omega
           have hl1 := decDigits_le (od (mant0 (rung b))) (by omega)
           have hl2 := itoa_le (exp0 (rung b) + (j : Int)) (by omega) (by omega)
           rw [hod]
           refine Wc.exit ?_
           refine Wq.then_exit ?_
           refine Wq.then_exit ?_
           refine Wq.block_exit ?_
           refine Wq.next hK_72 ?_
           refine Wc.seq fun _ hK_88 => ?_
           refine Wc.region ?_
           refine Wl.y (y_move rfl) rfl ?_
           refine Wl.y (y_move rfl) rfl ?_
           refine Wl.call txt77RefA rfl rfl (Digits_r _ (by omega) _) rfl ?_
           rintro _ w_k1 ⟨rfl, hs_k1⟩
           have hz_k1 := hs_k1.size
           have hb := hb.trans (hs_k1.mono hb.size)
           refine Wl.y (y_adds rfl rfl (by first | omega | (simp; done) | (simp; omega))) rfl ?_
           refine Wl.y (y_adds rfl rfl (by first | omega | (simp; done) | (simp; omega))) rfl ?_
           refine Wl.y (y_move rfl) rfl ?_
           refine Wl.call txt78RefA rfl rfl (Signed_r _ (by omega) (by omega) _) rfl ?_
           rintro _ w_k2 ⟨rfl, hs_k2⟩
           have hz_k2 := hs_k2.size
           have hb := hb.trans (hs_k2.mono hb.size)
           refine Wl.y (y_adds rfl rfl (by first | omega | (simp; done) | (simp; omega))) rfl ?_
           refine Wl.y (y_assign rfl) rfl ?_
           refine Wl.nil ?_
           refine Wq.next hK_88 ?_
           refine Wc.ret ?_
           refine ret1 rfl rfl ?_
           first | exact ⟨_, rfl, by rw [text_num hnn hr3 hr2, hjt], hb⟩ | exact ⟨_, rfl, by rw [text_zero hnn (by have := c3_52; have := g_48; unfold rung; omega) (by have := c3_52; have := g_48; unfold rung; omega)], hb⟩ | exact ⟨_, rfl, by rw [text_inf hnn (by have := c2_38; unfold isNan at hnn; simp only [decide_eq_false_iff_not] at hnn; unfold rung; omega)], hb⟩
      ·
       have g_48_ := g_48
       try simp only [decide_eq_true_eq, decide_eq_false_iff_not, beq_iff_eq, beq_eq_false_iff_ne, bne_iff_ne, bne_eq_false_iff_eq, Bool.not_eq_true', Bool.not_eq_false', Bool.not_eq_eq_eq_not, Bool.not_true, Bool.not_false, ne_eq, Int.not_lt, Int.not_le] at g_48
       refine Wl.off' rfl rfl g_48_ rfl rfl ?_
       refine Wl.y (y_pickF rfl g_48_ rfl) rfl ?_
       refine Wl.nil ?_
       refine Wq.next hK_44 ?_
       refine Wc.condF rfl rfl ?_
       refine Wc.skip ?_
       refine Wq.next hK_43 ?_
       refine Wc.seq fun _ hK_99 => ?_
       refine Wc.seq fun _ hK_100 => ?_
       refine Wc.region ?_
       refine Wl.y (y_move rfl) rfl ?_
       refine Wl.y (y_eqli rfl rfl) rfl ?_
       refine Wl.nil ?_
       refine Wq.next hK_100 ?_
       have hr1 : rung b < 9218868437227405312 := by unfold isNan at hnn; simp only [decide_eq_false_iff_not] at hnn; have := c2_38; unfold rung; omega
       have hr2 : rung b ≠ 0 := by unfold rung; first | (have := g_48; omega) | (have := g_48; have := MISSING_c3; omega)
       have hr3 : rung b ≠ 9218868437227405312 := by omega
       refine Wc.meet (X := Unit) (fun u_ => [(4, .int .i64 (exp0 (rung b) + 1075)), (5, .int .i64 (mant0 (rung b) : Nat)), (6, str (sgn b))]) (fun u_ wr => Below w.heap.size w wr) (fun _ hM_103 => ?_) ?_
       ·
        refine Wc.cond rfl (fun c4_104 => ?_) (fun c4_104 => ?_)
        ·
         have c4_104_ := c4_104
         try simp only [decide_eq_true_eq, decide_eq_false_iff_not, beq_iff_eq, beq_eq_false_iff_ne, bne_iff_ne, bne_eq_false_iff_eq, Bool.not_eq_true', Bool.not_eq_false', Bool.not_eq_eq_eq_not, Bool.not_true, Bool.not_false, ne_eq, Int.not_lt, Int.not_le] at c4_104
         refine Wc.region ?_
         refine Wl.y (y_assign rfl) rfl ?_
         refine Wl.nil ?_
         refine Wq.meet hM_103 (()) (Sub.cons' rfl (by first | rfl | exact int_eq (exp_low he c4_104).symm | exact int_eq (exp_high he hr1 c4_104).symm | exact int_eq (mant_low he hm c4_104).symm | exact int_eq (mant_high he hm c4_104).symm) (Sub.cons' rfl (by first | rfl | exact int_eq (exp_low he c4_104).symm | exact int_eq (exp_high he hr1 c4_104).symm | exact int_eq (mant_low he hm c4_104).symm | exact int_eq (mant_high he hm c4_104).symm) (Sub.cons' rfl (by first | rfl | exact int_eq (exp_low he c4_104).symm | exact int_eq (exp_high he hr1 c4_104).symm | exact int_eq (mant_low he hm c4_104).symm | exact int_eq (mant_high he hm c4_104).symm) (Sub.nil)))) ?_
         exact hb
        ·
         have c4_104_ := c4_104
         try simp only [decide_eq_true_eq, decide_eq_false_iff_not, beq_iff_eq, beq_eq_false_iff_ne, bne_iff_ne, bne_eq_false_iff_eq, Bool.not_eq_true', Bool.not_eq_false', Bool.not_eq_eq_eq_not, Bool.not_true, Bool.not_false, ne_eq, Int.not_lt, Int.not_le] at c4_104
         refine Wc.region ?_
         refine Wl.y (y_move rfl) rfl ?_
         refine Wl.y (y_addI rfl rfl (by first | omega | (simp; done) | (simp; omega)) (by first | omega | (simp; done) | (simp; omega))) rfl ?_
         refine Wl.y (y_assign rfl) rfl ?_
         refine Wl.nil ?_
         refine Wq.meet hM_103 (()) (Sub.cons' rfl (by first | rfl | exact int_eq (exp_low he c4_104).symm | exact int_eq (exp_high he hr1 c4_104).symm | exact int_eq (mant_low he hm c4_104).symm | exact int_eq (mant_high he hm c4_104).symm) (Sub.cons' rfl (by first | rfl | exact int_eq (exp_low he c4_104).symm | exact int_eq (exp_high he hr1 c4_104).symm | exact int_eq (mant_low he hm c4_104).symm | exact int_eq (mant_high he hm c4_104).symm) (Sub.cons' rfl (by first | rfl | exact int_eq (exp_low he c4_104).symm | exact int_eq (exp_high he hr1 c4_104).symm | exact int_eq (mant_low he hm c4_104).symm | exact int_eq (mant_high he hm c4_104).symm) (Sub.nil)))) ?_
         exact hb
       ·
        rintro u_ wr hI_109
        replace hI_109 : Below w.heap.size w wr := hI_109
        have hb := hI_109
        show Wq _ _ _ _ [(4, .int .i64 (exp0 (rung b) + 1075)), (5, .int .i64 (mant0 (rung b) : Nat)), (6, str (sgn b))] _
        try have hzhb_c4 := hb.size
        obtain ⟨ho1, ho2⟩ := od_spec _ (mant0_ne hr2)
        have hml := mant0_lt hr1
        have hex := exp0_bd hr1
        have hv := v2_le hr1 hr2
        refine Wq.next hK_99 ?_
        refine Wc.seq fun _ hK_110 => ?_
        refine Wc.region ?_
        refine Wl.y (y_move rfl) rfl ?_
        refine Wl.y (y_subI rfl rfl (by first | omega | (simp; done) | (simp; omega)) (by first | omega | (simp; done) | (simp; omega))) rfl ?_
        refine Wl.y (y_assign rfl) rfl ?_
        refine Wl.nil ?_
        refine Wq.next hK_110 ?_
        refine Wc.seq fun _ hK_114 => ?_
        refine Wc.block ?_
        refine Wc.loop (X := Nat) (fun j => [(6, str (sgn b)), (5, .int .i64 ((od (mant0 (rung b)) * 2 ^ (v2 (mant0 (rung b)) - j) : Nat) : Int)), (4, .int .i64 (exp0 (rung b) + (j : Int)))]) (fun j wr => j ≤ v2 (mant0 (rung b)) ∧ Below w.heap.size w wr) (fun j => v2 (mant0 (rung b)) - j) (0) ?_ ?_ ?_
        · exact Sub.cons' rfl (by first | rfl | exact int_eq (by rw [Nat.sub_zero, ← ho1]) | exact int_eq (by omega) | exact int_eq hhalf) (Sub.cons' rfl (by first | rfl | exact int_eq (by rw [Nat.sub_zero, ← ho1]) | exact int_eq (by omega) | exact int_eq hhalf) (Sub.cons' rfl (by first | rfl | exact int_eq (by rw [Nat.sub_zero, ← ho1]) | exact int_eq (by omega) | exact int_eq hhalf) (Sub.nil)))
        · exact ⟨by omega, hb⟩
        ·
         rintro j wr hI_116 _ hL_115
         replace hI_116 : j ≤ v2 (mant0 (rung b)) ∧ Below w.heap.size w wr := hI_116
         obtain ⟨hj, hb⟩ := hI_116
         show Wc _ _ _ _ _ [(6, str (sgn b)), (5, .int .i64 ((od (mant0 (rung b)) * 2 ^ (v2 (mant0 (rung b)) - j) : Nat) : Int)), (4, .int .i64 (exp0 (rung b) + (j : Int)))] _
         try have hzhb_L0 := hb.size
         obtain ⟨hp1, hp2, hp3⟩ := half_of ho1 ho2 hml hj
         refine Wc.seq fun _ hK_117 => ?_
         refine Wc.seq fun _ hK_118 => ?_
         refine Wc.region ?_
         refine Wl.y (y_move rfl) rfl ?_
         refine Wl.y (y_rem rfl rfl (by first | decide | omega)) rfl ?_
         refine Wl.y (y_eqli rfl rfl) rfl ?_
         refine Wl.nil ?_
         refine Wq.next hK_118 ?_
         refine Wc.cond rfl (fun c5_122 => ?_) (fun c5_122 => ?_)
         ·
          have c5_122_ := c5_122
          try simp only [decide_eq_true_eq, decide_eq_false_iff_not, beq_iff_eq, beq_eq_false_iff_ne, bne_iff_ne, bne_eq_false_iff_eq, Bool.not_eq_true', Bool.not_eq_false', Bool.not_eq_eq_eq_not, Bool.not_true, Bool.not_false, ne_eq, Int.not_lt, Int.not_le] at c5_122
          have hjt : j < v2 (mant0 (rung b)) := hp1.1 c5_122
          have hhalf := hp2 hjt
          refine Wc.skip ?_
          refine Wq.next hK_117 ?_
          refine Wc.block ?_
          refine Wc.seq fun _ hK_123 => ?_
          refine Wc.region ?_
          refine Wl.y (y_move rfl) rfl ?_
          refine Wl.y (y_quo rfl rfl (by first | decide | omega)) rfl ?_
          refine Wl.y (y_assign rfl) rfl ?_
          refine Wl.nil ?_
          refine Wq.next hK_123 ?_
          refine Wc.region ?_
          refine Wl.y (y_move rfl) rfl ?_
          refine Wl.y (y_addI rfl rfl (by first | omega | (simp; done) | (simp; omega)) (by first | omega | (simp; done) | (simp; omega))) rfl ?_
          refine Wl.y (y_assign rfl) rfl ?_
          refine Wl.nil ?_
          refine Wq.block_normal ?_
          refine fun a_ ha_ => hL_115 _ _ (j + 1) (by first | omega | (simp; omega)) (Sub.cons' rfl (by first | rfl | exact int_eq (by rw [Nat.sub_zero, ← ho1]) | exact int_eq (by omega) | exact int_eq hhalf) (Sub.cons' rfl (by first | rfl | exact int_eq (by rw [Nat.sub_zero, ← ho1]) | exact int_eq (by omega) | exact int_eq hhalf) (Sub.cons' rfl (by first | rfl | exact int_eq (by rw [Nat.sub_zero, ← ho1]) | exact int_eq (by omega) | exact int_eq hhalf) (Sub.nil)))) ?_ a_ ha_
          exact ⟨by omega, hb⟩
         ·
          have c5_122_ := c5_122
          try simp only [decide_eq_true_eq, decide_eq_false_iff_not, beq_iff_eq, beq_eq_false_iff_ne, bne_iff_ne, bne_eq_false_iff_eq, Bool.not_eq_true', Bool.not_eq_false', Bool.not_eq_eq_eq_not, Bool.not_true, Bool.not_false, ne_eq, Int.not_lt, Int.not_le] at c5_122
          have hjt : j = v2 (mant0 (rung b)) := by have := mt hp1.2 c5_122; omega
          have hod : ((od (mant0 (rung b)) * 2 ^ (v2 (mant0 (rung b)) - j) : Nat) : Int) = ((od (mant0 (rung b)) : Nat) : Int) := by rw [hjt, Nat.sub_self, Nat.pow_zero, Nat.mul_one]
          have hol : od (mant0 (rung b)) < 9007199254740992 := by omega
          have hl1 := decDigits_le (od (mant0 (rung b))) (by omega)
          have hl2 := itoa_le (exp0 (rung b) + (j : Int)) (by omega) (by omega)
          rw [hod]
          refine Wc.exit ?_
          refine Wq.then_exit ?_
          refine Wq.then_exit ?_
          refine Wq.block_exit ?_
          refine Wq.next hK_114 ?_
          refine Wc.seq fun _ hK_130 => ?_
          refine Wc.region ?_
          refine Wl.y (y_move rfl) rfl ?_
          refine Wl.y (y_move rfl) rfl ?_
          refine Wl.call txt77RefA rfl rfl (Digits_r _ (by omega) _) rfl ?_
          rintro _ w_k1 ⟨rfl, hs_k1⟩
          have hz_k1 := hs_k1.size
          have hb := hb.trans (hs_k1.mono hb.size)
          refine Wl.y (y_adds rfl rfl (by first | omega | (simp; done) | (simp; omega))) rfl ?_
          refine Wl.y (y_adds rfl rfl (by first | omega | (simp; done) | (simp; omega))) rfl ?_
          refine Wl.y (y_move rfl) rfl ?_
          refine Wl.call txt78RefA rfl rfl (Signed_r _ (by omega) (by omega) _) rfl ?_
          rintro _ w_k2 ⟨rfl, hs_k2⟩
          have hz_k2 := hs_k2.size
          have hb := hb.trans (hs_k2.mono hb.size)
          refine Wl.y (y_adds rfl rfl (by first | omega | (simp; done) | (simp; omega))) rfl ?_
          refine Wl.y (y_assign rfl) rfl ?_
          refine Wl.nil ?_
          refine Wq.next hK_130 ?_
          refine Wc.ret ?_
          refine ret1 rfl rfl ?_
          first | exact ⟨_, rfl, by rw [text_num hnn hr3 hr2, hjt], hb⟩ | exact ⟨_, rfl, by rw [text_zero hnn (by have := MISSING_c3; have := g_48; unfold rung; omega) (by have := MISSING_c3; have := g_48; unfold rung; omega)], hb⟩ | exact ⟨_, rfl, by rw [text_inf hnn (by have := c2_38; unfold isNan at hnn; simp only [decide_eq_false_iff_not] at hnn; unfold rung; omega)], hb⟩
  ·
   have g_18_ := g_18
   try simp only [decide_eq_true_eq, decide_eq_false_iff_not, beq_iff_eq, beq_eq_false_iff_ne, bne_iff_ne, bne_eq_false_iff_eq, Bool.not_eq_true', Bool.not_eq_false', Bool.not_eq_eq_eq_not, Bool.not_true, Bool.not_false, ne_eq, Int.not_lt, Int.not_le] at g_18
   refine Wl.off' rfl rfl g_18_ rfl rfl ?_
   refine Wl.y (y_pickF rfl g_18_ rfl) rfl ?_
   refine Wl.nil ?_
   refine Wq.next hK_14 ?_
   refine Wc.condF rfl rfl ?_
   refine Wc.skip ?_
   refine Wq.next hK_13 ?_
   refine Wc.seq fun _ hK_141 => ?_
   obtain ⟨e, he⟩ : ∃ e : Nat, e = b / 4503599627370496 % 2048 := ⟨_, rfl⟩
   obtain ⟨m, hm⟩ : ∃ m : Nat, m = b % 4503599627370496 := ⟨_, rfl⟩
   have hnn : isNan b = false := by unfold isNan; simp only [decide_eq_false_iff_not]; first | (have := g_18; omega) | (have := g_18; have := MISSING_c0; omega)
   rw [← he, ← hm]
   refine Wc.region ?_
   refine Wl.y (y_assign rfl) rfl ?_
   refine Wl.nil ?_
   refine Wq.next hK_141 ?_
   refine Wc.seq fun _ hK_143 => ?_
   refine Wc.seq fun _ hK_144 => ?_
   refine Wc.region ?_
   refine Wl.y (y_move rfl) rfl ?_
   refine Wl.nil ?_
   refine Wq.next hK_144 ?_
   refine Wc.meet (X := Unit) (fun u_ => [(4, .int .i64 (e : Int)), (5, .int .i64 (m : Int)), (6, str (sgn b))]) (fun u_ wr => Below w.heap.size w wr) (fun _ hM_146 => ?_) ?_
   ·
    refine Wc.cond rfl (fun c1_147 => ?_) (fun c1_147 => ?_)
    ·
     have c1_147_ := c1_147
     try simp only [decide_eq_true_eq, decide_eq_false_iff_not, beq_iff_eq, beq_eq_false_iff_ne, bne_iff_ne, bne_eq_false_iff_eq, Bool.not_eq_true', Bool.not_eq_false', Bool.not_eq_eq_eq_not, Bool.not_true, Bool.not_false, ne_eq, Int.not_lt, Int.not_le] at c1_147
     refine Wc.region ?_
     refine Wl.y (y_assign rfl) rfl ?_
     refine Wl.nil ?_
     refine Wq.meet hM_146 (()) (Sub.cons' rfl (by first | rfl | exact str_eq (if_pos c1_147_).symm | exact str_eq (if_neg (ne_tt c1_147_)).symm) (Sub.cons' rfl (by first | rfl | exact str_eq (if_pos c1_147_).symm | exact str_eq (if_neg (ne_tt c1_147_)).symm) (Sub.cons' rfl (by first | rfl | exact str_eq (if_pos c1_147_).symm | exact str_eq (if_neg (ne_tt c1_147_)).symm) (Sub.nil)))) ?_
     exact hb
    ·
     have c1_147_ := c1_147
     try simp only [decide_eq_true_eq, decide_eq_false_iff_not, beq_iff_eq, beq_eq_false_iff_ne, bne_iff_ne, bne_eq_false_iff_eq, Bool.not_eq_true', Bool.not_eq_false', Bool.not_eq_eq_eq_not, Bool.not_true, Bool.not_false, ne_eq, Int.not_lt, Int.not_le] at c1_147
     refine Wc.skip ?_
     refine Wq.meet hM_146 (()) (Sub.cons' rfl (by first | rfl | exact str_eq (if_pos c1_147_).symm | exact str_eq (if_neg (ne_tt c1_147_)).symm) (Sub.cons' rfl (by first | rfl | exact str_eq (if_pos c1_147_).symm | exact str_eq (if_neg (ne_tt c1_147_)).symm) (Sub.cons' rfl (by first | rfl | exact str_eq (if_pos c1_147_).symm | exact str_eq (if_neg (ne_tt c1_147_)).symm) (Sub.nil)))) ?_
     exact hb
   ·
    rintro u_ wr hI_149
    replace hI_149 : Below w.heap.size w wr := hI_149
    have hb := hI_149
    show Wq _ _ _ _ [(4, .int .i64 (e : Int)), (5, .int .i64 (m : Int)), (6, str (sgn b))] _
    try have hzhb_c1 := hb.size
    refine Wq.next hK_143 ?_
    refine Wc.seq fun _ hK_150 => ?_
    refine Wc.seq fun _ hK_151 => ?_
    refine Wc.region ?_
    refine Wl.y (y_move rfl) rfl ?_
    refine Wl.y (y_eqli rfl rfl) rfl ?_
    refine Wl.nil ?_
    refine Wq.next hK_151 ?_
    refine Wc.cond rfl (fun c2_154 => ?_) (fun c2_154 => ?_)
    ·
     have c2_154_ := c2_154
     try simp only [decide_eq_true_eq, decide_eq_false_iff_not, beq_iff_eq, beq_eq_false_iff_ne, bne_iff_ne, bne_eq_false_iff_eq, Bool.not_eq_true', Bool.not_eq_false', Bool.not_eq_eq_eq_not, Bool.not_true, Bool.not_false, ne_eq, Int.not_lt, Int.not_le] at c2_154
     refine Wc.seq fun _ hK_155 => ?_
     refine Wc.region ?_
     refine Wl.y (y_move rfl) rfl ?_
     refine Wl.y (y_adds rfl rfl (by first | omega | (simp; done) | (simp; omega))) rfl ?_
     refine Wl.y (y_assign rfl) rfl ?_
     refine Wl.nil ?_
     refine Wq.next hK_155 ?_
     refine Wc.ret ?_
     refine Wq.then_ret ?_
     refine ret1 rfl rfl ?_
     first | exact ⟨_, rfl, by rw [text_num hnn hr3 hr2, hjt], hb⟩ | exact ⟨_, rfl, by rw [text_zero hnn (by have := MISSING_c3; have := MISSING_o27; unfold rung; omega) (by have := MISSING_c3; have := MISSING_o27; unfold rung; omega)], hb⟩ | exact ⟨_, rfl, by rw [text_inf hnn (by have := c2_154; unfold isNan at hnn; simp only [decide_eq_false_iff_not] at hnn; unfold rung; omega)], hb⟩
    ·
     have c2_154_ := c2_154
     try simp only [decide_eq_true_eq, decide_eq_false_iff_not, beq_iff_eq, beq_eq_false_iff_ne, bne_iff_ne, bne_eq_false_iff_eq, Bool.not_eq_true', Bool.not_eq_false', Bool.not_eq_eq_eq_not, Bool.not_true, Bool.not_false, ne_eq, Int.not_lt, Int.not_le] at c2_154
     refine Wc.skip ?_
     refine Wq.next hK_150 ?_
     refine Wc.seq fun _ hK_159 => ?_
     refine Wc.seq fun _ hK_160 => ?_
     refine Wc.region ?_
     refine Wl.y (y_move rfl) rfl ?_
     refine Wl.y (y_eqli rfl rfl) rfl ?_
     refine Wl.y (y_move rfl) rfl ?_
     refine Wl.guardT rfl rfl rfl (fun g_164 => ?_) (fun g_164 => ?_)
     ·
      have g_164_ := g_164
      try simp only [decide_eq_true_eq, decide_eq_false_iff_not, beq_iff_eq, beq_eq_false_iff_ne, bne_iff_ne, bne_eq_false_iff_eq, Bool.not_eq_true', Bool.not_eq_false', Bool.not_eq_eq_eq_not, Bool.not_true, Bool.not_false, ne_eq, Int.not_lt, Int.not_le] at g_164
      have hr0 : m = 0 → rung b = 0 := fun h => by have := g_164; unfold rung; omega
      refine Wl.y (y_move rfl) rfl ?_
      refine Wl.on' rfl rfl g_164_ ?_
      refine Wl.y (y_eqli rfl rfl) rfl ?_
      refine Wl.y (y_pickT rfl g_164_ rfl) rfl ?_
      refine Wl.nil ?_
      refine Wq.next hK_160 ?_
      refine Wc.cond rfl (fun c3_168 => ?_) (fun c3_168 => ?_)
      ·
       have c3_168_ := c3_168
       try simp only [decide_eq_true_eq, decide_eq_false_iff_not, beq_iff_eq, beq_eq_false_iff_ne, bne_iff_ne, bne_eq_false_iff_eq, Bool.not_eq_true', Bool.not_eq_false', Bool.not_eq_eq_eq_not, Bool.not_true, Bool.not_false, ne_eq, Int.not_lt, Int.not_le] at c3_168
       refine Wc.seq fun _ hK_169 => ?_
       refine Wc.region ?_
       refine Wl.y (y_move rfl) rfl ?_
       refine Wl.y (y_adds rfl rfl (by first | omega | (simp; done) | (simp; omega))) rfl ?_
       refine Wl.y (y_assign rfl) rfl ?_
       refine Wl.nil ?_
       refine Wq.next hK_169 ?_
       refine Wc.ret ?_
       refine Wq.then_ret ?_
       refine ret1 rfl rfl ?_
       first | exact ⟨_, rfl, by rw [text_num hnn hr3 hr2, hjt], hb⟩ | exact ⟨_, rfl, by rw [text_zero hnn (by have := c3_168; have := g_164; unfold rung; omega) (by have := c3_168; have := g_164; unfold rung; omega)], hb⟩ | exact ⟨_, rfl, by rw [text_inf hnn (by have := c2_154; unfold isNan at hnn; simp only [decide_eq_false_iff_not] at hnn; unfold rung; omega)], hb⟩
      ·
       have c3_168_ := c3_168
       try simp only [decide_eq_true_eq, decide_eq_false_iff_not, beq_iff_eq, beq_eq_false_iff_ne, bne_iff_ne, bne_eq_false_iff_eq, Bool.not_eq_true', Bool.not_eq_false', Bool.not_eq_eq_eq_not, Bool.not_true, Bool.not_false, ne_eq, Int.not_lt, Int.not_le] at c3_168
       refine Wc.skip ?_
       refine Wq.next hK_159 ?_
       refine Wc.seq fun _ hK_173 => ?_
       refine Wc.seq fun _ hK_174 => ?_
       refine Wc.region ?_
       refine Wl.y (y_move rfl) rfl ?_
       refine Wl.y (y_eqli rfl rfl) rfl ?_
       refine Wl.nil ?_
       refine Wq.next hK_174 ?_
       have hr1 : rung b < 9218868437227405312 := by unfold isNan at hnn; simp only [decide_eq_false_iff_not] at hnn; have := c2_154; unfold rung; omega
       have hr2 : rung b ≠ 0 := by unfold rung; first | (have := g_164; omega) | (have := g_164; have := c3_168; omega)
       have hr3 : rung b ≠ 9218868437227405312 := by omega
       refine Wc.meet (X := Unit) (fun u_ => [(4, .int .i64 (exp0 (rung b) + 1075)), (5, .int .i64 (mant0 (rung b) : Nat)), (6, str (sgn b))]) (fun u_ wr => Below w.heap.size w wr) (fun _ hM_177 => ?_) ?_
       ·
        refine Wc.cond rfl (fun c4_178 => ?_) (fun c4_178 => ?_)
        ·
         have c4_178_ := c4_178
         try simp only [decide_eq_true_eq, decide_eq_false_iff_not, beq_iff_eq, beq_eq_false_iff_ne, bne_iff_ne, bne_eq_false_iff_eq, Bool.not_eq_true', Bool.not_eq_false', Bool.not_eq_eq_eq_not, Bool.not_true, Bool.not_false, ne_eq, Int.not_lt, Int.not_le] at c4_178
         refine Wc.region ?_
         refine Wl.y (y_assign rfl) rfl ?_
         refine Wl.nil ?_
         refine Wq.meet hM_177 (()) (Sub.cons' rfl (by first | rfl | exact int_eq (exp_low he c4_178).symm | exact int_eq (exp_high he hr1 c4_178).symm | exact int_eq (mant_low he hm c4_178).symm | exact int_eq (mant_high he hm c4_178).symm) (Sub.cons' rfl (by first | rfl | exact int_eq (exp_low he c4_178).symm | exact int_eq (exp_high he hr1 c4_178).symm | exact int_eq (mant_low he hm c4_178).symm | exact int_eq (mant_high he hm c4_178).symm) (Sub.cons' rfl (by first | rfl | exact int_eq (exp_low he c4_178).symm | exact int_eq (exp_high he hr1 c4_178).symm | exact int_eq (mant_low he hm c4_178).symm | exact int_eq (mant_high he hm c4_178).symm) (Sub.nil)))) ?_
         exact hb
        ·
         have c4_178_ := c4_178
         try simp only [decide_eq_true_eq, decide_eq_false_iff_not, beq_iff_eq, beq_eq_false_iff_ne, bne_iff_ne, bne_eq_false_iff_eq, Bool.not_eq_true', Bool.not_eq_false', Bool.not_eq_eq_eq_not, Bool.not_true, Bool.not_false, ne_eq, Int.not_lt, Int.not_le] at c4_178
         refine Wc.region ?_
         refine Wl.y (y_move rfl) rfl ?_
         refine Wl.y (y_addI rfl rfl (by first | omega | (simp; done) | (simp; omega)) (by first | omega | (simp; done) | (simp; omega))) rfl ?_
         refine Wl.y (y_assign rfl) rfl ?_
         refine Wl.nil ?_
         refine Wq.meet hM_177 (()) (Sub.cons' rfl (by first | rfl | exact int_eq (exp_low he c4_178).symm | exact int_eq (exp_high he hr1 c4_178).symm | exact int_eq (mant_low he hm c4_178).symm | exact int_eq (mant_high he hm c4_178).symm) (Sub.cons' rfl (by first | rfl | exact int_eq (exp_low he c4_178).symm | exact int_eq (exp_high he hr1 c4_178).symm | exact int_eq (mant_low he hm c4_178).symm | exact int_eq (mant_high he hm c4_178).symm) (Sub.cons' rfl (by first | rfl | exact int_eq (exp_low he c4_178).symm | exact int_eq (exp_high he hr1 c4_178).symm | exact int_eq (mant_low he hm c4_178).symm | exact int_eq (mant_high he hm c4_178).symm) (Sub.nil)))) ?_
         exact hb
       ·
        rintro u_ wr hI_183
        replace hI_183 : Below w.heap.size w wr := hI_183
        have hb := hI_183
        show Wq _ _ _ _ [(4, .int .i64 (exp0 (rung b) + 1075)), (5, .int .i64 (mant0 (rung b) : Nat)), (6, str (sgn b))] _
        try have hzhb_c4 := hb.size
        obtain ⟨ho1, ho2⟩ := od_spec _ (mant0_ne hr2)
        have hml := mant0_lt hr1
        have hex := exp0_bd hr1
        have hv := v2_le hr1 hr2
        refine Wq.next hK_173 ?_
        refine Wc.seq fun _ hK_184 => ?_
        refine Wc.region ?_
        refine Wl.y (y_move rfl) rfl ?_
        refine Wl.y (y_subI rfl rfl (by first | omega | (simp; done) | (simp; omega)) (by first | omega | (simp; done) | (simp; omega))) rfl ?_
        refine Wl.y (y_assign rfl) rfl ?_
        refine Wl.nil ?_
        refine Wq.next hK_184 ?_
        refine Wc.seq fun _ hK_188 => ?_
        refine Wc.block ?_
        refine Wc.loop (X := Nat) (fun j => [(6, str (sgn b)), (5, .int .i64 ((od (mant0 (rung b)) * 2 ^ (v2 (mant0 (rung b)) - j) : Nat) : Int)), (4, .int .i64 (exp0 (rung b) + (j : Int)))]) (fun j wr => j ≤ v2 (mant0 (rung b)) ∧ Below w.heap.size w wr) (fun j => v2 (mant0 (rung b)) - j) (0) ?_ ?_ ?_
        · exact Sub.cons' rfl (by first | rfl | exact int_eq (by rw [Nat.sub_zero, ← ho1]) | exact int_eq (by omega) | exact int_eq hhalf) (Sub.cons' rfl (by first | rfl | exact int_eq (by rw [Nat.sub_zero, ← ho1]) | exact int_eq (by omega) | exact int_eq hhalf) (Sub.cons' rfl (by first | rfl | exact int_eq (by rw [Nat.sub_zero, ← ho1]) | exact int_eq (by omega) | exact int_eq hhalf) (Sub.nil)))
        · exact ⟨by omega, hb⟩
        ·
         rintro j wr hI_190 _ hL_189
         replace hI_190 : j ≤ v2 (mant0 (rung b)) ∧ Below w.heap.size w wr := hI_190
         obtain ⟨hj, hb⟩ := hI_190
         show Wc _ _ _ _ _ [(6, str (sgn b)), (5, .int .i64 ((od (mant0 (rung b)) * 2 ^ (v2 (mant0 (rung b)) - j) : Nat) : Int)), (4, .int .i64 (exp0 (rung b) + (j : Int)))] _
         try have hzhb_L0 := hb.size
         obtain ⟨hp1, hp2, hp3⟩ := half_of ho1 ho2 hml hj
         refine Wc.seq fun _ hK_191 => ?_
         refine Wc.seq fun _ hK_192 => ?_
         refine Wc.region ?_
         refine Wl.y (y_move rfl) rfl ?_
         refine Wl.y (y_rem rfl rfl (by first | decide | omega)) rfl ?_
         refine Wl.y (y_eqli rfl rfl) rfl ?_
         refine Wl.nil ?_
         refine Wq.next hK_192 ?_
         refine Wc.cond rfl (fun c5_196 => ?_) (fun c5_196 => ?_)
         ·
          have c5_196_ := c5_196
          try simp only [decide_eq_true_eq, decide_eq_false_iff_not, beq_iff_eq, beq_eq_false_iff_ne, bne_iff_ne, bne_eq_false_iff_eq, Bool.not_eq_true', Bool.not_eq_false', Bool.not_eq_eq_eq_not, Bool.not_true, Bool.not_false, ne_eq, Int.not_lt, Int.not_le] at c5_196
          have hjt : j < v2 (mant0 (rung b)) := hp1.1 c5_196
          have hhalf := hp2 hjt
          refine Wc.skip ?_
          refine Wq.next hK_191 ?_
          refine Wc.block ?_
          refine Wc.seq fun _ hK_197 => ?_
          refine Wc.region ?_
          refine Wl.y (y_move rfl) rfl ?_
          refine Wl.y (y_quo rfl rfl (by first | decide | omega)) rfl ?_
          refine Wl.y (y_assign rfl) rfl ?_
          refine Wl.nil ?_
          refine Wq.next hK_197 ?_
          refine Wc.region ?_
          refine Wl.y (y_move rfl) rfl ?_
          refine Wl.y (y_addI rfl rfl (by first | omega | (simp; done) | (simp; omega)) (by first | omega | (simp; done) | (simp; omega))) rfl ?_
          refine Wl.y (y_assign rfl) rfl ?_
          refine Wl.nil ?_
          refine Wq.block_normal ?_
          refine fun a_ ha_ => hL_189 _ _ (j + 1) (by first | omega | (simp; omega)) (Sub.cons' rfl (by first | rfl | exact int_eq (by rw [Nat.sub_zero, ← ho1]) | exact int_eq (by omega) | exact int_eq hhalf) (Sub.cons' rfl (by first | rfl | exact int_eq (by rw [Nat.sub_zero, ← ho1]) | exact int_eq (by omega) | exact int_eq hhalf) (Sub.cons' rfl (by first | rfl | exact int_eq (by rw [Nat.sub_zero, ← ho1]) | exact int_eq (by omega) | exact int_eq hhalf) (Sub.nil)))) ?_ a_ ha_
          exact ⟨by omega, hb⟩
         ·
          have c5_196_ := c5_196
          try simp only [decide_eq_true_eq, decide_eq_false_iff_not, beq_iff_eq, beq_eq_false_iff_ne, bne_iff_ne, bne_eq_false_iff_eq, Bool.not_eq_true', Bool.not_eq_false', Bool.not_eq_eq_eq_not, Bool.not_true, Bool.not_false, ne_eq, Int.not_lt, Int.not_le] at c5_196
          have hjt : j = v2 (mant0 (rung b)) := by have := mt hp1.2 c5_196; omega
          have hod : ((od (mant0 (rung b)) * 2 ^ (v2 (mant0 (rung b)) - j) : Nat) : Int) = ((od (mant0 (rung b)) : Nat) : Int) := by rw [hjt, Nat.sub_self, Nat.pow_zero, Nat.mul_one]
          have hol : od (mant0 (rung b)) < 9007199254740992 := by omega
          have hl1 := decDigits_le (od (mant0 (rung b))) (by omega)
          have hl2 := itoa_le (exp0 (rung b) + (j : Int)) (by omega) (by omega)
          rw [hod]
          refine Wc.exit ?_
          refine Wq.then_exit ?_
          refine Wq.then_exit ?_
          refine Wq.block_exit ?_
          refine Wq.next hK_188 ?_
          refine Wc.seq fun _ hK_204 => ?_
          refine Wc.region ?_
          refine Wl.y (y_move rfl) rfl ?_
          refine Wl.y (y_move rfl) rfl ?_
          refine Wl.call txt77RefA rfl rfl (Digits_r _ (by omega) _) rfl ?_
          rintro _ w_k1 ⟨rfl, hs_k1⟩
          have hz_k1 := hs_k1.size
          have hb := hb.trans (hs_k1.mono hb.size)
          refine Wl.y (y_adds rfl rfl (by first | omega | (simp; done) | (simp; omega))) rfl ?_
          refine Wl.y (y_adds rfl rfl (by first | omega | (simp; done) | (simp; omega))) rfl ?_
          refine Wl.y (y_move rfl) rfl ?_
          refine Wl.call txt78RefA rfl rfl (Signed_r _ (by omega) (by omega) _) rfl ?_
          rintro _ w_k2 ⟨rfl, hs_k2⟩
          have hz_k2 := hs_k2.size
          have hb := hb.trans (hs_k2.mono hb.size)
          refine Wl.y (y_adds rfl rfl (by first | omega | (simp; done) | (simp; omega))) rfl ?_
          refine Wl.y (y_assign rfl) rfl ?_
          refine Wl.nil ?_
          refine Wq.next hK_204 ?_
          refine Wc.ret ?_
          refine ret1 rfl rfl ?_
          first | exact ⟨_, rfl, by rw [text_num hnn hr3 hr2, hjt], hb⟩ | exact ⟨_, rfl, by rw [text_zero hnn (by have := c3_168; have := g_164; unfold rung; omega) (by have := c3_168; have := g_164; unfold rung; omega)], hb⟩ | exact ⟨_, rfl, by rw [text_inf hnn (by have := c2_154; unfold isNan at hnn; simp only [decide_eq_false_iff_not] at hnn; unfold rung; omega)], hb⟩
     ·
      have g_164_ := g_164
      try simp only [decide_eq_true_eq, decide_eq_false_iff_not, beq_iff_eq, beq_eq_false_iff_ne, bne_iff_ne, bne_eq_false_iff_eq, Bool.not_eq_true', Bool.not_eq_false', Bool.not_eq_eq_eq_not, Bool.not_true, Bool.not_false, ne_eq, Int.not_lt, Int.not_le] at g_164
      refine Wl.off' rfl rfl g_164_ rfl rfl ?_
      refine Wl.y (y_pickF rfl g_164_ rfl) rfl ?_
      refine Wl.nil ?_
      refine Wq.next hK_160 ?_
      refine Wc.condF rfl rfl ?_
      refine Wc.skip ?_
      refine Wq.next hK_159 ?_
      refine Wc.seq fun _ hK_215 => ?_
      refine Wc.seq fun _ hK_216 => ?_
      refine Wc.region ?_
      refine Wl.y (y_move rfl) rfl ?_
      refine Wl.y (y_eqli rfl rfl) rfl ?_
      refine Wl.nil ?_
      refine Wq.next hK_216 ?_
      have hr1 : rung b < 9218868437227405312 := by unfold isNan at hnn; simp only [decide_eq_false_iff_not] at hnn; have := c2_154; unfold rung; omega
      have hr2 : rung b ≠ 0 := by unfold rung; first | (have := g_164; omega) | (have := g_164; have := MISSING_c3; omega)
      have hr3 : rung b ≠ 9218868437227405312 := by omega
      refine Wc.meet (X := Unit) (fun u_ => [(4, .int .i64 (exp0 (rung b) + 1075)), (5, .int .i64 (mant0 (rung b) : Nat)), (6, str (sgn b))]) (fun u_ wr => Below w.heap.size w wr) (fun _ hM_219 => ?_) ?_
      ·
       refine Wc.cond rfl (fun c4_220 => ?_) (fun c4_220 => ?_)
       ·
        have c4_220_ := c4_220
        try simp only [decide_eq_true_eq, decide_eq_false_iff_not, beq_iff_eq, beq_eq_false_iff_ne, bne_iff_ne, bne_eq_false_iff_eq, Bool.not_eq_true', Bool.not_eq_false', Bool.not_eq_eq_eq_not, Bool.not_true, Bool.not_false, ne_eq, Int.not_lt, Int.not_le] at c4_220
        refine Wc.region ?_
        refine Wl.y (y_assign rfl) rfl ?_
        refine Wl.nil ?_
        refine Wq.meet hM_219 (()) (Sub.cons' rfl (by first | rfl | exact int_eq (exp_low he c4_220).symm | exact int_eq (exp_high he hr1 c4_220).symm | exact int_eq (mant_low he hm c4_220).symm | exact int_eq (mant_high he hm c4_220).symm) (Sub.cons' rfl (by first | rfl | exact int_eq (exp_low he c4_220).symm | exact int_eq (exp_high he hr1 c4_220).symm | exact int_eq (mant_low he hm c4_220).symm | exact int_eq (mant_high he hm c4_220).symm) (Sub.cons' rfl (by first | rfl | exact int_eq (exp_low he c4_220).symm | exact int_eq (exp_high he hr1 c4_220).symm | exact int_eq (mant_low he hm c4_220).symm | exact int_eq (mant_high he hm c4_220).symm) (Sub.nil)))) ?_
        exact hb
       ·
        have c4_220_ := c4_220
        try simp only [decide_eq_true_eq, decide_eq_false_iff_not, beq_iff_eq, beq_eq_false_iff_ne, bne_iff_ne, bne_eq_false_iff_eq, Bool.not_eq_true', Bool.not_eq_false', Bool.not_eq_eq_eq_not, Bool.not_true, Bool.not_false, ne_eq, Int.not_lt, Int.not_le] at c4_220
        refine Wc.region ?_
        refine Wl.y (y_move rfl) rfl ?_
        refine Wl.y (y_addI rfl rfl (by first | omega | (simp; done) | (simp; omega)) (by first | omega | (simp; done) | (simp; omega))) rfl ?_
        refine Wl.y (y_assign rfl) rfl ?_
        refine Wl.nil ?_
        refine Wq.meet hM_219 (()) (Sub.cons' rfl (by first | rfl | exact int_eq (exp_low he c4_220).symm | exact int_eq (exp_high he hr1 c4_220).symm | exact int_eq (mant_low he hm c4_220).symm | exact int_eq (mant_high he hm c4_220).symm) (Sub.cons' rfl (by first | rfl | exact int_eq (exp_low he c4_220).symm | exact int_eq (exp_high he hr1 c4_220).symm | exact int_eq (mant_low he hm c4_220).symm | exact int_eq (mant_high he hm c4_220).symm) (Sub.cons' rfl (by first | rfl | exact int_eq (exp_low he c4_220).symm | exact int_eq (exp_high he hr1 c4_220).symm | exact int_eq (mant_low he hm c4_220).symm | exact int_eq (mant_high he hm c4_220).symm) (Sub.nil)))) ?_
        exact hb
      ·
       rintro u_ wr hI_225
       replace hI_225 : Below w.heap.size w wr := hI_225
       have hb := hI_225
       show Wq _ _ _ _ [(4, .int .i64 (exp0 (rung b) + 1075)), (5, .int .i64 (mant0 (rung b) : Nat)), (6, str (sgn b))] _
       try have hzhb_c4 := hb.size
       obtain ⟨ho1, ho2⟩ := od_spec _ (mant0_ne hr2)
       have hml := mant0_lt hr1
       have hex := exp0_bd hr1
       have hv := v2_le hr1 hr2
       refine Wq.next hK_215 ?_
       refine Wc.seq fun _ hK_226 => ?_
       refine Wc.region ?_
       refine Wl.y (y_move rfl) rfl ?_
       refine Wl.y (y_subI rfl rfl (by first | omega | (simp; done) | (simp; omega)) (by first | omega | (simp; done) | (simp; omega))) rfl ?_
       refine Wl.y (y_assign rfl) rfl ?_
       refine Wl.nil ?_
       refine Wq.next hK_226 ?_
       refine Wc.seq fun _ hK_230 => ?_
       refine Wc.block ?_
       refine Wc.loop (X := Nat) (fun j => [(6, str (sgn b)), (5, .int .i64 ((od (mant0 (rung b)) * 2 ^ (v2 (mant0 (rung b)) - j) : Nat) : Int)), (4, .int .i64 (exp0 (rung b) + (j : Int)))]) (fun j wr => j ≤ v2 (mant0 (rung b)) ∧ Below w.heap.size w wr) (fun j => v2 (mant0 (rung b)) - j) (0) ?_ ?_ ?_
       · exact Sub.cons' rfl (by first | rfl | exact int_eq (by rw [Nat.sub_zero, ← ho1]) | exact int_eq (by omega) | exact int_eq hhalf) (Sub.cons' rfl (by first | rfl | exact int_eq (by rw [Nat.sub_zero, ← ho1]) | exact int_eq (by omega) | exact int_eq hhalf) (Sub.cons' rfl (by first | rfl | exact int_eq (by rw [Nat.sub_zero, ← ho1]) | exact int_eq (by omega) | exact int_eq hhalf) (Sub.nil)))
       · exact ⟨by omega, hb⟩
       ·
        rintro j wr hI_232 _ hL_231
        replace hI_232 : j ≤ v2 (mant0 (rung b)) ∧ Below w.heap.size w wr := hI_232
        obtain ⟨hj, hb⟩ := hI_232
        show Wc _ _ _ _ _ [(6, str (sgn b)), (5, .int .i64 ((od (mant0 (rung b)) * 2 ^ (v2 (mant0 (rung b)) - j) : Nat) : Int)), (4, .int .i64 (exp0 (rung b) + (j : Int)))] _
        try have hzhb_L0 := hb.size
        obtain ⟨hp1, hp2, hp3⟩ := half_of ho1 ho2 hml hj
        refine Wc.seq fun _ hK_233 => ?_
        refine Wc.seq fun _ hK_234 => ?_
        refine Wc.region ?_
        refine Wl.y (y_move rfl) rfl ?_
        refine Wl.y (y_rem rfl rfl (by first | decide | omega)) rfl ?_
        refine Wl.y (y_eqli rfl rfl) rfl ?_
        refine Wl.nil ?_
        refine Wq.next hK_234 ?_
        refine Wc.cond rfl (fun c5_238 => ?_) (fun c5_238 => ?_)
        ·
         have c5_238_ := c5_238
         try simp only [decide_eq_true_eq, decide_eq_false_iff_not, beq_iff_eq, beq_eq_false_iff_ne, bne_iff_ne, bne_eq_false_iff_eq, Bool.not_eq_true', Bool.not_eq_false', Bool.not_eq_eq_eq_not, Bool.not_true, Bool.not_false, ne_eq, Int.not_lt, Int.not_le] at c5_238
         have hjt : j < v2 (mant0 (rung b)) := hp1.1 c5_238
         have hhalf := hp2 hjt
         refine Wc.skip ?_
         refine Wq.next hK_233 ?_
         refine Wc.block ?_
         refine Wc.seq fun _ hK_239 => ?_
         refine Wc.region ?_
         refine Wl.y (y_move rfl) rfl ?_
         refine Wl.y (y_quo rfl rfl (by first | decide | omega)) rfl ?_
         refine Wl.y (y_assign rfl) rfl ?_
         refine Wl.nil ?_
         refine Wq.next hK_239 ?_
         refine Wc.region ?_
         refine Wl.y (y_move rfl) rfl ?_
         refine Wl.y (y_addI rfl rfl (by first | omega | (simp; done) | (simp; omega)) (by first | omega | (simp; done) | (simp; omega))) rfl ?_
         refine Wl.y (y_assign rfl) rfl ?_
         refine Wl.nil ?_
         refine Wq.block_normal ?_
         refine fun a_ ha_ => hL_231 _ _ (j + 1) (by first | omega | (simp; omega)) (Sub.cons' rfl (by first | rfl | exact int_eq (by rw [Nat.sub_zero, ← ho1]) | exact int_eq (by omega) | exact int_eq hhalf) (Sub.cons' rfl (by first | rfl | exact int_eq (by rw [Nat.sub_zero, ← ho1]) | exact int_eq (by omega) | exact int_eq hhalf) (Sub.cons' rfl (by first | rfl | exact int_eq (by rw [Nat.sub_zero, ← ho1]) | exact int_eq (by omega) | exact int_eq hhalf) (Sub.nil)))) ?_ a_ ha_
         exact ⟨by omega, hb⟩
        ·
         have c5_238_ := c5_238
         try simp only [decide_eq_true_eq, decide_eq_false_iff_not, beq_iff_eq, beq_eq_false_iff_ne, bne_iff_ne, bne_eq_false_iff_eq, Bool.not_eq_true', Bool.not_eq_false', Bool.not_eq_eq_eq_not, Bool.not_true, Bool.not_false, ne_eq, Int.not_lt, Int.not_le] at c5_238
         have hjt : j = v2 (mant0 (rung b)) := by have := mt hp1.2 c5_238; omega
         have hod : ((od (mant0 (rung b)) * 2 ^ (v2 (mant0 (rung b)) - j) : Nat) : Int) = ((od (mant0 (rung b)) : Nat) : Int) := by rw [hjt, Nat.sub_self, Nat.pow_zero, Nat.mul_one]
         have hol : od (mant0 (rung b)) < 9007199254740992 := by omega
         have hl1 := decDigits_le (od (mant0 (rung b))) (by omega)
         have hl2 := itoa_le (exp0 (rung b) + (j : Int)) (by omega) (by omega)
         rw [hod]
         refine Wc.exit ?_
         refine Wq.then_exit ?_
         refine Wq.then_exit ?_
         refine Wq.block_exit ?_
         refine Wq.next hK_230 ?_
         refine Wc.seq fun _ hK_246 => ?_
         refine Wc.region ?_
         refine Wl.y (y_move rfl) rfl ?_
         refine Wl.y (y_move rfl) rfl ?_
         refine Wl.call txt77RefA rfl rfl (Digits_r _ (by omega) _) rfl ?_
         rintro _ w_k1 ⟨rfl, hs_k1⟩
         have hz_k1 := hs_k1.size
         have hb := hb.trans (hs_k1.mono hb.size)
         refine Wl.y (y_adds rfl rfl (by first | omega | (simp; done) | (simp; omega))) rfl ?_
         refine Wl.y (y_adds rfl rfl (by first | omega | (simp; done) | (simp; omega))) rfl ?_
         refine Wl.y (y_move rfl) rfl ?_
         refine Wl.call txt78RefA rfl rfl (Signed_r _ (by omega) (by omega) _) rfl ?_
         rintro _ w_k2 ⟨rfl, hs_k2⟩
         have hz_k2 := hs_k2.size
         have hb := hb.trans (hs_k2.mono hb.size)
         refine Wl.y (y_adds rfl rfl (by first | omega | (simp; done) | (simp; omega))) rfl ?_
         refine Wl.y (y_assign rfl) rfl ?_
         refine Wl.nil ?_
         refine Wq.next hK_246 ?_
         refine Wc.ret ?_
         refine ret1 rfl rfl ?_
         first | exact ⟨_, rfl, by rw [text_num hnn hr3 hr2, hjt], hb⟩ | exact ⟨_, rfl, by rw [text_zero hnn (by have := MISSING_c3; have := g_164; unfold rung; omega) (by have := MISSING_c3; have := g_164; unfold rung; omega)], hb⟩ | exact ⟨_, rfl, by rw [text_inf hnn (by have := c2_154; unfold isNan at hnn; simp only [decide_eq_false_iff_not] at hnn; unfold rung; omega)], hb⟩
end Go.Proofs.YtcljmclolpgdmaaGreatDoor
