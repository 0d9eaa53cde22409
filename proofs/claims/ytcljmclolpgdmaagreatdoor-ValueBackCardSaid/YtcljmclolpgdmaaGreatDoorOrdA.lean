/- Comparing: package cmp, the order of floats. -/
import Derived.Test.YtcljmclolpgdmaaGreatDoorRefA
import Derived.Test.YtcljmclolpgdmaaGreatDoorOrdM
namespace Go.Proofs.YtcljmclolpgdmaaGreatDoor
open Go.RowKit Go.Bw Go.Bw.Fl
set_option linter.unusedVariables false
set_option linter.unusedSimpArgs false
theorem exn53OrdA : Extn Tryz.prog 53 Extern.MathFloatBits.float64bits := fun args w => run_callFunc_extern Tryz.func53 (by kernel_rfl) (by kernel_rfl) (by kernel_rfl) (by kernel_rfl) args w
theorem txt148OrdA : Txt Tryz.prog 148 := ⟨_, Tryz.func148, by kernel_rfl, rfl⟩   -- cmp.isNaN[uint64]
theorem txt152OrdA : Txt Tryz.prog 152 := ⟨_, Tryz.func152, by kernel_rfl, rfl⟩   -- cmp.isNaN[float64]
theorem txt153OrdA : Txt Tryz.prog 153 := ⟨_, Tryz.func153, by kernel_rfl, rfl⟩   -- cmp.isNaN[string]
theorem txt154OrdA : Txt Tryz.prog 154 := ⟨_, Tryz.func154, by kernel_rfl, rfl⟩   -- cmp.isNaN[int64]
theorem txt94OrdA : Txt Tryz.prog 94 := ⟨_, Tryz.func94, by kernel_rfl, rfl⟩   -- cmp.Compare[uint64]
theorem txt95OrdA : Txt Tryz.prog 95 := ⟨_, Tryz.func95, by kernel_rfl, rfl⟩   -- bridleway/num.Key
def cmpS (x y : List UInt8) : Int := if Op.bytesLess x y = true then -1 else if x = y then 0 else 1
def cmpF (a b : Nat) : Int := if isNan a = true then (if isNan b = true then 0 else -1) else if isNan b = true then 1 else cmpI (val a) (val b)

theorem isNaNl_r (x : Int) (w : World) : Ret Tryz.prog 154 [.int .i64 x] w fun v w' => v = .bool false ∧ w' = w := by
  refine enter Tryz.func154 rfl rfl rfl ?_
  refine Wc.seq fun _ hK_1 => ?_
  refine Wc.region ?_
  refine Wl.y (y_assign rfl) rfl ?_
  refine Wl.nil ?_
  refine Wq.next hK_1 ?_
  refine Wc.seq fun _ hK_3 => ?_
  refine Wc.region ?_
  refine Wl.y (y_move rfl) rfl ?_
  refine Wl.y (y_move rfl) rfl ?_
  refine Wl.y (y_neqi rfl rfl) rfl ?_
  refine Wl.y (y_assign rfl) rfl ?_
  refine Wl.nil ?_
  refine Wq.next hK_3 ?_
  refine Wc.ret ?_
  refine ret1 rfl rfl ?_
  exact ⟨_, rfl, bool_eq (by simp), rfl⟩
theorem isNaNu_r (x : Int) (w : World) : Ret Tryz.prog 148 [.int .u64 x] w fun v w' => v = .bool false ∧ w' = w := by
  refine enter Tryz.func148 rfl rfl rfl ?_
  refine Wc.seq fun _ hK_1 => ?_
  refine Wc.region ?_
  refine Wl.y (y_assign rfl) rfl ?_
  refine Wl.nil ?_
  refine Wq.next hK_1 ?_
  refine Wc.seq fun _ hK_3 => ?_
  refine Wc.region ?_
  refine Wl.y (y_move rfl) rfl ?_
  refine Wl.y (y_move rfl) rfl ?_
  refine Wl.y (y_neqi rfl rfl) rfl ?_
  refine Wl.y (y_assign rfl) rfl ?_
  refine Wl.nil ?_
  refine Wq.next hK_3 ?_
  refine Wc.ret ?_
  refine ret1 rfl rfl ?_
  exact ⟨_, rfl, bool_eq (by simp), rfl⟩
theorem isNaNs_r (x : List UInt8) (w : World) : Ret Tryz.prog 153 [str x] w fun v w' => v = .bool false ∧ w' = w := by
  refine enter Tryz.func153 rfl rfl rfl ?_
  refine Wc.seq fun _ hK_1 => ?_
  refine Wc.region ?_
  refine Wl.y (y_assign rfl) rfl ?_
  refine Wl.nil ?_
  refine Wq.next hK_1 ?_
  refine Wc.seq fun _ hK_3 => ?_
  refine Wc.region ?_
  refine Wl.y (y_move rfl) rfl ?_
  refine Wl.y (y_move rfl) rfl ?_
  refine Wl.y (y_neqs rfl rfl) rfl ?_
  refine Wl.y (y_assign rfl) rfl ?_
  refine Wl.nil ?_
  refine Wq.next hK_3 ?_
  refine Wc.ret ?_
  refine ret1 rfl rfl ?_
  exact ⟨_, rfl, bool_eq (by simp), rfl⟩
theorem isNaNf_r (b : Nat) (w : World) : Ret Tryz.prog 152 [.float .f64 b] w fun v w' => v = .bool (isNan b) ∧ w' = w := by
  refine enter Tryz.func152 rfl rfl rfl ?_
  refine Wc.seq fun _ hK_1 => ?_
  refine Wc.region ?_
  refine Wl.y (y_assign rfl) rfl ?_
  refine Wl.nil ?_
  refine Wq.next hK_1 ?_
  refine Wc.seq fun _ hK_3 => ?_
  refine Wc.region ?_
  refine Wl.y (y_move rfl) rfl ?_
  refine Wl.y (y_move rfl) rfl ?_
  refine Wl.y (y_neqf rfl rfl) rfl ?_
  refine Wl.y (y_assign rfl) rfl ?_
  refine Wl.nil ?_
  refine Wq.next hK_3 ?_
  refine Wc.ret ?_
  refine ret1 rfl rfl ?_
  exact ⟨_, rfl, bool_eq (ne_self_f b), rfl⟩

theorem Cmpl_r (x y : Int) (w : World) : Ret Tryz.prog 118 [.int .i64 x, .int .i64 y] w fun v w' => v = .int .i64 (cmpI x y) ∧ w' = w := by
  refine enter Tryz.func118 rfl rfl rfl ?_
  refine Wc.seq fun _ hK_1 => ?_
  refine Wc.region ?_
  refine Wl.y (y_assign rfl) rfl ?_
  refine Wl.nil ?_
  refine Wq.next hK_1 ?_
  refine Wc.seq fun _ hK_3 => ?_
  refine Wc.region ?_
  refine Wl.y (y_move rfl) rfl ?_
  refine Wl.call txt154OrdA rfl rfl (isNaNl_r _ _) rfl ?_
  rintro _ w_ ⟨rfl, hw_⟩
  have hw_ := hw_.symm; subst hw_
  refine Wl.y (y_assign rfl) rfl ?_
  refine Wl.nil ?_
  refine Wq.next hK_3 ?_
  refine Wc.seq fun _ hK_7 => ?_
  refine Wc.region ?_
  refine Wl.y (y_move rfl) rfl ?_
  refine Wl.call txt154OrdA rfl rfl (isNaNl_r _ _) rfl ?_
  rintro _ w_ ⟨rfl, hw_⟩
  have hw_ := hw_.symm; subst hw_
  refine Wl.y (y_assign rfl) rfl ?_
  refine Wl.nil ?_
  refine Wq.next hK_7 ?_
  refine Wc.seq fun _ hK_11 => ?_
  refine Wc.seq fun _ hK_12 => ?_
  refine Wc.region ?_
  refine Wl.y (y_move rfl) rfl ?_
  refine Wl.nil ?_
  refine Wq.next hK_12 ?_
  refine Wc.cond rfl (fun c0_14 => ?_) (fun c0_14 => ?_)
  ·
   have c0_14_ := c0_14
   try simp only [decide_eq_true_eq, decide_eq_false_iff_not, beq_iff_eq, beq_eq_false_iff_ne, bne_iff_ne, bne_eq_false_iff_eq, Bool.not_eq_true', Bool.not_eq_false', Bool.not_eq_eq_eq_not, Bool.not_true, Bool.not_false, ne_eq, Int.not_lt, Int.not_le] at c0_14
   cases c0_14_
  ·
   have c0_14_ := c0_14
   try simp only [decide_eq_true_eq, decide_eq_false_iff_not, beq_iff_eq, beq_eq_false_iff_ne, bne_iff_ne, bne_eq_false_iff_eq, Bool.not_eq_true', Bool.not_eq_false', Bool.not_eq_eq_eq_not, Bool.not_true, Bool.not_false, ne_eq, Int.not_lt, Int.not_le] at c0_14
   refine Wc.skip ?_
   refine Wq.next hK_11 ?_
   refine Wc.seq fun _ hK_15 => ?_
   refine Wc.seq fun _ hK_16 => ?_
   refine Wc.region ?_
   refine Wl.y (y_move rfl) rfl ?_
   refine Wl.nil ?_
   refine Wq.next hK_16 ?_
   refine Wc.cond rfl (fun c2_18 => ?_) (fun c2_18 => ?_)
   ·
    have c2_18_ := c2_18
    try simp only [decide_eq_true_eq, decide_eq_false_iff_not, beq_iff_eq, beq_eq_false_iff_ne, bne_iff_ne, bne_eq_false_iff_eq, Bool.not_eq_true', Bool.not_eq_false', Bool.not_eq_eq_eq_not, Bool.not_true, Bool.not_false, ne_eq, Int.not_lt, Int.not_le] at c2_18
    cases c2_18_
   ·
    have c2_18_ := c2_18
    try simp only [decide_eq_true_eq, decide_eq_false_iff_not, beq_iff_eq, beq_eq_false_iff_ne, bne_iff_ne, bne_eq_false_iff_eq, Bool.not_eq_true', Bool.not_eq_false', Bool.not_eq_eq_eq_not, Bool.not_true, Bool.not_false, ne_eq, Int.not_lt, Int.not_le] at c2_18
    refine Wc.skip ?_
    refine Wq.next hK_15 ?_
    refine Wc.seq fun _ hK_19 => ?_
    refine Wc.seq fun _ hK_20 => ?_
    refine Wc.region ?_
    refine Wl.y (y_move rfl) rfl ?_
    refine Wl.y (y_move rfl) rfl ?_
    refine Wl.y (y_lssi rfl rfl) rfl ?_
    refine Wl.nil ?_
    refine Wq.next hK_20 ?_
    refine Wc.cond rfl (fun c3_24 => ?_) (fun c3_24 => ?_)
    ·
     have c3_24_ := c3_24
     try simp only [decide_eq_true_eq, decide_eq_false_iff_not, beq_iff_eq, beq_eq_false_iff_ne, bne_iff_ne, bne_eq_false_iff_eq, Bool.not_eq_true', Bool.not_eq_false', Bool.not_eq_eq_eq_not, Bool.not_true, Bool.not_false, ne_eq, Int.not_lt, Int.not_le] at c3_24
     refine Wc.seq fun _ hK_25 => ?_
     refine Wc.region ?_
     refine Wl.y (y_assign rfl) rfl ?_
     refine Wl.nil ?_
     refine Wq.next hK_25 ?_
     refine Wc.ret ?_
     refine Wq.then_ret ?_
     refine ret1 rfl rfl ?_
     exact ⟨_, rfl, int_eq (by unfold cmpI; simp_all; try omega), rfl⟩
    ·
     have c3_24_ := c3_24
     try simp only [decide_eq_true_eq, decide_eq_false_iff_not, beq_iff_eq, beq_eq_false_iff_ne, bne_iff_ne, bne_eq_false_iff_eq, Bool.not_eq_true', Bool.not_eq_false', Bool.not_eq_eq_eq_not, Bool.not_true, Bool.not_false, ne_eq, Int.not_lt, Int.not_le] at c3_24
     refine Wc.skip ?_
     refine Wq.next hK_19 ?_
     refine Wc.seq fun _ hK_27 => ?_
     refine Wc.seq fun _ hK_28 => ?_
     refine Wc.region ?_
     refine Wl.y (y_move rfl) rfl ?_
     refine Wl.y (y_move rfl) rfl ?_
     refine Wl.y (y_gtri rfl rfl) rfl ?_
     refine Wl.nil ?_
     refine Wq.next hK_28 ?_
     refine Wc.cond rfl (fun c4_32 => ?_) (fun c4_32 => ?_)
     ·
      have c4_32_ := c4_32
      try simp only [decide_eq_true_eq, decide_eq_false_iff_not, beq_iff_eq, beq_eq_false_iff_ne, bne_iff_ne, bne_eq_false_iff_eq, Bool.not_eq_true', Bool.not_eq_false', Bool.not_eq_eq_eq_not, Bool.not_true, Bool.not_false, ne_eq, Int.not_lt, Int.not_le] at c4_32
      refine Wc.seq fun _ hK_33 => ?_
      refine Wc.region ?_
      refine Wl.y (y_assign rfl) rfl ?_
      refine Wl.nil ?_
      refine Wq.next hK_33 ?_
      refine Wc.ret ?_
      refine Wq.then_ret ?_
      refine ret1 rfl rfl ?_
      exact ⟨_, rfl, int_eq (by unfold cmpI; simp_all; try omega), rfl⟩
     ·
      have c4_32_ := c4_32
      try simp only [decide_eq_true_eq, decide_eq_false_iff_not, beq_iff_eq, beq_eq_false_iff_ne, bne_iff_ne, bne_eq_false_iff_eq, Bool.not_eq_true', Bool.not_eq_false', Bool.not_eq_eq_eq_not, Bool.not_true, Bool.not_false, ne_eq, Int.not_lt, Int.not_le] at c4_32
      refine Wc.skip ?_
      refine Wq.next hK_27 ?_
      refine Wc.seq fun _ hK_35 => ?_
      refine Wc.region ?_
      refine Wl.y (y_assign rfl) rfl ?_
      refine Wl.nil ?_
      refine Wq.next hK_35 ?_
      refine Wc.ret ?_
      refine ret1 rfl rfl ?_
      exact ⟨_, rfl, int_eq (by unfold cmpI; simp_all; try omega), rfl⟩
theorem Cmpu_r (x y : Int) (w : World) : Ret Tryz.prog 94 [.int .u64 x, .int .u64 y] w fun v w' => v = .int .i64 (cmpI x y) ∧ w' = w := by
  refine enter Tryz.func94 rfl rfl rfl ?_
  refine Wc.seq fun _ hK_1 => ?_
  refine Wc.region ?_
  refine Wl.y (y_assign rfl) rfl ?_
  refine Wl.nil ?_
  refine Wq.next hK_1 ?_
  refine Wc.seq fun _ hK_3 => ?_
  refine Wc.region ?_
  refine Wl.y (y_move rfl) rfl ?_
  refine Wl.call txt148OrdA rfl rfl (isNaNu_r _ _) rfl ?_
  rintro _ w_ ⟨rfl, hw_⟩
  have hw_ := hw_.symm; subst hw_
  refine Wl.y (y_assign rfl) rfl ?_
  refine Wl.nil ?_
  refine Wq.next hK_3 ?_
  refine Wc.seq fun _ hK_7 => ?_
  refine Wc.region ?_
  refine Wl.y (y_move rfl) rfl ?_
  refine Wl.call txt148OrdA rfl rfl (isNaNu_r _ _) rfl ?_
  rintro _ w_ ⟨rfl, hw_⟩
  have hw_ := hw_.symm; subst hw_
  refine Wl.y (y_assign rfl) rfl ?_
  refine Wl.nil ?_
  refine Wq.next hK_7 ?_
  refine Wc.seq fun _ hK_11 => ?_
  refine Wc.seq fun _ hK_12 => ?_
  refine Wc.region ?_
  refine Wl.y (y_move rfl) rfl ?_
  refine Wl.nil ?_
  refine Wq.next hK_12 ?_
  refine Wc.cond rfl (fun c0_14 => ?_) (fun c0_14 => ?_)
  ·
   have c0_14_ := c0_14
   try simp only [decide_eq_true_eq, decide_eq_false_iff_not, beq_iff_eq, beq_eq_false_iff_ne, bne_iff_ne, bne_eq_false_iff_eq, Bool.not_eq_true', Bool.not_eq_false', Bool.not_eq_eq_eq_not, Bool.not_true, Bool.not_false, ne_eq, Int.not_lt, Int.not_le] at c0_14
   cases c0_14_
  ·
   have c0_14_ := c0_14
   try simp only [decide_eq_true_eq, decide_eq_false_iff_not, beq_iff_eq, beq_eq_false_iff_ne, bne_iff_ne, bne_eq_false_iff_eq, Bool.not_eq_true', Bool.not_eq_false', Bool.not_eq_eq_eq_not, Bool.not_true, Bool.not_false, ne_eq, Int.not_lt, Int.not_le] at c0_14
   refine Wc.skip ?_
   refine Wq.next hK_11 ?_
   refine Wc.seq fun _ hK_15 => ?_
   refine Wc.seq fun _ hK_16 => ?_
   refine Wc.region ?_
   refine Wl.y (y_move rfl) rfl ?_
   refine Wl.nil ?_
   refine Wq.next hK_16 ?_
   refine Wc.cond rfl (fun c2_18 => ?_) (fun c2_18 => ?_)
   ·
    have c2_18_ := c2_18
    try simp only [decide_eq_true_eq, decide_eq_false_iff_not, beq_iff_eq, beq_eq_false_iff_ne, bne_iff_ne, bne_eq_false_iff_eq, Bool.not_eq_true', Bool.not_eq_false', Bool.not_eq_eq_eq_not, Bool.not_true, Bool.not_false, ne_eq, Int.not_lt, Int.not_le] at c2_18
    cases c2_18_
   ·
    have c2_18_ := c2_18
    try simp only [decide_eq_true_eq, decide_eq_false_iff_not, beq_iff_eq, beq_eq_false_iff_ne, bne_iff_ne, bne_eq_false_iff_eq, Bool.not_eq_true', Bool.not_eq_false', Bool.not_eq_eq_eq_not, Bool.not_true, Bool.not_false, ne_eq, Int.not_lt, Int.not_le] at c2_18
    refine Wc.skip ?_
    refine Wq.next hK_15 ?_
    refine Wc.seq fun _ hK_19 => ?_
    refine Wc.seq fun _ hK_20 => ?_
    refine Wc.region ?_
    refine Wl.y (y_move rfl) rfl ?_
    refine Wl.y (y_move rfl) rfl ?_
    refine Wl.y (y_lssi rfl rfl) rfl ?_
    refine Wl.nil ?_
    refine Wq.next hK_20 ?_
    refine Wc.cond rfl (fun c3_24 => ?_) (fun c3_24 => ?_)
    ·
     have c3_24_ := c3_24
     try simp only [decide_eq_true_eq, decide_eq_false_iff_not, beq_iff_eq, beq_eq_false_iff_ne, bne_iff_ne, bne_eq_false_iff_eq, Bool.not_eq_true', Bool.not_eq_false', Bool.not_eq_eq_eq_not, Bool.not_true, Bool.not_false, ne_eq, Int.not_lt, Int.not_le] at c3_24
     refine Wc.seq fun _ hK_25 => ?_
     refine Wc.region ?_
     refine Wl.y (y_assign rfl) rfl ?_
     refine Wl.nil ?_
     refine Wq.next hK_25 ?_
     refine Wc.ret ?_
     refine Wq.then_ret ?_
     refine ret1 rfl rfl ?_
     exact ⟨_, rfl, int_eq (by unfold cmpI; simp_all; try omega), rfl⟩
    ·
     have c3_24_ := c3_24
     try simp only [decide_eq_true_eq, decide_eq_false_iff_not, beq_iff_eq, beq_eq_false_iff_ne, bne_iff_ne, bne_eq_false_iff_eq, Bool.not_eq_true', Bool.not_eq_false', Bool.not_eq_eq_eq_not, Bool.not_true, Bool.not_false, ne_eq, Int.not_lt, Int.not_le] at c3_24
     refine Wc.skip ?_
     refine Wq.next hK_19 ?_
     refine Wc.seq fun _ hK_27 => ?_
     refine Wc.seq fun _ hK_28 => ?_
     refine Wc.region ?_
     refine Wl.y (y_move rfl) rfl ?_
     refine Wl.y (y_move rfl) rfl ?_
     refine Wl.y (y_gtri rfl rfl) rfl ?_
     refine Wl.nil ?_
     refine Wq.next hK_28 ?_
     refine Wc.cond rfl (fun c4_32 => ?_) (fun c4_32 => ?_)
     ·
      have c4_32_ := c4_32
      try simp only [decide_eq_true_eq, decide_eq_false_iff_not, beq_iff_eq, beq_eq_false_iff_ne, bne_iff_ne, bne_eq_false_iff_eq, Bool.not_eq_true', Bool.not_eq_false', Bool.not_eq_eq_eq_not, Bool.not_true, Bool.not_false, ne_eq, Int.not_lt, Int.not_le] at c4_32
      refine Wc.seq fun _ hK_33 => ?_
      refine Wc.region ?_
      refine Wl.y (y_assign rfl) rfl ?_
      refine Wl.nil ?_
      refine Wq.next hK_33 ?_
      refine Wc.ret ?_
      refine Wq.then_ret ?_
      refine ret1 rfl rfl ?_
      exact ⟨_, rfl, int_eq (by unfold cmpI; simp_all; try omega), rfl⟩
     ·
      have c4_32_ := c4_32
      try simp only [decide_eq_true_eq, decide_eq_false_iff_not, beq_iff_eq, beq_eq_false_iff_ne, bne_iff_ne, bne_eq_false_iff_eq, Bool.not_eq_true', Bool.not_eq_false', Bool.not_eq_eq_eq_not, Bool.not_true, Bool.not_false, ne_eq, Int.not_lt, Int.not_le] at c4_32
      refine Wc.skip ?_
      refine Wq.next hK_27 ?_
      refine Wc.seq fun _ hK_35 => ?_
      refine Wc.region ?_
      refine Wl.y (y_assign rfl) rfl ?_
      refine Wl.nil ?_
      refine Wq.next hK_35 ?_
      refine Wc.ret ?_
      refine ret1 rfl rfl ?_
      exact ⟨_, rfl, int_eq (by unfold cmpI; simp_all; try omega), rfl⟩
theorem Cmps_r (x y : List UInt8) (w : World) : Ret Tryz.prog 117 [str x, str y] w fun v w' => v = .int .i64 (cmpS x y) ∧ w' = w := by
  refine enter Tryz.func117 rfl rfl rfl ?_
  refine Wc.seq fun _ hK_1 => ?_
  refine Wc.region ?_
  refine Wl.y (y_assign rfl) rfl ?_
  refine Wl.nil ?_
  refine Wq.next hK_1 ?_
  refine Wc.seq fun _ hK_3 => ?_
  refine Wc.region ?_
  refine Wl.y (y_move rfl) rfl ?_
  refine Wl.call txt153OrdA rfl rfl (isNaNs_r _ _) rfl ?_
  rintro _ w_ ⟨rfl, hw_⟩
  have hw_ := hw_.symm; subst hw_
  refine Wl.y (y_assign rfl) rfl ?_
  refine Wl.nil ?_
  refine Wq.next hK_3 ?_
  refine Wc.seq fun _ hK_7 => ?_
  refine Wc.region ?_
  refine Wl.y (y_move rfl) rfl ?_
  refine Wl.call txt153OrdA rfl rfl (isNaNs_r _ _) rfl ?_
  rintro _ w_ ⟨rfl, hw_⟩
  have hw_ := hw_.symm; subst hw_
  refine Wl.y (y_assign rfl) rfl ?_
  refine Wl.nil ?_
  refine Wq.next hK_7 ?_
  refine Wc.seq fun _ hK_11 => ?_
  refine Wc.seq fun _ hK_12 => ?_
  refine Wc.region ?_
  refine Wl.y (y_move rfl) rfl ?_
  refine Wl.nil ?_
  refine Wq.next hK_12 ?_
  refine Wc.cond rfl (fun c0_14 => ?_) (fun c0_14 => ?_)
  ·
   have c0_14_ := c0_14
   try simp only [decide_eq_true_eq, decide_eq_false_iff_not, beq_iff_eq, beq_eq_false_iff_ne, bne_iff_ne, bne_eq_false_iff_eq, Bool.not_eq_true', Bool.not_eq_false', Bool.not_eq_eq_eq_not, Bool.not_true, Bool.not_false, ne_eq, Int.not_lt, Int.not_le] at c0_14
   cases c0_14_
  ·
   have c0_14_ := c0_14
   try simp only [decide_eq_true_eq, decide_eq_false_iff_not, beq_iff_eq, beq_eq_false_iff_ne, bne_iff_ne, bne_eq_false_iff_eq, Bool.not_eq_true', Bool.not_eq_false', Bool.not_eq_eq_eq_not, Bool.not_true, Bool.not_false, ne_eq, Int.not_lt, Int.not_le] at c0_14
   refine Wc.skip ?_
   refine Wq.next hK_11 ?_
   refine Wc.seq fun _ hK_15 => ?_
   refine Wc.seq fun _ hK_16 => ?_
   refine Wc.region ?_
   refine Wl.y (y_move rfl) rfl ?_
   refine Wl.nil ?_
   refine Wq.next hK_16 ?_
   refine Wc.cond rfl (fun c2_18 => ?_) (fun c2_18 => ?_)
   ·
    have c2_18_ := c2_18
    try simp only [decide_eq_true_eq, decide_eq_false_iff_not, beq_iff_eq, beq_eq_false_iff_ne, bne_iff_ne, bne_eq_false_iff_eq, Bool.not_eq_true', Bool.not_eq_false', Bool.not_eq_eq_eq_not, Bool.not_true, Bool.not_false, ne_eq, Int.not_lt, Int.not_le] at c2_18
    cases c2_18_
   ·
    have c2_18_ := c2_18
    try simp only [decide_eq_true_eq, decide_eq_false_iff_not, beq_iff_eq, beq_eq_false_iff_ne, bne_iff_ne, bne_eq_false_iff_eq, Bool.not_eq_true', Bool.not_eq_false', Bool.not_eq_eq_eq_not, Bool.not_true, Bool.not_false, ne_eq, Int.not_lt, Int.not_le] at c2_18
    refine Wc.skip ?_
    refine Wq.next hK_15 ?_
    refine Wc.seq fun _ hK_19 => ?_
    refine Wc.seq fun _ hK_20 => ?_
    refine Wc.region ?_
    refine Wl.y (y_move rfl) rfl ?_
    refine Wl.y (y_move rfl) rfl ?_
    refine Wl.y (y_lsss rfl rfl) rfl ?_
    refine Wl.nil ?_
    refine Wq.next hK_20 ?_
    refine Wc.cond rfl (fun c3_24 => ?_) (fun c3_24 => ?_)
    ·
     have c3_24_ := c3_24
     try simp only [decide_eq_true_eq, decide_eq_false_iff_not, beq_iff_eq, beq_eq_false_iff_ne, bne_iff_ne, bne_eq_false_iff_eq, Bool.not_eq_true', Bool.not_eq_false', Bool.not_eq_eq_eq_not, Bool.not_true, Bool.not_false, ne_eq, Int.not_lt, Int.not_le] at c3_24
     refine Wc.seq fun _ hK_25 => ?_
     refine Wc.region ?_
     refine Wl.y (y_assign rfl) rfl ?_
     refine Wl.nil ?_
     refine Wq.next hK_25 ?_
     refine Wc.ret ?_
     refine Wq.then_ret ?_
     refine ret1 rfl rfl ?_
     exact ⟨_, rfl, int_eq (by unfold cmpS; rw [if_pos c3_24_]), rfl⟩
    ·
     have c3_24_ := c3_24
     try simp only [decide_eq_true_eq, decide_eq_false_iff_not, beq_iff_eq, beq_eq_false_iff_ne, bne_iff_ne, bne_eq_false_iff_eq, Bool.not_eq_true', Bool.not_eq_false', Bool.not_eq_eq_eq_not, Bool.not_true, Bool.not_false, ne_eq, Int.not_lt, Int.not_le] at c3_24
     refine Wc.skip ?_
     refine Wq.next hK_19 ?_
     refine Wc.seq fun _ hK_27 => ?_
     refine Wc.seq fun _ hK_28 => ?_
     refine Wc.region ?_
     refine Wl.y (y_move rfl) rfl ?_
     refine Wl.y (y_move rfl) rfl ?_
     refine Wl.y (y_gtrs rfl rfl) rfl ?_
     refine Wl.nil ?_
     refine Wq.next hK_28 ?_
     refine Wc.cond rfl (fun c4_32 => ?_) (fun c4_32 => ?_)
     ·
      have c4_32_ := c4_32
      try simp only [decide_eq_true_eq, decide_eq_false_iff_not, beq_iff_eq, beq_eq_false_iff_ne, bne_iff_ne, bne_eq_false_iff_eq, Bool.not_eq_true', Bool.not_eq_false', Bool.not_eq_eq_eq_not, Bool.not_true, Bool.not_false, ne_eq, Int.not_lt, Int.not_le] at c4_32
      refine Wc.seq fun _ hK_33 => ?_
      refine Wc.region ?_
      refine Wl.y (y_assign rfl) rfl ?_
      refine Wl.nil ?_
      refine Wq.next hK_33 ?_
      refine Wc.ret ?_
      refine Wq.then_ret ?_
      refine ret1 rfl rfl ?_
      exact ⟨_, rfl, int_eq (by unfold cmpS; rw [if_neg (ne_tt c3_24_)]; have h := c4_32_; rw [c3_24_] at h; simp at h; rw [if_neg h]), rfl⟩
     ·
      have c4_32_ := c4_32
      try simp only [decide_eq_true_eq, decide_eq_false_iff_not, beq_iff_eq, beq_eq_false_iff_ne, bne_iff_ne, bne_eq_false_iff_eq, Bool.not_eq_true', Bool.not_eq_false', Bool.not_eq_eq_eq_not, Bool.not_true, Bool.not_false, ne_eq, Int.not_lt, Int.not_le] at c4_32
      refine Wc.skip ?_
      refine Wq.next hK_27 ?_
      refine Wc.seq fun _ hK_35 => ?_
      refine Wc.region ?_
      refine Wl.y (y_assign rfl) rfl ?_
      refine Wl.nil ?_
      refine Wq.next hK_35 ?_
      refine Wc.ret ?_
      refine ret1 rfl rfl ?_
      exact ⟨_, rfl, int_eq (by unfold cmpS; rw [if_neg (ne_tt c3_24_)]; have h := c4_32_; rw [c3_24_] at h; simp at h; rw [if_pos h]), rfl⟩
theorem Cmpf_r (a b : Nat) (w : World) : Ret Tryz.prog 116 [.float .f64 a, .float .f64 b] w fun v w' => v = .int .i64 (cmpF a b) ∧ w' = w := by
  have hl : (FloatKind.f64.format.order a b == some .lt) = (!isNan a && !isNan b && decide (val a < val b)) := lt_val
  have hg : (FloatKind.f64.format.order a b == some .gt) = (!isNan a && !isNan b && decide (val b < val a)) := gt_val
  refine enter Tryz.func116 rfl rfl rfl ?_
  refine Wc.seq fun _ hK_1 => ?_
  refine Wc.region ?_
  refine Wl.y (y_assign rfl) rfl ?_
  refine Wl.nil ?_
  refine Wq.next hK_1 ?_
  refine Wc.seq fun _ hK_3 => ?_
  refine Wc.region ?_
  refine Wl.y (y_move rfl) rfl ?_
  refine Wl.call txt152OrdA rfl rfl (isNaNf_r _ _) rfl ?_
  rintro _ w_ ⟨rfl, hw_⟩
  have hw_ := hw_.symm; subst hw_
  refine Wl.y (y_assign rfl) rfl ?_
  refine Wl.nil ?_
  refine Wq.next hK_3 ?_
  refine Wc.seq fun _ hK_7 => ?_
  refine Wc.region ?_
  refine Wl.y (y_move rfl) rfl ?_
  refine Wl.call txt152OrdA rfl rfl (isNaNf_r _ _) rfl ?_
  rintro _ w_ ⟨rfl, hw_⟩
  have hw_ := hw_.symm; subst hw_
  refine Wl.y (y_assign rfl) rfl ?_
  refine Wl.nil ?_
  refine Wq.next hK_7 ?_
  refine Wc.seq fun _ hK_11 => ?_
  refine Wc.seq fun _ hK_12 => ?_
  refine Wc.region ?_
  refine Wl.y (y_move rfl) rfl ?_
  refine Wl.nil ?_
  refine Wq.next hK_12 ?_
  refine Wc.cond rfl (fun c0_14 => ?_) (fun c0_14 => ?_)
  ·
   have c0_14_ := c0_14
   try simp only [decide_eq_true_eq, decide_eq_false_iff_not, beq_iff_eq, beq_eq_false_iff_ne, bne_iff_ne, bne_eq_false_iff_eq, Bool.not_eq_true', Bool.not_eq_false', Bool.not_eq_eq_eq_not, Bool.not_true, Bool.not_false, ne_eq, Int.not_lt, Int.not_le] at c0_14
   refine Wc.seq fun _ hK_15 => ?_
   refine Wc.seq fun _ hK_16 => ?_
   refine Wc.region ?_
   refine Wl.y (y_move rfl) rfl ?_
   refine Wl.nil ?_
   refine Wq.next hK_16 ?_
   refine Wc.cond rfl (fun c1_18 => ?_) (fun c1_18 => ?_)
   ·
    have c1_18_ := c1_18
    try simp only [decide_eq_true_eq, decide_eq_false_iff_not, beq_iff_eq, beq_eq_false_iff_ne, bne_iff_ne, bne_eq_false_iff_eq, Bool.not_eq_true', Bool.not_eq_false', Bool.not_eq_eq_eq_not, Bool.not_true, Bool.not_false, ne_eq, Int.not_lt, Int.not_le] at c1_18
    refine Wc.seq fun _ hK_19 => ?_
    refine Wc.region ?_
    refine Wl.y (y_assign rfl) rfl ?_
    refine Wl.nil ?_
    refine Wq.next hK_19 ?_
    refine Wc.ret ?_
    refine Wq.then_ret (Wq.then_ret ?_)
    refine ret1 rfl rfl ?_
    exact ⟨_, rfl, int_eq (by unfold cmpF cmpI; simp_all; try omega), rfl⟩
   ·
    have c1_18_ := c1_18
    try simp only [decide_eq_true_eq, decide_eq_false_iff_not, beq_iff_eq, beq_eq_false_iff_ne, bne_iff_ne, bne_eq_false_iff_eq, Bool.not_eq_true', Bool.not_eq_false', Bool.not_eq_eq_eq_not, Bool.not_true, Bool.not_false, ne_eq, Int.not_lt, Int.not_le] at c1_18
    refine Wc.skip ?_
    refine Wq.next hK_15 ?_
    refine Wc.seq fun _ hK_21 => ?_
    refine Wc.region ?_
    refine Wl.y (y_assign rfl) rfl ?_
    refine Wl.nil ?_
    refine Wq.next hK_21 ?_
    refine Wc.ret ?_
    refine Wq.then_ret ?_
    refine ret1 rfl rfl ?_
    exact ⟨_, rfl, int_eq (by unfold cmpF cmpI; simp_all; try omega), rfl⟩
  ·
   have c0_14_ := c0_14
   try simp only [decide_eq_true_eq, decide_eq_false_iff_not, beq_iff_eq, beq_eq_false_iff_ne, bne_iff_ne, bne_eq_false_iff_eq, Bool.not_eq_true', Bool.not_eq_false', Bool.not_eq_eq_eq_not, Bool.not_true, Bool.not_false, ne_eq, Int.not_lt, Int.not_le] at c0_14
   refine Wc.skip ?_
   refine Wq.next hK_11 ?_
   refine Wc.seq fun _ hK_23 => ?_
   refine Wc.seq fun _ hK_24 => ?_
   refine Wc.region ?_
   refine Wl.y (y_move rfl) rfl ?_
   refine Wl.nil ?_
   refine Wq.next hK_24 ?_
   refine Wc.cond rfl (fun c2_26 => ?_) (fun c2_26 => ?_)
   ·
    have c2_26_ := c2_26
    try simp only [decide_eq_true_eq, decide_eq_false_iff_not, beq_iff_eq, beq_eq_false_iff_ne, bne_iff_ne, bne_eq_false_iff_eq, Bool.not_eq_true', Bool.not_eq_false', Bool.not_eq_eq_eq_not, Bool.not_true, Bool.not_false, ne_eq, Int.not_lt, Int.not_le] at c2_26
    refine Wc.seq fun _ hK_27 => ?_
    refine Wc.region ?_
    refine Wl.y (y_assign rfl) rfl ?_
    refine Wl.nil ?_
    refine Wq.next hK_27 ?_
    refine Wc.ret ?_
    refine Wq.then_ret ?_
    refine ret1 rfl rfl ?_
    exact ⟨_, rfl, int_eq (by unfold cmpF cmpI; simp_all; try omega), rfl⟩
   ·
    have c2_26_ := c2_26
    try simp only [decide_eq_true_eq, decide_eq_false_iff_not, beq_iff_eq, beq_eq_false_iff_ne, bne_iff_ne, bne_eq_false_iff_eq, Bool.not_eq_true', Bool.not_eq_false', Bool.not_eq_eq_eq_not, Bool.not_true, Bool.not_false, ne_eq, Int.not_lt, Int.not_le] at c2_26
    refine Wc.skip ?_
    refine Wq.next hK_23 ?_
    refine Wc.seq fun _ hK_29 => ?_
    refine Wc.seq fun _ hK_30 => ?_
    refine Wc.region ?_
    refine Wl.y (y_move rfl) rfl ?_
    refine Wl.y (y_move rfl) rfl ?_
    refine Wl.y (y_lssf rfl rfl) rfl ?_
    refine Wl.nil ?_
    refine Wq.next hK_30 ?_
    rw [hl]
    refine Wc.cond rfl (fun c3_34 => ?_) (fun c3_34 => ?_)
    ·
     have c3_34_ := c3_34
     try simp only [decide_eq_true_eq, decide_eq_false_iff_not, beq_iff_eq, beq_eq_false_iff_ne, bne_iff_ne, bne_eq_false_iff_eq, Bool.not_eq_true', Bool.not_eq_false', Bool.not_eq_eq_eq_not, Bool.not_true, Bool.not_false, ne_eq, Int.not_lt, Int.not_le] at c3_34
     refine Wc.seq fun _ hK_35 => ?_
     refine Wc.region ?_
     refine Wl.y (y_assign rfl) rfl ?_
     refine Wl.nil ?_
     refine Wq.next hK_35 ?_
     refine Wc.ret ?_
     refine Wq.then_ret ?_
     refine ret1 rfl rfl ?_
     exact ⟨_, rfl, int_eq (by unfold cmpF cmpI; simp_all; try omega), rfl⟩
    ·
     have c3_34_ := c3_34
     try simp only [decide_eq_true_eq, decide_eq_false_iff_not, beq_iff_eq, beq_eq_false_iff_ne, bne_iff_ne, bne_eq_false_iff_eq, Bool.not_eq_true', Bool.not_eq_false', Bool.not_eq_eq_eq_not, Bool.not_true, Bool.not_false, ne_eq, Int.not_lt, Int.not_le] at c3_34
     refine Wc.skip ?_
     refine Wq.next hK_29 ?_
     refine Wc.seq fun _ hK_37 => ?_
     refine Wc.seq fun _ hK_38 => ?_
     refine Wc.region ?_
     refine Wl.y (y_move rfl) rfl ?_
     refine Wl.y (y_move rfl) rfl ?_
     refine Wl.y (y_gtrf rfl rfl) rfl ?_
     refine Wl.nil ?_
     refine Wq.next hK_38 ?_
     rw [hg]
     refine Wc.cond rfl (fun c4_42 => ?_) (fun c4_42 => ?_)
     ·
      have c4_42_ := c4_42
      try simp only [decide_eq_true_eq, decide_eq_false_iff_not, beq_iff_eq, beq_eq_false_iff_ne, bne_iff_ne, bne_eq_false_iff_eq, Bool.not_eq_true', Bool.not_eq_false', Bool.not_eq_eq_eq_not, Bool.not_true, Bool.not_false, ne_eq, Int.not_lt, Int.not_le] at c4_42
      refine Wc.seq fun _ hK_43 => ?_
      refine Wc.region ?_
      refine Wl.y (y_assign rfl) rfl ?_
      refine Wl.nil ?_
      refine Wq.next hK_43 ?_
      refine Wc.ret ?_
      refine Wq.then_ret ?_
      refine ret1 rfl rfl ?_
      exact ⟨_, rfl, int_eq (by unfold cmpF cmpI; simp_all; try omega), rfl⟩
     ·
      have c4_42_ := c4_42
      try simp only [decide_eq_true_eq, decide_eq_false_iff_not, beq_iff_eq, beq_eq_false_iff_ne, bne_iff_ne, bne_eq_false_iff_eq, Bool.not_eq_true', Bool.not_eq_false', Bool.not_eq_eq_eq_not, Bool.not_true, Bool.not_false, ne_eq, Int.not_lt, Int.not_le] at c4_42
      refine Wc.skip ?_
      refine Wq.next hK_37 ?_
      refine Wc.seq fun _ hK_45 => ?_
      refine Wc.region ?_
      refine Wl.y (y_assign rfl) rfl ?_
      refine Wl.nil ?_
      refine Wq.next hK_45 ?_
      refine Wc.ret ?_
      refine ret1 rfl rfl ?_
      exact ⟨_, rfl, int_eq (by unfold cmpF cmpI; simp_all; try omega), rfl⟩

/-- a number in the order of floats -/
def keyW (b : Nat) : Nat := if isNan b = true then 18446744073709551615 else if 9223372036854775808 ≤ b then 18446744073709551615 - b else b + 9223372036854775808
theorem not64 (b : Nat) (h : b < 18446744073709551616) : bits .xor .u64 18446744073709551615 (b : Int) = ((18446744073709551615 - b : Nat) : Int) := by
  have h1 := u64_xor_nat 18446744073709551615 b (by decide) h
  rw [show ((18446744073709551615 : Nat) : Int) = 18446744073709551615 from rfl] at h1
  rw [h1]; congr 1
  have h2 : (18446744073709551615 : Nat) = 2 ^ 64 - 1 := by decide
  have h3 : (BitVec.ofNat 64 b ^^^ BitVec.allOnes 64).toNat = (~~~ (BitVec.ofNat 64 b)).toNat := by rw [BitVec.xor_allOnes]
  rw [BitVec.toNat_xor, BitVec.toNat_allOnes, BitVec.toNat_not, BitVec.toNat_ofNat, Nat.mod_eq_of_lt (show b < 2 ^ 64 by simpa using h)] at h3
  rw [h2, Nat.xor_comm, h3]
theorem orTop (b : Nat) (h : b < 9223372036854775808) : bits .or .u64 (b : Int) 9223372036854775808 = ((b + 9223372036854775808 : Nat) : Int) := by
  have h1 := u64_or_nat b 9223372036854775808 (by omega) (by decide)
  rw [show ((9223372036854775808 : Nat) : Int) = 9223372036854775808 from rfl] at h1
  rw [h1, Nat.or_comm, show (9223372036854775808 : Nat) = 1 * 2 ^ 63 by decide, or_low _ _ _ (by simpa using h)]; congr 1; omega
theorem Key_r (b : Nat) (hb0 : b < 18446744073709551616) (w : World) : Ret Tryz.prog 95 [.float .f64 b] w fun v w' => v = .int .u64 (keyW b : Nat) ∧ w' = w := by
  refine enter Tryz.func95 rfl rfl rfl ?_
  refine Wc.seq fun _ hK_1 => ?_
  refine Wc.region ?_
  refine Wl.y (y_assign rfl) rfl ?_
  refine Wl.nil ?_
  refine Wq.next hK_1 ?_
  refine Wc.seq fun _ hK_3 => ?_
  refine Wc.region ?_
  refine Wl.y (y_move rfl) rfl ?_
  refine Wl.y (y_f2b exn53OrdA rfl rfl) rfl ?_
  refine Wl.y (y_assign rfl) rfl ?_
  refine Wl.nil ?_
  refine Wq.next hK_3 ?_
  refine Wc.seq fun _ hK_7 => ?_
  refine Wc.block ?_
  refine Wc.seq fun _ hK_8 => ?_
  refine Wc.region ?_
  refine Wl.y (y_move rfl) rfl ?_
  refine Wl.y (y_move rfl) rfl ?_
  refine Wl.y (y_neqf rfl rfl) rfl ?_
  refine Wl.y (y_assign rfl) rfl ?_
  refine Wl.nil ?_
  refine Wq.next hK_8 ?_
  rw [ne_self_f]
  refine Wc.cond rfl (fun c0_13 => ?_) (fun c0_13 => ?_)
  ·
   have c0_13_ := c0_13
   try simp only [decide_eq_true_eq, decide_eq_false_iff_not, beq_iff_eq, beq_eq_false_iff_ne, bne_iff_ne, bne_eq_false_iff_eq, Bool.not_eq_true', Bool.not_eq_false', Bool.not_eq_eq_eq_not, Bool.not_true, Bool.not_false, ne_eq, Int.not_lt, Int.not_le] at c0_13
   refine Wc.seq fun _ hK_14 => ?_
   refine Wc.region ?_
   refine Wl.y (y_assign rfl) rfl ?_
   refine Wl.nil ?_
   refine Wq.next hK_14 ?_
   refine Wc.ret ?_
   refine Wq.block_ret (Wq.then_ret ?_)
   refine ret1 rfl rfl ?_
   exact ⟨_, rfl, int_eq (by unfold keyW; rw [if_pos c0_13_]; rfl), rfl⟩
  ·
   have c0_13_ := c0_13
   try simp only [decide_eq_true_eq, decide_eq_false_iff_not, beq_iff_eq, beq_eq_false_iff_ne, bne_iff_ne, bne_eq_false_iff_eq, Bool.not_eq_true', Bool.not_eq_false', Bool.not_eq_eq_eq_not, Bool.not_true, Bool.not_false, ne_eq, Int.not_lt, Int.not_le] at c0_13
   refine Wc.seq fun _ hK_16 => ?_
   refine Wc.region ?_
   refine Wl.y (y_move rfl) rfl ?_
   refine Wl.y (y_geqi rfl rfl) rfl ?_
   refine Wl.y (y_assign rfl) rfl ?_
   refine Wl.nil ?_
   refine Wq.next hK_16 ?_
   refine Wc.cond rfl (fun c1_20 => ?_) (fun c1_20 => ?_)
   ·
    have c1_20_ := c1_20
    try simp only [decide_eq_true_eq, decide_eq_false_iff_not, beq_iff_eq, beq_eq_false_iff_ne, bne_iff_ne, bne_eq_false_iff_eq, Bool.not_eq_true', Bool.not_eq_false', Bool.not_eq_eq_eq_not, Bool.not_true, Bool.not_false, ne_eq, Int.not_lt, Int.not_le] at c1_20
    refine Wc.seq fun _ hK_21 => ?_
    refine Wc.region ?_
    refine Wl.y (y_move rfl) rfl ?_
    refine Wl.y (y_eq (y_noti rfl) (int_eq (not64 b hb0))) rfl ?_
    refine Wl.y (y_assign rfl) rfl ?_
    refine Wl.nil ?_
    refine Wq.next hK_21 ?_
    refine Wc.ret ?_
    refine Wq.block_ret (Wq.then_ret ?_)
    refine ret1 rfl rfl ?_
    exact ⟨_, rfl, int_eq (by unfold keyW; rw [if_neg (ne_tt c0_13_), if_pos (by have := c1_20; omega)]), rfl⟩
   ·
    have c1_20_ := c1_20
    try simp only [decide_eq_true_eq, decide_eq_false_iff_not, beq_iff_eq, beq_eq_false_iff_ne, bne_iff_ne, bne_eq_false_iff_eq, Bool.not_eq_true', Bool.not_eq_false', Bool.not_eq_eq_eq_not, Bool.not_true, Bool.not_false, ne_eq, Int.not_lt, Int.not_le] at c1_20
    refine Wc.skip ?_
    refine Wq.block_normal ?_
    refine Wq.next hK_7 ?_
    refine Wc.seq fun _ hK_25 => ?_
    refine Wc.region ?_
    refine Wl.y (y_move rfl) rfl ?_
    refine Wl.y (y_eq (y_or rfl rfl) (int_eq (orTop b (by have := c1_20; omega)))) rfl ?_
    refine Wl.y (y_assign rfl) rfl ?_
    refine Wl.nil ?_
    refine Wq.next hK_25 ?_
    refine Wc.ret ?_
    refine ret1 rfl rfl ?_
    exact ⟨_, rfl, int_eq (by unfold keyW; rw [if_neg (ne_tt c0_13_), if_neg (by have := c1_20; omega)]), rfl⟩
theorem Order_r (a b : Nat) (ha : a < 18446744073709551616) (hb : b < 18446744073709551616) (w : World) : Ret Tryz.prog 54 [.float .f64 a, .float .f64 b] w fun v w' => v = .int .i64 (cmpI (keyW a : Nat) (keyW b : Nat)) ∧ w' = w := by
  refine enter Tryz.func54 rfl rfl rfl ?_
  refine Wc.seq fun _ hK_1 => ?_
  refine Wc.region ?_
  refine Wl.y (y_assign rfl) rfl ?_
  refine Wl.nil ?_
  refine Wq.next hK_1 ?_
  refine Wc.seq fun _ hK_3 => ?_
  refine Wc.region ?_
  refine Wl.y (y_move rfl) rfl ?_
  refine Wl.call txt95OrdA rfl rfl (Key_r a ha _) rfl ?_
  rintro _ w_ ⟨rfl, hw_⟩
  have hw_ := hw_.symm; subst hw_
  refine Wl.y (y_move rfl) rfl ?_
  refine Wl.call txt95OrdA rfl rfl (Key_r b hb _) rfl ?_
  rintro _ w_ ⟨rfl, hw_⟩
  have hw_ := hw_.symm; subst hw_
  refine Wl.call txt94OrdA rfl rfl (Cmpu_r _ _ _) rfl ?_
  rintro _ w_ ⟨rfl, hw_⟩
  have hw_ := hw_.symm; subst hw_
  refine Wl.y (y_assign rfl) rfl ?_
  refine Wl.nil ?_
  refine Wq.next hK_3 ?_
  refine Wc.ret ?_
  refine ret1 rfl rfl ?_
  exact ⟨_, rfl, rfl, rfl⟩

theorem canon_lt {b : Nat} (h : b < 18446744073709551616) : canon b < 18446744073709551616 := by unfold canon; split <;> omega
theorem canon_of {b : Nat} (h : isNan b = false) : canon b = b := by unfold canon; rw [if_neg (ne_tt h)]
theorem key_nan {b : Nat} (h : isNan b = true) : keyW b = 18446744073709551615 := by unfold keyW; rw [if_pos h]
theorem key_num {b : Nat} (h : isNan b = false) (hb : b < 18446744073709551616) : (keyW b < 18446744073709551615) ∧ ((9223372036854775808 ≤ b ∧ keyW b = 18446744073709551615 - b) ∨ (b < 9223372036854775808 ∧ keyW b = b + 9223372036854775808)) := by
  have h' : b % 9223372036854775808 ≤ 9218868437227405312 := by simpa [isNan] using h
  unfold keyW; rw [if_neg (ne_tt h)]; split <;> omega
theorem key_le (b : Nat) (hb : b < 18446744073709551616) : keyW b ≤ 18446744073709551615 := by
  unfold keyW; split
  · omega
  · split <;> omega
theorem key_canon (b : Nat) : keyW (canon b) = keyW b := by
  unfold canon
  split
  · rename_i h; rw [key_nan h]; decide
  · rfl
theorem canon_inj {a b : Nat} (ha : a < 18446744073709551616) (hb : b < 18446744073709551616) (h : keyW a = keyW b) : canon a = canon b := by
  cases na : isNan a <;> cases nb : isNan b
  · rw [canon_of na, canon_of nb]; have := key_num na ha; have := key_num nb hb; omega
  · have := key_num na ha; have := key_nan nb; omega
  · have := key_nan na; have := key_num nb hb; omega
  · unfold canon; rw [if_pos na, if_pos nb]
theorem rorder_law {a b : Nat} (na : isNan a = false) (nb : isNan b = false) (ha : a < 18446744073709551616) (hb : b < 18446744073709551616) (hk : keyW a ≠ keyW b) {s t : Bool} (hs : (((a / 9223372036854775808 : Nat) : Int) == 1) = s) (ht : (((b / 9223372036854775808 : Nat) : Int) == 1) = t) :
    (s = true → t = false → cmpI (keyW a : Nat) (keyW b : Nat) = -1) ∧ (s = false → t = true → cmpI (keyW a : Nat) (keyW b : Nat) = 1) ∧
    (s = t → decide ((a : Int) < (b : Int)) = s → cmpI (keyW a : Nat) (keyW b : Nat) = 1) ∧ (s = t → decide ((a : Int) < (b : Int)) ≠ s → cmpI (keyW a : Nat) (keyW b : Nat) = -1) := by
  have ka := key_num na ha
  have kb := key_num nb hb
  have e1 : cmpI (keyW a : Nat) (keyW b : Nat) = -1 ↔ keyW a < keyW b := by unfold cmpI; split <;> (try split) <;> omega
  have e2 : cmpI (keyW a : Nat) (keyW b : Nat) = 1 ↔ keyW b < keyW a := by unfold cmpI; split <;> (try split) <;> omega
  rw [e1, e2]
  have fs : s = true ↔ 9223372036854775808 ≤ a := by rw [← hs, beq_iff_eq]; omega
  have ft : t = true ↔ 9223372036854775808 ≤ b := by rw [← ht, beq_iff_eq]; omega
  have fd : ∀ c : Bool, decide ((a : Int) < (b : Int)) = c ↔ ((a < b) ↔ c = true) := fun c => by cases c <;> simp
  rw [ne_eq, fd]
  cases s <;> cases t <;> simp only [Bool.false_eq_true, false_iff, true_iff, Nat.not_le] at fs ft <;> simp <;> omega
end Go.Proofs.YtcljmclolpgdmaaGreatDoor
