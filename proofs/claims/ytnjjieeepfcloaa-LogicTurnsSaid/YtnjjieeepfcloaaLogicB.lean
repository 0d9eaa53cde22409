/- The functions of layer 4 and its reference, by the calculus. -/
import Derived.Test.YtnjjieeepfcloaaProg
import Derived.Test.YtnjjieeepfcloaaLogicM
import Derived.Test.YtnjjieeepfcloaaAny
namespace Go.Proofs.Ytnjjieeepfcloaa
open Go.RowKit Go.Bw Go.Bw.Logic
set_option linter.unusedVariables false
set_option linter.unusedSimpArgs false
theorem fa46_0LogicB (p : Addr) (w : World) : (Instr.fieldAt 46 (.pointer (some p)) 0).run Try.prog w = .ok (.pointer (some (p.add 0))) w := run_fieldAt (i := 0) (sz := 0) Try.underlying46 rfl (by kernel_rfl) p w
theorem fa46_1LogicB (p : Addr) (w : World) : (Instr.fieldAt 46 (.pointer (some p)) 1).run Try.prog w = .ok (.pointer (some (p.add 1))) w := run_fieldAt (i := 1) (sz := 0) Try.underlying46 rfl (by kernel_rfl) p w
theorem one2LogicB : One Try.prog 2 := ⟨_, Try.underlying2, rfl, by kernel_rfl⟩
theorem one3LogicB : One Try.prog 3 := ⟨_, Try.underlying3, rfl, by kernel_rfl⟩
theorem one37LogicB : One Try.prog 37 := ⟨_, Try.underlying37, rfl, by kernel_rfl⟩
theorem sz3LogicB : (Try.prog.info? 3).map (·.size) = some 1 := by kernel_rfl
theorem sz37LogicB : (Try.prog.info? 37).map (·.size) = some 1 := by kernel_rfl
theorem txt19LogicB : Txt Try.prog 19 := ⟨_, Try.func19, by kernel_rfl, rfl⟩   -- bridleway/logic.And
theorem txt22LogicB : Txt Try.prog 22 := ⟨_, Try.func22, by kernel_rfl, rfl⟩   -- bridleway/logic.Not
theorem txt27LogicB : Txt Try.prog 27 := ⟨_, Try.func27, by kernel_rfl, rfl⟩   -- bridleway/bridlewayref04.Known
theorem txt31LogicB : Txt Try.prog 31 := ⟨_, Try.func31, by kernel_rfl, rfl⟩   -- (bridleway/logic.Truth).known

def i64s (l : List Int) : List Value := l.map (Value.int .i64)
theorem i64s_length (l : List Int) : (i64s l).length = l.length := by simp [i64s]
theorem i64s_one (l : List Int) : ∀ u ∈ i64s l, u.oneCell' = true := by
  intro u hu; simp only [i64s, List.mem_map] at hu; obtain ⟨c, _, rfl⟩ := hu; rfl
theorem i64s_append (l m : List Int) : i64s (l ++ m) = i64s l ++ i64s m := by simp [i64s]
theorem i64s_take (l : List Int) (k : Nat) : (i64s l).take k = i64s (l.take k) := by simp [i64s]
theorem i64s_get (l : List Int) (k : Nat) (h : k < l.length) : (i64s l)[k]? = some (.int .i64 (l.getD k 0)) := by simp [i64s, List.getD, h]
theorem take_getD (l : List Int) (k : Nat) (h : k < l.length) : l.take (k + 1) = l.take k ++ [l.getD k 0] := by
  rw [List.take_succ_eq_append_getElem h]; simp [List.getD, h]
theorem len_of {w : World} {A : Option Addr} {n : Nat} {l : List Int} (h : Rd w 1 A n (i64s l)) : n = l.length := by have := h.1; rw [i64s_length] at this; omega
theorem getD_mem (l : List Int) (k : Nat) (h : k < l.length) : l.getD k 0 ∈ l := by simp [List.getD, h]

structure Val where
  k : Int
  n : Int
  f : Nat
  s : List UInt8
def Val.cells (v : Val) : List Value := [.int .i64 v.k, .int .i64 v.n, .float .f64 v.f, str v.s]
def Val.enc (v : Val) : Value := .agg v.cells.toArray

theorem known_r (a : Int) (w : World) : Ret Try.prog 31 [.int .i64 a] w fun v w' => v = .bool (decide (a = 0 ∨ a = 1)) ∧ w' = w := by
  refine enter Try.func31 rfl rfl rfl ?_
  refine Wc.seq fun _ hK_1 => ?_
  refine Wc.region ?_
  refine Wl.y (y_assign rfl) rfl ?_
  refine Wl.nil ?_
  refine Wq.next hK_1 ?_
  refine Wc.seq fun _ hK_3 => ?_
  refine Wc.region ?_
  refine Wl.y (y_move rfl) rfl ?_
  refine Wl.y (y_eqli rfl rfl) rfl ?_
  refine Wl.y (y_move rfl) rfl ?_
  refine Wl.guardF rfl rfl rfl (fun g_7 => ?_) (fun g_7 => ?_)
  · skip
    have g_7_ := g_7
    try simp only [decide_eq_true_eq, decide_eq_false_iff_not, beq_iff_eq, beq_eq_false_iff_ne, bne_iff_ne, bne_eq_false_iff_eq, Bool.not_eq_true', Bool.not_eq_false', Bool.not_eq_eq_eq_not, Bool.not_true, Bool.not_false, ne_eq, Int.not_lt, Int.not_le] at g_7
    refine Wl.off' rfl rfl g_7_ rfl rfl ?_
    refine Wl.y (y_pickT rfl g_7_ rfl) rfl ?_
    refine Wl.y (y_assign rfl) rfl ?_
    refine Wl.nil ?_
    refine Wq.next hK_3 ?_
    refine Wc.ret ?_
    refine ret1 rfl rfl ?_
    exact ⟨_, rfl, by simp [g_7], rfl⟩
  · skip
    have g_7_ := g_7
    try simp only [decide_eq_true_eq, decide_eq_false_iff_not, beq_iff_eq, beq_eq_false_iff_ne, bne_iff_ne, bne_eq_false_iff_eq, Bool.not_eq_true', Bool.not_eq_false', Bool.not_eq_eq_eq_not, Bool.not_true, Bool.not_false, ne_eq, Int.not_lt, Int.not_le] at g_7
    refine Wl.y (y_move rfl) rfl ?_
    refine Wl.on' rfl rfl g_7_ ?_
    refine Wl.y (y_eqli rfl rfl) rfl ?_
    refine Wl.y (y_pickF rfl g_7_ rfl) rfl ?_
    refine Wl.y (y_assign rfl) rfl ?_
    refine Wl.nil ?_
    refine Wq.next hK_3 ?_
    refine Wc.ret ?_
    refine ret1 rfl rfl ?_
    exact ⟨_, rfl, bool_eq (by rw [Bool.eq_iff_iff, beq_iff_eq]; simp [g_7]), rfl⟩

theorem Not_r (a : Int) (w : World) : Ret Try.prog 22 [.int .i64 a] w fun v w' => v = .int .i64 (notT a) ∧ w' = w := by
  refine enter Try.func22 rfl rfl rfl ?_
  refine Wc.seq fun _ hK_1 => ?_
  refine Wc.region ?_
  refine Wl.y (y_assign rfl) rfl ?_
  refine Wl.nil ?_
  refine Wq.next hK_1 ?_
  refine Wc.seq fun _ hK_3 => ?_
  refine Wc.seq fun _ hK_4 => ?_
  refine Wc.region ?_
  refine Wl.y (y_move rfl) rfl ?_
  refine Wl.call txt31LogicB rfl rfl (known_r a _) rfl ?_
  rintro _ w1 ⟨rfl, rfl⟩
  refine Wl.y (y_not rfl) rfl ?_
  refine Wl.nil ?_
  refine Wq.next hK_4 ?_
  refine Wc.cond rfl (fun c0_8 => ?_) (fun c0_8 => ?_)
  · skip
    have c0_8_ := c0_8
    try simp only [decide_eq_true_eq, decide_eq_false_iff_not, beq_iff_eq, beq_eq_false_iff_ne, bne_iff_ne, bne_eq_false_iff_eq, Bool.not_eq_true', Bool.not_eq_false', Bool.not_eq_eq_eq_not, Bool.not_true, Bool.not_false, ne_eq, Int.not_lt, Int.not_le] at c0_8
    refine Wc.seq fun _ hK_9 => ?_
    refine Wc.region ?_
    refine Wl.y (y_assign rfl) rfl ?_
    refine Wl.nil ?_
    refine Wq.next hK_9 ?_
    refine Wc.ret ?_
    refine Wq.then_ret ?_
    refine ret1 rfl rfl ?_
    exact ⟨_, rfl, by unfold notT; rw [if_neg (by simpa using c0_8)], rfl⟩
  · skip
    have c0_8_ := c0_8
    try simp only [decide_eq_true_eq, decide_eq_false_iff_not, beq_iff_eq, beq_eq_false_iff_ne, bne_iff_ne, bne_eq_false_iff_eq, Bool.not_eq_true', Bool.not_eq_false', Bool.not_eq_eq_eq_not, Bool.not_true, Bool.not_false, ne_eq, Int.not_lt, Int.not_le] at c0_8
    have hc : a = 0 ∨ a = 1 := by simpa using c0_8
    refine Wc.skip ?_
    refine Wq.next hK_3 ?_
    refine Wc.seq fun _ hK_11 => ?_
    refine Wc.region ?_
    refine Wl.y (y_move rfl) rfl ?_
    refine Wl.y (y_subI rfl rfl (by first | omega | simp; omega) (by first | omega | simp; omega)) rfl ?_
    refine Wl.y (y_assign rfl) rfl ?_
    refine Wl.nil ?_
    refine Wq.next hK_11 ?_
    refine Wc.ret ?_
    refine ret1 rfl rfl ?_
    exact ⟨_, rfl, by unfold notT; rw [if_pos hc], rfl⟩

theorem Is_r (a : Int) (w : World) : Ret Try.prog 23 [.int .i64 a] w fun v w' => v = .int .i64 (isT a) ∧ w' = w := by
  refine enter Try.func23 rfl rfl rfl ?_
  refine Wc.seq fun _ hK_1 => ?_
  refine Wc.region ?_
  refine Wl.y (y_assign rfl) rfl ?_
  refine Wl.nil ?_
  refine Wq.next hK_1 ?_
  refine Wc.seq fun _ hK_3 => ?_
  refine Wc.seq fun _ hK_4 => ?_
  refine Wc.region ?_
  refine Wl.y (y_move rfl) rfl ?_
  refine Wl.call txt31LogicB rfl rfl (known_r a _) rfl ?_
  rintro _ w1 ⟨rfl, rfl⟩
  refine Wl.nil ?_
  refine Wq.next hK_4 ?_
  refine Wc.cond rfl (fun c0_7 => ?_) (fun c0_7 => ?_)
  · skip
    have c0_7_ := c0_7
    try simp only [decide_eq_true_eq, decide_eq_false_iff_not, beq_iff_eq, beq_eq_false_iff_ne, bne_iff_ne, bne_eq_false_iff_eq, Bool.not_eq_true', Bool.not_eq_false', Bool.not_eq_eq_eq_not, Bool.not_true, Bool.not_false, ne_eq, Int.not_lt, Int.not_le] at c0_7
    refine Wc.seq fun _ hK_8 => ?_
    refine Wc.region ?_
    refine Wl.y (y_assign rfl) rfl ?_
    refine Wl.nil ?_
    refine Wq.next hK_8 ?_
    refine Wc.ret ?_
    refine Wq.then_ret ?_
    refine ret1 rfl rfl ?_
    exact ⟨_, rfl, by unfold isT; rw [if_pos (by simpa using c0_7)], rfl⟩
  · skip
    have c0_7_ := c0_7
    try simp only [decide_eq_true_eq, decide_eq_false_iff_not, beq_iff_eq, beq_eq_false_iff_ne, bne_iff_ne, bne_eq_false_iff_eq, Bool.not_eq_true', Bool.not_eq_false', Bool.not_eq_eq_eq_not, Bool.not_true, Bool.not_false, ne_eq, Int.not_lt, Int.not_le] at c0_7
    refine Wc.skip ?_
    refine Wq.next hK_3 ?_
    refine Wc.seq fun _ hK_10 => ?_
    refine Wc.region ?_
    refine Wl.y (y_assign rfl) rfl ?_
    refine Wl.nil ?_
    refine Wq.next hK_10 ?_
    refine Wc.ret ?_
    refine ret1 rfl rfl ?_
    exact ⟨_, rfl, by unfold isT; rw [if_neg (by simpa using c0_7)], rfl⟩

theorem And_r (A : Option Addr) (n c : Nat) (l : List Int) (w : World) (hl : n ≤ 35184372088832) (h : Rd w 1 A n (i64s l)) : Ret Try.prog 19 [.slice A n c] w fun v w' => v = .int .i64 (andT l) ∧ w' = w := by
  have hn := len_of h
  refine enter Try.func19 rfl rfl rfl ?_
  refine Wc.seq fun _ hK_1 => ?_
  refine Wc.region ?_
  refine Wl.y (y_assign rfl) rfl ?_
  refine Wl.nil ?_
  refine Wq.next hK_1 ?_
  refine Wc.seq fun _ hK_3 => ?_
  refine Wc.region ?_
  refine Wl.y (y_assign rfl) rfl ?_
  refine Wl.nil ?_
  refine Wq.next hK_3 ?_
  refine Wc.seq fun _ hK_5 => ?_
  refine Wc.seq fun _ hK_6 => ?_
  refine Wc.region ?_
  refine Wl.y (y_move rfl) rfl ?_
  refine Wl.y (y_lenl Try.underlying34 (by omega) rfl) rfl ?_
  refine Wl.y (y_move rfl) rfl ?_
  refine Wl.nil ?_
  refine Wq.next hK_6 ?_
  refine Wc.block ?_
  refine Wc.loop (X := Nat) (fun k => [(3, .int .i64 (andT (l.take k))), (6, .slice A n c), (7, .int .i64 (n : Int)), (8, .int .i64 (k : Int))]) (fun k wr => k ≤ n ∧ 0 ∉ l.take k ∧ wr = w) (fun k => n - k) (0) ?_ ?_ ?_
  · exact Sub.cons' rfl (by first | rfl | exact int_eq (by omega) | exact int_eq (by rw [hsn, andT_snoc _ h0 MISSING_c1]; simp_all)) (Sub.cons' rfl (by first | rfl | exact int_eq (by omega) | exact int_eq (by rw [hsn, andT_snoc _ h0 MISSING_c1]; simp_all)) (Sub.cons' rfl (by first | rfl | exact int_eq (by omega) | exact int_eq (by rw [hsn, andT_snoc _ h0 MISSING_c1]; simp_all)) (Sub.cons' rfl (by first | rfl | exact int_eq (by omega) | exact int_eq (by rw [hsn, andT_snoc _ h0 MISSING_c1]; simp_all)) (Sub.nil))))
  · exact ⟨by omega, by simp, rfl⟩
  · rintro k wr hI_11 _ hL_10
    replace hI_11 : k ≤ n ∧ 0 ∉ l.take k ∧ wr = w := hI_11
    obtain ⟨hk, h0, rfl⟩ := hI_11
    show Wc _ _ _ _ _ [(3, .int .i64 (andT (l.take k))), (6, .slice A n c), (7, .int .i64 (n : Int)), (8, .int .i64 (k : Int))] _
    refine Wc.seq fun _ hK_12 => ?_
    refine Wc.region ?_
    refine Wl.y (y_lssi rfl rfl) rfl ?_
    refine Wl.nil ?_
    refine Wq.next hK_12 ?_
    refine Wc.seq fun _ hK_14 => ?_
    refine Wc.cond rfl (fun c0_15 => ?_) (fun c0_15 => ?_)
    · skip
      have c0_15_ := c0_15
      try simp only [decide_eq_true_eq, decide_eq_false_iff_not, beq_iff_eq, beq_eq_false_iff_ne, bne_iff_ne, bne_eq_false_iff_eq, Bool.not_eq_true', Bool.not_eq_false', Bool.not_eq_eq_eq_not, Bool.not_true, Bool.not_false, ne_eq, Int.not_lt, Int.not_le] at c0_15
      refine Wc.skip ?_
      refine Wq.next hK_14 ?_
      refine Wc.seq fun _ hK_16 => ?_
      refine Wc.block ?_
      refine Wc.seq fun _ hK_17 => ?_
      obtain ⟨p, v, rfl, hv, hcell⟩ := h.one (i := k) (by omega)
      have hsn := take_getD l k (by omega)
      have hgt := i64s_get l k (by omega)
      rw [hgt] at hv
      cases hv
      refine Wc.region ?_
      refine Wl.y (y_indexAddr Try.underlying34 sz37LogicB rfl rfl (by omega) (by omega)) rfl ?_
      refine Wl.l (l_load one37LogicB rfl (at1 hcell)) rfl ?_
      refine Wl.y (y_assign rfl) rfl ?_
      refine Wl.nil ?_
      refine Wq.next hK_17 ?_
      refine Wc.block ?_
      refine Wc.seq fun _ hK_21 => ?_
      refine Wc.region ?_
      refine Wl.y (y_move rfl) rfl ?_
      refine Wl.y (y_eqli rfl rfl) rfl ?_
      refine Wl.y (y_assign rfl) rfl ?_
      refine Wl.nil ?_
      refine Wq.next hK_21 ?_
      refine Wc.cond rfl (fun c1_25 => ?_) (fun c1_25 => ?_)
      · skip
        have c1_25_ := c1_25
        try simp only [decide_eq_true_eq, decide_eq_false_iff_not, beq_iff_eq, beq_eq_false_iff_ne, bne_iff_ne, bne_eq_false_iff_eq, Bool.not_eq_true', Bool.not_eq_false', Bool.not_eq_eq_eq_not, Bool.not_true, Bool.not_false, ne_eq, Int.not_lt, Int.not_le] at c1_25
        refine Wc.seq fun _ hK_26 => ?_
        refine Wc.region ?_
        refine Wl.y (y_assign rfl) rfl ?_
        refine Wl.nil ?_
        refine Wq.next hK_26 ?_
        refine Wc.ret ?_
        refine Wq.block_ret (Wq.block_ret (Wq.then_ret (Wq.then_ret (Wq.block_ret (Wq.then_ret ?_)))))
        refine ret1 rfl rfl ?_
        exact ⟨_, rfl, by rw [(andT_zero l).2 (by rw [← c1_25]; exact getD_mem l k (by omega))], rfl⟩
      · skip
        have c1_25_ := c1_25
        try simp only [decide_eq_true_eq, decide_eq_false_iff_not, beq_iff_eq, beq_eq_false_iff_ne, bne_iff_ne, bne_eq_false_iff_eq, Bool.not_eq_true', Bool.not_eq_false', Bool.not_eq_eq_eq_not, Bool.not_true, Bool.not_false, ne_eq, Int.not_lt, Int.not_le] at c1_25
        refine Wc.seq fun _ hK_28 => ?_
        refine Wc.region ?_
        refine Wl.y (y_move rfl) rfl ?_
        refine Wl.y (y_neqi rfl rfl) rfl ?_
        refine Wl.y (y_assign rfl) rfl ?_
        refine Wl.nil ?_
        refine Wq.next hK_28 ?_
        refine Wc.cond rfl (fun c2_32 => ?_) (fun c2_32 => ?_)
        · skip
          have c2_32_ := c2_32
          try simp only [decide_eq_true_eq, decide_eq_false_iff_not, beq_iff_eq, beq_eq_false_iff_ne, bne_iff_ne, bne_eq_false_iff_eq, Bool.not_eq_true', Bool.not_eq_false', Bool.not_eq_eq_eq_not, Bool.not_true, Bool.not_false, ne_eq, Int.not_lt, Int.not_le] at c2_32
          refine Wc.region ?_
          refine Wl.y (y_assign rfl) rfl ?_
          refine Wl.nil ?_
          refine Wq.block_normal ?_
          refine Wq.block_normal ?_
          refine Wq.next hK_16 ?_
          refine Wc.region ?_
          refine Wl.y (y_addI rfl rfl (by first | omega | simp; omega) (by first | omega | simp; omega)) rfl ?_
          refine Wl.y (y_move rfl) rfl ?_
          refine Wl.nil ?_
          refine fun a_ ha_ => hL_10 _ _ (k + 1) (by first | omega | (simp; omega)) (Sub.cons' rfl (by first | rfl | exact int_eq (by omega) | exact int_eq (by rw [hsn, andT_snoc _ h0 c1_25]; simp_all)) (Sub.cons' rfl (by first | rfl | exact int_eq (by omega) | exact int_eq (by rw [hsn, andT_snoc _ h0 c1_25]; simp_all)) (Sub.cons' rfl (by first | rfl | exact int_eq (by omega) | exact int_eq (by rw [hsn, andT_snoc _ h0 c1_25]; simp_all)) (Sub.cons' rfl (by first | rfl | exact int_eq (by omega) | exact int_eq (by rw [hsn, andT_snoc _ h0 c1_25]; simp_all)) (Sub.nil))))) ?_ a_ ha_
          exact ⟨by omega, by rw [hsn, List.mem_append]; simp; exact ⟨h0, fun e => c1_25 e.symm⟩, rfl⟩
        · skip
          have c2_32_ := c2_32
          try simp only [decide_eq_true_eq, decide_eq_false_iff_not, beq_iff_eq, beq_eq_false_iff_ne, bne_iff_ne, bne_eq_false_iff_eq, Bool.not_eq_true', Bool.not_eq_false', Bool.not_eq_eq_eq_not, Bool.not_true, Bool.not_false, ne_eq, Int.not_lt, Int.not_le] at c2_32
          refine Wc.skip ?_
          refine Wq.block_normal ?_
          refine Wq.block_normal ?_
          refine Wq.next hK_16 ?_
          refine Wc.region ?_
          refine Wl.y (y_addI rfl rfl (by first | omega | simp; omega) (by first | omega | simp; omega)) rfl ?_
          refine Wl.y (y_move rfl) rfl ?_
          refine Wl.nil ?_
          refine fun a_ ha_ => hL_10 _ _ (k + 1) (by first | omega | (simp; omega)) (Sub.cons' rfl (by first | rfl | exact int_eq (by omega) | exact int_eq (by rw [hsn, andT_snoc _ h0 c1_25]; simp_all)) (Sub.cons' rfl (by first | rfl | exact int_eq (by omega) | exact int_eq (by rw [hsn, andT_snoc _ h0 c1_25]; simp_all)) (Sub.cons' rfl (by first | rfl | exact int_eq (by omega) | exact int_eq (by rw [hsn, andT_snoc _ h0 c1_25]; simp_all)) (Sub.cons' rfl (by first | rfl | exact int_eq (by omega) | exact int_eq (by rw [hsn, andT_snoc _ h0 c1_25]; simp_all)) (Sub.nil))))) ?_ a_ ha_
          exact ⟨by omega, by rw [hsn, List.mem_append]; simp; exact ⟨h0, fun e => c1_25 e.symm⟩, rfl⟩
    · skip
      have c0_15_ := c0_15
      try simp only [decide_eq_true_eq, decide_eq_false_iff_not, beq_iff_eq, beq_eq_false_iff_ne, bne_iff_ne, bne_eq_false_iff_eq, Bool.not_eq_true', Bool.not_eq_false', Bool.not_eq_eq_eq_not, Bool.not_true, Bool.not_false, ne_eq, Int.not_lt, Int.not_le] at c0_15
      refine Wc.exit ?_
      refine Wq.then_exit ?_
      refine Wq.then_exit ?_
      refine Wq.block_exit ?_
      refine Wq.next hK_5 ?_
      refine Wc.seq fun _ hK_38 => ?_
      refine Wc.region ?_
      refine Wl.y (y_move rfl) rfl ?_
      refine Wl.y (y_assign rfl) rfl ?_
      refine Wl.nil ?_
      refine Wq.next hK_38 ?_
      refine Wc.ret ?_
      refine ret1 rfl rfl ?_
      exact ⟨_, rfl, by rw [List.take_of_length_le (by omega)], rfl⟩


theorem i64s_replicate (n : Nat) : (madeCells (Value.int .i64 0).cells (n * 1)).toList = i64s (List.replicate n 0) := by
  rw [Nat.mul_one]
  show (madeCells #[Value.int .i64 0] n).toList = _
  rw [toList_madeCells_one]; simp [i64s]
theorem i64s_set (l : List Int) (k : Nat) (x : Int) : (i64s l).set k (.int .i64 x) = i64s (l.set k x) := by simp [i64s, List.map_set]
theorem set_step (l : List Int) (k n : Nat) (h : k < l.length) (hn : n = l.length) : ((l.take k).map notT ++ List.replicate (n - k) 0).set k (notT (l.getD k 0)) = (l.take (k + 1)).map notT ++ List.replicate (n - (k + 1)) 0 := by
  have h1 : ((l.take k).map notT).length = k := by simp; omega
  rw [List.set_append, if_neg (by omega), h1, Nat.sub_self, take_getD l k h, List.map_append]
  obtain ⟨m, hm⟩ : ∃ m, n - k = m + 1 := ⟨n - k - 1, by omega⟩
  rw [hm, List.replicate_succ, List.set_cons_zero, show n - (k + 1) = m by omega]
  simp

theorem Or_r (A : Option Addr) (n c : Nat) (l : List Int) (w : World) (hl : n ≤ 17592186044416) (h : Rd w 1 A n (i64s l)) : Ret Try.prog 20 [.slice A n c] w fun v w' => v = .int .i64 (orT l) ∧ Below w.heap.size w w' := by
  have hn := len_of h
  refine enter Try.func20 rfl rfl rfl ?_
  refine Wc.seq fun _ hK_1 => ?_
  refine Wc.region ?_
  refine Wl.y (y_assign rfl) rfl ?_
  refine Wl.nil ?_
  refine Wq.next hK_1 ?_
  refine Wc.seq fun _ hK_3 => ?_
  refine Wc.region ?_
  refine Wl.y (y_move rfl) rfl ?_
  refine Wl.y (y_lenl Try.underlying34 (by omega) rfl) rfl ?_
  refine Wl.make (z := (.int .i64 0)) (sz := 1) (bytes := 8) Try.underlying34 (by kernel_rfl) w.heap.size rfl rfl (by omega) (by simp only [maxLen]; omega) (Nat.le_refl _) rfl ?_
  rintro w1 ho1 hg1
  rw [i64s_replicate] at ho1
  have hb1 : Below w.heap.size w w1 := (Below.refl _ _).grown hg1 (Nat.le_refl _) (fun k hk => by cases hk)
  refine Wl.y (y_assign rfl) rfl ?_
  refine Wl.nil ?_
  refine Wq.next hK_3 ?_
  refine Wc.seq fun _ hK_8 => ?_
  refine Wc.seq fun _ hK_9 => ?_
  refine Wc.region ?_
  refine Wl.y (y_move rfl) rfl ?_
  refine Wl.y (y_lenl Try.underlying34 (by omega) rfl) rfl ?_
  refine Wl.y (y_move rfl) rfl ?_
  refine Wl.nil ?_
  refine Wq.next hK_9 ?_
  refine Wc.block ?_
  refine Wc.loop (X := Nat) (fun k => [(3, .slice (some ⟨w.heap.size, 0, none⟩) n n), (9, .slice A n c), (10, .int .i64 (n : Int)), (11, .int .i64 (k : Int))]) (fun k wr => k ≤ n ∧ wr.ownsRow w.heap.size 37 1 (.slice (some ⟨w.heap.size, 0, none⟩) n n) n (i64s ((l.take k).map notT ++ List.replicate (n - k) 0)) ∧ Below w.heap.size w wr) (fun k => n - k) (0) ?_ ?_ ?_
  · exact Sub.cons' rfl (by first | rfl | exact int_eq (by omega) | exact int_eq (by simp) | (simp; done)) (Sub.cons' rfl (by first | rfl | exact int_eq (by omega) | exact int_eq (by simp) | (simp; done)) (Sub.cons' rfl (by first | rfl | exact int_eq (by omega) | exact int_eq (by simp) | (simp; done)) (Sub.cons' rfl (by first | rfl | exact int_eq (by omega) | exact int_eq (by simp) | (simp; done)) (Sub.nil))))
  · exact ⟨by omega, by simpa using ho1, hb1⟩
  · rintro k wr hI_14 _ hL_13
    replace hI_14 : k ≤ n ∧ wr.ownsRow w.heap.size 37 1 (.slice (some ⟨w.heap.size, 0, none⟩) n n) n (i64s ((l.take k).map notT ++ List.replicate (n - k) 0)) ∧ Below w.heap.size w wr := hI_14
    obtain ⟨hk, ho, hb⟩ := hI_14
    show Wc _ _ _ _ _ [(3, .slice (some ⟨w.heap.size, 0, none⟩) n n), (9, .slice A n c), (10, .int .i64 (n : Int)), (11, .int .i64 (k : Int))] _
    refine Wc.seq fun _ hK_15 => ?_
    refine Wc.region ?_
    refine Wl.y (y_lssi rfl rfl) rfl ?_
    refine Wl.nil ?_
    refine Wq.next hK_15 ?_
    refine Wc.seq fun _ hK_17 => ?_
    refine Wc.cond rfl (fun c0_18 => ?_) (fun c0_18 => ?_)
    · skip
      have c0_18_ := c0_18
      try simp only [decide_eq_true_eq, decide_eq_false_iff_not, beq_iff_eq, beq_eq_false_iff_ne, bne_iff_ne, bne_eq_false_iff_eq, Bool.not_eq_true', Bool.not_eq_false', Bool.not_eq_eq_eq_not, Bool.not_true, Bool.not_false, ne_eq, Int.not_lt, Int.not_le] at c0_18
      refine Wc.skip ?_
      refine Wq.next hK_17 ?_
      refine Wc.seq fun _ hK_19 => ?_
      refine Wc.block ?_
      refine Wc.seq fun _ hK_20 => ?_
      obtain ⟨p, v, rfl, hv, hcell⟩ := h.one (i := k) (by omega)
      have hgt := i64s_get l k (by omega)
      rw [hgt] at hv
      cases hv
      have hcell' := cell_below hb hcell
      refine Wc.region ?_
      refine Wl.y (y_move rfl) rfl ?_
      refine Wl.y (y_indexAddr Try.underlying34 sz37LogicB rfl rfl (by omega) (by omega)) rfl ?_
      refine Wl.l (l_load one37LogicB rfl (at1 hcell')) rfl ?_
      refine Wl.y (y_assign rfl) rfl ?_
      refine Wl.y (y_assign rfl) rfl ?_
      refine Wl.nil ?_
      refine Wq.next hK_20 ?_
      refine Wc.region ?_
      refine Wl.y (y_move rfl) rfl ?_
      refine Wl.y (y_move rfl) rfl ?_
      refine Wl.y (y_move rfl) rfl ?_
      refine Wl.call txt22LogicB rfl rfl (Not_r _ _) rfl ?_
      rintro _ w2 ⟨rfl, rfl⟩
      refine Wl.y (y_indexAddr Try.underlying34 sz37LogicB rfl rfl (by omega) (by omega)) rfl ?_
      refine Wl.storeOwn one37LogicB rfl rfl rfl ho (by rw [i64s_length]; simp; omega) ?_
      rintro w3 ho2 hg2
      refine Wl.nil ?_
      refine Wq.block_normal ?_
      refine Wq.next hK_19 ?_
      refine Wc.region ?_
      rw [Int.toNat_natCast, Nat.mul_one, i64s_set, set_step l k n (by omega) hn] at ho2
      have hb2 := hb.grown hg2 hb.size (fun j hj => by cases hj; exact Nat.le_refl _)
      refine Wl.y (y_addI rfl rfl (by first | omega | simp; omega) (by first | omega | simp; omega)) rfl ?_
      refine Wl.y (y_move rfl) rfl ?_
      refine Wl.nil ?_
      refine fun a_ ha_ => hL_13 _ _ (k + 1) (by first | omega | (simp; omega)) (Sub.cons' rfl (by first | rfl | exact int_eq (by omega) | exact int_eq (by simp) | (simp; done)) (Sub.cons' rfl (by first | rfl | exact int_eq (by omega) | exact int_eq (by simp) | (simp; done)) (Sub.cons' rfl (by first | rfl | exact int_eq (by omega) | exact int_eq (by simp) | (simp; done)) (Sub.cons' rfl (by first | rfl | exact int_eq (by omega) | exact int_eq (by simp) | (simp; done)) (Sub.nil))))) ?_ a_ ha_
      exact ⟨by omega, ho2, hb2⟩
    · skip
      have c0_18_ := c0_18
      try simp only [decide_eq_true_eq, decide_eq_false_iff_not, beq_iff_eq, beq_eq_false_iff_ne, bne_iff_ne, bne_eq_false_iff_eq, Bool.not_eq_true', Bool.not_eq_false', Bool.not_eq_eq_eq_not, Bool.not_true, Bool.not_false, ne_eq, Int.not_lt, Int.not_le] at c0_18
      refine Wc.exit ?_
      refine Wq.then_exit ?_
      refine Wq.then_exit ?_
      refine Wq.block_exit ?_
      refine Wq.next hK_8 ?_
      refine Wc.seq fun _ hK_33 => ?_
      refine Wc.region ?_
      refine Wl.y (y_move rfl) rfl ?_
      have ho' : wr.ownsRow w.heap.size 37 1 (.slice (some ⟨w.heap.size, 0, none⟩) n n) n (i64s (l.map notT)) := by
        have e1 : l.take k = l := List.take_of_length_le (by omega)
        have e2 : n - k = 0 := by omega
        rw [e1, e2] at ho; simpa using ho
      refine Wl.call txt19LogicB rfl rfl (And_r _ _ _ (l.map notT) _ (by omega) (Rd.of_own ho')) rfl ?_
      rintro _ w4 ⟨rfl, rfl⟩
      refine Wl.call txt22LogicB rfl rfl (Not_r _ _) rfl ?_
      rintro _ w5 ⟨rfl, rfl⟩
      refine Wl.y (y_assign rfl) rfl ?_
      refine Wl.nil ?_
      refine Wq.next hK_33 ?_
      refine Wc.ret ?_
      refine ret1 rfl rfl ?_
      exact ⟨_, rfl, rfl, hb⟩

def ofV (v : Val) : Value := .tuple #[.int .i64 (ofT v.k v.n).1, .int .i64 (ofT v.k v.n).2]
theorem Of_r (v : Val) (w : World) : Ret Try.prog 24 [v.enc] w fun u w' => u = ofV v ∧ Below w.heap.size w w' := by
  have hB := Blk.new w 46 v.cells
  refine enter Try.func24 rfl rfl rfl ?_
  refine Wc.seq fun _ hK_1 => ?_
  refine Wc.region ?_
  refine Wl.m (m_box rfl) rfl ?_
  refine Wl.y (y_assign rfl) rfl ?_
  refine Wl.y (y_assign rfl) rfl ?_
  refine Wl.nil ?_
  refine Wq.next hK_1 ?_
  refine Wc.seq fun _ hK_5 => ?_
  refine Wc.block ?_
  refine Wc.seq fun _ hK_6 => ?_
  refine Wc.region ?_
  refine Wl.y (y_fieldAddr (fa46_0LogicB _) rfl) rfl ?_
  refine Wl.l (l_load one3LogicB rfl (hB.at rfl)) rfl ?_
  refine Wl.y (y_eqli rfl rfl) rfl ?_
  refine Wl.y (y_assign rfl) rfl ?_
  refine Wl.nil ?_
  refine Wq.next hK_6 ?_
  refine Wc.cond rfl (fun c0_11 => ?_) (fun c0_11 => ?_)
  · skip
    have c0_11_ := c0_11
    try simp only [decide_eq_true_eq, decide_eq_false_iff_not, beq_iff_eq, beq_eq_false_iff_ne, bne_iff_ne, bne_eq_false_iff_eq, Bool.not_eq_true', Bool.not_eq_false', Bool.not_eq_eq_eq_not, Bool.not_true, Bool.not_false, ne_eq, Int.not_lt, Int.not_le] at c0_11
    refine Wc.seq fun _ hK_12 => ?_
    refine Wc.region ?_
    refine Wl.y (y_assign rfl) rfl ?_
    refine Wl.y (y_assign rfl) rfl ?_
    refine Wl.nil ?_
    refine Wq.next hK_12 ?_
    refine Wc.ret ?_
    refine Wq.block_ret (Wq.then_ret ?_)
    refine ret2 rfl rfl rfl ?_
    exact ⟨_, rfl, by simp [ofV, ofT, c0_11], (Below.refl _ _).alloc (Nat.le_refl _) _⟩
  · skip
    have c0_11_ := c0_11
    try simp only [decide_eq_true_eq, decide_eq_false_iff_not, beq_iff_eq, beq_eq_false_iff_ne, bne_iff_ne, bne_eq_false_iff_eq, Bool.not_eq_true', Bool.not_eq_false', Bool.not_eq_eq_eq_not, Bool.not_true, Bool.not_false, ne_eq, Int.not_lt, Int.not_le] at c0_11
    refine Wc.seq fun _ hK_15 => ?_
    refine Wc.region ?_
    refine Wl.y (y_fieldAddr (fa46_0LogicB _) rfl) rfl ?_
    refine Wl.l (l_load one3LogicB rfl (hB.at rfl)) rfl ?_
    refine Wl.y (y_eqli rfl rfl) rfl ?_
    refine Wl.y (y_move rfl) rfl ?_
    refine Wl.guardT rfl rfl rfl (fun g_20 => ?_) (fun g_20 => ?_)
    · skip
      have g_20_ := g_20
      try simp only [decide_eq_true_eq, decide_eq_false_iff_not, beq_iff_eq, beq_eq_false_iff_ne, bne_iff_ne, bne_eq_false_iff_eq, Bool.not_eq_true', Bool.not_eq_false', Bool.not_eq_eq_eq_not, Bool.not_true, Bool.not_false, ne_eq, Int.not_lt, Int.not_le] at g_20
      refine Wl.y (y_fieldAddr (fa46_1LogicB _) rfl) rfl ?_
      refine Wl.on' rfl rfl g_20_ ?_
      refine Wl.l (l_load one2LogicB rfl (hB.at rfl)) rfl ?_
      refine Wl.on' rfl rfl g_20_ ?_
      refine Wl.y (y_eqli rfl rfl) rfl ?_
      refine Wl.on' rfl rfl g_20_ ?_
      refine Wl.y (y_move rfl) rfl ?_
      refine Wl.guardF rfl rfl rfl (fun g_25 => ?_) (fun g_25 => ?_)
      · skip
        have g_25_ := g_25
        try simp only [decide_eq_true_eq, decide_eq_false_iff_not, beq_iff_eq, beq_eq_false_iff_ne, bne_iff_ne, bne_eq_false_iff_eq, Bool.not_eq_true', Bool.not_eq_false', Bool.not_eq_eq_eq_not, Bool.not_true, Bool.not_false, ne_eq, Int.not_lt, Int.not_le] at g_25
        refine Wl.off' rfl rfl g_25_ rfl rfl ?_
        refine Wl.off' rfl rfl g_25_ rfl rfl ?_
        refine Wl.on' rfl rfl g_20_ ?_
        refine Wl.y (y_pickT rfl g_25_ rfl) rfl ?_
        refine Wl.y (y_pickT rfl g_20_ rfl) rfl ?_
        refine Wl.y (y_assign rfl) rfl ?_
        refine Wl.nil ?_
        refine Wq.next hK_15 ?_
        refine Wc.condT rfl rfl ?_
        refine Wc.seq fun _ hK_29 => ?_
        refine Wc.region ?_
        refine Wl.y (y_fieldAddr (fa46_1LogicB _) rfl) rfl ?_
        refine Wl.l (l_load one2LogicB rfl (hB.at rfl)) rfl ?_
        refine Wl.y (y_assign rfl) rfl ?_
        refine Wl.y (y_assign rfl) rfl ?_
        refine Wl.nil ?_
        refine Wq.next hK_29 ?_
        refine Wc.ret ?_
        refine Wq.block_ret (Wq.then_ret ?_)
        refine ret2 rfl rfl rfl ?_
        exact ⟨_, rfl, by simp [ofV, ofT, g_20, g_25], (Below.refl _ _).alloc (Nat.le_refl _) _⟩
      · skip
        have g_25_ := g_25
        try simp only [decide_eq_true_eq, decide_eq_false_iff_not, beq_iff_eq, beq_eq_false_iff_ne, bne_iff_ne, bne_eq_false_iff_eq, Bool.not_eq_true', Bool.not_eq_false', Bool.not_eq_eq_eq_not, Bool.not_true, Bool.not_false, ne_eq, Int.not_lt, Int.not_le] at g_25
        refine Wl.y (y_fieldAddr (fa46_1LogicB _) rfl) rfl ?_
        refine Wl.on' rfl rfl g_25_ ?_
        refine Wl.l (l_load one2LogicB rfl (hB.at rfl)) rfl ?_
        refine Wl.on' rfl rfl g_25_ ?_
        refine Wl.y (y_eqli rfl rfl) rfl ?_
        refine Wl.on' rfl rfl g_20_ ?_
        refine Wl.y (y_pickF rfl g_25_ rfl) rfl ?_
        refine Wl.y (y_pickT rfl g_20_ rfl) rfl ?_
        refine Wl.y (y_assign rfl) rfl ?_
        refine Wl.nil ?_
        refine Wq.next hK_15 ?_
        refine Wc.cond rfl (fun c1_40 => ?_) (fun c1_40 => ?_)
        · skip
          have c1_40_ := c1_40
          try simp only [decide_eq_true_eq, decide_eq_false_iff_not, beq_iff_eq, beq_eq_false_iff_ne, bne_iff_ne, bne_eq_false_iff_eq, Bool.not_eq_true', Bool.not_eq_false', Bool.not_eq_eq_eq_not, Bool.not_true, Bool.not_false, ne_eq, Int.not_lt, Int.not_le] at c1_40
          refine Wc.seq fun _ hK_41 => ?_
          refine Wc.region ?_
          refine Wl.y (y_fieldAddr (fa46_1LogicB _) rfl) rfl ?_
          refine Wl.l (l_load one2LogicB rfl (hB.at rfl)) rfl ?_
          refine Wl.y (y_assign rfl) rfl ?_
          refine Wl.y (y_assign rfl) rfl ?_
          refine Wl.nil ?_
          refine Wq.next hK_41 ?_
          refine Wc.ret ?_
          refine Wq.block_ret (Wq.then_ret ?_)
          refine ret2 rfl rfl rfl ?_
          exact ⟨_, rfl, by simp [ofV, ofT, g_20, c1_40], (Below.refl _ _).alloc (Nat.le_refl _) _⟩
        · skip
          have c1_40_ := c1_40
          try simp only [decide_eq_true_eq, decide_eq_false_iff_not, beq_iff_eq, beq_eq_false_iff_ne, bne_iff_ne, bne_eq_false_iff_eq, Bool.not_eq_true', Bool.not_eq_false', Bool.not_eq_eq_eq_not, Bool.not_true, Bool.not_false, ne_eq, Int.not_lt, Int.not_le] at c1_40
          refine Wc.skip ?_
          refine Wq.block_normal ?_
          refine Wq.next hK_5 ?_
          refine Wc.seq fun _ hK_46 => ?_
          refine Wc.region ?_
          refine Wl.y (y_assign rfl) rfl ?_
          refine Wl.y (y_assign rfl) rfl ?_
          refine Wl.nil ?_
          refine Wq.next hK_46 ?_
          refine Wc.ret ?_
          refine ret2 rfl rfl rfl ?_
          exact ⟨_, rfl, by simp [ofV, ofT, g_20, g_25, c1_40], (Below.refl _ _).alloc (Nat.le_refl _) _⟩
    · skip
      have g_20_ := g_20
      try simp only [decide_eq_true_eq, decide_eq_false_iff_not, beq_iff_eq, beq_eq_false_iff_ne, bne_iff_ne, bne_eq_false_iff_eq, Bool.not_eq_true', Bool.not_eq_false', Bool.not_eq_eq_eq_not, Bool.not_true, Bool.not_false, ne_eq, Int.not_lt, Int.not_le] at g_20
      refine Wl.off' rfl rfl g_20_ rfl rfl ?_
      refine Wl.off' rfl rfl g_20_ rfl rfl ?_
      refine Wl.off' rfl rfl g_20_ rfl rfl ?_
      refine Wl.offU rfl rfl rfl ?_
      refine Wl.offU rfl rfl rfl ?_
      refine Wl.offU rfl rfl rfl ?_
      refine Wl.off' rfl rfl g_20_ rfl rfl ?_
      refine Wl.y (y_pickF rfl g_20_ rfl) rfl ?_
      refine Wl.y (y_assign rfl) rfl ?_
      refine Wl.nil ?_
      refine Wq.next hK_15 ?_
      refine Wc.condF rfl rfl ?_
      refine Wc.skip ?_
      refine Wq.block_normal ?_
      refine Wq.next hK_5 ?_
      refine Wc.seq fun _ hK_51 => ?_
      refine Wc.region ?_
      refine Wl.y (y_assign rfl) rfl ?_
      refine Wl.y (y_assign rfl) rfl ?_
      refine Wl.nil ?_
      refine Wq.next hK_51 ?_
      refine Wc.ret ?_
      refine ret2 rfl rfl rfl ?_
      exact ⟨_, rfl, by simp [ofV, ofT, g_20, c0_11], (Below.refl _ _).alloc (Nat.le_refl _) _⟩

def valV (a : Int) : Val := if a = 0 ∨ a = 1 then ⟨1, a, 0, []⟩ else ⟨0, 0, 0, []⟩
theorem Value_r (a : Int) (w : World) : Ret Try.prog 25 [.int .i64 a] w fun v w' => v = (valV a).enc ∧ Below w.heap.size w w' := by
  have hb := Below.refl w.heap.size w
  refine enter Try.func25 rfl rfl rfl ?_
  refine Wc.seq fun _ hK_1 => ?_
  refine Wc.region ?_
  refine Wl.allocN (z := (.agg #[(.int .i64 0), (.int .i64 0), (.float .f64 0), (str [])])) (by kernel_rfl) rfl ?_
  rintro g_o0 w_o0 hg_o0 hn_o0 hs_o0
  have hz_o0 := hs_o0.size
  have hb := hb.trans (hs_o0.mono hb.size)
  have hB_o0 := hn_o0
  have hl_o0 := hB_o0.lt
  refine Wl.nil ?_
  refine Wq.next hK_1 ?_
  refine Wc.seq fun _ hK_3 => ?_
  refine Wc.seq fun _ hK_4 => ?_
  refine Wc.region ?_
  refine Wl.y (y_move rfl) rfl ?_
  refine Wl.call txt31LogicB rfl rfl (known_r a _) rfl ?_
  rintro _ _ ⟨rfl, rfl⟩
  refine Wl.y (y_not rfl) rfl ?_
  refine Wl.nil ?_
  refine Wq.next hK_4 ?_
  refine Wc.cond rfl (fun c0_8 => ?_) (fun c0_8 => ?_)
  · skip
    have c0_8_ := c0_8
    try simp only [decide_eq_true_eq, decide_eq_false_iff_not, beq_iff_eq, beq_eq_false_iff_ne, bne_iff_ne, bne_eq_false_iff_eq, Bool.not_eq_true', Bool.not_eq_false', Bool.not_eq_eq_eq_not, Bool.not_true, Bool.not_false, ne_eq, Int.not_lt, Int.not_le] at c0_8
    refine Wc.seq fun _ hK_9 => ?_
    refine Wc.region ?_
    refine Wl.y (y_buildS (z := [(.int .i64 0), (.int .i64 0), (.float .f64 0), (str [])]) (pl := [(0, 1), (1, 1), (2, 1), (3, 1)]) (cs := [_, _, _, _]) Try.underlying46 (by kernel_rfl) (by kernel_rfl) rfl rfl rfl) rfl ?_
    refine Wl.storeS (by kernel_rfl) rfl rfl hB_o0 rfl rfl ?_
    rintro w_s0 hn_s0 hg_s0
    have hz_s0 := hg_s0.size
    have hb := below_blk hb hg_s0 hb.size (by omega)
    have hB_o0 := hn_s0
    refine Wl.nil ?_
    refine Wq.next hK_9 ?_
    refine Wc.ret ?_
    refine Wq.then_ret ?_
    refine retN (rs := [.cell 2 46]) (vs := [_]) rfl (.cell rfl (loadS Try.underlying46 (by kernel_rfl) (fun j u hu => hB_o0.at hu)) .nil) ?_
    exact ⟨_, rfl, by unfold valV; rw [if_neg (by simpa using c0_8)]; rfl, hb⟩
  · skip
    have c0_8_ := c0_8
    try simp only [decide_eq_true_eq, decide_eq_false_iff_not, beq_iff_eq, beq_eq_false_iff_ne, bne_iff_ne, bne_eq_false_iff_eq, Bool.not_eq_true', Bool.not_eq_false', Bool.not_eq_eq_eq_not, Bool.not_true, Bool.not_false, ne_eq, Int.not_lt, Int.not_le] at c0_8
    refine Wc.skip ?_
    refine Wq.next hK_3 ?_
    refine Wc.seq fun _ hK_11 => ?_
    refine Wc.region ?_
    refine Wl.y (y_move rfl) rfl ?_
    refine Wl.y (y_buildS (z := [(.int .i64 0), (.int .i64 0), (.float .f64 0), (str [])]) (pl := [(0, 1), (1, 1), (2, 1), (3, 1)]) (cs := [_, _, _, _]) Try.underlying46 (by kernel_rfl) (by kernel_rfl) rfl rfl rfl) rfl ?_
    refine Wl.storeS (by kernel_rfl) rfl rfl hB_o0 rfl rfl ?_
    rintro w_s1 hn_s1 hg_s1
    have hz_s1 := hg_s1.size
    have hb := below_blk hb hg_s1 hb.size (by omega)
    have hB_o0 := hn_s1
    refine Wl.nil ?_
    refine Wq.next hK_11 ?_
    refine Wc.ret ?_
    refine retN (rs := [.cell 2 46]) (vs := [_]) rfl (.cell rfl (loadS Try.underlying46 (by kernel_rfl) (fun j u hu => hB_o0.at hu)) .nil) ?_
    exact ⟨_, rfl, by unfold valV; rw [if_pos (by simpa using c0_8)]; rfl, hb⟩

theorem Known_r (a : Int) (w : World) : Ret Try.prog 27 [.int .i64 a] w fun v w' => v = .bool (decide (a = 0 ∨ a = 1)) ∧ w' = w := by
  refine enter Try.func27 rfl rfl rfl ?_
  refine Wc.seq fun _ hK_1 => ?_
  refine Wc.region ?_
  refine Wl.y (y_assign rfl) rfl ?_
  refine Wl.nil ?_
  refine Wq.next hK_1 ?_
  refine Wc.seq fun _ hK_3 => ?_
  refine Wc.region ?_
  refine Wl.y (y_move rfl) rfl ?_
  refine Wl.y (y_eqli rfl rfl) rfl ?_
  refine Wl.y (y_move rfl) rfl ?_
  refine Wl.guardF rfl rfl rfl (fun g_7 => ?_) (fun g_7 => ?_)
  · skip
    have g_7_ := g_7
    try simp only [decide_eq_true_eq, decide_eq_false_iff_not, beq_iff_eq, beq_eq_false_iff_ne, bne_iff_ne, bne_eq_false_iff_eq, Bool.not_eq_true', Bool.not_eq_false', Bool.not_eq_eq_eq_not, Bool.not_true, Bool.not_false, ne_eq, Int.not_lt, Int.not_le] at g_7
    refine Wl.off' rfl rfl g_7_ rfl rfl ?_
    refine Wl.y (y_pickT rfl g_7_ rfl) rfl ?_
    refine Wl.y (y_assign rfl) rfl ?_
    refine Wl.nil ?_
    refine Wq.next hK_3 ?_
    refine Wc.ret ?_
    refine ret1 rfl rfl ?_
    exact ⟨_, rfl, by simp [g_7], rfl⟩
  · skip
    have g_7_ := g_7
    try simp only [decide_eq_true_eq, decide_eq_false_iff_not, beq_iff_eq, beq_eq_false_iff_ne, bne_iff_ne, bne_eq_false_iff_eq, Bool.not_eq_true', Bool.not_eq_false', Bool.not_eq_eq_eq_not, Bool.not_true, Bool.not_false, ne_eq, Int.not_lt, Int.not_le] at g_7
    refine Wl.y (y_move rfl) rfl ?_
    refine Wl.on' rfl rfl g_7_ ?_
    refine Wl.y (y_eqli rfl rfl) rfl ?_
    refine Wl.y (y_pickF rfl g_7_ rfl) rfl ?_
    refine Wl.y (y_assign rfl) rfl ?_
    refine Wl.nil ?_
    refine Wq.next hK_3 ?_
    refine Wc.ret ?_
    refine ret1 rfl rfl ?_
    exact ⟨_, rfl, bool_eq (by rw [Bool.eq_iff_iff, beq_iff_eq]; simp [g_7]), rfl⟩

theorem RNot_r (a : Int) (w : World) : Ret Try.prog 29 [.int .i64 a] w fun v w' => v = .int .i64 (notT a) ∧ w' = w := by
  refine enter Try.func29 rfl rfl rfl ?_
  refine Wc.seq fun _ hK_1 => ?_
  refine Wc.region ?_
  refine Wl.y (y_assign rfl) rfl ?_
  refine Wl.nil ?_
  refine Wq.next hK_1 ?_
  refine Wc.seq fun _ hK_3 => ?_
  refine Wc.seq fun _ hK_4 => ?_
  refine Wc.region ?_
  refine Wl.y (y_move rfl) rfl ?_
  refine Wl.call txt27LogicB rfl rfl (Known_r a _) rfl ?_
  rintro _ w1 ⟨rfl, rfl⟩
  refine Wl.nil ?_
  refine Wq.next hK_4 ?_
  refine Wc.cond rfl (fun c0_7 => ?_) (fun c0_7 => ?_)
  · skip
    have c0_7_ := c0_7
    try simp only [decide_eq_true_eq, decide_eq_false_iff_not, beq_iff_eq, beq_eq_false_iff_ne, bne_iff_ne, bne_eq_false_iff_eq, Bool.not_eq_true', Bool.not_eq_false', Bool.not_eq_eq_eq_not, Bool.not_true, Bool.not_false, ne_eq, Int.not_lt, Int.not_le] at c0_7
    have hc : a = 0 ∨ a = 1 := by simpa using c0_7
    refine Wc.seq fun _ hK_8 => ?_
    refine Wc.region ?_
    refine Wl.y (y_move rfl) rfl ?_
    refine Wl.y (y_subI rfl rfl (by first | omega | simp; omega) (by first | omega | simp; omega)) rfl ?_
    refine Wl.y (y_assign rfl) rfl ?_
    refine Wl.nil ?_
    refine Wq.next hK_8 ?_
    refine Wc.ret ?_
    refine Wq.then_ret ?_
    refine ret1 rfl rfl ?_
    exact ⟨_, rfl, by unfold notT; rw [if_pos hc], rfl⟩
  · skip
    have c0_7_ := c0_7
    try simp only [decide_eq_true_eq, decide_eq_false_iff_not, beq_iff_eq, beq_eq_false_iff_ne, bne_iff_ne, bne_eq_false_iff_eq, Bool.not_eq_true', Bool.not_eq_false', Bool.not_eq_eq_eq_not, Bool.not_true, Bool.not_false, ne_eq, Int.not_lt, Int.not_le] at c0_7
    refine Wc.skip ?_
    refine Wq.next hK_3 ?_
    refine Wc.seq fun _ hK_12 => ?_
    refine Wc.region ?_
    refine Wl.y (y_assign rfl) rfl ?_
    refine Wl.nil ?_
    refine Wq.next hK_12 ?_
    refine Wc.ret ?_
    refine ret1 rfl rfl ?_
    exact ⟨_, rfl, by unfold notT; rw [if_neg (by simpa using c0_7)], rfl⟩

theorem ROf_r (v : Val) (w : World) : Ret Try.prog 26 [v.enc] w fun u w' => u = ofV v ∧ Below w.heap.size w w' := by
  have hB := Blk.new w 46 v.cells
  refine enter Try.func26 rfl rfl rfl ?_
  refine Wc.seq fun _ hK_1 => ?_
  refine Wc.region ?_
  refine Wl.m (m_box rfl) rfl ?_
  refine Wl.y (y_assign rfl) rfl ?_
  refine Wl.y (y_assign rfl) rfl ?_
  refine Wl.nil ?_
  refine Wq.next hK_1 ?_
  refine Wc.seq fun _ hK_5 => ?_
  refine Wc.seq fun _ hK_6 => ?_
  refine Wc.region ?_
  refine Wl.y (y_fieldAddr (fa46_0LogicB _) rfl) rfl ?_
  refine Wl.l (l_load one3LogicB rfl (hB.at rfl)) rfl ?_
  refine Wl.y (y_eqli rfl rfl) rfl ?_
  refine Wl.nil ?_
  refine Wq.next hK_6 ?_
  refine Wc.cond rfl (fun c0_10 => ?_) (fun c0_10 => ?_)
  · skip
    have c0_10_ := c0_10
    try simp only [decide_eq_true_eq, decide_eq_false_iff_not, beq_iff_eq, beq_eq_false_iff_ne, bne_iff_ne, bne_eq_false_iff_eq, Bool.not_eq_true', Bool.not_eq_false', Bool.not_eq_eq_eq_not, Bool.not_true, Bool.not_false, ne_eq, Int.not_lt, Int.not_le] at c0_10
    refine Wc.seq fun _ hK_11 => ?_
    refine Wc.region ?_
    refine Wl.y (y_assign rfl) rfl ?_
    refine Wl.y (y_assign rfl) rfl ?_
    refine Wl.nil ?_
    refine Wq.next hK_11 ?_
    refine Wc.ret ?_
    refine Wq.then_ret ?_
    refine ret2 rfl rfl rfl ?_
    exact ⟨_, rfl, by simp [ofV, ofT, c0_10], (Below.refl _ _).alloc (Nat.le_refl _) _⟩
  · skip
    have c0_10_ := c0_10
    try simp only [decide_eq_true_eq, decide_eq_false_iff_not, beq_iff_eq, beq_eq_false_iff_ne, bne_iff_ne, bne_eq_false_iff_eq, Bool.not_eq_true', Bool.not_eq_false', Bool.not_eq_eq_eq_not, Bool.not_true, Bool.not_false, ne_eq, Int.not_lt, Int.not_le] at c0_10
    refine Wc.skip ?_
    refine Wq.next hK_5 ?_
    refine Wc.seq fun _ hK_14 => ?_
    refine Wc.seq fun _ hK_15 => ?_
    refine Wc.region ?_
    refine Wl.y (y_fieldAddr (fa46_0LogicB _) rfl) rfl ?_
    refine Wl.l (l_load one3LogicB rfl (hB.at rfl)) rfl ?_
    refine Wl.y (y_eqli rfl rfl) rfl ?_
    refine Wl.y (y_move rfl) rfl ?_
    refine Wl.guardT rfl rfl rfl (fun g_20 => ?_) (fun g_20 => ?_)
    · skip
      have g_20_ := g_20
      try simp only [decide_eq_true_eq, decide_eq_false_iff_not, beq_iff_eq, beq_eq_false_iff_ne, bne_iff_ne, bne_eq_false_iff_eq, Bool.not_eq_true', Bool.not_eq_false', Bool.not_eq_eq_eq_not, Bool.not_true, Bool.not_false, ne_eq, Int.not_lt, Int.not_le] at g_20
      refine Wl.y (y_fieldAddr (fa46_1LogicB _) rfl) rfl ?_
      refine Wl.on' rfl rfl g_20_ ?_
      refine Wl.l (l_load one2LogicB rfl (hB.at rfl)) rfl ?_
      refine Wl.on' rfl rfl g_20_ ?_
      refine Wl.y (y_eqli rfl rfl) rfl ?_
      refine Wl.y (y_pickT rfl g_20_ rfl) rfl ?_
      refine Wl.nil ?_
      refine Wq.next hK_15 ?_
      refine Wc.cond rfl (fun c1_25 => ?_) (fun c1_25 => ?_)
      · skip
        have c1_25_ := c1_25
        try simp only [decide_eq_true_eq, decide_eq_false_iff_not, beq_iff_eq, beq_eq_false_iff_ne, bne_iff_ne, bne_eq_false_iff_eq, Bool.not_eq_true', Bool.not_eq_false', Bool.not_eq_eq_eq_not, Bool.not_true, Bool.not_false, ne_eq, Int.not_lt, Int.not_le] at c1_25
        refine Wc.seq fun _ hK_26 => ?_
        refine Wc.region ?_
        refine Wl.y (y_assign rfl) rfl ?_
        refine Wl.y (y_assign rfl) rfl ?_
        refine Wl.nil ?_
        refine Wq.next hK_26 ?_
        refine Wc.ret ?_
        refine Wq.then_ret ?_
        refine ret2 rfl rfl rfl ?_
        exact ⟨_, rfl, by simp_all [ofV, ofT], (Below.refl _ _).alloc (Nat.le_refl _) _⟩
      · skip
        have c1_25_ := c1_25
        try simp only [decide_eq_true_eq, decide_eq_false_iff_not, beq_iff_eq, beq_eq_false_iff_ne, bne_iff_ne, bne_eq_false_iff_eq, Bool.not_eq_true', Bool.not_eq_false', Bool.not_eq_eq_eq_not, Bool.not_true, Bool.not_false, ne_eq, Int.not_lt, Int.not_le] at c1_25
        refine Wc.skip ?_
        refine Wq.next hK_14 ?_
        refine Wc.seq fun _ hK_29 => ?_
        refine Wc.seq fun _ hK_30 => ?_
        refine Wc.region ?_
        refine Wl.y (y_fieldAddr (fa46_0LogicB _) rfl) rfl ?_
        refine Wl.l (l_load one3LogicB rfl (hB.at rfl)) rfl ?_
        refine Wl.y (y_eqli rfl rfl) rfl ?_
        refine Wl.y (y_move rfl) rfl ?_
        refine Wl.guardT rfl rfl rfl (fun g_35 => ?_) (fun g_35 => ?_)
        · skip
          have g_35_ := g_35
          try simp only [decide_eq_true_eq, decide_eq_false_iff_not, beq_iff_eq, beq_eq_false_iff_ne, bne_iff_ne, bne_eq_false_iff_eq, Bool.not_eq_true', Bool.not_eq_false', Bool.not_eq_eq_eq_not, Bool.not_true, Bool.not_false, ne_eq, Int.not_lt, Int.not_le] at g_35
          refine Wl.y (y_fieldAddr (fa46_1LogicB _) rfl) rfl ?_
          refine Wl.on' rfl rfl g_35_ ?_
          refine Wl.l (l_load one2LogicB rfl (hB.at rfl)) rfl ?_
          refine Wl.on' rfl rfl g_35_ ?_
          refine Wl.y (y_eqli rfl rfl) rfl ?_
          refine Wl.y (y_pickT rfl g_35_ rfl) rfl ?_
          refine Wl.nil ?_
          refine Wq.next hK_30 ?_
          refine Wc.cond rfl (fun c2_40 => ?_) (fun c2_40 => ?_)
          · skip
            have c2_40_ := c2_40
            try simp only [decide_eq_true_eq, decide_eq_false_iff_not, beq_iff_eq, beq_eq_false_iff_ne, bne_iff_ne, bne_eq_false_iff_eq, Bool.not_eq_true', Bool.not_eq_false', Bool.not_eq_eq_eq_not, Bool.not_true, Bool.not_false, ne_eq, Int.not_lt, Int.not_le] at c2_40
            refine Wc.seq fun _ hK_41 => ?_
            refine Wc.region ?_
            refine Wl.y (y_assign rfl) rfl ?_
            refine Wl.y (y_assign rfl) rfl ?_
            refine Wl.nil ?_
            refine Wq.next hK_41 ?_
            refine Wc.ret ?_
            refine Wq.then_ret ?_
            refine ret2 rfl rfl rfl ?_
            exact ⟨_, rfl, by simp_all [ofV, ofT], (Below.refl _ _).alloc (Nat.le_refl _) _⟩
          · skip
            have c2_40_ := c2_40
            try simp only [decide_eq_true_eq, decide_eq_false_iff_not, beq_iff_eq, beq_eq_false_iff_ne, bne_iff_ne, bne_eq_false_iff_eq, Bool.not_eq_true', Bool.not_eq_false', Bool.not_eq_eq_eq_not, Bool.not_true, Bool.not_false, ne_eq, Int.not_lt, Int.not_le] at c2_40
            refine Wc.skip ?_
            refine Wq.next hK_29 ?_
            refine Wc.seq fun _ hK_44 => ?_
            refine Wc.region ?_
            refine Wl.y (y_assign rfl) rfl ?_
            refine Wl.y (y_assign rfl) rfl ?_
            refine Wl.nil ?_
            refine Wq.next hK_44 ?_
            refine Wc.ret ?_
            refine ret2 rfl rfl rfl ?_
            exact ⟨_, rfl, by simp_all [ofV, ofT], (Below.refl _ _).alloc (Nat.le_refl _) _⟩
        · skip
          have g_35_ := g_35
          try simp only [decide_eq_true_eq, decide_eq_false_iff_not, beq_iff_eq, beq_eq_false_iff_ne, bne_iff_ne, bne_eq_false_iff_eq, Bool.not_eq_true', Bool.not_eq_false', Bool.not_eq_eq_eq_not, Bool.not_true, Bool.not_false, ne_eq, Int.not_lt, Int.not_le] at g_35
          refine Wl.off' rfl rfl g_35_ rfl rfl ?_
          refine Wl.off' rfl rfl g_35_ rfl rfl ?_
          refine Wl.y (y_pickF rfl g_35_ rfl) rfl ?_
          refine Wl.nil ?_
          refine Wq.next hK_30 ?_
          refine Wc.condF rfl rfl ?_
          refine Wc.skip ?_
          refine Wq.next hK_29 ?_
          refine Wc.seq fun _ hK_48 => ?_
          refine Wc.region ?_
          refine Wl.y (y_assign rfl) rfl ?_
          refine Wl.y (y_assign rfl) rfl ?_
          refine Wl.nil ?_
          refine Wq.next hK_48 ?_
          refine Wc.ret ?_
          refine ret2 rfl rfl rfl ?_
          exact ⟨_, rfl, by simp_all [ofV, ofT], (Below.refl _ _).alloc (Nat.le_refl _) _⟩
    · skip
      have g_20_ := g_20
      try simp only [decide_eq_true_eq, decide_eq_false_iff_not, beq_iff_eq, beq_eq_false_iff_ne, bne_iff_ne, bne_eq_false_iff_eq, Bool.not_eq_true', Bool.not_eq_false', Bool.not_eq_eq_eq_not, Bool.not_true, Bool.not_false, ne_eq, Int.not_lt, Int.not_le] at g_20
      refine Wl.off' rfl rfl g_20_ rfl rfl ?_
      refine Wl.off' rfl rfl g_20_ rfl rfl ?_
      refine Wl.y (y_pickF rfl g_20_ rfl) rfl ?_
      refine Wl.nil ?_
      refine Wq.next hK_15 ?_
      refine Wc.condF rfl rfl ?_
      refine Wc.skip ?_
      refine Wq.next hK_14 ?_
      refine Wc.seq fun _ hK_52 => ?_
      refine Wc.seq fun _ hK_53 => ?_
      refine Wc.region ?_
      refine Wl.y (y_fieldAddr (fa46_0LogicB _) rfl) rfl ?_
      refine Wl.l (l_load one3LogicB rfl (hB.at rfl)) rfl ?_
      refine Wl.y (y_eqli rfl rfl) rfl ?_
      refine Wl.y (y_move rfl) rfl ?_
      refine Wl.guardT rfl rfl rfl (fun g_58 => ?_) (fun g_58 => ?_)
      · skip
        have g_58_ := g_58
        try simp only [decide_eq_true_eq, decide_eq_false_iff_not, beq_iff_eq, beq_eq_false_iff_ne, bne_iff_ne, bne_eq_false_iff_eq, Bool.not_eq_true', Bool.not_eq_false', Bool.not_eq_eq_eq_not, Bool.not_true, Bool.not_false, ne_eq, Int.not_lt, Int.not_le] at g_58
        refine Wl.y (y_fieldAddr (fa46_1LogicB _) rfl) rfl ?_
        refine Wl.on' rfl rfl g_58_ ?_
        refine Wl.l (l_load one2LogicB rfl (hB.at rfl)) rfl ?_
        refine Wl.on' rfl rfl g_58_ ?_
        refine Wl.y (y_eqli rfl rfl) rfl ?_
        refine Wl.y (y_pickT rfl g_58_ rfl) rfl ?_
        refine Wl.nil ?_
        refine Wq.next hK_53 ?_
        refine Wc.cond rfl (fun c2_63 => ?_) (fun c2_63 => ?_)
        · skip
          have c2_63_ := c2_63
          try simp only [decide_eq_true_eq, decide_eq_false_iff_not, beq_iff_eq, beq_eq_false_iff_ne, bne_iff_ne, bne_eq_false_iff_eq, Bool.not_eq_true', Bool.not_eq_false', Bool.not_eq_eq_eq_not, Bool.not_true, Bool.not_false, ne_eq, Int.not_lt, Int.not_le] at c2_63
          refine Wc.seq fun _ hK_64 => ?_
          refine Wc.region ?_
          refine Wl.y (y_assign rfl) rfl ?_
          refine Wl.y (y_assign rfl) rfl ?_
          refine Wl.nil ?_
          refine Wq.next hK_64 ?_
          refine Wc.ret ?_
          refine Wq.then_ret ?_
          refine ret2 rfl rfl rfl ?_
          exact ⟨_, rfl, by simp_all [ofV, ofT], (Below.refl _ _).alloc (Nat.le_refl _) _⟩
        · skip
          have c2_63_ := c2_63
          try simp only [decide_eq_true_eq, decide_eq_false_iff_not, beq_iff_eq, beq_eq_false_iff_ne, bne_iff_ne, bne_eq_false_iff_eq, Bool.not_eq_true', Bool.not_eq_false', Bool.not_eq_eq_eq_not, Bool.not_true, Bool.not_false, ne_eq, Int.not_lt, Int.not_le] at c2_63
          refine Wc.skip ?_
          refine Wq.next hK_52 ?_
          refine Wc.seq fun _ hK_67 => ?_
          refine Wc.region ?_
          refine Wl.y (y_assign rfl) rfl ?_
          refine Wl.y (y_assign rfl) rfl ?_
          refine Wl.nil ?_
          refine Wq.next hK_67 ?_
          refine Wc.ret ?_
          refine ret2 rfl rfl rfl ?_
          exact ⟨_, rfl, by simp_all [ofV, ofT], (Below.refl _ _).alloc (Nat.le_refl _) _⟩
      · skip
        have g_58_ := g_58
        try simp only [decide_eq_true_eq, decide_eq_false_iff_not, beq_iff_eq, beq_eq_false_iff_ne, bne_iff_ne, bne_eq_false_iff_eq, Bool.not_eq_true', Bool.not_eq_false', Bool.not_eq_eq_eq_not, Bool.not_true, Bool.not_false, ne_eq, Int.not_lt, Int.not_le] at g_58
        refine Wl.off' rfl rfl g_58_ rfl rfl ?_
        refine Wl.off' rfl rfl g_58_ rfl rfl ?_
        refine Wl.y (y_pickF rfl g_58_ rfl) rfl ?_
        refine Wl.nil ?_
        refine Wq.next hK_53 ?_
        refine Wc.condF rfl rfl ?_
        refine Wc.skip ?_
        refine Wq.next hK_52 ?_
        refine Wc.seq fun _ hK_71 => ?_
        refine Wc.region ?_
        refine Wl.y (y_assign rfl) rfl ?_
        refine Wl.y (y_assign rfl) rfl ?_
        refine Wl.nil ?_
        refine Wq.next hK_71 ?_
        refine Wc.ret ?_
        refine ret2 rfl rfl rfl ?_
        exact ⟨_, rfl, by simp_all [ofV, ofT], (Below.refl _ _).alloc (Nat.le_refl _) _⟩

theorem All_r (A : Option Addr) (n c : Nat) (l : List Int) (d : Int) (w : World) (hd : d = 0 ∨ d = 1) (hl : n ≤ 35184372088832) (h : Rd w 1 A n (i64s l)) : Ret Try.prog 28 [.slice A n c, .int .i64 d] w fun v w' => v = .int .i64 (allT l d) ∧ w' = w := by
  have hn := len_of h
  refine enter Try.func28 rfl rfl rfl ?_
  refine Wc.seq fun _ hK_1 => ?_
  refine Wc.region ?_
  refine Wl.y (y_assign rfl) rfl ?_
  refine Wl.nil ?_
  refine Wq.next hK_1 ?_
  refine Wc.seq fun _ hK_3 => ?_
  refine Wc.region ?_
  refine Wl.y (y_move rfl) rfl ?_
  refine Wl.y (y_subI rfl rfl (by first | omega | simp; omega) (by first | omega | simp; omega)) rfl ?_
  refine Wl.y (y_assign rfl) rfl ?_
  refine Wl.nil ?_
  refine Wq.next hK_3 ?_
  refine Wc.seq fun _ hK_7 => ?_
  refine Wc.seq fun _ hK_8 => ?_
  refine Wc.region ?_
  refine Wl.y (y_assign rfl) rfl ?_
  refine Wl.nil ?_
  refine Wq.next hK_8 ?_
  refine Wc.block ?_
  refine Wc.loop (X := Nat) (fun k => [(0, .slice A n c), (1, .int .i64 d), (5, .int .i64 (allT (l.take k) d)), (6, .int .i64 (k : Int))]) (fun k wr => k ≤ n ∧ d ∉ l.take k ∧ wr = w) (fun k => n - k) (0) ?_ ?_ ?_
  · exact Sub.cons' rfl (by first | rfl | exact int_eq (by omega) | (refine int_eq ?_; rw [hsn, allT_snoc _ _ h0 MISSING_c1]; simp_all; done) | (refine int_eq ?_; simp [allT]; done)) (Sub.cons' rfl (by first | rfl | exact int_eq (by omega) | (refine int_eq ?_; rw [hsn, allT_snoc _ _ h0 MISSING_c1]; simp_all; done) | (refine int_eq ?_; simp [allT]; done)) (Sub.cons' rfl (by first | rfl | exact int_eq (by omega) | (refine int_eq ?_; rw [hsn, allT_snoc _ _ h0 MISSING_c1]; simp_all; done) | (refine int_eq ?_; simp [allT]; done)) (Sub.cons' rfl (by first | rfl | exact int_eq (by omega) | (refine int_eq ?_; rw [hsn, allT_snoc _ _ h0 MISSING_c1]; simp_all; done) | (refine int_eq ?_; simp [allT]; done)) (Sub.nil))))
  · exact ⟨by omega, by simp, rfl⟩
  · rintro k wr hI_11 _ hL_10
    replace hI_11 : k ≤ n ∧ d ∉ l.take k ∧ wr = w := hI_11
    obtain ⟨hk, h0, rfl⟩ := hI_11
    show Wc _ _ _ _ _ [(0, .slice A n c), (1, .int .i64 d), (5, .int .i64 (allT (l.take k) d)), (6, .int .i64 (k : Int))] _
    refine Wc.seq fun _ hK_12 => ?_
    refine Wc.seq fun _ hK_13 => ?_
    refine Wc.region ?_
    refine Wl.y (y_move rfl) rfl ?_
    refine Wl.y (y_move rfl) rfl ?_
    refine Wl.y (y_lenl Try.underlying33 (by omega) rfl) rfl ?_
    refine Wl.y (y_lssi rfl rfl) rfl ?_
    refine Wl.nil ?_
    refine Wq.next hK_13 ?_
    refine Wc.cond rfl (fun c0_18 => ?_) (fun c0_18 => ?_)
    · skip
      have c0_18_ := c0_18
      try simp only [decide_eq_true_eq, decide_eq_false_iff_not, beq_iff_eq, beq_eq_false_iff_ne, bne_iff_ne, bne_eq_false_iff_eq, Bool.not_eq_true', Bool.not_eq_false', Bool.not_eq_eq_eq_not, Bool.not_true, Bool.not_false, ne_eq, Int.not_lt, Int.not_le] at c0_18
      refine Wc.skip ?_
      refine Wq.next hK_12 ?_
      refine Wc.seq fun _ hK_19 => ?_
      refine Wc.block ?_
      refine Wc.seq fun _ hK_20 => ?_
      refine Wc.seq fun _ hK_21 => ?_
      obtain ⟨p, v, rfl, hv, hcell⟩ := h.one (i := k) (by omega)
      have hsn := take_getD l k (by omega)
      have hgt := i64s_get l k (by omega)
      rw [hgt] at hv
      cases hv
      refine Wc.region ?_
      refine Wl.y (y_move rfl) rfl ?_
      refine Wl.y (y_move rfl) rfl ?_
      refine Wl.y (y_indexAddr Try.underlying33 sz3LogicB rfl rfl (by omega) (by omega)) rfl ?_
      refine Wl.l (l_load one3LogicB rfl (at1 hcell)) rfl ?_
      refine Wl.y (y_move rfl) rfl ?_
      refine Wl.y (y_eqli rfl rfl) rfl ?_
      refine Wl.nil ?_
      refine Wq.next hK_21 ?_
      refine Wc.cond rfl (fun c1_28 => ?_) (fun c1_28 => ?_)
      · skip
        have c1_28_ := c1_28
        try simp only [decide_eq_true_eq, decide_eq_false_iff_not, beq_iff_eq, beq_eq_false_iff_ne, bne_iff_ne, bne_eq_false_iff_eq, Bool.not_eq_true', Bool.not_eq_false', Bool.not_eq_eq_eq_not, Bool.not_true, Bool.not_false, ne_eq, Int.not_lt, Int.not_le] at c1_28
        refine Wc.seq fun _ hK_29 => ?_
        refine Wc.region ?_
        refine Wl.y (y_move rfl) rfl ?_
        refine Wl.y (y_assign rfl) rfl ?_
        refine Wl.nil ?_
        refine Wq.next hK_29 ?_
        refine Wc.ret ?_
        refine Wq.then_ret (Wq.block_ret (Wq.then_ret (Wq.then_ret (Wq.block_ret (Wq.then_ret ?_)))))
        refine ret1 rfl rfl ?_
        exact ⟨_, rfl, by simp only [allT]; rw [if_pos (by rw [← c1_28]; exact getD_mem l k (by omega))], rfl⟩
      · skip
        have c1_28_ := c1_28
        try simp only [decide_eq_true_eq, decide_eq_false_iff_not, beq_iff_eq, beq_eq_false_iff_ne, bne_iff_ne, bne_eq_false_iff_eq, Bool.not_eq_true', Bool.not_eq_false', Bool.not_eq_eq_eq_not, Bool.not_true, Bool.not_false, ne_eq, Int.not_lt, Int.not_le] at c1_28
        refine Wc.skip ?_
        refine Wq.next hK_20 ?_
        refine Wc.seq fun _ hK_32 => ?_
        refine Wc.region ?_
        refine Wl.y (y_move rfl) rfl ?_
        refine Wl.y (y_move rfl) rfl ?_
        refine Wl.y (y_indexAddr Try.underlying33 sz3LogicB rfl rfl (by omega) (by omega)) rfl ?_
        refine Wl.l (l_load one3LogicB rfl (at1 hcell)) rfl ?_
        refine Wl.call txt27LogicB rfl rfl (Known_r _ _) rfl ?_
        rintro _ w1 ⟨rfl, rfl⟩
        refine Wl.y (y_not rfl) rfl ?_
        refine Wl.nil ?_
        refine Wq.next hK_32 ?_
        refine Wc.cond rfl (fun c2_39 => ?_) (fun c2_39 => ?_)
        · skip
          have c2_39_ := c2_39
          try simp only [decide_eq_true_eq, decide_eq_false_iff_not, beq_iff_eq, beq_eq_false_iff_ne, bne_iff_ne, bne_eq_false_iff_eq, Bool.not_eq_true', Bool.not_eq_false', Bool.not_eq_eq_eq_not, Bool.not_true, Bool.not_false, ne_eq, Int.not_lt, Int.not_le] at c2_39
          refine Wc.region ?_
          refine Wl.y (y_assign rfl) rfl ?_
          refine Wl.nil ?_
          refine Wq.block_normal ?_
          refine Wq.next hK_19 ?_
          refine Wc.region ?_
          refine Wl.y (y_move rfl) rfl ?_
          refine Wl.y (y_addI rfl rfl (by first | omega | simp; omega) (by first | omega | simp; omega)) rfl ?_
          refine Wl.y (y_assign rfl) rfl ?_
          refine Wl.nil ?_
          refine fun a_ ha_ => hL_10 _ _ (k + 1) (by first | omega | (simp; omega)) (Sub.cons' rfl (by first | rfl | exact int_eq (by omega) | (refine int_eq ?_; rw [hsn, allT_snoc _ _ h0 c1_28]; simp_all; done) | (refine int_eq ?_; simp [allT]; done)) (Sub.cons' rfl (by first | rfl | exact int_eq (by omega) | (refine int_eq ?_; rw [hsn, allT_snoc _ _ h0 c1_28]; simp_all; done) | (refine int_eq ?_; simp [allT]; done)) (Sub.cons' rfl (by first | rfl | exact int_eq (by omega) | (refine int_eq ?_; rw [hsn, allT_snoc _ _ h0 c1_28]; simp_all; done) | (refine int_eq ?_; simp [allT]; done)) (Sub.cons' rfl (by first | rfl | exact int_eq (by omega) | (refine int_eq ?_; rw [hsn, allT_snoc _ _ h0 c1_28]; simp_all; done) | (refine int_eq ?_; simp [allT]; done)) (Sub.nil))))) ?_ a_ ha_
          exact ⟨by omega, by rw [hsn, List.mem_append]; simp; exact ⟨h0, fun e => c1_28 e.symm⟩, rfl⟩
        · skip
          have c2_39_ := c2_39
          try simp only [decide_eq_true_eq, decide_eq_false_iff_not, beq_iff_eq, beq_eq_false_iff_ne, bne_iff_ne, bne_eq_false_iff_eq, Bool.not_eq_true', Bool.not_eq_false', Bool.not_eq_eq_eq_not, Bool.not_true, Bool.not_false, ne_eq, Int.not_lt, Int.not_le] at c2_39
          refine Wc.skip ?_
          refine Wq.block_normal ?_
          refine Wq.next hK_19 ?_
          refine Wc.region ?_
          refine Wl.y (y_move rfl) rfl ?_
          refine Wl.y (y_addI rfl rfl (by first | omega | simp; omega) (by first | omega | simp; omega)) rfl ?_
          refine Wl.y (y_assign rfl) rfl ?_
          refine Wl.nil ?_
          refine fun a_ ha_ => hL_10 _ _ (k + 1) (by first | omega | (simp; omega)) (Sub.cons' rfl (by first | rfl | exact int_eq (by omega) | (refine int_eq ?_; rw [hsn, allT_snoc _ _ h0 c1_28]; simp_all; done) | (refine int_eq ?_; simp [allT]; done)) (Sub.cons' rfl (by first | rfl | exact int_eq (by omega) | (refine int_eq ?_; rw [hsn, allT_snoc _ _ h0 c1_28]; simp_all; done) | (refine int_eq ?_; simp [allT]; done)) (Sub.cons' rfl (by first | rfl | exact int_eq (by omega) | (refine int_eq ?_; rw [hsn, allT_snoc _ _ h0 c1_28]; simp_all; done) | (refine int_eq ?_; simp [allT]; done)) (Sub.cons' rfl (by first | rfl | exact int_eq (by omega) | (refine int_eq ?_; rw [hsn, allT_snoc _ _ h0 c1_28]; simp_all; done) | (refine int_eq ?_; simp [allT]; done)) (Sub.nil))))) ?_ a_ ha_
          exact ⟨by omega, by rw [hsn, List.mem_append]; simp; exact ⟨h0, fun e => c1_28 e.symm⟩, rfl⟩
    · skip
      have c0_18_ := c0_18
      try simp only [decide_eq_true_eq, decide_eq_false_iff_not, beq_iff_eq, beq_eq_false_iff_ne, bne_iff_ne, bne_eq_false_iff_eq, Bool.not_eq_true', Bool.not_eq_false', Bool.not_eq_eq_eq_not, Bool.not_true, Bool.not_false, ne_eq, Int.not_lt, Int.not_le] at c0_18
      refine Wc.exit ?_
      refine Wq.then_exit ?_
      refine Wq.then_exit ?_
      refine Wq.block_exit ?_
      refine Wq.next hK_7 ?_
      refine Wc.seq fun _ hK_47 => ?_
      refine Wc.region ?_
      refine Wl.y (y_move rfl) rfl ?_
      refine Wl.y (y_assign rfl) rfl ?_
      refine Wl.nil ?_
      refine Wq.next hK_47 ?_
      refine Wc.ret ?_
      refine ret1 rfl rfl ?_
      exact ⟨_, rfl, by rw [List.take_of_length_le (by omega)], rfl⟩
end Go.Proofs.Ytnjjieeepfcloaa
