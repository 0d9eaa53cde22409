/- The reference of package value: Reckon, by the calculus. -/
import Derived.Test.YtijkbinjdgjioaaGreatDoorRefW
namespace Go.Proofs.YtijkbinjdgjioaaGreatDoor
open Go.RowKit Go.Bw Go.Bw.Fl
set_option linter.unusedVariables false
set_option linter.unusedSimpArgs false
theorem exn34RefX : Extn Tryz.prog 34 Extern.MathFloatBits.float64frombits := fun args w => run_callFunc_extern Tryz.func34 (by kernel_rfl) (by kernel_rfl) (by kernel_rfl) (by kernel_rfl) args w
theorem fa28_0RefX (p : Addr) (w : World) : (Instr.fieldAt 28 (.pointer (some p)) 0).run Tryz.prog w = .ok (.pointer (some (p.add 0))) w := run_fieldAt (i := 0) (sz := 0) Tryz.underlying28 rfl (by kernel_rfl) p w
theorem fa28_1RefX (p : Addr) (w : World) : (Instr.fieldAt 28 (.pointer (some p)) 1).run Tryz.prog w = .ok (.pointer (some (p.add 1))) w := run_fieldAt (i := 1) (sz := 0) Tryz.underlying28 rfl (by kernel_rfl) p w
theorem fa28_2RefX (p : Addr) (w : World) : (Instr.fieldAt 28 (.pointer (some p)) 2).run Tryz.prog w = .ok (.pointer (some (p.add 2))) w := run_fieldAt (i := 2) (sz := 0) Tryz.underlying28 rfl (by kernel_rfl) p w
theorem one2RefX : One Tryz.prog 2 := ⟨_, Tryz.underlying2, rfl, by kernel_rfl⟩
theorem one26RefX : One Tryz.prog 26 := ⟨_, Tryz.underlying26, rfl, by kernel_rfl⟩
theorem one3RefX : One Tryz.prog 3 := ⟨_, Tryz.underlying3, rfl, by kernel_rfl⟩
theorem txt28RefX : Txt Tryz.prog 28 := ⟨_, Tryz.func28, by kernel_rfl, rfl⟩   -- bridleway/bridlewayref02.Right
theorem txt39RefX : Txt Tryz.prog 39 := ⟨_, Tryz.func39, by kernel_rfl, rfl⟩   -- bridleway/bridlewayref02.null
theorem txt40RefX : Txt Tryz.prog 40 := ⟨_, Tryz.func40, by kernel_rfl, rfl⟩   -- bridleway/bridlewayref02.number
theorem txt43RefX : Txt Tryz.prog 43 := ⟨_, Tryz.func43, by kernel_rfl, rfl⟩   -- bridleway/bridlewayref01.Bits
theorem txt47RefX : Txt Tryz.prog 47 := ⟨_, Tryz.func47, by kernel_rfl, rfl⟩   -- bridleway/bridlewayref02.times
theorem txt48RefX : Txt Tryz.prog 48 := ⟨_, Tryz.func48, by kernel_rfl, rfl⟩   -- bridleway/bridlewayref02.sum
theorem fits_iff {x : Int} : fitsI x = true ↔ (-9223372036854775808 ≤ x ∧ x ≤ 9223372036854775807) := by unfold fitsI; rw [decide_eq_true_eq]
theorem fits_no {x : Int} : fitsI x = false ↔ ¬ (-9223372036854775808 ≤ x ∧ x ≤ 9223372036854775807) := by unfold fitsI; rw [decide_eq_false_iff_not]
theorem fits_ok {x : Int} (h : -9223372036854775808 ≤ x ∧ x ≤ 9223372036854775807) : true = fitsI x := (fits_iff.2 h).symm
theorem sum_r (a b : Int) (ra : -9223372036854775808 ≤ a ∧ a ≤ 9223372036854775807) (rb : -9223372036854775808 ≤ b ∧ b ≤ 9223372036854775807) (w : World) : Ret Tryz.prog 48 [.int .i64 a, .int .i64 b] w fun v w' => (∃ n t, v = .tuple #[.int .i64 n, .bool t] ∧ t = fitsI (a + b) ∧ (fitsI (a + b) = true → n = a + b)) ∧ w' = w := by
  refine enter Tryz.func48 rfl rfl rfl ?_
  refine Wc.seq fun _ hK_1 => ?_
  refine Wc.region ?_
  refine Wl.y (y_assign rfl) rfl ?_
  refine Wl.y (y_assign rfl) rfl ?_
  refine Wl.nil ?_
  refine Wq.next hK_1 ?_
  refine Wc.seq fun _ hK_4 => ?_
  refine Wc.seq fun _ hK_5 => ?_
  refine Wc.meet (X := Unit) (fun u_ => [(0, .int .i64 a), (1, .int .i64 b), (23, .bool (!fitsI (a + b)))]) (fun u_ wr => wr = w) (fun _ hM_6 => ?_) ?_
  ·
   refine Wc.region ?_
   refine Wl.y (y_move rfl) rfl ?_
   refine Wl.y (y_gtri rfl rfl) rfl ?_
   refine Wl.y (y_move rfl) rfl ?_
   refine Wl.guardT rfl rfl rfl (fun g_10 => ?_) (fun g_10 => ?_)
   ·
    have g_10_ := g_10
    try simp only [decide_eq_true_eq, decide_eq_false_iff_not, beq_iff_eq, beq_eq_false_iff_ne, bne_iff_ne, bne_eq_false_iff_eq, Bool.not_eq_true', Bool.not_eq_false', Bool.not_eq_eq_eq_not, Bool.not_true, Bool.not_false, ne_eq, Int.not_lt, Int.not_le] at g_10
    refine Wl.y (y_move rfl) rfl ?_
    refine Wl.on' rfl rfl g_10_ ?_
    refine Wl.y (y_move rfl) rfl ?_
    refine Wl.on' rfl rfl g_10_ ?_
    refine Wl.y (y_subI rfl rfl (by first | omega | (simp; done) | (simp; omega)) (by first | omega | (simp; done) | (simp; omega))) rfl ?_
    refine Wl.on' rfl rfl g_10_ ?_
    refine Wl.y (y_gtri rfl rfl) rfl ?_
    refine Wl.y (y_pickT rfl g_10_ rfl) rfl ?_
    refine Wl.y (y_move rfl) rfl ?_
    refine Wl.guardF rfl rfl rfl (fun g_17 => ?_) (fun g_17 => ?_)
    ·
     have g_17_ := g_17
     try simp only [decide_eq_true_eq, decide_eq_false_iff_not, beq_iff_eq, beq_eq_false_iff_ne, bne_iff_ne, bne_eq_false_iff_eq, Bool.not_eq_true', Bool.not_eq_false', Bool.not_eq_eq_eq_not, Bool.not_true, Bool.not_false, ne_eq, Int.not_lt, Int.not_le] at g_17
     refine Wl.off' rfl rfl g_17_ rfl rfl ?_
     refine Wl.off' rfl rfl g_17_ rfl rfl ?_
     refine Wl.offU rfl rfl rfl ?_
     refine Wl.offU rfl rfl rfl ?_
     refine Wl.offU rfl rfl rfl ?_
     refine Wl.offU rfl rfl rfl ?_
     refine Wl.off' rfl rfl g_17_ rfl rfl ?_
     refine Wl.y (y_pickT rfl g_17_ rfl) rfl ?_
     refine Wl.nil ?_
     refine Wq.meet hM_6 (()) (Sub.cons' rfl (by first | rfl | exact bool_eq (by first | rw [fits_no.2 (by have := g_10; have := MISSING_o10; omega)] | rw [fits_iff.2 (by have := g_10; have := MISSING_o10; have := MISSING_o14; omega)] | skip; rw [Bool.eq_iff_iff]; simp [fits_no]; have := g_10; omega)) (Sub.cons' rfl (by first | rfl | exact bool_eq (by first | rw [fits_no.2 (by have := g_10; have := MISSING_o10; omega)] | rw [fits_iff.2 (by have := g_10; have := MISSING_o10; have := MISSING_o14; omega)] | skip; rw [Bool.eq_iff_iff]; simp [fits_no]; have := g_10; omega)) (Sub.cons' rfl (by first | rfl | exact bool_eq (by first | rw [fits_no.2 (by have := g_10; have := MISSING_o10; omega)] | rw [fits_iff.2 (by have := g_10; have := MISSING_o10; have := MISSING_o14; omega)] | skip; rw [Bool.eq_iff_iff]; simp [fits_no]; have := g_10; omega)) (Sub.nil)))) ?_
     rfl
    ·
     have g_17_ := g_17
     try simp only [decide_eq_true_eq, decide_eq_false_iff_not, beq_iff_eq, beq_eq_false_iff_ne, bne_iff_ne, bne_eq_false_iff_eq, Bool.not_eq_true', Bool.not_eq_false', Bool.not_eq_eq_eq_not, Bool.not_true, Bool.not_false, ne_eq, Int.not_lt, Int.not_le] at g_17
     refine Wl.y (y_move rfl) rfl ?_
     refine Wl.on' rfl rfl g_17_ ?_
     refine Wl.y (y_lssi rfl rfl) rfl ?_
     refine Wl.on' rfl rfl g_17_ ?_
     refine Wl.y (y_move rfl) rfl ?_
     refine Wl.guardT rfl rfl rfl (fun g_22 => ?_) (fun g_22 => ?_)
     ·
      have g_22_ := g_22
      try simp only [decide_eq_true_eq, decide_eq_false_iff_not, beq_iff_eq, beq_eq_false_iff_ne, bne_iff_ne, bne_eq_false_iff_eq, Bool.not_eq_true', Bool.not_eq_false', Bool.not_eq_eq_eq_not, Bool.not_true, Bool.not_false, ne_eq, Int.not_lt, Int.not_le] at g_22
      refine Wl.y (y_move rfl) rfl ?_
      refine Wl.on' rfl rfl g_22_ ?_
      refine Wl.y (y_move rfl) rfl ?_
      refine Wl.on' rfl rfl g_22_ ?_
      refine Wl.y (y_subI rfl rfl (by first | omega | (simp; done) | (simp; omega)) (by first | omega | (simp; done) | (simp; omega))) rfl ?_
      refine Wl.on' rfl rfl g_22_ ?_
      refine Wl.y (y_lssi rfl rfl) rfl ?_
      refine Wl.on' rfl rfl g_17_ ?_
      refine Wl.y (y_pickT rfl g_22_ rfl) rfl ?_
      refine Wl.y (y_pickF rfl g_17_ rfl) rfl ?_
      refine Wl.nil ?_
      refine Wq.meet hM_6 (()) (Sub.cons' rfl (by first | rfl | exact bool_eq (by first | rw [fits_no.2 (by have := g_10; have := MISSING_o10; omega)] | rw [fits_iff.2 (by have := g_10; have := MISSING_o10; have := g_22; omega)] | skip; rw [Bool.eq_iff_iff]; simp [fits_no]; have := g_10; omega)) (Sub.cons' rfl (by first | rfl | exact bool_eq (by first | rw [fits_no.2 (by have := g_10; have := MISSING_o10; omega)] | rw [fits_iff.2 (by have := g_10; have := MISSING_o10; have := g_22; omega)] | skip; rw [Bool.eq_iff_iff]; simp [fits_no]; have := g_10; omega)) (Sub.cons' rfl (by first | rfl | exact bool_eq (by first | rw [fits_no.2 (by have := g_10; have := MISSING_o10; omega)] | rw [fits_iff.2 (by have := g_10; have := MISSING_o10; have := g_22; omega)] | skip; rw [Bool.eq_iff_iff]; simp [fits_no]; have := g_10; omega)) (Sub.nil)))) ?_
      rfl
     ·
      have g_22_ := g_22
      try simp only [decide_eq_true_eq, decide_eq_false_iff_not, beq_iff_eq, beq_eq_false_iff_ne, bne_iff_ne, bne_eq_false_iff_eq, Bool.not_eq_true', Bool.not_eq_false', Bool.not_eq_eq_eq_not, Bool.not_true, Bool.not_false, ne_eq, Int.not_lt, Int.not_le] at g_22
      refine Wl.off' rfl rfl g_22_ rfl rfl ?_
      refine Wl.off' rfl rfl g_22_ rfl rfl ?_
      refine Wl.off' rfl rfl g_22_ rfl rfl ?_
      refine Wl.on' rfl rfl g_17_ ?_
      refine Wl.y (y_pickF rfl g_22_ rfl) rfl ?_
      refine Wl.y (y_pickF rfl g_17_ rfl) rfl ?_
      refine Wl.nil ?_
      refine Wq.meet hM_6 (()) (Sub.cons' rfl (by first | rfl | exact bool_eq (by first | rw [fits_no.2 (by have := g_10; have := MISSING_o10; omega)] | rw [fits_iff.2 (by have := g_10; have := MISSING_o10; have := g_22; omega)] | skip; rw [Bool.eq_iff_iff]; simp [fits_no]; have := g_10; omega)) (Sub.cons' rfl (by first | rfl | exact bool_eq (by first | rw [fits_no.2 (by have := g_10; have := MISSING_o10; omega)] | rw [fits_iff.2 (by have := g_10; have := MISSING_o10; have := g_22; omega)] | skip; rw [Bool.eq_iff_iff]; simp [fits_no]; have := g_10; omega)) (Sub.cons' rfl (by first | rfl | exact bool_eq (by first | rw [fits_no.2 (by have := g_10; have := MISSING_o10; omega)] | rw [fits_iff.2 (by have := g_10; have := MISSING_o10; have := g_22; omega)] | skip; rw [Bool.eq_iff_iff]; simp [fits_no]; have := g_10; omega)) (Sub.nil)))) ?_
      rfl
   ·
    have g_10_ := g_10
    try simp only [decide_eq_true_eq, decide_eq_false_iff_not, beq_iff_eq, beq_eq_false_iff_ne, bne_iff_ne, bne_eq_false_iff_eq, Bool.not_eq_true', Bool.not_eq_false', Bool.not_eq_eq_eq_not, Bool.not_true, Bool.not_false, ne_eq, Int.not_lt, Int.not_le] at g_10
    refine Wl.off' rfl rfl g_10_ rfl rfl ?_
    refine Wl.off' rfl rfl g_10_ rfl rfl ?_
    refine Wl.off' rfl rfl g_10_ rfl rfl ?_
    refine Wl.y (y_pickF rfl g_10_ rfl) rfl ?_
    refine Wl.y (y_move rfl) rfl ?_
    refine Wl.on' rfl rfl rfl ?_
    refine Wl.y (y_move rfl) rfl ?_
    refine Wl.on' rfl rfl rfl ?_
    refine Wl.y (y_lssi rfl rfl) rfl ?_
    refine Wl.on' rfl rfl rfl ?_
    refine Wl.y (y_move rfl) rfl ?_
    refine Wl.guardT rfl rfl rfl (fun g_36 => ?_) (fun g_36 => ?_)
    ·
     have g_36_ := g_36
     try simp only [decide_eq_true_eq, decide_eq_false_iff_not, beq_iff_eq, beq_eq_false_iff_ne, bne_iff_ne, bne_eq_false_iff_eq, Bool.not_eq_true', Bool.not_eq_false', Bool.not_eq_eq_eq_not, Bool.not_true, Bool.not_false, ne_eq, Int.not_lt, Int.not_le] at g_36
     refine Wl.y (y_move rfl) rfl ?_
     refine Wl.on' rfl rfl g_36_ ?_
     refine Wl.y (y_move rfl) rfl ?_
     refine Wl.on' rfl rfl g_36_ ?_
     refine Wl.y (y_subI rfl rfl (by first | omega | (simp; done) | (simp; omega)) (by first | omega | (simp; done) | (simp; omega))) rfl ?_
     refine Wl.on' rfl rfl g_36_ ?_
     refine Wl.y (y_lssi rfl rfl) rfl ?_
     refine Wl.on' rfl rfl rfl ?_
     refine Wl.y (y_pickT rfl g_36_ rfl) rfl ?_
     refine Wl.y (y_pickF rfl rfl rfl) rfl ?_
     refine Wl.nil ?_
     refine Wq.meet hM_6 (()) (Sub.cons' rfl (by first | rfl | exact bool_eq (by first | rw [fits_no.2 (by have := g_10; have := MISSING_o10; omega)] | rw [fits_iff.2 (by have := g_10; have := MISSING_o10; have := g_36; omega)] | skip; rw [Bool.eq_iff_iff]; simp [fits_no]; have := g_10; omega)) (Sub.cons' rfl (by first | rfl | exact bool_eq (by first | rw [fits_no.2 (by have := g_10; have := MISSING_o10; omega)] | rw [fits_iff.2 (by have := g_10; have := MISSING_o10; have := g_36; omega)] | skip; rw [Bool.eq_iff_iff]; simp [fits_no]; have := g_10; omega)) (Sub.cons' rfl (by first | rfl | exact bool_eq (by first | rw [fits_no.2 (by have := g_10; have := MISSING_o10; omega)] | rw [fits_iff.2 (by have := g_10; have := MISSING_o10; have := g_36; omega)] | skip; rw [Bool.eq_iff_iff]; simp [fits_no]; have := g_10; omega)) (Sub.nil)))) ?_
     rfl
    ·
     have g_36_ := g_36
     try simp only [decide_eq_true_eq, decide_eq_false_iff_not, beq_iff_eq, beq_eq_false_iff_ne, bne_iff_ne, bne_eq_false_iff_eq, Bool.not_eq_true', Bool.not_eq_false', Bool.not_eq_eq_eq_not, Bool.not_true, Bool.not_false, ne_eq, Int.not_lt, Int.not_le] at g_36
     refine Wl.off' rfl rfl g_36_ rfl rfl ?_
     refine Wl.off' rfl rfl g_36_ rfl rfl ?_
     refine Wl.off' rfl rfl g_36_ rfl rfl ?_
     refine Wl.on' rfl rfl rfl ?_
     refine Wl.y (y_pickF rfl g_36_ rfl) rfl ?_
     refine Wl.y (y_pickF rfl rfl rfl) rfl ?_
     refine Wl.nil ?_
     refine Wq.meet hM_6 (()) (Sub.cons' rfl (by first | rfl | exact bool_eq (by first | rw [fits_no.2 (by have := g_10; have := MISSING_o10; omega)] | rw [fits_iff.2 (by have := g_10; have := MISSING_o10; have := g_36; omega)] | skip; rw [Bool.eq_iff_iff]; simp [fits_no]; have := g_10; omega)) (Sub.cons' rfl (by first | rfl | exact bool_eq (by first | rw [fits_no.2 (by have := g_10; have := MISSING_o10; omega)] | rw [fits_iff.2 (by have := g_10; have := MISSING_o10; have := g_36; omega)] | skip; rw [Bool.eq_iff_iff]; simp [fits_no]; have := g_10; omega)) (Sub.cons' rfl (by first | rfl | exact bool_eq (by first | rw [fits_no.2 (by have := g_10; have := MISSING_o10; omega)] | rw [fits_iff.2 (by have := g_10; have := MISSING_o10; have := g_36; omega)] | skip; rw [Bool.eq_iff_iff]; simp [fits_no]; have := g_10; omega)) (Sub.nil)))) ?_
     rfl
  ·
   rintro u_ wr hI_45
   replace hI_45 : wr = w := hI_45
   have hw := hI_45
   show Wq _ _ _ _ [(0, .int .i64 a), (1, .int .i64 b), (23, .bool (!fitsI (a + b)))] _
   refine Wq.next hK_5 ?_
   refine Wc.cond rfl (fun c0_46 => ?_) (fun c0_46 => ?_)
   ·
    have c0_46_ := c0_46
    try simp only [decide_eq_true_eq, decide_eq_false_iff_not, beq_iff_eq, beq_eq_false_iff_ne, bne_iff_ne, bne_eq_false_iff_eq, Bool.not_eq_true', Bool.not_eq_false', Bool.not_eq_eq_eq_not, Bool.not_true, Bool.not_false, ne_eq, Int.not_lt, Int.not_le] at c0_46
    refine Wc.seq fun _ hK_47 => ?_
    refine Wc.region ?_
    refine Wl.y (y_assign rfl) rfl ?_
    refine Wl.y (y_assign rfl) rfl ?_
    refine Wl.nil ?_
    refine Wq.next hK_47 ?_
    refine Wc.ret ?_
    refine Wq.then_ret ?_
    refine ret2 rfl rfl rfl ?_
    exact ⟨_, rfl, ⟨_, _, rfl, by have h := c0_46_; simp at h; exact h.symm, fun h => by have h2 := c0_46_; rw [h] at h2; cases h2⟩, hw⟩
   ·
    have c0_46_ := c0_46
    try simp only [decide_eq_true_eq, decide_eq_false_iff_not, beq_iff_eq, beq_eq_false_iff_ne, bne_iff_ne, bne_eq_false_iff_eq, Bool.not_eq_true', Bool.not_eq_false', Bool.not_eq_eq_eq_not, Bool.not_true, Bool.not_false, ne_eq, Int.not_lt, Int.not_le] at c0_46
    refine Wc.skip ?_
    refine Wq.next hK_4 ?_
    refine Wc.seq fun _ hK_50 => ?_
    refine Wc.region ?_
    refine Wl.y (y_move rfl) rfl ?_
    refine Wl.y (y_move rfl) rfl ?_
    refine Wl.y (y_add rfl rfl) rfl ?_
    refine Wl.y (y_assign rfl) rfl ?_
    refine Wl.y (y_assign rfl) rfl ?_
    refine Wl.nil ?_
    refine Wq.next hK_50 ?_
    refine Wc.ret ?_
    refine ret2 rfl rfl rfl ?_
    exact ⟨_, rfl, ⟨_, _, rfl, by have h := c0_46_; simp at h; exact h.symm, fun h => by have h2 := fits_iff.1 h; exact wrap_i64 _ h2.1 h2.2⟩, hw⟩
theorem neg_ok {a : Int} (ra : -9223372036854775808 ≤ a ∧ a ≤ 9223372036854775807) : (a != -9223372036854775808) = fitsI (-a) ∧ (fitsI (-a) = true → IntKind.i64.wrap (0 - a) = -a) := by
  constructor
  · rw [Bool.eq_iff_iff, bne_iff_ne, fits_iff]; omega
  · intro h; have := fits_iff.1 h; rw [IntKind.wrap_i64]; omega
theorem tdiv_rng {p b : Int} (hr : -9223372036854775808 ≤ p ∧ p ≤ 9223372036854775807) (hb : b ≠ 0) (hb1 : b ≠ -1) : -9223372036854775808 ≤ p.tdiv b ∧ p.tdiv b ≤ 9223372036854775807 := by
  have h4 : (p.tdiv b).natAbs = p.natAbs / b.natAbs := Int.natAbs_tdiv p b
  have h5 : p.natAbs / b.natAbs ≤ p.natAbs := Nat.div_le_self _ _
  have h7 : b.natAbs = 1 ∨ 2 ≤ b.natAbs := by omega
  rcases h7 with h7 | h7
  · have : b = 1 := by omega
    subst this; rw [Int.tdiv_one]; exact hr
  · have h8 : p.natAbs / b.natAbs ≤ p.natAbs / 2 := Nat.div_le_div_left h7 (by decide)
    obtain ⟨d, hd⟩ : ∃ d, d = p.tdiv b := ⟨_, rfl⟩
    rw [← hd] at h4 ⊢
    rw [← h4] at h8
    clear hd h4 h5
    omega
theorem quo_ok {a b : Int} (ra : -9223372036854775808 ≤ a ∧ a ≤ 9223372036854775807) (rb : -9223372036854775808 ≤ b ∧ b ≤ 9223372036854775807) (hb : b ≠ 0) (ha : a ≠ 0) (hb1 : b ≠ -1) :
    (IntKind.i64.wrap ((IntKind.i64.wrap (a * b)).tdiv b) == a) = fitsI (a * b) := by
  rw [Bool.eq_iff_iff, beq_iff_eq, fits_iff]
  have hr := wrap_rng (a * b)
  obtain ⟨p, hp⟩ : ∃ p, p = IntKind.i64.wrap (a * b) := ⟨_, rfl⟩
  rw [← hp] at hr ⊢
  constructor
  · intro h
    have h1 := Int.tmod_add_mul_tdiv p b
    have h3 := tdiv_rng hr hb hb1
    rw [wrap_i64 _ h3.1 h3.2] at h
    rw [h] at h1
    have h2 : (p.tmod b).natAbs < b.natAbs := by rw [Int.natAbs_tmod]; exact Nat.mod_lt _ (by omega)
    rw [Int.mul_comm b a] at h1
    rw [IntKind.wrap_i64] at hp
    have h5 : (a * b - p) % 18446744073709551616 = 0 := by omega
    generalize p.tmod b = r at *
    have : r = 0 := by omega
    omega
  · intro h
    rw [hp, wrap_i64 _ h.1 h.2, Int.mul_tdiv_cancel _ hb, wrap_i64 _ ra.1 ra.2]
theorem times_r (a b : Int) (ra : -9223372036854775808 ≤ a ∧ a ≤ 9223372036854775807) (rb : -9223372036854775808 ≤ b ∧ b ≤ 9223372036854775807) (w : World) : Ret Tryz.prog 47 [.int .i64 a, .int .i64 b] w fun v w' => (∃ n t, v = .tuple #[.int .i64 n, .bool t] ∧ t = fitsI (a * b) ∧ (fitsI (a * b) = true → n = a * b)) ∧ Below w.heap.size w w' := by
  have hb := Below.refl w.heap.size w
  refine enter Tryz.func47 rfl rfl rfl ?_
  refine Wc.seq fun _ hK_1 => ?_
  refine Wc.region ?_
  refine Wl.y (y_assign rfl) rfl ?_
  refine Wl.y (y_assign rfl) rfl ?_
  refine Wl.nil ?_
  refine Wq.next hK_1 ?_
  refine Wc.seq fun _ hK_4 => ?_
  refine Wc.seq fun _ hK_5 => ?_
  refine Wc.region ?_
  refine Wl.y (y_move rfl) rfl ?_
  refine Wl.y (y_eqli rfl rfl) rfl ?_
  refine Wl.y (y_move rfl) rfl ?_
  refine Wl.guardF rfl rfl rfl (fun g_9 => ?_) (fun g_9 => ?_)
  ·
   have g_9_ := g_9
   try simp only [decide_eq_true_eq, decide_eq_false_iff_not, beq_iff_eq, beq_eq_false_iff_ne, bne_iff_ne, bne_eq_false_iff_eq, Bool.not_eq_true', Bool.not_eq_false', Bool.not_eq_eq_eq_not, Bool.not_true, Bool.not_false, ne_eq, Int.not_lt, Int.not_le] at g_9
   refine Wl.off' rfl rfl g_9_ rfl rfl ?_
   refine Wl.y (y_pickT rfl g_9_ rfl) rfl ?_
   refine Wl.nil ?_
   refine Wq.next hK_5 ?_
   refine Wc.condT rfl rfl ?_
   refine Wc.seq fun _ hK_11 => ?_
   refine Wc.region ?_
   refine Wl.y (y_assign rfl) rfl ?_
   refine Wl.y (y_assign rfl) rfl ?_
   refine Wl.nil ?_
   refine Wq.next hK_11 ?_
   refine Wc.ret ?_
   refine Wq.then_ret ?_
   refine ret2 rfl rfl rfl ?_
   exact ⟨_, rfl, ⟨_, _, rfl, by rw [g_9, Int.zero_mul]; rfl, fun _ => by rw [g_9, Int.zero_mul]⟩, hb⟩
  ·
   have g_9_ := g_9
   try simp only [decide_eq_true_eq, decide_eq_false_iff_not, beq_iff_eq, beq_eq_false_iff_ne, bne_iff_ne, bne_eq_false_iff_eq, Bool.not_eq_true', Bool.not_eq_false', Bool.not_eq_eq_eq_not, Bool.not_true, Bool.not_false, ne_eq, Int.not_lt, Int.not_le] at g_9
   refine Wl.y (y_move rfl) rfl ?_
   refine Wl.on' rfl rfl g_9_ ?_
   refine Wl.y (y_eqli rfl rfl) rfl ?_
   refine Wl.y (y_pickF rfl g_9_ rfl) rfl ?_
   refine Wl.nil ?_
   refine Wq.next hK_5 ?_
   refine Wc.cond rfl (fun c0_17 => ?_) (fun c0_17 => ?_)
   ·
    have c0_17_ := c0_17
    try simp only [decide_eq_true_eq, decide_eq_false_iff_not, beq_iff_eq, beq_eq_false_iff_ne, bne_iff_ne, bne_eq_false_iff_eq, Bool.not_eq_true', Bool.not_eq_false', Bool.not_eq_eq_eq_not, Bool.not_true, Bool.not_false, ne_eq, Int.not_lt, Int.not_le] at c0_17
    refine Wc.seq fun _ hK_18 => ?_
    refine Wc.region ?_
    refine Wl.y (y_assign rfl) rfl ?_
    refine Wl.y (y_assign rfl) rfl ?_
    refine Wl.nil ?_
    refine Wq.next hK_18 ?_
    refine Wc.ret ?_
    refine Wq.then_ret ?_
    refine ret2 rfl rfl rfl ?_
    exact ⟨_, rfl, ⟨_, _, rfl, by rw [c0_17, Int.mul_zero]; rfl, fun _ => by rw [c0_17, Int.mul_zero]⟩, hb⟩
   ·
    have c0_17_ := c0_17
    try simp only [decide_eq_true_eq, decide_eq_false_iff_not, beq_iff_eq, beq_eq_false_iff_ne, bne_iff_ne, bne_eq_false_iff_eq, Bool.not_eq_true', Bool.not_eq_false', Bool.not_eq_eq_eq_not, Bool.not_true, Bool.not_false, ne_eq, Int.not_lt, Int.not_le] at c0_17
    refine Wc.skip ?_
    refine Wq.next hK_4 ?_
    refine Wc.seq fun _ hK_21 => ?_
    refine Wc.seq fun _ hK_22 => ?_
    refine Wc.region ?_
    refine Wl.y (y_move rfl) rfl ?_
    refine Wl.y (y_eqli rfl rfl) rfl ?_
    refine Wl.nil ?_
    refine Wq.next hK_22 ?_
    refine Wc.cond rfl (fun c1_25 => ?_) (fun c1_25 => ?_)
    ·
     have c1_25_ := c1_25
     try simp only [decide_eq_true_eq, decide_eq_false_iff_not, beq_iff_eq, beq_eq_false_iff_ne, bne_iff_ne, bne_eq_false_iff_eq, Bool.not_eq_true', Bool.not_eq_false', Bool.not_eq_eq_eq_not, Bool.not_true, Bool.not_false, ne_eq, Int.not_lt, Int.not_le] at c1_25
     refine Wc.seq fun _ hK_26 => ?_
     refine Wc.region ?_
     refine Wl.y (y_move rfl) rfl ?_
     refine Wl.y (y_negi rfl) rfl ?_
     refine Wl.y (y_move rfl) rfl ?_
     refine Wl.y (y_neqi rfl rfl) rfl ?_
     refine Wl.y (y_assign rfl) rfl ?_
     refine Wl.y (y_assign rfl) rfl ?_
     refine Wl.nil ?_
     refine Wq.next hK_26 ?_
     refine Wc.ret ?_
     refine Wq.then_ret ?_
     refine ret2 rfl rfl rfl ?_
     exact ⟨_, rfl, ⟨_, _, rfl, by rw [c1_25, Int.neg_one_mul]; exact (neg_ok rb).1, by rw [c1_25, Int.neg_one_mul]; exact (neg_ok rb).2⟩, hb⟩
    ·
     have c1_25_ := c1_25
     try simp only [decide_eq_true_eq, decide_eq_false_iff_not, beq_iff_eq, beq_eq_false_iff_ne, bne_iff_ne, bne_eq_false_iff_eq, Bool.not_eq_true', Bool.not_eq_false', Bool.not_eq_eq_eq_not, Bool.not_true, Bool.not_false, ne_eq, Int.not_lt, Int.not_le] at c1_25
     refine Wc.skip ?_
     refine Wq.next hK_21 ?_
     refine Wc.seq fun _ hK_33 => ?_
     refine Wc.seq fun _ hK_34 => ?_
     refine Wc.region ?_
     refine Wl.y (y_move rfl) rfl ?_
     refine Wl.y (y_eqli rfl rfl) rfl ?_
     refine Wl.nil ?_
     refine Wq.next hK_34 ?_
     refine Wc.cond rfl (fun c2_37 => ?_) (fun c2_37 => ?_)
     ·
      have c2_37_ := c2_37
      try simp only [decide_eq_true_eq, decide_eq_false_iff_not, beq_iff_eq, beq_eq_false_iff_ne, bne_iff_ne, bne_eq_false_iff_eq, Bool.not_eq_true', Bool.not_eq_false', Bool.not_eq_eq_eq_not, Bool.not_true, Bool.not_false, ne_eq, Int.not_lt, Int.not_le] at c2_37
      refine Wc.seq fun _ hK_38 => ?_
      refine Wc.region ?_
      refine Wl.y (y_move rfl) rfl ?_
      refine Wl.y (y_negi rfl) rfl ?_
      refine Wl.y (y_move rfl) rfl ?_
      refine Wl.y (y_neqi rfl rfl) rfl ?_
      refine Wl.y (y_assign rfl) rfl ?_
      refine Wl.y (y_assign rfl) rfl ?_
      refine Wl.nil ?_
      refine Wq.next hK_38 ?_
      refine Wc.ret ?_
      refine Wq.then_ret ?_
      refine ret2 rfl rfl rfl ?_
      exact ⟨_, rfl, ⟨_, _, rfl, by rw [c2_37, Int.mul_neg_one]; exact (neg_ok ra).1, by rw [c2_37, Int.mul_neg_one]; exact (neg_ok ra).2⟩, hb⟩
     ·
      have c2_37_ := c2_37
      try simp only [decide_eq_true_eq, decide_eq_false_iff_not, beq_iff_eq, beq_eq_false_iff_ne, bne_iff_ne, bne_eq_false_iff_eq, Bool.not_eq_true', Bool.not_eq_false', Bool.not_eq_eq_eq_not, Bool.not_true, Bool.not_false, ne_eq, Int.not_lt, Int.not_le] at c2_37
      refine Wc.skip ?_
      refine Wq.next hK_33 ?_
      refine Wc.seq fun _ hK_45 => ?_
      refine Wc.region ?_
      refine Wl.y (y_move rfl) rfl ?_
      refine Wl.y (y_move rfl) rfl ?_
      refine Wl.y (y_mul rfl rfl) rfl ?_
      refine Wl.y (y_assign rfl) rfl ?_
      refine Wl.nil ?_
      refine Wq.next hK_45 ?_
      refine Wc.seq fun _ hK_50 => ?_
      refine Wc.quiet (by kernel_rfl) (by kernel_rfl) ?_
      refine Wy.y (y_move rfl) rfl ?_
      refine Wy.y (y_move rfl) rfl ?_
      refine Wy.y (y_move rfl) rfl ?_
      refine Wy.y (y_quo rfl rfl (by first | decide | omega)) rfl ?_
      refine Wy.y (y_move rfl) rfl ?_
      refine Wy.y (y_eqli rfl rfl) rfl ?_
      refine Wy.y (y_assign rfl) rfl ?_
      refine Wy.y (y_assign rfl) rfl ?_
      refine Wy.nil fun w_g8 hs_g8 => ?_
      have hz_g8 := hs_g8.size
      have hb := hb.trans (hs_g8.mono hb.size)
      refine Wq.next hK_50 ?_
      refine Wc.ret ?_
      refine ret2 rfl rfl rfl ?_
      exact ⟨_, rfl, ⟨_, _, rfl, quo_ok ra rb c0_17 g_9 c2_37, fun h => by have h2 := fits_iff.1 h; exact wrap_i64 _ h2.1 h2.2⟩, hb⟩

theorem sub_min {a : Int} (ra : -9223372036854775808 ≤ a ∧ a ≤ 9223372036854775807) : decide (a < 0) = fitsI (a - -9223372036854775808) ∧ (fitsI (a - -9223372036854775808) = true → IntKind.i64.wrap (a - -9223372036854775808) = a - -9223372036854775808) := by
  constructor
  · rw [Bool.eq_iff_iff, decide_eq_true_eq, fits_iff]; omega
  · intro h; have := fits_iff.1 h; exact wrap_i64 _ this.1 this.2
theorem exact_add {op : List UInt8} (a b : Int) (h : op = [43]) : exactV op a b = a + b := by unfold exactV; rw [if_pos h]
theorem exact_sub {op : List UInt8} (a b : Int) (h : op = [45]) : exactV op a b = a - b := by subst h; rfl
theorem exact_mul {op : List UInt8} (a b : Int) (h : ¬ op = [43]) (h2 : ¬ op = [45]) : exactV op a b = a * b := by unfold exactV; rw [if_neg h, if_neg h2]
theorem float_add {op : List UInt8} (a b : Nat) (h : op = [43]) : floatV op a b = fop .add a b := by unfold floatV; rw [if_pos h]
theorem float_sub {op : List UInt8} (a b : Nat) (h : op = [45]) : floatV op a b = fop .sub a b := by subst h; rfl
theorem float_mul {op : List UInt8} (a b : Nat) (h : ¬ op = [43]) (h2 : ¬ op = [45]) : floatV op a b = fop .mul a b := by unfold floatV; rw [if_neg h, if_neg h2]
theorem neg_b {b : Val} (ob : b.Ok) (h : ¬ b.n = -9223372036854775808) : IntKind.i64.wrap (0 - b.n) = -b.n := by
  have := ob.n0; have := ob.n1; rw [wrap_i64 _ (by omega) (by omega)]; omega
def OkX (op : List UInt8) (a b n : Int) (t : Bool) : Prop := t = fitsI (exactV op a b) ∧ (fitsI (exactV op a b) = true → n = exactV op a b)
theorem okx_add {op : List UInt8} {a b n : Int} {t : Bool} (h : op = [43]) (h1 : t = fitsI (a + b)) (h2 : fitsI (a + b) = true → n = a + b) : OkX op a b n t := by unfold OkX; rw [exact_add a b h]; exact ⟨h1, h2⟩
theorem okx_mul {op : List UInt8} {a b n : Int} {t : Bool} (h : ¬ op = [43]) (h' : ¬ op = [45]) (h1 : t = fitsI (a * b)) (h2 : fitsI (a * b) = true → n = a * b) : OkX op a b n t := by unfold OkX; rw [exact_mul a b h h']; exact ⟨h1, h2⟩
theorem okx_sub {op : List UInt8} {a b n : Int} {t : Bool} (h : op = [45]) (h1 : t = fitsI (a + -b)) (h2 : fitsI (a + -b) = true → n = a + -b) : OkX op a b n t := by unfold OkX; rw [exact_sub a b h, Int.sub_eq_add_neg]; exact ⟨h1, h2⟩
theorem okx_min {op : List UInt8} {a b : Int} (ra : -9223372036854775808 ≤ a ∧ a ≤ 9223372036854775807) (h : op = [45] ∧ b = -9223372036854775808) : OkX op a b (IntKind.i64.wrap (a - b)) (decide (a < 0)) := by
  unfold OkX; rw [exact_sub a b h.1, h.2]; exact sub_min ra
theorem float_of {op : List UInt8} {x y r : Nat} (h : ¬ op = [45]) (hr : canon r = (if op = [43] then fop .add x y else fop .mul x y)) : canon r = floatV op x y := by
  unfold floatV; rw [hr]; split
  · rfl
  · first | rfl | rw [if_neg h]
theorem frombits (x : Nat) : ((x : Int)).toNat = x := Int.toNat_natCast x
set_option maxHeartbeats 1000000 in
theorem RReckon_r (op : List UInt8) (a b : Val) (oa : a.Ok) (ob : b.Ok) (w : World) : Ret Tryz.prog 21 [str op, a.enc, b.enc] w fun v w' => v = .tuple #[(reckonV op a b).1.enc, .int .i64 (reckonV op a b).2] ∧ Below w.heap.size w w' := by
  have hb := Below.refl w.heap.size w
  refine enter Tryz.func21 rfl rfl rfl ?_
  refine Wc.seq fun _ hK_1 => ?_
  refine Wc.region ?_
  refine Wl.boxN rfl rfl ?_
  rintro g_o0 w_o0 hg_o0 hn_o0 hs_o0
  have hz_o0 := hs_o0.size
  have hb := hb.trans (hs_o0.mono hb.size)
  have hB_o0 := hn_o0
  have hl_o0 := hB_o0.lt
  refine Wl.boxN rfl rfl ?_
  rintro g_o1 w_o1 hg_o1 hn_o1 hs_o1
  have hz_o1 := hs_o1.size
  have hb := hb.trans (hs_o1.mono hb.size)
  try have hB_o0 := Blk.below hB_o0 hs_o1
  have hB_o1 := hn_o1
  have hl_o1 := hB_o1.lt
  refine Wl.allocN (z := (.agg #[(.int .i64 0), (.int .i64 0), (.float .f64 0), (str [])])) (by kernel_rfl) rfl ?_
  rintro g_o2 w_o2 hg_o2 hn_o2 hs_o2
  have hz_o2 := hs_o2.size
  have hb := hb.trans (hs_o2.mono hb.size)
  try have hB_o0 := Blk.below hB_o0 hs_o2
  try have hB_o1 := Blk.below hB_o1 hs_o2
  have hB_o2 := hn_o2
  have hl_o2 := hB_o2.lt
  refine Wl.y (y_assign rfl) rfl ?_
  refine Wl.nil ?_
  refine Wq.next hK_1 ?_
  refine Wc.seq fun _ hK_6 => ?_
  refine Wc.region ?_
  refine Wl.l (l_loadS Tryz.underlying28 (by kernel_rfl) rfl (by first | exact fun j u hu => hB_o0.at hu | exact fun j u hu => hB_o1.at hu | exact fun j u hu => hB_o2.at hu | assumption)) rfl ?_
  refine Wl.call txt28RefX rfl rfl (RRight_r a oa _) rfl ?_
  rintro _ w_k0 ⟨rfl, hs_k0⟩
  have hz_k0 := hs_k0.size
  have hb := hb.trans (hs_k0.mono hb.size)
  try have hB_o0 := Blk.below hB_o0 hs_k0
  try have hB_o1 := Blk.below hB_o1 hs_k0
  try have hB_o2 := Blk.below hB_o2 hs_k0
  refine Wl.y (y_assign rfl) rfl ?_
  refine Wl.nil ?_
  refine Wq.next hK_6 ?_
  refine Wc.seq fun _ hK_10 => ?_
  refine Wc.region ?_
  refine Wl.l (l_loadS Tryz.underlying28 (by kernel_rfl) rfl (by first | exact fun j u hu => hB_o0.at hu | exact fun j u hu => hB_o1.at hu | exact fun j u hu => hB_o2.at hu | assumption)) rfl ?_
  refine Wl.call txt28RefX rfl rfl (RRight_r b ob _) rfl ?_
  rintro _ w_k1 ⟨rfl, hs_k1⟩
  have hz_k1 := hs_k1.size
  have hb := hb.trans (hs_k1.mono hb.size)
  try have hB_o0 := Blk.below hB_o0 hs_k1
  try have hB_o1 := Blk.below hB_o1 hs_k1
  try have hB_o2 := Blk.below hB_o2 hs_k1
  refine Wl.y (y_assign rfl) rfl ?_
  refine Wl.nil ?_
  refine Wq.next hK_10 ?_
  refine Wc.seq fun _ hK_14 => ?_
  refine Wc.seq fun _ hK_15 => ?_
  refine Wc.meet (X := Unit) (fun u_ => [(0, str op), (4, .pointer (some ⟨g_o0, 0, none⟩)), (5, .pointer (some ⟨g_o1, 0, none⟩)), (6, .pointer (some ⟨g_o2, 0, none⟩)), (7, .int .i64 0), (36, .bool (!arithV op || (!rightV a || !rightV b)))]) (fun u_ wr => Below w.heap.size w wr ∧ Blk wr g_o0 28 a.cells ∧ Blk wr g_o1 28 b.cells ∧ Blk wr g_o2 28 nullV.cells) (fun _ hM_16 => ?_) ?_
  ·
   refine Wc.region ?_
   refine Wl.y (y_move rfl) rfl ?_
   refine Wl.y (y_neqs rfl rfl) rfl ?_
   refine Wl.y (y_move rfl) rfl ?_
   refine Wl.guardT rfl rfl rfl (fun g_20 => ?_) (fun g_20 => ?_)
   ·
    have g_20_ := g_20
    refine Wl.y (y_move rfl) rfl ?_
    refine Wl.on' rfl rfl g_20_ ?_
    refine Wl.y (y_neqs rfl rfl) rfl ?_
    refine Wl.y (y_pickT rfl g_20_ rfl) rfl ?_
    refine Wl.y (y_move rfl) rfl ?_
    refine Wl.guardT rfl rfl rfl (fun g_25 => ?_) (fun g_25 => ?_)
    ·
     have g_25_ := g_25
     refine Wl.y (y_move rfl) rfl ?_
     refine Wl.on' rfl rfl g_25_ ?_
     refine Wl.y (y_neqs rfl rfl) rfl ?_
     refine Wl.y (y_pickT rfl g_25_ rfl) rfl ?_
     refine Wl.y (y_move rfl) rfl ?_
     refine Wl.guardF rfl rfl rfl (fun g_30 => ?_) (fun g_30 => ?_)
     ·
      have g_30_ := g_30
      refine Wl.off' rfl rfl g_30_ rfl rfl ?_
      refine Wl.y (y_pickT rfl g_30_ rfl) rfl ?_
      refine Wl.y (y_move rfl) rfl ?_
      refine Wl.off' rfl rfl rfl rfl rfl ?_
      refine Wl.off' rfl rfl rfl rfl rfl ?_
      refine Wl.y (y_pickT rfl rfl rfl) rfl ?_
      refine Wl.nil ?_
      refine Wq.meet hM_16 (()) (Sub.cons' rfl (by first | rfl | exact bool_eq (by unfold arithV; simp_all)) (Sub.cons' rfl (by first | rfl | exact bool_eq (by unfold arithV; simp_all)) (Sub.cons' rfl (by first | rfl | exact bool_eq (by unfold arithV; simp_all)) (Sub.cons' rfl (by first | rfl | exact bool_eq (by unfold arithV; simp_all)) (Sub.cons' rfl (by first | rfl | exact bool_eq (by unfold arithV; simp_all)) (Sub.cons' rfl (by first | rfl | exact bool_eq (by unfold arithV; simp_all)) (Sub.nil))))))) ?_
      exact ⟨hb, hB_o0, hB_o1, hB_o2⟩
     ·
      have g_30_ := g_30
      refine Wl.y (y_move rfl) rfl ?_
      refine Wl.on' rfl rfl g_30_ ?_
      refine Wl.y (y_not rfl) rfl ?_
      refine Wl.y (y_pickF rfl g_30_ rfl) rfl ?_
      refine Wl.y (y_move rfl) rfl ?_
      refine Wl.guardF rfl rfl rfl (fun g_38 => ?_) (fun g_38 => ?_)
      ·
       have g_38_ := g_38
       refine Wl.off' rfl rfl g_38_ rfl rfl ?_
       refine Wl.y (y_pickT rfl g_38_ rfl) rfl ?_
       refine Wl.nil ?_
       refine Wq.meet hM_16 (()) (Sub.cons' rfl (by first | rfl | exact bool_eq (by unfold arithV; simp_all)) (Sub.cons' rfl (by first | rfl | exact bool_eq (by unfold arithV; simp_all)) (Sub.cons' rfl (by first | rfl | exact bool_eq (by unfold arithV; simp_all)) (Sub.cons' rfl (by first | rfl | exact bool_eq (by unfold arithV; simp_all)) (Sub.cons' rfl (by first | rfl | exact bool_eq (by unfold arithV; simp_all)) (Sub.cons' rfl (by first | rfl | exact bool_eq (by unfold arithV; simp_all)) (Sub.nil))))))) ?_
       exact ⟨hb, hB_o0, hB_o1, hB_o2⟩
      ·
       have g_38_ := g_38
       refine Wl.y (y_move rfl) rfl ?_
       refine Wl.on' rfl rfl g_38_ ?_
       refine Wl.y (y_not rfl) rfl ?_
       refine Wl.y (y_pickF rfl g_38_ rfl) rfl ?_
       refine Wl.nil ?_
       refine Wq.meet hM_16 (()) (Sub.cons' rfl (by first | rfl | exact bool_eq (by unfold arithV; simp_all)) (Sub.cons' rfl (by first | rfl | exact bool_eq (by unfold arithV; simp_all)) (Sub.cons' rfl (by first | rfl | exact bool_eq (by unfold arithV; simp_all)) (Sub.cons' rfl (by first | rfl | exact bool_eq (by unfold arithV; simp_all)) (Sub.cons' rfl (by first | rfl | exact bool_eq (by unfold arithV; simp_all)) (Sub.cons' rfl (by first | rfl | exact bool_eq (by unfold arithV; simp_all)) (Sub.nil))))))) ?_
       exact ⟨hb, hB_o0, hB_o1, hB_o2⟩
    ·
     have g_25_ := g_25
     refine Wl.off' rfl rfl g_25_ rfl rfl ?_
     refine Wl.y (y_pickF rfl g_25_ rfl) rfl ?_
     refine Wl.y (y_move rfl) rfl ?_
     refine Wl.on' rfl rfl rfl ?_
     refine Wl.y (y_move rfl) rfl ?_
     refine Wl.on' rfl rfl rfl ?_
     refine Wl.y (y_not rfl) rfl ?_
     refine Wl.y (y_pickF rfl rfl rfl) rfl ?_
     refine Wl.y (y_move rfl) rfl ?_
     refine Wl.guardF rfl rfl rfl (fun g_49 => ?_) (fun g_49 => ?_)
     ·
      have g_49_ := g_49
      refine Wl.off' rfl rfl g_49_ rfl rfl ?_
      refine Wl.y (y_pickT rfl g_49_ rfl) rfl ?_
      refine Wl.nil ?_
      refine Wq.meet hM_16 (()) (Sub.cons' rfl (by first | rfl | exact bool_eq (by unfold arithV; simp_all)) (Sub.cons' rfl (by first | rfl | exact bool_eq (by unfold arithV; simp_all)) (Sub.cons' rfl (by first | rfl | exact bool_eq (by unfold arithV; simp_all)) (Sub.cons' rfl (by first | rfl | exact bool_eq (by unfold arithV; simp_all)) (Sub.cons' rfl (by first | rfl | exact bool_eq (by unfold arithV; simp_all)) (Sub.cons' rfl (by first | rfl | exact bool_eq (by unfold arithV; simp_all)) (Sub.nil))))))) ?_
      exact ⟨hb, hB_o0, hB_o1, hB_o2⟩
     ·
      have g_49_ := g_49
      refine Wl.y (y_move rfl) rfl ?_
      refine Wl.on' rfl rfl g_49_ ?_
      refine Wl.y (y_not rfl) rfl ?_
      refine Wl.y (y_pickF rfl g_49_ rfl) rfl ?_
      refine Wl.nil ?_
      refine Wq.meet hM_16 (()) (Sub.cons' rfl (by first | rfl | exact bool_eq (by unfold arithV; simp_all)) (Sub.cons' rfl (by first | rfl | exact bool_eq (by unfold arithV; simp_all)) (Sub.cons' rfl (by first | rfl | exact bool_eq (by unfold arithV; simp_all)) (Sub.cons' rfl (by first | rfl | exact bool_eq (by unfold arithV; simp_all)) (Sub.cons' rfl (by first | rfl | exact bool_eq (by unfold arithV; simp_all)) (Sub.cons' rfl (by first | rfl | exact bool_eq (by unfold arithV; simp_all)) (Sub.nil))))))) ?_
      exact ⟨hb, hB_o0, hB_o1, hB_o2⟩
   ·
    have g_20_ := g_20
    refine Wl.off' rfl rfl g_20_ rfl rfl ?_
    refine Wl.y (y_pickF rfl g_20_ rfl) rfl ?_
    refine Wl.y (y_move rfl) rfl ?_
    refine Wl.off' rfl rfl rfl rfl rfl ?_
    refine Wl.off' rfl rfl rfl rfl rfl ?_
    refine Wl.y (y_pickF rfl rfl rfl) rfl ?_
    refine Wl.y (y_move rfl) rfl ?_
    refine Wl.on' rfl rfl rfl ?_
    refine Wl.y (y_move rfl) rfl ?_
    refine Wl.on' rfl rfl rfl ?_
    refine Wl.y (y_not rfl) rfl ?_
    refine Wl.y (y_pickF rfl rfl rfl) rfl ?_
    refine Wl.y (y_move rfl) rfl ?_
    refine Wl.guardF rfl rfl rfl (fun g_62 => ?_) (fun g_62 => ?_)
    ·
     have g_62_ := g_62
     refine Wl.off' rfl rfl g_62_ rfl rfl ?_
     refine Wl.y (y_pickT rfl g_62_ rfl) rfl ?_
     refine Wl.nil ?_
     refine Wq.meet hM_16 (()) (Sub.cons' rfl (by first | rfl | exact bool_eq (by unfold arithV; simp_all)) (Sub.cons' rfl (by first | rfl | exact bool_eq (by unfold arithV; simp_all)) (Sub.cons' rfl (by first | rfl | exact bool_eq (by unfold arithV; simp_all)) (Sub.cons' rfl (by first | rfl | exact bool_eq (by unfold arithV; simp_all)) (Sub.cons' rfl (by first | rfl | exact bool_eq (by unfold arithV; simp_all)) (Sub.cons' rfl (by first | rfl | exact bool_eq (by unfold arithV; simp_all)) (Sub.nil))))))) ?_
     exact ⟨hb, hB_o0, hB_o1, hB_o2⟩
    ·
     have g_62_ := g_62
     refine Wl.y (y_move rfl) rfl ?_
     refine Wl.on' rfl rfl g_62_ ?_
     refine Wl.y (y_not rfl) rfl ?_
     refine Wl.y (y_pickF rfl g_62_ rfl) rfl ?_
     refine Wl.nil ?_
     refine Wq.meet hM_16 (()) (Sub.cons' rfl (by first | rfl | exact bool_eq (by unfold arithV; simp_all)) (Sub.cons' rfl (by first | rfl | exact bool_eq (by unfold arithV; simp_all)) (Sub.cons' rfl (by first | rfl | exact bool_eq (by unfold arithV; simp_all)) (Sub.cons' rfl (by first | rfl | exact bool_eq (by unfold arithV; simp_all)) (Sub.cons' rfl (by first | rfl | exact bool_eq (by unfold arithV; simp_all)) (Sub.cons' rfl (by first | rfl | exact bool_eq (by unfold arithV; simp_all)) (Sub.nil))))))) ?_
     exact ⟨hb, hB_o0, hB_o1, hB_o2⟩
  ·
   rintro u_ wr hI_67
   replace hI_67 : Below w.heap.size w wr ∧ Blk wr g_o0 28 a.cells ∧ Blk wr g_o1 28 b.cells ∧ Blk wr g_o2 28 nullV.cells := hI_67
   obtain ⟨hb, hB_o0, hB_o1, hB_o2⟩ := hI_67
   show Wq _ _ _ _ [(0, str op), (4, .pointer (some ⟨g_o0, 0, none⟩)), (5, .pointer (some ⟨g_o1, 0, none⟩)), (6, .pointer (some ⟨g_o2, 0, none⟩)), (7, .int .i64 0), (36, .bool (!arithV op || (!rightV a || !rightV b)))] _
   try have hzhb_g3 := hb.size
   have hlhB_o0_g3 := hB_o0.lt
   have hlhB_o1_g3 := hB_o1.lt
   have hlhB_o2_g3 := hB_o2.lt
   refine Wq.next hK_15 ?_
   refine Wc.cond rfl (fun c0_68 => ?_) (fun c0_68 => ?_)
   ·
    have c0_68_ := c0_68
    have ht : reckonV op a b = (nullV, 1) := by unfold reckonV; rw [if_pos]; have h := c0_68_; simpa using h
    refine Wc.seq fun _ hK_69 => ?_
    refine Wc.region ?_
    refine Wl.call txt39RefX rfl rfl (null_r _) rfl ?_
    rintro _ w_k2 ⟨rfl, hs_k2⟩
    have hz_k2 := hs_k2.size
    have hb := hb.trans (hs_k2.mono hb.size)
    try have hB_o2 := Blk.below hB_o2 hs_k2
    refine Wl.storeS (by kernel_rfl) rfl rfl hB_o2 rfl rfl ?_
    rintro w_s0 hn_s0 hg_s0
    have hz_s0 := hg_s0.size
    have hb := below_blk hb hg_s0 hb.size (by omega)
    have hB_o2 := hn_s0
    refine Wl.y (y_assign rfl) rfl ?_
    refine Wl.nil ?_
    refine Wq.next hK_69 ?_
    refine Wc.ret ?_
    refine Wq.then_ret ?_
    refine retN (rs := [.cell 6 28, .tmp 7]) (vs := [_, _]) rfl (.cell rfl (loadS Tryz.underlying28 (by kernel_rfl) (fun j u hu => hB_o2.at hu)) (.tmp rfl .nil)) ?_
    first | exact ⟨_, rfl, by rw [ht]; rfl, hb⟩ | exact ⟨_, rfl, by rw [ht, hn]; rfl, hb⟩ | exact ⟨_, rfl, by rw [ht, ← hr2]; rfl, hb⟩
   ·
    have c0_68_ := c0_68
    have ht0 : ¬ (arithV op = false ∨ rightV a = false ∨ rightV b = false) := by have h := c0_68_; simpa using h
    refine Wc.skip ?_
    refine Wq.next hK_14 ?_
    refine Wc.seq fun _ hK_72 => ?_
    refine Wc.seq fun _ hK_73 => ?_
    refine Wc.meet (X := Unit) (fun u_ => [(0, str op), (4, .pointer (some ⟨g_o0, 0, none⟩)), (5, .pointer (some ⟨g_o1, 0, none⟩)), (6, .pointer (some ⟨g_o2, 0, none⟩)), (7, .int .i64 0), (45, .bool (decide (a.k = 0 ∨ b.k = 0)))]) (fun u_ wr => Below w.heap.size w wr ∧ Blk wr g_o0 28 a.cells ∧ Blk wr g_o1 28 b.cells ∧ Blk wr g_o2 28 nullV.cells) (fun _ hM_74 => ?_) ?_
    ·
     refine Wc.region ?_
     refine Wl.y (y_fieldAddr (fa28_0RefX _) rfl) rfl ?_
     refine Wl.l (l_load one3RefX rfl (by first | exact hB_o0.at rfl | exact hB_o1.at rfl | exact hB_o2.at rfl | exact hB_o0.cell 0 | exact hB_o1.cell 0 | exact hB_o2.cell 0 | assumption)) rfl ?_
     refine Wl.y (y_eqli rfl rfl) rfl ?_
     refine Wl.y (y_move rfl) rfl ?_
     refine Wl.guardF rfl rfl rfl (fun g_79 => ?_) (fun g_79 => ?_)
     ·
      have g_79_ := g_79
      refine Wl.off' rfl rfl g_79_ rfl rfl ?_
      refine Wl.off' rfl rfl g_79_ rfl rfl ?_
      refine Wl.y (y_pickT rfl g_79_ rfl) rfl ?_
      refine Wl.nil ?_
      refine Wq.meet hM_74 (()) (Sub.cons' rfl (by first | rfl | exact bool_eq (by simp_all [beqI])) (Sub.cons' rfl (by first | rfl | exact bool_eq (by simp_all [beqI])) (Sub.cons' rfl (by first | rfl | exact bool_eq (by simp_all [beqI])) (Sub.cons' rfl (by first | rfl | exact bool_eq (by simp_all [beqI])) (Sub.cons' rfl (by first | rfl | exact bool_eq (by simp_all [beqI])) (Sub.cons' rfl (by first | rfl | exact bool_eq (by simp_all [beqI])) (Sub.nil))))))) ?_
      exact ⟨hb, hB_o0, hB_o1, hB_o2⟩
     ·
      have g_79_ := g_79
      refine Wl.y (y_fieldAddr (fa28_0RefX _) rfl) rfl ?_
      refine Wl.on' rfl rfl g_79_ ?_
      refine Wl.l (l_load one3RefX rfl (by first | exact hB_o0.at rfl | exact hB_o1.at rfl | exact hB_o2.at rfl | exact hB_o0.cell 0 | exact hB_o1.cell 0 | exact hB_o2.cell 0 | assumption)) rfl ?_
      refine Wl.on' rfl rfl g_79_ ?_
      refine Wl.y (y_eqli rfl rfl) rfl ?_
      refine Wl.y (y_pickF rfl g_79_ rfl) rfl ?_
      refine Wl.nil ?_
      refine Wq.meet hM_74 (()) (Sub.cons' rfl (by first | rfl | exact bool_eq (by simp_all [beqI])) (Sub.cons' rfl (by first | rfl | exact bool_eq (by simp_all [beqI])) (Sub.cons' rfl (by first | rfl | exact bool_eq (by simp_all [beqI])) (Sub.cons' rfl (by first | rfl | exact bool_eq (by simp_all [beqI])) (Sub.cons' rfl (by first | rfl | exact bool_eq (by simp_all [beqI])) (Sub.cons' rfl (by first | rfl | exact bool_eq (by simp_all [beqI])) (Sub.nil))))))) ?_
      exact ⟨hb, hB_o0, hB_o1, hB_o2⟩
    ·
     rintro u_ wr hI_85
     replace hI_85 : Below w.heap.size w wr ∧ Blk wr g_o0 28 a.cells ∧ Blk wr g_o1 28 b.cells ∧ Blk wr g_o2 28 nullV.cells := hI_85
     obtain ⟨hb, hB_o0, hB_o1, hB_o2⟩ := hI_85
     show Wq _ _ _ _ [(0, str op), (4, .pointer (some ⟨g_o0, 0, none⟩)), (5, .pointer (some ⟨g_o1, 0, none⟩)), (6, .pointer (some ⟨g_o2, 0, none⟩)), (7, .int .i64 0), (45, .bool (decide (a.k = 0 ∨ b.k = 0)))] _
     try have hzhb_g5 := hb.size
     have hlhB_o0_g5 := hB_o0.lt
     have hlhB_o1_g5 := hB_o1.lt
     have hlhB_o2_g5 := hB_o2.lt
     refine Wq.next hK_73 ?_
     refine Wc.cond rfl (fun c1_86 => ?_) (fun c1_86 => ?_)
     ·
      try simp only [decide_eq_true_eq, decide_eq_false_iff_not, beq_iff_eq, beq_eq_false_iff_ne, bne_iff_ne, bne_eq_false_iff_eq, Bool.not_eq_true', Bool.not_eq_false', Bool.not_eq_eq_eq_not, Bool.not_true, Bool.not_false, ne_eq, Int.not_lt, Int.not_le] at c1_86
      have ht : reckonV op a b = (nullV, 0) := by unfold reckonV; rw [if_neg ht0, if_pos c1_86]
      refine Wc.seq fun _ hK_87 => ?_
      refine Wc.region ?_
      refine Wl.call txt39RefX rfl rfl (null_r _) rfl ?_
      rintro _ w_k3 ⟨rfl, hs_k3⟩
      have hz_k3 := hs_k3.size
      have hb := hb.trans (hs_k3.mono hb.size)
      try have hB_o2 := Blk.below hB_o2 hs_k3
      refine Wl.storeS (by kernel_rfl) rfl rfl hB_o2 rfl rfl ?_
      rintro w_s1 hn_s1 hg_s1
      have hz_s1 := hg_s1.size
      have hb := below_blk hb hg_s1 hb.size (by omega)
      have hB_o2 := hn_s1
      refine Wl.y (y_assign rfl) rfl ?_
      refine Wl.nil ?_
      refine Wq.next hK_87 ?_
      refine Wc.ret ?_
      refine Wq.then_ret ?_
      refine retN (rs := [.cell 6 28, .tmp 7]) (vs := [_, _]) rfl (.cell rfl (loadS Tryz.underlying28 (by kernel_rfl) (fun j u hu => hB_o2.at hu)) (.tmp rfl .nil)) ?_
      first | exact ⟨_, rfl, by rw [ht]; rfl, hb⟩ | exact ⟨_, rfl, by rw [ht, hn]; rfl, hb⟩ | exact ⟨_, rfl, by rw [ht, ← hr2]; rfl, hb⟩
     ·
      try simp only [decide_eq_true_eq, decide_eq_false_iff_not, beq_iff_eq, beq_eq_false_iff_ne, bne_iff_ne, bne_eq_false_iff_eq, Bool.not_eq_true', Bool.not_eq_false', Bool.not_eq_eq_eq_not, Bool.not_true, Bool.not_false, ne_eq, Int.not_lt, Int.not_le] at c1_86
      refine Wc.skip ?_
      refine Wq.next hK_72 ?_
      refine Wc.seq fun _ hK_90 => ?_
      refine Wc.seq fun _ hK_91 => ?_
      refine Wc.meet (X := Unit) (fun u_ => [(0, str op), (4, .pointer (some ⟨g_o0, 0, none⟩)), (5, .pointer (some ⟨g_o1, 0, none⟩)), (6, .pointer (some ⟨g_o2, 0, none⟩)), (7, .int .i64 0), (54, .bool (!numV a || !numV b))]) (fun u_ wr => Below w.heap.size w wr ∧ Blk wr g_o0 28 a.cells ∧ Blk wr g_o1 28 b.cells ∧ Blk wr g_o2 28 nullV.cells) (fun _ hM_92 => ?_) ?_
      ·
       refine Wc.region ?_
       refine Wl.l (l_loadS Tryz.underlying28 (by kernel_rfl) rfl (by first | exact fun j u hu => hB_o0.at hu | exact fun j u hu => hB_o1.at hu | exact fun j u hu => hB_o2.at hu | assumption)) rfl ?_
       refine Wl.call txt40RefX rfl rfl (rnumber_r a _) rfl ?_
       rintro _ w_k4 ⟨rfl, hs_k4⟩
       have hz_k4 := hs_k4.size
       have hb := hb.trans (hs_k4.mono hb.size)
       try have hB_o0 := Blk.below hB_o0 hs_k4
       try have hB_o1 := Blk.below hB_o1 hs_k4
       try have hB_o2 := Blk.below hB_o2 hs_k4
       refine Wl.y (y_not rfl) rfl ?_
       refine Wl.y (y_move rfl) rfl ?_
       refine Wl.guardF rfl rfl rfl (fun g_97 => ?_) (fun g_97 => ?_)
       ·
        have g_97_ := g_97
        refine Wl.off' rfl rfl g_97_ rfl rfl ?_
        refine Wl.off' rfl rfl g_97_ rfl rfl ?_
        refine Wl.y (y_pickT rfl g_97_ rfl) rfl ?_
        refine Wl.nil ?_
        refine Wq.meet hM_92 (()) (Sub.cons' rfl (by first | rfl | exact bool_eq (by simp_all)) (Sub.cons' rfl (by first | rfl | exact bool_eq (by simp_all)) (Sub.cons' rfl (by first | rfl | exact bool_eq (by simp_all)) (Sub.cons' rfl (by first | rfl | exact bool_eq (by simp_all)) (Sub.cons' rfl (by first | rfl | exact bool_eq (by simp_all)) (Sub.cons' rfl (by first | rfl | exact bool_eq (by simp_all)) (Sub.nil))))))) ?_
        exact ⟨hb, hB_o0, hB_o1, hB_o2⟩
       ·
        have g_97_ := g_97
        refine Wl.l (l_loadS Tryz.underlying28 (by kernel_rfl) rfl (by first | exact fun j u hu => hB_o0.at hu | exact fun j u hu => hB_o1.at hu | exact fun j u hu => hB_o2.at hu | assumption)) rfl ?_
        refine Wl.on' rfl rfl g_97_ ?_
        refine Wl.call txt40RefX rfl rfl (rnumber_r b _) rfl ?_
        rintro _ w_k5 ⟨rfl, hs_k5⟩
        have hz_k5 := hs_k5.size
        have hb := hb.trans (hs_k5.mono hb.size)
        try have hB_o0 := Blk.below hB_o0 hs_k5
        try have hB_o1 := Blk.below hB_o1 hs_k5
        try have hB_o2 := Blk.below hB_o2 hs_k5
        refine Wl.on' rfl rfl g_97_ ?_
        refine Wl.y (y_not rfl) rfl ?_
        refine Wl.y (y_pickF rfl g_97_ rfl) rfl ?_
        refine Wl.nil ?_
        refine Wq.meet hM_92 (()) (Sub.cons' rfl (by first | rfl | exact bool_eq (by simp_all)) (Sub.cons' rfl (by first | rfl | exact bool_eq (by simp_all)) (Sub.cons' rfl (by first | rfl | exact bool_eq (by simp_all)) (Sub.cons' rfl (by first | rfl | exact bool_eq (by simp_all)) (Sub.cons' rfl (by first | rfl | exact bool_eq (by simp_all)) (Sub.cons' rfl (by first | rfl | exact bool_eq (by simp_all)) (Sub.nil))))))) ?_
        exact ⟨hb, hB_o0, hB_o1, hB_o2⟩
      ·
       rintro u_ wr hI_103
       replace hI_103 : Below w.heap.size w wr ∧ Blk wr g_o0 28 a.cells ∧ Blk wr g_o1 28 b.cells ∧ Blk wr g_o2 28 nullV.cells := hI_103
       obtain ⟨hb, hB_o0, hB_o1, hB_o2⟩ := hI_103
       show Wq _ _ _ _ [(0, str op), (4, .pointer (some ⟨g_o0, 0, none⟩)), (5, .pointer (some ⟨g_o1, 0, none⟩)), (6, .pointer (some ⟨g_o2, 0, none⟩)), (7, .int .i64 0), (54, .bool (!numV a || !numV b))] _
       try have hzhb_g7 := hb.size
       have hlhB_o0_g7 := hB_o0.lt
       have hlhB_o1_g7 := hB_o1.lt
       have hlhB_o2_g7 := hB_o2.lt
       refine Wq.next hK_91 ?_
       refine Wc.cond rfl (fun c2_104 => ?_) (fun c2_104 => ?_)
       ·
        have c2_104_ := c2_104
        have ht : reckonV op a b = (nullV, 4) := by unfold reckonV; rw [if_neg ht0, if_neg c1_86, if_pos]; have h := c2_104_; simpa using h
        refine Wc.seq fun _ hK_105 => ?_
        refine Wc.region ?_
        refine Wl.call txt39RefX rfl rfl (null_r _) rfl ?_
        rintro _ w_k6 ⟨rfl, hs_k6⟩
        have hz_k6 := hs_k6.size
        have hb := hb.trans (hs_k6.mono hb.size)
        try have hB_o2 := Blk.below hB_o2 hs_k6
        refine Wl.storeS (by kernel_rfl) rfl rfl hB_o2 rfl rfl ?_
        rintro w_s2 hn_s2 hg_s2
        have hz_s2 := hg_s2.size
        have hb := below_blk hb hg_s2 hb.size (by omega)
        have hB_o2 := hn_s2
        refine Wl.y (y_assign rfl) rfl ?_
        refine Wl.nil ?_
        refine Wq.next hK_105 ?_
        refine Wc.ret ?_
        refine Wq.then_ret ?_
        refine retN (rs := [.cell 6 28, .tmp 7]) (vs := [_, _]) rfl (.cell rfl (loadS Tryz.underlying28 (by kernel_rfl) (fun j u hu => hB_o2.at hu)) (.tmp rfl .nil)) ?_
        first | exact ⟨_, rfl, by rw [ht]; rfl, hb⟩ | exact ⟨_, rfl, by rw [ht, hn]; rfl, hb⟩ | exact ⟨_, rfl, by rw [ht, ← hr2]; rfl, hb⟩
       ·
        have c2_104_ := c2_104
        have ht2 : ¬ (numV a = false ∨ numV b = false) := by have h := c2_104_; simpa using h
        refine Wc.skip ?_
        refine Wq.next hK_90 ?_
        refine Wc.seq fun _ hK_108 => ?_
        refine Wc.seq fun _ hK_109 => ?_
        refine Wc.meet (X := Unit) (fun u_ => [(0, str op), (4, .pointer (some ⟨g_o0, 0, none⟩)), (5, .pointer (some ⟨g_o1, 0, none⟩)), (6, .pointer (some ⟨g_o2, 0, none⟩)), (7, .int .i64 0), (63, .bool (decide (a.k = 2 ∧ b.k = 2)))]) (fun u_ wr => Below w.heap.size w wr ∧ Blk wr g_o0 28 a.cells ∧ Blk wr g_o1 28 b.cells ∧ Blk wr g_o2 28 nullV.cells) (fun _ hM_110 => ?_) ?_
        ·
         refine Wc.region ?_
         refine Wl.y (y_fieldAddr (fa28_0RefX _) rfl) rfl ?_
         refine Wl.l (l_load one3RefX rfl (by first | exact hB_o0.at rfl | exact hB_o1.at rfl | exact hB_o2.at rfl | exact hB_o0.cell 0 | exact hB_o1.cell 0 | exact hB_o2.cell 0 | assumption)) rfl ?_
         refine Wl.y (y_eqli rfl rfl) rfl ?_
         refine Wl.y (y_move rfl) rfl ?_
         refine Wl.guardT rfl rfl rfl (fun g_115 => ?_) (fun g_115 => ?_)
         ·
          have g_115_ := g_115
          refine Wl.y (y_fieldAddr (fa28_0RefX _) rfl) rfl ?_
          refine Wl.on' rfl rfl g_115_ ?_
          refine Wl.l (l_load one3RefX rfl (by first | exact hB_o0.at rfl | exact hB_o1.at rfl | exact hB_o2.at rfl | exact hB_o0.cell 0 | exact hB_o1.cell 0 | exact hB_o2.cell 0 | assumption)) rfl ?_
          refine Wl.on' rfl rfl g_115_ ?_
          refine Wl.y (y_eqli rfl rfl) rfl ?_
          refine Wl.y (y_pickT rfl g_115_ rfl) rfl ?_
          refine Wl.nil ?_
          refine Wq.meet hM_110 (()) (Sub.cons' rfl (by first | rfl | exact bool_eq (by simp_all [beqI])) (Sub.cons' rfl (by first | rfl | exact bool_eq (by simp_all [beqI])) (Sub.cons' rfl (by first | rfl | exact bool_eq (by simp_all [beqI])) (Sub.cons' rfl (by first | rfl | exact bool_eq (by simp_all [beqI])) (Sub.cons' rfl (by first | rfl | exact bool_eq (by simp_all [beqI])) (Sub.cons' rfl (by first | rfl | exact bool_eq (by simp_all [beqI])) (Sub.nil))))))) ?_
          exact ⟨hb, hB_o0, hB_o1, hB_o2⟩
         ·
          have g_115_ := g_115
          refine Wl.off' rfl rfl g_115_ rfl rfl ?_
          refine Wl.off' rfl rfl g_115_ rfl rfl ?_
          refine Wl.y (y_pickF rfl g_115_ rfl) rfl ?_
          refine Wl.nil ?_
          refine Wq.meet hM_110 (()) (Sub.cons' rfl (by first | rfl | exact bool_eq (by simp_all [beqI])) (Sub.cons' rfl (by first | rfl | exact bool_eq (by simp_all [beqI])) (Sub.cons' rfl (by first | rfl | exact bool_eq (by simp_all [beqI])) (Sub.cons' rfl (by first | rfl | exact bool_eq (by simp_all [beqI])) (Sub.cons' rfl (by first | rfl | exact bool_eq (by simp_all [beqI])) (Sub.cons' rfl (by first | rfl | exact bool_eq (by simp_all [beqI])) (Sub.nil))))))) ?_
          exact ⟨hb, hB_o0, hB_o1, hB_o2⟩
        ·
         rintro u_ wr hI_121
         replace hI_121 : Below w.heap.size w wr ∧ Blk wr g_o0 28 a.cells ∧ Blk wr g_o1 28 b.cells ∧ Blk wr g_o2 28 nullV.cells := hI_121
         obtain ⟨hb, hB_o0, hB_o1, hB_o2⟩ := hI_121
         show Wq _ _ _ _ [(0, str op), (4, .pointer (some ⟨g_o0, 0, none⟩)), (5, .pointer (some ⟨g_o1, 0, none⟩)), (6, .pointer (some ⟨g_o2, 0, none⟩)), (7, .int .i64 0), (63, .bool (decide (a.k = 2 ∧ b.k = 2)))] _
         try have hzhb_g9 := hb.size
         have hlhB_o0_g9 := hB_o0.lt
         have hlhB_o1_g9 := hB_o1.lt
         have hlhB_o2_g9 := hB_o2.lt
         refine Wq.next hK_109 ?_
         refine Wc.cond rfl (fun c3_122 => ?_) (fun c3_122 => ?_)
         ·
          try simp only [decide_eq_true_eq, decide_eq_false_iff_not, beq_iff_eq, beq_eq_false_iff_ne, bne_iff_ne, bne_eq_false_iff_eq, Bool.not_eq_true', Bool.not_eq_false', Bool.not_eq_eq_eq_not, Bool.not_true, Bool.not_false, ne_eq, Int.not_lt, Int.not_le] at c3_122
          refine Wc.seq fun _ hK_123 => ?_
          refine Wc.region ?_
          refine Wl.y (y_fieldAddr (fa28_1RefX _) rfl) rfl ?_
          refine Wl.l (l_load one2RefX rfl (by first | exact hB_o0.at rfl | exact hB_o1.at rfl | exact hB_o2.at rfl | exact hB_o0.cell 0 | exact hB_o1.cell 0 | exact hB_o2.cell 0 | assumption)) rfl ?_
          refine Wl.y (y_fieldAddr (fa28_1RefX _) rfl) rfl ?_
          refine Wl.l (l_load one2RefX rfl (by first | exact hB_o0.at rfl | exact hB_o1.at rfl | exact hB_o2.at rfl | exact hB_o0.cell 0 | exact hB_o1.cell 0 | exact hB_o2.cell 0 | assumption)) rfl ?_
          refine Wl.call txt47RefX rfl rfl (times_r _ _ ⟨oa.n0, oa.n1⟩ ⟨ob.n0, ob.n1⟩ _) rfl ?_
          rintro _ w_k7 ⟨⟨tn, tt, rfl, htt, htn⟩, hs_k7⟩
          have hz_k7 := hs_k7.size
          have hb := hb.trans (hs_k7.mono hb.size)
          try have hB_o0 := Blk.below hB_o0 hs_k7
          try have hB_o1 := Blk.below hB_o1 hs_k7
          try have hB_o2 := Blk.below hB_o2 hs_k7
          refine Wl.y (y_move rfl) rfl ?_
          refine Wl.y (y_extract rfl rfl) rfl ?_
          refine Wl.y (y_extract rfl rfl) rfl ?_
          refine Wl.y (y_assign rfl) rfl ?_
          refine Wl.y (y_assign rfl) rfl ?_
          refine Wl.nil ?_
          refine Wq.next hK_123 ?_
          refine Wc.seq fun _ hK_134 => ?_
          refine Wc.seq fun _ hK_135 => ?_
          refine Wc.region ?_
          refine Wl.y (y_move rfl) rfl ?_
          refine Wl.y (y_eqls rfl rfl) rfl ?_
          refine Wl.nil ?_
          refine Wq.next hK_135 ?_
          refine Wc.meet (X := Int × Bool) (fun (n, t) => [(0, str op), (4, .pointer (some ⟨g_o0, 0, none⟩)), (5, .pointer (some ⟨g_o1, 0, none⟩)), (6, .pointer (some ⟨g_o2, 0, none⟩)), (7, .int .i64 0), (10, .int .i64 n), (11, .bool t)]) (fun (n, t) wr => Below w.heap.size w wr ∧ Blk wr g_o0 28 a.cells ∧ Blk wr g_o1 28 b.cells ∧ Blk wr g_o2 28 nullV.cells ∧ (¬ op = [45] → OkX op a.n b.n n t)) (fun _ hM_138 => ?_) ?_
          ·
           refine Wc.cond rfl (fun c4_139 => ?_) (fun c4_139 => ?_)
           ·
            try simp only [decide_eq_true_eq, decide_eq_false_iff_not, beq_iff_eq, beq_eq_false_iff_ne, bne_iff_ne, bne_eq_false_iff_eq, Bool.not_eq_true', Bool.not_eq_false', Bool.not_eq_eq_eq_not, Bool.not_true, Bool.not_false, ne_eq, Int.not_lt, Int.not_le] at c4_139
            refine Wc.region ?_
            refine Wl.y (y_fieldAddr (fa28_1RefX _) rfl) rfl ?_
            refine Wl.l (l_load one2RefX rfl (by first | exact hB_o0.at rfl | exact hB_o1.at rfl | exact hB_o2.at rfl | exact hB_o0.cell 0 | exact hB_o1.cell 0 | exact hB_o2.cell 0 | assumption)) rfl ?_
            refine Wl.y (y_fieldAddr (fa28_1RefX _) rfl) rfl ?_
            refine Wl.l (l_load one2RefX rfl (by first | exact hB_o0.at rfl | exact hB_o1.at rfl | exact hB_o2.at rfl | exact hB_o0.cell 0 | exact hB_o1.cell 0 | exact hB_o2.cell 0 | assumption)) rfl ?_
            refine Wl.call txt48RefX rfl rfl (sum_r _ _ ⟨oa.n0, oa.n1⟩ ⟨ob.n0, ob.n1⟩ _) rfl ?_
            rintro _ w_ ⟨⟨sn, st, rfl, hst, hsn⟩, hw_⟩
            have hw_ := hw_.symm; subst hw_
            refine Wl.y (y_move rfl) rfl ?_
            refine Wl.y (y_extract rfl rfl) rfl ?_
            refine Wl.y (y_extract rfl rfl) rfl ?_
            refine Wl.y (y_assign rfl) rfl ?_
            refine Wl.y (y_assign rfl) rfl ?_
            refine Wl.nil ?_
            refine Wq.meet hM_138 ((_, _)) (Sub.cons' rfl (by first | rfl | exact int_eq (by omega) | exact int_eq (by simp) | (simp; done)) (Sub.cons' rfl (by first | rfl | exact int_eq (by omega) | exact int_eq (by simp) | (simp; done)) (Sub.cons' rfl (by first | rfl | exact int_eq (by omega) | exact int_eq (by simp) | (simp; done)) (Sub.cons' rfl (by first | rfl | exact int_eq (by omega) | exact int_eq (by simp) | (simp; done)) (Sub.cons' rfl (by first | rfl | exact int_eq (by omega) | exact int_eq (by simp) | (simp; done)) (Sub.cons' rfl (by first | rfl | exact int_eq (by omega) | exact int_eq (by simp) | (simp; done)) (Sub.cons' rfl (by first | rfl | exact int_eq (by omega) | exact int_eq (by simp) | (simp; done)) (Sub.nil)))))))) ?_
            first | exact ⟨hb, hB_o0, hB_o1, hB_o2, fun _ => okx_add c4_139 hst hsn⟩ | exact ⟨hb, hB_o0, hB_o1, hB_o2, fun h => okx_mul c4_139 h htt htn⟩
           ·
            try simp only [decide_eq_true_eq, decide_eq_false_iff_not, beq_iff_eq, beq_eq_false_iff_ne, bne_iff_ne, bne_eq_false_iff_eq, Bool.not_eq_true', Bool.not_eq_false', Bool.not_eq_eq_eq_not, Bool.not_true, Bool.not_false, ne_eq, Int.not_lt, Int.not_le] at c4_139
            refine Wc.skip ?_
            refine Wq.meet hM_138 ((_, _)) (Sub.cons' rfl (by first | rfl | exact int_eq (by omega) | exact int_eq (by simp) | (simp; done)) (Sub.cons' rfl (by first | rfl | exact int_eq (by omega) | exact int_eq (by simp) | (simp; done)) (Sub.cons' rfl (by first | rfl | exact int_eq (by omega) | exact int_eq (by simp) | (simp; done)) (Sub.cons' rfl (by first | rfl | exact int_eq (by omega) | exact int_eq (by simp) | (simp; done)) (Sub.cons' rfl (by first | rfl | exact int_eq (by omega) | exact int_eq (by simp) | (simp; done)) (Sub.cons' rfl (by first | rfl | exact int_eq (by omega) | exact int_eq (by simp) | (simp; done)) (Sub.cons' rfl (by first | rfl | exact int_eq (by omega) | exact int_eq (by simp) | (simp; done)) (Sub.nil)))))))) ?_
            first | exact ⟨hb, hB_o0, hB_o1, hB_o2, fun _ => okx_add c4_139 hst hsn⟩ | exact ⟨hb, hB_o0, hB_o1, hB_o2, fun h => okx_mul c4_139 h htt htn⟩
          ·
           rintro ⟨n, t⟩ wr hI_150
           replace hI_150 : Below w.heap.size w wr ∧ Blk wr g_o0 28 a.cells ∧ Blk wr g_o1 28 b.cells ∧ Blk wr g_o2 28 nullV.cells ∧ (¬ op = [45] → OkX op a.n b.n n t) := hI_150
           obtain ⟨hb, hB_o0, hB_o1, hB_o2, hX⟩ := hI_150
           show Wq _ _ _ _ [(0, str op), (4, .pointer (some ⟨g_o0, 0, none⟩)), (5, .pointer (some ⟨g_o1, 0, none⟩)), (6, .pointer (some ⟨g_o2, 0, none⟩)), (7, .int .i64 0), (10, .int .i64 n), (11, .bool t)] _
           try have hzhb_c4 := hb.size
           have hlhB_o0_c4 := hB_o0.lt
           have hlhB_o1_c4 := hB_o1.lt
           have hlhB_o2_c4 := hB_o2.lt
           refine Wq.next hK_134 ?_
           refine Wc.seq fun _ hK_151 => ?_
           refine Wc.seq fun _ hK_152 => ?_
           refine Wc.meet (X := Int × Bool) (fun (n, t) => [(0, str op), (4, .pointer (some ⟨g_o0, 0, none⟩)), (5, .pointer (some ⟨g_o1, 0, none⟩)), (6, .pointer (some ⟨g_o2, 0, none⟩)), (7, .int .i64 0), (10, .int .i64 n), (11, .bool t), (88, .bool (decide (op = [45] ∧ b.n = -9223372036854775808)))]) (fun (n, t) wr => Below w.heap.size w wr ∧ Blk wr g_o0 28 a.cells ∧ Blk wr g_o1 28 b.cells ∧ Blk wr g_o2 28 nullV.cells ∧ (¬ op = [45] → OkX op a.n b.n n t)) (fun _ hM_153 => ?_) ?_
           ·
            refine Wc.region ?_
            refine Wl.y (y_move rfl) rfl ?_
            refine Wl.y (y_eqls rfl rfl) rfl ?_
            refine Wl.y (y_move rfl) rfl ?_
            refine Wl.guardT rfl rfl rfl (fun g_157 => ?_) (fun g_157 => ?_)
            ·
             have g_157_ := g_157
             try simp only [decide_eq_true_eq, decide_eq_false_iff_not, beq_iff_eq, beq_eq_false_iff_ne, bne_iff_ne, bne_eq_false_iff_eq, Bool.not_eq_true', Bool.not_eq_false', Bool.not_eq_eq_eq_not, Bool.not_true, Bool.not_false, ne_eq, Int.not_lt, Int.not_le] at g_157
             refine Wl.y (y_fieldAddr (fa28_1RefX _) rfl) rfl ?_
             refine Wl.on' rfl rfl g_157_ ?_
             refine Wl.l (l_load one2RefX rfl (by first | exact hB_o0.at rfl | exact hB_o1.at rfl | exact hB_o2.at rfl | exact hB_o0.cell 0 | exact hB_o1.cell 0 | exact hB_o2.cell 0 | assumption)) rfl ?_
             refine Wl.on' rfl rfl g_157_ ?_
             refine Wl.y (y_eqli rfl rfl) rfl ?_
             refine Wl.y (y_pickT rfl g_157_ rfl) rfl ?_
             refine Wl.nil ?_
             refine Wq.meet hM_153 ((n, t)) (Sub.cons' rfl (by first | rfl | exact bool_eq (by simp [g_157, beqI])) (Sub.cons' rfl (by first | rfl | exact bool_eq (by simp [g_157, beqI])) (Sub.cons' rfl (by first | rfl | exact bool_eq (by simp [g_157, beqI])) (Sub.cons' rfl (by first | rfl | exact bool_eq (by simp [g_157, beqI])) (Sub.cons' rfl (by first | rfl | exact bool_eq (by simp [g_157, beqI])) (Sub.cons' rfl (by first | rfl | exact bool_eq (by simp [g_157, beqI])) (Sub.cons' rfl (by first | rfl | exact bool_eq (by simp [g_157, beqI])) (Sub.cons' rfl (by first | rfl | exact bool_eq (by simp [g_157, beqI])) (Sub.nil))))))))) ?_
             exact ⟨hb, hB_o0, hB_o1, hB_o2, hX⟩
            ·
             have g_157_ := g_157
             try simp only [decide_eq_true_eq, decide_eq_false_iff_not, beq_iff_eq, beq_eq_false_iff_ne, bne_iff_ne, bne_eq_false_iff_eq, Bool.not_eq_true', Bool.not_eq_false', Bool.not_eq_eq_eq_not, Bool.not_true, Bool.not_false, ne_eq, Int.not_lt, Int.not_le] at g_157
             refine Wl.off' rfl rfl g_157_ rfl rfl ?_
             refine Wl.off' rfl rfl g_157_ rfl rfl ?_
             refine Wl.y (y_pickF rfl g_157_ rfl) rfl ?_
             refine Wl.nil ?_
             refine Wq.meet hM_153 ((n, t)) (Sub.cons' rfl (by first | rfl | exact bool_eq (by simp [g_157, beqI])) (Sub.cons' rfl (by first | rfl | exact bool_eq (by simp [g_157, beqI])) (Sub.cons' rfl (by first | rfl | exact bool_eq (by simp [g_157, beqI])) (Sub.cons' rfl (by first | rfl | exact bool_eq (by simp [g_157, beqI])) (Sub.cons' rfl (by first | rfl | exact bool_eq (by simp [g_157, beqI])) (Sub.cons' rfl (by first | rfl | exact bool_eq (by simp [g_157, beqI])) (Sub.cons' rfl (by first | rfl | exact bool_eq (by simp [g_157, beqI])) (Sub.cons' rfl (by first | rfl | exact bool_eq (by simp [g_157, beqI])) (Sub.nil))))))))) ?_
             exact ⟨hb, hB_o0, hB_o1, hB_o2, hX⟩
           ·
            rintro ⟨n, t⟩ wr hI_163
            replace hI_163 : Below w.heap.size w wr ∧ Blk wr g_o0 28 a.cells ∧ Blk wr g_o1 28 b.cells ∧ Blk wr g_o2 28 nullV.cells ∧ (¬ op = [45] → OkX op a.n b.n n t) := hI_163
            obtain ⟨hb, hB_o0, hB_o1, hB_o2, hX⟩ := hI_163
            show Wq _ _ _ _ [(0, str op), (4, .pointer (some ⟨g_o0, 0, none⟩)), (5, .pointer (some ⟨g_o1, 0, none⟩)), (6, .pointer (some ⟨g_o2, 0, none⟩)), (7, .int .i64 0), (10, .int .i64 n), (11, .bool t), (88, .bool (decide (op = [45] ∧ b.n = -9223372036854775808)))] _
            try have hzhb_g13 := hb.size
            have hlhB_o0_g13 := hB_o0.lt
            have hlhB_o1_g13 := hB_o1.lt
            have hlhB_o2_g13 := hB_o2.lt
            refine Wq.next hK_152 ?_
            refine Wc.meet (X := Int × Bool) (fun (n, t) => [(0, str op), (4, .pointer (some ⟨g_o0, 0, none⟩)), (5, .pointer (some ⟨g_o1, 0, none⟩)), (6, .pointer (some ⟨g_o2, 0, none⟩)), (7, .int .i64 0), (10, .int .i64 n), (11, .bool t)]) (fun (n, t) wr => Below w.heap.size w wr ∧ Blk wr g_o0 28 a.cells ∧ Blk wr g_o1 28 b.cells ∧ Blk wr g_o2 28 nullV.cells ∧ OkX op a.n b.n n t) (fun _ hM_164 => ?_) ?_
            ·
             refine Wc.cond rfl (fun c5_165 => ?_) (fun c5_165 => ?_)
             ·
              try simp only [decide_eq_true_eq, decide_eq_false_iff_not, beq_iff_eq, beq_eq_false_iff_ne, bne_iff_ne, bne_eq_false_iff_eq, Bool.not_eq_true', Bool.not_eq_false', Bool.not_eq_eq_eq_not, Bool.not_true, Bool.not_false, ne_eq, Int.not_lt, Int.not_le] at c5_165
              refine Wc.seq fun _ hK_166 => ?_
              refine Wc.region ?_
              refine Wl.y (y_fieldAddr (fa28_1RefX _) rfl) rfl ?_
              refine Wl.l (l_load one2RefX rfl (by first | exact hB_o0.at rfl | exact hB_o1.at rfl | exact hB_o2.at rfl | exact hB_o0.cell 0 | exact hB_o1.cell 0 | exact hB_o2.cell 0 | assumption)) rfl ?_
              refine Wl.y (y_fieldAddr (fa28_1RefX _) rfl) rfl ?_
              refine Wl.l (l_load one2RefX rfl (by first | exact hB_o0.at rfl | exact hB_o1.at rfl | exact hB_o2.at rfl | exact hB_o0.cell 0 | exact hB_o1.cell 0 | exact hB_o2.cell 0 | assumption)) rfl ?_
              refine Wl.y (y_sub rfl rfl) rfl ?_
              refine Wl.y (y_assign rfl) rfl ?_
              refine Wl.nil ?_
              refine Wq.next hK_166 ?_
              refine Wc.region ?_
              refine Wl.y (y_fieldAddr (fa28_1RefX _) rfl) rfl ?_
              refine Wl.l (l_load one2RefX rfl (by first | exact hB_o0.at rfl | exact hB_o1.at rfl | exact hB_o2.at rfl | exact hB_o0.cell 0 | exact hB_o1.cell 0 | exact hB_o2.cell 0 | assumption)) rfl ?_
              refine Wl.y (y_lssi rfl rfl) rfl ?_
              refine Wl.y (y_assign rfl) rfl ?_
              refine Wl.nil ?_
              refine Wq.meet hM_164 ((_, _)) (Sub.cons' rfl (by first | rfl | exact int_eq (by omega) | exact int_eq (by simp) | (simp; done)) (Sub.cons' rfl (by first | rfl | exact int_eq (by omega) | exact int_eq (by simp) | (simp; done)) (Sub.cons' rfl (by first | rfl | exact int_eq (by omega) | exact int_eq (by simp) | (simp; done)) (Sub.cons' rfl (by first | rfl | exact int_eq (by omega) | exact int_eq (by simp) | (simp; done)) (Sub.cons' rfl (by first | rfl | exact int_eq (by omega) | exact int_eq (by simp) | (simp; done)) (Sub.cons' rfl (by first | rfl | exact int_eq (by omega) | exact int_eq (by simp) | (simp; done)) (Sub.cons' rfl (by first | rfl | exact int_eq (by omega) | exact int_eq (by simp) | (simp; done)) (Sub.nil)))))))) ?_
              first | exact ⟨hb, hB_o0, hB_o1, hB_o2, okx_min ⟨oa.n0, oa.n1⟩ c5_165⟩ | exact ⟨hb, hB_o0, hB_o1, hB_o2, okx_sub MISSING_c6 hdt hdn⟩ | exact ⟨hb, hB_o0, hB_o1, hB_o2, hX MISSING_c6⟩
             ·
              try simp only [decide_eq_true_eq, decide_eq_false_iff_not, beq_iff_eq, beq_eq_false_iff_ne, bne_iff_ne, bne_eq_false_iff_eq, Bool.not_eq_true', Bool.not_eq_false', Bool.not_eq_eq_eq_not, Bool.not_true, Bool.not_false, ne_eq, Int.not_lt, Int.not_le] at c5_165
              refine Wc.seq fun _ hK_177 => ?_
              refine Wc.region ?_
              refine Wl.y (y_move rfl) rfl ?_
              refine Wl.y (y_eqls rfl rfl) rfl ?_
              refine Wl.nil ?_
              refine Wq.next hK_177 ?_
              refine Wc.cond rfl (fun c6_180 => ?_) (fun c6_180 => ?_)
              ·
               try simp only [decide_eq_true_eq, decide_eq_false_iff_not, beq_iff_eq, beq_eq_false_iff_ne, bne_iff_ne, bne_eq_false_iff_eq, Bool.not_eq_true', Bool.not_eq_false', Bool.not_eq_eq_eq_not, Bool.not_true, Bool.not_false, ne_eq, Int.not_lt, Int.not_le] at c6_180
               have hbm : ¬ b.n = -9223372036854775808 := fun e => c5_165 ⟨c6_180, e⟩
               refine Wc.region ?_
               refine Wl.y (y_fieldAddr (fa28_1RefX _) rfl) rfl ?_
               refine Wl.l (l_load one2RefX rfl (by first | exact hB_o0.at rfl | exact hB_o1.at rfl | exact hB_o2.at rfl | exact hB_o0.cell 0 | exact hB_o1.cell 0 | exact hB_o2.cell 0 | assumption)) rfl ?_
               refine Wl.y (y_fieldAddr (fa28_1RefX _) rfl) rfl ?_
               refine Wl.l (l_load one2RefX rfl (by first | exact hB_o0.at rfl | exact hB_o1.at rfl | exact hB_o2.at rfl | exact hB_o0.cell 0 | exact hB_o1.cell 0 | exact hB_o2.cell 0 | assumption)) rfl ?_
               refine Wl.y (y_eq (y_negi rfl) (int_eq (neg_b ob hbm))) rfl ?_
               refine Wl.call txt48RefX rfl rfl (sum_r _ _ ⟨oa.n0, oa.n1⟩ (by have := ob.n0; have := ob.n1; omega) _) rfl ?_
               rintro _ w_ ⟨⟨dn, dt, rfl, hdt, hdn⟩, hw_⟩
               have hw_ := hw_.symm; subst hw_
               refine Wl.y (y_move rfl) rfl ?_
               refine Wl.y (y_extract rfl rfl) rfl ?_
               refine Wl.y (y_extract rfl rfl) rfl ?_
               refine Wl.y (y_assign rfl) rfl ?_
               refine Wl.y (y_assign rfl) rfl ?_
               refine Wl.nil ?_
               refine Wq.meet hM_164 ((_, _)) (Sub.cons' rfl (by first | rfl | exact int_eq (by omega) | exact int_eq (by simp) | (simp; done)) (Sub.cons' rfl (by first | rfl | exact int_eq (by omega) | exact int_eq (by simp) | (simp; done)) (Sub.cons' rfl (by first | rfl | exact int_eq (by omega) | exact int_eq (by simp) | (simp; done)) (Sub.cons' rfl (by first | rfl | exact int_eq (by omega) | exact int_eq (by simp) | (simp; done)) (Sub.cons' rfl (by first | rfl | exact int_eq (by omega) | exact int_eq (by simp) | (simp; done)) (Sub.cons' rfl (by first | rfl | exact int_eq (by omega) | exact int_eq (by simp) | (simp; done)) (Sub.cons' rfl (by first | rfl | exact int_eq (by omega) | exact int_eq (by simp) | (simp; done)) (Sub.nil)))))))) ?_
               first | exact ⟨hb, hB_o0, hB_o1, hB_o2, okx_min ⟨oa.n0, oa.n1⟩ c5_165⟩ | exact ⟨hb, hB_o0, hB_o1, hB_o2, okx_sub c6_180 hdt hdn⟩ | exact ⟨hb, hB_o0, hB_o1, hB_o2, hX c6_180⟩
              ·
               try simp only [decide_eq_true_eq, decide_eq_false_iff_not, beq_iff_eq, beq_eq_false_iff_ne, bne_iff_ne, bne_eq_false_iff_eq, Bool.not_eq_true', Bool.not_eq_false', Bool.not_eq_eq_eq_not, Bool.not_true, Bool.not_false, ne_eq, Int.not_lt, Int.not_le] at c6_180
               refine Wc.skip ?_
               refine Wq.meet hM_164 ((_, _)) (Sub.cons' rfl (by first | rfl | exact int_eq (by omega) | exact int_eq (by simp) | (simp; done)) (Sub.cons' rfl (by first | rfl | exact int_eq (by omega) | exact int_eq (by simp) | (simp; done)) (Sub.cons' rfl (by first | rfl | exact int_eq (by omega) | exact int_eq (by simp) | (simp; done)) (Sub.cons' rfl (by first | rfl | exact int_eq (by omega) | exact int_eq (by simp) | (simp; done)) (Sub.cons' rfl (by first | rfl | exact int_eq (by omega) | exact int_eq (by simp) | (simp; done)) (Sub.cons' rfl (by first | rfl | exact int_eq (by omega) | exact int_eq (by simp) | (simp; done)) (Sub.cons' rfl (by first | rfl | exact int_eq (by omega) | exact int_eq (by simp) | (simp; done)) (Sub.nil)))))))) ?_
               first | exact ⟨hb, hB_o0, hB_o1, hB_o2, okx_min ⟨oa.n0, oa.n1⟩ c5_165⟩ | exact ⟨hb, hB_o0, hB_o1, hB_o2, okx_sub c6_180 hdt hdn⟩ | exact ⟨hb, hB_o0, hB_o1, hB_o2, hX c6_180⟩
            ·
             rintro ⟨n, t⟩ wr hI_192
             replace hI_192 : Below w.heap.size w wr ∧ Blk wr g_o0 28 a.cells ∧ Blk wr g_o1 28 b.cells ∧ Blk wr g_o2 28 nullV.cells ∧ OkX op a.n b.n n t := hI_192
             obtain ⟨hb, hB_o0, hB_o1, hB_o2, hX⟩ := hI_192
             show Wq _ _ _ _ [(0, str op), (4, .pointer (some ⟨g_o0, 0, none⟩)), (5, .pointer (some ⟨g_o1, 0, none⟩)), (6, .pointer (some ⟨g_o2, 0, none⟩)), (7, .int .i64 0), (10, .int .i64 n), (11, .bool t)] _
             try have hzhb_c5 := hb.size
             have hlhB_o0_c5 := hB_o0.lt
             have hlhB_o1_c5 := hB_o1.lt
             have hlhB_o2_c5 := hB_o2.lt
             refine Wq.next hK_151 ?_
             refine Wc.seq fun _ hK_193 => ?_
             refine Wc.seq fun _ hK_194 => ?_
             refine Wc.region ?_
             refine Wl.y (y_move rfl) rfl ?_
             refine Wl.y (y_not rfl) rfl ?_
             refine Wl.nil ?_
             refine Wq.next hK_194 ?_
             refine Wc.cond rfl (fun c7_197 => ?_) (fun c7_197 => ?_)
             ·
              have c7_197_ := c7_197
              have hf : fitsI (exactV op a.n b.n) = false := by have h := c7_197_; rw [hX.1] at h; simpa using h
              have ht : reckonV op a b = (nullV, 7) := by unfold reckonV; rw [if_neg ht0, if_neg c1_86, if_neg ht2, if_pos c3_122, if_neg (by rw [hf]; simp)]
              refine Wc.seq fun _ hK_198 => ?_
              refine Wc.region ?_
              refine Wl.call txt39RefX rfl rfl (null_r _) rfl ?_
              rintro _ w_k10 ⟨rfl, hs_k10⟩
              have hz_k10 := hs_k10.size
              have hb := hb.trans (hs_k10.mono hb.size)
              try have hB_o2 := Blk.below hB_o2 hs_k10
              refine Wl.storeS (by kernel_rfl) rfl rfl hB_o2 rfl rfl ?_
              rintro w_s3 hn_s3 hg_s3
              have hz_s3 := hg_s3.size
              have hb := below_blk hb hg_s3 hb.size (by omega)
              have hB_o2 := hn_s3
              refine Wl.y (y_assign rfl) rfl ?_
              refine Wl.nil ?_
              refine Wq.next hK_198 ?_
              refine Wc.ret ?_
              refine Wq.then_ret (Wq.then_ret ?_)
              refine retN (rs := [.cell 6 28, .tmp 7]) (vs := [_, _]) rfl (.cell rfl (loadS Tryz.underlying28 (by kernel_rfl) (fun j u hu => hB_o2.at hu)) (.tmp rfl .nil)) ?_
              first | exact ⟨_, rfl, by rw [ht]; rfl, hb⟩ | exact ⟨_, rfl, by rw [ht, hn]; rfl, hb⟩ | exact ⟨_, rfl, by rw [ht, ← hr2]; rfl, hb⟩
             ·
              have c7_197_ := c7_197
              have hf : fitsI (exactV op a.n b.n) = true := by have h := c7_197_; rw [hX.1] at h; simpa using h
              have hn := hX.2 hf
              have ht : reckonV op a b = (⟨2, exactV op a.n b.n, 0, []⟩, 0) := by unfold reckonV; rw [if_neg ht0, if_neg c1_86, if_neg ht2, if_pos c3_122, if_pos hf]
              refine Wc.skip ?_
              refine Wq.next hK_193 ?_
              refine Wc.seq fun _ hK_201 => ?_
              refine Wc.region ?_
              refine Wl.y (y_move rfl) rfl ?_
              refine Wl.y (y_buildS (z := [(.int .i64 0), (.int .i64 0), (.float .f64 0), (str [])]) (pl := [(0, 1), (1, 1), (2, 1), (3, 1)]) (cs := [_, _, _, _]) Tryz.underlying28 (by kernel_rfl) (by kernel_rfl) rfl rfl rfl) rfl ?_
              refine Wl.storeS (by kernel_rfl) rfl rfl hB_o2 rfl rfl ?_
              rintro w_s4 hn_s4 hg_s4
              have hz_s4 := hg_s4.size
              have hb := below_blk hb hg_s4 hb.size (by omega)
              have hB_o2 := hn_s4
              refine Wl.y (y_assign rfl) rfl ?_
              refine Wl.nil ?_
              refine Wq.next hK_201 ?_
              refine Wc.ret ?_
              refine Wq.then_ret ?_
              refine retN (rs := [.cell 6 28, .tmp 7]) (vs := [_, _]) rfl (.cell rfl (loadS Tryz.underlying28 (by kernel_rfl) (fun j u hu => hB_o2.at hu)) (.tmp rfl .nil)) ?_
              first | exact ⟨_, rfl, by rw [ht]; rfl, hb⟩ | exact ⟨_, rfl, by rw [ht, hn]; rfl, hb⟩ | exact ⟨_, rfl, by rw [ht, ← hr2]; rfl, hb⟩
         ·
          try simp only [decide_eq_true_eq, decide_eq_false_iff_not, beq_iff_eq, beq_eq_false_iff_ne, bne_iff_ne, bne_eq_false_iff_eq, Bool.not_eq_true', Bool.not_eq_false', Bool.not_eq_eq_eq_not, Bool.not_true, Bool.not_false, ne_eq, Int.not_lt, Int.not_le] at c3_122
          have ht : reckonV op a b = (⟨3, 0, floatV op (wideV a) (wideV b), []⟩, 0) := by unfold reckonV; rw [if_neg ht0, if_neg c1_86, if_neg ht2, if_neg c3_122]
          refine Wc.skip ?_
          refine Wq.next hK_108 ?_
          refine Wc.seq fun _ hK_205 => ?_
          refine Wc.region ?_
          refine Wl.y (y_fieldAddr (fa28_2RefX _) rfl) rfl ?_
          refine Wl.l (l_load one26RefX rfl (by first | exact hB_o0.at rfl | exact hB_o1.at rfl | exact hB_o2.at rfl | exact hB_o0.cell 0 | exact hB_o1.cell 0 | exact hB_o2.cell 0 | assumption)) rfl ?_
          refine Wl.y (y_assign rfl) rfl ?_
          refine Wl.nil ?_
          refine Wq.next hK_205 ?_
          refine Wc.seq fun _ hK_209 => ?_
          refine Wc.region ?_
          refine Wl.y (y_fieldAddr (fa28_2RefX _) rfl) rfl ?_
          refine Wl.l (l_load one26RefX rfl (by first | exact hB_o0.at rfl | exact hB_o1.at rfl | exact hB_o2.at rfl | exact hB_o0.cell 0 | exact hB_o1.cell 0 | exact hB_o2.cell 0 | assumption)) rfl ?_
          refine Wl.y (y_assign rfl) rfl ?_
          refine Wl.nil ?_
          refine Wq.next hK_209 ?_
          refine Wc.seq fun _ hK_213 => ?_
          refine Wc.seq fun _ hK_214 => ?_
          refine Wc.region ?_
          refine Wl.y (y_fieldAddr (fa28_0RefX _) rfl) rfl ?_
          refine Wl.l (l_load one3RefX rfl (by first | exact hB_o0.at rfl | exact hB_o1.at rfl | exact hB_o2.at rfl | exact hB_o0.cell 0 | exact hB_o1.cell 0 | exact hB_o2.cell 0 | assumption)) rfl ?_
          refine Wl.y (y_eqli rfl rfl) rfl ?_
          refine Wl.nil ?_
          refine Wq.next hK_214 ?_
          refine Wc.meet (X := Unit) (fun u_ => [(0, str op), (4, .pointer (some ⟨g_o0, 0, none⟩)), (5, .pointer (some ⟨g_o1, 0, none⟩)), (6, .pointer (some ⟨g_o2, 0, none⟩)), (7, .int .i64 0), (12, .float .f64 (wideV a)), (13, .float .f64 b.f)]) (fun u_ wr => Below w.heap.size w wr ∧ Blk wr g_o0 28 a.cells ∧ Blk wr g_o1 28 b.cells ∧ Blk wr g_o2 28 nullV.cells) (fun _ hM_218 => ?_) ?_
          ·
           refine Wc.cond rfl (fun c8_219 => ?_) (fun c8_219 => ?_)
           ·
            try simp only [decide_eq_true_eq, decide_eq_false_iff_not, beq_iff_eq, beq_eq_false_iff_ne, bne_iff_ne, bne_eq_false_iff_eq, Bool.not_eq_true', Bool.not_eq_false', Bool.not_eq_eq_eq_not, Bool.not_true, Bool.not_false, ne_eq, Int.not_lt, Int.not_le] at c8_219
            refine Wc.region ?_
            refine Wl.y (y_fieldAddr (fa28_1RefX _) rfl) rfl ?_
            refine Wl.l (l_load one2RefX rfl (by first | exact hB_o0.at rfl | exact hB_o1.at rfl | exact hB_o2.at rfl | exact hB_o0.cell 0 | exact hB_o1.cell 0 | exact hB_o2.cell 0 | assumption)) rfl ?_
            refine Wl.y (y_convf Tryz.underlying2 Tryz.underlying26 rfl) rfl ?_
            refine Wl.y (y_assign rfl) rfl ?_
            refine Wl.nil ?_
            refine Wq.meet hM_218 (()) (Sub.cons' rfl (by first | rfl | (unfold wideV; rw [if_pos c8_219]) | (unfold wideV; rw [if_neg c8_219])) (Sub.cons' rfl (by first | rfl | (unfold wideV; rw [if_pos c8_219]) | (unfold wideV; rw [if_neg c8_219])) (Sub.cons' rfl (by first | rfl | (unfold wideV; rw [if_pos c8_219]) | (unfold wideV; rw [if_neg c8_219])) (Sub.cons' rfl (by first | rfl | (unfold wideV; rw [if_pos c8_219]) | (unfold wideV; rw [if_neg c8_219])) (Sub.cons' rfl (by first | rfl | (unfold wideV; rw [if_pos c8_219]) | (unfold wideV; rw [if_neg c8_219])) (Sub.cons' rfl (by first | rfl | (unfold wideV; rw [if_pos c8_219]) | (unfold wideV; rw [if_neg c8_219])) (Sub.cons' rfl (by first | rfl | (unfold wideV; rw [if_pos c8_219]) | (unfold wideV; rw [if_neg c8_219])) (Sub.nil)))))))) ?_
            exact ⟨hb, hB_o0, hB_o1, hB_o2⟩
           ·
            try simp only [decide_eq_true_eq, decide_eq_false_iff_not, beq_iff_eq, beq_eq_false_iff_ne, bne_iff_ne, bne_eq_false_iff_eq, Bool.not_eq_true', Bool.not_eq_false', Bool.not_eq_eq_eq_not, Bool.not_true, Bool.not_false, ne_eq, Int.not_lt, Int.not_le] at c8_219
            refine Wc.skip ?_
            refine Wq.meet hM_218 (()) (Sub.cons' rfl (by first | rfl | (unfold wideV; rw [if_pos c8_219]) | (unfold wideV; rw [if_neg c8_219])) (Sub.cons' rfl (by first | rfl | (unfold wideV; rw [if_pos c8_219]) | (unfold wideV; rw [if_neg c8_219])) (Sub.cons' rfl (by first | rfl | (unfold wideV; rw [if_pos c8_219]) | (unfold wideV; rw [if_neg c8_219])) (Sub.cons' rfl (by first | rfl | (unfold wideV; rw [if_pos c8_219]) | (unfold wideV; rw [if_neg c8_219])) (Sub.cons' rfl (by first | rfl | (unfold wideV; rw [if_pos c8_219]) | (unfold wideV; rw [if_neg c8_219])) (Sub.cons' rfl (by first | rfl | (unfold wideV; rw [if_pos c8_219]) | (unfold wideV; rw [if_neg c8_219])) (Sub.cons' rfl (by first | rfl | (unfold wideV; rw [if_pos c8_219]) | (unfold wideV; rw [if_neg c8_219])) (Sub.nil)))))))) ?_
            exact ⟨hb, hB_o0, hB_o1, hB_o2⟩
          ·
           rintro u_ wr hI_224
           replace hI_224 : Below w.heap.size w wr ∧ Blk wr g_o0 28 a.cells ∧ Blk wr g_o1 28 b.cells ∧ Blk wr g_o2 28 nullV.cells := hI_224
           obtain ⟨hb, hB_o0, hB_o1, hB_o2⟩ := hI_224
           show Wq _ _ _ _ [(0, str op), (4, .pointer (some ⟨g_o0, 0, none⟩)), (5, .pointer (some ⟨g_o1, 0, none⟩)), (6, .pointer (some ⟨g_o2, 0, none⟩)), (7, .int .i64 0), (12, .float .f64 (wideV a)), (13, .float .f64 b.f)] _
           try have hzhb_c8 := hb.size
           have hlhB_o0_c8 := hB_o0.lt
           have hlhB_o1_c8 := hB_o1.lt
           have hlhB_o2_c8 := hB_o2.lt
           refine Wq.next hK_213 ?_
           refine Wc.seq fun _ hK_225 => ?_
           refine Wc.seq fun _ hK_226 => ?_
           refine Wc.region ?_
           refine Wl.y (y_fieldAddr (fa28_0RefX _) rfl) rfl ?_
           refine Wl.l (l_load one3RefX rfl (by first | exact hB_o0.at rfl | exact hB_o1.at rfl | exact hB_o2.at rfl | exact hB_o0.cell 0 | exact hB_o1.cell 0 | exact hB_o2.cell 0 | assumption)) rfl ?_
           refine Wl.y (y_eqli rfl rfl) rfl ?_
           refine Wl.nil ?_
           refine Wq.next hK_226 ?_
           refine Wc.meet (X := Unit) (fun u_ => [(0, str op), (6, .pointer (some ⟨g_o2, 0, none⟩)), (7, .int .i64 0), (12, .float .f64 (wideV a)), (13, .float .f64 (wideV b))]) (fun u_ wr => Below w.heap.size w wr ∧ Blk wr g_o2 28 nullV.cells) (fun _ hM_230 => ?_) ?_
           ·
            refine Wc.cond rfl (fun c9_231 => ?_) (fun c9_231 => ?_)
            ·
             try simp only [decide_eq_true_eq, decide_eq_false_iff_not, beq_iff_eq, beq_eq_false_iff_ne, bne_iff_ne, bne_eq_false_iff_eq, Bool.not_eq_true', Bool.not_eq_false', Bool.not_eq_eq_eq_not, Bool.not_true, Bool.not_false, ne_eq, Int.not_lt, Int.not_le] at c9_231
             refine Wc.region ?_
             refine Wl.y (y_fieldAddr (fa28_1RefX _) rfl) rfl ?_
             refine Wl.l (l_load one2RefX rfl (by first | exact hB_o0.at rfl | exact hB_o1.at rfl | exact hB_o2.at rfl | exact hB_o0.cell 0 | exact hB_o1.cell 0 | exact hB_o2.cell 0 | assumption)) rfl ?_
             refine Wl.y (y_convf Tryz.underlying2 Tryz.underlying26 rfl) rfl ?_
             refine Wl.y (y_assign rfl) rfl ?_
             refine Wl.nil ?_
             refine Wq.meet hM_230 (()) (Sub.cons' rfl (by first | rfl | (unfold wideV; rw [if_pos c9_231]) | (unfold wideV; rw [if_neg c9_231])) (Sub.cons' rfl (by first | rfl | (unfold wideV; rw [if_pos c9_231]) | (unfold wideV; rw [if_neg c9_231])) (Sub.cons' rfl (by first | rfl | (unfold wideV; rw [if_pos c9_231]) | (unfold wideV; rw [if_neg c9_231])) (Sub.cons' rfl (by first | rfl | (unfold wideV; rw [if_pos c9_231]) | (unfold wideV; rw [if_neg c9_231])) (Sub.cons' rfl (by first | rfl | (unfold wideV; rw [if_pos c9_231]) | (unfold wideV; rw [if_neg c9_231])) (Sub.nil)))))) ?_
             exact ⟨hb, hB_o2⟩
            ·
             try simp only [decide_eq_true_eq, decide_eq_false_iff_not, beq_iff_eq, beq_eq_false_iff_ne, bne_iff_ne, bne_eq_false_iff_eq, Bool.not_eq_true', Bool.not_eq_false', Bool.not_eq_eq_eq_not, Bool.not_true, Bool.not_false, ne_eq, Int.not_lt, Int.not_le] at c9_231
             refine Wc.skip ?_
             refine Wq.meet hM_230 (()) (Sub.cons' rfl (by first | rfl | (unfold wideV; rw [if_pos c9_231]) | (unfold wideV; rw [if_neg c9_231])) (Sub.cons' rfl (by first | rfl | (unfold wideV; rw [if_pos c9_231]) | (unfold wideV; rw [if_neg c9_231])) (Sub.cons' rfl (by first | rfl | (unfold wideV; rw [if_pos c9_231]) | (unfold wideV; rw [if_neg c9_231])) (Sub.cons' rfl (by first | rfl | (unfold wideV; rw [if_pos c9_231]) | (unfold wideV; rw [if_neg c9_231])) (Sub.cons' rfl (by first | rfl | (unfold wideV; rw [if_pos c9_231]) | (unfold wideV; rw [if_neg c9_231])) (Sub.nil)))))) ?_
             exact ⟨hb, hB_o2⟩
           ·
            rintro u_ wr hI_236
            replace hI_236 : Below w.heap.size w wr ∧ Blk wr g_o2 28 nullV.cells := hI_236
            obtain ⟨hb, hB_o2⟩ := hI_236
            show Wq _ _ _ _ [(0, str op), (6, .pointer (some ⟨g_o2, 0, none⟩)), (7, .int .i64 0), (12, .float .f64 (wideV a)), (13, .float .f64 (wideV b))] _
            try have hzhb_c9 := hb.size
            have hlhB_o2_c9 := hB_o2.lt
            refine Wq.next hK_225 ?_
            refine Wc.seq fun _ hK_237 => ?_
            refine Wc.region ?_
            refine Wl.y (y_move rfl) rfl ?_
            refine Wl.y (y_move rfl) rfl ?_
            refine Wl.arithf (by simp) rfl rfl rfl ?_
            rintro r_o104 w_o104 hs_o104 hf_o104
            have hz_o104 := hs_o104.size
            have hb := hb.trans (hs_o104.mono hb.size)
            try have hB_o2 := Blk.below hB_o2 hs_o104
            refine Wl.y (y_assign rfl) rfl ?_
            refine Wl.nil ?_
            refine Wq.next hK_237 ?_
            refine Wc.seq fun _ hK_242 => ?_
            refine Wc.seq fun _ hK_243 => ?_
            refine Wc.region ?_
            refine Wl.y (y_move rfl) rfl ?_
            refine Wl.y (y_eqls rfl rfl) rfl ?_
            refine Wl.nil ?_
            refine Wq.next hK_243 ?_
            refine Wc.meet (X := Nat) (fun r => [(0, str op), (6, .pointer (some ⟨g_o2, 0, none⟩)), (7, .int .i64 0), (12, .float .f64 (wideV a)), (13, .float .f64 (wideV b)), (14, .float .f64 r)]) (fun r wr => Below w.heap.size w wr ∧ Blk wr g_o2 28 nullV.cells ∧ r < 18446744073709551616 ∧ canon r = (if op = [43] then fop .add (wideV a) (wideV b) else fop .mul (wideV a) (wideV b))) (fun _ hM_246 => ?_) ?_
            ·
             refine Wc.cond rfl (fun c10_247 => ?_) (fun c10_247 => ?_)
             ·
              try simp only [decide_eq_true_eq, decide_eq_false_iff_not, beq_iff_eq, beq_eq_false_iff_ne, bne_iff_ne, bne_eq_false_iff_eq, Bool.not_eq_true', Bool.not_eq_false', Bool.not_eq_eq_eq_not, Bool.not_true, Bool.not_false, ne_eq, Int.not_lt, Int.not_le] at c10_247
              refine Wc.region ?_
              refine Wl.y (y_move rfl) rfl ?_
              refine Wl.y (y_move rfl) rfl ?_
              refine Wl.arithf (by simp) rfl rfl rfl ?_
              rintro r_o110 w_o110 hs_o110 hf_o110
              have hz_o110 := hs_o110.size
              have hb := hb.trans (hs_o110.mono hb.size)
              try have hB_o2 := Blk.below hB_o2 hs_o110
              refine Wl.y (y_assign rfl) rfl ?_
              refine Wl.nil ?_
              refine Wq.meet hM_246 (_) (Sub.cons' rfl (by first | rfl | exact int_eq (by omega) | exact int_eq (by simp) | (simp; done)) (Sub.cons' rfl (by first | rfl | exact int_eq (by omega) | exact int_eq (by simp) | (simp; done)) (Sub.cons' rfl (by first | rfl | exact int_eq (by omega) | exact int_eq (by simp) | (simp; done)) (Sub.cons' rfl (by first | rfl | exact int_eq (by omega) | exact int_eq (by simp) | (simp; done)) (Sub.cons' rfl (by first | rfl | exact int_eq (by omega) | exact int_eq (by simp) | (simp; done)) (Sub.cons' rfl (by first | rfl | exact int_eq (by omega) | exact int_eq (by simp) | (simp; done)) (Sub.nil))))))) ?_
              first | exact ⟨hb, hB_o2, hf_o110.2, by rw [if_pos c10_247]; exact fop_of hf_o110.1⟩ | exact ⟨hb, hB_o2, hf_o104.2, by rw [if_neg c10_247]; exact fop_of hf_o104.1⟩
             ·
              try simp only [decide_eq_true_eq, decide_eq_false_iff_not, beq_iff_eq, beq_eq_false_iff_ne, bne_iff_ne, bne_eq_false_iff_eq, Bool.not_eq_true', Bool.not_eq_false', Bool.not_eq_eq_eq_not, Bool.not_true, Bool.not_false, ne_eq, Int.not_lt, Int.not_le] at c10_247
              refine Wc.skip ?_
              refine Wq.meet hM_246 (_) (Sub.cons' rfl (by first | rfl | exact int_eq (by omega) | exact int_eq (by simp) | (simp; done)) (Sub.cons' rfl (by first | rfl | exact int_eq (by omega) | exact int_eq (by simp) | (simp; done)) (Sub.cons' rfl (by first | rfl | exact int_eq (by omega) | exact int_eq (by simp) | (simp; done)) (Sub.cons' rfl (by first | rfl | exact int_eq (by omega) | exact int_eq (by simp) | (simp; done)) (Sub.cons' rfl (by first | rfl | exact int_eq (by omega) | exact int_eq (by simp) | (simp; done)) (Sub.cons' rfl (by first | rfl | exact int_eq (by omega) | exact int_eq (by simp) | (simp; done)) (Sub.nil))))))) ?_
              first | exact ⟨hb, hB_o2, hf_o110.2, by rw [if_pos c10_247]; exact fop_of hf_o110.1⟩ | exact ⟨hb, hB_o2, hf_o104.2, by rw [if_neg c10_247]; exact fop_of hf_o104.1⟩
            ·
             rintro r wr hI_252
             replace hI_252 : Below w.heap.size w wr ∧ Blk wr g_o2 28 nullV.cells ∧ r < 18446744073709551616 ∧ canon r = (if op = [43] then fop .add (wideV a) (wideV b) else fop .mul (wideV a) (wideV b)) := hI_252
             obtain ⟨hb, hB_o2, hr1, hr2⟩ := hI_252
             show Wq _ _ _ _ [(0, str op), (6, .pointer (some ⟨g_o2, 0, none⟩)), (7, .int .i64 0), (12, .float .f64 (wideV a)), (13, .float .f64 (wideV b)), (14, .float .f64 r)] _
             try have hzhb_c10 := hb.size
             have hlhB_o2_c10 := hB_o2.lt
             refine Wq.next hK_242 ?_
             refine Wc.seq fun _ hK_253 => ?_
             refine Wc.seq fun _ hK_254 => ?_
             refine Wc.region ?_
             refine Wl.y (y_move rfl) rfl ?_
             refine Wl.y (y_eqls rfl rfl) rfl ?_
             refine Wl.nil ?_
             refine Wq.next hK_254 ?_
             refine Wc.meet (X := Nat) (fun r => [(6, .pointer (some ⟨g_o2, 0, none⟩)), (7, .int .i64 0), (14, .float .f64 r)]) (fun r wr => Below w.heap.size w wr ∧ Blk wr g_o2 28 nullV.cells ∧ r < 18446744073709551616 ∧ canon r = floatV op (wideV a) (wideV b)) (fun _ hM_257 => ?_) ?_
             ·
              refine Wc.cond rfl (fun c11_258 => ?_) (fun c11_258 => ?_)
              ·
               try simp only [decide_eq_true_eq, decide_eq_false_iff_not, beq_iff_eq, beq_eq_false_iff_ne, bne_iff_ne, bne_eq_false_iff_eq, Bool.not_eq_true', Bool.not_eq_false', Bool.not_eq_eq_eq_not, Bool.not_true, Bool.not_false, ne_eq, Int.not_lt, Int.not_le] at c11_258
               refine Wc.region ?_
               refine Wl.y (y_move rfl) rfl ?_
               refine Wl.y (y_move rfl) rfl ?_
               refine Wl.arithf (by simp) rfl rfl rfl ?_
               rintro r_o116 w_o116 hs_o116 hf_o116
               have hz_o116 := hs_o116.size
               have hb := hb.trans (hs_o116.mono hb.size)
               try have hB_o2 := Blk.below hB_o2 hs_o116
               refine Wl.y (y_assign rfl) rfl ?_
               refine Wl.nil ?_
               refine Wq.meet hM_257 (_) (Sub.cons' rfl (by first | rfl | exact int_eq (by omega) | exact int_eq (by simp) | (simp; done)) (Sub.cons' rfl (by first | rfl | exact int_eq (by omega) | exact int_eq (by simp) | (simp; done)) (Sub.cons' rfl (by first | rfl | exact int_eq (by omega) | exact int_eq (by simp) | (simp; done)) (Sub.nil)))) ?_
               first | exact ⟨hb, hB_o2, hf_o116.2, by rw [float_sub _ _ c11_258]; exact fop_of hf_o116.1⟩ | exact ⟨hb, hB_o2, hr1, float_of c11_258 hr2⟩
              ·
               try simp only [decide_eq_true_eq, decide_eq_false_iff_not, beq_iff_eq, beq_eq_false_iff_ne, bne_iff_ne, bne_eq_false_iff_eq, Bool.not_eq_true', Bool.not_eq_false', Bool.not_eq_eq_eq_not, Bool.not_true, Bool.not_false, ne_eq, Int.not_lt, Int.not_le] at c11_258
               refine Wc.skip ?_
               refine Wq.meet hM_257 (_) (Sub.cons' rfl (by first | rfl | exact int_eq (by omega) | exact int_eq (by simp) | (simp; done)) (Sub.cons' rfl (by first | rfl | exact int_eq (by omega) | exact int_eq (by simp) | (simp; done)) (Sub.cons' rfl (by first | rfl | exact int_eq (by omega) | exact int_eq (by simp) | (simp; done)) (Sub.nil)))) ?_
               first | exact ⟨hb, hB_o2, hf_o116.2, by rw [float_sub _ _ c11_258]; exact fop_of hf_o116.1⟩ | exact ⟨hb, hB_o2, hr1, float_of c11_258 hr2⟩
             ·
              rintro r wr hI_263
              replace hI_263 : Below w.heap.size w wr ∧ Blk wr g_o2 28 nullV.cells ∧ r < 18446744073709551616 ∧ canon r = floatV op (wideV a) (wideV b) := hI_263
              obtain ⟨hb, hB_o2, hr1, hr2⟩ := hI_263
              show Wq _ _ _ _ [(6, .pointer (some ⟨g_o2, 0, none⟩)), (7, .int .i64 0), (14, .float .f64 r)] _
              try have hzhb_c11 := hb.size
              have hlhB_o2_c11 := hB_o2.lt
              refine Wq.next hK_253 ?_
              refine Wc.seq fun _ hK_264 => ?_
              refine Wc.region ?_
              refine Wl.y (y_move rfl) rfl ?_
              refine Wl.call txt43RefX rfl rfl (Bits_r _ hr1 _) rfl ?_
              rintro _ w_ ⟨rfl, hw_⟩
              have hw_ := hw_.symm; subst hw_
              refine Wl.y (y_b2f exn34RefX rfl rfl) rfl ?_
              refine Wl.y (y_buildS (z := [(.int .i64 0), (.int .i64 0), (.float .f64 0), (str [])]) (pl := [(0, 1), (1, 1), (2, 1), (3, 1)]) (cs := [_, _, _, _]) Tryz.underlying28 (by kernel_rfl) (by kernel_rfl) rfl rfl rfl) rfl ?_
              refine Wl.storeS (by kernel_rfl) rfl rfl hB_o2 rfl rfl ?_
              rintro w_s5 hn_s5 hg_s5
              have hz_s5 := hg_s5.size
              have hb := below_blk hb hg_s5 hb.size (by omega)
              have hB_o2 := hn_s5
              refine Wl.y (y_assign rfl) rfl ?_
              refine Wl.nil ?_
              refine Wq.next hK_264 ?_
              refine Wc.ret ?_
              refine retN (rs := [.cell 6 28, .tmp 7]) (vs := [_, _]) rfl (.cell rfl (loadS Tryz.underlying28 (by kernel_rfl) (fun j u hu => hB_o2.at hu)) (.tmp rfl .nil)) ?_
              first | exact ⟨_, rfl, by rw [ht]; rfl, hb⟩ | exact ⟨_, rfl, by rw [ht, hn]; rfl, hb⟩ | exact ⟨_, rfl, by rw [ht, ← hr2]; rfl, hb⟩
end Go.Proofs.YtijkbinjdgjioaaGreatDoor
