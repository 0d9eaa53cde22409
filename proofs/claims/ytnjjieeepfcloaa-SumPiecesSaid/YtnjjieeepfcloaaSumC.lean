/- The statements of layer 9 that speak of bytes: their walks. -/
import Derived.Test.YtnjjieeepfcloaaSumB
import Derived.Test.YtnjjieeepfcloaaQuiet
namespace Go.Proofs.Ytnjjieeepfcloaa
open Go.RowKit Go.Bw
set_option linter.unusedVariables false
set_option linter.unusedSimpArgs false
theorem one22SumC : One Try.prog 22 := ⟨_, Try.underlying22, rfl, by kernel_rfl⟩
theorem sz5SumC : (Try.prog.info? 5).map (·.size) = some 1 := by kernel_rfl
theorem sz22SumC : (Try.prog.info? 22).map (·.size) = some 1 := by kernel_rfl
theorem txt12SumC : Txt Try.prog 12 := ⟨_, Try.func12, by kernel_rfl, rfl⟩   -- bridleway/bridlewaylaw09.shown
theorem txt13SumC : Txt Try.prog 13 := ⟨_, Try.func13, by kernel_rfl, rfl⟩   -- bridleway/sum.Sum
theorem txt14SumC : Txt Try.prog 14 := ⟨_, Try.func14, by kernel_rfl, rfl⟩   -- bridleway/bridlewayref09.Sum
theorem txt15SumC : Txt Try.prog 15 := ⟨_, Try.func15, by kernel_rfl, rfl⟩   -- bridleway/sum.More
theorem txt16SumC : Txt Try.prog 16 := ⟨_, Try.func16, by kernel_rfl, rfl⟩   -- bridleway/bridlewayref09.More
theorem sum_nil : sum0 [] = 14695981039346656037 := by decide +kernel
theorem sum_a : sum0 [97] = 12638187200555641996 := by decide +kernel
theorem sum_foobar : sum0 [102, 111, 111, 98, 97, 114] = 9625390261332436968 := by decide +kernel

theorem rd_frozen (w : World) (l : List UInt8) (e : TypeId) (fr : Nat × Nat) : Rd (w.alloc (.cells (u8s l).toArray e fr)) 1 (some ⟨w.heap.size, 0, none⟩) l.length (u8s l) :=
  ⟨by rw [u8s_length]; omega, fun _ => ⟨_, rfl, fun j u hu => by
    have hadd : (⟨w.heap.size, 0, none⟩ : Addr).add j = ⟨w.heap.size, j, none⟩ := by unfold Addr.add; split <;> simp_all
    rw [hadd, World.cell?_alloc_mark]
    simpa using hu⟩⟩

theorem shown9 (w : World) : Ret Try.prog 12 [] w fun v w' => v = .bool true ∧ Below w.heap.size w w' := by
  refine enter Try.func12 rfl rfl rfl ?_
  refine Wc.seq fun _ hK_1 => ?_
  refine Wc.region ?_
  refine Wl.y (y_assign rfl) rfl ?_
  refine Wl.nil ?_
  refine Wq.next hK_1 ?_
  refine Wc.seq fun _ hK_3 => ?_
  refine Wc.region ?_
  refine Wl.call txt13SumC rfl rfl (Sum_r _ _ _ [] _ (by simp) (Rd.nil _ _ _)) rfl ?_
  rintro _ w1 ⟨rfl, hb1⟩
  refine Wl.y (y_eqli rfl rfl) rfl ?_
  refine Wl.y (y_move rfl) rfl ?_
  refine Wl.guardT rfl rfl rfl (fun g_7 => ?_) (fun g_7 => ?_)
  · skip
    have g_7_ := g_7
    try simp only [decide_eq_true_eq, decide_eq_false_iff_not, beq_iff_eq, beq_eq_false_iff_ne, bne_iff_ne, bne_eq_false_iff_eq, Bool.not_eq_true', Bool.not_eq_false', Bool.not_eq_eq_eq_not, Bool.not_true, Bool.not_false, ne_eq, Int.not_lt, Int.not_le] at g_7
    refine Wl.m (m_lit (sz := 1) (vs := [_]) Try.underlying22 (by kernel_rfl) rfl rfl rfl rfl rfl) rfl ?_
    refine Wl.on' rfl rfl g_7_ ?_
    refine Wl.m (m_constBytes Try.underlying22 Try.underlying5 rfl) rfl ?_
    refine Wl.on' rfl rfl g_7_ ?_
    refine Wl.call txt13SumC rfl rfl (Sum_r _ _ _ [97] _ (by simp) (rd_frozen _ [97] _ _)) rfl ?_
    rintro _ w2 ⟨rfl, hb2⟩
    refine Wl.on' rfl rfl g_7_ ?_
    refine Wl.y (y_eqli rfl rfl) rfl ?_
    refine Wl.y (y_pickT rfl g_7_ rfl) rfl ?_
    refine Wl.y (y_move rfl) rfl ?_
    refine Wl.guardT rfl rfl rfl (fun g_14 => ?_) (fun g_14 => ?_)
    · skip
      have g_14_ := g_14
      try simp only [decide_eq_true_eq, decide_eq_false_iff_not, beq_iff_eq, beq_eq_false_iff_ne, bne_iff_ne, bne_eq_false_iff_eq, Bool.not_eq_true', Bool.not_eq_false', Bool.not_eq_eq_eq_not, Bool.not_true, Bool.not_false, ne_eq, Int.not_lt, Int.not_le] at g_14
      refine Wl.m (m_lit (sz := 1) (vs := [_, _, _, _, _, _]) Try.underlying22 (by kernel_rfl) rfl rfl rfl rfl rfl) rfl ?_
      refine Wl.on' rfl rfl g_14_ ?_
      refine Wl.m (m_constBytes Try.underlying22 Try.underlying5 rfl) rfl ?_
      refine Wl.on' rfl rfl g_14_ ?_
      refine Wl.call txt13SumC rfl rfl (Sum_r _ _ _ [102, 111, 111, 98, 97, 114] _ (by simp) (rd_frozen _ [102, 111, 111, 98, 97, 114] _ _)) rfl ?_
      rintro _ w3 ⟨rfl, hb3⟩
      refine Wl.on' rfl rfl g_14_ ?_
      refine Wl.y (y_eqli rfl rfl) rfl ?_
      refine Wl.y (y_pickT rfl g_14_ rfl) rfl ?_
      refine Wl.y (y_assign rfl) rfl ?_
      refine Wl.nil ?_
      refine Wq.next hK_3 ?_
      refine Wc.ret ?_
      refine ret1 rfl rfl ?_
      exact ⟨_, rfl, by rw [sum_foobar]; rfl, by
  have h2 := (hb1.alloc hb1.size _).trans (hb2.mono (by have := hb1.size; simp; omega))
  exact (h2.alloc h2.size _).trans (hb3.mono (by have := h2.size; simp; omega))⟩
    · skip
      have g_14_ := g_14
      try simp only [decide_eq_true_eq, decide_eq_false_iff_not, beq_iff_eq, beq_eq_false_iff_ne, bne_iff_ne, bne_eq_false_iff_eq, Bool.not_eq_true', Bool.not_eq_false', Bool.not_eq_eq_eq_not, Bool.not_true, Bool.not_false, ne_eq, Int.not_lt, Int.not_le] at g_14
      exact absurd sum_a g_14
  · skip
    have g_7_ := g_7
    try simp only [decide_eq_true_eq, decide_eq_false_iff_not, beq_iff_eq, beq_eq_false_iff_ne, bne_iff_ne, bne_eq_false_iff_eq, Bool.not_eq_true', Bool.not_eq_false', Bool.not_eq_eq_eq_not, Bool.not_true, Bool.not_false, ne_eq, Int.not_lt, Int.not_le] at g_7
    exact absurd sum_nil g_7

theorem rsum_nums (l : List UInt8) (s : Int) (h0 : 0 ≤ s) (h1 : s < 18446744073709551616) : rsumI s (nums l) = sumI s (nums l) := rsum_eq _ (nums_bd l) s h0 h1

theorem SumTells_r (A : Option Addr) (n c : Nat) (l : List UInt8) (x : Int) (w : World) (hl : l.length ≤ 140737488351232) (hn : n = l.length) (hc : n ≤ c) (h : Rd w 1 A n (u8s l)) (hx0 : 0 ≤ x) (hx1 : x < 18446744073709551616) :
    Ret Try.prog 3 [.slice A n c, .int .u64 x] w fun v w' => v = .bool true ∧ Below w.heap.size w w' := by
  obtain ⟨m, hm⟩ : ∃ m, m = (min (n : Int) 2000).toNat := ⟨_, rfl⟩
  have hmn : m ≤ n := by omega
  have hr := h.takeB hmn
  refine enter Try.func3 rfl rfl rfl ?_
  refine Wc.seq fun _ hK_1 => ?_
  refine Wc.region ?_
  refine Wl.y (y_assign rfl) rfl ?_
  refine Wl.nil ?_
  refine Wq.next hK_1 ?_
  refine Wc.seq fun _ hK_3 => ?_
  refine Wc.region ?_
  refine Wl.call txt12SumC rfl rfl (shown9 _) rfl ?_
  rintro _ w1 ⟨rfl, hb1⟩
  refine Wl.y (y_assign rfl) rfl ?_
  refine Wl.nil ?_
  refine Wq.next hK_3 ?_
  refine Wc.seq fun _ hK_6 => ?_
  refine Wc.region ?_
  refine Wl.y (y_move rfl) rfl ?_
  refine Wl.y (y_move rfl) rfl ?_
  refine Wl.y (y_lenl Try.underlying22 (by omega) rfl) rfl ?_
  refine Wl.y (y_min rfl rfl) rfl ?_
  refine Wl.y (y_slicelH Try.underlying22 sz5SumC rfl rfl (by omega) (by omega)) rfl ?_
  refine Wl.y (y_assign rfl) rfl ?_
  refine Wl.nil ?_
  refine Wq.next hK_6 ?_
  refine Wc.seq fun _ hK_13 => ?_
  refine Wc.region ?_
  rw [← hm]
  refine Wl.m (m_lit0 Try.underlying22 (by kernel_rfl)) rfl ?_
  refine Wl.y (y_move rfl) rfl ?_
  refine Wl.append (z := (.int .u8 0)) (sz := 1) (bytes := 1) Try.underlying22 (by kernel_rfl) rfl (by decide) w.heap.size rfl (own_lit w1 #[] 5 0 1 w.heap.size hb1.size (by decide) rfl) rfl ((hr.below hb1).below ((Below.refl _ _).alloc (Nat.le_refl _) _)) (u8s_one _) (by simp only [maxLen]; omega) (by omega) (by have := hb1.size; simp; omega) rfl ?_
  rintro v2 w2 ho2 hg2 ha2
  have hb2 := below_grown (hb1.alloc hb1.size _) (own_lit w1 #[] 5 0 1 w.heap.size hb1.size (by decide) rfl) (by have := hb1.size; simp; omega) hg2
  obtain ⟨A2, c2, rfl, hc2, _⟩ := own_form ho2
  have hr2 : Rd w2 1 A2 (0 + m) (u8s (l.take m)) := by have := Rd.of_own ho2; simpa using this
  have hl2 : (l.take m).length ≤ 140737488351232 := by rw [List.length_take]; omega
  refine Wl.y (y_assign rfl) rfl ?_
  refine Wl.nil ?_
  refine Wq.next hK_13 ?_
  refine Wc.seq fun _ hK_18 => ?_
  refine Wc.region ?_
  refine Wl.y (y_move rfl) rfl ?_
  refine Wl.l (l_str Try.underlying22 Try.underlying5 Try.underlying9 rfl ((hr.below hb2))) rfl ?_
  refine Wl.y (y_assign rfl) rfl ?_
  refine Wl.nil ?_
  refine Wq.next hK_18 ?_
  refine Wc.seq fun _ hK_22 => ?_
  refine Wc.region ?_
  refine Wl.y (y_move rfl) rfl ?_
  refine Wl.y (y_move rfl) rfl ?_
  refine Wl.guardT rfl rfl rfl (fun g_25 => ?_) (fun g_25 => ?_)
  · skip
    have g_25_ := g_25
    try simp only [decide_eq_true_eq, decide_eq_false_iff_not, beq_iff_eq, beq_eq_false_iff_ne, bne_iff_ne, bne_eq_false_iff_eq, Bool.not_eq_true', Bool.not_eq_false', Bool.not_eq_eq_eq_not, Bool.not_true, Bool.not_false, ne_eq, Int.not_lt, Int.not_le] at g_25
    refine Wl.y (y_move rfl) rfl ?_
    refine Wl.on' rfl rfl g_25_ ?_
    refine Wl.call txt13SumC rfl rfl (Sum_r _ _ _ (l.take m) _ hl2 hr2) rfl ?_
    rintro _ w3 ⟨rfl, hb3⟩
    refine Wl.on' rfl rfl g_25_ ?_
    refine Wl.y (y_move rfl) rfl ?_
    refine Wl.on' rfl rfl g_25_ ?_
    refine Wl.call txt14SumC rfl rfl (rSum_r (l.take m) _ hl2) rfl ?_
    rintro _ w4 ⟨rfl, rfl⟩
    refine Wl.on' rfl rfl g_25_ ?_
    refine Wl.y (y_eqli rfl rfl) rfl ?_
    refine Wl.y (y_pickT rfl g_25_ rfl) rfl ?_
    refine Wl.y (y_move rfl) rfl ?_
    refine Wl.guardT rfl rfl rfl (fun g_33 => ?_) (fun g_33 => ?_)
    · skip
      have g_33_ := g_33
      try simp only [decide_eq_true_eq, decide_eq_false_iff_not, beq_iff_eq, beq_eq_false_iff_ne, bne_iff_ne, bne_eq_false_iff_eq, Bool.not_eq_true', Bool.not_eq_false', Bool.not_eq_eq_eq_not, Bool.not_true, Bool.not_false, ne_eq, Int.not_lt, Int.not_le] at g_33
      refine Wl.y (y_move rfl) rfl ?_
      refine Wl.on' rfl rfl g_33_ ?_
      refine Wl.y (y_move rfl) rfl ?_
      refine Wl.on' rfl rfl g_33_ ?_
      refine Wl.call txt15SumC rfl rfl (More_r _ _ _ _ (l.take m) _ hl2 (hr2.below hb3)) rfl ?_
      rintro _ w5 ⟨rfl, hb5⟩
      refine Wl.on' rfl rfl g_33_ ?_
      refine Wl.y (y_move rfl) rfl ?_
      refine Wl.on' rfl rfl g_33_ ?_
      refine Wl.y (y_move rfl) rfl ?_
      refine Wl.on' rfl rfl g_33_ ?_
      refine Wl.call txt16SumC rfl rfl (rMore_r _ (l.take m) _ hl2) rfl ?_
      rintro _ w6 ⟨rfl, rfl⟩
      refine Wl.on' rfl rfl g_33_ ?_
      refine Wl.y (y_eqli rfl rfl) rfl ?_
      refine Wl.y (y_pickT rfl g_33_ rfl) rfl ?_
      refine Wl.y (y_move rfl) rfl ?_
      refine Wl.guardT rfl rfl rfl (fun g_43 => ?_) (fun g_43 => ?_)
      · skip
        have g_43_ := g_43
        try simp only [decide_eq_true_eq, decide_eq_false_iff_not, beq_iff_eq, beq_eq_false_iff_ne, bne_iff_ne, bne_eq_false_iff_eq, Bool.not_eq_true', Bool.not_eq_false', Bool.not_eq_eq_eq_not, Bool.not_true, Bool.not_false, ne_eq, Int.not_lt, Int.not_le] at g_43
        refine Wl.y (y_move rfl) rfl ?_
        refine Wl.on' rfl rfl g_43_ ?_
        refine Wl.l (l_str Try.underlying22 Try.underlying5 Try.underlying9 rfl ((hr2.below hb3).below hb5)) rfl ?_
        refine Wl.on' rfl rfl g_43_ ?_
        refine Wl.y (y_move rfl) rfl ?_
        refine Wl.on' rfl rfl g_43_ ?_
        refine Wl.y (y_eqls rfl rfl) rfl ?_
        refine Wl.y (y_pickT rfl g_43_ rfl) rfl ?_
        refine Wl.y (y_assign rfl) rfl ?_
        refine Wl.nil ?_
        refine Wq.next hK_22 ?_
        refine Wc.ret ?_
        refine ret1 rfl rfl ?_
        exact ⟨_, rfl, by simp, hb2.trans ((hb3.trans (hb5.mono hb3.size)).mono hb2.size)⟩
      · skip
        have g_43_ := g_43
        try simp only [decide_eq_true_eq, decide_eq_false_iff_not, beq_iff_eq, beq_eq_false_iff_ne, bne_iff_ne, bne_eq_false_iff_eq, Bool.not_eq_true', Bool.not_eq_false', Bool.not_eq_eq_eq_not, Bool.not_true, Bool.not_false, ne_eq, Int.not_lt, Int.not_le] at g_43
        exact absurd (rsum_nums _ _ (by omega) (by omega)).symm g_43
    · skip
      have g_33_ := g_33
      try simp only [decide_eq_true_eq, decide_eq_false_iff_not, beq_iff_eq, beq_eq_false_iff_ne, bne_iff_ne, bne_eq_false_iff_eq, Bool.not_eq_true', Bool.not_eq_false', Bool.not_eq_eq_eq_not, Bool.not_true, Bool.not_false, ne_eq, Int.not_lt, Int.not_le] at g_33
      exact absurd (rsum_nums _ _ (by omega) (by omega)).symm g_33
  · skip
    have g_25_ := g_25
    try simp only [decide_eq_true_eq, decide_eq_false_iff_not, beq_iff_eq, beq_eq_false_iff_ne, bne_iff_ne, bne_eq_false_iff_eq, Bool.not_eq_true', Bool.not_eq_false', Bool.not_eq_eq_eq_not, Bool.not_true, Bool.not_false, ne_eq, Int.not_lt, Int.not_le] at g_25
    cases g_25

theorem sumI_bd (s : Int) (l : List Int) (h0 : 0 ≤ s) (h1 : s < 18446744073709551616) : 0 ≤ sumI s l ∧ sumI s l < 18446744073709551616 := by
  induction l generalizing s with
  | nil => exact ⟨h0, h1⟩
  | cons c l ih => exact ih _ (moreI_bd s c).1 (moreI_bd s c).2

theorem apart_one (a b : Int) (l : List UInt8) (ha0 : 0 ≤ a) (ha1 : a < 18446744073709551616) (hb0 : 0 ≤ b) (hb1 : b < 18446744073709551616) : ((sumI a (nums l) == sumI b (nums l)) == (a == b)) = true := by
  rw [beq_iff_eq, Bool.eq_iff_iff, beq_iff_eq, beq_iff_eq]
  exact ⟨fun h => sum_inj _ (nums_bd l) a b ha0 ha1 hb0 hb1 h, fun h => by rw [h]⟩
theorem apart_two (a : Int) (x y : UInt8) (ha0 : 0 ≤ a) (ha1 : a < 18446744073709551616) : ((sumI a (nums [x]) == sumI a (nums [y])) == ((x.toNat : Int) == (y.toNat : Int))) = true := by
  rw [beq_iff_eq, Bool.eq_iff_iff, beq_iff_eq, beq_iff_eq]
  refine ⟨fun h => ?_, fun h => by have : x = y := by { apply UInt8.toNat.inj; omega }; rw [this]⟩
  obtain ⟨a', rfl⟩ := Int.eq_ofNat_of_zero_le ha0
  have := more_inj_c a' x.toNat y.toNat (by omega) x.toNat_lt y.toNat_lt (by simpa [sumI, nums] using h)
  rw [this]

theorem SumApart_r (a b : Int) (A : Option Addr) (n c : Nat) (l : List UInt8) (x y : UInt8) (w : World) (hl : l.length ≤ 140737488351232) (hn : n = l.length) (hc : n ≤ c) (h : Rd w 1 A n (u8s l)) (ha0 : 0 ≤ a) (ha1 : a < 18446744073709551616) (hb0 : 0 ≤ b) (hb1 : b < 18446744073709551616) :
    Ret Try.prog 5 [.int .u64 a, .int .u64 b, .slice A n c, .int .u8 x.toNat, .int .u8 y.toNat] w fun v w' => v = .bool true ∧ Below w.heap.size w w' := by
  obtain ⟨m, hm⟩ : ∃ m, m = (min (n : Int) 500).toNat := ⟨_, rfl⟩
  have hmn : m ≤ n := by omega
  have hr := h.takeB hmn
  have hl2 : (l.take m).length ≤ 140737488351232 := by rw [List.length_take]; omega
  refine enter Try.func5 rfl rfl rfl ?_
  refine Wc.seq fun _ hK_1 => ?_
  refine Wc.region ?_
  refine Wl.y (y_assign rfl) rfl ?_
  refine Wl.nil ?_
  refine Wq.next hK_1 ?_
  refine Wc.seq fun _ hK_3 => ?_
  refine Wc.region ?_
  refine Wl.call txt12SumC rfl rfl (shown9 _) rfl ?_
  rintro _ w1 ⟨rfl, hw1⟩
  refine Wl.y (y_assign rfl) rfl ?_
  refine Wl.nil ?_
  refine Wq.next hK_3 ?_
  refine Wc.seq fun _ hK_6 => ?_
  refine Wc.region ?_
  refine Wl.y (y_move rfl) rfl ?_
  refine Wl.y (y_move rfl) rfl ?_
  refine Wl.y (y_lenl Try.underlying22 (by omega) rfl) rfl ?_
  refine Wl.y (y_min rfl rfl) rfl ?_
  refine Wl.y (y_slicelH Try.underlying22 sz5SumC rfl rfl (by omega) (by omega)) rfl ?_
  refine Wl.y (y_assign rfl) rfl ?_
  refine Wl.nil ?_
  refine Wq.next hK_6 ?_
  refine Wc.seq fun _ hK_13 => ?_
  rw [← hm]
  refine Wc.region ?_
  refine Wl.y (y_move rfl) rfl ?_
  refine Wl.y (y_move rfl) rfl ?_
  refine Wl.call txt15SumC rfl rfl (More_r _ _ _ _ (l.take m) _ hl2 (hr.below hw1)) rfl ?_
  rintro _ w2 ⟨rfl, hw2⟩
  refine Wl.y (y_move rfl) rfl ?_
  refine Wl.y (y_move rfl) rfl ?_
  have hw2' := hw1.trans (hw2.mono hw1.size)
  refine Wl.call txt15SumC rfl rfl (More_r _ _ _ _ (l.take m) _ hl2 (hr.below hw2')) rfl ?_
  rintro _ w3 ⟨rfl, hw3⟩
  refine Wl.y (y_eqli rfl rfl) rfl ?_
  refine Wl.y (y_move rfl) rfl ?_
  refine Wl.y (y_move rfl) rfl ?_
  refine Wl.y (y_eqli rfl rfl) rfl ?_
  refine Wl.y (y_eqlb Try.underlying4 rfl rfl) rfl ?_
  refine Wl.y (y_assign rfl) rfl ?_
  refine Wl.nil ?_
  refine Wq.next hK_13 ?_
  refine Wc.seq fun _ hK_26 => ?_
  refine Wc.region ?_
  refine Wl.y (y_move rfl) rfl ?_
  refine Wl.y (y_move rfl) rfl ?_
  refine Wl.m (m_lit (sz := 1) (vs := [_]) Try.underlying22 (by kernel_rfl) rfl rfl rfl rfl rfl) rfl ?_
  refine Wl.call txt15SumC rfl rfl (More_r _ _ _ _ [x] _ (by simp) (rd_frozen _ [x] _ _)) rfl ?_
  rintro _ w4 ⟨rfl, hw4⟩
  refine Wl.y (y_move rfl) rfl ?_
  refine Wl.y (y_move rfl) rfl ?_
  refine Wl.m (m_lit (sz := 1) (vs := [_]) Try.underlying22 (by kernel_rfl) rfl rfl rfl rfl rfl) rfl ?_
  refine Wl.call txt15SumC rfl rfl (More_r _ _ _ _ [y] _ (by simp) (rd_frozen _ [y] _ _)) rfl ?_
  rintro _ w5 ⟨rfl, hw5⟩
  refine Wl.y (y_eqli rfl rfl) rfl ?_
  refine Wl.y (y_move rfl) rfl ?_
  refine Wl.y (y_move rfl) rfl ?_
  refine Wl.y (y_eqli rfl rfl) rfl ?_
  refine Wl.y (y_eqlb Try.underlying4 rfl rfl) rfl ?_
  refine Wl.y (y_assign rfl) rfl ?_
  refine Wl.nil ?_
  refine Wq.next hK_26 ?_
  refine Wc.seq fun _ hK_41 => ?_
  refine Wc.region ?_
  refine Wl.y (y_move rfl) rfl ?_
  refine Wl.y (y_move rfl) rfl ?_
  refine Wl.guardT rfl rfl rfl (fun g_44 => ?_) (fun g_44 => ?_)
  · skip
    have g_44_ := g_44
    try simp only [decide_eq_true_eq, decide_eq_false_iff_not, beq_iff_eq, beq_eq_false_iff_ne, bne_iff_ne, bne_eq_false_iff_eq, Bool.not_eq_true', Bool.not_eq_false', Bool.not_eq_eq_eq_not, Bool.not_true, Bool.not_false, ne_eq, Int.not_lt, Int.not_le] at g_44
    refine Wl.y (y_move rfl) rfl ?_
    refine Wl.y (y_pickT rfl g_44_ rfl) rfl ?_
    refine Wl.y (y_move rfl) rfl ?_
    refine Wl.guardT rfl rfl rfl (fun g_48 => ?_) (fun g_48 => ?_)
    · skip
      have g_48_ := g_48
      try simp only [decide_eq_true_eq, decide_eq_false_iff_not, beq_iff_eq, beq_eq_false_iff_ne, bne_iff_ne, bne_eq_false_iff_eq, Bool.not_eq_true', Bool.not_eq_false', Bool.not_eq_eq_eq_not, Bool.not_true, Bool.not_false, ne_eq, Int.not_lt, Int.not_le] at g_48
      refine Wl.y (y_move rfl) rfl ?_
      refine Wl.y (y_pickT rfl g_48_ rfl) rfl ?_
      refine Wl.y (y_assign rfl) rfl ?_
      refine Wl.nil ?_
      refine Wq.next hK_41 ?_
      refine Wc.ret ?_
      refine ret1 rfl rfl ?_
      exact ⟨_, rfl, by rw [apart_two a x y ha0 ha1], by
  have h3 := hw2'.trans (hw3.mono hw2'.size)
  have h4 := (h3.alloc h3.size _).trans (hw4.mono (by have := h3.size; simp; omega))
  exact (h4.alloc h4.size _).trans (hw5.mono (by have := h4.size; simp; omega))⟩
    · skip
      have g_48_ := g_48
      try simp only [decide_eq_true_eq, decide_eq_false_iff_not, beq_iff_eq, beq_eq_false_iff_ne, bne_iff_ne, bne_eq_false_iff_eq, Bool.not_eq_true', Bool.not_eq_false', Bool.not_eq_eq_eq_not, Bool.not_true, Bool.not_false, ne_eq, Int.not_lt, Int.not_le] at g_48
      exact absurd (apart_one a b _ ha0 ha1 hb0 hb1) (by rw [g_48_]; simp)
  · skip
    have g_44_ := g_44
    try simp only [decide_eq_true_eq, decide_eq_false_iff_not, beq_iff_eq, beq_eq_false_iff_ne, bne_iff_ne, bne_eq_false_iff_eq, Bool.not_eq_true', Bool.not_eq_false', Bool.not_eq_eq_eq_not, Bool.not_true, Bool.not_false, ne_eq, Int.not_lt, Int.not_le] at g_44
    cases g_44

/-- a slice of rows of bytes -/
def Pieces (w : World) (A : Option Addr) (n : Nat) (ls : List (List UInt8)) : Prop :=
  n = ls.length ∧ ∃ cs : List Value, Rd w 1 A n cs ∧ ∀ (i : Nat) (v : Value), cs[i]? = some v → ∃ (B : Option Addr) (m c : Nat) (l : List UInt8), ls[i]? = some l ∧ v = .slice B m c ∧ m = l.length ∧ m ≤ c ∧ m ≤ 140737488351232 ∧ Rd w 1 B m (u8s l)
theorem SumPieces_r (A : Option Addr) (n c : Nat) (ls : List (List UInt8)) (w : World) (hn : n ≤ 140737488351232) (hc : n ≤ c) (h : Pieces w A n ls) :
    Ret Try.prog 4 [.slice A n c] w fun v w' => v = .bool true ∧ Below w.heap.size w w' := by
  obtain ⟨hlen, cs, hrd, hcs⟩ := h
  refine enter Try.func4 rfl rfl rfl ?_
  refine Wc.seq fun _ hK_1 => ?_
  refine Wc.region ?_
  refine Wl.y (y_assign rfl) rfl ?_
  refine Wl.nil ?_
  refine Wq.next hK_1 ?_
  refine Wc.seq fun _ hK_3 => ?_
  refine Wc.region ?_
  refine Wl.call txt12SumC rfl rfl (shown9 _) rfl ?_
  rintro _ w1 ⟨rfl, hw1⟩
  refine Wl.y (y_assign rfl) rfl ?_
  refine Wl.nil ?_
  refine Wq.next hK_3 ?_
  refine Wc.seq fun _ hK_6 => ?_
  refine Wc.region ?_
  refine Wl.call txt13SumC rfl rfl (Sum_r _ _ _ [] _ (by simp) (Rd.nil _ _ _)) rfl ?_
  rintro _ w2 ⟨rfl, hw2⟩
  refine Wl.y (y_assign rfl) rfl ?_
  refine Wl.nil ?_
  refine Wq.next hK_6 ?_
  refine Wc.seq fun _ hK_9 => ?_
  refine Wc.region ?_
  have hw2' := hw1.trans (hw2.mono hw1.size)
  refine Wl.m (m_lit0 Try.underlying22 (by kernel_rfl)) rfl ?_
  refine Wl.y (y_assign rfl) rfl ?_
  refine Wl.nil ?_
  refine Wq.next hK_9 ?_
  refine Wc.seq fun _ hK_12 => ?_
  refine Wc.seq fun _ hK_13 => ?_
  refine Wc.region ?_
  refine Wl.y (y_assign rfl) rfl ?_
  refine Wl.nil ?_
  refine Wq.next hK_13 ?_
  refine Wc.block ?_
  refine Wc.loop (X := Nat × List UInt8 × Value) (fun (k, acc, v5) => [(0, .slice A n c), (3, .bool true), (4, .int .u64 (sum0 acc)), (5, v5), (6, .int .i64 (k : Int))]) (fun (k, acc, v5) wr => k ≤ n ∧ k ≤ 30 ∧ acc.length ≤ 200 * k ∧ wr.ownsRow w.heap.size 5 1 v5 acc.length (u8s acc) ∧ Below w.heap.size w wr) (fun (k, acc, v5) => 30 - k) (⟨0, [], .slice (some ⟨w2.heap.size, 0, none⟩) 0 0⟩) ?_ ?_ ?_
  · exact Sub.cons' rfl (by first | rfl | exact int_eq (by simp) | exact int_eq (by simp [sum0, nums_append, sumI_append])) (Sub.cons' rfl (by first | rfl | exact int_eq (by simp) | exact int_eq (by simp [sum0, nums_append, sumI_append])) (Sub.cons' rfl (by first | rfl | exact int_eq (by simp) | exact int_eq (by simp [sum0, nums_append, sumI_append])) (Sub.cons' rfl (by first | rfl | exact int_eq (by simp) | exact int_eq (by simp [sum0, nums_append, sumI_append])) (Sub.cons' rfl (by first | rfl | exact int_eq (by simp) | exact int_eq (by simp [sum0, nums_append, sumI_append])) (Sub.nil)))))
  · exact ⟨by simp, by simp, by simp, own_lit w2 #[] _ 0 1 w.heap.size hw2'.size (by decide) rfl, hw2'.alloc hw2'.size _⟩
  · rintro ⟨k, acc, v5⟩ wr hI_16 _ hL_15
    replace hI_16 : k ≤ n ∧ k ≤ 30 ∧ acc.length ≤ 200 * k ∧ wr.ownsRow w.heap.size 5 1 v5 acc.length (u8s acc) ∧ Below w.heap.size w wr := hI_16
    obtain ⟨hk, hk30, hacc, ho, hb⟩ := hI_16
    show Wc _ _ _ _ _ [(0, .slice A n c), (3, .bool true), (4, .int .u64 (sum0 acc)), (5, v5), (6, .int .i64 (k : Int))] _
    refine Wc.seq fun _ hK_17 => ?_
    refine Wc.seq fun _ hK_18 => ?_
    refine Wc.region ?_
    refine Wl.y (y_move rfl) rfl ?_
    refine Wl.y (y_move rfl) rfl ?_
    refine Wl.y (y_lenl Try.underlying30 (by omega) rfl) rfl ?_
    refine Wl.y (y_lssi rfl rfl) rfl ?_
    refine Wl.y (y_move rfl) rfl ?_
    refine Wl.guardT rfl rfl rfl (fun g_24 => ?_) (fun g_24 => ?_)
    · skip
      have g_24_ := g_24
      try simp only [decide_eq_true_eq, decide_eq_false_iff_not, beq_iff_eq, beq_eq_false_iff_ne, bne_iff_ne, bne_eq_false_iff_eq, Bool.not_eq_true', Bool.not_eq_false', Bool.not_eq_eq_eq_not, Bool.not_true, Bool.not_false, ne_eq, Int.not_lt, Int.not_le] at g_24
      refine Wl.y (y_move rfl) rfl ?_
      refine Wl.on' rfl rfl g_24_ ?_
      refine Wl.y (y_lssi rfl rfl) rfl ?_
      refine Wl.y (y_pickT rfl g_24_ rfl) rfl ?_
      refine Wl.nil ?_
      refine Wq.next hK_18 ?_
      refine Wc.cond rfl (fun c0_28 => ?_) (fun c0_28 => ?_)
      · skip
        have c0_28_ := c0_28
        try simp only [decide_eq_true_eq, decide_eq_false_iff_not, beq_iff_eq, beq_eq_false_iff_ne, bne_iff_ne, bne_eq_false_iff_eq, Bool.not_eq_true', Bool.not_eq_false', Bool.not_eq_eq_eq_not, Bool.not_true, Bool.not_false, ne_eq, Int.not_lt, Int.not_le] at c0_28
        refine Wc.skip ?_
        refine Wq.next hK_17 ?_
        refine Wc.seq fun _ hK_29 => ?_
        refine Wc.block ?_
        refine Wc.seq fun _ hK_30 => ?_
        obtain ⟨p, v, rfl, hv, hcell⟩ := hrd.one (i := k) (by omega)
        obtain ⟨B, m, cc, l, hl, rfl, hm, hmc, hmb, hB⟩ := hcs k v hv
        have hcell' := cell_below hb hcell
        refine Wc.quiet (by kernel_rfl) (by kernel_rfl) ?_
        refine Wy.y (y_move rfl) rfl ?_
        refine Wy.y (y_move rfl) rfl ?_
        refine Wy.y (y_indexAddr Try.underlying30 sz22SumC rfl rfl (by omega) (by omega)) rfl ?_
        refine Wy.l (fun wq hq => l_load one22SumC rfl ((by simpa using cell_below hq hcell'))) rfl ?_
        refine Wy.y (y_move rfl) rfl ?_
        refine Wy.y (y_move rfl) rfl ?_
        refine Wy.y (y_indexAddr Try.underlying30 sz22SumC rfl rfl (by omega) (by omega)) rfl ?_
        refine Wy.l (fun wq hq => l_load one22SumC rfl ((by simpa using cell_below hq hcell'))) rfl ?_
        refine Wy.y (y_lenl Try.underlying22 (by omega) rfl) rfl ?_
        refine Wy.y (y_min rfl rfl) rfl ?_
        obtain ⟨m', hm'⟩ : ∃ m', m' = (min (m : Int) 200).toNat := ⟨_, rfl⟩
        have hmm : m' ≤ m := by omega
        have hB' := (hB.below hb).takeB hmm
        refine Wy.y (y_slicelH Try.underlying22 sz5SumC rfl rfl (by omega) (by omega)) rfl ?_
        refine Wy.y (y_assign rfl) rfl ?_
        refine Wy.nil fun w3 hw3 => ?_
        rw [← hm']
        have hlm : (l.take m').length ≤ 200 := by rw [List.length_take]; omega
        refine Wq.next hK_30 ?_
        refine Wc.seq fun _ hK_43 => ?_
        refine Wc.region ?_
        refine Wl.y (y_move rfl) rfl ?_
        refine Wl.y (y_move rfl) rfl ?_
        refine Wl.call txt15SumC rfl rfl (More_r _ _ _ _ (l.take m') _ (by omega) (hB'.below hw3)) rfl ?_
        rintro _ w4 ⟨rfl, hw4⟩
        refine Wl.y (y_assign rfl) rfl ?_
        refine Wl.nil ?_
        refine Wq.next hK_43 ?_
        refine Wc.region ?_
        refine Wl.y (y_move rfl) rfl ?_
        refine Wl.y (y_move rfl) rfl ?_
        have hw34 := hw3.trans (hw4.mono hw3.size)
        have ho' : w4.ownsRow w.heap.size 5 1 v5 acc.length (u8s acc) := own_below ho hw34
        have hb4 := hb.trans (hw34.mono hb.size)
        refine Wl.append (z := (.int .u8 0)) (sz := 1) (bytes := 1) Try.underlying22 (by kernel_rfl) rfl (by decide) w.heap.size rfl ho' rfl (hB'.below hw34) (u8s_one _) (by simp only [maxLen]; omega) (by omega) hb4.size rfl ?_
        rintro v6 w5 ho2 hg hat
        have hb3 := below_grown hb4 ho' hb4.size hg
        refine Wl.y (y_assign rfl) rfl ?_
        refine Wl.nil ?_
        refine Wq.block_normal ?_
        refine Wq.next hK_29 ?_
        refine Wc.region ?_
        refine Wl.y (y_move rfl) rfl ?_
        refine Wl.y (y_addI rfl rfl (by first | omega | simp; omega) (by first | omega | simp; omega)) rfl ?_
        refine Wl.y (y_assign rfl) rfl ?_
        refine Wl.nil ?_
        refine fun a_ ha_ => hL_15 _ _ (⟨k + 1, acc ++ l.take m', v6⟩) (by first | omega | (simp; omega)) (Sub.cons' rfl (by first | rfl | exact int_eq (by simp) | exact int_eq (by simp [sum0, nums_append, sumI_append])) (Sub.cons' rfl (by first | rfl | exact int_eq (by simp) | exact int_eq (by simp [sum0, nums_append, sumI_append])) (Sub.cons' rfl (by first | rfl | exact int_eq (by simp) | exact int_eq (by simp [sum0, nums_append, sumI_append])) (Sub.cons' rfl (by first | rfl | exact int_eq (by simp) | exact int_eq (by simp [sum0, nums_append, sumI_append])) (Sub.cons' rfl (by first | rfl | exact int_eq (by simp) | exact int_eq (by simp [sum0, nums_append, sumI_append])) (Sub.nil)))))) ?_ a_ ha_
        exact ⟨by omega, by omega, by simp; omega, by have hq_ : (acc ++ l.take m').length = acc.length + m' := by { simp; omega }; rw [hq_, u8s_append]; exact ho2, hb3⟩
      · skip
        have c0_28_ := c0_28
        try simp only [decide_eq_true_eq, decide_eq_false_iff_not, beq_iff_eq, beq_eq_false_iff_ne, bne_iff_ne, bne_eq_false_iff_eq, Bool.not_eq_true', Bool.not_eq_false', Bool.not_eq_eq_eq_not, Bool.not_true, Bool.not_false, ne_eq, Int.not_lt, Int.not_le] at c0_28
        refine Wc.exit ?_
        refine Wq.then_exit ?_
        refine Wq.then_exit ?_
        refine Wq.block_exit ?_
        refine Wq.next hK_12 ?_
        refine Wc.seq fun _ hK_55 => ?_
        refine Wc.region ?_
        refine Wl.y (y_move rfl) rfl ?_
        refine Wl.y (y_move rfl) rfl ?_
        refine Wl.guardT rfl rfl rfl (fun g_58 => ?_) (fun g_58 => ?_)
        · skip
          have g_58_ := g_58
          try simp only [decide_eq_true_eq, decide_eq_false_iff_not, beq_iff_eq, beq_eq_false_iff_ne, bne_iff_ne, bne_eq_false_iff_eq, Bool.not_eq_true', Bool.not_eq_false', Bool.not_eq_eq_eq_not, Bool.not_true, Bool.not_false, ne_eq, Int.not_lt, Int.not_le] at g_58
          refine Wl.y (y_move rfl) rfl ?_
          refine Wl.on' rfl rfl g_58_ ?_
          refine Wl.y (y_move rfl) rfl ?_
          refine Wl.on' rfl rfl g_58_ ?_
          obtain ⟨A5, c5, rfl, _, _⟩ := own_form ho
          refine Wl.call txt13SumC rfl rfl (Sum_r _ _ _ acc _ (by omega) (Rd.of_own ho)) rfl ?_
          rintro _ w6 ⟨rfl, hw6⟩
          refine Wl.on' rfl rfl g_58_ ?_
          refine Wl.y (y_eqli rfl rfl) rfl ?_
          refine Wl.y (y_pickT rfl g_58_ rfl) rfl ?_
          refine Wl.y (y_assign rfl) rfl ?_
          refine Wl.nil ?_
          refine Wq.next hK_55 ?_
          refine Wc.ret ?_
          refine ret1 rfl rfl ?_
          exact ⟨_, rfl, by simp, hb.trans (hw6.mono hb.size)⟩
        · skip
          have g_58_ := g_58
          try simp only [decide_eq_true_eq, decide_eq_false_iff_not, beq_iff_eq, beq_eq_false_iff_ne, bne_iff_ne, bne_eq_false_iff_eq, Bool.not_eq_true', Bool.not_eq_false', Bool.not_eq_eq_eq_not, Bool.not_true, Bool.not_false, ne_eq, Int.not_lt, Int.not_le] at g_58
          cases g_58
    · skip
      have g_24_ := g_24
      try simp only [decide_eq_true_eq, decide_eq_false_iff_not, beq_iff_eq, beq_eq_false_iff_ne, bne_iff_ne, bne_eq_false_iff_eq, Bool.not_eq_true', Bool.not_eq_false', Bool.not_eq_eq_eq_not, Bool.not_true, Bool.not_false, ne_eq, Int.not_lt, Int.not_le] at g_24
      refine Wl.off' rfl rfl g_24_ rfl rfl ?_
      refine Wl.y (y_pickF rfl g_24_ rfl) rfl ?_
      refine Wl.nil ?_
      refine Wq.next hK_18 ?_
      refine Wc.condF rfl rfl ?_
      refine Wc.exit ?_
      refine Wq.then_exit ?_
      refine Wq.then_exit ?_
      refine Wq.block_exit ?_
      refine Wq.next hK_12 ?_
      refine Wc.seq fun _ hK_66 => ?_
      refine Wc.region ?_
      refine Wl.y (y_move rfl) rfl ?_
      refine Wl.y (y_move rfl) rfl ?_
      refine Wl.guardT rfl rfl rfl (fun g_69 => ?_) (fun g_69 => ?_)
      · skip
        have g_69_ := g_69
        try simp only [decide_eq_true_eq, decide_eq_false_iff_not, beq_iff_eq, beq_eq_false_iff_ne, bne_iff_ne, bne_eq_false_iff_eq, Bool.not_eq_true', Bool.not_eq_false', Bool.not_eq_eq_eq_not, Bool.not_true, Bool.not_false, ne_eq, Int.not_lt, Int.not_le] at g_69
        refine Wl.y (y_move rfl) rfl ?_
        refine Wl.on' rfl rfl g_69_ ?_
        refine Wl.y (y_move rfl) rfl ?_
        refine Wl.on' rfl rfl g_69_ ?_
        obtain ⟨A5, c5, rfl, _, _⟩ := own_form ho
        refine Wl.call txt13SumC rfl rfl (Sum_r _ _ _ acc _ (by omega) (Rd.of_own ho)) rfl ?_
        rintro _ w6 ⟨rfl, hw6⟩
        refine Wl.on' rfl rfl g_69_ ?_
        refine Wl.y (y_eqli rfl rfl) rfl ?_
        refine Wl.y (y_pickT rfl g_69_ rfl) rfl ?_
        refine Wl.y (y_assign rfl) rfl ?_
        refine Wl.nil ?_
        refine Wq.next hK_66 ?_
        refine Wc.ret ?_
        refine ret1 rfl rfl ?_
        exact ⟨_, rfl, by simp, hb.trans (hw6.mono hb.size)⟩
      · skip
        have g_69_ := g_69
        try simp only [decide_eq_true_eq, decide_eq_false_iff_not, beq_iff_eq, beq_eq_false_iff_ne, bne_iff_ne, bne_eq_false_iff_eq, Bool.not_eq_true', Bool.not_eq_false', Bool.not_eq_eq_eq_not, Bool.not_true, Bool.not_false, ne_eq, Int.not_lt, Int.not_le] at g_69
        cases g_69
end Go.Proofs.Ytnjjieeepfcloaa
