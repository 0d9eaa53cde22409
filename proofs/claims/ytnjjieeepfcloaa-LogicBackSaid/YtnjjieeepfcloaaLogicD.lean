/- The statements of layer 4 that speak of values: their walks. -/
import Derived.Test.YtnjjieeepfcloaaLogicC
namespace Go.Proofs.Ytnjjieeepfcloaa
open Go.RowKit Go.Bw Go.Bw.Logic
set_option linter.unusedVariables false
set_option linter.unusedSimpArgs false
theorem one2LogicD : One Try.prog 2 := ⟨_, Try.underlying2, rfl, by kernel_rfl⟩
theorem one3LogicD : One Try.prog 3 := ⟨_, Try.underlying3, rfl, by kernel_rfl⟩
theorem one44LogicD : One Try.prog 44 := ⟨_, Try.underlying44, rfl, by kernel_rfl⟩
theorem one9LogicD : One Try.prog 9 := ⟨_, Try.underlying9, rfl, by kernel_rfl⟩
theorem txt17LogicD : Txt Try.prog 17 := ⟨_, Try.func17, by kernel_rfl, rfl⟩   -- bridleway/bridlewaylaw04.shown
theorem txt18LogicD : Txt Try.prog 18 := ⟨_, Try.func18, by kernel_rfl, rfl⟩   -- bridleway/bridlewaylaw04.truths
theorem txt19LogicD : Txt Try.prog 19 := ⟨_, Try.func19, by kernel_rfl, rfl⟩   -- bridleway/logic.And
theorem txt20LogicD : Txt Try.prog 20 := ⟨_, Try.func20, by kernel_rfl, rfl⟩   -- bridleway/logic.Or
theorem txt22LogicD : Txt Try.prog 22 := ⟨_, Try.func22, by kernel_rfl, rfl⟩   -- bridleway/logic.Not
theorem txt23LogicD : Txt Try.prog 23 := ⟨_, Try.func23, by kernel_rfl, rfl⟩   -- bridleway/logic.Is
theorem txt24LogicD : Txt Try.prog 24 := ⟨_, Try.func24, by kernel_rfl, rfl⟩   -- bridleway/logic.Of
theorem txt25LogicD : Txt Try.prog 25 := ⟨_, Try.func25, by kernel_rfl, rfl⟩   -- (bridleway/logic.Truth).Value
theorem txt26LogicD : Txt Try.prog 26 := ⟨_, Try.func26, by kernel_rfl, rfl⟩   -- bridleway/bridlewayref04.Of
theorem txt27LogicD : Txt Try.prog 27 := ⟨_, Try.func27, by kernel_rfl, rfl⟩   -- bridleway/bridlewayref04.Known
theorem txt28LogicD : Txt Try.prog 28 := ⟨_, Try.func28, by kernel_rfl, rfl⟩   -- bridleway/bridlewayref04.All
theorem txt29LogicD : Txt Try.prog 29 := ⟨_, Try.func29, by kernel_rfl, rfl⟩   -- bridleway/bridlewayref04.Not
theorem ofV_ok (v : Val) (h : (ofT v.k v.n).2 = 0) : (ofT v.k v.n).1 = 0 ∨ (ofT v.k v.n).1 = 1 ∨ (ofT v.k v.n).1 = 2 := by
  unfold ofT at *; split
  · simp
  · split
    · rename_i h1 h2; rcases h2.2 with e | e <;> simp [e]
    · rename_i h1 h2; simp [h1, h2] at h
theorem ofV_err (v : Val) (h : (ofT v.k v.n).2 ≠ 0) : ofT v.k v.n = (2, 4) := by
  unfold ofT at *; split
  · rename_i h1; simp [h1] at h
  · split
    · rename_i h1 h2; simp [h1, h2] at h
    · rfl
theorem of_val {y : Int} (h : y = 0 ∨ y = 1 ∨ y = 2) : ofT (valV y).k (valV y).n = (y, 0) := by rcases h with rfl | rfl | rfl <;> decide
theorem LogicBack_r (x : Int) (v : Val) (w : World) :
    Ret Try.prog 10 [.int .i64 x, v.enc] w fun u w' => u = .bool true ∧ Below w.heap.size w w' := by
  obtain ⟨y, hy⟩ : ∃ y, y = (bits .and .i64 x 255).tmod 3 := ⟨_, rfl⟩
  have hy3 : y = 0 ∨ y = 1 ∨ y = 2 := three_of hy
  have hv3 := ofV_ok v
  have hy2 := of_val hy3
  have hvf := ofV_err v
  have hb := Below.refl w.heap.size w
  refine enter Try.func10 rfl rfl rfl ?_
  refine Wc.seq fun _ hK_1 => ?_
  refine Wc.region ?_
  refine Wl.boxN rfl rfl ?_
  rintro g_o0 w_o0 hg_o0 hn_o0 hs_o0
  have hz_o0 := hs_o0.size
  have hb := hb.trans (hs_o0.mono hb.size)
  have hB_o0 := hn_o0
  have hl_o0 := hB_o0.lt
  refine Wl.y (y_assign rfl) rfl ?_
  refine Wl.nil ?_
  refine Wq.next hK_1 ?_
  refine Wc.seq fun _ hK_4 => ?_
  refine Wc.region ?_
  refine Wl.call txt17LogicD rfl rfl (shown_r _) rfl ?_
  rintro _ w_k0 ⟨rfl, hs_k0⟩
  have hz_k0 := hs_k0.size
  have hb := hb.trans (hs_k0.mono hb.size)
  try have hB_o0 := Blk.below hB_o0 hs_k0
  refine Wl.y (y_assign rfl) rfl ?_
  refine Wl.nil ?_
  refine Wq.next hK_4 ?_
  refine Wc.seq fun _ hK_7 => ?_
  refine Wc.region ?_
  refine Wl.y (y_move rfl) rfl ?_
  refine Wl.y (y_and rfl rfl) rfl ?_
  refine Wl.y (y_rem rfl rfl (by first | decide | omega)) rfl ?_
  refine Wl.y (y_assign rfl) rfl ?_
  refine Wl.nil ?_
  refine Wq.next hK_7 ?_
  refine Wc.seq fun _ hK_12 => ?_
  rw [← hy]
  refine Wc.region ?_
  refine Wl.y (y_move rfl) rfl ?_
  refine Wl.call txt25LogicD rfl rfl (Value_r _ _) rfl ?_
  rintro _ w_k1 ⟨rfl, hs_k1⟩
  have hz_k1 := hs_k1.size
  have hb := hb.trans (hs_k1.mono hb.size)
  try have hB_o0 := Blk.below hB_o0 hs_k1
  refine Wl.call txt24LogicD rfl rfl (Of_r (valV y) _) rfl ?_
  rintro _ w_k2 ⟨rfl, hs_k2⟩
  have hz_k2 := hs_k2.size
  have hb := hb.trans (hs_k2.mono hb.size)
  try have hB_o0 := Blk.below hB_o0 hs_k2
  refine Wl.y (y_move rfl) rfl ?_
  refine Wl.y (y_extract rfl rfl) rfl ?_
  refine Wl.y (y_extract rfl rfl) rfl ?_
  refine Wl.y (y_assign rfl) rfl ?_
  refine Wl.y (y_assign rfl) rfl ?_
  refine Wl.nil ?_
  refine Wq.next hK_12 ?_
  refine Wc.seq fun _ hK_21 => ?_
  refine Wc.region ?_
  refine Wl.l (l_loadS Try.underlying46 (by kernel_rfl) rfl (by first | exact fun j u hu => hB_o0.at hu | assumption)) rfl ?_
  refine Wl.call txt24LogicD rfl rfl (Of_r v _) rfl ?_
  rintro _ w_k3 ⟨rfl, hs_k3⟩
  have hz_k3 := hs_k3.size
  have hb := hb.trans (hs_k3.mono hb.size)
  try have hB_o0 := Blk.below hB_o0 hs_k3
  refine Wl.y (y_move rfl) rfl ?_
  refine Wl.y (y_extract rfl rfl) rfl ?_
  refine Wl.y (y_extract rfl rfl) rfl ?_
  refine Wl.y (y_assign rfl) rfl ?_
  refine Wl.y (y_assign rfl) rfl ?_
  refine Wl.nil ?_
  refine Wq.next hK_21 ?_
  refine Wc.seq fun _ hK_29 => ?_
  refine Wc.seq fun _ hK_30 => ?_
  refine Wc.region ?_
  refine Wl.y (y_move rfl) rfl ?_
  refine Wl.y (y_eqli rfl rfl) rfl ?_
  refine Wl.nil ?_
  refine Wq.next hK_30 ?_
  refine Wc.cond rfl (fun c0_33 => ?_) (fun c0_33 => ?_)
  · skip
    have c0_33_ := c0_33
    try simp only [decide_eq_true_eq, decide_eq_false_iff_not, beq_iff_eq, beq_eq_false_iff_ne, bne_iff_ne, bne_eq_false_iff_eq, Bool.not_eq_true', Bool.not_eq_false', Bool.not_eq_eq_eq_not, Bool.not_true, Bool.not_false, ne_eq, Int.not_lt, Int.not_le] at c0_33
    have hw := of_val (hv3 c0_33)
    refine Wc.seq fun _ hK_34 => ?_
    refine Wc.region ?_
    refine Wl.y (y_move rfl) rfl ?_
    refine Wl.call txt25LogicD rfl rfl (Value_r _ _) rfl ?_
    rintro _ w_k4 ⟨rfl, hs_k4⟩
    have hz_k4 := hs_k4.size
    have hb := hb.trans (hs_k4.mono hb.size)
    try have hB_o0 := Blk.below hB_o0 hs_k4
    refine Wl.call txt24LogicD rfl rfl (Of_r (valV (ofT v.k v.n).1) _) rfl ?_
    rintro _ w_k5 ⟨rfl, hs_k5⟩
    have hz_k5 := hs_k5.size
    have hb := hb.trans (hs_k5.mono hb.size)
    try have hB_o0 := Blk.below hB_o0 hs_k5
    refine Wl.y (y_move rfl) rfl ?_
    refine Wl.y (y_extract rfl rfl) rfl ?_
    refine Wl.y (y_extract rfl rfl) rfl ?_
    refine Wl.y (y_assign rfl) rfl ?_
    refine Wl.y (y_assign rfl) rfl ?_
    refine Wl.nil ?_
    refine Wq.next hK_34 ?_
    refine Wc.seq fun _ hK_43 => ?_
    refine Wc.region ?_
    refine Wl.y (y_move rfl) rfl ?_
    refine Wl.y (y_move rfl) rfl ?_
    refine Wl.guardT rfl rfl rfl (fun g_46 => ?_) (fun g_46 => ?_)
    · skip
      have g_46_ := g_46
      try simp only [decide_eq_true_eq, decide_eq_false_iff_not, beq_iff_eq, beq_eq_false_iff_ne, bne_iff_ne, bne_eq_false_iff_eq, Bool.not_eq_true', Bool.not_eq_false', Bool.not_eq_eq_eq_not, Bool.not_true, Bool.not_false, ne_eq, Int.not_lt, Int.not_le] at g_46
      refine Wl.y (y_move rfl) rfl ?_
      refine Wl.on' rfl rfl g_46_ ?_
      refine Wl.y (y_move rfl) rfl ?_
      refine Wl.on' rfl rfl g_46_ ?_
      refine Wl.y (y_eqli rfl rfl) rfl ?_
      refine Wl.y (y_pickT rfl g_46_ rfl) rfl ?_
      refine Wl.y (y_move rfl) rfl ?_
      refine Wl.guardT rfl rfl rfl (fun g_52 => ?_) (fun g_52 => ?_)
      · skip
        have g_52_ := g_52
        try simp only [decide_eq_true_eq, decide_eq_false_iff_not, beq_iff_eq, beq_eq_false_iff_ne, bne_iff_ne, bne_eq_false_iff_eq, Bool.not_eq_true', Bool.not_eq_false', Bool.not_eq_eq_eq_not, Bool.not_true, Bool.not_false, ne_eq, Int.not_lt, Int.not_le] at g_52
        refine Wl.y (y_move rfl) rfl ?_
        refine Wl.on' rfl rfl g_52_ ?_
        refine Wl.y (y_eqli rfl rfl) rfl ?_
        refine Wl.y (y_pickT rfl g_52_ rfl) rfl ?_
        refine Wl.y (y_move rfl) rfl ?_
        refine Wl.guardT rfl rfl rfl (fun g_57 => ?_) (fun g_57 => ?_)
        · skip
          have g_57_ := g_57
          try simp only [decide_eq_true_eq, decide_eq_false_iff_not, beq_iff_eq, beq_eq_false_iff_ne, bne_iff_ne, bne_eq_false_iff_eq, Bool.not_eq_true', Bool.not_eq_false', Bool.not_eq_eq_eq_not, Bool.not_true, Bool.not_false, ne_eq, Int.not_lt, Int.not_le] at g_57
          refine Wl.y (y_move rfl) rfl ?_
          refine Wl.on' rfl rfl g_57_ ?_
          refine Wl.y (y_move rfl) rfl ?_
          refine Wl.on' rfl rfl g_57_ ?_
          refine Wl.y (y_eqli rfl rfl) rfl ?_
          refine Wl.y (y_pickT rfl g_57_ rfl) rfl ?_
          refine Wl.y (y_move rfl) rfl ?_
          refine Wl.guardT rfl rfl rfl (fun g_63 => ?_) (fun g_63 => ?_)
          · skip
            have g_63_ := g_63
            try simp only [decide_eq_true_eq, decide_eq_false_iff_not, beq_iff_eq, beq_eq_false_iff_ne, bne_iff_ne, bne_eq_false_iff_eq, Bool.not_eq_true', Bool.not_eq_false', Bool.not_eq_eq_eq_not, Bool.not_true, Bool.not_false, ne_eq, Int.not_lt, Int.not_le] at g_63
            refine Wl.y (y_move rfl) rfl ?_
            refine Wl.on' rfl rfl g_63_ ?_
            refine Wl.y (y_eqli rfl rfl) rfl ?_
            refine Wl.y (y_pickT rfl g_63_ rfl) rfl ?_
            refine Wl.y (y_assign rfl) rfl ?_
            refine Wl.nil ?_
            refine Wq.next hK_43 ?_
            refine Wc.ret ?_
            refine Wq.then_ret ?_
            refine ret1 rfl rfl ?_
            exact ⟨_, rfl, by rw [hy2]; rfl, hb⟩
          · skip
            have g_63_ := g_63
            try simp only [decide_eq_true_eq, decide_eq_false_iff_not, beq_iff_eq, beq_eq_false_iff_ne, bne_iff_ne, bne_eq_false_iff_eq, Bool.not_eq_true', Bool.not_eq_false', Bool.not_eq_eq_eq_not, Bool.not_true, Bool.not_false, ne_eq, Int.not_lt, Int.not_le] at g_63
            exact absurd (by rw [hy2]) g_63
        · skip
          have g_57_ := g_57
          try simp only [decide_eq_true_eq, decide_eq_false_iff_not, beq_iff_eq, beq_eq_false_iff_ne, bne_iff_ne, bne_eq_false_iff_eq, Bool.not_eq_true', Bool.not_eq_false', Bool.not_eq_eq_eq_not, Bool.not_true, Bool.not_false, ne_eq, Int.not_lt, Int.not_le] at g_57
          exact absurd (by rw [hw]) g_57
      · skip
        have g_52_ := g_52
        try simp only [decide_eq_true_eq, decide_eq_false_iff_not, beq_iff_eq, beq_eq_false_iff_ne, bne_iff_ne, bne_eq_false_iff_eq, Bool.not_eq_true', Bool.not_eq_false', Bool.not_eq_eq_eq_not, Bool.not_true, Bool.not_false, ne_eq, Int.not_lt, Int.not_le] at g_52
        exact absurd (by rw [hw]) g_52
    · skip
      have g_46_ := g_46
      try simp only [decide_eq_true_eq, decide_eq_false_iff_not, beq_iff_eq, beq_eq_false_iff_ne, bne_iff_ne, bne_eq_false_iff_eq, Bool.not_eq_true', Bool.not_eq_false', Bool.not_eq_eq_eq_not, Bool.not_true, Bool.not_false, ne_eq, Int.not_lt, Int.not_le] at g_46
      cases g_46
  · skip
    have c0_33_ := c0_33
    try simp only [decide_eq_true_eq, decide_eq_false_iff_not, beq_iff_eq, beq_eq_false_iff_ne, bne_iff_ne, bne_eq_false_iff_eq, Bool.not_eq_true', Bool.not_eq_false', Bool.not_eq_eq_eq_not, Bool.not_true, Bool.not_false, ne_eq, Int.not_lt, Int.not_le] at c0_33
    refine Wc.skip ?_
    refine Wq.next hK_29 ?_
    refine Wc.seq fun _ hK_68 => ?_
    refine Wc.region ?_
    refine Wl.y (y_move rfl) rfl ?_
    refine Wl.y (y_move rfl) rfl ?_
    refine Wl.guardT rfl rfl rfl (fun g_71 => ?_) (fun g_71 => ?_)
    · skip
      have g_71_ := g_71
      try simp only [decide_eq_true_eq, decide_eq_false_iff_not, beq_iff_eq, beq_eq_false_iff_ne, bne_iff_ne, bne_eq_false_iff_eq, Bool.not_eq_true', Bool.not_eq_false', Bool.not_eq_eq_eq_not, Bool.not_true, Bool.not_false, ne_eq, Int.not_lt, Int.not_le] at g_71
      refine Wl.y (y_move rfl) rfl ?_
      refine Wl.on' rfl rfl g_71_ ?_
      refine Wl.y (y_move rfl) rfl ?_
      refine Wl.on' rfl rfl g_71_ ?_
      refine Wl.y (y_eqli rfl rfl) rfl ?_
      refine Wl.y (y_pickT rfl g_71_ rfl) rfl ?_
      refine Wl.y (y_move rfl) rfl ?_
      refine Wl.guardT rfl rfl rfl (fun g_77 => ?_) (fun g_77 => ?_)
      · skip
        have g_77_ := g_77
        try simp only [decide_eq_true_eq, decide_eq_false_iff_not, beq_iff_eq, beq_eq_false_iff_ne, bne_iff_ne, bne_eq_false_iff_eq, Bool.not_eq_true', Bool.not_eq_false', Bool.not_eq_eq_eq_not, Bool.not_true, Bool.not_false, ne_eq, Int.not_lt, Int.not_le] at g_77
        refine Wl.y (y_move rfl) rfl ?_
        refine Wl.on' rfl rfl g_77_ ?_
        refine Wl.y (y_eqli rfl rfl) rfl ?_
        refine Wl.y (y_pickT rfl g_77_ rfl) rfl ?_
        refine Wl.y (y_move rfl) rfl ?_
        refine Wl.guardT rfl rfl rfl (fun g_82 => ?_) (fun g_82 => ?_)
        · skip
          have g_82_ := g_82
          try simp only [decide_eq_true_eq, decide_eq_false_iff_not, beq_iff_eq, beq_eq_false_iff_ne, bne_iff_ne, bne_eq_false_iff_eq, Bool.not_eq_true', Bool.not_eq_false', Bool.not_eq_eq_eq_not, Bool.not_true, Bool.not_false, ne_eq, Int.not_lt, Int.not_le] at g_82
          refine Wl.y (y_move rfl) rfl ?_
          refine Wl.on' rfl rfl g_82_ ?_
          refine Wl.y (y_eqli rfl rfl) rfl ?_
          refine Wl.y (y_pickT rfl g_82_ rfl) rfl ?_
          refine Wl.y (y_move rfl) rfl ?_
          refine Wl.guardT rfl rfl rfl (fun g_87 => ?_) (fun g_87 => ?_)
          · skip
            have g_87_ := g_87
            try simp only [decide_eq_true_eq, decide_eq_false_iff_not, beq_iff_eq, beq_eq_false_iff_ne, bne_iff_ne, bne_eq_false_iff_eq, Bool.not_eq_true', Bool.not_eq_false', Bool.not_eq_eq_eq_not, Bool.not_true, Bool.not_false, ne_eq, Int.not_lt, Int.not_le] at g_87
            refine Wl.y (y_move rfl) rfl ?_
            refine Wl.on' rfl rfl g_87_ ?_
            refine Wl.y (y_eqli rfl rfl) rfl ?_
            refine Wl.y (y_pickT rfl g_87_ rfl) rfl ?_
            refine Wl.y (y_assign rfl) rfl ?_
            refine Wl.nil ?_
            refine Wq.next hK_68 ?_
            refine Wc.ret ?_
            refine ret1 rfl rfl ?_
            exact ⟨_, rfl, by rw [hvf c0_33]; rfl, hb⟩
          · skip
            have g_87_ := g_87
            try simp only [decide_eq_true_eq, decide_eq_false_iff_not, beq_iff_eq, beq_eq_false_iff_ne, bne_iff_ne, bne_eq_false_iff_eq, Bool.not_eq_true', Bool.not_eq_false', Bool.not_eq_eq_eq_not, Bool.not_true, Bool.not_false, ne_eq, Int.not_lt, Int.not_le] at g_87
            exact absurd (by rw [hvf c0_33]) g_87
        · skip
          have g_82_ := g_82
          try simp only [decide_eq_true_eq, decide_eq_false_iff_not, beq_iff_eq, beq_eq_false_iff_ne, bne_iff_ne, bne_eq_false_iff_eq, Bool.not_eq_true', Bool.not_eq_false', Bool.not_eq_eq_eq_not, Bool.not_true, Bool.not_false, ne_eq, Int.not_lt, Int.not_le] at g_82
          exact absurd (by rw [hy2]) g_82
      · skip
        have g_77_ := g_77
        try simp only [decide_eq_true_eq, decide_eq_false_iff_not, beq_iff_eq, beq_eq_false_iff_ne, bne_iff_ne, bne_eq_false_iff_eq, Bool.not_eq_true', Bool.not_eq_false', Bool.not_eq_eq_eq_not, Bool.not_true, Bool.not_false, ne_eq, Int.not_lt, Int.not_le] at g_77
        exact absurd (by rw [hy2]) g_77
    · skip
      have g_71_ := g_71
      try simp only [decide_eq_true_eq, decide_eq_false_iff_not, beq_iff_eq, beq_eq_false_iff_ne, bne_iff_ne, bne_eq_false_iff_eq, Bool.not_eq_true', Bool.not_eq_false', Bool.not_eq_eq_eq_not, Bool.not_true, Bool.not_false, ne_eq, Int.not_lt, Int.not_le] at g_71
      cases g_71

theorem valV_yes {x : Int} (h : x = 0 ∨ x = 1) : valV x = ⟨1, x, 0, []⟩ := if_pos h
theorem valV_no {x : Int} (h : ¬ (x = 0 ∨ x = 1)) : valV x = ⟨0, 0, 0, []⟩ := if_neg h
theorem order0 : FloatKind.f64.format.order 0 0 = some .eq := by decide +kernel
set_option maxHeartbeats 4000000 in
theorem LogicTells_r (v : Val) (A : Option Addr) (n c : Nat) (l : List Int) (x : Int) (w : World) (hl : n ≤ 35184372088832) (hc : n ≤ c) (hr : Rd w 1 A n (i64s l)) :
    Ret Try.prog 11 [v.enc, .slice A n c, .int .i64 x] w fun u w' => u = .bool true ∧ Below w.heap.size w w' := by
  have hb := Below.refl w.heap.size w
  have hr_hb := hr
  refine enter Try.func11 rfl rfl rfl ?_
  refine Wc.seq fun _ hK_1 => ?_
  refine Wc.region ?_
  refine Wl.boxN rfl rfl ?_
  rintro g_o0 w_o0 hg_o0 hn_o0 hs_o0
  have hz_o0 := hs_o0.size
  have hb := hb.trans (hs_o0.mono hb.size)
  have hr := hr_hb.below hb
  have hB_o0 := hn_o0
  have hl_o0 := hB_o0.lt
  refine Wl.y (y_assign rfl) rfl ?_
  refine Wl.nil ?_
  refine Wq.next hK_1 ?_
  refine Wc.seq fun _ hK_4 => ?_
  refine Wc.region ?_
  refine Wl.call txt17LogicD rfl rfl (shown_r _) rfl ?_
  rintro _ w_k0 ⟨rfl, hs_k0⟩
  have hz_k0 := hs_k0.size
  have hb := hb.trans (hs_k0.mono hb.size)
  have hr := hr_hb.below hb
  try have hB_o0 := Blk.below hB_o0 hs_k0
  refine Wl.y (y_assign rfl) rfl ?_
  refine Wl.nil ?_
  refine Wq.next hK_4 ?_
  refine Wc.seq fun _ hK_7 => ?_
  refine Wc.region ?_
  refine Wl.l (l_loadS Try.underlying46 (by kernel_rfl) rfl (by first | exact fun j u hu => hB_o0.at hu | assumption)) rfl ?_
  refine Wl.call txt24LogicD rfl rfl (Of_r v _) rfl ?_
  rintro _ w_k1 ⟨rfl, hs_k1⟩
  have hz_k1 := hs_k1.size
  have hb := hb.trans (hs_k1.mono hb.size)
  have hr := hr_hb.below hb
  try have hB_o0 := Blk.below hB_o0 hs_k1
  refine Wl.y (y_move rfl) rfl ?_
  refine Wl.y (y_extract rfl rfl) rfl ?_
  refine Wl.y (y_extract rfl rfl) rfl ?_
  refine Wl.y (y_assign rfl) rfl ?_
  refine Wl.y (y_assign rfl) rfl ?_
  refine Wl.nil ?_
  refine Wq.next hK_7 ?_
  refine Wc.seq fun _ hK_15 => ?_
  refine Wc.region ?_
  refine Wl.l (l_loadS Try.underlying46 (by kernel_rfl) rfl (by first | exact fun j u hu => hB_o0.at hu | assumption)) rfl ?_
  refine Wl.call txt26LogicD rfl rfl (ROf_r v _) rfl ?_
  rintro _ w_k2 ⟨rfl, hs_k2⟩
  have hz_k2 := hs_k2.size
  have hb := hb.trans (hs_k2.mono hb.size)
  have hr := hr_hb.below hb
  try have hB_o0 := Blk.below hB_o0 hs_k2
  refine Wl.y (y_move rfl) rfl ?_
  refine Wl.y (y_extract rfl rfl) rfl ?_
  refine Wl.y (y_extract rfl rfl) rfl ?_
  refine Wl.y (y_assign rfl) rfl ?_
  refine Wl.y (y_assign rfl) rfl ?_
  refine Wl.nil ?_
  refine Wq.next hK_15 ?_
  refine Wc.seq fun _ hK_23 => ?_
  refine Wc.region ?_
  refine Wl.y (y_move rfl) rfl ?_
  refine Wl.call txt18LogicD rfl rfl (truths_r _ _ _ l _ (by omega) (by omega) hr) rfl ?_
  rintro _ w_k3 ⟨⟨p, u, hp, ho1, rfl⟩, hs_k3⟩
  have hz_k3 := hs_k3.size
  have hb := hb.trans (hs_k3.mono hb.size)
  have hr := hr_hb.below hb
  try have hB_o0 := Blk.below hB_o0 hs_k3
  obtain ⟨B, cb, rfl, hcb, _⟩ := own_form ho1
  have hx := Rd.of_own ho1
  have hz := Rd.takeI hr (show p ≤ n by omega)
  have hb2 := Below.refl w_k3.heap.size w_k3
  have hx_hb2 := hx
  have hz_hb2 := hz
  refine Wl.y (y_move rfl) rfl ?_
  refine Wl.y (y_extract rfl rfl) rfl ?_
  refine Wl.y (y_extract rfl rfl) rfl ?_
  refine Wl.y (y_assign rfl) rfl ?_
  refine Wl.y (y_assign rfl) rfl ?_
  refine Wl.nil ?_
  refine Wq.next hK_23 ?_
  refine Wc.seq fun _ hK_31 => ?_
  refine Wc.region ?_
  refine Wl.y (y_move rfl) rfl ?_
  refine Wl.y (y_assign rfl) rfl ?_
  refine Wl.nil ?_
  refine Wq.next hK_31 ?_
  refine Wc.seq fun _ hK_34 => ?_
  refine Wc.region ?_
  refine Wl.y (y_move rfl) rfl ?_
  refine Wl.call txt25LogicD rfl rfl (Value_r x _) rfl ?_
  rintro _ w_k4 ⟨rfl, hs_k4⟩
  have hz_k4 := hs_k4.size
  have hb := hb.trans (hs_k4.mono hb.size)
  have hr := hr_hb.below hb
  have hb2 := hb2.trans (hs_k4.mono hb2.size)
  have hx := hx_hb2.below hb2
  have hz := hz_hb2.below hb2
  try have hB_o0 := Blk.below hB_o0 hs_k4
  refine Wl.allocN (z := (.agg #[(.int .i64 0), (.int .i64 0), (.float .f64 0), (str [])])) (by kernel_rfl) rfl ?_
  rintro g_o22 w_o22 hg_o22 hn_o22 hs_o22
  have hz_o22 := hs_o22.size
  have hb := hb.trans (hs_o22.mono hb.size)
  have hr := hr_hb.below hb
  have hb2 := hb2.trans (hs_o22.mono hb2.size)
  have hx := hx_hb2.below hb2
  have hz := hz_hb2.below hb2
  try have hB_o0 := Blk.below hB_o0 hs_o22
  have hB_o22 := hn_o22
  have hl_o22 := hB_o22.lt
  refine Wl.storeS (by kernel_rfl) rfl rfl hB_o22 rfl rfl ?_
  rintro w_s0 hn_s0 hg_s0
  have hz_s0 := hg_s0.size
  have hb := below_blk hb hg_s0 hb.size (by omega)
  have hr := hr_hb.below hb
  have hb2 := below_blk hb2 hg_s0 hb2.size (by omega)
  have hx := hx_hb2.below hb2
  have hz := hz_hb2.below hb2
  try have hB_o0 := Blk.grown hB_o0 hg_s0 (by first | assumption | (simp [Value.ownBlock]; omega))
  have hB_o22 := hn_s0
  refine Wl.nil ?_
  refine Wq.next hK_34 ?_
  refine Wc.seq fun _ hK_38 => ?_
  refine Wc.region ?_
  refine Wl.y (y_buildS (z := [(.int .i64 0), (.int .i64 0), (.float .f64 0), (str [])]) (pl := [(0, 1), (1, 1), (2, 1), (3, 1)]) (cs := [_, _, _, _]) Try.underlying46 (by kernel_rfl) (by kernel_rfl) rfl rfl rfl) rfl ?_
  refine Wl.allocN (z := (.agg #[(.int .i64 0), (.int .i64 0), (.float .f64 0), (str [])])) (by kernel_rfl) rfl ?_
  rintro g_o24 w_o24 hg_o24 hn_o24 hs_o24
  have hz_o24 := hs_o24.size
  have hb := hb.trans (hs_o24.mono hb.size)
  have hr := hr_hb.below hb
  have hb2 := hb2.trans (hs_o24.mono hb2.size)
  have hx := hx_hb2.below hb2
  have hz := hz_hb2.below hb2
  try have hB_o0 := Blk.below hB_o0 hs_o24
  try have hB_o22 := Blk.below hB_o22 hs_o24
  have hB_o24 := hn_o24
  have hl_o24 := hB_o24.lt
  refine Wl.storeS (by kernel_rfl) rfl rfl hB_o24 rfl rfl ?_
  rintro w_s1 hn_s1 hg_s1
  have hz_s1 := hg_s1.size
  have hb := below_blk hb hg_s1 hb.size (by omega)
  have hr := hr_hb.below hb
  have hb2 := below_blk hb2 hg_s1 hb2.size (by omega)
  have hx := hx_hb2.below hb2
  have hz := hz_hb2.below hb2
  try have hB_o0 := Blk.grown hB_o0 hg_s1 (by first | assumption | (simp [Value.ownBlock]; omega))
  try have hB_o22 := Blk.grown hB_o22 hg_s1 (by first | assumption | (simp [Value.ownBlock]; omega))
  have hB_o24 := hn_s1
  refine Wl.nil ?_
  refine Wq.next hK_38 ?_
  refine Wc.seq fun _ hK_41 => ?_
  refine Wc.seq fun _ hK_42 => ?_
  refine Wc.region ?_
  refine Wl.y (y_move rfl) rfl ?_
  refine Wl.call txt27LogicD rfl rfl (Known_r _ _) rfl ?_
  rintro _ _ ⟨rfl, rfl⟩
  refine Wl.nil ?_
  refine Wq.next hK_42 ?_
  refine Wc.cond rfl (fun c0_45 => ?_) (fun c0_45 => ?_)
  · skip
    have c0_45_ := c0_45
    try simp only [decide_eq_true_eq, decide_eq_false_iff_not, beq_iff_eq, beq_eq_false_iff_ne, bne_iff_ne, bne_eq_false_iff_eq, Bool.not_eq_true', Bool.not_eq_false', Bool.not_eq_eq_eq_not, Bool.not_true, Bool.not_false, ne_eq, Int.not_lt, Int.not_le] at c0_45
    refine Wc.region ?_
    refine Wl.y (y_move rfl) rfl ?_
    refine Wl.y (y_buildS (z := [(.int .i64 0), (.int .i64 0), (.float .f64 0), (str [])]) (pl := [(0, 1), (1, 1), (2, 1), (3, 1)]) (cs := [_, _, _, _]) Try.underlying46 (by kernel_rfl) (by kernel_rfl) rfl rfl rfl) rfl ?_
    refine Wl.storeS (by kernel_rfl) rfl rfl hB_o24 rfl rfl ?_
    rintro w_s2 hn_s2 hg_s2
    have hz_s2 := hg_s2.size
    have hb := below_blk hb hg_s2 hb.size (by omega)
    have hr := hr_hb.below hb
    have hb2 := below_blk hb2 hg_s2 hb2.size (by omega)
    have hx := hx_hb2.below hb2
    have hz := hz_hb2.below hb2
    try have hB_o0 := Blk.grown hB_o0 hg_s2 (by first | assumption | (simp [Value.ownBlock]; omega))
    try have hB_o22 := Blk.grown hB_o22 hg_s2 (by first | assumption | (simp [Value.ownBlock]; omega))
    have hB_o24 := hn_s2
    refine Wl.nil ?_
    refine Wq.next hK_41 ?_
    refine Wc.seq fun _ hK_48 => ?_
    refine Wc.region ?_
    refine Wl.y (y_assign rfl) rfl ?_
    refine Wl.nil ?_
    refine Wq.next hK_48 ?_
    refine Wc.seq fun _ hK_50 => ?_
    refine Wc.seq fun _ hK_51 => ?_
    refine Wc.region ?_
    refine Wl.y (y_move rfl) rfl ?_
    refine Wl.call txt27LogicD rfl rfl (Known_r _ _) rfl ?_
    rintro _ _ ⟨rfl, rfl⟩
    refine Wl.nil ?_
    refine Wq.next hK_51 ?_
    refine Wc.cond rfl (fun c1_54 => ?_) (fun c1_54 => ?_)
    · skip
      have c1_54_ := c1_54
      try simp only [decide_eq_true_eq, decide_eq_false_iff_not, beq_iff_eq, beq_eq_false_iff_ne, bne_iff_ne, bne_eq_false_iff_eq, Bool.not_eq_true', Bool.not_eq_false', Bool.not_eq_eq_eq_not, Bool.not_true, Bool.not_false, ne_eq, Int.not_lt, Int.not_le] at c1_54
      refine Wc.region ?_
      refine Wl.y (y_assign rfl) rfl ?_
      refine Wl.nil ?_
      refine Wq.next hK_50 ?_
      refine Wc.seq fun _ hK_56 => ?_
      refine Wc.region ?_
      refine Wl.y (y_move rfl) rfl ?_
      refine Wl.y (y_move rfl) rfl ?_
      refine Wl.guardT rfl rfl rfl (fun g_59 => ?_) (fun g_59 => ?_)
      · skip
        have g_59_ := g_59
        try simp only [decide_eq_true_eq, decide_eq_false_iff_not, beq_iff_eq, beq_eq_false_iff_ne, bne_iff_ne, bne_eq_false_iff_eq, Bool.not_eq_true', Bool.not_eq_false', Bool.not_eq_eq_eq_not, Bool.not_true, Bool.not_false, ne_eq, Int.not_lt, Int.not_le] at g_59
        refine Wl.y (y_move rfl) rfl ?_
        refine Wl.on' rfl rfl g_59_ ?_
        refine Wl.y (y_move rfl) rfl ?_
        refine Wl.on' rfl rfl g_59_ ?_
        refine Wl.y (y_eqli rfl rfl) rfl ?_
        refine Wl.y (y_pickT rfl g_59_ rfl) rfl ?_
        refine Wl.y (y_move rfl) rfl ?_
        refine Wl.guardT rfl rfl rfl (fun g_65 => ?_) (fun g_65 => ?_)
        · skip
          have g_65_ := g_65
          try simp only [decide_eq_true_eq, decide_eq_false_iff_not, beq_iff_eq, beq_eq_false_iff_ne, bne_iff_ne, bne_eq_false_iff_eq, Bool.not_eq_true', Bool.not_eq_false', Bool.not_eq_eq_eq_not, Bool.not_true, Bool.not_false, ne_eq, Int.not_lt, Int.not_le] at g_65
          refine Wl.y (y_move rfl) rfl ?_
          refine Wl.on' rfl rfl g_65_ ?_
          refine Wl.y (y_move rfl) rfl ?_
          refine Wl.on' rfl rfl g_65_ ?_
          refine Wl.y (y_eqli rfl rfl) rfl ?_
          refine Wl.y (y_pickT rfl g_65_ rfl) rfl ?_
          refine Wl.y (y_move rfl) rfl ?_
          refine Wl.guardT rfl rfl rfl (fun g_71 => ?_) (fun g_71 => ?_)
          · skip
            have g_71_ := g_71
            try simp only [decide_eq_true_eq, decide_eq_false_iff_not, beq_iff_eq, beq_eq_false_iff_ne, bne_iff_ne, bne_eq_false_iff_eq, Bool.not_eq_true', Bool.not_eq_false', Bool.not_eq_eq_eq_not, Bool.not_true, Bool.not_false, ne_eq, Int.not_lt, Int.not_le] at g_71
            refine Wl.y (y_move rfl) rfl ?_
            refine Wl.on' rfl rfl g_71_ ?_
            refine Wl.call txt19LogicD rfl rfl (And_r _ _ _ _ _ (by omega) hx) rfl ?_
            rintro _ _ ⟨rfl, rfl⟩
            refine Wl.on' rfl rfl g_71_ ?_
            refine Wl.y (y_move rfl) rfl ?_
            refine Wl.on' rfl rfl g_71_ ?_
            refine Wl.call txt28LogicD rfl rfl (All_r _ _ _ _ _ _ (.inl rfl) (by omega) hz) rfl ?_
            rintro _ _ ⟨rfl, rfl⟩
            refine Wl.on' rfl rfl g_71_ ?_
            refine Wl.y (y_eqli rfl rfl) rfl ?_
            refine Wl.y (y_pickT rfl g_71_ rfl) rfl ?_
            refine Wl.y (y_move rfl) rfl ?_
            refine Wl.guardT rfl rfl rfl (fun g_79 => ?_) (fun g_79 => ?_)
            · skip
              have g_79_ := g_79
              try simp only [decide_eq_true_eq, decide_eq_false_iff_not, beq_iff_eq, beq_eq_false_iff_ne, bne_iff_ne, bne_eq_false_iff_eq, Bool.not_eq_true', Bool.not_eq_false', Bool.not_eq_eq_eq_not, Bool.not_true, Bool.not_false, ne_eq, Int.not_lt, Int.not_le] at g_79
              refine Wl.y (y_move rfl) rfl ?_
              refine Wl.on' rfl rfl g_79_ ?_
              refine Wl.call txt20LogicD rfl rfl (Or_r _ _ _ _ _ (by omega) hx) rfl ?_
              rintro _ w_k9 ⟨rfl, hs_k9⟩
              have hz_k9 := hs_k9.size
              have hb := hb.trans (hs_k9.mono hb.size)
              have hr := hr_hb.below hb
              have hb2 := hb2.trans (hs_k9.mono hb2.size)
              have hx := hx_hb2.below hb2
              have hz := hz_hb2.below hb2
              try have hB_o0 := Blk.below hB_o0 hs_k9
              try have hB_o22 := Blk.below hB_o22 hs_k9
              try have hB_o24 := Blk.below hB_o24 hs_k9
              refine Wl.on' rfl rfl g_79_ ?_
              refine Wl.y (y_move rfl) rfl ?_
              refine Wl.on' rfl rfl g_79_ ?_
              refine Wl.call txt28LogicD rfl rfl (All_r _ _ _ _ _ _ (.inr rfl) (by omega) hz) rfl ?_
              rintro _ _ ⟨rfl, rfl⟩
              refine Wl.on' rfl rfl g_79_ ?_
              refine Wl.y (y_eqli rfl rfl) rfl ?_
              refine Wl.y (y_pickT rfl g_79_ rfl) rfl ?_
              refine Wl.y (y_move rfl) rfl ?_
              refine Wl.guardT rfl rfl rfl (fun g_87 => ?_) (fun g_87 => ?_)
              · skip
                have g_87_ := g_87
                try simp only [decide_eq_true_eq, decide_eq_false_iff_not, beq_iff_eq, beq_eq_false_iff_ne, bne_iff_ne, bne_eq_false_iff_eq, Bool.not_eq_true', Bool.not_eq_false', Bool.not_eq_eq_eq_not, Bool.not_true, Bool.not_false, ne_eq, Int.not_lt, Int.not_le] at g_87
                refine Wl.y (y_move rfl) rfl ?_
                refine Wl.on' rfl rfl g_87_ ?_
                refine Wl.call txt22LogicD rfl rfl (Not_r _ _) rfl ?_
                rintro _ _ ⟨rfl, rfl⟩
                refine Wl.on' rfl rfl g_87_ ?_
                refine Wl.y (y_move rfl) rfl ?_
                refine Wl.on' rfl rfl g_87_ ?_
                refine Wl.call txt29LogicD rfl rfl (RNot_r _ _) rfl ?_
                rintro _ _ ⟨rfl, rfl⟩
                refine Wl.on' rfl rfl g_87_ ?_
                refine Wl.y (y_eqli rfl rfl) rfl ?_
                refine Wl.y (y_pickT rfl g_87_ rfl) rfl ?_
                refine Wl.y (y_move rfl) rfl ?_
                refine Wl.guardT rfl rfl rfl (fun g_95 => ?_) (fun g_95 => ?_)
                · skip
                  have g_95_ := g_95
                  try simp only [decide_eq_true_eq, decide_eq_false_iff_not, beq_iff_eq, beq_eq_false_iff_ne, bne_iff_ne, bne_eq_false_iff_eq, Bool.not_eq_true', Bool.not_eq_false', Bool.not_eq_eq_eq_not, Bool.not_true, Bool.not_false, ne_eq, Int.not_lt, Int.not_le] at g_95
                  refine Wl.l (l_loadS Try.underlying46 (by kernel_rfl) rfl (by first | exact fun j u hu => hB_o0.at hu | exact fun j u hu => hB_o22.at hu | exact fun j u hu => hB_o24.at hu | assumption)) rfl ?_
                  refine Wl.on' rfl rfl g_95_ ?_
                  refine Wl.l (l_loadS Try.underlying46 (by kernel_rfl) rfl (by first | exact fun j u hu => hB_o0.at hu | exact fun j u hu => hB_o22.at hu | exact fun j u hu => hB_o24.at hu | assumption)) rfl ?_
                  refine Wl.on' rfl rfl g_95_ ?_
                  refine Wl.y (y_eqlS (by kernel_rfl) rfl rfl (EqIs.struct Try.underlying46 (by kernel_rfl) (FieldsIs.one rfl one3LogicD rfl rfl (EqIs.int Try.underlying3) (FieldsIs.one rfl one2LogicD rfl rfl (EqIs.int Try.underlying2) (FieldsIs.one rfl one44LogicD rfl rfl (EqIs.float Try.underlying44) (FieldsIs.one rfl one9LogicD rfl rfl (EqIs.str Try.underlying9) FieldsIs.nil)))))) rfl ?_
                  refine Wl.y (y_pickT rfl g_95_ rfl) rfl ?_
                  refine Wl.y (y_move rfl) rfl ?_
                  refine Wl.guardT rfl rfl rfl (fun g_101 => ?_) (fun g_101 => ?_)
                  · skip
                    have g_101_ := g_101
                    try simp only [decide_eq_true_eq, decide_eq_false_iff_not, beq_iff_eq, beq_eq_false_iff_ne, bne_iff_ne, bne_eq_false_iff_eq, Bool.not_eq_true', Bool.not_eq_false', Bool.not_eq_eq_eq_not, Bool.not_true, Bool.not_false, ne_eq, Int.not_lt, Int.not_le] at g_101
                    refine Wl.y (y_move rfl) rfl ?_
                    refine Wl.on' rfl rfl g_101_ ?_
                    refine Wl.call txt23LogicD rfl rfl (Is_r _ _) rfl ?_
                    rintro _ _ ⟨rfl, rfl⟩
                    refine Wl.on' rfl rfl g_101_ ?_
                    refine Wl.y (y_move rfl) rfl ?_
                    refine Wl.on' rfl rfl g_101_ ?_
                    refine Wl.y (y_eqli rfl rfl) rfl ?_
                    refine Wl.y (y_pickT rfl g_101_ rfl) rfl ?_
                    refine Wl.y (y_assign rfl) rfl ?_
                    refine Wl.nil ?_
                    refine Wq.next hK_56 ?_
                    refine Wc.ret ?_
                    refine ret1 rfl rfl ?_
                    exact ⟨_, rfl, bool_eq (by first | exact absurd c0_45 c1_54 | exact absurd c1_54 c0_45 | (unfold isT; rw [if_pos c0_45]; rfl) | (unfold isT; rw [if_neg c0_45]; rfl)), hb⟩
                  · skip
                    have g_101_ := g_101
                    try simp only [decide_eq_true_eq, decide_eq_false_iff_not, beq_iff_eq, beq_eq_false_iff_ne, bne_iff_ne, bne_eq_false_iff_eq, Bool.not_eq_true', Bool.not_eq_false', Bool.not_eq_eq_eq_not, Bool.not_true, Bool.not_false, ne_eq, Int.not_lt, Int.not_le] at g_101
                    exfalso; revert g_101_; first | (rw [valV_yes c0_45]; decide) | (rw [valV_no c0_45]; decide) | (rw [valV_yes c0_45]; simp [Val.cells, order0]; done) | (exact absurd c0_45 c1_54) | (exact absurd c1_54 c0_45)
                · skip
                  have g_95_ := g_95
                  try simp only [decide_eq_true_eq, decide_eq_false_iff_not, beq_iff_eq, beq_eq_false_iff_ne, bne_iff_ne, bne_eq_false_iff_eq, Bool.not_eq_true', Bool.not_eq_false', Bool.not_eq_eq_eq_not, Bool.not_true, Bool.not_false, ne_eq, Int.not_lt, Int.not_le] at g_95
                  first | exact absurd rfl g_95 | exact absurd trivial g_95
              · skip
                have g_87_ := g_87
                try simp only [decide_eq_true_eq, decide_eq_false_iff_not, beq_iff_eq, beq_eq_false_iff_ne, bne_iff_ne, bne_eq_false_iff_eq, Bool.not_eq_true', Bool.not_eq_false', Bool.not_eq_eq_eq_not, Bool.not_true, Bool.not_false, ne_eq, Int.not_lt, Int.not_le] at g_87
                exact absurd (orT_all _) g_87
            · skip
              have g_79_ := g_79
              try simp only [decide_eq_true_eq, decide_eq_false_iff_not, beq_iff_eq, beq_eq_false_iff_ne, bne_iff_ne, bne_eq_false_iff_eq, Bool.not_eq_true', Bool.not_eq_false', Bool.not_eq_eq_eq_not, Bool.not_true, Bool.not_false, ne_eq, Int.not_lt, Int.not_le] at g_79
              exact absurd (andT_all _) g_79
          · skip
            have g_71_ := g_71
            try simp only [decide_eq_true_eq, decide_eq_false_iff_not, beq_iff_eq, beq_eq_false_iff_ne, bne_iff_ne, bne_eq_false_iff_eq, Bool.not_eq_true', Bool.not_eq_false', Bool.not_eq_eq_eq_not, Bool.not_true, Bool.not_false, ne_eq, Int.not_lt, Int.not_le] at g_71
            first | exact absurd rfl g_71 | exact absurd trivial g_71
        · skip
          have g_65_ := g_65
          try simp only [decide_eq_true_eq, decide_eq_false_iff_not, beq_iff_eq, beq_eq_false_iff_ne, bne_iff_ne, bne_eq_false_iff_eq, Bool.not_eq_true', Bool.not_eq_false', Bool.not_eq_eq_eq_not, Bool.not_true, Bool.not_false, ne_eq, Int.not_lt, Int.not_le] at g_65
          first | exact absurd rfl g_65 | exact absurd trivial g_65
      · skip
        have g_59_ := g_59
        try simp only [decide_eq_true_eq, decide_eq_false_iff_not, beq_iff_eq, beq_eq_false_iff_ne, bne_iff_ne, bne_eq_false_iff_eq, Bool.not_eq_true', Bool.not_eq_false', Bool.not_eq_eq_eq_not, Bool.not_true, Bool.not_false, ne_eq, Int.not_lt, Int.not_le] at g_59
        cases g_59
    · skip
      have c1_54_ := c1_54
      try simp only [decide_eq_true_eq, decide_eq_false_iff_not, beq_iff_eq, beq_eq_false_iff_ne, bne_iff_ne, bne_eq_false_iff_eq, Bool.not_eq_true', Bool.not_eq_false', Bool.not_eq_eq_eq_not, Bool.not_true, Bool.not_false, ne_eq, Int.not_lt, Int.not_le] at c1_54
      refine Wc.skip ?_
      refine Wq.next hK_50 ?_
      refine Wc.seq fun _ hK_108 => ?_
      refine Wc.region ?_
      refine Wl.y (y_move rfl) rfl ?_
      refine Wl.y (y_move rfl) rfl ?_
      refine Wl.guardT rfl rfl rfl (fun g_111 => ?_) (fun g_111 => ?_)
      · skip
        have g_111_ := g_111
        try simp only [decide_eq_true_eq, decide_eq_false_iff_not, beq_iff_eq, beq_eq_false_iff_ne, bne_iff_ne, bne_eq_false_iff_eq, Bool.not_eq_true', Bool.not_eq_false', Bool.not_eq_eq_eq_not, Bool.not_true, Bool.not_false, ne_eq, Int.not_lt, Int.not_le] at g_111
        refine Wl.y (y_move rfl) rfl ?_
        refine Wl.on' rfl rfl g_111_ ?_
        refine Wl.y (y_move rfl) rfl ?_
        refine Wl.on' rfl rfl g_111_ ?_
        refine Wl.y (y_eqli rfl rfl) rfl ?_
        refine Wl.y (y_pickT rfl g_111_ rfl) rfl ?_
        refine Wl.y (y_move rfl) rfl ?_
        refine Wl.guardT rfl rfl rfl (fun g_117 => ?_) (fun g_117 => ?_)
        · skip
          have g_117_ := g_117
          try simp only [decide_eq_true_eq, decide_eq_false_iff_not, beq_iff_eq, beq_eq_false_iff_ne, bne_iff_ne, bne_eq_false_iff_eq, Bool.not_eq_true', Bool.not_eq_false', Bool.not_eq_eq_eq_not, Bool.not_true, Bool.not_false, ne_eq, Int.not_lt, Int.not_le] at g_117
          refine Wl.y (y_move rfl) rfl ?_
          refine Wl.on' rfl rfl g_117_ ?_
          refine Wl.y (y_move rfl) rfl ?_
          refine Wl.on' rfl rfl g_117_ ?_
          refine Wl.y (y_eqli rfl rfl) rfl ?_
          refine Wl.y (y_pickT rfl g_117_ rfl) rfl ?_
          refine Wl.y (y_move rfl) rfl ?_
          refine Wl.guardT rfl rfl rfl (fun g_123 => ?_) (fun g_123 => ?_)
          · skip
            have g_123_ := g_123
            try simp only [decide_eq_true_eq, decide_eq_false_iff_not, beq_iff_eq, beq_eq_false_iff_ne, bne_iff_ne, bne_eq_false_iff_eq, Bool.not_eq_true', Bool.not_eq_false', Bool.not_eq_eq_eq_not, Bool.not_true, Bool.not_false, ne_eq, Int.not_lt, Int.not_le] at g_123
            refine Wl.y (y_move rfl) rfl ?_
            refine Wl.on' rfl rfl g_123_ ?_
            refine Wl.call txt19LogicD rfl rfl (And_r _ _ _ _ _ (by omega) hx) rfl ?_
            rintro _ _ ⟨rfl, rfl⟩
            refine Wl.on' rfl rfl g_123_ ?_
            refine Wl.y (y_move rfl) rfl ?_
            refine Wl.on' rfl rfl g_123_ ?_
            refine Wl.call txt28LogicD rfl rfl (All_r _ _ _ _ _ _ (.inl rfl) (by omega) hz) rfl ?_
            rintro _ _ ⟨rfl, rfl⟩
            refine Wl.on' rfl rfl g_123_ ?_
            refine Wl.y (y_eqli rfl rfl) rfl ?_
            refine Wl.y (y_pickT rfl g_123_ rfl) rfl ?_
            refine Wl.y (y_move rfl) rfl ?_
            refine Wl.guardT rfl rfl rfl (fun g_131 => ?_) (fun g_131 => ?_)
            · skip
              have g_131_ := g_131
              try simp only [decide_eq_true_eq, decide_eq_false_iff_not, beq_iff_eq, beq_eq_false_iff_ne, bne_iff_ne, bne_eq_false_iff_eq, Bool.not_eq_true', Bool.not_eq_false', Bool.not_eq_eq_eq_not, Bool.not_true, Bool.not_false, ne_eq, Int.not_lt, Int.not_le] at g_131
              refine Wl.y (y_move rfl) rfl ?_
              refine Wl.on' rfl rfl g_131_ ?_
              refine Wl.call txt20LogicD rfl rfl (Or_r _ _ _ _ _ (by omega) hx) rfl ?_
              rintro _ w_k9 ⟨rfl, hs_k9⟩
              have hz_k9 := hs_k9.size
              have hb := hb.trans (hs_k9.mono hb.size)
              have hr := hr_hb.below hb
              have hb2 := hb2.trans (hs_k9.mono hb2.size)
              have hx := hx_hb2.below hb2
              have hz := hz_hb2.below hb2
              try have hB_o0 := Blk.below hB_o0 hs_k9
              try have hB_o22 := Blk.below hB_o22 hs_k9
              try have hB_o24 := Blk.below hB_o24 hs_k9
              refine Wl.on' rfl rfl g_131_ ?_
              refine Wl.y (y_move rfl) rfl ?_
              refine Wl.on' rfl rfl g_131_ ?_
              refine Wl.call txt28LogicD rfl rfl (All_r _ _ _ _ _ _ (.inr rfl) (by omega) hz) rfl ?_
              rintro _ _ ⟨rfl, rfl⟩
              refine Wl.on' rfl rfl g_131_ ?_
              refine Wl.y (y_eqli rfl rfl) rfl ?_
              refine Wl.y (y_pickT rfl g_131_ rfl) rfl ?_
              refine Wl.y (y_move rfl) rfl ?_
              refine Wl.guardT rfl rfl rfl (fun g_139 => ?_) (fun g_139 => ?_)
              · skip
                have g_139_ := g_139
                try simp only [decide_eq_true_eq, decide_eq_false_iff_not, beq_iff_eq, beq_eq_false_iff_ne, bne_iff_ne, bne_eq_false_iff_eq, Bool.not_eq_true', Bool.not_eq_false', Bool.not_eq_eq_eq_not, Bool.not_true, Bool.not_false, ne_eq, Int.not_lt, Int.not_le] at g_139
                refine Wl.y (y_move rfl) rfl ?_
                refine Wl.on' rfl rfl g_139_ ?_
                refine Wl.call txt22LogicD rfl rfl (Not_r _ _) rfl ?_
                rintro _ _ ⟨rfl, rfl⟩
                refine Wl.on' rfl rfl g_139_ ?_
                refine Wl.y (y_move rfl) rfl ?_
                refine Wl.on' rfl rfl g_139_ ?_
                refine Wl.call txt29LogicD rfl rfl (RNot_r _ _) rfl ?_
                rintro _ _ ⟨rfl, rfl⟩
                refine Wl.on' rfl rfl g_139_ ?_
                refine Wl.y (y_eqli rfl rfl) rfl ?_
                refine Wl.y (y_pickT rfl g_139_ rfl) rfl ?_
                refine Wl.y (y_move rfl) rfl ?_
                refine Wl.guardT rfl rfl rfl (fun g_147 => ?_) (fun g_147 => ?_)
                · skip
                  have g_147_ := g_147
                  try simp only [decide_eq_true_eq, decide_eq_false_iff_not, beq_iff_eq, beq_eq_false_iff_ne, bne_iff_ne, bne_eq_false_iff_eq, Bool.not_eq_true', Bool.not_eq_false', Bool.not_eq_eq_eq_not, Bool.not_true, Bool.not_false, ne_eq, Int.not_lt, Int.not_le] at g_147
                  refine Wl.l (l_loadS Try.underlying46 (by kernel_rfl) rfl (by first | exact fun j u hu => hB_o0.at hu | exact fun j u hu => hB_o22.at hu | exact fun j u hu => hB_o24.at hu | assumption)) rfl ?_
                  refine Wl.on' rfl rfl g_147_ ?_
                  refine Wl.l (l_loadS Try.underlying46 (by kernel_rfl) rfl (by first | exact fun j u hu => hB_o0.at hu | exact fun j u hu => hB_o22.at hu | exact fun j u hu => hB_o24.at hu | assumption)) rfl ?_
                  refine Wl.on' rfl rfl g_147_ ?_
                  refine Wl.y (y_eqlS (by kernel_rfl) rfl rfl (EqIs.struct Try.underlying46 (by kernel_rfl) (FieldsIs.one rfl one3LogicD rfl rfl (EqIs.int Try.underlying3) (FieldsIs.one rfl one2LogicD rfl rfl (EqIs.int Try.underlying2) (FieldsIs.one rfl one44LogicD rfl rfl (EqIs.float Try.underlying44) (FieldsIs.one rfl one9LogicD rfl rfl (EqIs.str Try.underlying9) FieldsIs.nil)))))) rfl ?_
                  refine Wl.y (y_pickT rfl g_147_ rfl) rfl ?_
                  refine Wl.y (y_move rfl) rfl ?_
                  refine Wl.guardT rfl rfl rfl (fun g_153 => ?_) (fun g_153 => ?_)
                  · skip
                    have g_153_ := g_153
                    try simp only [decide_eq_true_eq, decide_eq_false_iff_not, beq_iff_eq, beq_eq_false_iff_ne, bne_iff_ne, bne_eq_false_iff_eq, Bool.not_eq_true', Bool.not_eq_false', Bool.not_eq_eq_eq_not, Bool.not_true, Bool.not_false, ne_eq, Int.not_lt, Int.not_le] at g_153
                    refine Wl.y (y_move rfl) rfl ?_
                    refine Wl.on' rfl rfl g_153_ ?_
                    refine Wl.call txt23LogicD rfl rfl (Is_r _ _) rfl ?_
                    rintro _ _ ⟨rfl, rfl⟩
                    refine Wl.on' rfl rfl g_153_ ?_
                    refine Wl.y (y_move rfl) rfl ?_
                    refine Wl.on' rfl rfl g_153_ ?_
                    refine Wl.y (y_eqli rfl rfl) rfl ?_
                    refine Wl.y (y_pickT rfl g_153_ rfl) rfl ?_
                    refine Wl.y (y_assign rfl) rfl ?_
                    refine Wl.nil ?_
                    refine Wq.next hK_108 ?_
                    refine Wc.ret ?_
                    refine ret1 rfl rfl ?_
                    exact ⟨_, rfl, bool_eq (by first | exact absurd c0_45 c1_54 | exact absurd c1_54 c0_45 | (unfold isT; rw [if_pos c0_45]; rfl) | (unfold isT; rw [if_neg c0_45]; rfl)), hb⟩
                  · skip
                    have g_153_ := g_153
                    try simp only [decide_eq_true_eq, decide_eq_false_iff_not, beq_iff_eq, beq_eq_false_iff_ne, bne_iff_ne, bne_eq_false_iff_eq, Bool.not_eq_true', Bool.not_eq_false', Bool.not_eq_eq_eq_not, Bool.not_true, Bool.not_false, ne_eq, Int.not_lt, Int.not_le] at g_153
                    exfalso; revert g_153_; first | (rw [valV_yes c0_45]; decide) | (rw [valV_no c0_45]; decide) | (rw [valV_yes c0_45]; simp [Val.cells, order0]; done) | (exact absurd c0_45 c1_54) | (exact absurd c1_54 c0_45)
                · skip
                  have g_147_ := g_147
                  try simp only [decide_eq_true_eq, decide_eq_false_iff_not, beq_iff_eq, beq_eq_false_iff_ne, bne_iff_ne, bne_eq_false_iff_eq, Bool.not_eq_true', Bool.not_eq_false', Bool.not_eq_eq_eq_not, Bool.not_true, Bool.not_false, ne_eq, Int.not_lt, Int.not_le] at g_147
                  first | exact absurd rfl g_147 | exact absurd trivial g_147
              · skip
                have g_139_ := g_139
                try simp only [decide_eq_true_eq, decide_eq_false_iff_not, beq_iff_eq, beq_eq_false_iff_ne, bne_iff_ne, bne_eq_false_iff_eq, Bool.not_eq_true', Bool.not_eq_false', Bool.not_eq_eq_eq_not, Bool.not_true, Bool.not_false, ne_eq, Int.not_lt, Int.not_le] at g_139
                exact absurd (orT_all _) g_139
            · skip
              have g_131_ := g_131
              try simp only [decide_eq_true_eq, decide_eq_false_iff_not, beq_iff_eq, beq_eq_false_iff_ne, bne_iff_ne, bne_eq_false_iff_eq, Bool.not_eq_true', Bool.not_eq_false', Bool.not_eq_eq_eq_not, Bool.not_true, Bool.not_false, ne_eq, Int.not_lt, Int.not_le] at g_131
              exact absurd (andT_all _) g_131
          · skip
            have g_123_ := g_123
            try simp only [decide_eq_true_eq, decide_eq_false_iff_not, beq_iff_eq, beq_eq_false_iff_ne, bne_iff_ne, bne_eq_false_iff_eq, Bool.not_eq_true', Bool.not_eq_false', Bool.not_eq_eq_eq_not, Bool.not_true, Bool.not_false, ne_eq, Int.not_lt, Int.not_le] at g_123
            first | exact absurd rfl g_123 | exact absurd trivial g_123
        · skip
          have g_117_ := g_117
          try simp only [decide_eq_true_eq, decide_eq_false_iff_not, beq_iff_eq, beq_eq_false_iff_ne, bne_iff_ne, bne_eq_false_iff_eq, Bool.not_eq_true', Bool.not_eq_false', Bool.not_eq_eq_eq_not, Bool.not_true, Bool.not_false, ne_eq, Int.not_lt, Int.not_le] at g_117
          first | exact absurd rfl g_117 | exact absurd trivial g_117
      · skip
        have g_111_ := g_111
        try simp only [decide_eq_true_eq, decide_eq_false_iff_not, beq_iff_eq, beq_eq_false_iff_ne, bne_iff_ne, bne_eq_false_iff_eq, Bool.not_eq_true', Bool.not_eq_false', Bool.not_eq_eq_eq_not, Bool.not_true, Bool.not_false, ne_eq, Int.not_lt, Int.not_le] at g_111
        cases g_111
  · skip
    have c0_45_ := c0_45
    try simp only [decide_eq_true_eq, decide_eq_false_iff_not, beq_iff_eq, beq_eq_false_iff_ne, bne_iff_ne, bne_eq_false_iff_eq, Bool.not_eq_true', Bool.not_eq_false', Bool.not_eq_eq_eq_not, Bool.not_true, Bool.not_false, ne_eq, Int.not_lt, Int.not_le] at c0_45
    refine Wc.skip ?_
    refine Wq.next hK_41 ?_
    refine Wc.seq fun _ hK_160 => ?_
    refine Wc.region ?_
    refine Wl.y (y_assign rfl) rfl ?_
    refine Wl.nil ?_
    refine Wq.next hK_160 ?_
    refine Wc.seq fun _ hK_162 => ?_
    refine Wc.seq fun _ hK_163 => ?_
    refine Wc.region ?_
    refine Wl.y (y_move rfl) rfl ?_
    refine Wl.call txt27LogicD rfl rfl (Known_r _ _) rfl ?_
    rintro _ _ ⟨rfl, rfl⟩
    refine Wl.nil ?_
    refine Wq.next hK_163 ?_
    refine Wc.cond rfl (fun c1_166 => ?_) (fun c1_166 => ?_)
    · skip
      have c1_166_ := c1_166
      try simp only [decide_eq_true_eq, decide_eq_false_iff_not, beq_iff_eq, beq_eq_false_iff_ne, bne_iff_ne, bne_eq_false_iff_eq, Bool.not_eq_true', Bool.not_eq_false', Bool.not_eq_eq_eq_not, Bool.not_true, Bool.not_false, ne_eq, Int.not_lt, Int.not_le] at c1_166
      refine Wc.region ?_
      refine Wl.y (y_assign rfl) rfl ?_
      refine Wl.nil ?_
      refine Wq.next hK_162 ?_
      refine Wc.seq fun _ hK_168 => ?_
      refine Wc.region ?_
      refine Wl.y (y_move rfl) rfl ?_
      refine Wl.y (y_move rfl) rfl ?_
      refine Wl.guardT rfl rfl rfl (fun g_171 => ?_) (fun g_171 => ?_)
      · skip
        have g_171_ := g_171
        try simp only [decide_eq_true_eq, decide_eq_false_iff_not, beq_iff_eq, beq_eq_false_iff_ne, bne_iff_ne, bne_eq_false_iff_eq, Bool.not_eq_true', Bool.not_eq_false', Bool.not_eq_eq_eq_not, Bool.not_true, Bool.not_false, ne_eq, Int.not_lt, Int.not_le] at g_171
        refine Wl.y (y_move rfl) rfl ?_
        refine Wl.on' rfl rfl g_171_ ?_
        refine Wl.y (y_move rfl) rfl ?_
        refine Wl.on' rfl rfl g_171_ ?_
        refine Wl.y (y_eqli rfl rfl) rfl ?_
        refine Wl.y (y_pickT rfl g_171_ rfl) rfl ?_
        refine Wl.y (y_move rfl) rfl ?_
        refine Wl.guardT rfl rfl rfl (fun g_177 => ?_) (fun g_177 => ?_)
        · skip
          have g_177_ := g_177
          try simp only [decide_eq_true_eq, decide_eq_false_iff_not, beq_iff_eq, beq_eq_false_iff_ne, bne_iff_ne, bne_eq_false_iff_eq, Bool.not_eq_true', Bool.not_eq_false', Bool.not_eq_eq_eq_not, Bool.not_true, Bool.not_false, ne_eq, Int.not_lt, Int.not_le] at g_177
          refine Wl.y (y_move rfl) rfl ?_
          refine Wl.on' rfl rfl g_177_ ?_
          refine Wl.y (y_move rfl) rfl ?_
          refine Wl.on' rfl rfl g_177_ ?_
          refine Wl.y (y_eqli rfl rfl) rfl ?_
          refine Wl.y (y_pickT rfl g_177_ rfl) rfl ?_
          refine Wl.y (y_move rfl) rfl ?_
          refine Wl.guardT rfl rfl rfl (fun g_183 => ?_) (fun g_183 => ?_)
          · skip
            have g_183_ := g_183
            try simp only [decide_eq_true_eq, decide_eq_false_iff_not, beq_iff_eq, beq_eq_false_iff_ne, bne_iff_ne, bne_eq_false_iff_eq, Bool.not_eq_true', Bool.not_eq_false', Bool.not_eq_eq_eq_not, Bool.not_true, Bool.not_false, ne_eq, Int.not_lt, Int.not_le] at g_183
            refine Wl.y (y_move rfl) rfl ?_
            refine Wl.on' rfl rfl g_183_ ?_
            refine Wl.call txt19LogicD rfl rfl (And_r _ _ _ _ _ (by omega) hx) rfl ?_
            rintro _ _ ⟨rfl, rfl⟩
            refine Wl.on' rfl rfl g_183_ ?_
            refine Wl.y (y_move rfl) rfl ?_
            refine Wl.on' rfl rfl g_183_ ?_
            refine Wl.call txt28LogicD rfl rfl (All_r _ _ _ _ _ _ (.inl rfl) (by omega) hz) rfl ?_
            rintro _ _ ⟨rfl, rfl⟩
            refine Wl.on' rfl rfl g_183_ ?_
            refine Wl.y (y_eqli rfl rfl) rfl ?_
            refine Wl.y (y_pickT rfl g_183_ rfl) rfl ?_
            refine Wl.y (y_move rfl) rfl ?_
            refine Wl.guardT rfl rfl rfl (fun g_191 => ?_) (fun g_191 => ?_)
            · skip
              have g_191_ := g_191
              try simp only [decide_eq_true_eq, decide_eq_false_iff_not, beq_iff_eq, beq_eq_false_iff_ne, bne_iff_ne, bne_eq_false_iff_eq, Bool.not_eq_true', Bool.not_eq_false', Bool.not_eq_eq_eq_not, Bool.not_true, Bool.not_false, ne_eq, Int.not_lt, Int.not_le] at g_191
              refine Wl.y (y_move rfl) rfl ?_
              refine Wl.on' rfl rfl g_191_ ?_
              refine Wl.call txt20LogicD rfl rfl (Or_r _ _ _ _ _ (by omega) hx) rfl ?_
              rintro _ w_k9 ⟨rfl, hs_k9⟩
              have hz_k9 := hs_k9.size
              have hb := hb.trans (hs_k9.mono hb.size)
              have hr := hr_hb.below hb
              have hb2 := hb2.trans (hs_k9.mono hb2.size)
              have hx := hx_hb2.below hb2
              have hz := hz_hb2.below hb2
              try have hB_o0 := Blk.below hB_o0 hs_k9
              try have hB_o22 := Blk.below hB_o22 hs_k9
              try have hB_o24 := Blk.below hB_o24 hs_k9
              refine Wl.on' rfl rfl g_191_ ?_
              refine Wl.y (y_move rfl) rfl ?_
              refine Wl.on' rfl rfl g_191_ ?_
              refine Wl.call txt28LogicD rfl rfl (All_r _ _ _ _ _ _ (.inr rfl) (by omega) hz) rfl ?_
              rintro _ _ ⟨rfl, rfl⟩
              refine Wl.on' rfl rfl g_191_ ?_
              refine Wl.y (y_eqli rfl rfl) rfl ?_
              refine Wl.y (y_pickT rfl g_191_ rfl) rfl ?_
              refine Wl.y (y_move rfl) rfl ?_
              refine Wl.guardT rfl rfl rfl (fun g_199 => ?_) (fun g_199 => ?_)
              · skip
                have g_199_ := g_199
                try simp only [decide_eq_true_eq, decide_eq_false_iff_not, beq_iff_eq, beq_eq_false_iff_ne, bne_iff_ne, bne_eq_false_iff_eq, Bool.not_eq_true', Bool.not_eq_false', Bool.not_eq_eq_eq_not, Bool.not_true, Bool.not_false, ne_eq, Int.not_lt, Int.not_le] at g_199
                refine Wl.y (y_move rfl) rfl ?_
                refine Wl.on' rfl rfl g_199_ ?_
                refine Wl.call txt22LogicD rfl rfl (Not_r _ _) rfl ?_
                rintro _ _ ⟨rfl, rfl⟩
                refine Wl.on' rfl rfl g_199_ ?_
                refine Wl.y (y_move rfl) rfl ?_
                refine Wl.on' rfl rfl g_199_ ?_
                refine Wl.call txt29LogicD rfl rfl (RNot_r _ _) rfl ?_
                rintro _ _ ⟨rfl, rfl⟩
                refine Wl.on' rfl rfl g_199_ ?_
                refine Wl.y (y_eqli rfl rfl) rfl ?_
                refine Wl.y (y_pickT rfl g_199_ rfl) rfl ?_
                refine Wl.y (y_move rfl) rfl ?_
                refine Wl.guardT rfl rfl rfl (fun g_207 => ?_) (fun g_207 => ?_)
                · skip
                  have g_207_ := g_207
                  try simp only [decide_eq_true_eq, decide_eq_false_iff_not, beq_iff_eq, beq_eq_false_iff_ne, bne_iff_ne, bne_eq_false_iff_eq, Bool.not_eq_true', Bool.not_eq_false', Bool.not_eq_eq_eq_not, Bool.not_true, Bool.not_false, ne_eq, Int.not_lt, Int.not_le] at g_207
                  refine Wl.l (l_loadS Try.underlying46 (by kernel_rfl) rfl (by first | exact fun j u hu => hB_o0.at hu | exact fun j u hu => hB_o22.at hu | exact fun j u hu => hB_o24.at hu | assumption)) rfl ?_
                  refine Wl.on' rfl rfl g_207_ ?_
                  refine Wl.l (l_loadS Try.underlying46 (by kernel_rfl) rfl (by first | exact fun j u hu => hB_o0.at hu | exact fun j u hu => hB_o22.at hu | exact fun j u hu => hB_o24.at hu | assumption)) rfl ?_
                  refine Wl.on' rfl rfl g_207_ ?_
                  refine Wl.y (y_eqlS (by kernel_rfl) rfl rfl (EqIs.struct Try.underlying46 (by kernel_rfl) (FieldsIs.one rfl one3LogicD rfl rfl (EqIs.int Try.underlying3) (FieldsIs.one rfl one2LogicD rfl rfl (EqIs.int Try.underlying2) (FieldsIs.one rfl one44LogicD rfl rfl (EqIs.float Try.underlying44) (FieldsIs.one rfl one9LogicD rfl rfl (EqIs.str Try.underlying9) FieldsIs.nil)))))) rfl ?_
                  refine Wl.y (y_pickT rfl g_207_ rfl) rfl ?_
                  refine Wl.y (y_move rfl) rfl ?_
                  refine Wl.guardT rfl rfl rfl (fun g_213 => ?_) (fun g_213 => ?_)
                  · skip
                    have g_213_ := g_213
                    try simp only [decide_eq_true_eq, decide_eq_false_iff_not, beq_iff_eq, beq_eq_false_iff_ne, bne_iff_ne, bne_eq_false_iff_eq, Bool.not_eq_true', Bool.not_eq_false', Bool.not_eq_eq_eq_not, Bool.not_true, Bool.not_false, ne_eq, Int.not_lt, Int.not_le] at g_213
                    refine Wl.y (y_move rfl) rfl ?_
                    refine Wl.on' rfl rfl g_213_ ?_
                    refine Wl.call txt23LogicD rfl rfl (Is_r _ _) rfl ?_
                    rintro _ _ ⟨rfl, rfl⟩
                    refine Wl.on' rfl rfl g_213_ ?_
                    refine Wl.y (y_move rfl) rfl ?_
                    refine Wl.on' rfl rfl g_213_ ?_
                    refine Wl.y (y_eqli rfl rfl) rfl ?_
                    refine Wl.y (y_pickT rfl g_213_ rfl) rfl ?_
                    refine Wl.y (y_assign rfl) rfl ?_
                    refine Wl.nil ?_
                    refine Wq.next hK_168 ?_
                    refine Wc.ret ?_
                    refine ret1 rfl rfl ?_
                    exact ⟨_, rfl, bool_eq (by first | exact absurd c0_45 c1_166 | exact absurd c1_166 c0_45 | (unfold isT; rw [if_pos c0_45]; rfl) | (unfold isT; rw [if_neg c0_45]; rfl)), hb⟩
                  · skip
                    have g_213_ := g_213
                    try simp only [decide_eq_true_eq, decide_eq_false_iff_not, beq_iff_eq, beq_eq_false_iff_ne, bne_iff_ne, bne_eq_false_iff_eq, Bool.not_eq_true', Bool.not_eq_false', Bool.not_eq_eq_eq_not, Bool.not_true, Bool.not_false, ne_eq, Int.not_lt, Int.not_le] at g_213
                    exfalso; revert g_213_; first | (rw [valV_yes c0_45]; decide) | (rw [valV_no c0_45]; decide) | (rw [valV_yes c0_45]; simp [Val.cells, order0]; done) | (exact absurd c0_45 c1_166) | (exact absurd c1_166 c0_45)
                · skip
                  have g_207_ := g_207
                  try simp only [decide_eq_true_eq, decide_eq_false_iff_not, beq_iff_eq, beq_eq_false_iff_ne, bne_iff_ne, bne_eq_false_iff_eq, Bool.not_eq_true', Bool.not_eq_false', Bool.not_eq_eq_eq_not, Bool.not_true, Bool.not_false, ne_eq, Int.not_lt, Int.not_le] at g_207
                  first | exact absurd rfl g_207 | exact absurd trivial g_207
              · skip
                have g_199_ := g_199
                try simp only [decide_eq_true_eq, decide_eq_false_iff_not, beq_iff_eq, beq_eq_false_iff_ne, bne_iff_ne, bne_eq_false_iff_eq, Bool.not_eq_true', Bool.not_eq_false', Bool.not_eq_eq_eq_not, Bool.not_true, Bool.not_false, ne_eq, Int.not_lt, Int.not_le] at g_199
                exact absurd (orT_all _) g_199
            · skip
              have g_191_ := g_191
              try simp only [decide_eq_true_eq, decide_eq_false_iff_not, beq_iff_eq, beq_eq_false_iff_ne, bne_iff_ne, bne_eq_false_iff_eq, Bool.not_eq_true', Bool.not_eq_false', Bool.not_eq_eq_eq_not, Bool.not_true, Bool.not_false, ne_eq, Int.not_lt, Int.not_le] at g_191
              exact absurd (andT_all _) g_191
          · skip
            have g_183_ := g_183
            try simp only [decide_eq_true_eq, decide_eq_false_iff_not, beq_iff_eq, beq_eq_false_iff_ne, bne_iff_ne, bne_eq_false_iff_eq, Bool.not_eq_true', Bool.not_eq_false', Bool.not_eq_eq_eq_not, Bool.not_true, Bool.not_false, ne_eq, Int.not_lt, Int.not_le] at g_183
            first | exact absurd rfl g_183 | exact absurd trivial g_183
        · skip
          have g_177_ := g_177
          try simp only [decide_eq_true_eq, decide_eq_false_iff_not, beq_iff_eq, beq_eq_false_iff_ne, bne_iff_ne, bne_eq_false_iff_eq, Bool.not_eq_true', Bool.not_eq_false', Bool.not_eq_eq_eq_not, Bool.not_true, Bool.not_false, ne_eq, Int.not_lt, Int.not_le] at g_177
          first | exact absurd rfl g_177 | exact absurd trivial g_177
      · skip
        have g_171_ := g_171
        try simp only [decide_eq_true_eq, decide_eq_false_iff_not, beq_iff_eq, beq_eq_false_iff_ne, bne_iff_ne, bne_eq_false_iff_eq, Bool.not_eq_true', Bool.not_eq_false', Bool.not_eq_eq_eq_not, Bool.not_true, Bool.not_false, ne_eq, Int.not_lt, Int.not_le] at g_171
        cases g_171
    · skip
      have c1_166_ := c1_166
      try simp only [decide_eq_true_eq, decide_eq_false_iff_not, beq_iff_eq, beq_eq_false_iff_ne, bne_iff_ne, bne_eq_false_iff_eq, Bool.not_eq_true', Bool.not_eq_false', Bool.not_eq_eq_eq_not, Bool.not_true, Bool.not_false, ne_eq, Int.not_lt, Int.not_le] at c1_166
      refine Wc.skip ?_
      refine Wq.next hK_162 ?_
      refine Wc.seq fun _ hK_220 => ?_
      refine Wc.region ?_
      refine Wl.y (y_move rfl) rfl ?_
      refine Wl.y (y_move rfl) rfl ?_
      refine Wl.guardT rfl rfl rfl (fun g_223 => ?_) (fun g_223 => ?_)
      · skip
        have g_223_ := g_223
        try simp only [decide_eq_true_eq, decide_eq_false_iff_not, beq_iff_eq, beq_eq_false_iff_ne, bne_iff_ne, bne_eq_false_iff_eq, Bool.not_eq_true', Bool.not_eq_false', Bool.not_eq_eq_eq_not, Bool.not_true, Bool.not_false, ne_eq, Int.not_lt, Int.not_le] at g_223
        refine Wl.y (y_move rfl) rfl ?_
        refine Wl.on' rfl rfl g_223_ ?_
        refine Wl.y (y_move rfl) rfl ?_
        refine Wl.on' rfl rfl g_223_ ?_
        refine Wl.y (y_eqli rfl rfl) rfl ?_
        refine Wl.y (y_pickT rfl g_223_ rfl) rfl ?_
        refine Wl.y (y_move rfl) rfl ?_
        refine Wl.guardT rfl rfl rfl (fun g_229 => ?_) (fun g_229 => ?_)
        · skip
          have g_229_ := g_229
          try simp only [decide_eq_true_eq, decide_eq_false_iff_not, beq_iff_eq, beq_eq_false_iff_ne, bne_iff_ne, bne_eq_false_iff_eq, Bool.not_eq_true', Bool.not_eq_false', Bool.not_eq_eq_eq_not, Bool.not_true, Bool.not_false, ne_eq, Int.not_lt, Int.not_le] at g_229
          refine Wl.y (y_move rfl) rfl ?_
          refine Wl.on' rfl rfl g_229_ ?_
          refine Wl.y (y_move rfl) rfl ?_
          refine Wl.on' rfl rfl g_229_ ?_
          refine Wl.y (y_eqli rfl rfl) rfl ?_
          refine Wl.y (y_pickT rfl g_229_ rfl) rfl ?_
          refine Wl.y (y_move rfl) rfl ?_
          refine Wl.guardT rfl rfl rfl (fun g_235 => ?_) (fun g_235 => ?_)
          · skip
            have g_235_ := g_235
            try simp only [decide_eq_true_eq, decide_eq_false_iff_not, beq_iff_eq, beq_eq_false_iff_ne, bne_iff_ne, bne_eq_false_iff_eq, Bool.not_eq_true', Bool.not_eq_false', Bool.not_eq_eq_eq_not, Bool.not_true, Bool.not_false, ne_eq, Int.not_lt, Int.not_le] at g_235
            refine Wl.y (y_move rfl) rfl ?_
            refine Wl.on' rfl rfl g_235_ ?_
            refine Wl.call txt19LogicD rfl rfl (And_r _ _ _ _ _ (by omega) hx) rfl ?_
            rintro _ _ ⟨rfl, rfl⟩
            refine Wl.on' rfl rfl g_235_ ?_
            refine Wl.y (y_move rfl) rfl ?_
            refine Wl.on' rfl rfl g_235_ ?_
            refine Wl.call txt28LogicD rfl rfl (All_r _ _ _ _ _ _ (.inl rfl) (by omega) hz) rfl ?_
            rintro _ _ ⟨rfl, rfl⟩
            refine Wl.on' rfl rfl g_235_ ?_
            refine Wl.y (y_eqli rfl rfl) rfl ?_
            refine Wl.y (y_pickT rfl g_235_ rfl) rfl ?_
            refine Wl.y (y_move rfl) rfl ?_
            refine Wl.guardT rfl rfl rfl (fun g_243 => ?_) (fun g_243 => ?_)
            · skip
              have g_243_ := g_243
              try simp only [decide_eq_true_eq, decide_eq_false_iff_not, beq_iff_eq, beq_eq_false_iff_ne, bne_iff_ne, bne_eq_false_iff_eq, Bool.not_eq_true', Bool.not_eq_false', Bool.not_eq_eq_eq_not, Bool.not_true, Bool.not_false, ne_eq, Int.not_lt, Int.not_le] at g_243
              refine Wl.y (y_move rfl) rfl ?_
              refine Wl.on' rfl rfl g_243_ ?_
              refine Wl.call txt20LogicD rfl rfl (Or_r _ _ _ _ _ (by omega) hx) rfl ?_
              rintro _ w_k9 ⟨rfl, hs_k9⟩
              have hz_k9 := hs_k9.size
              have hb := hb.trans (hs_k9.mono hb.size)
              have hr := hr_hb.below hb
              have hb2 := hb2.trans (hs_k9.mono hb2.size)
              have hx := hx_hb2.below hb2
              have hz := hz_hb2.below hb2
              try have hB_o0 := Blk.below hB_o0 hs_k9
              try have hB_o22 := Blk.below hB_o22 hs_k9
              try have hB_o24 := Blk.below hB_o24 hs_k9
              refine Wl.on' rfl rfl g_243_ ?_
              refine Wl.y (y_move rfl) rfl ?_
              refine Wl.on' rfl rfl g_243_ ?_
              refine Wl.call txt28LogicD rfl rfl (All_r _ _ _ _ _ _ (.inr rfl) (by omega) hz) rfl ?_
              rintro _ _ ⟨rfl, rfl⟩
              refine Wl.on' rfl rfl g_243_ ?_
              refine Wl.y (y_eqli rfl rfl) rfl ?_
              refine Wl.y (y_pickT rfl g_243_ rfl) rfl ?_
              refine Wl.y (y_move rfl) rfl ?_
              refine Wl.guardT rfl rfl rfl (fun g_251 => ?_) (fun g_251 => ?_)
              · skip
                have g_251_ := g_251
                try simp only [decide_eq_true_eq, decide_eq_false_iff_not, beq_iff_eq, beq_eq_false_iff_ne, bne_iff_ne, bne_eq_false_iff_eq, Bool.not_eq_true', Bool.not_eq_false', Bool.not_eq_eq_eq_not, Bool.not_true, Bool.not_false, ne_eq, Int.not_lt, Int.not_le] at g_251
                refine Wl.y (y_move rfl) rfl ?_
                refine Wl.on' rfl rfl g_251_ ?_
                refine Wl.call txt22LogicD rfl rfl (Not_r _ _) rfl ?_
                rintro _ _ ⟨rfl, rfl⟩
                refine Wl.on' rfl rfl g_251_ ?_
                refine Wl.y (y_move rfl) rfl ?_
                refine Wl.on' rfl rfl g_251_ ?_
                refine Wl.call txt29LogicD rfl rfl (RNot_r _ _) rfl ?_
                rintro _ _ ⟨rfl, rfl⟩
                refine Wl.on' rfl rfl g_251_ ?_
                refine Wl.y (y_eqli rfl rfl) rfl ?_
                refine Wl.y (y_pickT rfl g_251_ rfl) rfl ?_
                refine Wl.y (y_move rfl) rfl ?_
                refine Wl.guardT rfl rfl rfl (fun g_259 => ?_) (fun g_259 => ?_)
                · skip
                  have g_259_ := g_259
                  try simp only [decide_eq_true_eq, decide_eq_false_iff_not, beq_iff_eq, beq_eq_false_iff_ne, bne_iff_ne, bne_eq_false_iff_eq, Bool.not_eq_true', Bool.not_eq_false', Bool.not_eq_eq_eq_not, Bool.not_true, Bool.not_false, ne_eq, Int.not_lt, Int.not_le] at g_259
                  refine Wl.l (l_loadS Try.underlying46 (by kernel_rfl) rfl (by first | exact fun j u hu => hB_o0.at hu | exact fun j u hu => hB_o22.at hu | exact fun j u hu => hB_o24.at hu | assumption)) rfl ?_
                  refine Wl.on' rfl rfl g_259_ ?_
                  refine Wl.l (l_loadS Try.underlying46 (by kernel_rfl) rfl (by first | exact fun j u hu => hB_o0.at hu | exact fun j u hu => hB_o22.at hu | exact fun j u hu => hB_o24.at hu | assumption)) rfl ?_
                  refine Wl.on' rfl rfl g_259_ ?_
                  refine Wl.y (y_eqlS (by kernel_rfl) rfl rfl (EqIs.struct Try.underlying46 (by kernel_rfl) (FieldsIs.one rfl one3LogicD rfl rfl (EqIs.int Try.underlying3) (FieldsIs.one rfl one2LogicD rfl rfl (EqIs.int Try.underlying2) (FieldsIs.one rfl one44LogicD rfl rfl (EqIs.float Try.underlying44) (FieldsIs.one rfl one9LogicD rfl rfl (EqIs.str Try.underlying9) FieldsIs.nil)))))) rfl ?_
                  refine Wl.y (y_pickT rfl g_259_ rfl) rfl ?_
                  refine Wl.y (y_move rfl) rfl ?_
                  refine Wl.guardT rfl rfl rfl (fun g_265 => ?_) (fun g_265 => ?_)
                  · skip
                    have g_265_ := g_265
                    try simp only [decide_eq_true_eq, decide_eq_false_iff_not, beq_iff_eq, beq_eq_false_iff_ne, bne_iff_ne, bne_eq_false_iff_eq, Bool.not_eq_true', Bool.not_eq_false', Bool.not_eq_eq_eq_not, Bool.not_true, Bool.not_false, ne_eq, Int.not_lt, Int.not_le] at g_265
                    refine Wl.y (y_move rfl) rfl ?_
                    refine Wl.on' rfl rfl g_265_ ?_
                    refine Wl.call txt23LogicD rfl rfl (Is_r _ _) rfl ?_
                    rintro _ _ ⟨rfl, rfl⟩
                    refine Wl.on' rfl rfl g_265_ ?_
                    refine Wl.y (y_move rfl) rfl ?_
                    refine Wl.on' rfl rfl g_265_ ?_
                    refine Wl.y (y_eqli rfl rfl) rfl ?_
                    refine Wl.y (y_pickT rfl g_265_ rfl) rfl ?_
                    refine Wl.y (y_assign rfl) rfl ?_
                    refine Wl.nil ?_
                    refine Wq.next hK_220 ?_
                    refine Wc.ret ?_
                    refine ret1 rfl rfl ?_
                    exact ⟨_, rfl, bool_eq (by first | exact absurd c0_45 c1_166 | exact absurd c1_166 c0_45 | (unfold isT; rw [if_pos c0_45]; rfl) | (unfold isT; rw [if_neg c0_45]; rfl)), hb⟩
                  · skip
                    have g_265_ := g_265
                    try simp only [decide_eq_true_eq, decide_eq_false_iff_not, beq_iff_eq, beq_eq_false_iff_ne, bne_iff_ne, bne_eq_false_iff_eq, Bool.not_eq_true', Bool.not_eq_false', Bool.not_eq_eq_eq_not, Bool.not_true, Bool.not_false, ne_eq, Int.not_lt, Int.not_le] at g_265
                    exfalso; revert g_265_; first | (rw [valV_yes c0_45]; decide) | (rw [valV_no c0_45]; decide) | (rw [valV_yes c0_45]; simp [Val.cells, order0]; done) | (exact absurd c0_45 c1_166) | (exact absurd c1_166 c0_45)
                · skip
                  have g_259_ := g_259
                  try simp only [decide_eq_true_eq, decide_eq_false_iff_not, beq_iff_eq, beq_eq_false_iff_ne, bne_iff_ne, bne_eq_false_iff_eq, Bool.not_eq_true', Bool.not_eq_false', Bool.not_eq_eq_eq_not, Bool.not_true, Bool.not_false, ne_eq, Int.not_lt, Int.not_le] at g_259
                  first | exact absurd rfl g_259 | exact absurd trivial g_259
              · skip
                have g_251_ := g_251
                try simp only [decide_eq_true_eq, decide_eq_false_iff_not, beq_iff_eq, beq_eq_false_iff_ne, bne_iff_ne, bne_eq_false_iff_eq, Bool.not_eq_true', Bool.not_eq_false', Bool.not_eq_eq_eq_not, Bool.not_true, Bool.not_false, ne_eq, Int.not_lt, Int.not_le] at g_251
                exact absurd (orT_all _) g_251
            · skip
              have g_243_ := g_243
              try simp only [decide_eq_true_eq, decide_eq_false_iff_not, beq_iff_eq, beq_eq_false_iff_ne, bne_iff_ne, bne_eq_false_iff_eq, Bool.not_eq_true', Bool.not_eq_false', Bool.not_eq_eq_eq_not, Bool.not_true, Bool.not_false, ne_eq, Int.not_lt, Int.not_le] at g_243
              exact absurd (andT_all _) g_243
          · skip
            have g_235_ := g_235
            try simp only [decide_eq_true_eq, decide_eq_false_iff_not, beq_iff_eq, beq_eq_false_iff_ne, bne_iff_ne, bne_eq_false_iff_eq, Bool.not_eq_true', Bool.not_eq_false', Bool.not_eq_eq_eq_not, Bool.not_true, Bool.not_false, ne_eq, Int.not_lt, Int.not_le] at g_235
            first | exact absurd rfl g_235 | exact absurd trivial g_235
        · skip
          have g_229_ := g_229
          try simp only [decide_eq_true_eq, decide_eq_false_iff_not, beq_iff_eq, beq_eq_false_iff_ne, bne_iff_ne, bne_eq_false_iff_eq, Bool.not_eq_true', Bool.not_eq_false', Bool.not_eq_eq_eq_not, Bool.not_true, Bool.not_false, ne_eq, Int.not_lt, Int.not_le] at g_229
          first | exact absurd rfl g_229 | exact absurd trivial g_229
      · skip
        have g_223_ := g_223
        try simp only [decide_eq_true_eq, decide_eq_false_iff_not, beq_iff_eq, beq_eq_false_iff_ne, bne_iff_ne, bne_eq_false_iff_eq, Bool.not_eq_true', Bool.not_eq_false', Bool.not_eq_eq_eq_not, Bool.not_true, Bool.not_false, ne_eq, Int.not_lt, Int.not_le] at g_223
        cases g_223
end Go.Proofs.Ytnjjieeepfcloaa
