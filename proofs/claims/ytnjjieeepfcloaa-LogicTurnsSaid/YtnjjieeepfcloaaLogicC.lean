/- The statements of layer 4: their walks. -/
import Derived.Test.YtnjjieeepfcloaaLogicB
import Derived.Test.YtnjjieeepfcloaaQuiet
namespace Go.Proofs.Ytnjjieeepfcloaa
open Go.RowKit Go.Bw Go.Bw.Logic
set_option linter.unusedVariables false
set_option linter.unusedSimpArgs false
theorem one3LogicC : One Try.prog 3 := ⟨_, Try.underlying3, rfl, by kernel_rfl⟩
theorem one34LogicC : One Try.prog 34 := ⟨_, Try.underlying34, rfl, by kernel_rfl⟩
theorem sz3LogicC : (Try.prog.info? 3).map (·.size) = some 1 := by kernel_rfl
theorem sz37LogicC : (Try.prog.info? 37).map (·.size) = some 1 := by kernel_rfl
theorem txt17LogicC : Txt Try.prog 17 := ⟨_, Try.func17, by kernel_rfl, rfl⟩   -- bridleway/bridlewaylaw04.shown
theorem txt18LogicC : Txt Try.prog 18 := ⟨_, Try.func18, by kernel_rfl, rfl⟩   -- bridleway/bridlewaylaw04.truths
theorem txt19LogicC : Txt Try.prog 19 := ⟨_, Try.func19, by kernel_rfl, rfl⟩   -- bridleway/logic.And
theorem txt20LogicC : Txt Try.prog 20 := ⟨_, Try.func20, by kernel_rfl, rfl⟩   -- bridleway/logic.Or
theorem txt21LogicC : Txt Try.prog 21 := ⟨_, Try.func21, by kernel_rfl, rfl⟩   -- bridleway/bridlewaylaw04.LogicNeutral$1
theorem txt22LogicC : Txt Try.prog 22 := ⟨_, Try.func22, by kernel_rfl, rfl⟩   -- bridleway/logic.Not
theorem txt23LogicC : Txt Try.prog 23 := ⟨_, Try.func23, by kernel_rfl, rfl⟩   -- bridleway/logic.Is
theorem txt24LogicC : Txt Try.prog 24 := ⟨_, Try.func24, by kernel_rfl, rfl⟩   -- bridleway/logic.Of
theorem Rd.blk {w : World} {g : Nat} {t : TypeId} {l : List Int} (h : Blk w g t (i64s l)) {n : Nat} (hn : n = l.length) : Rd w 1 (some ⟨g, 0, none⟩) n (i64s l) := h.rd n 1 (by rw [i64s_length]; omega)
theorem Rd.takeI {w : World} {A : Option Addr} {n m : Nat} {l : List Int} (h : Rd w 1 A n (i64s l)) (hm : m ≤ n) : Rd w 1 A m (i64s (l.take m)) := by
  have := h.take hm; rwa [Nat.mul_one, i64s_take] at this

theorem Rd.dropI {w : World} {A : Option Addr} {n m c : Nat} {l : List Int} (h : Rd w 1 A n (i64s l)) (hm : m ≤ n) (hc : n ≤ c) : Rd w 1 (if c = m then A else A.map (·.add (m * 1))) (n - m) (i64s (l.drop m)) := by
  have := h.drop hm hc; rwa [show (i64s l).drop (m * 1) = i64s (l.drop m) by simp [i64s]] at this
theorem shown_r (w : World) : Ret Try.prog 17 [] w fun v w' => v = .bool true ∧ Below w.heap.size w w' := by
  have hb := Below.refl w.heap.size w
  refine enter Try.func17 rfl rfl rfl ?_
  refine Wc.seq fun _ hK_1 => ?_
  refine Wc.region ?_
  refine Wl.y (y_assign rfl) rfl ?_
  refine Wl.nil ?_
  refine Wq.next hK_1 ?_
  refine Wc.seq fun _ hK_3 => ?_
  refine Wc.region ?_
  refine Wl.y (y_buildS (z := [(.int .i64 0), (.int .i64 0), (.float .f64 0), (str [])]) (pl := [(0, 1), (1, 1), (2, 1), (3, 1)]) (cs := [_, _, _, _]) Try.underlying46 (by kernel_rfl) (by kernel_rfl) rfl rfl rfl) rfl ?_
  refine Wl.call txt24LogicC rfl rfl (Of_r ⟨1, 1, 0, []⟩ _) rfl ?_
  rintro _ w_k0 ⟨rfl, hs_k0⟩
  have hz_k0 := hs_k0.size
  have hb := hb.trans (hs_k0.mono hb.size)
  refine Wl.y (y_move rfl) rfl ?_
  refine Wl.y (y_extract rfl rfl) rfl ?_
  refine Wl.y (y_extract rfl rfl) rfl ?_
  refine Wl.y (y_assign rfl) rfl ?_
  refine Wl.y (y_assign rfl) rfl ?_
  refine Wl.nil ?_
  refine Wq.next hK_3 ?_
  refine Wc.seq fun _ hK_11 => ?_
  refine Wc.region ?_
  refine Wl.y (y_buildS (z := [(.int .i64 0), (.int .i64 0), (.float .f64 0), (str [])]) (pl := [(0, 1), (1, 1), (2, 1), (3, 1)]) (cs := [_, _, _, _]) Try.underlying46 (by kernel_rfl) (by kernel_rfl) rfl rfl rfl) rfl ?_
  refine Wl.call txt24LogicC rfl rfl (Of_r ⟨2, 1, 0, []⟩ _) rfl ?_
  rintro _ w_k1 ⟨rfl, hs_k1⟩
  have hz_k1 := hs_k1.size
  have hb := hb.trans (hs_k1.mono hb.size)
  refine Wl.y (y_move rfl) rfl ?_
  refine Wl.y (y_extract rfl rfl) rfl ?_
  refine Wl.y (y_extract rfl rfl) rfl ?_
  refine Wl.y (y_assign rfl) rfl ?_
  refine Wl.y (y_assign rfl) rfl ?_
  refine Wl.nil ?_
  refine Wq.next hK_11 ?_
  refine Wc.seq fun _ hK_19 => ?_
  refine Wc.region ?_
  refine Wl.y (y_move rfl) rfl ?_
  refine Wl.y (y_eqli rfl rfl) rfl ?_
  refine Wl.y (y_move rfl) rfl ?_
  refine Wl.guardT rfl rfl rfl (fun g_23 => ?_) (fun g_23 => ?_)
  · skip
    have g_23_ := g_23
    try simp only [decide_eq_true_eq, decide_eq_false_iff_not, beq_iff_eq, beq_eq_false_iff_ne, bne_iff_ne, bne_eq_false_iff_eq, Bool.not_eq_true', Bool.not_eq_false', Bool.not_eq_eq_eq_not, Bool.not_true, Bool.not_false, ne_eq, Int.not_lt, Int.not_le] at g_23
    refine Wl.y (y_move rfl) rfl ?_
    refine Wl.on' rfl rfl g_23_ ?_
    refine Wl.y (y_eqli rfl rfl) rfl ?_
    refine Wl.y (y_pickT rfl g_23_ rfl) rfl ?_
    refine Wl.y (y_move rfl) rfl ?_
    refine Wl.guardT rfl rfl rfl (fun g_28 => ?_) (fun g_28 => ?_)
    · skip
      have g_28_ := g_28
      try simp only [decide_eq_true_eq, decide_eq_false_iff_not, beq_iff_eq, beq_eq_false_iff_ne, bne_iff_ne, bne_eq_false_iff_eq, Bool.not_eq_true', Bool.not_eq_false', Bool.not_eq_eq_eq_not, Bool.not_true, Bool.not_false, ne_eq, Int.not_lt, Int.not_le] at g_28
      refine Wl.y (y_move rfl) rfl ?_
      refine Wl.on' rfl rfl g_28_ ?_
      refine Wl.y (y_eqli rfl rfl) rfl ?_
      refine Wl.y (y_pickT rfl g_28_ rfl) rfl ?_
      refine Wl.y (y_move rfl) rfl ?_
      refine Wl.guardT rfl rfl rfl (fun g_33 => ?_) (fun g_33 => ?_)
      · skip
        have g_33_ := g_33
        try simp only [decide_eq_true_eq, decide_eq_false_iff_not, beq_iff_eq, beq_eq_false_iff_ne, bne_iff_ne, bne_eq_false_iff_eq, Bool.not_eq_true', Bool.not_eq_false', Bool.not_eq_eq_eq_not, Bool.not_true, Bool.not_false, ne_eq, Int.not_lt, Int.not_le] at g_33
        refine Wl.litN (sz := 1) (vs := [_, _]) Try.underlying34 (by kernel_rfl) rfl rfl rfl rfl rfl rfl ?_
        rintro g_b0 w_b0 hg_b0 hn_b0 hs_b0
        have hz_b0 := hs_b0.size
        have hb := hb.trans (hs_b0.mono hb.size)
        have hB_b0 := hn_b0
        have hl_b0 := hB_b0.lt
        refine Wl.on' rfl rfl g_33_ ?_
        refine Wl.call txt19LogicC rfl rfl (And_r _ _ _ [1, 2] _ (by omega) (Rd.blk hB_b0 rfl)) rfl ?_
        rintro _ _ ⟨rfl, rfl⟩
        refine Wl.on' rfl rfl g_33_ ?_
        refine Wl.y (y_eqli rfl rfl) rfl ?_
        refine Wl.y (y_pickT rfl g_33_ rfl) rfl ?_
        refine Wl.y (y_move rfl) rfl ?_
        refine Wl.guardT rfl rfl rfl (fun g_39 => ?_) (fun g_39 => ?_)
        · skip
          have g_39_ := g_39
          try simp only [decide_eq_true_eq, decide_eq_false_iff_not, beq_iff_eq, beq_eq_false_iff_ne, bne_iff_ne, bne_eq_false_iff_eq, Bool.not_eq_true', Bool.not_eq_false', Bool.not_eq_eq_eq_not, Bool.not_true, Bool.not_false, ne_eq, Int.not_lt, Int.not_le] at g_39
          refine Wl.litN (sz := 1) (vs := [_, _]) Try.underlying34 (by kernel_rfl) rfl rfl rfl rfl rfl rfl ?_
          rintro g_b1 w_b1 hg_b1 hn_b1 hs_b1
          have hz_b1 := hs_b1.size
          have hb := hb.trans (hs_b1.mono hb.size)
          try have hB_b0 := Blk.below hB_b0 hs_b1
          have hB_b1 := hn_b1
          have hl_b1 := hB_b1.lt
          refine Wl.on' rfl rfl g_39_ ?_
          refine Wl.call txt19LogicC rfl rfl (And_r _ _ _ [0, 2] _ (by omega) (Rd.blk hB_b1 rfl)) rfl ?_
          rintro _ _ ⟨rfl, rfl⟩
          refine Wl.on' rfl rfl g_39_ ?_
          refine Wl.y (y_eqli rfl rfl) rfl ?_
          refine Wl.y (y_pickT rfl g_39_ rfl) rfl ?_
          refine Wl.y (y_move rfl) rfl ?_
          refine Wl.guardT rfl rfl rfl (fun g_45 => ?_) (fun g_45 => ?_)
          · skip
            have g_45_ := g_45
            try simp only [decide_eq_true_eq, decide_eq_false_iff_not, beq_iff_eq, beq_eq_false_iff_ne, bne_iff_ne, bne_eq_false_iff_eq, Bool.not_eq_true', Bool.not_eq_false', Bool.not_eq_eq_eq_not, Bool.not_true, Bool.not_false, ne_eq, Int.not_lt, Int.not_le] at g_45
            refine Wl.call txt20LogicC rfl rfl (Or_r _ _ _ [] _ (by omega) (Rd.nil _ _ _)) rfl ?_
            rintro _ w_k4 ⟨rfl, hs_k4⟩
            have hz_k4 := hs_k4.size
            have hb := hb.trans (hs_k4.mono hb.size)
            try have hB_b0 := Blk.below hB_b0 hs_k4
            try have hB_b1 := Blk.below hB_b1 hs_k4
            refine Wl.on' rfl rfl g_45_ ?_
            refine Wl.y (y_eqli rfl rfl) rfl ?_
            refine Wl.y (y_pickT rfl g_45_ rfl) rfl ?_
            refine Wl.y (y_move rfl) rfl ?_
            refine Wl.guardT rfl rfl rfl (fun g_50 => ?_) (fun g_50 => ?_)
            · skip
              have g_50_ := g_50
              try simp only [decide_eq_true_eq, decide_eq_false_iff_not, beq_iff_eq, beq_eq_false_iff_ne, bne_iff_ne, bne_eq_false_iff_eq, Bool.not_eq_true', Bool.not_eq_false', Bool.not_eq_eq_eq_not, Bool.not_true, Bool.not_false, ne_eq, Int.not_lt, Int.not_le] at g_50
              refine Wl.call txt19LogicC rfl rfl (And_r _ _ _ [] _ (by omega) (Rd.nil _ _ _)) rfl ?_
              rintro _ _ ⟨rfl, rfl⟩
              refine Wl.on' rfl rfl g_50_ ?_
              refine Wl.y (y_eqli rfl rfl) rfl ?_
              refine Wl.y (y_pickT rfl g_50_ rfl) rfl ?_
              refine Wl.y (y_assign rfl) rfl ?_
              refine Wl.nil ?_
              refine Wq.next hK_19 ?_
              refine Wc.ret ?_
              refine ret1 rfl rfl ?_
              exact ⟨_, rfl, by rfl, hb⟩
            · skip
              have g_50_ := g_50
              try simp only [decide_eq_true_eq, decide_eq_false_iff_not, beq_iff_eq, beq_eq_false_iff_ne, bne_iff_ne, bne_eq_false_iff_eq, Bool.not_eq_true', Bool.not_eq_false', Bool.not_eq_eq_eq_not, Bool.not_true, Bool.not_false, ne_eq, Int.not_lt, Int.not_le] at g_50
              exact absurd (by decide) g_50
          · skip
            have g_45_ := g_45
            try simp only [decide_eq_true_eq, decide_eq_false_iff_not, beq_iff_eq, beq_eq_false_iff_ne, bne_iff_ne, bne_eq_false_iff_eq, Bool.not_eq_true', Bool.not_eq_false', Bool.not_eq_eq_eq_not, Bool.not_true, Bool.not_false, ne_eq, Int.not_lt, Int.not_le] at g_45
            exact absurd (by decide) g_45
        · skip
          have g_39_ := g_39
          try simp only [decide_eq_true_eq, decide_eq_false_iff_not, beq_iff_eq, beq_eq_false_iff_ne, bne_iff_ne, bne_eq_false_iff_eq, Bool.not_eq_true', Bool.not_eq_false', Bool.not_eq_eq_eq_not, Bool.not_true, Bool.not_false, ne_eq, Int.not_lt, Int.not_le] at g_39
          exact absurd (by decide) g_39
      · skip
        have g_33_ := g_33
        try simp only [decide_eq_true_eq, decide_eq_false_iff_not, beq_iff_eq, beq_eq_false_iff_ne, bne_iff_ne, bne_eq_false_iff_eq, Bool.not_eq_true', Bool.not_eq_false', Bool.not_eq_eq_eq_not, Bool.not_true, Bool.not_false, ne_eq, Int.not_lt, Int.not_le] at g_33
        exact absurd (by decide) g_33
    · skip
      have g_28_ := g_28
      try simp only [decide_eq_true_eq, decide_eq_false_iff_not, beq_iff_eq, beq_eq_false_iff_ne, bne_iff_ne, bne_eq_false_iff_eq, Bool.not_eq_true', Bool.not_eq_false', Bool.not_eq_eq_eq_not, Bool.not_true, Bool.not_false, ne_eq, Int.not_lt, Int.not_le] at g_28
      exact absurd (by decide) g_28
  · skip
    have g_23_ := g_23
    try simp only [decide_eq_true_eq, decide_eq_false_iff_not, beq_iff_eq, beq_eq_false_iff_ne, bne_iff_ne, bne_eq_false_iff_eq, Bool.not_eq_true', Bool.not_eq_false', Bool.not_eq_eq_eq_not, Bool.not_true, Bool.not_false, ne_eq, Int.not_lt, Int.not_le] at g_23
    exact absurd (by decide) g_23

/-- a row of ints that the call owns -/
theorem truths_r (A : Option Addr) (n c : Nat) (l : List Int) (w : World) (hl : n ≤ 35184372088832) (hc : n ≤ c) (hr : Rd w 1 A n (i64s l)) : Ret Try.prog 18 [.slice A n c] w fun v w' =>
    (∃ (m : Nat) (u : Value), m = min n 100 ∧ w'.ownsRow w.heap.size 37 1 u m (i64s (l.take m)) ∧ v = .tuple #[u, .slice A m c]) ∧ Below w.heap.size w w' := by
  have hn := len_of hr
  obtain ⟨m, hm⟩ : ∃ m, m = min n 100 := ⟨_, rfl⟩
  have hmi : (min (n : Int) 100).toNat = m := by omega
  have hb := Below.refl w.heap.size w
  have hr_hb := hr
  refine enter Try.func18 rfl rfl rfl ?_
  refine Wc.seq fun _ hK_1 => ?_
  refine Wc.region ?_
  refine Wl.y (y_assign rfl) rfl ?_
  refine Wl.y (y_assign rfl) rfl ?_
  refine Wl.nil ?_
  refine Wq.next hK_1 ?_
  refine Wc.seq fun _ hK_4 => ?_
  refine Wc.region ?_
  refine Wl.y (y_assign rfl) rfl ?_
  refine Wl.nil ?_
  refine Wq.next hK_4 ?_
  refine Wc.seq fun _ hK_6 => ?_
  refine Wc.region ?_
  refine Wl.y (y_move rfl) rfl ?_
  refine Wl.y (y_move rfl) rfl ?_
  refine Wl.y (y_lenl Try.underlying33 (by omega) rfl) rfl ?_
  refine Wl.y (y_min rfl rfl) rfl ?_
  refine Wl.y (y_slicelH Try.underlying33 sz3LogicC rfl rfl (by omega) (by omega)) rfl ?_
  refine Wl.y (y_assign rfl) rfl ?_
  refine Wl.nil ?_
  refine Wq.next hK_6 ?_
  refine Wc.seq fun _ hK_13 => ?_
  refine Wc.seq fun _ hK_14 => ?_
  rw [hmi]
  refine Wc.region ?_
  refine Wl.y (y_assign rfl) rfl ?_
  refine Wl.nil ?_
  refine Wq.next hK_14 ?_
  refine Wc.block ?_
  refine Wc.loop (X := Nat × Value) (fun (k, u) => [(0, .slice A m c), (4, u), (5, .int .i64 (k : Int))]) (fun (k, u) wr => k ≤ m ∧ wr.ownsRow w.heap.size 37 1 u k (i64s (l.take k)) ∧ Below w.heap.size w wr) (fun (k, u) => m - k) (⟨0, .slice none 0 0⟩) ?_ ?_ ?_
  · exact Sub.cons' rfl (by first | rfl | exact int_eq (by omega) | exact int_eq (by simp) | (simp; done)) (Sub.cons' rfl (by first | rfl | exact int_eq (by omega) | exact int_eq (by simp) | (simp; done)) (Sub.cons' rfl (by first | rfl | exact int_eq (by omega) | exact int_eq (by simp) | (simp; done)) (Sub.nil)))
  · exact ⟨by omega, by simpa [i64s] using own_nil w w.heap.size _ 1, hb⟩
  · rintro ⟨k, u⟩ wr hI_17 _ hL_16
    replace hI_17 : k ≤ m ∧ wr.ownsRow w.heap.size 37 1 u k (i64s (l.take k)) ∧ Below w.heap.size w wr := hI_17
    obtain ⟨hk, ho, hb⟩ := hI_17
    show Wc _ _ _ _ _ [(0, .slice A m c), (4, u), (5, .int .i64 (k : Int))] _
    have hr := hr_hb.below hb
    refine Wc.seq fun _ hK_18 => ?_
    refine Wc.seq fun _ hK_19 => ?_
    refine Wc.region ?_
    refine Wl.y (y_move rfl) rfl ?_
    refine Wl.y (y_move rfl) rfl ?_
    refine Wl.y (y_lenl Try.underlying33 (by omega) rfl) rfl ?_
    refine Wl.y (y_lssi rfl rfl) rfl ?_
    refine Wl.nil ?_
    refine Wq.next hK_19 ?_
    refine Wc.cond rfl (fun c0_24 => ?_) (fun c0_24 => ?_)
    · skip
      have c0_24_ := c0_24
      try simp only [decide_eq_true_eq, decide_eq_false_iff_not, beq_iff_eq, beq_eq_false_iff_ne, bne_iff_ne, bne_eq_false_iff_eq, Bool.not_eq_true', Bool.not_eq_false', Bool.not_eq_eq_eq_not, Bool.not_true, Bool.not_false, ne_eq, Int.not_lt, Int.not_le] at c0_24
      refine Wc.skip ?_
      refine Wq.next hK_18 ?_
      refine Wc.seq fun _ hK_25 => ?_
      refine Wc.block ?_
      obtain ⟨p, v, rfl, hv, hcell⟩ := hr.one (i := k) (by omega)
      have hgt := i64s_get l k (by omega)
      rw [hgt] at hv
      cases hv
      refine Wc.region ?_
      refine Wl.y (y_move rfl) rfl ?_
      refine Wl.y (y_move rfl) rfl ?_
      refine Wl.y (y_move rfl) rfl ?_
      refine Wl.y (y_indexAddr Try.underlying33 sz3LogicC rfl rfl (by omega) (by omega)) rfl ?_
      refine Wl.l (l_load one3LogicC rfl (by exact at1 hcell)) rfl ?_
      refine Wl.litN (sz := 1) (vs := [_]) Try.underlying34 (by kernel_rfl) rfl rfl rfl rfl rfl rfl ?_
      rintro g_b3 w_b3 hg_b3 hn_b3 hs_b3
      have hz_b3 := hs_b3.size
      have hb := hb.trans (hs_b3.mono hb.size)
      have hr := hr_hb.below hb
      try have ho := own_below ho hs_b3
      have hB_b3 := hn_b3
      have hl_b3 := hB_b3.lt
      refine Wl.append (z := (.int .i64 0)) (sz := 1) (bytes := 8) Try.underlying34 (by kernel_rfl) rfl (by decide) _ rfl ho rfl (Rd.blk (l := [l.getD k 0]) hB_b3 rfl) (i64s_one _) (by simp only [maxLen]; omega) (by omega) (by first | exact hb.size | omega) rfl ?_
      rintro v_b4 w_b4 hn_b4 hg_b4 ha_b4
      have hz_b4 := hg_b4.size
      have hb := hb.grown hg_b4 hb.size (fun k_ hk_ => by have := (own_ge ho k_ hk_).1; omega)
      have hr := hr_hb.below hb
      try have hB_b3 := Blk.grown hB_b3 hg_b4 (by first | assumption | (simp [Value.ownBlock]; omega))
      have ho := hn_b4
      refine Wl.y (y_assign rfl) rfl ?_
      refine Wl.nil ?_
      refine Wq.block_normal ?_
      refine Wq.next hK_25 ?_
      refine Wc.region ?_
      refine Wl.y (y_move rfl) rfl ?_
      refine Wl.y (y_addI rfl rfl (by first | omega | simp; omega) (by first | omega | simp; omega)) rfl ?_
      refine Wl.y (y_assign rfl) rfl ?_
      refine Wl.nil ?_
      refine fun a_ ha_ => hL_16 _ _ (⟨k + 1, v_b4⟩) (by first | omega | (simp; omega)) (Sub.cons' rfl (by first | rfl | exact int_eq (by omega) | exact int_eq (by simp) | (simp; done)) (Sub.cons' rfl (by first | rfl | exact int_eq (by omega) | exact int_eq (by simp) | (simp; done)) (Sub.cons' rfl (by first | rfl | exact int_eq (by omega) | exact int_eq (by simp) | (simp; done)) (Sub.nil)))) ?_ a_ ha_
      exact ⟨by omega, by rw [take_getD l k (by omega), i64s_append]; exact ho, hb⟩
    · skip
      have c0_24_ := c0_24
      try simp only [decide_eq_true_eq, decide_eq_false_iff_not, beq_iff_eq, beq_eq_false_iff_ne, bne_iff_ne, bne_eq_false_iff_eq, Bool.not_eq_true', Bool.not_eq_false', Bool.not_eq_eq_eq_not, Bool.not_true, Bool.not_false, ne_eq, Int.not_lt, Int.not_le] at c0_24
      refine Wc.exit ?_
      refine Wq.then_exit ?_
      refine Wq.then_exit ?_
      refine Wq.block_exit ?_
      refine Wq.next hK_13 ?_
      refine Wc.seq fun _ hK_37 => ?_
      refine Wc.region ?_
      refine Wl.y (y_move rfl) rfl ?_
      refine Wl.y (y_move rfl) rfl ?_
      refine Wl.y (y_assign rfl) rfl ?_
      refine Wl.y (y_assign rfl) rfl ?_
      refine Wl.nil ?_
      refine Wq.next hK_37 ?_
      refine Wc.ret ?_
      refine ret2 rfl rfl rfl ?_
      exact ⟨_, rfl, ⟨m, _, hm, by have : k = m := by { omega }; subst this; exact ho, rfl⟩, hb⟩

theorem beq_self_i (a : Int) : (a == a) = true := by simp
theorem own_rd {w : World} {base n c : Nat} {A : Option Addr} {e : TypeId} {l : List Int} (h : w.ownsRow base e 1 (.slice A n c) n (i64s l)) : Rd w 1 A n (i64s l) := Rd.of_own h

theorem bits_lo (x : Int) : 0 ≤ bits .and .i64 x 255 ∧ bits .and .i64 x 255 ≤ 255 := by
  have h : ∃ n : Nat, bits .and .i64 x 255 = IntKind.i64.wrap (n : Int) ∧ n ≤ 255 := by
    refine ⟨_, rfl, ?_⟩
    simp only [BitVec.toNat_and]
    exact Nat.and_le_right
  obtain ⟨n, h1, h2⟩ := h
  rw [h1, wrap_i64 _ (by omega) (by omega)]
  omega
theorem three_of {x y : Int} (h : y = (bits .and .i64 x 255).tmod 3) : y = 0 ∨ y = 1 ∨ y = 2 := by
  have h1 := bits_lo x
  subst h
  generalize bits .and .i64 x 255 = z at *
  rw [Int.tmod_eq_emod_of_nonneg h1.1]; omega
theorem upto_of (x : Int) (p : Nat) (hp : p ≤ 100) : ∃ k : Nat, (bits .and .i64 x 255).tmod ((p : Int) + 1) = k ∧ k ≤ p := by
  have h1 := bits_lo x
  generalize bits .and .i64 x 255 = z at *
  rw [Int.tmod_eq_emod_of_nonneg h1.1]
  have h2 := Int.emod_nonneg z (show ((p : Int) + 1) ≠ 0 by omega)
  have h3 := Int.emod_lt_of_pos z (show (0 : Int) < (p : Int) + 1 by omega)
  exact ⟨(z % ((p : Int) + 1)).toNat, by omega, by omega⟩
theorem LogicOrder_r (A : Option Addr) (n c : Nat) (l : List Int) (A' : Option Addr) (n' c' : Nat) (l' : List Int) (w : World) (hl : n ≤ 35184372088832) (hl' : n' ≤ 35184372088832) (hc : n ≤ c) (hc' : n' ≤ c') (hr : Rd w 1 A n (i64s l)) (hr' : Rd w 1 A' n' (i64s l')) :
    Ret Try.prog 6 [.slice A n c, .slice A' n' c'] w fun v w' => v = .bool true ∧ Below w.heap.size w w' := by
  obtain ⟨m, hm⟩ : ∃ m, m = (min (n : Int) 50).toNat := ⟨_, rfl⟩
  obtain ⟨m', hm'⟩ : ∃ m', m' = (min (n' : Int) 50).toNat := ⟨_, rfl⟩
  have hb := Below.refl w.heap.size w
  have hr_hb := hr
  have hr'_hb := hr'
  refine enter Try.func6 rfl rfl rfl ?_
  refine Wc.seq fun _ hK_1 => ?_
  refine Wc.region ?_
  refine Wl.y (y_assign rfl) rfl ?_
  refine Wl.nil ?_
  refine Wq.next hK_1 ?_
  refine Wc.seq fun _ hK_3 => ?_
  refine Wc.region ?_
  refine Wl.call txt17LogicC rfl rfl (shown_r _) rfl ?_
  rintro _ w_k0 ⟨rfl, hs_k0⟩
  have hz_k0 := hs_k0.size
  have hb := hb.trans (hs_k0.mono hb.size)
  have hr := hr_hb.below hb
  have hr' := hr'_hb.below hb
  refine Wl.y (y_assign rfl) rfl ?_
  refine Wl.nil ?_
  refine Wq.next hK_3 ?_
  refine Wc.seq fun _ hK_6 => ?_
  refine Wc.region ?_
  refine Wl.y (y_move rfl) rfl ?_
  refine Wl.y (y_move rfl) rfl ?_
  refine Wl.y (y_lenl Try.underlying33 (by omega) rfl) rfl ?_
  refine Wl.y (y_min rfl rfl) rfl ?_
  refine Wl.y (y_slicelH Try.underlying33 sz3LogicC rfl rfl (by omega) (by omega)) rfl ?_
  rw [← hm]
  refine Wl.call txt18LogicC rfl rfl (truths_r _ _ _ (l.take m) _ (by omega) (by omega) (Rd.takeI hr (by omega))) rfl ?_
  rintro _ w_k1 ⟨⟨p, u, hp, ho1, rfl⟩, hs_k1⟩
  have hz_k1 := hs_k1.size
  have hb := hb.trans (hs_k1.mono hb.size)
  have hr := hr_hb.below hb
  have hr' := hr'_hb.below hb
  obtain rfl : p = m := by omega
  rw [List.take_of_length_le (by simp; omega)] at ho1
  obtain ⟨B, cb, rfl, hcb, _⟩ := own_form ho1
  have hx := Rd.of_own ho1
  refine Wl.y (y_move rfl) rfl ?_
  refine Wl.y (y_extract rfl rfl) rfl ?_
  refine Wl.y (y_extract rfl rfl) rfl ?_
  refine Wl.y (y_assign rfl) rfl ?_
  refine Wl.y (y_assign rfl) rfl ?_
  refine Wl.nil ?_
  refine Wq.next hK_6 ?_
  refine Wc.seq fun _ hK_18 => ?_
  refine Wc.region ?_
  refine Wl.y (y_move rfl) rfl ?_
  refine Wl.y (y_move rfl) rfl ?_
  refine Wl.y (y_lenl Try.underlying33 (by omega) rfl) rfl ?_
  refine Wl.y (y_min rfl rfl) rfl ?_
  refine Wl.y (y_slicelH Try.underlying33 sz3LogicC rfl rfl (by omega) (by omega)) rfl ?_
  rw [← hm']
  refine Wl.call txt18LogicC rfl rfl (truths_r _ _ _ (l'.take m') _ (by omega) (by omega) (Rd.takeI hr' (by omega))) rfl ?_
  rintro _ w_k2 ⟨⟨p', u', hp', ho2, rfl⟩, hs_k2⟩
  have hz_k2 := hs_k2.size
  have hb := hb.trans (hs_k2.mono hb.size)
  have hr := hr_hb.below hb
  have hr' := hr'_hb.below hb
  have hx := hx.below hs_k2
  obtain rfl : p' = m' := by omega
  rw [List.take_of_length_le (by simp; omega)] at ho2
  obtain ⟨B', cb', rfl, hcb', _⟩ := own_form ho2
  have hy := Rd.of_own ho2
  have hb2 := Below.refl w_k2.heap.size w_k2
  have hx_hb2 := hx
  have hy_hb2 := hy
  refine Wl.y (y_move rfl) rfl ?_
  refine Wl.y (y_extract rfl rfl) rfl ?_
  refine Wl.y (y_extract rfl rfl) rfl ?_
  refine Wl.y (y_assign rfl) rfl ?_
  refine Wl.y (y_assign rfl) rfl ?_
  refine Wl.nil ?_
  refine Wq.next hK_18 ?_
  refine Wc.seq fun _ hK_30 => ?_
  refine Wc.region ?_
  refine Wl.lit0N Try.underlying34 (by kernel_rfl) rfl ?_
  rintro g_b4 w_b4 hg_b4 hn_b4 hs_b4
  have hz_b4 := hs_b4.size
  have hb := hb.trans (hs_b4.mono hb.size)
  have hr := hr_hb.below hb
  have hr' := hr'_hb.below hb
  have hb2 := hb2.trans (hs_b4.mono hb2.size)
  have hx := hx_hb2.below hb2
  have hy := hy_hb2.below hb2
  have hB_b4 := hn_b4
  have hl_b4 := hB_b4.lt
  refine Wl.y (y_move rfl) rfl ?_
  have ho3 := hB_b4.own (base := w_k2.heap.size) (n := 0) (sz := 1) (by omega) rfl (by decide)
  refine Wl.append (z := (.int .i64 0)) (sz := 1) (bytes := 8) Try.underlying34 (by kernel_rfl) rfl (by decide) _ rfl ho3 rfl hx (i64s_one _) (by simp only [maxLen]; omega) (by omega) (by first | exact hb.size | omega) rfl ?_
  rintro v_b5 w_b5 hn_b5 hg_b5 ha_b5
  have hz_b5 := hg_b5.size
  have hb := hb.grown hg_b5 hb.size (fun k_ hk_ => by have := (own_ge ho3 k_ hk_).1; omega)
  have hr := hr_hb.below hb
  have hr' := hr'_hb.below hb
  have hb2 := hb2.grown hg_b5 hb2.size (fun k_ hk_ => by have := (own_ge ho3 k_ hk_).1; omega)
  have hx := hx_hb2.below hb2
  have hy := hy_hb2.below hb2
  try have hB_b4 := Blk.grown hB_b4 hg_b5 (by first | assumption | (simp [Value.ownBlock]; omega))
  have ho3 := hn_b5
  refine Wl.y (y_move rfl) rfl ?_
  refine Wl.append (z := (.int .i64 0)) (sz := 1) (bytes := 8) Try.underlying34 (by kernel_rfl) rfl (by decide) _ rfl ho3 rfl hy (i64s_one _) (by simp only [maxLen]; omega) (by omega) (by first | exact hb.size | omega) rfl ?_
  rintro v_b6 w_b6 hn_b6 hg_b6 ha_b6
  have hz_b6 := hg_b6.size
  have hb := hb.grown hg_b6 hb.size (fun k_ hk_ => by have := (own_ge ho3 k_ hk_).1; omega)
  have hr := hr_hb.below hb
  have hr' := hr'_hb.below hb
  have hb2 := hb2.grown hg_b6 hb2.size (fun k_ hk_ => by have := (own_ge ho3 k_ hk_).1; omega)
  have hx := hx_hb2.below hb2
  have hy := hy_hb2.below hb2
  try have hB_b4 := Blk.grown hB_b4 hg_b6 (by first | assumption | (simp [Value.ownBlock]; omega))
  have ho3 := hn_b6
  rw [List.nil_append, ← i64s_append] at ho3
  obtain ⟨B3, c3, rfl, _, _⟩ := own_form ho3
  have ha := Rd.of_own ho3
  have hb3 := Below.refl w_b6.heap.size w_b6
  have ha_hb3 := ha
  refine Wl.y (y_assign rfl) rfl ?_
  refine Wl.nil ?_
  refine Wq.next hK_30 ?_
  refine Wc.seq fun _ hK_37 => ?_
  refine Wc.region ?_
  refine Wl.lit0N Try.underlying34 (by kernel_rfl) rfl ?_
  rintro g_b7 w_b7 hg_b7 hn_b7 hs_b7
  have hz_b7 := hs_b7.size
  have hb := hb.trans (hs_b7.mono hb.size)
  have hr := hr_hb.below hb
  have hr' := hr'_hb.below hb
  have hb2 := hb2.trans (hs_b7.mono hb2.size)
  have hx := hx_hb2.below hb2
  have hy := hy_hb2.below hb2
  have hb3 := hb3.trans (hs_b7.mono hb3.size)
  have ha := ha_hb3.below hb3
  try have hB_b4 := Blk.below hB_b4 hs_b7
  try have ho3 := own_below ho3 hs_b7
  have hB_b7 := hn_b7
  have hl_b7 := hB_b7.lt
  refine Wl.y (y_move rfl) rfl ?_
  have ho4 := hB_b7.own (base := w_b6.heap.size) (n := 0) (sz := 1) (by omega) rfl (by decide)
  refine Wl.append (z := (.int .i64 0)) (sz := 1) (bytes := 8) Try.underlying34 (by kernel_rfl) rfl (by decide) _ rfl ho4 rfl hy (i64s_one _) (by simp only [maxLen]; omega) (by omega) (by first | exact hb.size | omega) rfl ?_
  rintro v_b8 w_b8 hn_b8 hg_b8 ha_b8
  have hz_b8 := hg_b8.size
  have hb := hb.grown hg_b8 hb.size (fun k_ hk_ => by have := (own_ge ho4 k_ hk_).1; omega)
  have hr := hr_hb.below hb
  have hr' := hr'_hb.below hb
  have hb2 := hb2.grown hg_b8 hb2.size (fun k_ hk_ => by have := (own_ge ho4 k_ hk_).1; omega)
  have hx := hx_hb2.below hb2
  have hy := hy_hb2.below hb2
  have hb3 := hb3.grown hg_b8 hb3.size (fun k_ hk_ => by have := (own_ge ho4 k_ hk_).1; omega)
  have ha := ha_hb3.below hb3
  try have hB_b4 := Blk.grown hB_b4 hg_b8 (by first | assumption | (simp [Value.ownBlock]; omega))
  try have ho3 := World.ownsRow.kept ho3 hg_b8 (by first | assumption | (simp [Value.ownBlock]; omega))
  try have hB_b7 := Blk.grown hB_b7 hg_b8 (by first | assumption | (simp [Value.ownBlock]; omega))
  have ho4 := hn_b8
  refine Wl.y (y_move rfl) rfl ?_
  refine Wl.append (z := (.int .i64 0)) (sz := 1) (bytes := 8) Try.underlying34 (by kernel_rfl) rfl (by decide) _ rfl ho4 rfl hx (i64s_one _) (by simp only [maxLen]; omega) (by omega) (by first | exact hb.size | omega) rfl ?_
  rintro v_b9 w_b9 hn_b9 hg_b9 ha_b9
  have hz_b9 := hg_b9.size
  have hb := hb.grown hg_b9 hb.size (fun k_ hk_ => by have := (own_ge ho4 k_ hk_).1; omega)
  have hr := hr_hb.below hb
  have hr' := hr'_hb.below hb
  have hb2 := hb2.grown hg_b9 hb2.size (fun k_ hk_ => by have := (own_ge ho4 k_ hk_).1; omega)
  have hx := hx_hb2.below hb2
  have hy := hy_hb2.below hb2
  have hb3 := hb3.grown hg_b9 hb3.size (fun k_ hk_ => by have := (own_ge ho4 k_ hk_).1; omega)
  have ha := ha_hb3.below hb3
  try have hB_b4 := Blk.grown hB_b4 hg_b9 (by first | assumption | (simp [Value.ownBlock]; omega))
  try have ho3 := World.ownsRow.kept ho3 hg_b9 (by first | assumption | (simp [Value.ownBlock]; omega))
  try have hB_b7 := Blk.grown hB_b7 hg_b9 (by first | assumption | (simp [Value.ownBlock]; omega))
  have ho4 := hn_b9
  refine Wl.y (y_assign rfl) rfl ?_
  refine Wl.nil ?_
  refine Wq.next hK_37 ?_
  refine Wc.seq fun _ hK_44 => ?_
  rw [List.nil_append, ← i64s_append] at ho4
  obtain ⟨B4, c4, rfl, _, _⟩ := own_form ho4
  have hk := Rd.of_own ho4
  refine Wc.region ?_
  refine Wl.y (y_move rfl) rfl ?_
  refine Wl.y (y_move rfl) rfl ?_
  refine Wl.guardT rfl rfl rfl (fun g_47 => ?_) (fun g_47 => ?_)
  · skip
    have g_47_ := g_47
    try simp only [decide_eq_true_eq, decide_eq_false_iff_not, beq_iff_eq, beq_eq_false_iff_ne, bne_iff_ne, bne_eq_false_iff_eq, Bool.not_eq_true', Bool.not_eq_false', Bool.not_eq_eq_eq_not, Bool.not_true, Bool.not_false, ne_eq, Int.not_lt, Int.not_le] at g_47
    refine Wl.y (y_move rfl) rfl ?_
    refine Wl.on' rfl rfl g_47_ ?_
    refine Wl.call txt19LogicC rfl rfl (And_r _ _ _ _ _ (by omega) ha) rfl ?_
    rintro _ _ ⟨rfl, rfl⟩
    refine Wl.on' rfl rfl g_47_ ?_
    refine Wl.y (y_move rfl) rfl ?_
    refine Wl.on' rfl rfl g_47_ ?_
    refine Wl.call txt19LogicC rfl rfl (And_r _ _ _ _ _ (by omega) hx) rfl ?_
    rintro _ _ ⟨rfl, rfl⟩
    refine Wl.on' rfl rfl g_47_ ?_
    refine Wl.y (y_move rfl) rfl ?_
    refine Wl.on' rfl rfl g_47_ ?_
    refine Wl.call txt19LogicC rfl rfl (And_r _ _ _ _ _ (by omega) hy) rfl ?_
    rintro _ _ ⟨rfl, rfl⟩
    refine Wl.on' rfl rfl g_47_ ?_
    refine Wl.litN (sz := 1) (vs := [_, _]) Try.underlying34 (by kernel_rfl) rfl rfl rfl rfl rfl rfl ?_
    rintro g_b10 w_b10 hg_b10 hn_b10 hs_b10
    have hz_b10 := hs_b10.size
    have hb := hb.trans (hs_b10.mono hb.size)
    have hr := hr_hb.below hb
    have hr' := hr'_hb.below hb
    have hb2 := hb2.trans (hs_b10.mono hb2.size)
    have hx := hx_hb2.below hb2
    have hy := hy_hb2.below hb2
    have hb3 := hb3.trans (hs_b10.mono hb3.size)
    have ha := ha_hb3.below hb3
    try have hB_b4 := Blk.below hB_b4 hs_b10
    try have ho3 := own_below ho3 hs_b10
    try have hB_b7 := Blk.below hB_b7 hs_b10
    try have ho4 := own_below ho4 hs_b10
    try have hk := Rd.below hk hs_b10
    have hB_b10 := hn_b10
    have hl_b10 := hB_b10.lt
    refine Wl.on' rfl rfl g_47_ ?_
    refine Wl.call txt19LogicC rfl rfl (And_r _ _ _ [_, _] _ (by omega) (Rd.blk hB_b10 rfl)) rfl ?_
    rintro _ _ ⟨rfl, rfl⟩
    refine Wl.on' rfl rfl g_47_ ?_
    refine Wl.y (y_eqli rfl rfl) rfl ?_
    refine Wl.y (y_pickT rfl g_47_ rfl) rfl ?_
    refine Wl.y (y_move rfl) rfl ?_
    refine Wl.guardT rfl rfl rfl (fun g_59 => ?_) (fun g_59 => ?_)
    · skip
      have g_59_ := g_59
      try simp only [decide_eq_true_eq, decide_eq_false_iff_not, beq_iff_eq, beq_eq_false_iff_ne, bne_iff_ne, bne_eq_false_iff_eq, Bool.not_eq_true', Bool.not_eq_false', Bool.not_eq_eq_eq_not, Bool.not_true, Bool.not_false, ne_eq, Int.not_lt, Int.not_le] at g_59
      refine Wl.y (y_move rfl) rfl ?_
      refine Wl.on' rfl rfl g_59_ ?_
      refine Wl.call txt19LogicC rfl rfl (And_r _ _ _ _ _ (by omega) ha) rfl ?_
      rintro _ _ ⟨rfl, rfl⟩
      refine Wl.on' rfl rfl g_59_ ?_
      refine Wl.y (y_move rfl) rfl ?_
      refine Wl.on' rfl rfl g_59_ ?_
      refine Wl.call txt19LogicC rfl rfl (And_r _ _ _ _ _ (by omega) hk) rfl ?_
      rintro _ _ ⟨rfl, rfl⟩
      refine Wl.on' rfl rfl g_59_ ?_
      refine Wl.y (y_eqli rfl rfl) rfl ?_
      refine Wl.y (y_pickT rfl g_59_ rfl) rfl ?_
      refine Wl.y (y_move rfl) rfl ?_
      refine Wl.guardT rfl rfl rfl (fun g_67 => ?_) (fun g_67 => ?_)
      · skip
        have g_67_ := g_67
        try simp only [decide_eq_true_eq, decide_eq_false_iff_not, beq_iff_eq, beq_eq_false_iff_ne, bne_iff_ne, bne_eq_false_iff_eq, Bool.not_eq_true', Bool.not_eq_false', Bool.not_eq_eq_eq_not, Bool.not_true, Bool.not_false, ne_eq, Int.not_lt, Int.not_le] at g_67
        refine Wl.y (y_move rfl) rfl ?_
        refine Wl.on' rfl rfl g_67_ ?_
        refine Wl.call txt20LogicC rfl rfl (Or_r _ _ _ _ _ (by omega) ha) rfl ?_
        rintro _ w_k9 ⟨rfl, hs_k9⟩
        have hz_k9 := hs_k9.size
        have hb := hb.trans (hs_k9.mono hb.size)
        have hr := hr_hb.below hb
        have hr' := hr'_hb.below hb
        have hb2 := hb2.trans (hs_k9.mono hb2.size)
        have hx := hx_hb2.below hb2
        have hy := hy_hb2.below hb2
        have hb3 := hb3.trans (hs_k9.mono hb3.size)
        have ha := ha_hb3.below hb3
        try have hB_b4 := Blk.below hB_b4 hs_k9
        try have ho3 := own_below ho3 hs_k9
        try have hB_b7 := Blk.below hB_b7 hs_k9
        try have ho4 := own_below ho4 hs_k9
        try have hk := Rd.below hk hs_k9
        try have hB_b10 := Blk.below hB_b10 hs_k9
        refine Wl.on' rfl rfl g_67_ ?_
        refine Wl.y (y_move rfl) rfl ?_
        refine Wl.on' rfl rfl g_67_ ?_
        refine Wl.call txt20LogicC rfl rfl (Or_r _ _ _ _ _ (by omega) hx) rfl ?_
        rintro _ w_k10 ⟨rfl, hs_k10⟩
        have hz_k10 := hs_k10.size
        have hb := hb.trans (hs_k10.mono hb.size)
        have hr := hr_hb.below hb
        have hr' := hr'_hb.below hb
        have hb2 := hb2.trans (hs_k10.mono hb2.size)
        have hx := hx_hb2.below hb2
        have hy := hy_hb2.below hb2
        have hb3 := hb3.trans (hs_k10.mono hb3.size)
        have ha := ha_hb3.below hb3
        try have hB_b4 := Blk.below hB_b4 hs_k10
        try have ho3 := own_below ho3 hs_k10
        try have hB_b7 := Blk.below hB_b7 hs_k10
        try have ho4 := own_below ho4 hs_k10
        try have hk := Rd.below hk hs_k10
        try have hB_b10 := Blk.below hB_b10 hs_k10
        refine Wl.on' rfl rfl g_67_ ?_
        refine Wl.y (y_move rfl) rfl ?_
        refine Wl.on' rfl rfl g_67_ ?_
        refine Wl.call txt20LogicC rfl rfl (Or_r _ _ _ _ _ (by omega) hy) rfl ?_
        rintro _ w_k11 ⟨rfl, hs_k11⟩
        have hz_k11 := hs_k11.size
        have hb := hb.trans (hs_k11.mono hb.size)
        have hr := hr_hb.below hb
        have hr' := hr'_hb.below hb
        have hb2 := hb2.trans (hs_k11.mono hb2.size)
        have hx := hx_hb2.below hb2
        have hy := hy_hb2.below hb2
        have hb3 := hb3.trans (hs_k11.mono hb3.size)
        have ha := ha_hb3.below hb3
        try have hB_b4 := Blk.below hB_b4 hs_k11
        try have ho3 := own_below ho3 hs_k11
        try have hB_b7 := Blk.below hB_b7 hs_k11
        try have ho4 := own_below ho4 hs_k11
        try have hk := Rd.below hk hs_k11
        try have hB_b10 := Blk.below hB_b10 hs_k11
        refine Wl.on' rfl rfl g_67_ ?_
        refine Wl.litN (sz := 1) (vs := [_, _]) Try.underlying34 (by kernel_rfl) rfl rfl rfl rfl rfl rfl ?_
        rintro g_b11 w_b11 hg_b11 hn_b11 hs_b11
        have hz_b11 := hs_b11.size
        have hb := hb.trans (hs_b11.mono hb.size)
        have hr := hr_hb.below hb
        have hr' := hr'_hb.below hb
        have hb2 := hb2.trans (hs_b11.mono hb2.size)
        have hx := hx_hb2.below hb2
        have hy := hy_hb2.below hb2
        have hb3 := hb3.trans (hs_b11.mono hb3.size)
        have ha := ha_hb3.below hb3
        try have hB_b4 := Blk.below hB_b4 hs_b11
        try have ho3 := own_below ho3 hs_b11
        try have hB_b7 := Blk.below hB_b7 hs_b11
        try have ho4 := own_below ho4 hs_b11
        try have hk := Rd.below hk hs_b11
        try have hB_b10 := Blk.below hB_b10 hs_b11
        have hB_b11 := hn_b11
        have hl_b11 := hB_b11.lt
        refine Wl.on' rfl rfl g_67_ ?_
        refine Wl.call txt20LogicC rfl rfl (Or_r _ _ _ [_, _] _ (by omega) (Rd.blk hB_b11 rfl)) rfl ?_
        rintro _ w_k12 ⟨rfl, hs_k12⟩
        have hz_k12 := hs_k12.size
        have hb := hb.trans (hs_k12.mono hb.size)
        have hr := hr_hb.below hb
        have hr' := hr'_hb.below hb
        have hb2 := hb2.trans (hs_k12.mono hb2.size)
        have hx := hx_hb2.below hb2
        have hy := hy_hb2.below hb2
        have hb3 := hb3.trans (hs_k12.mono hb3.size)
        have ha := ha_hb3.below hb3
        try have hB_b4 := Blk.below hB_b4 hs_k12
        try have ho3 := own_below ho3 hs_k12
        try have hB_b7 := Blk.below hB_b7 hs_k12
        try have ho4 := own_below ho4 hs_k12
        try have hk := Rd.below hk hs_k12
        try have hB_b10 := Blk.below hB_b10 hs_k12
        try have hB_b11 := Blk.below hB_b11 hs_k12
        refine Wl.on' rfl rfl g_67_ ?_
        refine Wl.y (y_eqli rfl rfl) rfl ?_
        refine Wl.y (y_pickT rfl g_67_ rfl) rfl ?_
        refine Wl.y (y_move rfl) rfl ?_
        refine Wl.guardT rfl rfl rfl (fun g_79 => ?_) (fun g_79 => ?_)
        · skip
          have g_79_ := g_79
          try simp only [decide_eq_true_eq, decide_eq_false_iff_not, beq_iff_eq, beq_eq_false_iff_ne, bne_iff_ne, bne_eq_false_iff_eq, Bool.not_eq_true', Bool.not_eq_false', Bool.not_eq_eq_eq_not, Bool.not_true, Bool.not_false, ne_eq, Int.not_lt, Int.not_le] at g_79
          refine Wl.y (y_move rfl) rfl ?_
          refine Wl.on' rfl rfl g_79_ ?_
          refine Wl.call txt20LogicC rfl rfl (Or_r _ _ _ _ _ (by omega) ha) rfl ?_
          rintro _ w_k13 ⟨rfl, hs_k13⟩
          have hz_k13 := hs_k13.size
          have hb := hb.trans (hs_k13.mono hb.size)
          have hr := hr_hb.below hb
          have hr' := hr'_hb.below hb
          have hb2 := hb2.trans (hs_k13.mono hb2.size)
          have hx := hx_hb2.below hb2
          have hy := hy_hb2.below hb2
          have hb3 := hb3.trans (hs_k13.mono hb3.size)
          have ha := ha_hb3.below hb3
          try have hB_b4 := Blk.below hB_b4 hs_k13
          try have ho3 := own_below ho3 hs_k13
          try have hB_b7 := Blk.below hB_b7 hs_k13
          try have ho4 := own_below ho4 hs_k13
          try have hk := Rd.below hk hs_k13
          try have hB_b10 := Blk.below hB_b10 hs_k13
          try have hB_b11 := Blk.below hB_b11 hs_k13
          refine Wl.on' rfl rfl g_79_ ?_
          refine Wl.y (y_move rfl) rfl ?_
          refine Wl.on' rfl rfl g_79_ ?_
          refine Wl.call txt20LogicC rfl rfl (Or_r _ _ _ _ _ (by omega) hk) rfl ?_
          rintro _ w_k14 ⟨rfl, hs_k14⟩
          have hz_k14 := hs_k14.size
          have hb := hb.trans (hs_k14.mono hb.size)
          have hr := hr_hb.below hb
          have hr' := hr'_hb.below hb
          have hb2 := hb2.trans (hs_k14.mono hb2.size)
          have hx := hx_hb2.below hb2
          have hy := hy_hb2.below hb2
          have hb3 := hb3.trans (hs_k14.mono hb3.size)
          have ha := ha_hb3.below hb3
          try have hB_b4 := Blk.below hB_b4 hs_k14
          try have ho3 := own_below ho3 hs_k14
          try have hB_b7 := Blk.below hB_b7 hs_k14
          try have ho4 := own_below ho4 hs_k14
          try have hk := Rd.below hk hs_k14
          try have hB_b10 := Blk.below hB_b10 hs_k14
          try have hB_b11 := Blk.below hB_b11 hs_k14
          refine Wl.on' rfl rfl g_79_ ?_
          refine Wl.y (y_eqli rfl rfl) rfl ?_
          refine Wl.y (y_pickT rfl g_79_ rfl) rfl ?_
          refine Wl.y (y_assign rfl) rfl ?_
          refine Wl.nil ?_
          refine Wq.next hK_44 ?_
          refine Wc.ret ?_
          refine ret1 rfl rfl ?_
          exact ⟨_, rfl, by rw [orT_swap]; simp, hb⟩
        · skip
          have g_79_ := g_79
          try simp only [decide_eq_true_eq, decide_eq_false_iff_not, beq_iff_eq, beq_eq_false_iff_ne, bne_iff_ne, bne_eq_false_iff_eq, Bool.not_eq_true', Bool.not_eq_false', Bool.not_eq_eq_eq_not, Bool.not_true, Bool.not_false, ne_eq, Int.not_lt, Int.not_le] at g_79
          exact absurd (orT_append _ _) g_79
      · skip
        have g_67_ := g_67
        try simp only [decide_eq_true_eq, decide_eq_false_iff_not, beq_iff_eq, beq_eq_false_iff_ne, bne_iff_ne, bne_eq_false_iff_eq, Bool.not_eq_true', Bool.not_eq_false', Bool.not_eq_eq_eq_not, Bool.not_true, Bool.not_false, ne_eq, Int.not_lt, Int.not_le] at g_67
        exact absurd (andT_swap _ _) g_67
    · skip
      have g_59_ := g_59
      try simp only [decide_eq_true_eq, decide_eq_false_iff_not, beq_iff_eq, beq_eq_false_iff_ne, bne_iff_ne, bne_eq_false_iff_eq, Bool.not_eq_true', Bool.not_eq_false', Bool.not_eq_eq_eq_not, Bool.not_true, Bool.not_false, ne_eq, Int.not_lt, Int.not_le] at g_59
      exact absurd (andT_append _ _) g_59
  · skip
    have g_47_ := g_47
    try simp only [decide_eq_true_eq, decide_eq_false_iff_not, beq_iff_eq, beq_eq_false_iff_ne, bne_iff_ne, bne_eq_false_iff_eq, Bool.not_eq_true', Bool.not_eq_false', Bool.not_eq_eq_eq_not, Bool.not_true, Bool.not_false, ne_eq, Int.not_lt, Int.not_le] at g_47
    cases g_47

theorem clos_r (x : Int) (A : Option Addr) (n c : Nat) (l : List Int) (k : Nat) (p q : Nat) (w : World) (hl : n ≤ 100) (hc : n ≤ c) (hk : k ≤ n) (hr : Rd w 1 A n (i64s l)) (hp : Blk w p 34 [.slice A n c]) (hq : Blk w q 3 [.int .i64 k]) :
    Ret Try.prog 21 [.int .i64 x, .pointer (some ⟨p, 0, none⟩), .pointer (some ⟨q, 0, none⟩)] w fun v w' => (∃ B c', v = .slice B (n + 1) c' ∧ Rd w' 1 B (n + 1) (i64s (l.take k ++ x :: l.drop k))) ∧ Below w.heap.size w w' := by
  have hn := len_of hr
  have hb := Below.refl w.heap.size w
  have hr_hb := hr
  have hp_hb := hp
  have hq_hb := hq
  refine enter Try.func21 rfl rfl rfl ?_
  refine Wc.seq fun _ hK_1 => ?_
  refine Wc.region ?_
  refine Wl.y (y_assign rfl) rfl ?_
  refine Wl.nil ?_
  refine Wq.next hK_1 ?_
  refine Wc.seq fun _ hK_3 => ?_
  refine Wc.any (n := 13) (fun w' => Below w.heap.size w w') #[false, false, false, false, false, false, false, false, false, false, false, false, false] (by kernel_rfl) rfl (by kernel_rfl) ?_
  refine Wa.drew ?_
  rintro w_g1 hs_g1
  have hz_g1 := hs_g1.size
  have hb := hb.trans (hs_g1.mono hb.size)
  have hr := hr_hb.below hb
  have hp := hp_hb.below hb
  have hq := hq_hb.below hb
  refine Wa.take (i := 1) #[false, true, false, false, false, false, false, false, false, false, false, false, false] rfl (by kernel_rfl) (fun _ _ _ h => h) rfl (fun wq hq => l_load one34LogicC rfl (by have hr := hr_hb.below hq; have hp := hp_hb.below hq; have hq := hq_hb.below hq; exact hp.cell 0)) hb ?_
  refine Wa.take (i := 2) #[false, true, true, false, false, false, false, false, false, false, false, false, false] rfl (by kernel_rfl) (fun _ _ _ h => h) rfl (fun wq hq => l_load one3LogicC rfl (by have hr := hr_hb.below hq; have hp := hp_hb.below hq; have hq := hq_hb.below hq; exact hq.cell 0)) hb ?_
  refine Wa.take (i := 3) #[false, true, true, true, false, false, false, false, false, false, false, false, false] rfl (by kernel_rfl) (fun _ _ _ h => h) rfl (fun wq hq => Yl.ld (y_slicelH Try.underlying34 sz37LogicC rfl rfl (by omega) (by omega))) hb ?_
  refine Wa.take (i := 5) #[false, true, true, true, false, true, false, false, false, false, false, false, false] rfl (by kernel_rfl) (fun _ _ _ h => h) rfl (fun wq hq => Yl.ld (y_move rfl)) hb ?_
  refine Wa.take (i := 8) #[false, true, true, true, false, true, false, false, true, false, false, false, false] rfl (by kernel_rfl) (fun _ _ _ h => h) rfl (fun wq hq => l_load one34LogicC rfl (by have hr := hr_hb.below hq; have hp := hp_hb.below hq; have hq := hq_hb.below hq; exact hp.cell 0)) hb ?_
  refine Wa.take (i := 9) #[false, true, true, true, false, true, false, false, true, true, false, false, false] rfl (by kernel_rfl) (fun _ _ _ h => h) rfl (fun wq hq => l_load one3LogicC rfl (by have hr := hr_hb.below hq; have hp := hp_hb.below hq; have hq := hq_hb.below hq; exact hq.cell 0)) hb ?_
  refine Wa.take (i := 10) #[false, true, true, true, false, true, false, false, true, true, true, false, false] rfl (by kernel_rfl) (fun _ _ _ h => h) rfl (fun wq hq => Yl.ld (y_slicelL Try.underlying34 sz37LogicC rfl rfl (by omega) (by omega))) hb ?_
  refine Wa.some (rs := [0, 6]) (by kernel_rfl) rfl ?_
  refine Ws.cons #[true, true, true, true, false, true, false, false, true, true, true, false, false] rfl rfl (fun _ hK_11 => ?_) ?_
  · skip
    refine Wl.lit0N Try.underlying34 (by kernel_rfl) rfl ?_
    rintro g_b0 w_b0 hg_b0 hn_b0 hs_b0
    have hz_b0 := hs_b0.size
    have hb := hb.trans (hs_b0.mono hb.size)
    have hr := hr_hb.below hb
    have hp := hp_hb.below hb
    have hq := hq_hb.below hb
    have hB_b0 := hn_b0
    have hl_b0 := hB_b0.lt
    refine Wl.nil ?_
    refine Wq.back hK_11 hb ?_
    refine Wa.some (rs := [4, 6]) (by kernel_rfl) rfl ?_
    refine Ws.cons #[true, true, true, true, true, true, false, false, true, true, true, false, false] rfl rfl (fun _ hK_13 => ?_) ?_
    · skip
      have ho1 := hB_b0.own (base := w.heap.size) (n := 0) (sz := 1) (by omega) rfl (by decide)
      refine Wl.append (z := (.int .i64 0)) (sz := 1) (bytes := 8) Try.underlying34 (by kernel_rfl) rfl (by decide) _ rfl ho1 rfl (Rd.takeI hr hk) (i64s_one _) (by simp only [maxLen]; omega) (by omega) (by first | exact hb.size | omega) rfl ?_
      rintro v_b1 w_b1 hn_b1 hg_b1 ha_b1
      have hz_b1 := hg_b1.size
      have hb := hb.grown hg_b1 hb.size (fun k_ hk_ => by have := (own_ge ho1 k_ hk_).1; omega)
      have hr := hr_hb.below hb
      have hp := hp_hb.below hb
      have hq := hq_hb.below hb
      try have hB_b0 := Blk.grown hB_b0 hg_b1 (by first | assumption | (simp [Value.ownBlock]; omega))
      have ho1 := hn_b1
      refine Wl.nil ?_
      refine Wq.back hK_13 hb ?_
      refine Wa.some (rs := [6]) (by kernel_rfl) rfl ?_
      refine Ws.cons #[true, true, true, true, true, true, true, false, true, true, true, false, false] rfl rfl (fun _ hK_15 => ?_) ?_
      · skip
        refine Wl.litN (sz := 1) (vs := [_]) Try.underlying34 (by kernel_rfl) rfl rfl rfl rfl rfl rfl ?_
        rintro g_b2 w_b2 hg_b2 hn_b2 hs_b2
        have hz_b2 := hs_b2.size
        have hb := hb.trans (hs_b2.mono hb.size)
        have hr := hr_hb.below hb
        have hp := hp_hb.below hb
        have hq := hq_hb.below hb
        try have hB_b0 := Blk.below hB_b0 hs_b2
        try have ho1 := own_below ho1 hs_b2
        have hB_b2 := hn_b2
        have hl_b2 := hB_b2.lt
        refine Wl.nil ?_
        refine Wq.back hK_15 hb ?_
        refine Wa.some (rs := [7]) (by kernel_rfl) rfl ?_
        refine Ws.cons #[true, true, true, true, true, true, true, true, true, true, true, false, false] rfl rfl (fun _ hK_17 => ?_) ?_
        · skip
          refine Wl.append (z := (.int .i64 0)) (sz := 1) (bytes := 8) Try.underlying34 (by kernel_rfl) rfl (by decide) _ rfl ho1 rfl (Rd.blk (l := [x]) hB_b2 rfl) (i64s_one _) (by simp only [maxLen]; omega) (by omega) (by first | exact hb.size | omega) rfl ?_
          rintro v_b3 w_b3 hn_b3 hg_b3 ha_b3
          have hz_b3 := hg_b3.size
          have hb := hb.grown hg_b3 hb.size (fun k_ hk_ => by have := (own_ge ho1 k_ hk_).1; omega)
          have hr := hr_hb.below hb
          have hp := hp_hb.below hb
          have hq := hq_hb.below hb
          try have hB_b0 := Blk.grown hB_b0 hg_b3 (by first | assumption | (simp [Value.ownBlock]; omega))
          try have hB_b2 := Blk.grown hB_b2 hg_b3 (by first | assumption | (simp [Value.ownBlock]; omega))
          have ho1 := hn_b3
          refine Wl.nil ?_
          refine Wq.back hK_17 hb ?_
          refine Wa.some (rs := [11]) (by kernel_rfl) rfl ?_
          refine Ws.cons #[true, true, true, true, true, true, true, true, true, true, true, true, false] rfl rfl (fun _ hK_19 => ?_) ?_
          · skip
            refine Wl.append (z := (.int .i64 0)) (sz := 1) (bytes := 8) Try.underlying34 (by kernel_rfl) rfl (by decide) _ rfl ho1 rfl (Rd.dropI hr hk hc) (i64s_one _) (by simp only [maxLen]; omega) (by omega) (by first | exact hb.size | omega) rfl ?_
            rintro v_b4 w_b4 hn_b4 hg_b4 ha_b4
            have hz_b4 := hg_b4.size
            have hb := hb.grown hg_b4 hb.size (fun k_ hk_ => by have := (own_ge ho1 k_ hk_).1; omega)
            have hr := hr_hb.below hb
            have hp := hp_hb.below hb
            have hq := hq_hb.below hb
            try have hB_b0 := Blk.grown hB_b0 hg_b4 (by first | assumption | (simp [Value.ownBlock]; omega))
            try have hB_b2 := Blk.grown hB_b2 hg_b4 (by first | assumption | (simp [Value.ownBlock]; omega))
            have ho1 := hn_b4
            refine Wl.nil ?_
            refine Wq.back hK_19 hb ?_
            refine Wa.take (i := 12) #[true, true, true, true, true, true, true, true, true, true, true, true, true] rfl (by kernel_rfl) (fun _ _ _ h => h) rfl (fun wq hq => Yl.ld (y_assign rfl)) hb ?_
            refine Wa.done (by kernel_rfl) ?_
            refine Wq.next hK_3 ?_
            refine Wc.ret ?_
            refine ret1 rfl rfl ?_
            exact ⟨_, rfl, by
  obtain ⟨B, c', rfl, _, _⟩ := own_form ho1
  refine ⟨B, c', by rw [Int.toNat_natCast, show n + 1 = 0 + k + 1 + (n - k) by omega], ?_⟩
  have := Rd.of_own ho1
  rw [show n + 1 = 0 + k + 1 + (n - k) by omega]
  simpa [i64s_append, i64s] using this, hb⟩
          exact Ws.nil
        exact Ws.nil
      exact Ws.nil
    refine Ws.cons #[true, true, true, true, false, true, true, false, true, true, true, false, false] rfl rfl (fun _ hK_22 => ?_) ?_
    · skip
      refine Wl.litN (sz := 1) (vs := [_]) Try.underlying34 (by kernel_rfl) rfl rfl rfl rfl rfl rfl ?_
      rintro g_b2 w_b2 hg_b2 hn_b2 hs_b2
      have hz_b2 := hs_b2.size
      have hb := hb.trans (hs_b2.mono hb.size)
      have hr := hr_hb.below hb
      have hp := hp_hb.below hb
      have hq := hq_hb.below hb
      try have hB_b0 := Blk.below hB_b0 hs_b2
      have hB_b2 := hn_b2
      have hl_b2 := hB_b2.lt
      refine Wl.nil ?_
      refine Wq.back hK_22 hb ?_
      refine Wa.some (rs := [4]) (by kernel_rfl) rfl ?_
      refine Ws.cons #[true, true, true, true, true, true, true, false, true, true, true, false, false] rfl rfl (fun _ hK_24 => ?_) ?_
      · skip
        have ho1 := hB_b0.own (base := w.heap.size) (n := 0) (sz := 1) (by omega) rfl (by decide)
        refine Wl.append (z := (.int .i64 0)) (sz := 1) (bytes := 8) Try.underlying34 (by kernel_rfl) rfl (by decide) _ rfl ho1 rfl (Rd.takeI hr hk) (i64s_one _) (by simp only [maxLen]; omega) (by omega) (by first | exact hb.size | omega) rfl ?_
        rintro v_b1 w_b1 hn_b1 hg_b1 ha_b1
        have hz_b1 := hg_b1.size
        have hb := hb.grown hg_b1 hb.size (fun k_ hk_ => by have := (own_ge ho1 k_ hk_).1; omega)
        have hr := hr_hb.below hb
        have hp := hp_hb.below hb
        have hq := hq_hb.below hb
        try have hB_b0 := Blk.grown hB_b0 hg_b1 (by first | assumption | (simp [Value.ownBlock]; omega))
        try have hB_b2 := Blk.grown hB_b2 hg_b1 (by first | assumption | (simp [Value.ownBlock]; omega))
        have ho1 := hn_b1
        refine Wl.nil ?_
        refine Wq.back hK_24 hb ?_
        refine Wa.some (rs := [7]) (by kernel_rfl) rfl ?_
        refine Ws.cons #[true, true, true, true, true, true, true, true, true, true, true, false, false] rfl rfl (fun _ hK_26 => ?_) ?_
        · skip
          refine Wl.append (z := (.int .i64 0)) (sz := 1) (bytes := 8) Try.underlying34 (by kernel_rfl) rfl (by decide) _ rfl ho1 rfl (Rd.blk (l := [x]) hB_b2 rfl) (i64s_one _) (by simp only [maxLen]; omega) (by omega) (by first | exact hb.size | omega) rfl ?_
          rintro v_b3 w_b3 hn_b3 hg_b3 ha_b3
          have hz_b3 := hg_b3.size
          have hb := hb.grown hg_b3 hb.size (fun k_ hk_ => by have := (own_ge ho1 k_ hk_).1; omega)
          have hr := hr_hb.below hb
          have hp := hp_hb.below hb
          have hq := hq_hb.below hb
          try have hB_b0 := Blk.grown hB_b0 hg_b3 (by first | assumption | (simp [Value.ownBlock]; omega))
          try have hB_b2 := Blk.grown hB_b2 hg_b3 (by first | assumption | (simp [Value.ownBlock]; omega))
          have ho1 := hn_b3
          refine Wl.nil ?_
          refine Wq.back hK_26 hb ?_
          refine Wa.some (rs := [11]) (by kernel_rfl) rfl ?_
          refine Ws.cons #[true, true, true, true, true, true, true, true, true, true, true, true, false] rfl rfl (fun _ hK_28 => ?_) ?_
          · skip
            refine Wl.append (z := (.int .i64 0)) (sz := 1) (bytes := 8) Try.underlying34 (by kernel_rfl) rfl (by decide) _ rfl ho1 rfl (Rd.dropI hr hk hc) (i64s_one _) (by simp only [maxLen]; omega) (by omega) (by first | exact hb.size | omega) rfl ?_
            rintro v_b4 w_b4 hn_b4 hg_b4 ha_b4
            have hz_b4 := hg_b4.size
            have hb := hb.grown hg_b4 hb.size (fun k_ hk_ => by have := (own_ge ho1 k_ hk_).1; omega)
            have hr := hr_hb.below hb
            have hp := hp_hb.below hb
            have hq := hq_hb.below hb
            try have hB_b0 := Blk.grown hB_b0 hg_b4 (by first | assumption | (simp [Value.ownBlock]; omega))
            try have hB_b2 := Blk.grown hB_b2 hg_b4 (by first | assumption | (simp [Value.ownBlock]; omega))
            have ho1 := hn_b4
            refine Wl.nil ?_
            refine Wq.back hK_28 hb ?_
            refine Wa.take (i := 12) #[true, true, true, true, true, true, true, true, true, true, true, true, true] rfl (by kernel_rfl) (fun _ _ _ h => h) rfl (fun wq hq => Yl.ld (y_assign rfl)) hb ?_
            refine Wa.done (by kernel_rfl) ?_
            refine Wq.next hK_3 ?_
            refine Wc.ret ?_
            refine ret1 rfl rfl ?_
            exact ⟨_, rfl, by
  obtain ⟨B, c', rfl, _, _⟩ := own_form ho1
  refine ⟨B, c', by rw [Int.toNat_natCast, show n + 1 = 0 + k + 1 + (n - k) by omega], ?_⟩
  have := Rd.of_own ho1
  rw [show n + 1 = 0 + k + 1 + (n - k) by omega]
  simpa [i64s_append, i64s] using this, hb⟩
          exact Ws.nil
        exact Ws.nil
      exact Ws.nil
    exact Ws.nil
  refine Ws.cons #[false, true, true, true, false, true, true, false, true, true, true, false, false] rfl rfl (fun _ hK_31 => ?_) ?_
  · skip
    refine Wl.litN (sz := 1) (vs := [_]) Try.underlying34 (by kernel_rfl) rfl rfl rfl rfl rfl rfl ?_
    rintro g_b2 w_b2 hg_b2 hn_b2 hs_b2
    have hz_b2 := hs_b2.size
    have hb := hb.trans (hs_b2.mono hb.size)
    have hr := hr_hb.below hb
    have hp := hp_hb.below hb
    have hq := hq_hb.below hb
    have hB_b2 := hn_b2
    have hl_b2 := hB_b2.lt
    refine Wl.nil ?_
    refine Wq.back hK_31 hb ?_
    refine Wa.some (rs := [0]) (by kernel_rfl) rfl ?_
    refine Ws.cons #[true, true, true, true, false, true, true, false, true, true, true, false, false] rfl rfl (fun _ hK_33 => ?_) ?_
    · skip
      refine Wl.lit0N Try.underlying34 (by kernel_rfl) rfl ?_
      rintro g_b0 w_b0 hg_b0 hn_b0 hs_b0
      have hz_b0 := hs_b0.size
      have hb := hb.trans (hs_b0.mono hb.size)
      have hr := hr_hb.below hb
      have hp := hp_hb.below hb
      have hq := hq_hb.below hb
      try have hB_b2 := Blk.below hB_b2 hs_b0
      have hB_b0 := hn_b0
      have hl_b0 := hB_b0.lt
      refine Wl.nil ?_
      refine Wq.back hK_33 hb ?_
      refine Wa.some (rs := [4]) (by kernel_rfl) rfl ?_
      refine Ws.cons #[true, true, true, true, true, true, true, false, true, true, true, false, false] rfl rfl (fun _ hK_35 => ?_) ?_
      · skip
        have ho1 := hB_b0.own (base := w.heap.size) (n := 0) (sz := 1) (by omega) rfl (by decide)
        refine Wl.append (z := (.int .i64 0)) (sz := 1) (bytes := 8) Try.underlying34 (by kernel_rfl) rfl (by decide) _ rfl ho1 rfl (Rd.takeI hr hk) (i64s_one _) (by simp only [maxLen]; omega) (by omega) (by first | exact hb.size | omega) rfl ?_
        rintro v_b1 w_b1 hn_b1 hg_b1 ha_b1
        have hz_b1 := hg_b1.size
        have hb := hb.grown hg_b1 hb.size (fun k_ hk_ => by have := (own_ge ho1 k_ hk_).1; omega)
        have hr := hr_hb.below hb
        have hp := hp_hb.below hb
        have hq := hq_hb.below hb
        try have hB_b2 := Blk.grown hB_b2 hg_b1 (by first | assumption | (simp [Value.ownBlock]; omega))
        try have hB_b0 := Blk.grown hB_b0 hg_b1 (by first | assumption | (simp [Value.ownBlock]; omega))
        have ho1 := hn_b1
        refine Wl.nil ?_
        refine Wq.back hK_35 hb ?_
        refine Wa.some (rs := [7]) (by kernel_rfl) rfl ?_
        refine Ws.cons #[true, true, true, true, true, true, true, true, true, true, true, false, false] rfl rfl (fun _ hK_37 => ?_) ?_
        · skip
          refine Wl.append (z := (.int .i64 0)) (sz := 1) (bytes := 8) Try.underlying34 (by kernel_rfl) rfl (by decide) _ rfl ho1 rfl (Rd.blk (l := [x]) hB_b2 rfl) (i64s_one _) (by simp only [maxLen]; omega) (by omega) (by first | exact hb.size | omega) rfl ?_
          rintro v_b3 w_b3 hn_b3 hg_b3 ha_b3
          have hz_b3 := hg_b3.size
          have hb := hb.grown hg_b3 hb.size (fun k_ hk_ => by have := (own_ge ho1 k_ hk_).1; omega)
          have hr := hr_hb.below hb
          have hp := hp_hb.below hb
          have hq := hq_hb.below hb
          try have hB_b2 := Blk.grown hB_b2 hg_b3 (by first | assumption | (simp [Value.ownBlock]; omega))
          try have hB_b0 := Blk.grown hB_b0 hg_b3 (by first | assumption | (simp [Value.ownBlock]; omega))
          have ho1 := hn_b3
          refine Wl.nil ?_
          refine Wq.back hK_37 hb ?_
          refine Wa.some (rs := [11]) (by kernel_rfl) rfl ?_
          refine Ws.cons #[true, true, true, true, true, true, true, true, true, true, true, true, false] rfl rfl (fun _ hK_39 => ?_) ?_
          · skip
            refine Wl.append (z := (.int .i64 0)) (sz := 1) (bytes := 8) Try.underlying34 (by kernel_rfl) rfl (by decide) _ rfl ho1 rfl (Rd.dropI hr hk hc) (i64s_one _) (by simp only [maxLen]; omega) (by omega) (by first | exact hb.size | omega) rfl ?_
            rintro v_b4 w_b4 hn_b4 hg_b4 ha_b4
            have hz_b4 := hg_b4.size
            have hb := hb.grown hg_b4 hb.size (fun k_ hk_ => by have := (own_ge ho1 k_ hk_).1; omega)
            have hr := hr_hb.below hb
            have hp := hp_hb.below hb
            have hq := hq_hb.below hb
            try have hB_b2 := Blk.grown hB_b2 hg_b4 (by first | assumption | (simp [Value.ownBlock]; omega))
            try have hB_b0 := Blk.grown hB_b0 hg_b4 (by first | assumption | (simp [Value.ownBlock]; omega))
            have ho1 := hn_b4
            refine Wl.nil ?_
            refine Wq.back hK_39 hb ?_
            refine Wa.take (i := 12) #[true, true, true, true, true, true, true, true, true, true, true, true, true] rfl (by kernel_rfl) (fun _ _ _ h => h) rfl (fun wq hq => Yl.ld (y_assign rfl)) hb ?_
            refine Wa.done (by kernel_rfl) ?_
            refine Wq.next hK_3 ?_
            refine Wc.ret ?_
            refine ret1 rfl rfl ?_
            exact ⟨_, rfl, by
  obtain ⟨B, c', rfl, _, _⟩ := own_form ho1
  refine ⟨B, c', by rw [Int.toNat_natCast, show n + 1 = 0 + k + 1 + (n - k) by omega], ?_⟩
  have := Rd.of_own ho1
  rw [show n + 1 = 0 + k + 1 + (n - k) by omega]
  simpa [i64s_append, i64s] using this, hb⟩
          exact Ws.nil
        exact Ws.nil
      exact Ws.nil
    exact Ws.nil
  exact Ws.nil

theorem LogicTwice_r (A : Option Addr) (n c : Nat) (l : List Int) (x : Int) (w : World) (hl : n ≤ 35184372088832) (hc : n ≤ c) (hr : Rd w 1 A n (i64s l)) :
    Ret Try.prog 8 [.slice A n c, .int .i64 x] w fun v w' => v = .bool true ∧ Below w.heap.size w w' := by
  obtain ⟨m, hm⟩ : ∃ m, m = (min (n : Int) 50).toNat := ⟨_, rfl⟩
  obtain ⟨y, hy⟩ : ∃ y, y = (bits .and .i64 x 255).tmod 3 := ⟨_, rfl⟩
  have hy3 : y = 0 ∨ y = 1 ∨ y = 2 := three_of hy
  have hb := Below.refl w.heap.size w
  have hr_hb := hr
  refine enter Try.func8 rfl rfl rfl ?_
  refine Wc.seq fun _ hK_1 => ?_
  refine Wc.region ?_
  refine Wl.y (y_assign rfl) rfl ?_
  refine Wl.nil ?_
  refine Wq.next hK_1 ?_
  refine Wc.seq fun _ hK_3 => ?_
  refine Wc.region ?_
  refine Wl.call txt17LogicC rfl rfl (shown_r _) rfl ?_
  rintro _ w_k0 ⟨rfl, hs_k0⟩
  have hz_k0 := hs_k0.size
  have hb := hb.trans (hs_k0.mono hb.size)
  have hr := hr_hb.below hb
  refine Wl.y (y_assign rfl) rfl ?_
  refine Wl.nil ?_
  refine Wq.next hK_3 ?_
  refine Wc.seq fun _ hK_6 => ?_
  refine Wc.region ?_
  refine Wl.y (y_move rfl) rfl ?_
  refine Wl.y (y_move rfl) rfl ?_
  refine Wl.y (y_lenl Try.underlying33 (by omega) rfl) rfl ?_
  refine Wl.y (y_min rfl rfl) rfl ?_
  refine Wl.y (y_slicelH Try.underlying33 sz3LogicC rfl rfl (by omega) (by omega)) rfl ?_
  rw [← hm]
  refine Wl.call txt18LogicC rfl rfl (truths_r _ _ _ (l.take m) _ (by omega) (by omega) (Rd.takeI hr (by omega))) rfl ?_
  rintro _ w_k1 ⟨⟨p, u, hp, ho1, rfl⟩, hs_k1⟩
  have hz_k1 := hs_k1.size
  have hb := hb.trans (hs_k1.mono hb.size)
  have hr := hr_hb.below hb
  obtain rfl : p = m := by omega
  rw [List.take_of_length_le (by simp; omega)] at ho1
  obtain ⟨B, cb, rfl, hcb, _⟩ := own_form ho1
  have hx := Rd.of_own ho1
  have hb2 := Below.refl w_k1.heap.size w_k1
  have hx_hb2 := hx
  refine Wl.y (y_move rfl) rfl ?_
  refine Wl.y (y_extract rfl rfl) rfl ?_
  refine Wl.y (y_extract rfl rfl) rfl ?_
  refine Wl.y (y_assign rfl) rfl ?_
  refine Wl.y (y_assign rfl) rfl ?_
  refine Wl.nil ?_
  refine Wq.next hK_6 ?_
  refine Wc.seq fun _ hK_18 => ?_
  refine Wc.region ?_
  refine Wl.lit0N Try.underlying34 (by kernel_rfl) rfl ?_
  rintro g_b2 w_b2 hg_b2 hn_b2 hs_b2
  have hz_b2 := hs_b2.size
  have hb := hb.trans (hs_b2.mono hb.size)
  have hr := hr_hb.below hb
  have hb2 := hb2.trans (hs_b2.mono hb2.size)
  have hx := hx_hb2.below hb2
  have hB_b2 := hn_b2
  have hl_b2 := hB_b2.lt
  refine Wl.y (y_move rfl) rfl ?_
  have ho3 := hB_b2.own (base := w_k1.heap.size) (n := 0) (sz := 1) (by omega) rfl (by decide)
  refine Wl.append (z := (.int .i64 0)) (sz := 1) (bytes := 8) Try.underlying34 (by kernel_rfl) rfl (by decide) _ rfl ho3 rfl hx (i64s_one _) (by simp only [maxLen]; omega) (by omega) (by first | exact hb.size | omega) rfl ?_
  rintro v_b3 w_b3 hn_b3 hg_b3 ha_b3
  have hz_b3 := hg_b3.size
  have hb := hb.grown hg_b3 hb.size (fun k_ hk_ => by have := (own_ge ho3 k_ hk_).1; omega)
  have hr := hr_hb.below hb
  have hb2 := hb2.grown hg_b3 hb2.size (fun k_ hk_ => by have := (own_ge ho3 k_ hk_).1; omega)
  have hx := hx_hb2.below hb2
  try have hB_b2 := Blk.grown hB_b2 hg_b3 (by first | assumption | (simp [Value.ownBlock]; omega))
  have ho3 := hn_b3
  refine Wl.y (y_move rfl) rfl ?_
  refine Wl.append (z := (.int .i64 0)) (sz := 1) (bytes := 8) Try.underlying34 (by kernel_rfl) rfl (by decide) _ rfl ho3 rfl hx (i64s_one _) (by simp only [maxLen]; omega) (by omega) (by first | exact hb.size | omega) rfl ?_
  rintro v_b4 w_b4 hn_b4 hg_b4 ha_b4
  have hz_b4 := hg_b4.size
  have hb := hb.grown hg_b4 hb.size (fun k_ hk_ => by have := (own_ge ho3 k_ hk_).1; omega)
  have hr := hr_hb.below hb
  have hb2 := hb2.grown hg_b4 hb2.size (fun k_ hk_ => by have := (own_ge ho3 k_ hk_).1; omega)
  have hx := hx_hb2.below hb2
  try have hB_b2 := Blk.grown hB_b2 hg_b4 (by first | assumption | (simp [Value.ownBlock]; omega))
  have ho3 := hn_b4
  rw [List.nil_append, ← i64s_append] at ho3
  obtain ⟨B3, c3, rfl, _, _⟩ := own_form ho3
  have ha := Rd.of_own ho3
  refine Wl.y (y_assign rfl) rfl ?_
  refine Wl.nil ?_
  refine Wq.next hK_18 ?_
  refine Wc.seq fun _ hK_25 => ?_
  refine Wc.region ?_
  refine Wl.y (y_move rfl) rfl ?_
  refine Wl.y (y_and rfl rfl) rfl ?_
  refine Wl.y (y_rem rfl rfl (by first | decide | omega)) rfl ?_
  refine Wl.y (y_assign rfl) rfl ?_
  refine Wl.nil ?_
  refine Wq.next hK_25 ?_
  refine Wc.seq fun _ hK_30 => ?_
  rw [← hy]
  refine Wc.region ?_
  refine Wl.y (y_move rfl) rfl ?_
  refine Wl.y (y_move rfl) rfl ?_
  refine Wl.guardT rfl rfl rfl (fun g_33 => ?_) (fun g_33 => ?_)
  · skip
    have g_33_ := g_33
    try simp only [decide_eq_true_eq, decide_eq_false_iff_not, beq_iff_eq, beq_eq_false_iff_ne, bne_iff_ne, bne_eq_false_iff_eq, Bool.not_eq_true', Bool.not_eq_false', Bool.not_eq_eq_eq_not, Bool.not_true, Bool.not_false, ne_eq, Int.not_lt, Int.not_le] at g_33
    refine Wl.y (y_move rfl) rfl ?_
    refine Wl.on' rfl rfl g_33_ ?_
    refine Wl.call txt19LogicC rfl rfl (And_r _ _ _ _ _ (by omega) ha) rfl ?_
    rintro _ _ ⟨rfl, rfl⟩
    refine Wl.on' rfl rfl g_33_ ?_
    refine Wl.y (y_move rfl) rfl ?_
    refine Wl.on' rfl rfl g_33_ ?_
    refine Wl.call txt19LogicC rfl rfl (And_r _ _ _ _ _ (by omega) hx) rfl ?_
    rintro _ _ ⟨rfl, rfl⟩
    refine Wl.on' rfl rfl g_33_ ?_
    refine Wl.y (y_eqli rfl rfl) rfl ?_
    refine Wl.y (y_pickT rfl g_33_ rfl) rfl ?_
    refine Wl.y (y_move rfl) rfl ?_
    refine Wl.guardT rfl rfl rfl (fun g_41 => ?_) (fun g_41 => ?_)
    · skip
      have g_41_ := g_41
      try simp only [decide_eq_true_eq, decide_eq_false_iff_not, beq_iff_eq, beq_eq_false_iff_ne, bne_iff_ne, bne_eq_false_iff_eq, Bool.not_eq_true', Bool.not_eq_false', Bool.not_eq_eq_eq_not, Bool.not_true, Bool.not_false, ne_eq, Int.not_lt, Int.not_le] at g_41
      refine Wl.y (y_move rfl) rfl ?_
      refine Wl.on' rfl rfl g_41_ ?_
      refine Wl.call txt20LogicC rfl rfl (Or_r _ _ _ _ _ (by omega) ha) rfl ?_
      rintro _ w_k4 ⟨rfl, hs_k4⟩
      have hz_k4 := hs_k4.size
      have hb := hb.trans (hs_k4.mono hb.size)
      have hr := hr_hb.below hb
      have hb2 := hb2.trans (hs_k4.mono hb2.size)
      have hx := hx_hb2.below hb2
      try have hB_b2 := Blk.below hB_b2 hs_k4
      try have ho3 := own_below ho3 hs_k4
      try have ha := Rd.below ha hs_k4
      refine Wl.on' rfl rfl g_41_ ?_
      refine Wl.y (y_move rfl) rfl ?_
      refine Wl.on' rfl rfl g_41_ ?_
      refine Wl.call txt20LogicC rfl rfl (Or_r _ _ _ _ _ (by omega) hx) rfl ?_
      rintro _ w_k5 ⟨rfl, hs_k5⟩
      have hz_k5 := hs_k5.size
      have hb := hb.trans (hs_k5.mono hb.size)
      have hr := hr_hb.below hb
      have hb2 := hb2.trans (hs_k5.mono hb2.size)
      have hx := hx_hb2.below hb2
      try have hB_b2 := Blk.below hB_b2 hs_k5
      try have ho3 := own_below ho3 hs_k5
      try have ha := Rd.below ha hs_k5
      refine Wl.on' rfl rfl g_41_ ?_
      refine Wl.y (y_eqli rfl rfl) rfl ?_
      refine Wl.y (y_pickT rfl g_41_ rfl) rfl ?_
      refine Wl.y (y_move rfl) rfl ?_
      refine Wl.guardT rfl rfl rfl (fun g_49 => ?_) (fun g_49 => ?_)
      · skip
        have g_49_ := g_49
        try simp only [decide_eq_true_eq, decide_eq_false_iff_not, beq_iff_eq, beq_eq_false_iff_ne, bne_iff_ne, bne_eq_false_iff_eq, Bool.not_eq_true', Bool.not_eq_false', Bool.not_eq_eq_eq_not, Bool.not_true, Bool.not_false, ne_eq, Int.not_lt, Int.not_le] at g_49
        refine Wl.y (y_move rfl) rfl ?_
        refine Wl.on' rfl rfl g_49_ ?_
        refine Wl.litN (sz := 1) (vs := [_]) Try.underlying34 (by kernel_rfl) rfl rfl rfl rfl rfl rfl ?_
        rintro g_b5 w_b5 hg_b5 hn_b5 hs_b5
        have hz_b5 := hs_b5.size
        have hb := hb.trans (hs_b5.mono hb.size)
        have hr := hr_hb.below hb
        have hb2 := hb2.trans (hs_b5.mono hb2.size)
        have hx := hx_hb2.below hb2
        try have hB_b2 := Blk.below hB_b2 hs_b5
        try have ho3 := own_below ho3 hs_b5
        try have ha := Rd.below ha hs_b5
        have hB_b5 := hn_b5
        have hl_b5 := hB_b5.lt
        refine Wl.on' rfl rfl g_49_ ?_
        refine Wl.call txt19LogicC rfl rfl (And_r _ _ _ [_] _ (by omega) (Rd.blk hB_b5 rfl)) rfl ?_
        rintro _ _ ⟨rfl, rfl⟩
        refine Wl.on' rfl rfl g_49_ ?_
        refine Wl.y (y_move rfl) rfl ?_
        refine Wl.on' rfl rfl g_49_ ?_
        refine Wl.y (y_eqli rfl rfl) rfl ?_
        refine Wl.y (y_pickT rfl g_49_ rfl) rfl ?_
        refine Wl.y (y_move rfl) rfl ?_
        refine Wl.guardT rfl rfl rfl (fun g_57 => ?_) (fun g_57 => ?_)
        · skip
          have g_57_ := g_57
          try simp only [decide_eq_true_eq, decide_eq_false_iff_not, beq_iff_eq, beq_eq_false_iff_ne, bne_iff_ne, bne_eq_false_iff_eq, Bool.not_eq_true', Bool.not_eq_false', Bool.not_eq_eq_eq_not, Bool.not_true, Bool.not_false, ne_eq, Int.not_lt, Int.not_le] at g_57
          refine Wl.y (y_move rfl) rfl ?_
          refine Wl.on' rfl rfl g_57_ ?_
          refine Wl.litN (sz := 1) (vs := [_]) Try.underlying34 (by kernel_rfl) rfl rfl rfl rfl rfl rfl ?_
          rintro g_b6 w_b6 hg_b6 hn_b6 hs_b6
          have hz_b6 := hs_b6.size
          have hb := hb.trans (hs_b6.mono hb.size)
          have hr := hr_hb.below hb
          have hb2 := hb2.trans (hs_b6.mono hb2.size)
          have hx := hx_hb2.below hb2
          try have hB_b2 := Blk.below hB_b2 hs_b6
          try have ho3 := own_below ho3 hs_b6
          try have ha := Rd.below ha hs_b6
          try have hB_b5 := Blk.below hB_b5 hs_b6
          have hB_b6 := hn_b6
          have hl_b6 := hB_b6.lt
          refine Wl.on' rfl rfl g_57_ ?_
          refine Wl.call txt20LogicC rfl rfl (Or_r _ _ _ [_] _ (by omega) (Rd.blk hB_b6 rfl)) rfl ?_
          rintro _ w_k7 ⟨rfl, hs_k7⟩
          have hz_k7 := hs_k7.size
          have hb := hb.trans (hs_k7.mono hb.size)
          have hr := hr_hb.below hb
          have hb2 := hb2.trans (hs_k7.mono hb2.size)
          have hx := hx_hb2.below hb2
          try have hB_b2 := Blk.below hB_b2 hs_k7
          try have ho3 := own_below ho3 hs_k7
          try have ha := Rd.below ha hs_k7
          try have hB_b5 := Blk.below hB_b5 hs_k7
          try have hB_b6 := Blk.below hB_b6 hs_k7
          refine Wl.on' rfl rfl g_57_ ?_
          refine Wl.y (y_move rfl) rfl ?_
          refine Wl.on' rfl rfl g_57_ ?_
          refine Wl.y (y_eqli rfl rfl) rfl ?_
          refine Wl.y (y_pickT rfl g_57_ rfl) rfl ?_
          refine Wl.y (y_assign rfl) rfl ?_
          refine Wl.nil ?_
          refine Wq.next hK_30 ?_
          refine Wc.ret ?_
          refine ret1 rfl rfl ?_
          exact ⟨_, rfl, by rw [orT_one_of hy3]; simp, hb⟩
        · skip
          have g_57_ := g_57
          try simp only [decide_eq_true_eq, decide_eq_false_iff_not, beq_iff_eq, beq_eq_false_iff_ne, bne_iff_ne, bne_eq_false_iff_eq, Bool.not_eq_true', Bool.not_eq_false', Bool.not_eq_eq_eq_not, Bool.not_true, Bool.not_false, ne_eq, Int.not_lt, Int.not_le] at g_57
          exact absurd (andT_one_of hy3) g_57
      · skip
        have g_49_ := g_49
        try simp only [decide_eq_true_eq, decide_eq_false_iff_not, beq_iff_eq, beq_eq_false_iff_ne, bne_iff_ne, bne_eq_false_iff_eq, Bool.not_eq_true', Bool.not_eq_false', Bool.not_eq_eq_eq_not, Bool.not_true, Bool.not_false, ne_eq, Int.not_lt, Int.not_le] at g_49
        exact absurd (orT_twice _) g_49
    · skip
      have g_41_ := g_41
      try simp only [decide_eq_true_eq, decide_eq_false_iff_not, beq_iff_eq, beq_eq_false_iff_ne, bne_iff_ne, bne_eq_false_iff_eq, Bool.not_eq_true', Bool.not_eq_false', Bool.not_eq_eq_eq_not, Bool.not_true, Bool.not_false, ne_eq, Int.not_lt, Int.not_le] at g_41
      exact absurd (andT_twice _) g_41
  · skip
    have g_33_ := g_33
    try simp only [decide_eq_true_eq, decide_eq_false_iff_not, beq_iff_eq, beq_eq_false_iff_ne, bne_iff_ne, bne_eq_false_iff_eq, Bool.not_eq_true', Bool.not_eq_false', Bool.not_eq_eq_eq_not, Bool.not_true, Bool.not_false, ne_eq, Int.not_lt, Int.not_le] at g_33
    cases g_33

theorem LogicNeutral_r (A : Option Addr) (n c : Nat) (l : List Int) (x : Int) (w : World) (hl : n ≤ 35184372088832) (hc : n ≤ c) (hr : Rd w 1 A n (i64s l)) :
    Ret Try.prog 7 [.slice A n c, .int .i64 x] w fun v w' => v = .bool true ∧ Below w.heap.size w w' := by
  have hn := len_of hr
  have hb := Below.refl w.heap.size w
  have hr_hb := hr
  refine enter Try.func7 rfl rfl rfl ?_
  refine Wc.seq fun _ hK_1 => ?_
  refine Wc.region ?_
  refine Wl.y (y_assign rfl) rfl ?_
  refine Wl.nil ?_
  refine Wq.next hK_1 ?_
  refine Wc.seq fun _ hK_3 => ?_
  refine Wc.region ?_
  refine Wl.call txt17LogicC rfl rfl (shown_r _) rfl ?_
  rintro _ w_k0 ⟨rfl, hs_k0⟩
  have hz_k0 := hs_k0.size
  have hb := hb.trans (hs_k0.mono hb.size)
  have hr := hr_hb.below hb
  refine Wl.y (y_assign rfl) rfl ?_
  refine Wl.nil ?_
  refine Wq.next hK_3 ?_
  refine Wc.seq fun _ hK_6 => ?_
  refine Wc.region ?_
  refine Wl.y (y_move rfl) rfl ?_
  refine Wl.call txt18LogicC rfl rfl (truths_r _ _ _ l _ (by omega) (by omega) hr) rfl ?_
  rintro _ w_k1 ⟨⟨p, u, hp, ho1, rfl⟩, hs_k1⟩
  have hz_k1 := hs_k1.size
  have hb := hb.trans (hs_k1.mono hb.size)
  have hr := hr_hb.below hb
  obtain ⟨B, cb, rfl, hcb, _⟩ := own_form ho1
  have hx := Rd.of_own ho1
  have hl1 : (l.take p).length = p := by simp; omega
  have hb2 := Below.refl w_k1.heap.size w_k1
  have hx_hb2 := hx
  refine Wl.y (y_move rfl) rfl ?_
  refine Wl.y (y_extract rfl rfl) rfl ?_
  refine Wl.y (y_extract rfl rfl) rfl ?_
  refine Wl.allocN (z := (.slice none 0 0)) (by kernel_rfl) rfl ?_
  rintro g_o6 w_o6 hg_o6 hn_o6 hs_o6
  have hz_o6 := hs_o6.size
  have hb := hb.trans (hs_o6.mono hb.size)
  have hr := hr_hb.below hb
  have hb2 := hb2.trans (hs_o6.mono hb2.size)
  have hx := hx_hb2.below hb2
  have hB_o6 := hn_o6
  have hl_o6 := hB_o6.lt
  refine Wl.store1 one34LogicC rfl rfl rfl hB_o6 ?_
  rintro w_s0 hn_s0 hg_s0
  have hz_s0 := hg_s0.size
  have hb := below_blk hb hg_s0 hb.size (by omega)
  have hr := hr_hb.below hb
  have hb2 := below_blk hb2 hg_s0 hb2.size (by omega)
  have hx := hx_hb2.below hb2
  have hB_o6 := hn_s0
  refine Wl.y (y_assign rfl) rfl ?_
  refine Wl.nil ?_
  refine Wq.next hK_6 ?_
  refine Wc.seq fun _ hK_14 => ?_
  refine Wc.region ?_
  refine Wl.y (y_move rfl) rfl ?_
  refine Wl.y (y_and rfl rfl) rfl ?_
  refine Wl.l (l_load one34LogicC rfl (by first | exact hB_o6.at rfl | exact hB_o6.cell 0 | assumption)) rfl ?_
  refine Wl.y (y_lenl Try.underlying34 (by omega) rfl) rfl ?_
  refine Wl.y (y_addI rfl rfl (by first | omega | simp; omega) (by first | omega | simp; omega)) rfl ?_
  obtain ⟨k, hk, hkp⟩ : ∃ k : Nat, (bits .and .i64 x 255).tmod ((p : Int) + 1) = k ∧ k ≤ p := upto_of x p (by omega)
  refine Wl.y (y_rem rfl rfl (by first | decide | omega)) rfl ?_
  rw [hk]
  refine Wl.allocN (z := (.int .i64 0)) (by kernel_rfl) rfl ?_
  rintro g_o12 w_o12 hg_o12 hn_o12 hs_o12
  have hz_o12 := hs_o12.size
  have hb := hb.trans (hs_o12.mono hb.size)
  have hr := hr_hb.below hb
  have hb2 := hb2.trans (hs_o12.mono hb2.size)
  have hx := hx_hb2.below hb2
  try have hB_o6 := Blk.below hB_o6 hs_o12
  have hB_o12 := hn_o12
  have hl_o12 := hB_o12.lt
  refine Wl.store1 one3LogicC rfl rfl rfl hB_o12 ?_
  rintro w_s1 hn_s1 hg_s1
  have hz_s1 := hg_s1.size
  have hb := below_blk hb hg_s1 hb.size (by omega)
  have hr := hr_hb.below hb
  have hb2 := below_blk hb2 hg_s1 hb2.size (by omega)
  have hx := hx_hb2.below hb2
  try have hB_o6 := Blk.grown hB_o6 hg_s1 (by first | assumption | (simp [Value.ownBlock]; omega))
  have hB_o12 := hn_s1
  refine Wl.nil ?_
  refine Wq.next hK_14 ?_
  refine Wc.seq fun _ hK_22 => ?_
  have hb3 := Below.refl w_s1.heap.size w_s1
  have hB_o6_hb3 := hB_o6
  have hB_o12_hb3 := hB_o12
  refine Wc.region ?_
  refine Wl.y (y_makeFunc rfl rfl) rfl ?_
  refine Wl.y (y_assign rfl) rfl ?_
  refine Wl.nil ?_
  refine Wq.next hK_22 ?_
  refine Wc.seq fun _ hK_25 => ?_
  refine Wc.any (n := 30) (fun w' => Below w_s1.heap.size w_s1 w') #[false, false, false, false, false, false, false, false, false, false, false, false, false, false, false, false, false, false, false, false, false, false, false, false, false, false, false, false, false, false] (by kernel_rfl) rfl (by kernel_rfl) ?_
  refine Wa.drew ?_
  rintro w_g5 hs_g5
  have hz_g5 := hs_g5.size
  have hb := hb.trans (hs_g5.mono hb.size)
  have hr := hr_hb.below hb
  have hb2 := hb2.trans (hs_g5.mono hb2.size)
  have hx := hx_hb2.below hb2
  have hb3 := hb3.trans (hs_g5.mono hb3.size)
  have hB_o6 := hB_o6_hb3.below hb3
  have hB_o12 := hB_o12_hb3.below hb3
  refine Wa.take (i := 0) #[true, false, false, false, false, false, false, false, false, false, false, false, false, false, false, false, false, false, false, false, false, false, false, false, false, false, false, false, false, false] rfl (by kernel_rfl) (fun _ _ _ h => h) rfl (fun wq hq => Yl.ld (y_move rfl)) hb3 ?_
  refine Wa.take (i := 1) #[true, true, false, false, false, false, false, false, false, false, false, false, false, false, false, false, false, false, false, false, false, false, false, false, false, false, false, false, false, false] rfl (by kernel_rfl) (fun _ _ _ h => h) rfl (fun wq hq => Yl.ld (y_move rfl)) hb3 ?_
  refine Wa.split (s := 24) rfl (fun g_28 => ?_) (fun g_28 => ?_)
  · skip
    have g_28_ := g_28
    try simp only [decide_eq_true_eq, decide_eq_false_iff_not, beq_iff_eq, beq_eq_false_iff_ne, bne_iff_ne, bne_eq_false_iff_eq, Bool.not_eq_true', Bool.not_eq_false', Bool.not_eq_eq_eq_not, Bool.not_true, Bool.not_false, ne_eq, Int.not_lt, Int.not_le] at g_28
    refine Wa.takeOn (i := 2) #[true, true, true, false, false, false, false, false, false, false, false, false, false, false, false, false, false, false, false, false, false, false, false, false, false, false, false, false, false, false] rfl rfl rfl g_28_ (by kernel_rfl) (fun _ _ _ h => h) rfl (fun wq hq => Yl.ld (y_move rfl)) hb3 ?_
    refine Wa.takeOn (i := 5) #[true, true, true, false, false, true, false, false, false, false, false, false, false, false, false, false, false, false, false, false, false, false, false, false, false, false, false, false, false, false] rfl rfl rfl g_28_ (by kernel_rfl) (fun _ _ _ h => h) rfl (fun wq hq => l_load one34LogicC rfl (by have hB_o6 := hB_o6_hb3.below hq; have hB_o12 := hB_o12_hb3.below hq; first | exact hB_o6.at rfl | exact hB_o12.at rfl | exact hB_o6.cell 0 | exact hB_o12.cell 0 | assumption)) hb3 ?_
    refine Wa.some (rs := [3]) (by kernel_rfl) rfl ?_
    refine Ws.cons #[true, true, true, true, false, true, false, false, false, false, false, false, false, false, false, false, false, false, false, false, false, false, false, false, false, false, false, false, false, false] rfl rfl (fun _ hK_31 => ?_) ?_
    · skip
      refine Wl.on' rfl rfl g_28_ ?_
      refine Wl.call txt21LogicC rfl rfl (clos_r 1 B p cb (l.take p) k _ _ _ (by omega) hcb hkp hx hB_o6 hB_o12) rfl ?_
      rintro _ w_k2 ⟨⟨B2, c2, rfl, hr2⟩, hs_k2⟩
      have hz_k2 := hs_k2.size
      have hb := hb.trans (hs_k2.mono hb.size)
      have hr := hr_hb.below hb
      have hb2 := hb2.trans (hs_k2.mono hb2.size)
      have hx := hx_hb2.below hb2
      have hb3 := hb3.trans (hs_k2.mono hb3.size)
      have hB_o6 := hB_o6_hb3.below hb3
      have hB_o12 := hB_o12_hb3.below hb3
      refine Wl.nil ?_
      refine Wq.back hK_31 hb3 ?_
      refine Wa.some (rs := [4]) (by kernel_rfl) rfl ?_
      refine Ws.cons #[true, true, true, true, true, true, false, false, false, false, false, false, false, false, false, false, false, false, false, false, false, false, false, false, false, false, false, false, false, false] rfl rfl (fun _ hK_33 => ?_) ?_
      · skip
        refine Wl.on' rfl rfl g_28_ ?_
        refine Wl.call txt19LogicC rfl rfl (And_r _ _ _ _ _ (by omega) hr2) rfl ?_
        rintro _ _ ⟨rfl, rfl⟩
        refine Wl.nil ?_
        refine Wq.back hK_33 hb3 ?_
        refine Wa.some (rs := [6]) (by kernel_rfl) rfl ?_
        refine Ws.cons #[true, true, true, true, true, true, true, false, false, false, false, false, false, false, false, false, false, false, false, false, false, false, false, false, false, false, false, false, false, false] rfl rfl (fun _ hK_35 => ?_) ?_
        · skip
          refine Wl.on' rfl rfl g_28_ ?_
          refine Wl.call txt19LogicC rfl rfl (And_r _ _ _ _ _ (by omega) hx) rfl ?_
          rintro _ _ ⟨rfl, rfl⟩
          refine Wl.nil ?_
          refine Wq.back hK_35 hb3 ?_
          refine Wa.takeOn (i := 7) #[true, true, true, true, true, true, true, true, false, false, false, false, false, false, false, false, false, false, false, false, false, false, false, false, false, false, false, false, false, false] rfl rfl rfl g_28_ (by kernel_rfl) (fun _ _ _ h => h) rfl (fun wq hq => Yl.ld (y_eqli rfl rfl)) hb3 ?_
          refine Wa.take (i := 8) #[true, true, true, true, true, true, true, true, true, false, false, false, false, false, false, false, false, false, false, false, false, false, false, false, false, false, false, false, false, false] rfl (by kernel_rfl) (fun _ _ _ h => h) rfl (fun wq hq => Yl.ld (y_pickT rfl g_28_ rfl)) hb3 ?_
          refine Wa.take (i := 9) #[true, true, true, true, true, true, true, true, true, true, false, false, false, false, false, false, false, false, false, false, false, false, false, false, false, false, false, false, false, false] rfl (by kernel_rfl) (fun _ _ _ h => h) rfl (fun wq hq => Yl.ld (y_move rfl)) hb3 ?_
          refine Wa.split (s := 32) rfl (fun g_40 => ?_) (fun g_40 => ?_)
          · skip
            have g_40_ := g_40
            try simp only [decide_eq_true_eq, decide_eq_false_iff_not, beq_iff_eq, beq_eq_false_iff_ne, bne_iff_ne, bne_eq_false_iff_eq, Bool.not_eq_true', Bool.not_eq_false', Bool.not_eq_eq_eq_not, Bool.not_true, Bool.not_false, ne_eq, Int.not_lt, Int.not_le] at g_40
            refine Wa.takeOn (i := 10) #[true, true, true, true, true, true, true, true, true, true, true, false, false, false, false, false, false, false, false, false, false, false, false, false, false, false, false, false, false, false] rfl rfl rfl g_40_ (by kernel_rfl) (fun _ _ _ h => h) rfl (fun wq hq => Yl.ld (y_move rfl)) hb3 ?_
            refine Wa.takeOn (i := 13) #[true, true, true, true, true, true, true, true, true, true, true, false, false, true, false, false, false, false, false, false, false, false, false, false, false, false, false, false, false, false] rfl rfl rfl g_40_ (by kernel_rfl) (fun _ _ _ h => h) rfl (fun wq hq => l_load one34LogicC rfl (by have hB_o6 := hB_o6_hb3.below hq; have hB_o12 := hB_o12_hb3.below hq; first | exact hB_o6.at rfl | exact hB_o12.at rfl | exact hB_o6.cell 0 | exact hB_o12.cell 0 | assumption)) hb3 ?_
            refine Wa.some (rs := [11]) (by kernel_rfl) rfl ?_
            refine Ws.cons #[true, true, true, true, true, true, true, true, true, true, true, true, false, true, false, false, false, false, false, false, false, false, false, false, false, false, false, false, false, false] rfl rfl (fun _ hK_43 => ?_) ?_
            · skip
              refine Wl.on' rfl rfl g_40_ ?_
              refine Wl.call txt21LogicC rfl rfl (clos_r 0 B p cb (l.take p) k _ _ _ (by omega) hcb hkp hx hB_o6 hB_o12) rfl ?_
              rintro _ w_k5 ⟨⟨B3, c3, rfl, hr3⟩, hs_k5⟩
              have hz_k5 := hs_k5.size
              have hb := hb.trans (hs_k5.mono hb.size)
              have hr := hr_hb.below hb
              have hb2 := hb2.trans (hs_k5.mono hb2.size)
              have hx := hx_hb2.below hb2
              have hb3 := hb3.trans (hs_k5.mono hb3.size)
              have hB_o6 := hB_o6_hb3.below hb3
              have hB_o12 := hB_o12_hb3.below hb3
              try have hr2 := Rd.below hr2 hs_k5
              refine Wl.nil ?_
              refine Wq.back hK_43 hb3 ?_
              refine Wa.some (rs := [12]) (by kernel_rfl) rfl ?_
              refine Ws.cons #[true, true, true, true, true, true, true, true, true, true, true, true, true, true, false, false, false, false, false, false, false, false, false, false, false, false, false, false, false, false] rfl rfl (fun _ hK_45 => ?_) ?_
              · skip
                refine Wl.on' rfl rfl g_40_ ?_
                refine Wl.call txt20LogicC rfl rfl (Or_r _ _ _ _ _ (by omega) hr3) rfl ?_
                rintro _ w_k6 ⟨rfl, hs_k6⟩
                have hz_k6 := hs_k6.size
                have hb := hb.trans (hs_k6.mono hb.size)
                have hr := hr_hb.below hb
                have hb2 := hb2.trans (hs_k6.mono hb2.size)
                have hx := hx_hb2.below hb2
                have hb3 := hb3.trans (hs_k6.mono hb3.size)
                have hB_o6 := hB_o6_hb3.below hb3
                have hB_o12 := hB_o12_hb3.below hb3
                try have hr2 := Rd.below hr2 hs_k6
                try have hr3 := Rd.below hr3 hs_k6
                refine Wl.nil ?_
                refine Wq.back hK_45 hb3 ?_
                refine Wa.some (rs := [14]) (by kernel_rfl) rfl ?_
                refine Ws.cons #[true, true, true, true, true, true, true, true, true, true, true, true, true, true, true, false, false, false, false, false, false, false, false, false, false, false, false, false, false, false] rfl rfl (fun _ hK_47 => ?_) ?_
                · skip
                  refine Wl.on' rfl rfl g_40_ ?_
                  refine Wl.call txt20LogicC rfl rfl (Or_r _ _ _ _ _ (by omega) hx) rfl ?_
                  rintro _ w_k7 ⟨rfl, hs_k7⟩
                  have hz_k7 := hs_k7.size
                  have hb := hb.trans (hs_k7.mono hb.size)
                  have hr := hr_hb.below hb
                  have hb2 := hb2.trans (hs_k7.mono hb2.size)
                  have hx := hx_hb2.below hb2
                  have hb3 := hb3.trans (hs_k7.mono hb3.size)
                  have hB_o6 := hB_o6_hb3.below hb3
                  have hB_o12 := hB_o12_hb3.below hb3
                  try have hr2 := Rd.below hr2 hs_k7
                  try have hr3 := Rd.below hr3 hs_k7
                  refine Wl.nil ?_
                  refine Wq.back hK_47 hb3 ?_
                  refine Wa.takeOn (i := 15) #[true, true, true, true, true, true, true, true, true, true, true, true, true, true, true, true, false, false, false, false, false, false, false, false, false, false, false, false, false, false] rfl rfl rfl g_40_ (by kernel_rfl) (fun _ _ _ h => h) rfl (fun wq hq => Yl.ld (y_eqli rfl rfl)) hb3 ?_
                  refine Wa.take (i := 16) #[true, true, true, true, true, true, true, true, true, true, true, true, true, true, true, true, true, false, false, false, false, false, false, false, false, false, false, false, false, false] rfl (by kernel_rfl) (fun _ _ _ h => h) rfl (fun wq hq => Yl.ld (y_pickT rfl g_40_ rfl)) hb3 ?_
                  refine Wa.take (i := 17) #[true, true, true, true, true, true, true, true, true, true, true, true, true, true, true, true, true, true, false, false, false, false, false, false, false, false, false, false, false, false] rfl (by kernel_rfl) (fun _ _ _ h => h) rfl (fun wq hq => Yl.ld (y_move rfl)) hb3 ?_
                  refine Wa.split (s := 40) rfl (fun g_52 => ?_) (fun g_52 => ?_)
                  · skip
                    have g_52_ := g_52
                    try simp only [decide_eq_true_eq, decide_eq_false_iff_not, beq_iff_eq, beq_eq_false_iff_ne, bne_iff_ne, bne_eq_false_iff_eq, Bool.not_eq_true', Bool.not_eq_false', Bool.not_eq_eq_eq_not, Bool.not_true, Bool.not_false, ne_eq, Int.not_lt, Int.not_le] at g_52
                    refine Wa.takeOn (i := 18) #[true, true, true, true, true, true, true, true, true, true, true, true, true, true, true, true, true, true, true, false, false, false, false, false, false, false, false, false, false, false] rfl rfl rfl g_52_ (by kernel_rfl) (fun _ _ _ h => h) rfl (fun wq hq => Yl.ld (y_move rfl)) hb3 ?_
                    refine Wa.some (rs := [19]) (by kernel_rfl) rfl ?_
                    refine Ws.cons #[true, true, true, true, true, true, true, true, true, true, true, true, true, true, true, true, true, true, true, true, false, false, false, false, false, false, false, false, false, false] rfl rfl (fun _ hK_54 => ?_) ?_
                    · skip
                      refine Wl.on' rfl rfl g_52_ ?_
                      refine Wl.call txt21LogicC rfl rfl (clos_r 0 B p cb (l.take p) k _ _ _ (by omega) hcb hkp hx hB_o6 hB_o12) rfl ?_
                      rintro _ w_k8 ⟨⟨B4, c4, rfl, hr4⟩, hs_k8⟩
                      have hz_k8 := hs_k8.size
                      have hb := hb.trans (hs_k8.mono hb.size)
                      have hr := hr_hb.below hb
                      have hb2 := hb2.trans (hs_k8.mono hb2.size)
                      have hx := hx_hb2.below hb2
                      have hb3 := hb3.trans (hs_k8.mono hb3.size)
                      have hB_o6 := hB_o6_hb3.below hb3
                      have hB_o12 := hB_o12_hb3.below hb3
                      try have hr2 := Rd.below hr2 hs_k8
                      try have hr3 := Rd.below hr3 hs_k8
                      refine Wl.nil ?_
                      refine Wq.back hK_54 hb3 ?_
                      refine Wa.some (rs := [20]) (by kernel_rfl) rfl ?_
                      refine Ws.cons #[true, true, true, true, true, true, true, true, true, true, true, true, true, true, true, true, true, true, true, true, true, false, false, false, false, false, false, false, false, false] rfl rfl (fun _ hK_56 => ?_) ?_
                      · skip
                        refine Wl.on' rfl rfl g_52_ ?_
                        refine Wl.call txt19LogicC rfl rfl (And_r _ _ _ _ _ (by omega) hr4) rfl ?_
                        rintro _ _ ⟨rfl, rfl⟩
                        refine Wl.nil ?_
                        refine Wq.back hK_56 hb3 ?_
                        refine Wa.takeOn (i := 21) #[true, true, true, true, true, true, true, true, true, true, true, true, true, true, true, true, true, true, true, true, true, true, false, false, false, false, false, false, false, false] rfl rfl rfl g_52_ (by kernel_rfl) (fun _ _ _ h => h) rfl (fun wq hq => Yl.ld (y_eqli rfl rfl)) hb3 ?_
                        refine Wa.take (i := 22) #[true, true, true, true, true, true, true, true, true, true, true, true, true, true, true, true, true, true, true, true, true, true, true, false, false, false, false, false, false, false] rfl (by kernel_rfl) (fun _ _ _ h => h) rfl (fun wq hq => Yl.ld (y_pickT rfl g_52_ rfl)) hb3 ?_
                        refine Wa.take (i := 23) #[true, true, true, true, true, true, true, true, true, true, true, true, true, true, true, true, true, true, true, true, true, true, true, true, false, false, false, false, false, false] rfl (by kernel_rfl) (fun _ _ _ h => h) rfl (fun wq hq => Yl.ld (y_move rfl)) hb3 ?_
                        refine Wa.split (s := 46) rfl (fun g_61 => ?_) (fun g_61 => ?_)
                        · skip
                          have g_61_ := g_61
                          try simp only [decide_eq_true_eq, decide_eq_false_iff_not, beq_iff_eq, beq_eq_false_iff_ne, bne_iff_ne, bne_eq_false_iff_eq, Bool.not_eq_true', Bool.not_eq_false', Bool.not_eq_eq_eq_not, Bool.not_true, Bool.not_false, ne_eq, Int.not_lt, Int.not_le] at g_61
                          refine Wa.takeOn (i := 24) #[true, true, true, true, true, true, true, true, true, true, true, true, true, true, true, true, true, true, true, true, true, true, true, true, true, false, false, false, false, false] rfl rfl rfl g_61_ (by kernel_rfl) (fun _ _ _ h => h) rfl (fun wq hq => Yl.ld (y_move rfl)) hb3 ?_
                          refine Wa.some (rs := [25]) (by kernel_rfl) rfl ?_
                          refine Ws.cons #[true, true, true, true, true, true, true, true, true, true, true, true, true, true, true, true, true, true, true, true, true, true, true, true, true, true, false, false, false, false] rfl rfl (fun _ hK_63 => ?_) ?_
                          · skip
                            refine Wl.on' rfl rfl g_61_ ?_
                            refine Wl.call txt21LogicC rfl rfl (clos_r 1 B p cb (l.take p) k _ _ _ (by omega) hcb hkp hx hB_o6 hB_o12) rfl ?_
                            rintro _ w_k10 ⟨⟨B5, c5, rfl, hr5⟩, hs_k10⟩
                            have hz_k10 := hs_k10.size
                            have hb := hb.trans (hs_k10.mono hb.size)
                            have hr := hr_hb.below hb
                            have hb2 := hb2.trans (hs_k10.mono hb2.size)
                            have hx := hx_hb2.below hb2
                            have hb3 := hb3.trans (hs_k10.mono hb3.size)
                            have hB_o6 := hB_o6_hb3.below hb3
                            have hB_o12 := hB_o12_hb3.below hb3
                            try have hr2 := Rd.below hr2 hs_k10
                            try have hr3 := Rd.below hr3 hs_k10
                            try have hr4 := Rd.below hr4 hs_k10
                            refine Wl.nil ?_
                            refine Wq.back hK_63 hb3 ?_
                            refine Wa.some (rs := [26]) (by kernel_rfl) rfl ?_
                            refine Ws.cons #[true, true, true, true, true, true, true, true, true, true, true, true, true, true, true, true, true, true, true, true, true, true, true, true, true, true, true, false, false, false] rfl rfl (fun _ hK_65 => ?_) ?_
                            · skip
                              refine Wl.on' rfl rfl g_61_ ?_
                              refine Wl.call txt20LogicC rfl rfl (Or_r _ _ _ _ _ (by omega) hr5) rfl ?_
                              rintro _ w_k11 ⟨rfl, hs_k11⟩
                              have hz_k11 := hs_k11.size
                              have hb := hb.trans (hs_k11.mono hb.size)
                              have hr := hr_hb.below hb
                              have hb2 := hb2.trans (hs_k11.mono hb2.size)
                              have hx := hx_hb2.below hb2
                              have hb3 := hb3.trans (hs_k11.mono hb3.size)
                              have hB_o6 := hB_o6_hb3.below hb3
                              have hB_o12 := hB_o12_hb3.below hb3
                              try have hr2 := Rd.below hr2 hs_k11
                              try have hr3 := Rd.below hr3 hs_k11
                              try have hr4 := Rd.below hr4 hs_k11
                              try have hr5 := Rd.below hr5 hs_k11
                              refine Wl.nil ?_
                              refine Wq.back hK_65 hb3 ?_
                              refine Wa.takeOn (i := 27) #[true, true, true, true, true, true, true, true, true, true, true, true, true, true, true, true, true, true, true, true, true, true, true, true, true, true, true, true, false, false] rfl rfl rfl g_61_ (by kernel_rfl) (fun _ _ _ h => h) rfl (fun wq hq => Yl.ld (y_eqli rfl rfl)) hb3 ?_
                              refine Wa.take (i := 28) #[true, true, true, true, true, true, true, true, true, true, true, true, true, true, true, true, true, true, true, true, true, true, true, true, true, true, true, true, true, false] rfl (by kernel_rfl) (fun _ _ _ h => h) rfl (fun wq hq => Yl.ld (y_pickT rfl g_61_ rfl)) hb3 ?_
                              refine Wa.take (i := 29) #[true, true, true, true, true, true, true, true, true, true, true, true, true, true, true, true, true, true, true, true, true, true, true, true, true, true, true, true, true, true] rfl (by kernel_rfl) (fun _ _ _ h => h) rfl (fun wq hq => Yl.ld (y_assign rfl)) hb3 ?_
                              refine Wa.done (by kernel_rfl) ?_
                              refine Wq.next hK_25 ?_
                              refine Wc.ret ?_
                              refine ret1 rfl rfl ?_
                              exact ⟨_, rfl, by rw [orT_decides]; simp, hb⟩
                            exact Ws.nil
                          exact Ws.nil
                        · skip
                          have g_61_ := g_61
                          try simp only [decide_eq_true_eq, decide_eq_false_iff_not, beq_iff_eq, beq_eq_false_iff_ne, bne_iff_ne, bne_eq_false_iff_eq, Bool.not_eq_true', Bool.not_eq_false', Bool.not_eq_eq_eq_not, Bool.not_true, Bool.not_false, ne_eq, Int.not_lt, Int.not_le] at g_61
                          exact absurd (andT_decides _ _) g_61
                      exact Ws.nil
                    exact Ws.nil
                  · skip
                    have g_52_ := g_52
                    try simp only [decide_eq_true_eq, decide_eq_false_iff_not, beq_iff_eq, beq_eq_false_iff_ne, bne_iff_ne, bne_eq_false_iff_eq, Bool.not_eq_true', Bool.not_eq_false', Bool.not_eq_eq_eq_not, Bool.not_true, Bool.not_false, ne_eq, Int.not_lt, Int.not_le] at g_52
                    exact absurd (by rw [orT_neutral, List.take_append_drop]) g_52
                exact Ws.nil
              exact Ws.nil
            exact Ws.nil
          · skip
            have g_40_ := g_40
            try simp only [decide_eq_true_eq, decide_eq_false_iff_not, beq_iff_eq, beq_eq_false_iff_ne, bne_iff_ne, bne_eq_false_iff_eq, Bool.not_eq_true', Bool.not_eq_false', Bool.not_eq_eq_eq_not, Bool.not_true, Bool.not_false, ne_eq, Int.not_lt, Int.not_le] at g_40
            exact absurd (by rw [andT_neutral, List.take_append_drop]) g_40
        exact Ws.nil
      exact Ws.nil
    exact Ws.nil
  · skip
    have g_28_ := g_28
    try simp only [decide_eq_true_eq, decide_eq_false_iff_not, beq_iff_eq, beq_eq_false_iff_ne, bne_iff_ne, bne_eq_false_iff_eq, Bool.not_eq_true', Bool.not_eq_false', Bool.not_eq_eq_eq_not, Bool.not_true, Bool.not_false, ne_eq, Int.not_lt, Int.not_le] at g_28
    cases g_28

def ys (l : List Int) : List Int := l.map fun x => (bits .and .i64 x 255).tmod 3
theorem ys_three (l : List Int) : ∀ a ∈ ys l, a = 0 ∨ a = 1 ∨ a = 2 := by
  intro a ha; simp only [ys, List.mem_map] at ha; obtain ⟨x, _, rfl⟩ := ha; exact three_of rfl
theorem ys_snoc (l : List Int) (x : Int) : ys (l ++ [x]) = ys l ++ [(bits .and .i64 x 255).tmod 3] := by simp [ys]
theorem LogicTurns_r (A : Option Addr) (n c : Nat) (l : List Int) (w : World) (hl : n ≤ 35184372088832) (hc : n ≤ c) (hr : Rd w 1 A n (i64s l)) :
    Ret Try.prog 9 [.slice A n c] w fun v w' => v = .bool true ∧ Below w.heap.size w w' := by
  have hn := len_of hr
  have hb := Below.refl w.heap.size w
  have hr_hb := hr
  refine enter Try.func9 rfl rfl rfl ?_
  refine Wc.seq fun _ hK_1 => ?_
  refine Wc.region ?_
  refine Wl.y (y_assign rfl) rfl ?_
  refine Wl.nil ?_
  refine Wq.next hK_1 ?_
  refine Wc.seq fun _ hK_3 => ?_
  refine Wc.region ?_
  refine Wl.call txt17LogicC rfl rfl (shown_r _) rfl ?_
  rintro _ w_k0 ⟨rfl, hs_k0⟩
  have hz_k0 := hs_k0.size
  have hb := hb.trans (hs_k0.mono hb.size)
  have hr := hr_hb.below hb
  refine Wl.y (y_assign rfl) rfl ?_
  refine Wl.nil ?_
  refine Wq.next hK_3 ?_
  refine Wc.seq fun _ hK_6 => ?_
  refine Wc.region ?_
  refine Wl.y (y_assign rfl) rfl ?_
  refine Wl.nil ?_
  refine Wq.next hK_6 ?_
  refine Wc.seq fun _ hK_8 => ?_
  refine Wc.region ?_
  refine Wl.y (y_assign rfl) rfl ?_
  refine Wl.nil ?_
  refine Wq.next hK_8 ?_
  refine Wc.seq fun _ hK_10 => ?_
  refine Wc.seq fun _ hK_11 => ?_
  refine Wc.region ?_
  refine Wl.y (y_assign rfl) rfl ?_
  refine Wl.nil ?_
  refine Wq.next hK_11 ?_
  refine Wc.block ?_
  refine Wc.loop (X := Nat × Value × Value) (fun (k, u, v) => [(0, .slice A n c), (3, .bool true), (4, u), (5, v), (6, .int .i64 (k : Int))]) (fun (k, u, v) wr => k ≤ n ∧ k ≤ 100 ∧ wr.ownsRow w.heap.size 37 1 u k (i64s (ys (l.take k))) ∧ wr.ownsRow w.heap.size 37 1 v k (i64s ((ys (l.take k)).map notT)) ∧ Apart u v ∧ Below w.heap.size w wr) (fun (k, u, v) => 100 - k) (⟨0, .slice none 0 0, .slice none 0 0⟩) ?_ ?_ ?_
  · exact Sub.cons' rfl (by first | rfl | exact int_eq (by omega) | exact int_eq (by simp) | (simp; done)) (Sub.cons' rfl (by first | rfl | exact int_eq (by omega) | exact int_eq (by simp) | (simp; done)) (Sub.cons' rfl (by first | rfl | exact int_eq (by omega) | exact int_eq (by simp) | (simp; done)) (Sub.cons' rfl (by first | rfl | exact int_eq (by omega) | exact int_eq (by simp) | (simp; done)) (Sub.cons' rfl (by first | rfl | exact int_eq (by omega) | exact int_eq (by simp) | (simp; done)) (Sub.nil)))))
  · exact ⟨by omega, by omega, by simpa [i64s, ys] using own_nil _ w.heap.size _ 1, by simpa [i64s, ys] using own_nil _ w.heap.size _ 1, Apart.nil _, hb⟩
  · rintro ⟨k, u, v⟩ wr hI_14 _ hL_13
    replace hI_14 : k ≤ n ∧ k ≤ 100 ∧ wr.ownsRow w.heap.size 37 1 u k (i64s (ys (l.take k))) ∧ wr.ownsRow w.heap.size 37 1 v k (i64s ((ys (l.take k)).map notT)) ∧ Apart u v ∧ Below w.heap.size w wr := hI_14
    obtain ⟨hk, hk1, ho, hv, hap, hb⟩ := hI_14
    show Wc _ _ _ _ _ [(0, .slice A n c), (3, .bool true), (4, u), (5, v), (6, .int .i64 (k : Int))] _
    have hr := hr_hb.below hb
    refine Wc.seq fun _ hK_15 => ?_
    refine Wc.seq fun _ hK_16 => ?_
    refine Wc.region ?_
    refine Wl.y (y_move rfl) rfl ?_
    refine Wl.y (y_move rfl) rfl ?_
    refine Wl.y (y_lenl Try.underlying33 (by omega) rfl) rfl ?_
    refine Wl.y (y_lssi rfl rfl) rfl ?_
    refine Wl.y (y_move rfl) rfl ?_
    refine Wl.guardT rfl rfl rfl (fun g_22 => ?_) (fun g_22 => ?_)
    · skip
      have g_22_ := g_22
      try simp only [decide_eq_true_eq, decide_eq_false_iff_not, beq_iff_eq, beq_eq_false_iff_ne, bne_iff_ne, bne_eq_false_iff_eq, Bool.not_eq_true', Bool.not_eq_false', Bool.not_eq_eq_eq_not, Bool.not_true, Bool.not_false, ne_eq, Int.not_lt, Int.not_le] at g_22
      refine Wl.y (y_move rfl) rfl ?_
      refine Wl.on' rfl rfl g_22_ ?_
      refine Wl.y (y_lssi rfl rfl) rfl ?_
      refine Wl.y (y_pickT rfl g_22_ rfl) rfl ?_
      refine Wl.nil ?_
      refine Wq.next hK_16 ?_
      refine Wc.cond rfl (fun c0_26 => ?_) (fun c0_26 => ?_)
      · skip
        have c0_26_ := c0_26
        try simp only [decide_eq_true_eq, decide_eq_false_iff_not, beq_iff_eq, beq_eq_false_iff_ne, bne_iff_ne, bne_eq_false_iff_eq, Bool.not_eq_true', Bool.not_eq_false', Bool.not_eq_eq_eq_not, Bool.not_true, Bool.not_false, ne_eq, Int.not_lt, Int.not_le] at c0_26
        refine Wc.skip ?_
        refine Wq.next hK_15 ?_
        refine Wc.seq fun _ hK_27 => ?_
        refine Wc.block ?_
        refine Wc.seq fun _ hK_28 => ?_
        obtain ⟨p, v, rfl, hvl, hcell⟩ := hr.one (i := k) (by omega)
        have hgt := i64s_get l k (by omega)
        rw [hgt] at hvl
        cases hvl
        refine Wc.region ?_
        refine Wl.y (y_move rfl) rfl ?_
        refine Wl.y (y_move rfl) rfl ?_
        refine Wl.y (y_indexAddr Try.underlying33 sz3LogicC rfl rfl (by omega) (by omega)) rfl ?_
        refine Wl.l (l_load one3LogicC rfl (by exact at1 hcell)) rfl ?_
        refine Wl.y (y_and rfl rfl) rfl ?_
        refine Wl.y (y_rem rfl rfl (by first | decide | omega)) rfl ?_
        refine Wl.y (y_assign rfl) rfl ?_
        refine Wl.nil ?_
        refine Wq.next hK_28 ?_
        refine Wc.seq fun _ hK_36 => ?_
        obtain ⟨y, hy⟩ : ∃ y, (bits .and .i64 (l.getD k 0) 255).tmod 3 = y := ⟨_, rfl⟩
        rw [hy]
        have hy3 : y = 0 ∨ y = 1 ∨ y = 2 := three_of hy.symm
        refine Wc.region ?_
        refine Wl.y (y_move rfl) rfl ?_
        refine Wl.y (y_move rfl) rfl ?_
        refine Wl.litN (sz := 1) (vs := [_]) Try.underlying34 (by kernel_rfl) rfl rfl rfl rfl rfl rfl ?_
        rintro g_b1 w_b1 hg_b1 hn_b1 hs_b1
        have hz_b1 := hs_b1.size
        have hb := hb.trans (hs_b1.mono hb.size)
        have hr := hr_hb.below hb
        try have ho := own_below ho hs_b1
        try have hv := own_below hv hs_b1
        have hB_b1 := hn_b1
        have hl_b1 := hB_b1.lt
        have hvo := hv
        refine Wl.append (z := (.int .i64 0)) (sz := 1) (bytes := 8) Try.underlying34 (by kernel_rfl) rfl (by decide) _ rfl ho rfl (Rd.blk (l := [y]) hB_b1 rfl) (i64s_one _) (by simp only [maxLen]; omega) (by omega) (by first | exact hb.size | omega) rfl ?_
        rintro v_b2 w_b2 hn_b2 hg_b2 ha_b2
        have hz_b2 := hg_b2.size
        have hb := hb.grown hg_b2 hb.size (fun k_ hk_ => by have := (own_ge ho k_ hk_).1; omega)
        have hr := hr_hb.below hb
        try have hv := World.ownsRow.kept hv hg_b2 (by exact hap.symm.ne)
        try have hB_b1 := Blk.grown hB_b1 hg_b2 (by exact hap.symm.ne)
        have ho := hn_b2
        have hap := hap.grow ha_b2 hvo
        refine Wl.y (y_assign rfl) rfl ?_
        refine Wl.nil ?_
        refine Wq.next hK_36 ?_
        refine Wc.seq fun _ hK_42 => ?_
        refine Wc.region ?_
        refine Wl.y (y_move rfl) rfl ?_
        refine Wl.y (y_move rfl) rfl ?_
        refine Wl.call txt22LogicC rfl rfl (Not_r _ _) rfl ?_
        rintro _ _ ⟨rfl, rfl⟩
        refine Wl.litN (sz := 1) (vs := [_]) Try.underlying34 (by kernel_rfl) rfl rfl rfl rfl rfl rfl ?_
        rintro g_b3 w_b3 hg_b3 hn_b3 hs_b3
        have hz_b3 := hs_b3.size
        have hb := hb.trans (hs_b3.mono hb.size)
        have hr := hr_hb.below hb
        try have ho := own_below ho hs_b3
        try have hv := own_below hv hs_b3
        try have hB_b1 := Blk.below hB_b1 hs_b3
        have hB_b3 := hn_b3
        have hl_b3 := hB_b3.lt
        have hoo := ho
        refine Wl.append (z := (.int .i64 0)) (sz := 1) (bytes := 8) Try.underlying34 (by kernel_rfl) rfl (by decide) _ rfl hv rfl (Rd.blk (l := [notT y]) hB_b3 rfl) (i64s_one _) (by simp only [maxLen]; omega) (by omega) (by first | exact hb.size | omega) rfl ?_
        rintro v_b4 w_b4 hn_b4 hg_b4 ha_b4
        have hz_b4 := hg_b4.size
        have hb := hb.grown hg_b4 hb.size (fun k_ hk_ => by have := (own_ge hv k_ hk_).1; omega)
        have hr := hr_hb.below hb
        try have ho := World.ownsRow.kept ho hg_b4 (by exact hap.ne)
        try have hB_b1 := Blk.grown hB_b1 hg_b4 (by exact hap.ne)
        try have hB_b3 := Blk.grown hB_b3 hg_b4 (by exact hap.ne)
        have hv := hn_b4
        have hap := (hap.symm.grow ha_b4 hoo).symm
        refine Wl.y (y_assign rfl) rfl ?_
        refine Wl.nil ?_
        refine Wq.next hK_42 ?_
        refine Wc.seq fun _ hK_49 => ?_
        refine Wc.region ?_
        refine Wl.y (y_move rfl) rfl ?_
        refine Wl.call txt22LogicC rfl rfl (Not_r _ _) rfl ?_
        rintro _ _ ⟨rfl, rfl⟩
        refine Wl.call txt22LogicC rfl rfl (Not_r _ _) rfl ?_
        rintro _ _ ⟨rfl, rfl⟩
        refine Wl.y (y_move rfl) rfl ?_
        refine Wl.y (y_neqi rfl rfl) rfl ?_
        refine Wl.y (y_move rfl) rfl ?_
        refine Wl.guardF rfl rfl rfl (fun g_56 => ?_) (fun g_56 => ?_)
        · skip
          have g_56_ := g_56
          try simp only [decide_eq_true_eq, decide_eq_false_iff_not, beq_iff_eq, beq_eq_false_iff_ne, bne_iff_ne, bne_eq_false_iff_eq, Bool.not_eq_true', Bool.not_eq_false', Bool.not_eq_eq_eq_not, Bool.not_true, Bool.not_false, ne_eq, Int.not_lt, Int.not_le] at g_56
          exact absurd (notT_twice hy3) g_56
        · skip
          have g_56_ := g_56
          try simp only [decide_eq_true_eq, decide_eq_false_iff_not, beq_iff_eq, beq_eq_false_iff_ne, bne_iff_ne, bne_eq_false_iff_eq, Bool.not_eq_true', Bool.not_eq_false', Bool.not_eq_eq_eq_not, Bool.not_true, Bool.not_false, ne_eq, Int.not_lt, Int.not_le] at g_56
          refine Wl.y (y_move rfl) rfl ?_
          refine Wl.on' rfl rfl g_56_ ?_
          refine Wl.call txt23LogicC rfl rfl (Is_r _ _) rfl ?_
          rintro _ _ ⟨rfl, rfl⟩
          refine Wl.on' rfl rfl g_56_ ?_
          refine Wl.y (y_move rfl) rfl ?_
          refine Wl.on' rfl rfl g_56_ ?_
          refine Wl.call txt22LogicC rfl rfl (Not_r _ _) rfl ?_
          rintro _ _ ⟨rfl, rfl⟩
          refine Wl.on' rfl rfl g_56_ ?_
          refine Wl.call txt23LogicC rfl rfl (Is_r _ _) rfl ?_
          rintro _ _ ⟨rfl, rfl⟩
          refine Wl.on' rfl rfl g_56_ ?_
          refine Wl.y (y_neqi rfl rfl) rfl ?_
          refine Wl.y (y_pickF rfl g_56_ rfl) rfl ?_
          refine Wl.nil ?_
          refine Wq.next hK_49 ?_
          refine Wc.cond rfl (fun c1_64 => ?_) (fun c1_64 => ?_)
          · skip
            have c1_64_ := c1_64
            try simp only [decide_eq_true_eq, decide_eq_false_iff_not, beq_iff_eq, beq_eq_false_iff_ne, bne_iff_ne, bne_eq_false_iff_eq, Bool.not_eq_true', Bool.not_eq_false', Bool.not_eq_eq_eq_not, Bool.not_true, Bool.not_false, ne_eq, Int.not_lt, Int.not_le] at c1_64
            exact absurd (isT_not hy3) c1_64
          · skip
            have c1_64_ := c1_64
            try simp only [decide_eq_true_eq, decide_eq_false_iff_not, beq_iff_eq, beq_eq_false_iff_ne, bne_iff_ne, bne_eq_false_iff_eq, Bool.not_eq_true', Bool.not_eq_false', Bool.not_eq_eq_eq_not, Bool.not_true, Bool.not_false, ne_eq, Int.not_lt, Int.not_le] at c1_64
            refine Wc.skip ?_
            refine Wq.block_normal ?_
            refine Wq.next hK_27 ?_
            refine Wc.region ?_
            refine Wl.y (y_move rfl) rfl ?_
            refine Wl.y (y_addI rfl rfl (by first | omega | simp; omega) (by first | omega | simp; omega)) rfl ?_
            refine Wl.y (y_assign rfl) rfl ?_
            refine Wl.nil ?_
            refine fun a_ ha_ => hL_13 _ _ (⟨k + 1, v_b2, v_b4⟩) (by first | omega | (simp; omega)) (Sub.cons' rfl (by first | rfl | exact int_eq (by omega) | exact int_eq (by simp) | (simp; done)) (Sub.cons' rfl (by first | rfl | exact int_eq (by omega) | exact int_eq (by simp) | (simp; done)) (Sub.cons' rfl (by first | rfl | exact int_eq (by omega) | exact int_eq (by simp) | (simp; done)) (Sub.cons' rfl (by first | rfl | exact int_eq (by omega) | exact int_eq (by simp) | (simp; done)) (Sub.cons' rfl (by first | rfl | exact int_eq (by omega) | exact int_eq (by simp) | (simp; done)) (Sub.nil)))))) ?_ a_ ha_
            exact ⟨by omega, by omega, by rw [take_getD l k (by omega), ys_snoc, i64s_append, hy]; exact ho, by rw [take_getD l k (by omega), ys_snoc, List.map_append, i64s_append, hy]; exact hv, hap, hb⟩
      · skip
        have c0_26_ := c0_26
        try simp only [decide_eq_true_eq, decide_eq_false_iff_not, beq_iff_eq, beq_eq_false_iff_ne, bne_iff_ne, bne_eq_false_iff_eq, Bool.not_eq_true', Bool.not_eq_false', Bool.not_eq_eq_eq_not, Bool.not_true, Bool.not_false, ne_eq, Int.not_lt, Int.not_le] at c0_26
        refine Wc.exit ?_
        refine Wq.then_exit ?_
        refine Wq.then_exit ?_
        refine Wq.block_exit ?_
        refine Wq.next hK_10 ?_
        refine Wc.seq fun _ hK_68 => ?_
        obtain ⟨B3, c3, rfl, _, _⟩ := own_form ho
        obtain ⟨B4, c4, rfl, _, _⟩ := own_form hv
        have hx := Rd.of_own ho
        have hy := Rd.of_own hv
        refine Wc.region ?_
        refine Wl.y (y_move rfl) rfl ?_
        refine Wl.y (y_move rfl) rfl ?_
        refine Wl.guardT rfl rfl rfl (fun g_71 => ?_) (fun g_71 => ?_)
        · skip
          have g_71_ := g_71
          try simp only [decide_eq_true_eq, decide_eq_false_iff_not, beq_iff_eq, beq_eq_false_iff_ne, bne_iff_ne, bne_eq_false_iff_eq, Bool.not_eq_true', Bool.not_eq_false', Bool.not_eq_eq_eq_not, Bool.not_true, Bool.not_false, ne_eq, Int.not_lt, Int.not_le] at g_71
          refine Wl.y (y_move rfl) rfl ?_
          refine Wl.on' rfl rfl g_71_ ?_
          refine Wl.call txt19LogicC rfl rfl (And_r _ _ _ _ _ (by omega) hx) rfl ?_
          rintro _ _ ⟨rfl, rfl⟩
          refine Wl.on' rfl rfl g_71_ ?_
          refine Wl.call txt22LogicC rfl rfl (Not_r _ _) rfl ?_
          rintro _ _ ⟨rfl, rfl⟩
          refine Wl.on' rfl rfl g_71_ ?_
          refine Wl.y (y_move rfl) rfl ?_
          refine Wl.on' rfl rfl g_71_ ?_
          refine Wl.call txt20LogicC rfl rfl (Or_r _ _ _ _ _ (by omega) hy) rfl ?_
          rintro _ w_k9 ⟨rfl, hs_k9⟩
          have hz_k9 := hs_k9.size
          have hb := hb.trans (hs_k9.mono hb.size)
          have hr := hr_hb.below hb
          try have ho := own_below ho hs_k9
          try have hv := own_below hv hs_k9
          try have hx := Rd.below hx hs_k9
          try have hy := Rd.below hy hs_k9
          refine Wl.on' rfl rfl g_71_ ?_
          refine Wl.y (y_eqli rfl rfl) rfl ?_
          refine Wl.y (y_pickT rfl g_71_ rfl) rfl ?_
          refine Wl.y (y_move rfl) rfl ?_
          refine Wl.guardT rfl rfl rfl (fun g_80 => ?_) (fun g_80 => ?_)
          · skip
            have g_80_ := g_80
            try simp only [decide_eq_true_eq, decide_eq_false_iff_not, beq_iff_eq, beq_eq_false_iff_ne, bne_iff_ne, bne_eq_false_iff_eq, Bool.not_eq_true', Bool.not_eq_false', Bool.not_eq_eq_eq_not, Bool.not_true, Bool.not_false, ne_eq, Int.not_lt, Int.not_le] at g_80
            refine Wl.y (y_move rfl) rfl ?_
            refine Wl.on' rfl rfl g_80_ ?_
            refine Wl.call txt20LogicC rfl rfl (Or_r _ _ _ _ _ (by omega) hx) rfl ?_
            rintro _ w_k10 ⟨rfl, hs_k10⟩
            have hz_k10 := hs_k10.size
            have hb := hb.trans (hs_k10.mono hb.size)
            have hr := hr_hb.below hb
            try have ho := own_below ho hs_k10
            try have hv := own_below hv hs_k10
            try have hx := Rd.below hx hs_k10
            try have hy := Rd.below hy hs_k10
            refine Wl.on' rfl rfl g_80_ ?_
            refine Wl.call txt22LogicC rfl rfl (Not_r _ _) rfl ?_
            rintro _ _ ⟨rfl, rfl⟩
            refine Wl.on' rfl rfl g_80_ ?_
            refine Wl.y (y_move rfl) rfl ?_
            refine Wl.on' rfl rfl g_80_ ?_
            refine Wl.call txt19LogicC rfl rfl (And_r _ _ _ _ _ (by omega) hy) rfl ?_
            rintro _ _ ⟨rfl, rfl⟩
            refine Wl.on' rfl rfl g_80_ ?_
            refine Wl.y (y_eqli rfl rfl) rfl ?_
            refine Wl.y (y_pickT rfl g_80_ rfl) rfl ?_
            refine Wl.y (y_assign rfl) rfl ?_
            refine Wl.nil ?_
            refine Wq.next hK_68 ?_
            refine Wc.ret ?_
            refine ret1 rfl rfl ?_
            exact ⟨_, rfl, by rw [turn_or]; simp, hb⟩
          · skip
            have g_80_ := g_80
            try simp only [decide_eq_true_eq, decide_eq_false_iff_not, beq_iff_eq, beq_eq_false_iff_ne, bne_iff_ne, bne_eq_false_iff_eq, Bool.not_eq_true', Bool.not_eq_false', Bool.not_eq_eq_eq_not, Bool.not_true, Bool.not_false, ne_eq, Int.not_lt, Int.not_le] at g_80
            exact absurd (turn_and (ys_three _)) g_80
        · skip
          have g_71_ := g_71
          try simp only [decide_eq_true_eq, decide_eq_false_iff_not, beq_iff_eq, beq_eq_false_iff_ne, bne_iff_ne, bne_eq_false_iff_eq, Bool.not_eq_true', Bool.not_eq_false', Bool.not_eq_eq_eq_not, Bool.not_true, Bool.not_false, ne_eq, Int.not_lt, Int.not_le] at g_71
          cases g_71
    · skip
      have g_22_ := g_22
      try simp only [decide_eq_true_eq, decide_eq_false_iff_not, beq_iff_eq, beq_eq_false_iff_ne, bne_iff_ne, bne_eq_false_iff_eq, Bool.not_eq_true', Bool.not_eq_false', Bool.not_eq_eq_eq_not, Bool.not_true, Bool.not_false, ne_eq, Int.not_lt, Int.not_le] at g_22
      refine Wl.off' rfl rfl g_22_ rfl rfl ?_
      refine Wl.y (y_pickF rfl g_22_ rfl) rfl ?_
      refine Wl.nil ?_
      refine Wq.next hK_16 ?_
      refine Wc.condF rfl rfl ?_
      refine Wc.exit ?_
      refine Wq.then_exit ?_
      refine Wq.then_exit ?_
      refine Wq.block_exit ?_
      refine Wq.next hK_10 ?_
      refine Wc.seq fun _ hK_90 => ?_
      obtain ⟨B3, c3, rfl, _, _⟩ := own_form ho
      obtain ⟨B4, c4, rfl, _, _⟩ := own_form hv
      have hx := Rd.of_own ho
      have hy := Rd.of_own hv
      refine Wc.region ?_
      refine Wl.y (y_move rfl) rfl ?_
      refine Wl.y (y_move rfl) rfl ?_
      refine Wl.guardT rfl rfl rfl (fun g_93 => ?_) (fun g_93 => ?_)
      · skip
        have g_93_ := g_93
        try simp only [decide_eq_true_eq, decide_eq_false_iff_not, beq_iff_eq, beq_eq_false_iff_ne, bne_iff_ne, bne_eq_false_iff_eq, Bool.not_eq_true', Bool.not_eq_false', Bool.not_eq_eq_eq_not, Bool.not_true, Bool.not_false, ne_eq, Int.not_lt, Int.not_le] at g_93
        refine Wl.y (y_move rfl) rfl ?_
        refine Wl.on' rfl rfl g_93_ ?_
        refine Wl.call txt19LogicC rfl rfl (And_r _ _ _ _ _ (by omega) hx) rfl ?_
        rintro _ _ ⟨rfl, rfl⟩
        refine Wl.on' rfl rfl g_93_ ?_
        refine Wl.call txt22LogicC rfl rfl (Not_r _ _) rfl ?_
        rintro _ _ ⟨rfl, rfl⟩
        refine Wl.on' rfl rfl g_93_ ?_
        refine Wl.y (y_move rfl) rfl ?_
        refine Wl.on' rfl rfl g_93_ ?_
        refine Wl.call txt20LogicC rfl rfl (Or_r _ _ _ _ _ (by omega) hy) rfl ?_
        rintro _ w_k9 ⟨rfl, hs_k9⟩
        have hz_k9 := hs_k9.size
        have hb := hb.trans (hs_k9.mono hb.size)
        have hr := hr_hb.below hb
        try have ho := own_below ho hs_k9
        try have hv := own_below hv hs_k9
        try have hx := Rd.below hx hs_k9
        try have hy := Rd.below hy hs_k9
        refine Wl.on' rfl rfl g_93_ ?_
        refine Wl.y (y_eqli rfl rfl) rfl ?_
        refine Wl.y (y_pickT rfl g_93_ rfl) rfl ?_
        refine Wl.y (y_move rfl) rfl ?_
        refine Wl.guardT rfl rfl rfl (fun g_102 => ?_) (fun g_102 => ?_)
        · skip
          have g_102_ := g_102
          try simp only [decide_eq_true_eq, decide_eq_false_iff_not, beq_iff_eq, beq_eq_false_iff_ne, bne_iff_ne, bne_eq_false_iff_eq, Bool.not_eq_true', Bool.not_eq_false', Bool.not_eq_eq_eq_not, Bool.not_true, Bool.not_false, ne_eq, Int.not_lt, Int.not_le] at g_102
          refine Wl.y (y_move rfl) rfl ?_
          refine Wl.on' rfl rfl g_102_ ?_
          refine Wl.call txt20LogicC rfl rfl (Or_r _ _ _ _ _ (by omega) hx) rfl ?_
          rintro _ w_k10 ⟨rfl, hs_k10⟩
          have hz_k10 := hs_k10.size
          have hb := hb.trans (hs_k10.mono hb.size)
          have hr := hr_hb.below hb
          try have ho := own_below ho hs_k10
          try have hv := own_below hv hs_k10
          try have hx := Rd.below hx hs_k10
          try have hy := Rd.below hy hs_k10
          refine Wl.on' rfl rfl g_102_ ?_
          refine Wl.call txt22LogicC rfl rfl (Not_r _ _) rfl ?_
          rintro _ _ ⟨rfl, rfl⟩
          refine Wl.on' rfl rfl g_102_ ?_
          refine Wl.y (y_move rfl) rfl ?_
          refine Wl.on' rfl rfl g_102_ ?_
          refine Wl.call txt19LogicC rfl rfl (And_r _ _ _ _ _ (by omega) hy) rfl ?_
          rintro _ _ ⟨rfl, rfl⟩
          refine Wl.on' rfl rfl g_102_ ?_
          refine Wl.y (y_eqli rfl rfl) rfl ?_
          refine Wl.y (y_pickT rfl g_102_ rfl) rfl ?_
          refine Wl.y (y_assign rfl) rfl ?_
          refine Wl.nil ?_
          refine Wq.next hK_90 ?_
          refine Wc.ret ?_
          refine ret1 rfl rfl ?_
          exact ⟨_, rfl, by rw [turn_or]; simp, hb⟩
        · skip
          have g_102_ := g_102
          try simp only [decide_eq_true_eq, decide_eq_false_iff_not, beq_iff_eq, beq_eq_false_iff_ne, bne_iff_ne, bne_eq_false_iff_eq, Bool.not_eq_true', Bool.not_eq_false', Bool.not_eq_eq_eq_not, Bool.not_true, Bool.not_false, ne_eq, Int.not_lt, Int.not_le] at g_102
          exact absurd (turn_and (ys_three _)) g_102
      · skip
        have g_93_ := g_93
        try simp only [decide_eq_true_eq, decide_eq_false_iff_not, beq_iff_eq, beq_eq_false_iff_ne, bne_iff_ne, bne_eq_false_iff_eq, Bool.not_eq_true', Bool.not_eq_false', Bool.not_eq_eq_eq_not, Bool.not_true, Bool.not_false, ne_eq, Int.not_lt, Int.not_le] at g_93
        cases g_93
end Go.Proofs.Ytnjjieeepfcloaa
