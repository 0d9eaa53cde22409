/- num.Parse: the float whose text this is. -/
import Derived.Test.YtcljmclolpgdmaaGreatDoorPrsB
namespace Go.Proofs.YtcljmclolpgdmaaGreatDoor
open Go.RowKit Go.Bw Go.Bw.Fl
set_option linter.unusedVariables false
set_option linter.unusedSimpArgs false
theorem txt31PrsC : Txt Tryz.prog 31 := ⟨_, Tryz.func31, by kernel_rfl, rfl⟩   -- math.NaN
theorem txt35PrsC : Txt Tryz.prog 35 := ⟨_, Tryz.func35, by kernel_rfl, rfl⟩   -- bridleway/num.Text
theorem txt52PrsC : Txt Tryz.prog 52 := ⟨_, Tryz.func52, by kernel_rfl, rfl⟩   -- bridleway/num.Canon
theorem txt82PrsC : Txt Tryz.prog 82 := ⟨_, Tryz.func82, by kernel_rfl, rfl⟩   -- strings.CutPrefix
theorem txt83PrsC : Txt Tryz.prog 83 := ⟨_, Tryz.func83, by kernel_rfl, rfl⟩   -- math.Inf
theorem txt84PrsC : Txt Tryz.prog 84 := ⟨_, Tryz.func84, by kernel_rfl, rfl⟩   -- strings.Cut
theorem txt85PrsC : Txt Tryz.prog 85 := ⟨_, Tryz.func85, by kernel_rfl, rfl⟩   -- strconv.ParseUint
theorem txt86PrsC : Txt Tryz.prog 86 := ⟨_, Tryz.func86, by kernel_rfl, rfl⟩   -- strconv.Atoi
theorem txt87PrsC : Txt Tryz.prog 87 := ⟨_, Tryz.func87, by kernel_rfl, rfl⟩   -- math.Ldexp
noncomputable def prsV (s : List UInt8) : Value := .tuple #[.float .f64 ((pf s).getD 0), .int .i64 (if (pf s).isSome = true then 0 else 2)]
theorem prs_none {s : List UInt8} (h : pf s = none) : prsV s = .tuple #[.float .f64 0, .int .i64 2] := by unfold prsV; rw [h]; rfl
theorem prs_some {s : List UInt8} {f : Nat} (h : pf s = some f) : prsV s = .tuple #[.float .f64 f, .int .i64 0] := by unfold prsV; rw [h]; rfl
theorem tail_none {s : List UInt8} {y : Nat} (hm : Meets s y) (h : textF (app (Lib.hasPrefix s [45]) y) ≠ s) : pf s = none := pf_none fun f hf ht => h (hm f hf ht)
theorem tail_some {s : List UInt8} {y : Nat} (hy : y < 18446744073709551616) (h : textF (app (Lib.hasPrefix s [45]) y) = s) : pf s = some (canon (app (Lib.hasPrefix s [45]) y)) :=
  pf_hit (Cn.of (app_lt hy)) ((text_canon _).trans h)
/-- what has such a text is a number: its parts -/
theorem num_of {s : List UInt8} {f : Nat} (hf : Cn f) (ht : textF f = s) (h0 : Lib.trimPrefix s [45] ≠ [110, 97, 110]) (h1 : Lib.trimPrefix s [45] ≠ [105, 110, 102]) :
    ∃ M e, rung f < 9218868437227405312 ∧ Lib.hasPrefix s [45] = isNeg f ∧ M < 9007199254740992 ∧ -1074 ≤ e ∧ e ≤ 1024 ∧ V (rung f) = M * 2 ^ (e + 1074).toNat ∧ cutP (Lib.trimPrefix s [45]) = (Lib.decDigits M, Lib.itoa e) := by
  cases Hit.of hf ht with
  | nan _ _ hw => exact absurd hw h0
  | inf _ _ hw => exact absurd hw h1
  | num M e h hn hw hM he0 he1 hv => exact ⟨M, e, h, hn, hM, he0, he1, hv, by rw [hw, cutP_num]⟩
theorem bad_none {s : List UInt8} (h0 : Lib.trimPrefix s [45] ≠ [110, 97, 110]) (h1 : Lib.trimPrefix s [45] ≠ [105, 110, 102]) (hb : ¬ (Gd (cutP (Lib.trimPrefix s [45])).1 ∧ ∃ k, Lib.atoiAll (cutP (Lib.trimPrefix s [45])).2 = .ok k)) : pf s = none :=
  pf_none fun f hf ht => by
    obtain ⟨M, e, _, _, hM, he0, he1, _, hc⟩ := num_of hf ht h0 h1
    rw [hc] at hb
    exact hb ⟨Gd.dec hM, e, atoi_itoa (by omega) (by omega)⟩
theorem meets_num {s : List UInt8} {n r y : Nat} {k : Int} (h0 : Lib.trimPrefix s [45] ≠ [110, 97, 110]) (h1 : Lib.trimPrefix s [45] ≠ [105, 110, 102]) (hn : Gd (cutP (Lib.trimPrefix s [45])).1 → n = dval 0 (cutP (Lib.trimPrefix s [45])).1) (hk : Lib.atoiAll (cutP (Lib.trimPrefix s [45])).2 = .ok k) (hV : V r = n * 2 ^ 1074) (hX : ∀ f, f < 9218868437227405312 → Exact r (max (-2000) (min k 2000)) f → y = f) : Meets s y := fun f hf ht => by
  obtain ⟨M, e, hr, hg, hM, he0, he1, hv, hc⟩ := num_of hf ht h0 h1
  rw [hc] at hn hk
  have e1 : n = M := by rw [hn (Gd.dec hM)]; exact (decDigits_spec M).2.1
  rw [atoi_itoa (by omega) (by omega)] at hk
  have e2 : e = k := by injection hk
  subst e1; subst e2
  rw [show max (-2000) (min e 2000) = e by omega] at hX
  rw [hX (rung f) hr (exact_num he0 hV hv), hg, app_word hf.lt, ht]
theorem Parse_r (s : List UInt8) (hs : s.length ≤ 281474976710656) (w : World) (hL : Lb w) : Ret Tryz.prog 44 [str s] w fun v w' => v = prsV s ∧ Below w.heap.size w w' := by
  have hw : (Lib.trimPrefix s [45]).length ≤ 281474976710656 := Nat.le_trans (trimP_le s [45]) hs
  have hc1 := (cutP_len (Lib.trimPrefix s [45])).1
  have hc2 := (cutP_len (Lib.trimPrefix s [45])).2
  have hb := Below.refl w.heap.size w
  have hL_hb := hL
  refine enter Tryz.func44 rfl rfl rfl ?_
  refine Wc.seq fun _ hK_1 => ?_
  refine Wc.region ?_
  refine Wl.y (y_assign rfl) rfl ?_
  refine Wl.y (y_assign rfl) rfl ?_
  refine Wl.nil ?_
  refine Wq.next hK_1 ?_
  refine Wc.seq fun _ hK_4 => ?_
  refine Wc.region ?_
  refine Wl.y (y_move rfl) rfl ?_
  refine Wl.call txt82PrsC rfl rfl (CutPrefix_r s [45] _) rfl ?_
  rintro _ w_ ⟨rfl, hw_⟩
  have hw_ := hw_.symm; subst hw_
  refine Wl.y (y_move rfl) rfl ?_
  refine Wl.y (y_extract rfl rfl) rfl ?_
  refine Wl.y (y_extract rfl rfl) rfl ?_
  refine Wl.y (y_assign rfl) rfl ?_
  refine Wl.y (y_assign rfl) rfl ?_
  refine Wl.nil ?_
  refine Wq.next hK_4 ?_
  refine Wc.seq fun _ hK_12 => ?_
  refine Wc.region ?_
  refine Wl.call txt31PrsC rfl rfl (NaN_r _) rfl ?_
  rintro _ w_ ⟨rfl, hw_⟩
  have hw_ := hw_.symm; subst hw_
  refine Wl.y (y_assign rfl) rfl ?_
  refine Wl.nil ?_
  refine Wq.next hK_12 ?_
  refine Wc.seq fun _ hK_15 => ?_
  refine Wc.seq fun _ hK_16 => ?_
  refine Wc.region ?_
  refine Wl.y (y_move rfl) rfl ?_
  refine Wl.nil ?_
  refine Wq.next hK_16 ?_
  refine Wc.block ?_
  refine Wc.seq fun _ hK_18 => ?_
  refine Wc.region ?_
  refine Wl.y (y_eqls rfl rfl) rfl ?_
  refine Wl.y (y_assign rfl) rfl ?_
  refine Wl.nil ?_
  refine Wq.next hK_18 ?_
  refine Wc.meet (X := Nat) (fun y => [(0, str s), (5, .bool (Lib.hasPrefix s [45])), (6, .float .f64 y)]) (fun y wr => Below w.heap.size w wr ∧ y < 18446744073709551616 ∧ Meets s y) (fun _ hM_21 => ?_) ?_
  ·
   refine Wc.cond rfl (fun c0_22 => ?_) (fun c0_22 => ?_)
   ·
    have c0_22_ := c0_22
    try simp only [decide_eq_true_eq, decide_eq_false_iff_not, beq_iff_eq, beq_eq_false_iff_ne, bne_iff_ne, bne_eq_false_iff_eq, Bool.not_eq_true', Bool.not_eq_false', Bool.not_eq_eq_eq_not, Bool.not_true, Bool.not_false, ne_eq, Int.not_lt, Int.not_le] at c0_22
    have hn0 : Lib.trimPrefix s [45] = [110, 97, 110] := by simpa using c0_22_
    have hy_ : (9221120237041090561 : Nat) < 18446744073709551616 ∧ Meets s 9221120237041090561 := ⟨by decide, meets_nan hn0⟩
    refine Wc.skip ?_
    refine Wq.meet hM_21 (_) (Sub.cons' rfl (by rfl) (Sub.cons' rfl (by rfl) (Sub.cons' rfl (by rfl) (Sub.nil)))) ?_
    exact ⟨hb, hy_.1, hy_.2⟩
   ·
    have c0_22_ := c0_22
    try simp only [decide_eq_true_eq, decide_eq_false_iff_not, beq_iff_eq, beq_eq_false_iff_ne, bne_iff_ne, bne_eq_false_iff_eq, Bool.not_eq_true', Bool.not_eq_false', Bool.not_eq_eq_eq_not, Bool.not_true, Bool.not_false, ne_eq, Int.not_lt, Int.not_le] at c0_22
    have hn0 : Lib.trimPrefix s [45] ≠ [110, 97, 110] := by simpa using c0_22_
    refine Wc.seq fun _ hK_23 => ?_
    refine Wc.region ?_
    refine Wl.y (y_eqls rfl rfl) rfl ?_
    refine Wl.y (y_assign rfl) rfl ?_
    refine Wl.nil ?_
    refine Wq.next hK_23 ?_
    refine Wc.cond rfl (fun c1_26 => ?_) (fun c1_26 => ?_)
    ·
     have c1_26_ := c1_26
     try simp only [decide_eq_true_eq, decide_eq_false_iff_not, beq_iff_eq, beq_eq_false_iff_ne, bne_iff_ne, bne_eq_false_iff_eq, Bool.not_eq_true', Bool.not_eq_false', Bool.not_eq_eq_eq_not, Bool.not_true, Bool.not_false, ne_eq, Int.not_lt, Int.not_le] at c1_26
     have hn1 : Lib.trimPrefix s [45] = [105, 110, 102] := by simpa using c1_26_
     have hy_ : (9218868437227405312 : Nat) < 18446744073709551616 ∧ Meets s 9218868437227405312 := ⟨by decide, meets_inf hn1⟩
     refine Wc.region ?_
     refine Wl.call txt83PrsC rfl rfl (Inf_r _) rfl ?_
     rintro _ w_ ⟨rfl, hw_⟩
     have hw_ := hw_.symm; subst hw_
     refine Wl.y (y_assign rfl) rfl ?_
     refine Wl.nil ?_
     refine Wq.meet hM_21 (_) (Sub.cons' rfl (by rfl) (Sub.cons' rfl (by rfl) (Sub.cons' rfl (by rfl) (Sub.nil)))) ?_
     exact ⟨hb, hy_.1, hy_.2⟩
    ·
     have c1_26_ := c1_26
     try simp only [decide_eq_true_eq, decide_eq_false_iff_not, beq_iff_eq, beq_eq_false_iff_ne, bne_iff_ne, bne_eq_false_iff_eq, Bool.not_eq_true', Bool.not_eq_false', Bool.not_eq_eq_eq_not, Bool.not_true, Bool.not_false, ne_eq, Int.not_lt, Int.not_le] at c1_26
     have hn1 : Lib.trimPrefix s [45] ≠ [105, 110, 102] := by simpa using c1_26_
     refine Wc.seq fun _ hK_29 => ?_
     refine Wc.region ?_
     refine Wl.y (y_move rfl) rfl ?_
     refine Wl.call txt84PrsC rfl rfl (Cut_r _ hw _) rfl ?_
     rintro _ w_k3 ⟨⟨fb, rfl⟩, hs_k3⟩
     have hz_k3 := hs_k3.size
     have hb := hb.trans (hs_k3.mono hb.size)
     have hL := hL_hb.below hb
     refine Wl.y (y_move rfl) rfl ?_
     refine Wl.y (y_extract rfl rfl) rfl ?_
     refine Wl.y (y_extract rfl rfl) rfl ?_
     refine Wl.y (y_extract rfl rfl) rfl ?_
     refine Wl.y (y_assign rfl) rfl ?_
     refine Wl.y (y_assign rfl) rfl ?_
     refine Wl.y (y_assign rfl) rfl ?_
     refine Wl.nil ?_
     refine Wq.next hK_29 ?_
     refine Wc.seq fun _ hK_39 => ?_
     refine Wc.region ?_
     refine Wl.y (y_move rfl) rfl ?_
     refine Wl.call txt85PrsC rfl rfl (ParseUint_r _ (by omega) _ hL) rfl ?_
     rintro _ w_k4 ⟨⟨n, e, rfl, hU⟩, hs_k4⟩
     have hz_k4 := hs_k4.size
     have hb := hb.trans (hs_k4.mono hb.size)
     have hL := hL_hb.below hb
     refine Wl.y (y_move rfl) rfl ?_
     refine Wl.y (y_extract rfl rfl) rfl ?_
     refine Wl.y (y_extract rfl rfl) rfl ?_
     refine Wl.y (y_assign rfl) rfl ?_
     refine Wl.y (y_assign rfl) rfl ?_
     refine Wl.nil ?_
     refine Wq.next hK_39 ?_
     refine Wc.seq fun _ hK_47 => ?_
     refine Wc.region ?_
     refine Wl.y (y_move rfl) rfl ?_
     refine Wl.call txt86PrsC rfl rfl (Atoi_r _ (by omega) _ hL) rfl ?_
     rintro _ w_k5 ⟨⟨k, e2, rfl, hA, hB⟩, hs_k5⟩
     have hz_k5 := hs_k5.size
     have hb := hb.trans (hs_k5.mono hb.size)
     have hL := hL_hb.below hb
     refine Wl.y (y_move rfl) rfl ?_
     refine Wl.y (y_extract rfl rfl) rfl ?_
     refine Wl.y (y_extract rfl rfl) rfl ?_
     refine Wl.y (y_assign rfl) rfl ?_
     refine Wl.y (y_assign rfl) rfl ?_
     refine Wl.nil ?_
     refine Wq.next hK_47 ?_
     refine Wc.seq fun _ hK_55 => ?_
     refine Wc.seq fun _ hK_56 => ?_
     refine Wc.meet (X := Bool) (fun q => [(0, str s), (5, .bool (Lib.hasPrefix s [45])), (10, .int .u64 (n : Int)), (12, .int .i64 k), (42, .bool q)]) (fun q wr => Below w.heap.size w wr ∧ q = (!isNilI e || !isNilI e2)) (fun _ hM_57 => ?_) ?_
     ·
      refine Wc.region ?_
      refine Wl.y (y_move rfl) rfl ?_
      refine Wl.y (y_neqN (by kernel_rfl) rfl (hU.1)) rfl ?_
      refine Wl.y (y_move rfl) rfl ?_
      refine Wl.guardF rfl rfl rfl (fun g_61 => ?_) (fun g_61 => ?_)
      ·
       have g_61_ := g_61
       try simp only [decide_eq_true_eq, decide_eq_false_iff_not, beq_iff_eq, beq_eq_false_iff_ne, bne_iff_ne, bne_eq_false_iff_eq, Bool.not_eq_true', Bool.not_eq_false', Bool.not_eq_eq_eq_not, Bool.not_true, Bool.not_false, ne_eq, Int.not_lt, Int.not_le] at g_61
       refine Wl.off' rfl rfl g_61_ rfl rfl ?_
       refine Wl.y (y_pickT rfl g_61_ rfl) rfl ?_
       refine Wl.nil ?_
       refine Wq.meet hM_57 ((!isNilI e || !isNilI e2)) (Sub.cons' rfl (by first | rfl | exact bool_eq (by have h := g_61_; simp at h; simp [h])) (Sub.cons' rfl (by first | rfl | exact bool_eq (by have h := g_61_; simp at h; simp [h])) (Sub.cons' rfl (by first | rfl | exact bool_eq (by have h := g_61_; simp at h; simp [h])) (Sub.cons' rfl (by first | rfl | exact bool_eq (by have h := g_61_; simp at h; simp [h])) (Sub.cons' rfl (by first | rfl | exact bool_eq (by have h := g_61_; simp at h; simp [h])) (Sub.nil)))))) ?_
       exact ⟨hb, rfl⟩
      ·
       have g_61_ := g_61
       try simp only [decide_eq_true_eq, decide_eq_false_iff_not, beq_iff_eq, beq_eq_false_iff_ne, bne_iff_ne, bne_eq_false_iff_eq, Bool.not_eq_true', Bool.not_eq_false', Bool.not_eq_eq_eq_not, Bool.not_true, Bool.not_false, ne_eq, Int.not_lt, Int.not_le] at g_61
       refine Wl.y (y_move rfl) rfl ?_
       refine Wl.on' rfl rfl g_61_ ?_
       refine Wl.y (y_neqN (by kernel_rfl) rfl (hA)) rfl ?_
       refine Wl.y (y_pickF rfl g_61_ rfl) rfl ?_
       refine Wl.nil ?_
       refine Wq.meet hM_57 ((!isNilI e || !isNilI e2)) (Sub.cons' rfl (by first | rfl | exact bool_eq (by have h := g_61_; simp at h; simp [h])) (Sub.cons' rfl (by first | rfl | exact bool_eq (by have h := g_61_; simp at h; simp [h])) (Sub.cons' rfl (by first | rfl | exact bool_eq (by have h := g_61_; simp at h; simp [h])) (Sub.cons' rfl (by first | rfl | exact bool_eq (by have h := g_61_; simp at h; simp [h])) (Sub.cons' rfl (by first | rfl | exact bool_eq (by have h := g_61_; simp at h; simp [h])) (Sub.nil)))))) ?_
       exact ⟨hb, rfl⟩
     ·
      rintro q wr hI_66
      replace hI_66 : Below w.heap.size w wr ∧ q = (!isNilI e || !isNilI e2) := hI_66
      obtain ⟨hb, hq⟩ := hI_66
      show Wq _ _ _ _ [(0, str s), (5, .bool (Lib.hasPrefix s [45])), (10, .int .u64 (n : Int)), (12, .int .i64 k), (42, .bool q)] _
      have hL := hL_hb.below hb
      try have hzhb_g10 := hb.size
      refine Wq.next hK_56 ?_
      refine Wc.cond rfl (fun c2_67 => ?_) (fun c2_67 => ?_)
      ·
       have c2_67_ := c2_67
       try simp only [decide_eq_true_eq, decide_eq_false_iff_not, beq_iff_eq, beq_eq_false_iff_ne, bne_iff_ne, bne_eq_false_iff_eq, Bool.not_eq_true', Bool.not_eq_false', Bool.not_eq_eq_eq_not, Bool.not_true, Bool.not_false, ne_eq, Int.not_lt, Int.not_le] at c2_67
       refine Wc.seq fun _ hK_68 => ?_
       refine Wc.region ?_
       refine Wl.y (y_assign rfl) rfl ?_
       refine Wl.y (y_assign rfl) rfl ?_
       refine Wl.nil ?_
       refine Wq.next hK_68 ?_
       refine Wc.ret ?_
       refine Wq.then_ret (Wq.then_ret (Wq.block_ret (Wq.then_ret ?_)))
       refine ret2 rfl rfl rfl ?_
       exact ⟨_, rfl, (prs_none (bad_none hn0 hn1 (fun ⟨h1, k', h2⟩ => by
  have h3 := c2_67_
  rw [hq] at h3
  have h4 : isNilI e = true := by
    cases h : isNilI e
    · exact absurd h1 (hU.2.2.1 h)
    · rfl
  have h5 : isNilI e2 = true := by
    rcases hB with h | h
    · exact h.2
    · exact absurd h2 (h.1 k')
  rw [h4, h5] at h3; cases h3))).symm, hb⟩
      ·
       have c2_67_ := c2_67
       try simp only [decide_eq_true_eq, decide_eq_false_iff_not, beq_iff_eq, beq_eq_false_iff_ne, bne_iff_ne, bne_eq_false_iff_eq, Bool.not_eq_true', Bool.not_eq_false', Bool.not_eq_eq_eq_not, Bool.not_true, Bool.not_false, ne_eq, Int.not_lt, Int.not_le] at c2_67
       refine Wc.skip ?_
       refine Wq.next hK_55 ?_
       have hok : isNilI e = true ∧ isNilI e2 = true := by have h2 := c2_67_; rw [hq] at h2; simpa using h2
       have hk : Lib.atoiAll (cutP (Lib.trimPrefix s [45])).2 = .ok k := by rcases hB with h | h; exact h.1; (have := hok.2; rw [h.2] at this; cases this)
       obtain ⟨r, hr, hr2, hV⟩ := f_of (hU.2.1 hok.1).1
       refine Wc.region ?_
       refine Wl.y (y_move rfl) rfl ?_
       refine Wl.y (y_eq (y_convf Tryz.underlying22 Tryz.underlying26 rfl) (congrArg (Value.float .f64) hr)) rfl ?_
       refine Wl.y (y_move rfl) rfl ?_
       refine Wl.y (y_min rfl rfl) rfl ?_
       refine Wl.y (y_max rfl rfl) rfl ?_
       refine Wl.call txt87PrsC rfl rfl (Ldexp_r r hr2 _ (by omega) _) rfl ?_
       rintro _ w_k6 ⟨⟨y, rfl, hy, hX⟩, hs_k6⟩
       have hz_k6 := hs_k6.size
       have hb := hb.trans (hs_k6.mono hb.size)
       have hL := hL_hb.below hb
       have hy_ : y < 18446744073709551616 ∧ Meets s y := ⟨hy, meets_num hn0 hn1 (hU.2.1 hok.1).2 hk hV hX⟩
       refine Wl.y (y_assign rfl) rfl ?_
       refine Wl.nil ?_
       refine Wq.meet hM_21 (_) (Sub.cons' rfl (by rfl) (Sub.cons' rfl (by rfl) (Sub.cons' rfl (by rfl) (Sub.nil)))) ?_
       exact ⟨hb, hy_.1, hy_.2⟩
  ·
   rintro y wr hI_78
   replace hI_78 : Below w.heap.size w wr ∧ y < 18446744073709551616 ∧ Meets s y := hI_78
   obtain ⟨hb, hy, hm⟩ := hI_78
   show Wq _ _ _ _ [(0, str s), (5, .bool (Lib.hasPrefix s [45])), (6, .float .f64 y)] _
   have hL := hL_hb.below hb
   try have hzhb_c0 := hb.size
   refine Wq.block_normal ?_
   refine Wq.next hK_15 ?_
   refine Wc.seq fun _ hK_79 => ?_
   refine Wc.seq fun _ hK_80 => ?_
   refine Wc.region ?_
   refine Wl.y (y_move rfl) rfl ?_
   refine Wl.nil ?_
   refine Wq.next hK_80 ?_
   refine Wc.meet (X := Unit) (fun u_ => [(0, str s), (6, .float .f64 (app (Lib.hasPrefix s [45]) y))]) (fun u_ wr => Below w.heap.size w wr) (fun _ hM_82 => ?_) ?_
   ·
    refine Wc.cond rfl (fun c3_83 => ?_) (fun c3_83 => ?_)
    ·
     have c3_83_ := c3_83
     try simp only [decide_eq_true_eq, decide_eq_false_iff_not, beq_iff_eq, beq_eq_false_iff_ne, bne_iff_ne, bne_eq_false_iff_eq, Bool.not_eq_true', Bool.not_eq_false', Bool.not_eq_eq_eq_not, Bool.not_true, Bool.not_false, ne_eq, Int.not_lt, Int.not_le] at c3_83
     refine Wc.region ?_
     refine Wl.y (y_move rfl) rfl ?_
     refine Wl.y (y_negf rfl) rfl ?_
     refine Wl.y (y_assign rfl) rfl ?_
     refine Wl.nil ?_
     refine Wq.meet hM_82 (()) (Sub.cons' rfl (by first | rfl | (exact congrArg (Value.float .f64) (by rw [c3_83_]; rfl))) (Sub.cons' rfl (by first | rfl | (exact congrArg (Value.float .f64) (by rw [c3_83_]; rfl))) (Sub.nil))) ?_
     exact hb
    ·
     have c3_83_ := c3_83
     try simp only [decide_eq_true_eq, decide_eq_false_iff_not, beq_iff_eq, beq_eq_false_iff_ne, bne_iff_ne, bne_eq_false_iff_eq, Bool.not_eq_true', Bool.not_eq_false', Bool.not_eq_eq_eq_not, Bool.not_true, Bool.not_false, ne_eq, Int.not_lt, Int.not_le] at c3_83
     refine Wc.skip ?_
     refine Wq.meet hM_82 (()) (Sub.cons' rfl (by first | rfl | (exact congrArg (Value.float .f64) (by rw [c3_83_]; rfl))) (Sub.cons' rfl (by first | rfl | (exact congrArg (Value.float .f64) (by rw [c3_83_]; rfl))) (Sub.nil))) ?_
     exact hb
   ·
    rintro u_ wr hI_87
    replace hI_87 : Below w.heap.size w wr := hI_87
    have hb := hI_87
    show Wq _ _ _ _ [(0, str s), (6, .float .f64 (app (Lib.hasPrefix s [45]) y))] _
    have hL := hL_hb.below hb
    try have hzhb_c3 := hb.size
    refine Wq.next hK_79 ?_
    refine Wc.seq fun _ hK_88 => ?_
    refine Wc.seq fun _ hK_89 => ?_
    refine Wc.region ?_
    refine Wl.y (y_move rfl) rfl ?_
    refine Wl.call txt35PrsC rfl rfl (Text_r _ (app_lt hy) _ hL) rfl ?_
    rintro _ w_k7 ⟨rfl, hs_k7⟩
    have hz_k7 := hs_k7.size
    have hb := hb.trans (hs_k7.mono hb.size)
    have hL := hL_hb.below hb
    refine Wl.y (y_move rfl) rfl ?_
    refine Wl.y (y_neqs rfl rfl) rfl ?_
    refine Wl.nil ?_
    refine Wq.next hK_89 ?_
    refine Wc.cond rfl (fun c4_94 => ?_) (fun c4_94 => ?_)
    ·
     have c4_94_ := c4_94
     try simp only [decide_eq_true_eq, decide_eq_false_iff_not, beq_iff_eq, beq_eq_false_iff_ne, bne_iff_ne, bne_eq_false_iff_eq, Bool.not_eq_true', Bool.not_eq_false', Bool.not_eq_eq_eq_not, Bool.not_true, Bool.not_false, ne_eq, Int.not_lt, Int.not_le] at c4_94
     refine Wc.seq fun _ hK_95 => ?_
     refine Wc.region ?_
     refine Wl.y (y_assign rfl) rfl ?_
     refine Wl.y (y_assign rfl) rfl ?_
     refine Wl.nil ?_
     refine Wq.next hK_95 ?_
     refine Wc.ret ?_
     refine Wq.then_ret ?_
     refine ret2 rfl rfl rfl ?_
     exact ⟨_, rfl, (prs_none (tail_none hm (by simpa using c4_94_))).symm, hb⟩
    ·
     have c4_94_ := c4_94
     try simp only [decide_eq_true_eq, decide_eq_false_iff_not, beq_iff_eq, beq_eq_false_iff_ne, bne_iff_ne, bne_eq_false_iff_eq, Bool.not_eq_true', Bool.not_eq_false', Bool.not_eq_eq_eq_not, Bool.not_true, Bool.not_false, ne_eq, Int.not_lt, Int.not_le] at c4_94
     refine Wc.skip ?_
     refine Wq.next hK_88 ?_
     refine Wc.seq fun _ hK_98 => ?_
     refine Wc.region ?_
     refine Wl.y (y_move rfl) rfl ?_
     refine Wl.call txt52PrsC rfl rfl (Canon_r _ _) rfl ?_
     rintro _ w_ ⟨rfl, hw_⟩
     have hw_ := hw_.symm; subst hw_
     refine Wl.y (y_assign rfl) rfl ?_
     refine Wl.y (y_assign rfl) rfl ?_
     refine Wl.nil ?_
     refine Wq.next hK_98 ?_
     refine Wc.ret ?_
     refine ret2 rfl rfl rfl ?_
     exact ⟨_, rfl, (prs_some (tail_some hy (by simpa using c4_94_))).symm, hb⟩
end Go.Proofs.YtcljmclolpgdmaaGreatDoor
