/- The statement ValueBack, by the calculus. -/
import Derived.Test.YtcljmclolpgdmaaGreatDoorRaw
import Derived.Test.YtcljmclolpgdmaaGreatDoorBackM
import Derived.Test.YtcljmclolpgdmaaGreatDoorRepC
namespace Go.Proofs.YtcljmclolpgdmaaGreatDoor
open Go.RowKit Go.Bw Go.Bw.Fl
set_option linter.unusedVariables false
set_option linter.unusedSimpArgs false
theorem fa28_0LawV (p : Addr) (w : World) : (Instr.fieldAt 28 (.pointer (some p)) 0).run Tryz.prog w = .ok (.pointer (some (p.add 0))) w := run_fieldAt (i := 0) (sz := 0) Tryz.underlying28 rfl (by kernel_rfl) p w
theorem one3LawV : One Tryz.prog 3 := ⟨_, Tryz.underlying3, rfl, by kernel_rfl⟩
theorem txt12LawV : Txt Tryz.prog 12 := ⟨_, Tryz.func12, by kernel_rfl, rfl⟩   -- bridleway/bridlewaylaw02.shown
theorem txt13LawV : Txt Tryz.prog 13 := ⟨_, Tryz.func13, by kernel_rfl, rfl⟩   -- bridleway/bridlewaylaw02.of
theorem txt14LawV : Txt Tryz.prog 14 := ⟨_, Tryz.func14, by kernel_rfl, rfl⟩   -- bridleway/value.Text
theorem txt16LawV : Txt Tryz.prog 16 := ⟨_, Tryz.func16, by kernel_rfl, rfl⟩   -- bridleway/value.Read
theorem txt19LawV : Txt Tryz.prog 19 := ⟨_, Tryz.func19, by kernel_rfl, rfl⟩   -- bridleway/value.Right
theorem txt20LawV : Txt Tryz.prog 20 := ⟨_, Tryz.func20, by kernel_rfl, rfl⟩   -- bridleway/value.Same
theorem qcR_eq : qcR = qc := by
  funext c
  by_cases h1 : c = 92
  · subst h1; rfl
  by_cases h2 : c = 39
  · subst h2; rfl
  by_cases h3 : c = 10
  · subst h3; rfl
  rw [qc_plain h2 h3 h1]
  exact qcR_ns (by simp [spB, h1, h2, h3])
theorem quotedV_r (s : List UInt8) (w : World) (hl : s.length ≤ 1099511627776) : Ret Tryz.prog 36 [str s] w fun v w' => v = str (quoteV s) ∧ Below w.heap.size w w' := by
  have h := quoted_r s w hl
  rw [qcR_eq] at h
  exact h
theorem TextQ_r (a : Val) (oa : a.Ok) (hs : a.s.length ≤ 1099511627776) (w : World) (hL : Lb w) : Ret Tryz.prog 14 [a.enc] w fun v w' => v = .tuple #[str (textQ a), .int .i64 (textV (quoteV a.s) a).2] ∧ Below w.heap.size w w' :=
  VText_r (quoteV a.s) a oa w hL fun _ _ w _ => quotedV_r a.s w hs
theorem readV_sl {s : List UInt8} {v : Val} {n : Nat} (h : readV pf uqV s = some (v, n)) : v.s.length ≤ s.length := by
  obtain ⟨h1, h2⟩ := readV_right h
  by_cases h4 : v.k = 4
  · have ht : textQ v = quoteV v.s := by
      unfold textQ textV
      rw [if_neg (by rw [h1]; simp), if_neg (by omega), if_neg (by omega), if_neg (by omega), if_pos h4]
    have hl : v.s.length ≤ (quoteV v.s).length := by
      have : ∀ l : List UInt8, l.length ≤ (l.flatMap qc).length := fun l => by
        rw [← qcR_eq, qcR_len]; omega
      have := this v.s
      unfold quoteV; simp only [List.length_cons, List.length_append, List.length_nil]; omega
    rw [← ht, h2, List.length_take] at hl; omega
  · have : v.s = [] := by
      unfold rightV at h1
      by_cases k0 : v.k = 0
      · rw [if_pos k0] at h1; exact (of_decide_eq_true h1).2.2
      rw [if_neg k0] at h1
      by_cases k1 : v.k = 1
      · rw [if_pos k1] at h1; exact (of_decide_eq_true h1).2.2
      rw [if_neg k1] at h1
      by_cases k2 : v.k = 2
      · rw [if_pos k2] at h1; exact (of_decide_eq_true h1).2
      rw [if_neg k2] at h1
      by_cases k3 : v.k = 3
      · rw [if_pos k3] at h1; exact (of_decide_eq_true h1).2.1
      rw [if_neg k3, if_neg h4] at h1; cases h1
    rw [this]; simp
theorem Back_r (r : Raw) (s : List UInt8) (o : r.Ok) (hs : s.length ≤ 140737488355328) (w : World) (hL : Lb w) : Ret Tryz.prog 4 [r.enc, str s] w fun v w' => v = .bool true ∧ Below w.heap.size w w' := by
  obtain ⟨x, hx⟩ : ∃ x, x = s.take 100 := ⟨_, rfl⟩
  have hxl : x.length ≤ 100 := by rw [hx]; exact List.length_take_le _ _
  have hrs : r.val.s.length ≤ 60 := List.length_take_le _ _
  have hb := Below.refl w.heap.size w
  have hL_hb := hL
  refine enter Tryz.func4 rfl rfl rfl ?_
  refine Wc.seq fun _ hK_1 => ?_
  refine Wc.region ?_
  refine Wl.boxN rfl rfl ?_
  rintro g_o0 w_o0 hg_o0 hn_o0 hs_o0
  have hz_o0 := hs_o0.size
  have hb := hb.trans (hs_o0.mono hb.size)
  have hL := hL_hb.below hb
  have hB_o0 := hn_o0
  have hl_o0 := hB_o0.lt
  refine Wl.y (y_assign rfl) rfl ?_
  refine Wl.nil ?_
  refine Wq.next hK_1 ?_
  refine Wc.seq fun _ hK_4 => ?_
  refine Wc.region ?_
  refine Wl.call txt12LawV rfl rfl (shown_r _ hL) rfl ?_
  rintro _ w_k0 ⟨rfl, hs_k0⟩
  have hz_k0 := hs_k0.size
  have hb := hb.trans (hs_k0.mono hb.size)
  have hL := hL_hb.below hb
  try have hB_o0 := Blk.below hB_o0 hs_k0
  refine Wl.y (y_assign rfl) rfl ?_
  refine Wl.nil ?_
  refine Wq.next hK_4 ?_
  refine Wc.seq fun _ hK_7 => ?_
  refine Wc.region ?_
  refine Wl.l (l_loadS Tryz.underlying24 (by kernel_rfl) rfl (by first | exact fun j u hu => hB_o0.at hu | assumption)) rfl ?_
  refine Wl.call txt13LawV rfl rfl (of_r r o _) rfl ?_
  rintro _ w_k1 ⟨rfl, hs_k1⟩
  have hz_k1 := hs_k1.size
  have hb := hb.trans (hs_k1.mono hb.size)
  have hL := hL_hb.below hb
  try have hB_o0 := Blk.below hB_o0 hs_k1
  refine Wl.allocN (z := (.agg #[(.int .i64 0), (.int .i64 0), (.float .f64 0), (str [])])) (by kernel_rfl) rfl ?_
  rintro g_o3 w_o3 hg_o3 hn_o3 hs_o3
  have hz_o3 := hs_o3.size
  have hb := hb.trans (hs_o3.mono hb.size)
  have hL := hL_hb.below hb
  try have hB_o0 := Blk.below hB_o0 hs_o3
  have hB_o3 := hn_o3
  have hl_o3 := hB_o3.lt
  refine Wl.storeS (by kernel_rfl) rfl rfl hB_o3 rfl rfl ?_
  rintro w_s0 hn_s0 hg_s0
  have hz_s0 := hg_s0.size
  have hb := below_blk hb hg_s0 hb.size (by omega)
  have hL := hL_hb.below hb
  try have hB_o0 := hB_o0.over hg_s0 (by omega)
  have hB_o3 := hn_s0
  refine Wl.nil ?_
  refine Wq.next hK_7 ?_
  refine Wc.seq fun _ hK_11 => ?_
  refine Wc.region ?_
  refine Wl.y (y_move rfl) rfl ?_
  refine Wl.y (y_move rfl) rfl ?_
  refine Wl.y (y_lens Tryz.underlying9 (by omega) rfl) rfl ?_
  refine Wl.y (y_eq (y_min rfl rfl) (int_eq (show min (s.length : Int) 100 = ((min s.length 100 : Nat) : Int) by omega))) rfl ?_
  refine Wl.y (y_eq (y_slicesH Tryz.underlying9 rfl rfl (by omega) (by omega)) (str_eq (show _ = x by rw [hx, Int.toNat_natCast]; exact List.take_eq_take_iff.2 (by omega)))) rfl ?_
  refine Wl.y (y_assign rfl) rfl ?_
  refine Wl.nil ?_
  refine Wq.next hK_11 ?_
  refine Wc.seq fun _ hK_18 => ?_
  refine Wc.seq fun _ hK_19 => ?_
  refine Wc.region ?_
  refine Wl.l (l_loadS Tryz.underlying28 (by kernel_rfl) rfl (by first | exact fun j u hu => hB_o0.at hu | exact fun j u hu => hB_o3.at hu | assumption)) rfl ?_
  refine Wl.call txt19LawV rfl rfl (Right_r _ o.val _) rfl ?_
  rintro _ w_k2 ⟨rfl, hs_k2⟩
  have hz_k2 := hs_k2.size
  have hb := hb.trans (hs_k2.mono hb.size)
  have hL := hL_hb.below hb
  try have hB_o0 := Blk.below hB_o0 hs_k2
  try have hB_o3 := Blk.below hB_o3 hs_k2
  refine Wl.nil ?_
  refine Wq.next hK_19 ?_
  refine Wc.cond rfl (fun c0_22 => ?_) (fun c0_22 => ?_)
  ·
   have c0_22_ := c0_22
   try simp only [decide_eq_true_eq, decide_eq_false_iff_not, beq_iff_eq, beq_eq_false_iff_ne, bne_iff_ne, bne_eq_false_iff_eq, Bool.not_eq_true', Bool.not_eq_false', Bool.not_eq_eq_eq_not, Bool.not_true, Bool.not_false, ne_eq, Int.not_lt, Int.not_le] at c0_22
   have hrt : rightV r.val = true := c0_22_
   have hqt := read_text o.val hrt
   have hql := textQ_len o.val hrt
   refine Wc.seq fun _ hK_23 => ?_
   refine Wc.region ?_
   refine Wl.l (l_loadS Tryz.underlying28 (by kernel_rfl) rfl (by first | exact fun j u hu => hB_o0.at hu | exact fun j u hu => hB_o3.at hu | assumption)) rfl ?_
   refine Wl.call txt14LawV rfl rfl (TextQ_r _ o.val (by omega) _ hL) rfl ?_
   rintro _ w_k3 ⟨rfl, hs_k3⟩
   have hz_k3 := hs_k3.size
   have hb := hb.trans (hs_k3.mono hb.size)
   have hL := hL_hb.below hb
   try have hB_o0 := Blk.below hB_o0 hs_k3
   try have hB_o3 := Blk.below hB_o3 hs_k3
   refine Wl.y (y_move rfl) rfl ?_
   refine Wl.y (y_extract rfl rfl) rfl ?_
   refine Wl.y (y_extract rfl rfl) rfl ?_
   refine Wl.y (y_assign rfl) rfl ?_
   refine Wl.y (y_assign rfl) rfl ?_
   refine Wl.nil ?_
   refine Wq.next hK_23 ?_
   refine Wc.seq fun _ hK_31 => ?_
   refine Wc.region ?_
   refine Wl.y (y_move rfl) rfl ?_
   refine Wl.y (y_adds rfl rfl (by simp only [List.length_cons, List.length_nil]; omega)) rfl ?_
   refine Wl.y (y_move rfl) rfl ?_
   refine Wl.y (y_eq (y_adds rfl rfl (by simp only [List.length_append, List.length_cons, List.length_nil]; omega)) (str_eq (show _ = textQ r.val ++ 32 :: x by simp))) rfl ?_
   refine Wl.call txt16LawV rfl rfl (Read_x _ (by simp only [List.length_append, List.length_cons]; omega) _ hL) rfl ?_
   rintro _ w_k4 ⟨⟨u, n, ok, rfl, hr⟩, hs_k4⟩
   have hz_k4 := hs_k4.size
   have hb := hb.trans (hs_k4.mono hb.size)
   have hL := hL_hb.below hb
   try have hB_o0 := Blk.below hB_o0 hs_k4
   try have hB_o3 := Blk.below hB_o3 hs_k4
   refine Wl.y (y_move rfl) rfl ?_
   refine Wl.y (y_extract rfl rfl) rfl ?_
   refine Wl.y (y_extract rfl rfl) rfl ?_
   refine Wl.y (y_extract rfl rfl) rfl ?_
   refine Wl.allocN (z := (.agg #[(.int .i64 0), (.int .i64 0), (.float .f64 0), (str [])])) (by kernel_rfl) rfl ?_
   rintro g_o20 w_o20 hg_o20 hn_o20 hs_o20
   have hz_o20 := hs_o20.size
   have hb := hb.trans (hs_o20.mono hb.size)
   have hL := hL_hb.below hb
   try have hB_o0 := Blk.below hB_o0 hs_o20
   try have hB_o3 := Blk.below hB_o3 hs_o20
   have hB_o20 := hn_o20
   have hl_o20 := hB_o20.lt
   refine Wl.storeS (by kernel_rfl) rfl rfl hB_o20 rfl rfl ?_
   rintro w_s1 hn_s1 hg_s1
   have hz_s1 := hg_s1.size
   have hb := below_blk hb hg_s1 hb.size (by omega)
   have hL := hL_hb.below hb
   try have hB_o0 := hB_o0.over hg_s1 (by omega)
   try have hB_o3 := hB_o3.over hg_s1 (by omega)
   have hB_o20 := hn_s1
   refine Wl.y (y_assign rfl) rfl ?_
   refine Wl.y (y_assign rfl) rfl ?_
   refine Wl.nil ?_
   refine Wq.next hK_31 ?_
   refine Wc.seq fun _ hK_44 => ?_
   obtain ⟨rfl, rfl, rfl⟩ := hr.hit (readV_more x stop32 hqt)
   refine Wc.region ?_
   refine Wl.y (y_move rfl) rfl ?_
   refine Wl.y (y_neqi rfl rfl) rfl ?_
   refine Wl.y (y_move rfl) rfl ?_
   refine Wl.guardF rfl rfl rfl (fun g_48 => ?_) (fun g_48 => ?_)
   ·
    have g_48_ := g_48
    try simp only [decide_eq_true_eq, decide_eq_false_iff_not, beq_iff_eq, beq_eq_false_iff_ne, bne_iff_ne, bne_eq_false_iff_eq, Bool.not_eq_true', Bool.not_eq_false', Bool.not_eq_eq_eq_not, Bool.not_true, Bool.not_false, ne_eq, Int.not_lt, Int.not_le] at g_48
    exact absurd (textV_ok hrt) g_48
   ·
    have g_48_ := g_48
    try simp only [decide_eq_true_eq, decide_eq_false_iff_not, beq_iff_eq, beq_eq_false_iff_ne, bne_iff_ne, bne_eq_false_iff_eq, Bool.not_eq_true', Bool.not_eq_false', Bool.not_eq_eq_eq_not, Bool.not_true, Bool.not_false, ne_eq, Int.not_lt, Int.not_le] at g_48
    refine Wl.y (y_move rfl) rfl ?_
    refine Wl.on' rfl rfl g_48_ ?_
    refine Wl.y (y_not rfl) rfl ?_
    refine Wl.y (y_pickF rfl g_48_ rfl) rfl ?_
    refine Wl.y (y_move rfl) rfl ?_
    refine Wl.guardF rfl rfl rfl (fun g_53 => ?_) (fun g_53 => ?_)
    ·
     have g_53_ := g_53
     try simp only [decide_eq_true_eq, decide_eq_false_iff_not, beq_iff_eq, beq_eq_false_iff_ne, bne_iff_ne, bne_eq_false_iff_eq, Bool.not_eq_true', Bool.not_eq_false', Bool.not_eq_eq_eq_not, Bool.not_true, Bool.not_false, ne_eq, Int.not_lt, Int.not_le] at g_53
     exact absurd g_53_ (by decide)
    ·
     have g_53_ := g_53
     try simp only [decide_eq_true_eq, decide_eq_false_iff_not, beq_iff_eq, beq_eq_false_iff_ne, bne_iff_ne, bne_eq_false_iff_eq, Bool.not_eq_true', Bool.not_eq_false', Bool.not_eq_eq_eq_not, Bool.not_true, Bool.not_false, ne_eq, Int.not_lt, Int.not_le] at g_53
     refine Wl.y (y_move rfl) rfl ?_
     refine Wl.on' rfl rfl g_53_ ?_
     refine Wl.y (y_move rfl) rfl ?_
     refine Wl.on' rfl rfl g_53_ ?_
     refine Wl.y (y_lens Tryz.underlying9 (by omega) rfl) rfl ?_
     refine Wl.on' rfl rfl g_53_ ?_
     refine Wl.y (y_neqi rfl rfl) rfl ?_
     refine Wl.y (y_pickF rfl g_53_ rfl) rfl ?_
     refine Wl.y (y_move rfl) rfl ?_
     refine Wl.guardF rfl rfl rfl (fun g_60 => ?_) (fun g_60 => ?_)
     ·
      have g_60_ := g_60
      try simp only [decide_eq_true_eq, decide_eq_false_iff_not, beq_iff_eq, beq_eq_false_iff_ne, bne_iff_ne, bne_eq_false_iff_eq, Bool.not_eq_true', Bool.not_eq_false', Bool.not_eq_eq_eq_not, Bool.not_true, Bool.not_false, ne_eq, Int.not_lt, Int.not_le] at g_60
      exact absurd g_60_ (by simp)
     ·
      have g_60_ := g_60
      try simp only [decide_eq_true_eq, decide_eq_false_iff_not, beq_iff_eq, beq_eq_false_iff_ne, bne_iff_ne, bne_eq_false_iff_eq, Bool.not_eq_true', Bool.not_eq_false', Bool.not_eq_eq_eq_not, Bool.not_true, Bool.not_false, ne_eq, Int.not_lt, Int.not_le] at g_60
      refine Wl.l (l_loadS Tryz.underlying28 (by kernel_rfl) rfl (by first | exact fun j u hu => hB_o0.at hu | exact fun j u hu => hB_o3.at hu | exact fun j u hu => hB_o20.at hu | assumption)) rfl ?_
      refine Wl.on' rfl rfl g_60_ ?_
      refine Wl.l (l_loadS Tryz.underlying28 (by kernel_rfl) rfl (by first | exact fun j u hu => hB_o0.at hu | exact fun j u hu => hB_o3.at hu | exact fun j u hu => hB_o20.at hu | assumption)) rfl ?_
      refine Wl.on' rfl rfl g_60_ ?_
      refine Wl.call txt20LawV rfl rfl (Same_r _ _ o.val o.val _) rfl ?_
      rintro _ w_k5 ⟨rfl, hs_k5⟩
      have hz_k5 := hs_k5.size
      have hb := hb.trans (hs_k5.mono hb.size)
      have hL := hL_hb.below hb
      try have hB_o0 := Blk.below hB_o0 hs_k5
      try have hB_o3 := Blk.below hB_o3 hs_k5
      try have hB_o20 := Blk.below hB_o20 hs_k5
      refine Wl.on' rfl rfl g_60_ ?_
      refine Wl.y (y_not rfl) rfl ?_
      refine Wl.y (y_pickF rfl g_60_ rfl) rfl ?_
      refine Wl.nil ?_
      refine Wq.next hK_44 ?_
      refine Wc.cond rfl (fun c1_66 => ?_) (fun c1_66 => ?_)
      ·
       have c1_66_ := c1_66
       try simp only [decide_eq_true_eq, decide_eq_false_iff_not, beq_iff_eq, beq_eq_false_iff_ne, bne_iff_ne, bne_eq_false_iff_eq, Bool.not_eq_true', Bool.not_eq_false', Bool.not_eq_eq_eq_not, Bool.not_true, Bool.not_false, ne_eq, Int.not_lt, Int.not_le] at c1_66
       exact absurd c1_66_ (by rw [sameV_self]; decide)
      ·
       have c1_66_ := c1_66
       try simp only [decide_eq_true_eq, decide_eq_false_iff_not, beq_iff_eq, beq_eq_false_iff_ne, bne_iff_ne, bne_eq_false_iff_eq, Bool.not_eq_true', Bool.not_eq_false', Bool.not_eq_eq_eq_not, Bool.not_true, Bool.not_false, ne_eq, Int.not_lt, Int.not_le] at c1_66
       refine Wc.skip ?_
       refine Wq.next hK_18 ?_
       refine Wc.seq fun _ hK_67 => ?_
       refine Wc.region ?_
       refine Wl.y (y_move rfl) rfl ?_
       refine Wl.call txt16LawV rfl rfl (Read_x x (by omega) _ hL) rfl ?_
       rintro _ w_k6 ⟨⟨u2, n2, ok2, rfl, hr2⟩, hs_k6⟩
       have hz_k6 := hs_k6.size
       have hb := hb.trans (hs_k6.mono hb.size)
       have hL := hL_hb.below hb
       try have hB_o0 := Blk.below hB_o0 hs_k6
       try have hB_o3 := Blk.below hB_o3 hs_k6
       try have hB_o20 := Blk.below hB_o20 hs_k6
       refine Wl.y (y_move rfl) rfl ?_
       refine Wl.y (y_extract rfl rfl) rfl ?_
       refine Wl.y (y_extract rfl rfl) rfl ?_
       refine Wl.y (y_extract rfl rfl) rfl ?_
       refine Wl.allocN (z := (.agg #[(.int .i64 0), (.int .i64 0), (.float .f64 0), (str [])])) (by kernel_rfl) rfl ?_
       rintro g_o43 w_o43 hg_o43 hn_o43 hs_o43
       have hz_o43 := hs_o43.size
       have hb := hb.trans (hs_o43.mono hb.size)
       have hL := hL_hb.below hb
       try have hB_o0 := Blk.below hB_o0 hs_o43
       try have hB_o3 := Blk.below hB_o3 hs_o43
       try have hB_o20 := Blk.below hB_o20 hs_o43
       have hB_o43 := hn_o43
       have hl_o43 := hB_o43.lt
       refine Wl.storeS (by kernel_rfl) rfl rfl hB_o43 rfl rfl ?_
       rintro w_s2 hn_s2 hg_s2
       have hz_s2 := hg_s2.size
       have hb := below_blk hb hg_s2 hb.size (by omega)
       have hL := hL_hb.below hb
       try have hB_o0 := hB_o0.over hg_s2 (by omega)
       try have hB_o3 := hB_o3.over hg_s2 (by omega)
       try have hB_o20 := hB_o20.over hg_s2 (by omega)
       have hB_o43 := hn_s2
       refine Wl.y (y_assign rfl) rfl ?_
       refine Wl.y (y_assign rfl) rfl ?_
       refine Wl.nil ?_
       refine Wq.next hK_67 ?_
       refine Wc.seq fun _ hK_77 => ?_
       refine Wc.seq fun _ hK_78 => ?_
       refine Wc.region ?_
       refine Wl.y (y_move rfl) rfl ?_
       refine Wl.y (y_not rfl) rfl ?_
       refine Wl.nil ?_
       refine Wq.next hK_78 ?_
       refine Wc.cond rfl (fun c2_81 => ?_) (fun c2_81 => ?_)
       ·
        have c2_81_ := c2_81
        try simp only [decide_eq_true_eq, decide_eq_false_iff_not, beq_iff_eq, beq_eq_false_iff_ne, bne_iff_ne, bne_eq_false_iff_eq, Bool.not_eq_true', Bool.not_eq_false', Bool.not_eq_eq_eq_not, Bool.not_true, Bool.not_false, ne_eq, Int.not_lt, Int.not_le] at c2_81
        obtain ⟨rfl, hrx, rfl, rfl⟩ : ok2 = false ∧ readV pf uqV x = none ∧ u2 = nullV ∧ n2 = 0 := by
          rcases hr2 with h | h
          · have := c2_81_; rw [h.1] at this; cases this
          · exact h
        refine Wc.seq fun _ hK_82 => ?_
        refine Wc.region ?_
        refine Wl.y (y_move rfl) rfl ?_
        refine Wl.y (y_move rfl) rfl ?_
        refine Wl.guardT rfl rfl rfl (fun g_85 => ?_) (fun g_85 => ?_)
        ·
         have g_85_ := g_85
         try simp only [decide_eq_true_eq, decide_eq_false_iff_not, beq_iff_eq, beq_eq_false_iff_ne, bne_iff_ne, bne_eq_false_iff_eq, Bool.not_eq_true', Bool.not_eq_false', Bool.not_eq_eq_eq_not, Bool.not_true, Bool.not_false, ne_eq, Int.not_lt, Int.not_le] at g_85
         refine Wl.y (y_move rfl) rfl ?_
         refine Wl.on' rfl rfl g_85_ ?_
         refine Wl.y (y_eqli rfl rfl) rfl ?_
         refine Wl.y (y_pickT rfl g_85_ rfl) rfl ?_
         refine Wl.y (y_move rfl) rfl ?_
         refine Wl.guardT rfl rfl rfl (fun g_90 => ?_) (fun g_90 => ?_)
         ·
          have g_90_ := g_90
          try simp only [decide_eq_true_eq, decide_eq_false_iff_not, beq_iff_eq, beq_eq_false_iff_ne, bne_iff_ne, bne_eq_false_iff_eq, Bool.not_eq_true', Bool.not_eq_false', Bool.not_eq_eq_eq_not, Bool.not_true, Bool.not_false, ne_eq, Int.not_lt, Int.not_le] at g_90
          refine Wl.y (y_fieldAddr (fa28_0LawV _) rfl) rfl ?_
          refine Wl.on' rfl rfl g_90_ ?_
          refine Wl.l (l_load one3LawV rfl (by first | exact hB_o0.at rfl | exact hB_o3.at rfl | exact hB_o20.at rfl | exact hB_o43.at rfl | exact hB_o0.cell 0 | exact hB_o3.cell 0 | exact hB_o20.cell 0 | exact hB_o43.cell 0 | assumption)) rfl ?_
          refine Wl.on' rfl rfl g_90_ ?_
          refine Wl.y (y_eqli rfl rfl) rfl ?_
          refine Wl.y (y_pickT rfl g_90_ rfl) rfl ?_
          refine Wl.y (y_assign rfl) rfl ?_
          refine Wl.nil ?_
          refine Wq.next hK_82 ?_
          refine Wc.ret ?_
          refine Wq.then_ret ?_
          refine ret1 rfl rfl ?_
          exact ⟨_, rfl, rfl, hb⟩
         ·
          have g_90_ := g_90
          try simp only [decide_eq_true_eq, decide_eq_false_iff_not, beq_iff_eq, beq_eq_false_iff_ne, bne_iff_ne, bne_eq_false_iff_eq, Bool.not_eq_true', Bool.not_eq_false', Bool.not_eq_eq_eq_not, Bool.not_true, Bool.not_false, ne_eq, Int.not_lt, Int.not_le] at g_90
          exact absurd g_90_ (by decide)
        ·
         have g_85_ := g_85
         try simp only [decide_eq_true_eq, decide_eq_false_iff_not, beq_iff_eq, beq_eq_false_iff_ne, bne_iff_ne, bne_eq_false_iff_eq, Bool.not_eq_true', Bool.not_eq_false', Bool.not_eq_eq_eq_not, Bool.not_true, Bool.not_false, ne_eq, Int.not_lt, Int.not_le] at g_85
         exact absurd g_85_ (by decide)
       ·
        have c2_81_ := c2_81
        try simp only [decide_eq_true_eq, decide_eq_false_iff_not, beq_iff_eq, beq_eq_false_iff_ne, bne_iff_ne, bne_eq_false_iff_eq, Bool.not_eq_true', Bool.not_eq_false', Bool.not_eq_eq_eq_not, Bool.not_true, Bool.not_false, ne_eq, Int.not_lt, Int.not_le] at c2_81
        obtain ⟨rfl, hrx⟩ : ok2 = true ∧ readV pf uqV x = some (u2, n2) := by
          rcases hr2 with h | h
          · exact h
          · have := c2_81_; rw [h.1] at this; cases this
        have hnl := readV_len hrx
        have ou := readV_ok hrx
        have hrr := readV_right hrx
        have hsl := readV_sl hrx
        refine Wc.skip ?_
        refine Wq.next hK_77 ?_
        refine Wc.seq fun _ hK_96 => ?_
        refine Wc.region ?_
        refine Wl.l (l_loadS Tryz.underlying28 (by kernel_rfl) rfl (by first | exact fun j u hu => hB_o0.at hu | exact fun j u hu => hB_o3.at hu | exact fun j u hu => hB_o20.at hu | exact fun j u hu => hB_o43.at hu | assumption)) rfl ?_
        refine Wl.call txt14LawV rfl rfl (TextQ_r u2 ou (by omega) _ hL) rfl ?_
        rintro _ w_k7 ⟨rfl, hs_k7⟩
        have hz_k7 := hs_k7.size
        have hb := hb.trans (hs_k7.mono hb.size)
        have hL := hL_hb.below hb
        try have hB_o0 := Blk.below hB_o0 hs_k7
        try have hB_o3 := Blk.below hB_o3 hs_k7
        try have hB_o20 := Blk.below hB_o20 hs_k7
        try have hB_o43 := Blk.below hB_o43 hs_k7
        refine Wl.y (y_move rfl) rfl ?_
        refine Wl.y (y_extract rfl rfl) rfl ?_
        refine Wl.y (y_extract rfl rfl) rfl ?_
        refine Wl.y (y_assign rfl) rfl ?_
        refine Wl.y (y_assign rfl) rfl ?_
        refine Wl.nil ?_
        refine Wq.next hK_96 ?_
        refine Wc.seq fun _ hK_104 => ?_
        refine Wc.region ?_
        refine Wl.y (y_move rfl) rfl ?_
        refine Wl.y (y_move rfl) rfl ?_
        refine Wl.guardT rfl rfl rfl (fun g_107 => ?_) (fun g_107 => ?_)
        ·
         have g_107_ := g_107
         try simp only [decide_eq_true_eq, decide_eq_false_iff_not, beq_iff_eq, beq_eq_false_iff_ne, bne_iff_ne, bne_eq_false_iff_eq, Bool.not_eq_true', Bool.not_eq_false', Bool.not_eq_eq_eq_not, Bool.not_true, Bool.not_false, ne_eq, Int.not_lt, Int.not_le] at g_107
         refine Wl.l (l_loadS Tryz.underlying28 (by kernel_rfl) rfl (by first | exact fun j u hu => hB_o0.at hu | exact fun j u hu => hB_o3.at hu | exact fun j u hu => hB_o20.at hu | exact fun j u hu => hB_o43.at hu | assumption)) rfl ?_
         refine Wl.on' rfl rfl g_107_ ?_
         refine Wl.call txt19LawV rfl rfl (Right_r _ ou _) rfl ?_
         rintro _ w_k8 ⟨rfl, hs_k8⟩
         have hz_k8 := hs_k8.size
         have hb := hb.trans (hs_k8.mono hb.size)
         have hL := hL_hb.below hb
         refine Wl.y (y_pickT rfl g_107_ rfl) rfl ?_
         refine Wl.y (y_move rfl) rfl ?_
         refine Wl.guardT rfl rfl rfl (fun g_112 => ?_) (fun g_112 => ?_)
         ·
          have g_112_ := g_112
          try simp only [decide_eq_true_eq, decide_eq_false_iff_not, beq_iff_eq, beq_eq_false_iff_ne, bne_iff_ne, bne_eq_false_iff_eq, Bool.not_eq_true', Bool.not_eq_false', Bool.not_eq_eq_eq_not, Bool.not_true, Bool.not_false, ne_eq, Int.not_lt, Int.not_le] at g_112
          refine Wl.y (y_move rfl) rfl ?_
          refine Wl.on' rfl rfl g_112_ ?_
          refine Wl.y (y_eqli rfl rfl) rfl ?_
          refine Wl.y (y_pickT rfl g_112_ rfl) rfl ?_
          refine Wl.y (y_move rfl) rfl ?_
          refine Wl.guardT rfl rfl rfl (fun g_117 => ?_) (fun g_117 => ?_)
          ·
           have g_117_ := g_117
           try simp only [decide_eq_true_eq, decide_eq_false_iff_not, beq_iff_eq, beq_eq_false_iff_ne, bne_iff_ne, bne_eq_false_iff_eq, Bool.not_eq_true', Bool.not_eq_false', Bool.not_eq_eq_eq_not, Bool.not_true, Bool.not_false, ne_eq, Int.not_lt, Int.not_le] at g_117
           refine Wl.y (y_move rfl) rfl ?_
           refine Wl.on' rfl rfl g_117_ ?_
           refine Wl.y (y_gtri rfl rfl) rfl ?_
           refine Wl.y (y_pickT rfl g_117_ rfl) rfl ?_
           refine Wl.y (y_move rfl) rfl ?_
           refine Wl.guardT rfl rfl rfl (fun g_122 => ?_) (fun g_122 => ?_)
           ·
            have g_122_ := g_122
            try simp only [decide_eq_true_eq, decide_eq_false_iff_not, beq_iff_eq, beq_eq_false_iff_ne, bne_iff_ne, bne_eq_false_iff_eq, Bool.not_eq_true', Bool.not_eq_false', Bool.not_eq_eq_eq_not, Bool.not_true, Bool.not_false, ne_eq, Int.not_lt, Int.not_le] at g_122
            refine Wl.y (y_move rfl) rfl ?_
            refine Wl.on' rfl rfl g_122_ ?_
            refine Wl.y (y_move rfl) rfl ?_
            refine Wl.on' rfl rfl g_122_ ?_
            refine Wl.y (y_lens Tryz.underlying9 (by omega) rfl) rfl ?_
            refine Wl.on' rfl rfl g_122_ ?_
            refine Wl.y (y_leqi rfl rfl) rfl ?_
            refine Wl.y (y_pickT rfl g_122_ rfl) rfl ?_
            refine Wl.y (y_move rfl) rfl ?_
            refine Wl.guardT rfl rfl rfl (fun g_129 => ?_) (fun g_129 => ?_)
            ·
             have g_129_ := g_129
             try simp only [decide_eq_true_eq, decide_eq_false_iff_not, beq_iff_eq, beq_eq_false_iff_ne, bne_iff_ne, bne_eq_false_iff_eq, Bool.not_eq_true', Bool.not_eq_false', Bool.not_eq_eq_eq_not, Bool.not_true, Bool.not_false, ne_eq, Int.not_lt, Int.not_le] at g_129
             refine Wl.y (y_move rfl) rfl ?_
             refine Wl.on' rfl rfl g_129_ ?_
             refine Wl.y (y_move rfl) rfl ?_
             refine Wl.on' rfl rfl g_129_ ?_
             refine Wl.y (y_move rfl) rfl ?_
             refine Wl.on' rfl rfl g_129_ ?_
             refine Wl.y (y_slicesH Tryz.underlying9 rfl rfl (by omega) (by omega)) rfl ?_
             refine Wl.on' rfl rfl g_129_ ?_
             refine Wl.y (y_eqls rfl rfl) rfl ?_
             refine Wl.y (y_pickT rfl g_129_ rfl) rfl ?_
             refine Wl.y (y_assign rfl) rfl ?_
             refine Wl.nil ?_
             refine Wq.next hK_104 ?_
             refine Wc.ret ?_
             refine ret1 rfl rfl ?_
             exact ⟨_, rfl, bool_eq (by rw [hrr.2, Int.toNat_natCast]; simp), hb⟩
            ·
             have g_129_ := g_129
             try simp only [decide_eq_true_eq, decide_eq_false_iff_not, beq_iff_eq, beq_eq_false_iff_ne, bne_iff_ne, bne_eq_false_iff_eq, Bool.not_eq_true', Bool.not_eq_false', Bool.not_eq_eq_eq_not, Bool.not_true, Bool.not_false, ne_eq, Int.not_lt, Int.not_le] at g_129
             omega
           ·
            have g_122_ := g_122
            try simp only [decide_eq_true_eq, decide_eq_false_iff_not, beq_iff_eq, beq_eq_false_iff_ne, bne_iff_ne, bne_eq_false_iff_eq, Bool.not_eq_true', Bool.not_eq_false', Bool.not_eq_eq_eq_not, Bool.not_true, Bool.not_false, ne_eq, Int.not_lt, Int.not_le] at g_122
            omega
          ·
           have g_117_ := g_117
           try simp only [decide_eq_true_eq, decide_eq_false_iff_not, beq_iff_eq, beq_eq_false_iff_ne, bne_iff_ne, bne_eq_false_iff_eq, Bool.not_eq_true', Bool.not_eq_false', Bool.not_eq_eq_eq_not, Bool.not_true, Bool.not_false, ne_eq, Int.not_lt, Int.not_le] at g_117
           exact absurd (textV_ok hrr.1) g_117
         ·
          have g_112_ := g_112
          try simp only [decide_eq_true_eq, decide_eq_false_iff_not, beq_iff_eq, beq_eq_false_iff_ne, bne_iff_ne, bne_eq_false_iff_eq, Bool.not_eq_true', Bool.not_eq_false', Bool.not_eq_eq_eq_not, Bool.not_true, Bool.not_false, ne_eq, Int.not_lt, Int.not_le] at g_112
          exact absurd g_112_ (by rw [hrr.1]; decide)
        ·
         have g_107_ := g_107
         try simp only [decide_eq_true_eq, decide_eq_false_iff_not, beq_iff_eq, beq_eq_false_iff_ne, bne_iff_ne, bne_eq_false_iff_eq, Bool.not_eq_true', Bool.not_eq_false', Bool.not_eq_eq_eq_not, Bool.not_true, Bool.not_false, ne_eq, Int.not_lt, Int.not_le] at g_107
         exact absurd g_107_ (by decide)
  ·
   have c0_22_ := c0_22
   try simp only [decide_eq_true_eq, decide_eq_false_iff_not, beq_iff_eq, beq_eq_false_iff_ne, bne_iff_ne, bne_eq_false_iff_eq, Bool.not_eq_true', Bool.not_eq_false', Bool.not_eq_eq_eq_not, Bool.not_true, Bool.not_false, ne_eq, Int.not_lt, Int.not_le] at c0_22
   refine Wc.skip ?_
   refine Wq.next hK_18 ?_
   refine Wc.seq fun _ hK_137 => ?_
   refine Wc.region ?_
   refine Wl.y (y_move rfl) rfl ?_
   refine Wl.call txt16LawV rfl rfl (Read_x x (by omega) _ hL) rfl ?_
   rintro _ w_k6 ⟨⟨u2, n2, ok2, rfl, hr2⟩, hs_k6⟩
   have hz_k6 := hs_k6.size
   have hb := hb.trans (hs_k6.mono hb.size)
   have hL := hL_hb.below hb
   try have hB_o0 := Blk.below hB_o0 hs_k6
   try have hB_o3 := Blk.below hB_o3 hs_k6
   refine Wl.y (y_move rfl) rfl ?_
   refine Wl.y (y_extract rfl rfl) rfl ?_
   refine Wl.y (y_extract rfl rfl) rfl ?_
   refine Wl.y (y_extract rfl rfl) rfl ?_
   refine Wl.allocN (z := (.agg #[(.int .i64 0), (.int .i64 0), (.float .f64 0), (str [])])) (by kernel_rfl) rfl ?_
   rintro g_o43 w_o43 hg_o43 hn_o43 hs_o43
   have hz_o43 := hs_o43.size
   have hb := hb.trans (hs_o43.mono hb.size)
   have hL := hL_hb.below hb
   try have hB_o0 := Blk.below hB_o0 hs_o43
   try have hB_o3 := Blk.below hB_o3 hs_o43
   have hB_o43 := hn_o43
   have hl_o43 := hB_o43.lt
   refine Wl.storeS (by kernel_rfl) rfl rfl hB_o43 rfl rfl ?_
   rintro w_s2 hn_s2 hg_s2
   have hz_s2 := hg_s2.size
   have hb := below_blk hb hg_s2 hb.size (by omega)
   have hL := hL_hb.below hb
   try have hB_o0 := hB_o0.over hg_s2 (by omega)
   try have hB_o3 := hB_o3.over hg_s2 (by omega)
   have hB_o43 := hn_s2
   refine Wl.y (y_assign rfl) rfl ?_
   refine Wl.y (y_assign rfl) rfl ?_
   refine Wl.nil ?_
   refine Wq.next hK_137 ?_
   refine Wc.seq fun _ hK_147 => ?_
   refine Wc.seq fun _ hK_148 => ?_
   refine Wc.region ?_
   refine Wl.y (y_move rfl) rfl ?_
   refine Wl.y (y_not rfl) rfl ?_
   refine Wl.nil ?_
   refine Wq.next hK_148 ?_
   refine Wc.cond rfl (fun c2_151 => ?_) (fun c2_151 => ?_)
   ·
    have c2_151_ := c2_151
    try simp only [decide_eq_true_eq, decide_eq_false_iff_not, beq_iff_eq, beq_eq_false_iff_ne, bne_iff_ne, bne_eq_false_iff_eq, Bool.not_eq_true', Bool.not_eq_false', Bool.not_eq_eq_eq_not, Bool.not_true, Bool.not_false, ne_eq, Int.not_lt, Int.not_le] at c2_151
    obtain ⟨rfl, hrx, rfl, rfl⟩ : ok2 = false ∧ readV pf uqV x = none ∧ u2 = nullV ∧ n2 = 0 := by
      rcases hr2 with h | h
      · have := c2_151_; rw [h.1] at this; cases this
      · exact h
    refine Wc.seq fun _ hK_152 => ?_
    refine Wc.region ?_
    refine Wl.y (y_move rfl) rfl ?_
    refine Wl.y (y_move rfl) rfl ?_
    refine Wl.guardT rfl rfl rfl (fun g_155 => ?_) (fun g_155 => ?_)
    ·
     have g_155_ := g_155
     try simp only [decide_eq_true_eq, decide_eq_false_iff_not, beq_iff_eq, beq_eq_false_iff_ne, bne_iff_ne, bne_eq_false_iff_eq, Bool.not_eq_true', Bool.not_eq_false', Bool.not_eq_eq_eq_not, Bool.not_true, Bool.not_false, ne_eq, Int.not_lt, Int.not_le] at g_155
     refine Wl.y (y_move rfl) rfl ?_
     refine Wl.on' rfl rfl g_155_ ?_
     refine Wl.y (y_eqli rfl rfl) rfl ?_
     refine Wl.y (y_pickT rfl g_155_ rfl) rfl ?_
     refine Wl.y (y_move rfl) rfl ?_
     refine Wl.guardT rfl rfl rfl (fun g_160 => ?_) (fun g_160 => ?_)
     ·
      have g_160_ := g_160
      try simp only [decide_eq_true_eq, decide_eq_false_iff_not, beq_iff_eq, beq_eq_false_iff_ne, bne_iff_ne, bne_eq_false_iff_eq, Bool.not_eq_true', Bool.not_eq_false', Bool.not_eq_eq_eq_not, Bool.not_true, Bool.not_false, ne_eq, Int.not_lt, Int.not_le] at g_160
      refine Wl.y (y_fieldAddr (fa28_0LawV _) rfl) rfl ?_
      refine Wl.on' rfl rfl g_160_ ?_
      refine Wl.l (l_load one3LawV rfl (by first | exact hB_o0.at rfl | exact hB_o3.at rfl | exact hB_o43.at rfl | exact hB_o0.cell 0 | exact hB_o3.cell 0 | exact hB_o43.cell 0 | assumption)) rfl ?_
      refine Wl.on' rfl rfl g_160_ ?_
      refine Wl.y (y_eqli rfl rfl) rfl ?_
      refine Wl.y (y_pickT rfl g_160_ rfl) rfl ?_
      refine Wl.y (y_assign rfl) rfl ?_
      refine Wl.nil ?_
      refine Wq.next hK_152 ?_
      refine Wc.ret ?_
      refine Wq.then_ret ?_
      refine ret1 rfl rfl ?_
      exact ⟨_, rfl, rfl, hb⟩
     ·
      have g_160_ := g_160
      try simp only [decide_eq_true_eq, decide_eq_false_iff_not, beq_iff_eq, beq_eq_false_iff_ne, bne_iff_ne, bne_eq_false_iff_eq, Bool.not_eq_true', Bool.not_eq_false', Bool.not_eq_eq_eq_not, Bool.not_true, Bool.not_false, ne_eq, Int.not_lt, Int.not_le] at g_160
      exact absurd g_160_ (by decide)
    ·
     have g_155_ := g_155
     try simp only [decide_eq_true_eq, decide_eq_false_iff_not, beq_iff_eq, beq_eq_false_iff_ne, bne_iff_ne, bne_eq_false_iff_eq, Bool.not_eq_true', Bool.not_eq_false', Bool.not_eq_eq_eq_not, Bool.not_true, Bool.not_false, ne_eq, Int.not_lt, Int.not_le] at g_155
     exact absurd g_155_ (by decide)
   ·
    have c2_151_ := c2_151
    try simp only [decide_eq_true_eq, decide_eq_false_iff_not, beq_iff_eq, beq_eq_false_iff_ne, bne_iff_ne, bne_eq_false_iff_eq, Bool.not_eq_true', Bool.not_eq_false', Bool.not_eq_eq_eq_not, Bool.not_true, Bool.not_false, ne_eq, Int.not_lt, Int.not_le] at c2_151
    obtain ⟨rfl, hrx⟩ : ok2 = true ∧ readV pf uqV x = some (u2, n2) := by
      rcases hr2 with h | h
      · exact h
      · have := c2_151_; rw [h.1] at this; cases this
    have hnl := readV_len hrx
    have ou := readV_ok hrx
    have hrr := readV_right hrx
    have hsl := readV_sl hrx
    refine Wc.skip ?_
    refine Wq.next hK_147 ?_
    refine Wc.seq fun _ hK_166 => ?_
    refine Wc.region ?_
    refine Wl.l (l_loadS Tryz.underlying28 (by kernel_rfl) rfl (by first | exact fun j u hu => hB_o0.at hu | exact fun j u hu => hB_o3.at hu | exact fun j u hu => hB_o43.at hu | assumption)) rfl ?_
    refine Wl.call txt14LawV rfl rfl (TextQ_r u2 ou (by omega) _ hL) rfl ?_
    rintro _ w_k7 ⟨rfl, hs_k7⟩
    have hz_k7 := hs_k7.size
    have hb := hb.trans (hs_k7.mono hb.size)
    have hL := hL_hb.below hb
    try have hB_o0 := Blk.below hB_o0 hs_k7
    try have hB_o3 := Blk.below hB_o3 hs_k7
    try have hB_o43 := Blk.below hB_o43 hs_k7
    refine Wl.y (y_move rfl) rfl ?_
    refine Wl.y (y_extract rfl rfl) rfl ?_
    refine Wl.y (y_extract rfl rfl) rfl ?_
    refine Wl.y (y_assign rfl) rfl ?_
    refine Wl.y (y_assign rfl) rfl ?_
    refine Wl.nil ?_
    refine Wq.next hK_166 ?_
    refine Wc.seq fun _ hK_174 => ?_
    refine Wc.region ?_
    refine Wl.y (y_move rfl) rfl ?_
    refine Wl.y (y_move rfl) rfl ?_
    refine Wl.guardT rfl rfl rfl (fun g_177 => ?_) (fun g_177 => ?_)
    ·
     have g_177_ := g_177
     try simp only [decide_eq_true_eq, decide_eq_false_iff_not, beq_iff_eq, beq_eq_false_iff_ne, bne_iff_ne, bne_eq_false_iff_eq, Bool.not_eq_true', Bool.not_eq_false', Bool.not_eq_eq_eq_not, Bool.not_true, Bool.not_false, ne_eq, Int.not_lt, Int.not_le] at g_177
     refine Wl.l (l_loadS Tryz.underlying28 (by kernel_rfl) rfl (by first | exact fun j u hu => hB_o0.at hu | exact fun j u hu => hB_o3.at hu | exact fun j u hu => hB_o43.at hu | assumption)) rfl ?_
     refine Wl.on' rfl rfl g_177_ ?_
     refine Wl.call txt19LawV rfl rfl (Right_r _ ou _) rfl ?_
     rintro _ w_k8 ⟨rfl, hs_k8⟩
     have hz_k8 := hs_k8.size
     have hb := hb.trans (hs_k8.mono hb.size)
     have hL := hL_hb.below hb
     refine Wl.y (y_pickT rfl g_177_ rfl) rfl ?_
     refine Wl.y (y_move rfl) rfl ?_
     refine Wl.guardT rfl rfl rfl (fun g_182 => ?_) (fun g_182 => ?_)
     ·
      have g_182_ := g_182
      try simp only [decide_eq_true_eq, decide_eq_false_iff_not, beq_iff_eq, beq_eq_false_iff_ne, bne_iff_ne, bne_eq_false_iff_eq, Bool.not_eq_true', Bool.not_eq_false', Bool.not_eq_eq_eq_not, Bool.not_true, Bool.not_false, ne_eq, Int.not_lt, Int.not_le] at g_182
      refine Wl.y (y_move rfl) rfl ?_
      refine Wl.on' rfl rfl g_182_ ?_
      refine Wl.y (y_eqli rfl rfl) rfl ?_
      refine Wl.y (y_pickT rfl g_182_ rfl) rfl ?_
      refine Wl.y (y_move rfl) rfl ?_
      refine Wl.guardT rfl rfl rfl (fun g_187 => ?_) (fun g_187 => ?_)
      ·
       have g_187_ := g_187
       try simp only [decide_eq_true_eq, decide_eq_false_iff_not, beq_iff_eq, beq_eq_false_iff_ne, bne_iff_ne, bne_eq_false_iff_eq, Bool.not_eq_true', Bool.not_eq_false', Bool.not_eq_eq_eq_not, Bool.not_true, Bool.not_false, ne_eq, Int.not_lt, Int.not_le] at g_187
       refine Wl.y (y_move rfl) rfl ?_
       refine Wl.on' rfl rfl g_187_ ?_
       refine Wl.y (y_gtri rfl rfl) rfl ?_
       refine Wl.y (y_pickT rfl g_187_ rfl) rfl ?_
       refine Wl.y (y_move rfl) rfl ?_
       refine Wl.guardT rfl rfl rfl (fun g_192 => ?_) (fun g_192 => ?_)
       ·
        have g_192_ := g_192
        try simp only [decide_eq_true_eq, decide_eq_false_iff_not, beq_iff_eq, beq_eq_false_iff_ne, bne_iff_ne, bne_eq_false_iff_eq, Bool.not_eq_true', Bool.not_eq_false', Bool.not_eq_eq_eq_not, Bool.not_true, Bool.not_false, ne_eq, Int.not_lt, Int.not_le] at g_192
        refine Wl.y (y_move rfl) rfl ?_
        refine Wl.on' rfl rfl g_192_ ?_
        refine Wl.y (y_move rfl) rfl ?_
        refine Wl.on' rfl rfl g_192_ ?_
        refine Wl.y (y_lens Tryz.underlying9 (by omega) rfl) rfl ?_
        refine Wl.on' rfl rfl g_192_ ?_
        refine Wl.y (y_leqi rfl rfl) rfl ?_
        refine Wl.y (y_pickT rfl g_192_ rfl) rfl ?_
        refine Wl.y (y_move rfl) rfl ?_
        refine Wl.guardT rfl rfl rfl (fun g_199 => ?_) (fun g_199 => ?_)
        ·
         have g_199_ := g_199
         try simp only [decide_eq_true_eq, decide_eq_false_iff_not, beq_iff_eq, beq_eq_false_iff_ne, bne_iff_ne, bne_eq_false_iff_eq, Bool.not_eq_true', Bool.not_eq_false', Bool.not_eq_eq_eq_not, Bool.not_true, Bool.not_false, ne_eq, Int.not_lt, Int.not_le] at g_199
         refine Wl.y (y_move rfl) rfl ?_
         refine Wl.on' rfl rfl g_199_ ?_
         refine Wl.y (y_move rfl) rfl ?_
         refine Wl.on' rfl rfl g_199_ ?_
         refine Wl.y (y_move rfl) rfl ?_
         refine Wl.on' rfl rfl g_199_ ?_
         refine Wl.y (y_slicesH Tryz.underlying9 rfl rfl (by omega) (by omega)) rfl ?_
         refine Wl.on' rfl rfl g_199_ ?_
         refine Wl.y (y_eqls rfl rfl) rfl ?_
         refine Wl.y (y_pickT rfl g_199_ rfl) rfl ?_
         refine Wl.y (y_assign rfl) rfl ?_
         refine Wl.nil ?_
         refine Wq.next hK_174 ?_
         refine Wc.ret ?_
         refine ret1 rfl rfl ?_
         exact ⟨_, rfl, bool_eq (by rw [hrr.2, Int.toNat_natCast]; simp), hb⟩
        ·
         have g_199_ := g_199
         try simp only [decide_eq_true_eq, decide_eq_false_iff_not, beq_iff_eq, beq_eq_false_iff_ne, bne_iff_ne, bne_eq_false_iff_eq, Bool.not_eq_true', Bool.not_eq_false', Bool.not_eq_eq_eq_not, Bool.not_true, Bool.not_false, ne_eq, Int.not_lt, Int.not_le] at g_199
         omega
       ·
        have g_192_ := g_192
        try simp only [decide_eq_true_eq, decide_eq_false_iff_not, beq_iff_eq, beq_eq_false_iff_ne, bne_iff_ne, bne_eq_false_iff_eq, Bool.not_eq_true', Bool.not_eq_false', Bool.not_eq_eq_eq_not, Bool.not_true, Bool.not_false, ne_eq, Int.not_lt, Int.not_le] at g_192
        omega
      ·
       have g_187_ := g_187
       try simp only [decide_eq_true_eq, decide_eq_false_iff_not, beq_iff_eq, beq_eq_false_iff_ne, bne_iff_ne, bne_eq_false_iff_eq, Bool.not_eq_true', Bool.not_eq_false', Bool.not_eq_eq_eq_not, Bool.not_true, Bool.not_false, ne_eq, Int.not_lt, Int.not_le] at g_187
       exact absurd (textV_ok hrr.1) g_187
     ·
      have g_182_ := g_182
      try simp only [decide_eq_true_eq, decide_eq_false_iff_not, beq_iff_eq, beq_eq_false_iff_ne, bne_iff_ne, bne_eq_false_iff_eq, Bool.not_eq_true', Bool.not_eq_false', Bool.not_eq_eq_eq_not, Bool.not_true, Bool.not_false, ne_eq, Int.not_lt, Int.not_le] at g_182
      exact absurd g_182_ (by rw [hrr.1]; decide)
    ·
     have g_177_ := g_177
     try simp only [decide_eq_true_eq, decide_eq_false_iff_not, beq_iff_eq, beq_eq_false_iff_ne, bne_iff_ne, bne_eq_false_iff_eq, Bool.not_eq_true', Bool.not_eq_false', Bool.not_eq_eq_eq_not, Bool.not_true, Bool.not_false, ne_eq, Int.not_lt, Int.not_le] at g_177
     exact absurd g_177_ (by decide)
end Go.Proofs.YtcljmclolpgdmaaGreatDoor
