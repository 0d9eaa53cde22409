/- The statement ParseTokens, by the calculus. -/
import Derived.Test.YtjnabgddjogkbaaGreatDoorZP6
import Derived.Test.YtjnabgddjogkbaaGreatDoorZP7
namespace Go.Proofs.YtjnabgddjogkbaaGreatDoor
open Go.RowKit Go.Bw Go.Bw.Fl
set_option linter.unusedVariables false
set_option linter.unusedSimpArgs false
theorem fa43_2PlK (p : Addr) (w : World) : (Instr.fieldAt 43 (.pointer (some p)) 2).run Tryz.prog w = .ok (.pointer (some (p.add 2))) w := run_fieldAt (i := 2) (sz := 0) Tryz.underlying43 rfl (by kernel_rfl) p w
theorem one3PlK : One Tryz.prog 3 := ⟨_, Tryz.underlying3, rfl, by kernel_rfl⟩
theorem sz43PlK : (Tryz.prog.info? 43).map (·.size) = some 3 := by kernel_rfl
theorem txt11PlK : Txt Tryz.prog 11 := ⟨_, Tryz.func11, by kernel_rfl, rfl⟩   -- bridleway/bridlewaylaw11.shown
theorem txt12PlK : Txt Tryz.prog 12 := ⟨_, Tryz.func12, by kernel_rfl, rfl⟩   -- bridleway/parse.Parse
theorem txt14PlK : Txt Tryz.prog 14 := ⟨_, Tryz.func14, by kernel_rfl, rfl⟩   -- bridleway/bridlewayref11.Same
theorem txt15PlK : Txt Tryz.prog 15 := ⟨_, Tryz.func15, by kernel_rfl, rfl⟩   -- bridleway/lex.Lex
theorem txt19PlK : Txt Tryz.prog 19 := ⟨_, Tryz.func19, by kernel_rfl, rfl⟩   -- bridleway/lex.Text
theorem Tokens_r (s : List UInt8) (w : World) (hX : Lx w) (hs : s.length ≤ 140737488355328) : Ret Tryz.prog 10 [str s] w fun v w' => v = .bool true ∧ Below w.heap.size w w' := by
  obtain ⟨x, hx⟩ : ∃ x, x = s.take 2000 := ⟨_, rfl⟩
  have hxl : x.length ≤ 2000 := by rw [hx]; exact List.length_take_le _ _
  have hb := Below.refl w.heap.size w
  have hX_hb := hX
  refine enter Tryz.func10 rfl rfl rfl ?_
  refine Wc.seq fun _ hK_1 => Wc.region <| Wl.sg rfl rfl <| Wl.nil <| Wq.next hK_1 <| Wc.seq fun _ hK_3 => Wc.region ?_
  refine Wl.call txt11PlK rfl rfl (pshown_r _ hX) rfl ?_
  rintro _ w_k0 ⟨rfl, hs_k0⟩
  have hz_k0 := hs_k0.size
  have hb := hb.trans (hs_k0.mono hb.size)
  have hX := hX_hb.below hb
  refine Wl.sg rfl rfl <| Wl.nil <| Wq.next hK_3 <| Wc.seq fun _ hK_6 => Wc.region <| Wl.mv rfl rfl <| Wl.mv rfl rfl ?_
  refine Wl.y (y_lens Tryz.underlying9 (by omega) rfl) rfl ?_
  refine Wl.y (y_eq (y_min rfl rfl) (int_eq (show min (s.length : Int) 2000 = ((min s.length 2000 : Nat) : Int) by omega))) rfl ?_
  refine Wl.y (y_eq (y_slicesH Tryz.underlying9 rfl rfl (by omega) (by omega)) (str_eq (show _ = x by rw [hx, Int.toNat_natCast]; exact List.take_eq_take_iff.2 (by omega)))) rfl ?_
  refine Wl.sg rfl rfl <| Wl.nil <| Wq.next hK_6 <| Wc.seq fun _ hK_13 => Wc.region <| Wl.mv rfl rfl ?_
  refine Wl.call txt15PlK rfl rfl (Lex_y x (by omega) _ hX) rfl ?_
  rintro _ w_k1 ⟨⟨A1, c1, l1, i1, e1, rfl, hR1, hl1, hc1, hx1⟩, hs_k1⟩
  have hz_k1 := hs_k1.size
  have hb := hb.trans (hs_k1.mono hb.size)
  have hX := hX_hb.below hb
  refine Wl.mv rfl rfl <| Wl.y (y_extract rfl rfl) rfl <| Wl.y (y_extract rfl rfl) rfl <| Wl.y (y_extract rfl rfl) rfl <| Wl.sg rfl rfl <| Wl.sg rfl rfl <| Wl.sg rfl rfl <| Wl.nil <| Wq.next hK_13 <| Wc.seq fun _ hK_23 => ?_
  refine Wc.seq fun _ hK_24 => Wc.region <| Wl.mv rfl rfl <| Wl.y (y_neqi rfl rfl) rfl <| Wl.nil <| Wq.next hK_24 ?_
  refine Wc.cond rfl (fun c0_27 => ?_) (fun c0_27 => ?_)
  ·
   have c0_27_ := c0_27
   try simp only [DZ] at c0_27
   refine Wc.seq fun _ hK_28 => Wc.region <| Wl.mv rfl rfl <| Wl.sg rfl rfl <| Wl.nil <| Wq.next hK_28 <| Wc.ret <| Wq.then_ret ?_
   refine ret1 rfl rfl ?_
   exact ⟨_, rfl, rfl, hb⟩
  have c0_27_ := c0_27
  try simp only [DZ] at c0_27
  obtain ⟨_, hok1⟩ := hx1.good (by have := c0_27; omega)
  have hch := lexV_chain x _ 0 l1 (Nat.le_refl _) (by omega) (by rw [List.drop_zero]; exact hok1)
  have hsum := hch.sum (by omega)
  obtain ⟨l2', hok2, hkt⟩ := lexV_text l1 0 hch.good
  have hjl := join_len (txts l1)
  have htx : (txts l1).length = l1.length := by simp [txts]
  obtain ⟨y, hy⟩ : ∃ y, y = joinV (txts l1) := ⟨_, rfl⟩
  rw [← hy] at hok2 hjl
  have hyl : y.length ≤ 4000 := by omega
  obtain ⟨q, a, a', e, hq, hq', h0, hpos⟩ := tokens_eq (by omega) (by omega) hok1 hok2 hkt
  have hokp := parse_ok x
  rw [hq] at hokp
  refine Wc.skip <| Wq.next hK_23 <| Wc.seq fun _ hK_31 => Wc.region <| Wl.mv rfl rfl ?_
  refine Wl.call txt19PlK rfl rfl (LText_r A1 c1 l1 hl1 (by omega) _ hR1) rfl ?_
  rintro _ w_k2 ⟨rfl, hs_k2⟩
  have hz_k2 := hs_k2.size
  have hb := hb.trans (hs_k2.mono hb.size)
  have hX := hX_hb.below hb
  try have hR1 := Rd.below hR1 hs_k2
  refine Wl.sg rfl rfl <| Wl.nil <| Wq.next hK_31 <| Wc.seq fun _ hK_35 => ?_
  rw [← hy]
  refine Wc.region <| Wl.mv rfl rfl ?_
  refine Wl.call txt15PlK rfl rfl (Lex_y y (by omega) _ hX) rfl ?_
  rintro _ w_k3 ⟨⟨A2, c2, l2, i2, e2, rfl, hR2, hl2, hc2, hx2⟩, hs_k3⟩
  have hz_k3 := hs_k3.size
  have hb := hb.trans (hs_k3.mono hb.size)
  have hX := hX_hb.below hb
  try have hR1 := Rd.below hR1 hs_k3
  refine Wl.mv rfl rfl <| Wl.y (y_extract rfl rfl) rfl <| Wl.y (y_extract rfl rfl) rfl <| Wl.y (y_extract rfl rfl) rfl <| Wl.sg rfl rfl <| Wl.sg rfl rfl <| Wl.sg rfl rfl <| Wl.nil <| Wq.next hK_35 <| Wc.seq fun _ hK_45 => ?_
  obtain ⟨rfl, _, hl2e⟩ := hx2.fine hok2
  subst hl2e
  have hl2n : l2.length = l1.length := by have h := congrArg List.length hkt; simpa using h
  have hA1 := Rd.tokLt hR1
  have hA2 := Rd.tokLt hR2
  refine Wc.region <| Wl.mv rfl rfl ?_
  refine Wl.call txt12PlK rfl rfl (ParseT_r hq (by omega) _ hX) rfl ?_
  rintro _ w_k4 ⟨⟨z, Sz, rfl, hz, hz_S⟩, hs_k4⟩
  have hz_k4 := hs_k4.size
  have hb := hb.trans (hs_k4.mono hb.size)
  have hX := hX_hb.below hb
  try have hR1 := Rd.below hR1 hs_k4
  try have hR2 := Rd.below hR2 hs_k4
  refine Wl.mv rfl rfl <| Wl.y (y_extract rfl rfl) rfl <| Wl.y (y_extract rfl rfl) rfl <| Wl.y (y_extract rfl rfl) rfl ?_
  refine Wl.allocN (z := (.agg #[(.int .i64 0), (.int .i64 0), (.int .i64 0), (.int .i64 0), (str []), (.int .i64 0), (.int .i64 0), (str []), (.int .i64 0), (.int .i64 0), (.float .f64 0), (str []), (.slice none 0 0), (.int .i64 0), (str []), (.int .i64 0), (.int .i64 0), (.float .f64 0), (str []), (.slice none 0 0), (.int .i64 0), (.int .i64 0), (.slice none 0 0)])) (by kernel_rfl) rfl ?_
  rintro g_o32 w_o32 hg_o32 hn_o32 hs_o32
  have hz_o32 := hs_o32.size
  have hb := hb.trans (hs_o32.mono hb.size)
  have hX := hX_hb.below hb
  try have hR1 := Rd.below hR1 hs_o32
  try have hR2 := Rd.below hR2 hs_o32
  try have hz := PAt.below hz hs_o32
  have hB_o32 := hn_o32
  have hl_o32 := hB_o32.lt
  refine Wl.storeS (by kernel_rfl) rfl rfl hB_o32 rfl rfl ?_
  rintro w_s0 hn_s0 hg_s0
  have hz_s0 := hg_s0.size
  have hb := below_blk hb hg_s0 hb.size (by omega)
  have hX := hX_hb.below hb
  try have hR1 := Rd.grown hR1 hg_s0 (by first | assumption | (simp [Value.ownBlock]; omega))
  try have hR2 := Rd.grown hR2 hg_s0 (by first | assumption | (simp [Value.ownBlock]; omega))
  try have hz := PAt.kp hz hg_s0 (fun h_ => by have h2_ := hz_S _ h_; first | omega | (rcases h2_ with h3_ | h3_; (have h4_ := hS _ h3_; omega); omega))
  have hB_o32 := hn_s0
  refine Wl.sg rfl rfl <| Wl.sg rfl rfl <| Wl.nil <| Wq.next hK_45 <| Wc.seq fun _ hK_55 => Wc.region <| Wl.mv rfl rfl ?_
  have hR1 := Rd.tokOver hR1 hg_s0 fun q e h => by have := hA1 q e h; omega
  have hR2 := Rd.tokOver hR2 hg_s0 fun q e h => by have := hA2 q e h; omega
  refine Wl.call txt12PlK rfl rfl (ParseT_r hq' (by omega) _ hX) rfl ?_
  rintro _ w_k5 ⟨⟨z2, S2, rfl, hz2, hz2_S⟩, hs_k5⟩
  have hz_k5 := hs_k5.size
  have hb := hb.trans (hs_k5.mono hb.size)
  have hX := hX_hb.below hb
  try have hR1 := Rd.below hR1 hs_k5
  try have hR2 := Rd.below hR2 hs_k5
  try have hz := PAt.below hz hs_k5
  try have hB_o32 := Blk.below hB_o32 hs_k5
  refine Wl.mv rfl rfl <| Wl.y (y_extract rfl rfl) rfl <| Wl.y (y_extract rfl rfl) rfl <| Wl.y (y_extract rfl rfl) rfl ?_
  refine Wl.allocN (z := (.agg #[(.int .i64 0), (.int .i64 0), (.int .i64 0), (.int .i64 0), (str []), (.int .i64 0), (.int .i64 0), (str []), (.int .i64 0), (.int .i64 0), (.float .f64 0), (str []), (.slice none 0 0), (.int .i64 0), (str []), (.int .i64 0), (.int .i64 0), (.float .f64 0), (str []), (.slice none 0 0), (.int .i64 0), (.int .i64 0), (.slice none 0 0)])) (by kernel_rfl) rfl ?_
  rintro g_o40 w_o40 hg_o40 hn_o40 hs_o40
  have hz_o40 := hs_o40.size
  have hb := hb.trans (hs_o40.mono hb.size)
  have hX := hX_hb.below hb
  try have hR1 := Rd.below hR1 hs_o40
  try have hR2 := Rd.below hR2 hs_o40
  try have hz := PAt.below hz hs_o40
  try have hB_o32 := Blk.below hB_o32 hs_o40
  try have hz2 := PAt.below hz2 hs_o40
  have hB_o40 := hn_o40
  have hl_o40 := hB_o40.lt
  refine Wl.storeS (by kernel_rfl) rfl rfl hB_o40 rfl rfl ?_
  rintro w_s1 hn_s1 hg_s1
  have hz_s1 := hg_s1.size
  have hb := below_blk hb hg_s1 hb.size (by omega)
  have hX := hX_hb.below hb
  try have hR1 := Rd.grown hR1 hg_s1 (by first | assumption | (simp [Value.ownBlock]; omega))
  try have hR2 := Rd.grown hR2 hg_s1 (by first | assumption | (simp [Value.ownBlock]; omega))
  try have hz := PAt.kp hz hg_s1 (fun h_ => by have h2_ := hz_S _ h_; first | omega | (rcases h2_ with h3_ | h3_; (have h4_ := hS _ h3_; omega); omega))
  try have hB_o32 := hB_o32.over hg_s1 (by omega)
  try have hz2 := PAt.kp hz2 hg_s1 (fun h_ => by have h2_ := hz2_S _ h_; first | omega | (rcases h2_ with h3_ | h3_; (have h4_ := hS _ h3_; omega); omega))
  have hB_o40 := hn_s1
  refine Wl.sg rfl rfl <| Wl.sg rfl rfl <| Wl.nil <| Wq.next hK_55 <| Wc.seq fun _ hK_65 => Wc.seq fun _ hK_66 => ?_
  have hR1 := Rd.tokOver hR1 hg_s1 fun q e h => by have := hA1 q e h; omega
  have hR2 := Rd.tokOver hR2 hg_s1 fun q e h => by have := hA2 q e h; omega
  refine Wc.region <| Wl.mv rfl rfl <| Wl.mv rfl rfl <| Wl.y (y_neqi rfl rfl) rfl <| Wl.mv rfl rfl ?_
  refine Wl.guardF rfl rfl rfl (fun g_71 => ?_) (fun g_71 => ?_)
  ·
   have g_71_ := g_71
   try simp only [DZ] at g_71
   exact absurd g_71_ (by simp)
  have g_71_ := g_71
  try simp only [DZ] at g_71
  refine Wl.l (l_loadS Tryz.underlying33 (by kernel_rfl) rfl (by exact fun j u hu => hB_o40.at hu)) rfl ?_
  refine Wl.on' rfl rfl g_71_ ?_
  refine Wl.l (l_loadS Tryz.underlying33 (by kernel_rfl) rfl (by exact fun j u hu => hB_o32.at hu)) rfl ?_
  refine Wl.on' rfl rfl g_71_ ?_
  refine Wl.call txt14PlK rfl rfl (SameQ_r q.mode q.sel q.kk q.pat z2 z S2 Sz _ hokp hz2 hz) rfl ?_
  rintro _ w_k6 ⟨rfl, hs_k6⟩
  have hz_k6 := hs_k6.size
  have hb := hb.trans (hs_k6.mono hb.size)
  have hX := hX_hb.below hb
  try have hR1 := Rd.below hR1 hs_k6
  try have hR2 := Rd.below hR2 hs_k6
  try have hz := PAt.below hz hs_k6
  try have hz2 := PAt.below hz2 hs_k6
  refine Wl.on' rfl rfl g_71_ <| Wl.y (y_not rfl) rfl ?_
  refine Wl.y (y_pickF rfl g_71_ rfl) rfl ?_
  refine Wl.mv rfl rfl ?_
  refine Wl.guardF rfl rfl rfl (fun g_78 => ?_) (fun g_78 => ?_)
  ·
   have g_78_ := g_78
   try simp only [DZ] at g_78
   exact absurd g_78_ (by simp)
  have g_78_ := g_78
  try simp only [DZ] at g_78
  refine Wl.mv rfl rfl <| Wl.on' rfl rfl g_78_ ?_
  refine Wl.y (y_lenl Tryz.underlying39 (by omega) rfl) rfl ?_
  refine Wl.on' rfl rfl g_78_ <| Wl.mv rfl rfl <| Wl.on' rfl rfl g_78_ ?_
  refine Wl.y (y_lenl Tryz.underlying39 (by omega) rfl) rfl ?_
  refine Wl.on' rfl rfl g_78_ <| Wl.y (y_neqi rfl rfl) rfl ?_
  refine Wl.y (y_pickF rfl g_78_ rfl) rfl ?_
  refine Wl.nil <| Wq.next hK_66 ?_
  refine Wc.cond rfl (fun c1_85 => ?_) (fun c1_85 => ?_)
  ·
   have c1_85_ := c1_85
   try simp only [DZ] at c1_85
   exact absurd c1_85_ (by simp [hl2n])
  have c1_85_ := c1_85
  try simp only [DZ] at c1_85
  refine Wc.skip <| Wq.next hK_65 <| Wc.seq fun _ hK_86 => Wc.seq fun _ hK_87 => Wc.region <| Wl.mv rfl rfl <| Wl.y (y_eqli rfl rfl) rfl <| Wl.nil <| Wq.next hK_87 ?_
  refine Wc.cond rfl (fun c2_90 => ?_) (fun c2_90 => ?_)
  ·
   have c2_90_ := c2_90
   try simp only [DZ] at c2_90
   have he0 : e = 0 := by have := c2_90; omega
   obtain ⟨ha0, ha0'⟩ := h0 he0
   refine Wc.seq fun _ hK_91 => Wc.region <| Wl.mv rfl rfl <| Wl.mv rfl rfl ?_
   refine Wl.guardT rfl rfl rfl (fun g_94 => ?_) (fun g_94 => ?_)
   ·
    have g_94_ := g_94
    try simp only [DZ] at g_94
    refine Wl.mv rfl rfl <| Wl.on' rfl rfl g_94_ <| Wl.y (y_eqli rfl rfl) rfl ?_
    refine Wl.y (y_pickT rfl g_94_ rfl) rfl ?_
    refine Wl.mv rfl rfl ?_
    refine Wl.guardT rfl rfl rfl (fun g_99 => ?_) (fun g_99 => ?_)
    ·
     have g_99_ := g_99
     try simp only [DZ] at g_99
     refine Wl.mv rfl rfl <| Wl.on' rfl rfl g_99_ <| Wl.y (y_eqli rfl rfl) rfl ?_
     refine Wl.y (y_pickT rfl g_99_ rfl) rfl ?_
     refine Wl.sg rfl rfl <| Wl.nil <| Wq.next hK_91 <| Wc.ret <| Wq.then_ret ?_
     refine ret1 rfl rfl ?_
     exact ⟨_, rfl, bool_eq (by rw [ha0']; rfl), hb⟩
    have g_99_ := g_99
    try simp only [DZ] at g_99
    exact absurd g_99_ (by rw [ha0]; decide)
   have g_94_ := g_94
   try simp only [DZ] at g_94
   exact absurd g_94_ (by decide)
  have c2_90_ := c2_90
  try simp only [DZ] at c2_90
  have hfin := hpos (by have := c2_90; omega)
  refine Wc.skip <| Wq.next hK_86 <| Wc.seq fun _ hK_104 => Wc.seq fun _ hK_105 => Wc.region <| Wl.sg rfl rfl <| Wl.nil <| Wq.next hK_105 <| Wc.block ?_
  refine Wc.loop (X := Nat) (fun i => [(0, str x), (3, .bool true), (4, .slice A1 l1.length c1), (7, str y), (8, .slice A2 l2.length c2), (12, .int .i64 a), (13, .int .i64 e), (15, .int .i64 a'), (17, .int .i64 (i : Int))]) (fun i wr => i ≤ l1.length ∧ (∀ (j : Nat) (h : j < l1.length) (h' : j < l2.length), j < i → ¬ (a = (l1[j].a : Int) ∧ a' = (l2[j].a : Int))) ∧ Below w.heap.size w wr ∧ Rd wr 3 A1 l1.length (l1.flatMap Tok.cells) ∧ Rd wr 3 A2 l2.length (l2.flatMap Tok.cells)) (fun i => l1.length - i) (0) ?_ ?_ ?_
  · exact by repeat first | exact Sub.nil | refine Sub.cons' rfl (by first | rfl | exact int_eq (by omega)) ?_
  · exact ⟨by omega, fun j _ _ h => by omega, hb, hR1, hR2⟩
  rintro i wr hI_108 _ hL_107
  replace hI_108 : i ≤ l1.length ∧ (∀ (j : Nat) (h : j < l1.length) (h' : j < l2.length), j < i → ¬ (a = (l1[j].a : Int) ∧ a' = (l2[j].a : Int))) ∧ Below w.heap.size w wr ∧ Rd wr 3 A1 l1.length (l1.flatMap Tok.cells) ∧ Rd wr 3 A2 l2.length (l2.flatMap Tok.cells) := hI_108
  obtain ⟨hi, hall, hb, hR1, hR2⟩ := hI_108
  show Wc _ _ _ _ _ [(0, str x), (3, .bool true), (4, .slice A1 l1.length c1), (7, str y), (8, .slice A2 l2.length c2), (12, .int .i64 a), (13, .int .i64 e), (15, .int .i64 a'), (17, .int .i64 (i : Int))] _
  have hX := hX_hb.below hb
  try have hzhb_L0 := hb.size
  refine Wc.seq fun _ hK_109 => Wc.seq fun _ hK_110 => Wc.region <| Wl.mv rfl rfl <| Wl.mv rfl rfl ?_
  refine Wl.y (y_lenl Tryz.underlying39 (by omega) rfl) rfl ?_
  refine Wl.y (y_lssi rfl rfl) rfl <| Wl.nil <| Wq.next hK_110 ?_
  refine Wc.cond rfl (fun c3_115 => ?_) (fun c3_115 => ?_)
  ·
   have c3_115_ := c3_115
   try simp only [DZ] at c3_115
   have hil1 : i < l1.length := by have := c3_115; omega
   have hil2 : i < l2.length := by omega
   obtain ⟨p1, hp1, hd1_⟩ := Rd.tok hR1 hil1
   subst hp1
   obtain ⟨p2, hp2, hd2_⟩ := Rd.tok hR2 hil2
   subst hp2
   refine Wc.skip <| Wq.next hK_109 <| Wc.seq fun _ hK_116 => Wc.block <| Wc.seq fun _ hK_117 => Wc.region <| Wl.mv rfl rfl <| Wl.mv rfl rfl ?_
   refine Wl.y (y_indexAddr Tryz.underlying39 sz43PlK rfl rfl (by omega) (by omega)) rfl ?_
   refine Wl.y (y_fieldAddr (fa43_2PlK _) rfl) rfl ?_
   refine Wl.l (l_load one3PlK rfl (by exact at3 (hd1_ 2 (.int .i64 ((l1[i]).a : Int)) rfl))) rfl ?_
   refine Wl.mv rfl rfl <| Wl.y (y_eqli rfl rfl) rfl <| Wl.mv rfl rfl ?_
   refine Wl.guardT rfl rfl rfl (fun g_126 => ?_) (fun g_126 => ?_)
   ·
    have g_126_ := g_126
    try simp only [DZ] at g_126
    refine Wl.mv rfl rfl <| Wl.on' rfl rfl g_126_ <| Wl.mv rfl rfl <| Wl.on' rfl rfl g_126_ ?_
    refine Wl.y (y_indexAddr Tryz.underlying39 sz43PlK rfl rfl (by omega) (by omega)) rfl ?_
    refine Wl.on' rfl rfl g_126_ ?_
    refine Wl.y (y_fieldAddr (fa43_2PlK _) rfl) rfl ?_
    refine Wl.on' rfl rfl g_126_ ?_
    refine Wl.l (l_load one3PlK rfl (by exact at3 (hd2_ 2 (.int .i64 ((l2[i]).a : Int)) rfl))) rfl ?_
    refine Wl.on' rfl rfl g_126_ <| Wl.mv rfl rfl <| Wl.on' rfl rfl g_126_ <| Wl.y (y_eqli rfl rfl) rfl ?_
    refine Wl.y (y_pickT rfl g_126_ rfl) rfl ?_
    refine Wl.nil <| Wq.next hK_117 ?_
    refine Wc.cond rfl (fun c4_135 => ?_) (fun c4_135 => ?_)
    ·
     have c4_135_ := c4_135
     try simp only [DZ] at c4_135
     refine Wc.seq fun _ hK_136 => Wc.region <| Wl.mv rfl rfl <| Wl.sg rfl rfl <| Wl.nil <| Wq.next hK_136 <| Wc.ret ?_
     refine Wq.block_ret (Wq.then_ret (Wq.then_ret (Wq.block_ret (Wq.then_ret ?_))))
     refine ret1 rfl rfl ?_
     exact ⟨_, rfl, rfl, hb⟩
    have c4_135_ := c4_135
    try simp only [DZ] at c4_135
    have hno : ¬ (a = (l1[i].a : Int) ∧ a' = (l2[i].a : Int)) := fun h => by have := c4_135; omega
    refine Wc.skip <| Wq.block_normal <| Wq.next hK_116 <| Wc.region <| Wl.mv rfl rfl ?_
    refine Wl.y (y_addI rfl rfl (by first | omega | (simp; done) | (simp; omega)) (by first | omega | (simp; done) | (simp; omega))) rfl ?_
    refine Wl.sg rfl rfl <| Wl.nil ?_
    refine fun a_ ha_ => hL_107 _ _ (i + 1) (by first | omega | (simp; omega)) (by repeat first | exact Sub.nil | refine Sub.cons' rfl (by first | rfl | exact int_eq (by omega)) ?_) ?_ a_ ha_
    exact ⟨by omega, fun j h h' hj => by (by_cases e_ : j = i); (· subst e_; exact hno); (· exact hall j h h' (by omega)), hb, hR1, hR2⟩
   have g_126_ := g_126
   try simp only [DZ] at g_126
   have hno : ¬ (a = (l1[i].a : Int) ∧ a' = (l2[i].a : Int)) := fun h => by have := g_126; omega
   refine Wl.off' rfl rfl g_126_ rfl rfl <| Wl.off' rfl rfl g_126_ rfl rfl <| Wl.off' rfl rfl g_126_ rfl rfl <| Wl.off' rfl rfl g_126_ rfl rfl <| Wl.off' rfl rfl g_126_ rfl rfl <| Wl.off' rfl rfl g_126_ rfl rfl ?_
   refine Wl.y (y_pickF rfl g_126_ rfl) rfl ?_
   refine Wl.nil <| Wq.next hK_117 ?_
   refine Wc.condF rfl rfl ?_
   refine Wc.skip <| Wq.block_normal <| Wq.next hK_116 <| Wc.region <| Wl.mv rfl rfl ?_
   refine Wl.y (y_addI rfl rfl (by first | omega | (simp; done) | (simp; omega)) (by first | omega | (simp; done) | (simp; omega))) rfl ?_
   refine Wl.sg rfl rfl <| Wl.nil ?_
   refine fun a_ ha_ => hL_107 _ _ (i + 1) (by first | omega | (simp; omega)) (by repeat first | exact Sub.nil | refine Sub.cons' rfl (by first | rfl | exact int_eq (by omega)) ?_) ?_ a_ ha_
   exact ⟨by omega, fun j h h' hj => by (by_cases e_ : j = i); (· subst e_; exact hno); (· exact hall j h h' (by omega)), hb, hR1, hR2⟩
  have c3_115_ := c3_115
  try simp only [DZ] at c3_115
  have hfin2 : (a = (x.length : Int) ∧ a' = (y.length : Int)) ∨ (e = 6 ∧ a = 0 ∧ a' = 0) := by
    rcases hfin with ⟨j, h, h', h1⟩ | h
    · exact absurd h1 (hall j h h' (by have := c3_115; omega))
    · exact h
  refine Wc.exit ?_
  refine Wq.then_exit <| Wq.then_exit <| Wq.block_exit <| Wq.next hK_104 <| Wc.seq fun _ hK_146 => Wc.region <| Wl.mv rfl rfl <| Wl.mv rfl rfl ?_
  refine Wl.guardT rfl rfl rfl (fun g_149 => ?_) (fun g_149 => ?_)
  ·
   have g_149_ := g_149
   try simp only [DZ] at g_149
   refine Wl.mv rfl rfl <| Wl.on' rfl rfl g_149_ <| Wl.mv rfl rfl <| Wl.on' rfl rfl g_149_ ?_
   refine Wl.y (y_lens Tryz.underlying9 (by omega) rfl) rfl ?_
   refine Wl.on' rfl rfl g_149_ <| Wl.y (y_eqli rfl rfl) rfl <| Wl.on' rfl rfl g_149_ <| Wl.mv rfl rfl ?_
   refine Wl.guardT rfl rfl rfl (fun g_155 => ?_) (fun g_155 => ?_)
   ·
    have g_155_ := g_155
    try simp only [DZ] at g_155
    refine Wl.mv rfl rfl <| Wl.on' rfl rfl g_155_ <| Wl.mv rfl rfl <| Wl.on' rfl rfl g_155_ ?_
    refine Wl.y (y_lens Tryz.underlying9 (by omega) rfl) rfl ?_
    refine Wl.on' rfl rfl g_155_ <| Wl.y (y_eqli rfl rfl) rfl <| Wl.on' rfl rfl g_149_ ?_
    refine Wl.y (y_pickT rfl g_155_ rfl) rfl ?_
    refine Wl.on' rfl rfl g_149_ <| Wl.mv rfl rfl ?_
    refine Wl.guardF rfl rfl rfl (fun g_162 => ?_) (fun g_162 => ?_)
    ·
     have g_162_ := g_162
     try simp only [DZ] at g_162
     refine Wl.off' rfl rfl g_162_ rfl rfl <| Wl.off' rfl rfl g_162_ rfl rfl <| Wl.offU rfl rfl rfl <| Wl.offU rfl rfl rfl <| Wl.off' rfl rfl g_162_ rfl rfl <| Wl.off' rfl rfl g_162_ rfl rfl <| Wl.offU rfl rfl rfl <| Wl.offU rfl rfl rfl <| Wl.off' rfl rfl g_162_ rfl rfl <| Wl.on' rfl rfl g_149_ ?_
     refine Wl.y (y_pickT rfl g_162_ rfl) rfl ?_
     refine Wl.y (y_pickT rfl g_149_ rfl) rfl ?_
     refine Wl.sg rfl rfl <| Wl.nil <| Wq.next hK_146 <| Wc.ret ?_
     refine ret1 rfl rfl ?_
     exact ⟨_, rfl, bool_eq (by first | rfl | (simp; omega) | (simp_all; omega)), hb⟩
    have g_162_ := g_162
    try simp only [DZ] at g_162
    refine Wl.mv rfl rfl <| Wl.on' rfl rfl g_162_ <| Wl.y (y_eqli rfl rfl) rfl <| Wl.on' rfl rfl g_162_ <| Wl.mv rfl rfl ?_
    refine Wl.guardT rfl rfl rfl (fun g_169 => ?_) (fun g_169 => ?_)
    ·
     have g_169_ := g_169
     try simp only [DZ] at g_169
     refine Wl.mv rfl rfl <| Wl.on' rfl rfl g_169_ <| Wl.y (y_eqli rfl rfl) rfl <| Wl.on' rfl rfl g_162_ ?_
     refine Wl.y (y_pickT rfl g_169_ rfl) rfl ?_
     refine Wl.on' rfl rfl g_162_ <| Wl.mv rfl rfl ?_
     refine Wl.guardT rfl rfl rfl (fun g_174 => ?_) (fun g_174 => ?_)
     ·
      have g_174_ := g_174
      try simp only [DZ] at g_174
      refine Wl.mv rfl rfl <| Wl.on' rfl rfl g_174_ <| Wl.y (y_eqli rfl rfl) rfl <| Wl.on' rfl rfl g_162_ ?_
      refine Wl.y (y_pickT rfl g_174_ rfl) rfl ?_
      refine Wl.on' rfl rfl g_149_ ?_
      refine Wl.y (y_pickF rfl g_162_ rfl) rfl ?_
      refine Wl.y (y_pickT rfl g_149_ rfl) rfl ?_
      refine Wl.sg rfl rfl <| Wl.nil <| Wq.next hK_146 <| Wc.ret ?_
      refine ret1 rfl rfl ?_
      exact ⟨_, rfl, bool_eq (by first | rfl | (simp; omega) | (simp_all; omega)), hb⟩
     have g_174_ := g_174
     try simp only [DZ] at g_174
     refine Wl.off' rfl rfl g_174_ rfl rfl <| Wl.on' rfl rfl g_162_ ?_
     refine Wl.y (y_pickF rfl g_174_ rfl) rfl ?_
     refine Wl.on' rfl rfl g_149_ ?_
     refine Wl.y (y_pickF rfl g_162_ rfl) rfl ?_
     refine Wl.y (y_pickT rfl g_149_ rfl) rfl ?_
     refine Wl.sg rfl rfl <| Wl.nil <| Wq.next hK_146 <| Wc.ret ?_
     refine ret1 rfl rfl ?_
     exact ⟨_, rfl, bool_eq (by first | rfl | (simp; omega) | (simp_all; omega)), hb⟩
    have g_169_ := g_169
    try simp only [DZ] at g_169
    refine Wl.off' rfl rfl g_169_ rfl rfl <| Wl.on' rfl rfl g_162_ ?_
    refine Wl.y (y_pickF rfl g_169_ rfl) rfl ?_
    refine Wl.on' rfl rfl g_162_ <| Wl.mv rfl rfl <| Wl.off' rfl rfl rfl rfl rfl <| Wl.off' rfl rfl rfl rfl rfl <| Wl.on' rfl rfl g_162_ <| Wl.y (y_pickF rfl rfl rfl) rfl <| Wl.on' rfl rfl g_149_ ?_
    refine Wl.y (y_pickF rfl g_162_ rfl) rfl ?_
    refine Wl.y (y_pickT rfl g_149_ rfl) rfl ?_
    refine Wl.sg rfl rfl <| Wl.nil <| Wq.next hK_146 <| Wc.ret ?_
    refine ret1 rfl rfl ?_
    exact ⟨_, rfl, bool_eq (by first | rfl | (simp; omega) | (simp_all; omega)), hb⟩
   have g_155_ := g_155
   try simp only [DZ] at g_155
   refine Wl.off' rfl rfl g_155_ rfl rfl <| Wl.off' rfl rfl g_155_ rfl rfl <| Wl.off' rfl rfl g_155_ rfl rfl <| Wl.on' rfl rfl g_149_ ?_
   refine Wl.y (y_pickF rfl g_155_ rfl) rfl ?_
   refine Wl.on' rfl rfl g_149_ <| Wl.mv rfl rfl <| Wl.on' rfl rfl rfl <| Wl.mv rfl rfl <| Wl.on' rfl rfl rfl <| Wl.y (y_eqli rfl rfl) rfl <| Wl.on' rfl rfl rfl <| Wl.mv rfl rfl ?_
   refine Wl.guardT rfl rfl rfl (fun g_196 => ?_) (fun g_196 => ?_)
   ·
    have g_196_ := g_196
    try simp only [DZ] at g_196
    refine Wl.mv rfl rfl <| Wl.on' rfl rfl g_196_ <| Wl.y (y_eqli rfl rfl) rfl <| Wl.on' rfl rfl rfl ?_
    refine Wl.y (y_pickT rfl g_196_ rfl) rfl ?_
    refine Wl.on' rfl rfl rfl <| Wl.mv rfl rfl ?_
    refine Wl.guardT rfl rfl rfl (fun g_201 => ?_) (fun g_201 => ?_)
    ·
     have g_201_ := g_201
     try simp only [DZ] at g_201
     refine Wl.mv rfl rfl <| Wl.on' rfl rfl g_201_ <| Wl.y (y_eqli rfl rfl) rfl <| Wl.on' rfl rfl rfl ?_
     refine Wl.y (y_pickT rfl g_201_ rfl) rfl ?_
     refine Wl.on' rfl rfl g_149_ <| Wl.y (y_pickF rfl rfl rfl) rfl ?_
     refine Wl.y (y_pickT rfl g_149_ rfl) rfl ?_
     refine Wl.sg rfl rfl <| Wl.nil <| Wq.next hK_146 <| Wc.ret ?_
     refine ret1 rfl rfl ?_
     exact ⟨_, rfl, bool_eq (by first | rfl | (simp; omega) | (simp_all; omega)), hb⟩
    have g_201_ := g_201
    try simp only [DZ] at g_201
    refine Wl.off' rfl rfl g_201_ rfl rfl <| Wl.on' rfl rfl rfl ?_
    refine Wl.y (y_pickF rfl g_201_ rfl) rfl ?_
    refine Wl.on' rfl rfl g_149_ <| Wl.y (y_pickF rfl rfl rfl) rfl ?_
    refine Wl.y (y_pickT rfl g_149_ rfl) rfl ?_
    refine Wl.sg rfl rfl <| Wl.nil <| Wq.next hK_146 <| Wc.ret ?_
    refine ret1 rfl rfl ?_
    exact ⟨_, rfl, bool_eq (by first | rfl | (simp; omega) | (simp_all; omega)), hb⟩
   have g_196_ := g_196
   try simp only [DZ] at g_196
   refine Wl.off' rfl rfl g_196_ rfl rfl <| Wl.on' rfl rfl rfl ?_
   refine Wl.y (y_pickF rfl g_196_ rfl) rfl ?_
   refine Wl.on' rfl rfl rfl <| Wl.mv rfl rfl <| Wl.off' rfl rfl rfl rfl rfl <| Wl.off' rfl rfl rfl rfl rfl <| Wl.on' rfl rfl rfl <| Wl.y (y_pickF rfl rfl rfl) rfl <| Wl.on' rfl rfl g_149_ <| Wl.y (y_pickF rfl rfl rfl) rfl ?_
   refine Wl.y (y_pickT rfl g_149_ rfl) rfl ?_
   refine Wl.sg rfl rfl <| Wl.nil <| Wq.next hK_146 <| Wc.ret ?_
   refine ret1 rfl rfl ?_
   exact ⟨_, rfl, bool_eq (by first | rfl | (simp; omega) | (simp_all; omega)), hb⟩
  have g_149_ := g_149
  try simp only [DZ] at g_149
  exact absurd g_149_ (by decide)
end Go.Proofs.YtjnabgddjogkbaaGreatDoor
