/- The statement ParseGroups, by the calculus. -/
import Derived.Test.YtjnabgddjogkbaaGreatDoorZP6
import Derived.Test.YtjnabgddjogkbaaGreatDoorZP7
namespace Go.Proofs.YtjnabgddjogkbaaGreatDoor
open Go.RowKit Go.Bw Go.Bw.Fl
set_option linter.unusedVariables false
set_option linter.unusedSimpArgs false
theorem fa33_0PlG (p : Addr) (w : World) : (Instr.fieldAt 33 (.pointer (some p)) 0).run Tryz.prog w = .ok (.pointer (some (p.add 0))) w := run_fieldAt (i := 0) (sz := 0) Tryz.underlying33 rfl (by kernel_rfl) p w
theorem fa33_1PlG (p : Addr) (w : World) : (Instr.fieldAt 33 (.pointer (some p)) 1).run Tryz.prog w = .ok (.pointer (some (p.add 1))) w := run_fieldAt (i := 1) (sz := 0) Tryz.underlying33 rfl (by kernel_rfl) p w
theorem fa43_0PlG (p : Addr) (w : World) : (Instr.fieldAt 43 (.pointer (some p)) 0).run Tryz.prog w = .ok (.pointer (some (p.add 0))) w := run_fieldAt (i := 0) (sz := 0) Tryz.underlying43 rfl (by kernel_rfl) p w
theorem one3PlG : One Tryz.prog 3 := ⟨_, Tryz.underlying3, rfl, by kernel_rfl⟩
theorem sz43PlG : (Tryz.prog.info? 43).map (·.size) = some 3 := by kernel_rfl
theorem txt11PlG : Txt Tryz.prog 11 := ⟨_, Tryz.func11, by kernel_rfl, rfl⟩   -- bridleway/bridlewaylaw11.shown
theorem txt12PlG : Txt Tryz.prog 12 := ⟨_, Tryz.func12, by kernel_rfl, rfl⟩   -- bridleway/parse.Parse
theorem txt14PlG : Txt Tryz.prog 14 := ⟨_, Tryz.func14, by kernel_rfl, rfl⟩   -- bridleway/bridlewayref11.Same
theorem txt15PlG : Txt Tryz.prog 15 := ⟨_, Tryz.func15, by kernel_rfl, rfl⟩   -- bridleway/lex.Lex
theorem groups_any {s : List UInt8} {l : List Tok} {q : QryD} {a : Int} (hs : s.length ≤ 500) (hl : lexV s 0 = .ok l) (hq : parseV s = (q, a, 0)) (h0 : 0 < l.length) (hk : (l[0]).k ≠ 2) (n : Nat) (hn : n ≤ 60) :
    ∃ q' a' f', parseV (grpS n s) = (q', a', f') ∧ ((f' = 0 ∧ q' = q ∧ n ≤ 50) ∨ (f' = 6 ∧ 0 < n)) := by
  rcases groups_eq hs hl hq h0 hk n hn with ⟨h1, a', h2⟩ | ⟨h1, a', h2⟩
  · exact ⟨_, _, _, h2, .inl ⟨rfl, rfl, h1⟩⟩
  · exact ⟨_, _, _, h2, .inr ⟨rfl, h1⟩⟩
theorem Groups_r (s : List UInt8) (b : Int) (w : World) (hX : Lx w) (hs : s.length ≤ 140737488355328) : Ret Tryz.prog 4 [str s, .int .i64 b] w fun v w' => v = .bool true ∧ Below w.heap.size w w' := by
  obtain ⟨x, hx⟩ : ∃ x, x = s.take 500 := ⟨_, rfl⟩
  have hxl : x.length ≤ 500 := by rw [hx]; exact List.length_take_le _ _
  obtain ⟨q, a, e, hq⟩ : ∃ q a e, parseV x = (q, a, e) := ⟨_, _, _, rfl⟩
  have hokp := parse_ok x
  rw [hq] at hokp
  obtain ⟨m, hm⟩ := and65535 b
  obtain ⟨n, hn⟩ : ∃ n, n = m % 61 := ⟨_, rfl⟩
  have hn60 : n ≤ 60 := by omega
  have hb := Below.refl w.heap.size w
  have hX_hb := hX
  refine enter Tryz.func4 rfl rfl rfl ?_
  refine Wc.seq fun _ hK_1 => Wc.region <| Wl.sg rfl rfl <| Wl.nil <| Wq.next hK_1 <| Wc.seq fun _ hK_3 => Wc.region ?_
  refine Wl.call txt11PlG rfl rfl (pshown_r _ hX) rfl ?_
  rintro _ w_k0 ⟨rfl, hs_k0⟩
  have hz_k0 := hs_k0.size
  have hb := hb.trans (hs_k0.mono hb.size)
  have hX := hX_hb.below hb
  refine Wl.sg rfl rfl <| Wl.nil <| Wq.next hK_3 <| Wc.seq fun _ hK_6 => Wc.region <| Wl.mv rfl rfl <| Wl.mv rfl rfl ?_
  refine Wl.y (y_lens Tryz.underlying9 (by omega) rfl) rfl ?_
  refine Wl.y (y_eq (y_min rfl rfl) (int_eq (show min (s.length : Int) 500 = ((min s.length 500 : Nat) : Int) by omega))) rfl ?_
  refine Wl.y (y_eq (y_slicesH Tryz.underlying9 rfl rfl (by omega) (by omega)) (str_eq (show _ = x by rw [hx, Int.toNat_natCast]; exact List.take_eq_take_iff.2 (by omega)))) rfl ?_
  refine Wl.sg rfl rfl <| Wl.nil <| Wq.next hK_6 <| Wc.seq fun _ hK_13 => Wc.region <| Wl.mv rfl rfl ?_
  refine Wl.call txt12PlG rfl rfl (ParseT_r hq (by omega) _ hX) rfl ?_
  rintro _ w_k1 ⟨⟨z, Sz, rfl, hz, hz_S⟩, hs_k1⟩
  have hz_k1 := hs_k1.size
  have hb := hb.trans (hs_k1.mono hb.size)
  have hX := hX_hb.below hb
  refine Wl.mv rfl rfl <| Wl.y (y_extract rfl rfl) rfl <| Wl.y (y_extract rfl rfl) rfl <| Wl.y (y_extract rfl rfl) rfl ?_
  refine Wl.allocN (z := (.agg #[(.int .i64 0), (.int .i64 0), (.int .i64 0), (.int .i64 0), (str []), (.int .i64 0), (.int .i64 0), (str []), (.int .i64 0), (.int .i64 0), (.float .f64 0), (str []), (.slice none 0 0), (.int .i64 0), (str []), (.int .i64 0), (.int .i64 0), (.float .f64 0), (str []), (.slice none 0 0), (.int .i64 0), (.int .i64 0), (.slice none 0 0)])) (by kernel_rfl) rfl ?_
  rintro g_o10 w_o10 hg_o10 hn_o10 hs_o10
  have hz_o10 := hs_o10.size
  have hb := hb.trans (hs_o10.mono hb.size)
  have hX := hX_hb.below hb
  try have hz := PAt.below hz hs_o10
  have hB_o10 := hn_o10
  have hl_o10 := hB_o10.lt
  refine Wl.storeS (by kernel_rfl) rfl rfl hB_o10 rfl rfl ?_
  rintro w_s0 hn_s0 hg_s0
  have hz_s0 := hg_s0.size
  have hb := below_blk hb hg_s0 hb.size (by omega)
  have hX := hX_hb.below hb
  try have hz := PAt.kp hz hg_s0 (fun h_ => by have h2_ := hz_S _ h_; first | omega | (rcases h2_ with h3_ | h3_; (have h4_ := hS _ h3_; omega); omega))
  have hB_o10 := hn_s0
  refine Wl.sg rfl rfl <| Wl.sg rfl rfl <| Wl.nil <| Wq.next hK_13 <| Wc.seq fun _ hK_23 => Wc.seq fun _ hK_24 => Wc.region <| Wl.mv rfl rfl <| Wl.y (y_neqi rfl rfl) rfl <| Wl.mv rfl rfl ?_
  refine Wl.guardF rfl rfl rfl (fun g_28 => ?_) (fun g_28 => ?_)
  ·
   have g_28_ := g_28
   try simp only [DZ] at g_28
   refine Wl.off' rfl rfl g_28_ rfl rfl <| Wl.off' rfl rfl g_28_ rfl rfl ?_
   refine Wl.y (y_pickT rfl g_28_ rfl) rfl ?_
   refine Wl.mv rfl rfl <| Wl.off' rfl rfl rfl rfl rfl <| Wl.off' rfl rfl rfl rfl rfl <| Wl.off' rfl rfl rfl rfl rfl <| Wl.y (y_pickT rfl rfl rfl) rfl <| Wl.nil <| Wq.next hK_24 ?_
   refine Wc.condT rfl rfl ?_
   refine Wc.seq fun _ hK_32 => Wc.region <| Wl.mv rfl rfl <| Wl.sg rfl rfl <| Wl.nil <| Wq.next hK_32 <| Wc.ret <| Wq.then_ret ?_
   refine ret1 rfl rfl ?_
   first | exact ⟨_, rfl, rfl, hb⟩ | exact ⟨_, rfl, bool_eq (by simp; omega), hb⟩
  have g_28_ := g_28
  try simp only [DZ] at g_28
  have he : e = 0 := by have := g_28; omega
  subst he
  refine Wl.y (y_fieldAddr (fa33_0PlG _) rfl) rfl ?_
  refine Wl.on' rfl rfl g_28_ ?_
  refine Wl.l (l_load one3PlG rfl (by exact hB_o10.at (j := 0) rfl)) rfl ?_
  refine Wl.on' rfl rfl g_28_ <| Wl.y (y_neqi rfl rfl) rfl ?_
  refine Wl.y (y_pickF rfl g_28_ rfl) rfl ?_
  refine Wl.mv rfl rfl ?_
  refine Wl.guardF rfl rfl rfl (fun g_40 => ?_) (fun g_40 => ?_)
  ·
   have g_40_ := g_40
   try simp only [DZ] at g_40
   refine Wl.off' rfl rfl g_40_ rfl rfl <| Wl.off' rfl rfl g_40_ rfl rfl ?_
   refine Wl.y (y_pickT rfl g_40_ rfl) rfl ?_
   refine Wl.nil <| Wq.next hK_24 ?_
   refine Wc.condT rfl rfl ?_
   refine Wc.seq fun _ hK_42 => Wc.region <| Wl.mv rfl rfl <| Wl.sg rfl rfl <| Wl.nil <| Wq.next hK_42 <| Wc.ret <| Wq.then_ret ?_
   refine ret1 rfl rfl ?_
   first | exact ⟨_, rfl, rfl, hb⟩ | exact ⟨_, rfl, bool_eq (by simp; omega), hb⟩
  have g_40_ := g_40
  try simp only [DZ] at g_40
  refine Wl.y (y_fieldAddr (fa33_1PlG _) rfl) rfl ?_
  refine Wl.on' rfl rfl g_40_ ?_
  refine Wl.l (l_load one3PlG rfl (by exact hB_o10.at (j := 1) rfl)) rfl ?_
  refine Wl.on' rfl rfl g_40_ <| Wl.y (y_neqi rfl rfl) rfl ?_
  refine Wl.y (y_pickF rfl g_40_ rfl) rfl ?_
  refine Wl.nil <| Wq.next hK_24 ?_
  refine Wc.cond rfl (fun c0_49 => ?_) (fun c0_49 => ?_)
  ·
   have c0_49_ := c0_49
   try simp only [DZ] at c0_49
   refine Wc.seq fun _ hK_50 => Wc.region <| Wl.mv rfl rfl <| Wl.sg rfl rfl <| Wl.nil <| Wq.next hK_50 <| Wc.ret <| Wq.then_ret ?_
   refine ret1 rfl rfl ?_
   first | exact ⟨_, rfl, rfl, hb⟩ | exact ⟨_, rfl, bool_eq (by simp; omega), hb⟩
  have c0_49_ := c0_49
  try simp only [DZ] at c0_49
  refine Wc.skip <| Wq.next hK_23 <| Wc.seq fun _ hK_53 => Wc.region <| Wl.mv rfl rfl ?_
  refine Wl.call txt15PlG rfl rfl (Lex_y x (by omega) _ hX) rfl ?_
  rintro _ w_k2 ⟨⟨A1, c1, l1, i1, e1, rfl, hR1, hl1, hc1, hx1⟩, hs_k2⟩
  have hz_k2 := hs_k2.size
  have hb := hb.trans (hs_k2.mono hb.size)
  have hX := hX_hb.below hb
  try have hz := PAt.below hz hs_k2
  try have hB_o10 := Blk.below hB_o10 hs_k2
  refine Wl.mv rfl rfl <| Wl.y (y_extract rfl rfl) rfl <| Wl.y (y_extract rfl rfl) rfl <| Wl.y (y_extract rfl rfl) rfl <| Wl.sg rfl rfl <| Wl.sg rfl rfl <| Wl.sg rfl rfl <| Wl.nil <| Wq.next hK_53 <| Wc.seq fun _ hK_63 => ?_
  refine Wc.seq fun _ hK_64 => ?_
  obtain ⟨_, _, l2, r2, hlok, _⟩ := parse_ok0 hq
  obtain ⟨rfl, _, rfl⟩ := hx1.fine hlok
  refine Wc.region <| Wl.mv rfl rfl ?_
  refine Wl.y (y_lenl Tryz.underlying39 (by omega) rfl) rfl ?_
  refine Wl.y (y_eqli rfl rfl) rfl <| Wl.mv rfl rfl ?_
  refine Wl.guardF rfl rfl rfl (fun g_69 => ?_) (fun g_69 => ?_)
  ·
   have g_69_ := g_69
   try simp only [DZ] at g_69
   refine Wl.off' rfl rfl g_69_ rfl rfl <| Wl.off' rfl rfl g_69_ rfl rfl <| Wl.off' rfl rfl g_69_ rfl rfl <| Wl.off' rfl rfl g_69_ rfl rfl ?_
   refine Wl.y (y_pickT rfl g_69_ rfl) rfl ?_
   refine Wl.nil <| Wq.next hK_64 ?_
   refine Wc.condT rfl rfl ?_
   refine Wc.seq fun _ hK_71 => Wc.region <| Wl.mv rfl rfl <| Wl.sg rfl rfl <| Wl.nil <| Wq.next hK_71 <| Wc.ret <| Wq.then_ret ?_
   refine ret1 rfl rfl ?_
   first | exact ⟨_, rfl, rfl, hb⟩ | exact ⟨_, rfl, bool_eq (by simp; omega), hb⟩
  have g_69_ := g_69
  try simp only [DZ] at g_69
  have hl0 : 0 < l1.length := by have := g_69; omega
  obtain ⟨p1, hp1, hd1_⟩ := Rd.tok hR1 hl0
  subst hp1
  refine Wl.mv rfl rfl <| Wl.on' rfl rfl g_69_ ?_
  refine Wl.y (y_indexAddr Tryz.underlying39 sz43PlG rfl rfl (by omega) (by omega)) rfl ?_
  refine Wl.on' rfl rfl g_69_ ?_
  refine Wl.y (y_fieldAddr (fa43_0PlG _) rfl) rfl ?_
  refine Wl.on' rfl rfl g_69_ ?_
  refine Wl.l (l_load one3PlG rfl (by exact (hd1_ 0 _ rfl))) rfl ?_
  refine Wl.on' rfl rfl g_69_ <| Wl.y (y_eqli rfl rfl) rfl ?_
  refine Wl.y (y_pickF rfl g_69_ rfl) rfl ?_
  refine Wl.nil <| Wq.next hK_64 ?_
  refine Wc.cond rfl (fun c1_80 => ?_) (fun c1_80 => ?_)
  ·
   have c1_80_ := c1_80
   try simp only [DZ] at c1_80
   refine Wc.seq fun _ hK_81 => Wc.region <| Wl.mv rfl rfl <| Wl.sg rfl rfl <| Wl.nil <| Wq.next hK_81 <| Wc.ret <| Wq.then_ret ?_
   refine ret1 rfl rfl ?_
   first | exact ⟨_, rfl, rfl, hb⟩ | exact ⟨_, rfl, bool_eq (by simp; omega), hb⟩
  have c1_80_ := c1_80
  try simp only [DZ] at c1_80
  have hk2 : (l1[0]).k ≠ 2 := by have := c1_80; omega
  obtain ⟨q', a', f', hq', hcase⟩ := groups_any hxl hlok hq hl0 hk2 n hn60
  have hgl0 := grpS_len x n
  refine Wc.skip <| Wq.next hK_63 <| Wc.seq fun _ hK_84 => Wc.region <| Wl.mv rfl rfl ?_
  refine Wl.y (y_eq (y_and rfl rfl) (int_eq (show _ = (m : Int) from hm))) rfl ?_
  refine Wl.y (y_eq (y_rem rfl rfl (by first | decide | omega)) (int_eq (show _ = (n : Int) by rw [hn]; rfl))) rfl ?_
  refine Wl.sg rfl rfl <| Wl.nil <| Wq.next hK_84 <| Wc.seq fun _ hK_89 => Wc.region <| Wl.mv rfl rfl <| Wl.sg rfl rfl <| Wl.nil <| Wq.next hK_89 <| Wc.seq fun _ hK_92 => ?_
  refine Wc.seq fun _ hK_93 => Wc.region <| Wl.sg rfl rfl <| Wl.nil <| Wq.next hK_93 <| Wc.block ?_
  refine Wc.loop (X := Nat) (fun i => [(1, .int .i64 (n : Int)), (5, .bool true), (6, .pointer (some ⟨g_o10, 0, none⟩)), (12, str (grpS i x)), (13, .int .i64 (i : Int))]) (fun i wr => i ≤ n ∧ Below w.heap.size w wr ∧ Blk wr g_o10 33 (qcells q.mode q.sel q.kk z) ∧ PAt wr Sz q.pat z.cells) (fun i => n - i) (0) ?_ ?_ ?_
  · exact by repeat first | exact Sub.nil | refine Sub.cons' rfl (by first | rfl | exact int_eq (by omega)) ?_
  · exact ⟨by omega, hb, hB_o10, hz⟩
  rintro i wr hI_96 _ hL_95
  replace hI_96 : i ≤ n ∧ Below w.heap.size w wr ∧ Blk wr g_o10 33 (qcells q.mode q.sel q.kk z) ∧ PAt wr Sz q.pat z.cells := hI_96
  obtain ⟨hi, hb, hB_o10, hz⟩ := hI_96
  show Wc _ _ _ _ _ [(1, .int .i64 (n : Int)), (5, .bool true), (6, .pointer (some ⟨g_o10, 0, none⟩)), (12, str (grpS i x)), (13, .int .i64 (i : Int))] _
  have hX := hX_hb.below hb
  try have hzhb_L0 := hb.size
  have hlhB_o10_L0 := hB_o10.lt
  refine Wc.seq fun _ hK_97 => Wc.seq fun _ hK_98 => Wc.region <| Wl.mv rfl rfl <| Wl.mv rfl rfl <| Wl.y (y_lssi rfl rfl) rfl <| Wl.nil <| Wq.next hK_98 ?_
  refine Wc.cond rfl (fun c2_102 => ?_) (fun c2_102 => ?_)
  ·
   have c2_102_ := c2_102
   try simp only [DZ] at c2_102
   have hin : i < n := by have := c2_102; omega
   have hgl := grpS_len x i
   refine Wc.skip <| Wq.next hK_97 <| Wc.seq fun _ hK_103 => Wc.block <| Wc.region <| Wl.mv rfl rfl ?_
   refine Wl.y (y_adds rfl rfl (by first | omega | (simp; done) | (simp; omega))) rfl ?_
   refine Wl.y (y_adds rfl rfl (by first | omega | (simp; done) | (simp; omega))) rfl ?_
   refine Wl.sg rfl rfl <| Wl.nil <| Wq.block_normal <| Wq.next hK_103 <| Wc.region <| Wl.mv rfl rfl ?_
   refine Wl.y (y_addI rfl rfl (by first | omega | (simp; done) | (simp; omega)) (by first | omega | (simp; done) | (simp; omega))) rfl ?_
   refine Wl.sg rfl rfl <| Wl.nil ?_
   refine fun a_ ha_ => hL_95 _ _ (i + 1) (by first | omega | (simp; omega)) (by repeat first | exact Sub.nil | refine Sub.cons' rfl (by first | rfl | exact int_eq (by omega)) ?_) ?_ a_ ha_
   exact ⟨by omega, hb, hB_o10, hz⟩
  have c2_102_ := c2_102
  try simp only [DZ] at c2_102
  have hin : i = n := by have := c2_102; omega
  subst hin
  refine Wc.exit ?_
  refine Wq.then_exit <| Wq.then_exit <| Wq.block_exit <| Wq.next hK_92 <| Wc.seq fun _ hK_111 => Wc.region <| Wl.mv rfl rfl ?_
  refine Wl.call txt12PlG rfl rfl (ParseT_r hq' (by omega) _ hX) rfl ?_
  rintro _ w_k3 ⟨⟨z2, S2, rfl, hz2, hz2_S⟩, hs_k3⟩
  have hz_k3 := hs_k3.size
  have hb := hb.trans (hs_k3.mono hb.size)
  have hX := hX_hb.below hb
  try have hB_o10 := Blk.below hB_o10 hs_k3
  try have hz := PAt.below hz hs_k3
  refine Wl.mv rfl rfl <| Wl.y (y_extract rfl rfl) rfl <| Wl.y (y_extract rfl rfl) rfl <| Wl.y (y_extract rfl rfl) rfl ?_
  refine Wl.allocN (z := (.agg #[(.int .i64 0), (.int .i64 0), (.int .i64 0), (.int .i64 0), (str []), (.int .i64 0), (.int .i64 0), (str []), (.int .i64 0), (.int .i64 0), (.float .f64 0), (str []), (.slice none 0 0), (.int .i64 0), (str []), (.int .i64 0), (.int .i64 0), (.float .f64 0), (str []), (.slice none 0 0), (.int .i64 0), (.int .i64 0), (.slice none 0 0)])) (by kernel_rfl) rfl ?_
  rintro g_o64 w_o64 hg_o64 hn_o64 hs_o64
  have hz_o64 := hs_o64.size
  have hb := hb.trans (hs_o64.mono hb.size)
  have hX := hX_hb.below hb
  try have hB_o10 := Blk.below hB_o10 hs_o64
  try have hz := PAt.below hz hs_o64
  try have hz2 := PAt.below hz2 hs_o64
  have hB_o64 := hn_o64
  have hl_o64 := hB_o64.lt
  refine Wl.storeS (by kernel_rfl) rfl rfl hB_o64 rfl rfl ?_
  rintro w_s1 hn_s1 hg_s1
  have hz_s1 := hg_s1.size
  have hb := below_blk hb hg_s1 hb.size (by omega)
  have hX := hX_hb.below hb
  try have hB_o10 := hB_o10.over hg_s1 (by omega)
  try have hz := PAt.kp hz hg_s1 (fun h_ => by have h2_ := hz_S _ h_; first | omega | (rcases h2_ with h3_ | h3_; (have h4_ := hS _ h3_; omega); omega))
  try have hz2 := PAt.kp hz2 hg_s1 (fun h_ => by have h2_ := hz2_S _ h_; first | omega | (rcases h2_ with h3_ | h3_; (have h4_ := hS _ h3_; omega); omega))
  have hB_o64 := hn_s1
  refine Wl.sg rfl rfl <| Wl.sg rfl rfl <| Wl.nil <| Wq.next hK_111 <| Wc.seq fun _ hK_121 => Wc.seq fun _ hK_122 => Wc.region <| Wl.mv rfl rfl <| Wl.y (y_eqli rfl rfl) rfl <| Wl.nil ?_
  refine Wq.next hK_122 ?_
  refine Wc.cond rfl (fun c3_125 => ?_) (fun c3_125 => ?_)
  ·
   have c3_125_ := c3_125
   try simp only [DZ] at c3_125
   have hn0 : 0 < i := by rcases hcase with h | h; (· have := c3_125; omega); (· exact h.2)
   refine Wc.seq fun _ hK_126 => Wc.region <| Wl.mv rfl rfl <| Wl.mv rfl rfl ?_
   refine Wl.guardT rfl rfl rfl (fun g_129 => ?_) (fun g_129 => ?_)
   ·
    have g_129_ := g_129
    try simp only [DZ] at g_129
    refine Wl.mv rfl rfl <| Wl.on' rfl rfl g_129_ <| Wl.y (y_gtri rfl rfl) rfl ?_
    refine Wl.y (y_pickT rfl g_129_ rfl) rfl ?_
    refine Wl.sg rfl rfl <| Wl.nil <| Wq.next hK_126 <| Wc.ret <| Wq.then_ret ?_
    refine ret1 rfl rfl ?_
    first | exact ⟨_, rfl, rfl, hb⟩ | exact ⟨_, rfl, bool_eq (by simp; omega), hb⟩
   have g_129_ := g_129
   try simp only [DZ] at g_129
   exact absurd g_129_ (by decide)
  have c3_125_ := c3_125
  try simp only [DZ] at c3_125
  obtain ⟨hf0, hqe, hn50⟩ : f' = 0 ∧ q' = q ∧ i ≤ 50 := by rcases hcase with h | h; (· exact h); (· exact absurd h.1 c3_125)
  rw [hqe] at hz2
  rw [hqe] at hB_o64
  refine Wc.skip <| Wq.next hK_121 <| Wc.seq fun _ hK_134 => Wc.region <| Wl.mv rfl rfl <| Wl.mv rfl rfl ?_
  refine Wl.guardT rfl rfl rfl (fun g_137 => ?_) (fun g_137 => ?_)
  ·
   have g_137_ := g_137
   try simp only [DZ] at g_137
   refine Wl.mv rfl rfl <| Wl.on' rfl rfl g_137_ <| Wl.y (y_eqli rfl rfl) rfl ?_
   refine Wl.y (y_pickT rfl g_137_ rfl) rfl ?_
   refine Wl.mv rfl rfl ?_
   refine Wl.guardT rfl rfl rfl (fun g_142 => ?_) (fun g_142 => ?_)
   ·
    have g_142_ := g_142
    try simp only [DZ] at g_142
    refine Wl.mv rfl rfl <| Wl.on' rfl rfl g_142_ <| Wl.y (y_leqi rfl rfl) rfl ?_
    refine Wl.y (y_pickT rfl g_142_ rfl) rfl ?_
    refine Wl.mv rfl rfl ?_
    refine Wl.guardT rfl rfl rfl (fun g_147 => ?_) (fun g_147 => ?_)
    ·
     have g_147_ := g_147
     try simp only [DZ] at g_147
     refine Wl.l (l_loadS Tryz.underlying33 (by kernel_rfl) rfl (by exact fun j u hu => hB_o64.at hu)) rfl ?_
     refine Wl.on' rfl rfl g_147_ ?_
     refine Wl.l (l_loadS Tryz.underlying33 (by kernel_rfl) rfl (by exact fun j u hu => hB_o10.at hu)) rfl ?_
     refine Wl.on' rfl rfl g_147_ ?_
     refine Wl.call txt14PlG rfl rfl (SameQ_r q.mode q.sel q.kk q.pat z2 z S2 Sz _ hokp hz2 hz) rfl ?_
     rintro _ w_k4 ⟨rfl, hs_k4⟩
     have hz_k4 := hs_k4.size
     have hb := hb.trans (hs_k4.mono hb.size)
     have hX := hX_hb.below hb
     try have hz := PAt.below hz hs_k4
     try have hz2 := PAt.below hz2 hs_k4
     refine Wl.y (y_pickT rfl g_147_ rfl) rfl ?_
     refine Wl.sg rfl rfl <| Wl.nil <| Wq.next hK_134 <| Wc.ret ?_
     refine ret1 rfl rfl ?_
     first | exact ⟨_, rfl, rfl, hb⟩ | exact ⟨_, rfl, bool_eq (by simp; omega), hb⟩
    have g_147_ := g_147
    try simp only [DZ] at g_147
    exact absurd g_147_ (by simp; omega)
   have g_142_ := g_142
   try simp only [DZ] at g_142
   exact absurd g_142_ (by rw [hf0]; decide)
  have g_137_ := g_137
  try simp only [DZ] at g_137
  exact absurd g_137_ (by decide)
end Go.Proofs.YtjnabgddjogkbaaGreatDoor
