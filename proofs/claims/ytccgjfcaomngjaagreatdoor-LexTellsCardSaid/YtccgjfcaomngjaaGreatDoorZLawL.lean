/- The statement LexTells, by the calculus. -/
import Derived.Test.YtccgjfcaomngjaaGreatDoorZM
import Derived.Test.YtccgjfcaomngjaaGreatDoorZT
namespace Go.Proofs.YtccgjfcaomngjaaGreatDoor
open Go.RowKit Go.Bw Go.Bw.Fl
set_option linter.unusedVariables false
set_option linter.unusedSimpArgs false
theorem fa105_0LawL (p : Addr) (w : World) : (Instr.fieldAt 105 (.pointer (some p)) 0).run Tryz.prog w = .ok (.pointer (some (p.add 0))) w := run_fieldAt (i := 0) (sz := 0) Tryz.underlying105 rfl (by kernel_rfl) p w
theorem fa105_1LawL (p : Addr) (w : World) : (Instr.fieldAt 105 (.pointer (some p)) 1).run Tryz.prog w = .ok (.pointer (some (p.add 1))) w := run_fieldAt (i := 1) (sz := 0) Tryz.underlying105 rfl (by kernel_rfl) p w
theorem fa105_2LawL (p : Addr) (w : World) : (Instr.fieldAt 105 (.pointer (some p)) 2).run Tryz.prog w = .ok (.pointer (some (p.add 2))) w := run_fieldAt (i := 2) (sz := 0) Tryz.underlying105 rfl (by kernel_rfl) p w
theorem fa65_0LawL (p : Addr) (w : World) : (Instr.fieldAt 65 (.pointer (some p)) 0).run Tryz.prog w = .ok (.pointer (some (p.add 0))) w := run_fieldAt (i := 0) (sz := 0) Tryz.underlying65 rfl (by kernel_rfl) p w
theorem fa65_1LawL (p : Addr) (w : World) : (Instr.fieldAt 65 (.pointer (some p)) 1).run Tryz.prog w = .ok (.pointer (some (p.add 1))) w := run_fieldAt (i := 1) (sz := 0) Tryz.underlying65 rfl (by kernel_rfl) p w
theorem fa65_2LawL (p : Addr) (w : World) : (Instr.fieldAt 65 (.pointer (some p)) 2).run Tryz.prog w = .ok (.pointer (some (p.add 2))) w := run_fieldAt (i := 2) (sz := 0) Tryz.underlying65 rfl (by kernel_rfl) p w
theorem one3LawL : One Tryz.prog 3 := ⟨_, Tryz.underlying3, rfl, by kernel_rfl⟩
theorem one9LawL : One Tryz.prog 9 := ⟨_, Tryz.underlying9, rfl, by kernel_rfl⟩
theorem sz105LawL : (Tryz.prog.info? 105).map (·.size) = some 3 := by kernel_rfl
theorem sz65LawL : (Tryz.prog.info? 65).map (·.size) = some 3 := by kernel_rfl
theorem txt21LawL : Txt Tryz.prog 21 := ⟨_, Tryz.func21, by kernel_rfl, rfl⟩   -- bridleway/bridlewaylaw10.shown
theorem txt22LawL : Txt Tryz.prog 22 := ⟨_, Tryz.func22, by kernel_rfl, rfl⟩   -- bridleway/lex.Lex
theorem txt23LawL : Txt Tryz.prog 23 := ⟨_, Tryz.func23, by kernel_rfl, rfl⟩   -- bridleway/bridlewayref10.Lex
theorem txt24LawL : Txt Tryz.prog 24 := ⟨_, Tryz.func24, by kernel_rfl, rfl⟩   -- bridleway/bridlewaylaw10.same
theorem txt65LawL : Txt Tryz.prog 65 := ⟨_, Tryz.func65, by kernel_rfl, rfl⟩   -- bridleway/bridlewayref10.one
theorem blank_eq (c : UInt8) : blank c = decide (c.toNat = 32 ∨ c.toNat = 9 ∨ c.toNat = 13 ∨ c.toNat = 10) := by
  have key : ∀ n : Fin 256, blank (UInt8.ofNat n.val) = decide (n.val = 32 ∨ n.val = 9 ∨ n.val = 13 ∨ n.val = 10) := by decide +kernel
  have h2 := key ⟨c.toNat, UInt8.toNat_lt c⟩
  rw [show UInt8.ofNat c.toNat = c from UInt8.ofNat_toNat] at h2
  exact h2
theorem RTok_x (s : List UInt8) (a : Nat) (ha : a < s.length) (hs : s.length ≤ 70368744177664) (w : World) : Ret Tryz.prog 65 [str s, .int .i64 (a : Int)] w fun v w' => (∃ (k n : Nat) (z : Nat) (t : List UInt8), v = .agg #[.int .i64 (k : Int), str t, .int .i64 (z : Int)] ∧ tokV (s.drop a) = (k, n) ∧ (k ≠ 0 → z = a ∧ t = (s.drop a).take n)) ∧ Below w.heap.size w w' :=
  (RTok_r s a ha hs w).mono fun v w' ⟨h1, h2⟩ => ⟨by
    obtain ⟨k, n, h, h3⟩ := h1
    rcases h3 with ⟨hk, hv⟩ | ⟨hk, hv⟩
    · exact ⟨k, n, a, _, hv, h, fun _ => ⟨rfl, rfl⟩⟩
    · exact ⟨k, n, 0, [], by rw [hv, hk]; rfl, h, fun h => absurd hk h⟩, h2⟩
theorem RLex_r (s : List UInt8) (hs : s.length ≤ 70368744177664) (w : World) : Ret Tryz.prog 23 [str s] w fun v w' => LexIs s v w' ∧ Below w.heap.size w w' := by
  have hb := Below.refl w.heap.size w
  refine enter Tryz.func23 rfl rfl rfl ?_
  refine Wc.seq fun _ hK_1 => Wc.region <| Wl.sg rfl rfl <| Wl.sg rfl rfl <| Wl.sg rfl rfl <| Wl.nil <| Wq.next hK_1 <| Wc.seq fun _ hK_5 => Wc.seq fun _ hK_6 => Wc.region ?_
  refine Wl.mv rfl rfl ?_
  refine Wl.y (y_lens Tryz.underlying9 (by omega) rfl) rfl ?_
  refine Wl.y (y_gtri rfl rfl) rfl <| Wl.nil <| Wq.next hK_6 ?_
  refine Wc.cond rfl (fun c0_10 => ?_) (fun c0_10 => ?_)
  ·
   have c0_10_ := c0_10
   try simp only [DZ] at c0_10
   refine Wc.seq fun _ hK_11 => Wc.region <| Wl.sg rfl rfl <| Wl.sg rfl rfl <| Wl.sg rfl rfl <| Wl.nil <| Wq.next hK_11 <| Wc.ret <| Wq.then_ret ?_
   refine ret3 rfl rfl rfl rfl ?_
   exact ⟨_, rfl, lexIs_long (by have := c0_10; omega), hb⟩
  have c0_10_ := c0_10
  try simp only [DZ] at c0_10
  have hsl : s.length ≤ 65536 := by have := c0_10; omega
  refine Wc.skip <| Wq.next hK_5 <| Wc.seq fun _ hK_15 => Wc.region ?_
  refine Wl.lit0N Tryz.underlying40 (by kernel_rfl) rfl ?_
  rintro g_b1 w_b1 hg_b1 hn_b1 hs_b1
  have hz_b1 := hs_b1.size
  have hb := hb.trans (hs_b1.mono hb.size)
  have hB_b1 := hn_b1
  have hl_b1 := hB_b1.lt
  refine Wl.sg rfl rfl <| Wl.nil <| Wq.next hK_15 <| Wc.seq fun _ hK_18 => Wc.region <| Wl.sg rfl rfl <| Wl.nil <| Wq.next hK_18 <| Wc.seq fun _ hK_20 => Wc.block ?_
  refine Wc.loop (X := Nat × List Tok × Value) (fun (i, l, v) => [(0, str s), (5, v), (6, .int .i64 (i : Int))]) (fun (i, l, v) wr => i ≤ s.length ∧ l.length ≤ i ∧ lexV s 0 = (lexV (s.drop i) i).map (l ++ ·) ∧ Below w.heap.size w wr ∧ wr.ownsRow w.heap.size 105 3 v l.length (l.flatMap Tok.cells)) (fun (i, l, v) => s.length - i) (⟨0, [], .slice (some ⟨g_b1, 0, none⟩) 0 0⟩) ?_ ?_ ?_
  · exact Sub.cons' rfl (by first | rfl | exact int_eq (by omega)) (Sub.cons' rfl (by first | rfl | exact int_eq (by omega)) (Sub.cons' rfl (by first | rfl | exact int_eq (by omega)) (Sub.nil)))
  · exact ⟨by omega, Nat.le_refl _, lx_start, hb, hB_b1.own (base := w.heap.size) (n := 0) (sz := 3) (by omega) rfl (by decide)⟩
  rintro ⟨i, l, v⟩ wr hI_22 _ hL_21
  replace hI_22 : i ≤ s.length ∧ l.length ≤ i ∧ lexV s 0 = (lexV (s.drop i) i).map (l ++ ·) ∧ Below w.heap.size w wr ∧ wr.ownsRow w.heap.size 105 3 v l.length (l.flatMap Tok.cells) := hI_22
  obtain ⟨hi, hll, hlx, hb, hO⟩ := hI_22
  show Wc _ _ _ _ _ [(0, str s), (5, v), (6, .int .i64 (i : Int))] _
  try have hzhb_L0 := hb.size
  refine Wc.seq fun _ hK_23 => Wc.seq fun _ hK_24 => Wc.region <| Wl.mv rfl rfl <| Wl.mv rfl rfl ?_
  refine Wl.y (y_lens Tryz.underlying9 (by omega) rfl) rfl ?_
  refine Wl.y (y_lssi rfl rfl) rfl <| Wl.nil <| Wq.next hK_24 ?_
  refine Wc.cond rfl (fun c1_29 => ?_) (fun c1_29 => ?_)
  ·
   have c1_29_ := c1_29
   try simp only [DZ] at c1_29
   have hil : i < s.length := by have := c1_29; omega
   obtain ⟨c, hc⟩ : ∃ c, c = s.getD i 0 := ⟨_, rfl⟩
   refine Wc.skip <| Wq.next hK_23 <| Wc.block <| Wc.seq fun _ hK_30 => Wc.region <| Wl.mv rfl rfl <| Wl.mv rfl rfl ?_
   refine Wl.y (y_eq (y_indexs Tryz.underlying9 rfl rfl (by omega) (by omega)) (int_eq (show _ = (c.toNat : Int) by rw [hc, Int.toNat_natCast]))) rfl ?_
   refine Wl.sg rfl rfl <| Wl.nil <| Wq.next hK_30 <| Wc.seq fun _ hK_35 => Wc.seq fun _ hK_36 => ?_
   refine Wc.meet (X := Bool) (fun q => [(0, str s), (5, v), (6, .int .i64 (i : Int)), (33, .bool q)]) (fun q wr => q = blank c ∧ Below w.heap.size w wr ∧ wr.ownsRow w.heap.size 105 3 v l.length (l.flatMap Tok.cells)) (fun _ hM_37 => ?_) ?_
   ·
    refine Wc.region <| Wl.mv rfl rfl <| Wl.y (y_eqli rfl rfl) rfl <| Wl.mv rfl rfl ?_
    refine Wl.guardF rfl rfl rfl (fun g_41 => ?_) (fun g_41 => ?_)
    ·
     have g_41_ := g_41
     try simp only [DZ] at g_41
     refine Wl.off' rfl rfl g_41_ rfl rfl ?_
     refine Wl.y (y_pickT rfl g_41_ rfl) rfl ?_
     refine Wl.mv rfl rfl <| Wl.off' rfl rfl rfl rfl rfl <| Wl.off' rfl rfl rfl rfl rfl <| Wl.y (y_pickT rfl rfl rfl) rfl <| Wl.mv rfl rfl <| Wl.off' rfl rfl rfl rfl rfl <| Wl.off' rfl rfl rfl rfl rfl <| Wl.y (y_pickT rfl rfl rfl) rfl <| Wl.nil ?_
     refine Wq.meet hM_37 (blank c) (Sub.cons' rfl (by first | rfl | exact bool_eq (by rw [blank_eq, Bool.eq_iff_iff]; simp <;> omega)) (Sub.cons' rfl (by first | rfl | exact bool_eq (by rw [blank_eq, Bool.eq_iff_iff]; simp <;> omega)) (Sub.cons' rfl (by first | rfl | exact bool_eq (by rw [blank_eq, Bool.eq_iff_iff]; simp <;> omega)) (Sub.cons' rfl (by first | rfl | exact bool_eq (by rw [blank_eq, Bool.eq_iff_iff]; simp <;> omega)) (Sub.nil))))) ?_
     exact ⟨rfl, hb, hO⟩
    have g_41_ := g_41
    try simp only [DZ] at g_41
    refine Wl.mv rfl rfl <| Wl.on' rfl rfl g_41_ <| Wl.y (y_eqli rfl rfl) rfl ?_
    refine Wl.y (y_pickF rfl g_41_ rfl) rfl ?_
    refine Wl.mv rfl rfl ?_
    refine Wl.guardF rfl rfl rfl (fun g_51 => ?_) (fun g_51 => ?_)
    ·
     have g_51_ := g_51
     try simp only [DZ] at g_51
     refine Wl.off' rfl rfl g_51_ rfl rfl ?_
     refine Wl.y (y_pickT rfl g_51_ rfl) rfl ?_
     refine Wl.mv rfl rfl <| Wl.off' rfl rfl rfl rfl rfl <| Wl.off' rfl rfl rfl rfl rfl <| Wl.y (y_pickT rfl rfl rfl) rfl <| Wl.nil ?_
     refine Wq.meet hM_37 (blank c) (Sub.cons' rfl (by first | rfl | exact bool_eq (by rw [blank_eq, Bool.eq_iff_iff]; simp <;> omega)) (Sub.cons' rfl (by first | rfl | exact bool_eq (by rw [blank_eq, Bool.eq_iff_iff]; simp <;> omega)) (Sub.cons' rfl (by first | rfl | exact bool_eq (by rw [blank_eq, Bool.eq_iff_iff]; simp <;> omega)) (Sub.cons' rfl (by first | rfl | exact bool_eq (by rw [blank_eq, Bool.eq_iff_iff]; simp <;> omega)) (Sub.nil))))) ?_
     exact ⟨rfl, hb, hO⟩
    have g_51_ := g_51
    try simp only [DZ] at g_51
    refine Wl.mv rfl rfl <| Wl.on' rfl rfl g_51_ <| Wl.y (y_eqli rfl rfl) rfl ?_
    refine Wl.y (y_pickF rfl g_51_ rfl) rfl ?_
    refine Wl.mv rfl rfl ?_
    refine Wl.guardF rfl rfl rfl (fun g_59 => ?_) (fun g_59 => ?_)
    ·
     have g_59_ := g_59
     try simp only [DZ] at g_59
     refine Wl.off' rfl rfl g_59_ rfl rfl ?_
     refine Wl.y (y_pickT rfl g_59_ rfl) rfl ?_
     refine Wl.nil ?_
     refine Wq.meet hM_37 (blank c) (Sub.cons' rfl (by first | rfl | exact bool_eq (by rw [blank_eq, Bool.eq_iff_iff]; simp <;> omega)) (Sub.cons' rfl (by first | rfl | exact bool_eq (by rw [blank_eq, Bool.eq_iff_iff]; simp <;> omega)) (Sub.cons' rfl (by first | rfl | exact bool_eq (by rw [blank_eq, Bool.eq_iff_iff]; simp <;> omega)) (Sub.cons' rfl (by first | rfl | exact bool_eq (by rw [blank_eq, Bool.eq_iff_iff]; simp <;> omega)) (Sub.nil))))) ?_
     exact ⟨rfl, hb, hO⟩
    have g_59_ := g_59
    try simp only [DZ] at g_59
    refine Wl.mv rfl rfl <| Wl.on' rfl rfl g_59_ <| Wl.y (y_eqli rfl rfl) rfl ?_
    refine Wl.y (y_pickF rfl g_59_ rfl) rfl ?_
    refine Wl.nil ?_
    refine Wq.meet hM_37 (blank c) (Sub.cons' rfl (by first | rfl | exact bool_eq (by rw [blank_eq, Bool.eq_iff_iff]; simp <;> omega)) (Sub.cons' rfl (by first | rfl | exact bool_eq (by rw [blank_eq, Bool.eq_iff_iff]; simp <;> omega)) (Sub.cons' rfl (by first | rfl | exact bool_eq (by rw [blank_eq, Bool.eq_iff_iff]; simp <;> omega)) (Sub.cons' rfl (by first | rfl | exact bool_eq (by rw [blank_eq, Bool.eq_iff_iff]; simp <;> omega)) (Sub.nil))))) ?_
    exact ⟨rfl, hb, hO⟩
   rintro q wr hI_64
   replace hI_64 : q = blank c ∧ Below w.heap.size w wr ∧ wr.ownsRow w.heap.size 105 3 v l.length (l.flatMap Tok.cells) := hI_64
   obtain ⟨hq, hb, hO⟩ := hI_64
   show Wq _ _ _ _ [(0, str s), (5, v), (6, .int .i64 (i : Int)), (33, .bool q)] _
   try have hzhb_g7 := hb.size
   refine Wq.next hK_36 ?_
   refine Wc.cond rfl (fun c2_65 => ?_) (fun c2_65 => ?_)
   ·
    have c2_65_ := c2_65
    try simp only [DZ] at c2_65
    have hbl : blank (s.getD i 0) = true := by rw [← hc]; exact hq.symm.trans c2_65_
    have hlx_ := lx_blank hlx hil hbl
    obtain ⟨j_, hj_⟩ : ∃ j, j = i + 1 := ⟨_, rfl⟩
    rw [← hj_] at hlx_
    have hj1_ : j_ ≤ s.length := by omega
    have hl1_ : l.length ≤ j_ := by omega
    have hO_ := hO
    obtain ⟨l_, hl_⟩ : ∃ l', l' = l := ⟨_, rfl⟩
    subst hl_
    obtain ⟨v_, hv_⟩ : ∃ v', v' = v := ⟨_, rfl⟩
    subst hv_
    refine Wc.seq fun _ hK_66 => Wc.region <| Wl.mv rfl rfl ?_
    refine Wl.y (y_addI rfl rfl (by first | omega | (simp; done) | (simp; omega)) (by first | omega | (simp; done) | (simp; omega))) rfl ?_
    refine Wl.sg rfl rfl <| Wl.nil <| Wq.next hK_66 ?_
    refine Wc.exit ?_
    refine Wq.then_exit <| Wq.block_exit ?_
    refine fun a_ ha_ => hL_21 _ _ (⟨j_, l_, v_⟩) (by show s.length - j_ < s.length - i; omega) (Sub.cons' rfl (by first | rfl | exact int_eq (by omega)) (Sub.cons' rfl (by first | rfl | exact int_eq (by omega)) (Sub.cons' rfl (by first | rfl | exact int_eq (by omega)) (Sub.nil)))) ?_ a_ ha_
    exact ⟨hj1_, hl1_, hlx_, hb, hO_⟩
   have c2_65_ := c2_65
   try simp only [DZ] at c2_65
   have hbl : blank (s.getD i 0) = false := by rw [← hc]; exact hq.symm.trans c2_65_
   have hO0 := hO
   refine Wc.skip <| Wq.next hK_35 <| Wc.seq fun _ hK_70 => Wc.region <| Wl.mv rfl rfl <| Wl.mv rfl rfl ?_
   refine Wl.call txt65LawL rfl rfl (RTok_x s i hil hs _) rfl ?_
   rintro _ w_k0 ⟨⟨k, n, z, t, rfl, htok, hzt⟩, hs_k0⟩
   have hz_k0 := hs_k0.size
   have hb := hb.trans (hs_k0.mono hb.size)
   try have hO := own_below hO hs_k0
   refine Wl.allocN (z := (.agg #[(.int .i64 0), (str []), (.int .i64 0)])) (by kernel_rfl) rfl ?_
   rintro g_o35 w_o35 hg_o35 hn_o35 hs_o35
   have hz_o35 := hs_o35.size
   have hb := hb.trans (hs_o35.mono hb.size)
   try have hO := own_below hO hs_o35
   have hB_o35 := hn_o35
   have hl_o35 := hB_o35.lt
   have hap_ : v.ownBlock = none ∨ v.ownBlock ≠ some g_o35 := by
     cases hv : v.ownBlock with
     | none => exact .inl rfl
     | some kk => exact .inr (fun e => by have := own_ge hO0 kk hv; cases e; omega)
   have hap3_ : some g_o35 ≠ v.ownBlock := by rcases hap_ with h | h; (· rw [h]; simp); (· exact fun e => h e.symm)
   refine Wl.storeS (by kernel_rfl) rfl rfl hB_o35 rfl rfl ?_
   rintro w_s0 hn_s0 hg_s0
   have hz_s0 := hg_s0.size
   have hb := below_blk hb hg_s0 hb.size (by omega)
   try have hO := World.ownsRow.kept hO hg_s0 (by exact hap_)
   have hB_o35 := hn_s0
   refine Wl.nil <| Wq.next hK_70 <| Wc.seq fun _ hK_75 => Wc.seq fun _ hK_76 => Wc.region ?_
   refine Wl.y (y_fieldAddr (fa105_0LawL _) rfl) rfl ?_
   refine Wl.l (l_load one3LawL rfl (by exact hB_o35.at (j := 0) rfl)) rfl ?_
   refine Wl.y (y_eqli rfl rfl) rfl <| Wl.nil <| Wq.next hK_76 ?_
   refine Wc.cond rfl (fun c3_80 => ?_) (fun c3_80 => ?_)
   ·
    have c3_80_ := c3_80
    try simp only [DZ] at c3_80
    have herr := lx_bad hlx hil hbl (by rw [htok]; have := c3_80; show k = 0; omega)
    refine Wc.seq fun _ hK_81 => Wc.region <| Wl.mv rfl rfl <| Wl.sg rfl rfl <| Wl.sg rfl rfl <| Wl.sg rfl rfl <| Wl.nil <| Wq.next hK_81 <| Wc.ret ?_
    refine Wq.then_ret (Wq.block_ret (Wq.then_ret (Wq.block_ret (Wq.then_ret ?_))))
    refine ret3 rfl rfl rfl rfl ?_
    exact ⟨_, rfl, .inr (.inl ⟨hsl, i, herr, rfl⟩), hb⟩
   have c3_80_ := c3_80
   try simp only [DZ] at c3_80
   have hk0 : k ≠ 0 := by have := c3_80; omega
   obtain ⟨hz, ht⟩ := hzt hk0
   have hz := hz.symm
   subst hz
   subst ht
   have htl := tokV_len (s.drop i) (by rw [drop_at hil]; simp)
   rw [htok, List.length_drop] at htl
   simp only at htl
   have hn0 : 0 < n := by have := htl.2.1; omega
   have hlx2 := lx_tok hlx hil hbl htok hk0
   refine Wc.skip <| Wq.next hK_75 <| Wc.seq fun _ hK_86 => Wc.region <| Wl.mv rfl rfl ?_
   refine Wl.l (l_loadS Tryz.underlying105 (by kernel_rfl) rfl (by exact fun j u hu => hB_o35.at hu)) rfl ?_
   refine Wl.litN (sz := 3) (vs := [_]) Tryz.underlying40 (by kernel_rfl) rfl rfl rfl rfl rfl rfl ?_
   rintro g_b3 w_b3 hg_b3 hn_b3 hs_b3
   have hz_b3 := hs_b3.size
   have hb := hb.trans (hs_b3.mono hb.size)
   try have hO := own_below hO hs_b3
   try have hB_o35 := Blk.below hB_o35 hs_b3
   have hB_b3 := hn_b3
   have hl_b3 := hB_b3.lt
   refine Wl.append (z := (.agg #[(.int .i64 0), (str []), (.int .i64 0)])) (sz := 3) (bytes := 32) Tryz.underlying40 (by kernel_rfl) rfl (by decide) _ rfl hO rfl (hB_b3.rd 1 3 rfl) (fun u hu => by have h2 : u ∈ [Value.int .i64 (k : Int), str ((s.drop i).take n), .int .i64 (i : Int)] := hu; simp only [List.mem_cons, List.not_mem_nil, or_false] at h2; rcases h2 with rfl | rfl | rfl <;> rfl) (by simp only [maxLen]; omega) (by omega) (by first | exact hb.size | omega) rfl ?_
   rintro v_b4 w_b4 hn_b4 hg_b4 ha_b4
   have hz_b4 := hg_b4.size
   have hb := hb.grown hg_b4 hb.size (fun k_ hk_ => by have := (own_ge hO k_ hk_).1; omega)
   try have hB_o35 := Blk.grown hB_o35 hg_b4 (by exact hap3_)
   have hO := hn_b4
   refine Wl.sg rfl rfl <| Wl.nil <| Wq.next hK_86 <| Wc.region <| Wl.mv rfl rfl ?_
   refine Wl.y (y_fieldAddr (fa105_1LawL _) rfl) rfl ?_
   refine Wl.l (l_load one9LawL rfl (by exact hB_o35.at (j := 1) rfl)) rfl ?_
   refine Wl.y (y_eq (y_lens Tryz.underlying9 (by rw [List.length_take, List.length_drop]; omega) rfl) (int_eq (show _ = (n : Int) by rw [List.length_take, List.length_drop]; omega))) rfl ?_
   have hlx_ := hlx2
   obtain ⟨j_, hj_⟩ : ∃ j, j = i + n := ⟨_, rfl⟩
   obtain ⟨l_, hl_⟩ : ∃ l', l' = l ++ [⟨k, (s.drop i).take n, i⟩] := ⟨_, rfl⟩
   rw [← hj_, ← hl_] at hlx_
   have hj1_ : j_ ≤ s.length := by omega
   have hl1_ : l_.length ≤ j_ := by rw [hl_, List.length_append]; show l.length + 1 ≤ _; omega
   obtain ⟨v_, hv_⟩ : ∃ v', v' = v_b4 := ⟨_, rfl⟩
   subst hv_
   have hO_ : World.ownsRow w_b4 w.heap.size 105 3 v_ l_.length (l_.flatMap Tok.cells) := by rw [hl_, List.length_append, List.flatMap_append]; exact hO
   refine Wl.y (y_addI rfl rfl (by first | omega | (simp; done) | (simp; omega)) (by first | omega | (simp; done) | (simp; omega))) rfl ?_
   refine Wl.sg rfl rfl <| Wl.nil <| Wq.block_normal ?_
   refine fun a_ ha_ => hL_21 _ _ (⟨j_, l_, v_⟩) (by show s.length - j_ < s.length - i; omega) (Sub.cons' rfl (by first | rfl | exact int_eq (by omega)) (Sub.cons' rfl (by first | rfl | exact int_eq (by omega)) (Sub.cons' rfl (by first | rfl | exact int_eq (by omega)) (Sub.nil)))) ?_ a_ ha_
   exact ⟨hj1_, hl1_, hlx_, hb, hO_⟩
  have c1_29_ := c1_29
  try simp only [DZ] at c1_29
  refine Wc.exit ?_
  refine Wq.then_exit <| Wq.then_exit <| Wq.block_exit <| Wq.next hK_20 <| Wc.seq fun _ hK_98 => Wc.region ?_
  obtain ⟨A_, c_, rfl, hn1_, _⟩ := own_form hO
  refine Wl.mv rfl rfl <| Wl.sg rfl rfl <| Wl.sg rfl rfl <| Wl.sg rfl rfl <| Wl.nil <| Wq.next hK_98 <| Wc.ret ?_
  refine ret3 rfl rfl rfl rfl ?_
  exact ⟨_, rfl, .inr (.inr ⟨hsl, l, A_, c_, lx_end hlx (by have := c1_29; omega), rfl, by omega, hn1_, Rd.of_own hO⟩), hb⟩
/-- what Lex tells, as one row, place and error -/
noncomputable def lexO (s : List UInt8) : List Tok × Int × Int := if 65536 < s.length then ([], 0, 6) else match lexV s 0 with
  | .error i => ([], (i : Int), 2)
  | .ok l => (l, 0, 0)
def LexU (s : List UInt8) (v : Value) (w' : World) : Prop := ∃ (l : List Tok) (A : Option Addr) (c : Nat) (a e : Int), v = .tuple #[.slice A l.length c, .int .i64 a, .int .i64 e] ∧ lexO s = (l, a, e) ∧ l.length ≤ 65536 ∧ Rd w' 3 A l.length (l.flatMap Tok.cells)
theorem LexIs.u {s : List UInt8} {v : Value} {w' : World} (h : LexIs s v w') : LexU s v w' := by
  unfold LexU lexO
  rcases h with ⟨h, hv⟩ | ⟨h, i, he, hv⟩ | ⟨h, l, A, c, he, hv, h1, _, h2⟩
  · rw [if_pos h]; exact ⟨[], none, 0, 0, 6, hv, rfl, by decide, Rd.nil _ _ _⟩
  · rw [if_neg (by omega), he]; exact ⟨[], none, 0, i, 2, hv, rfl, by decide, Rd.nil _ _ _⟩
  · rw [if_neg (by omega), he]; exact ⟨l, A, c, 0, 0, hv, rfl, h1, h2⟩
theorem LexU_r (s : List UInt8) (hs : s.length ≤ 70368744177664) (w : World) (hX : Lx w) : Ret Tryz.prog 22 [str s] w fun v w' => (∃ (l : List Tok) (A : Option Addr) (c : Nat) (a e : Int), v = .tuple #[.slice A l.length c, .int .i64 a, .int .i64 e] ∧ lexO s = (l, a, e) ∧ l.length ≤ 65536 ∧ Rd w' 3 A l.length (l.flatMap Tok.cells)) ∧ Below w.heap.size w w' :=
  (Lex_r s hs w hX).mono fun v w' ⟨h1, h2⟩ => ⟨h1.u, h2⟩
theorem RLexU_r (s : List UInt8) (hs : s.length ≤ 70368744177664) (w : World) : Ret Tryz.prog 23 [str s] w fun v w' => (∃ (l : List Tok) (A : Option Addr) (c : Nat) (a e : Int), v = .tuple #[.slice A l.length c, .int .i64 a, .int .i64 e] ∧ lexO s = (l, a, e) ∧ l.length ≤ 65536 ∧ Rd w' 3 A l.length (l.flatMap Tok.cells)) ∧ Below w.heap.size w w' :=
  (RLex_r s hs w).mono fun v w' ⟨h1, h2⟩ => ⟨h1.u, h2⟩
theorem LSame_r (A B : Option Addr) (c d : Nat) (l : List Tok) (hl : l.length ≤ 65536) (w : World) (hR : Rd w 3 A l.length (l.flatMap Tok.cells)) (hS : Rd w 3 B l.length (l.flatMap Tok.cells)) : Ret Tryz.prog 24 [.slice A l.length c, .slice B l.length d] w fun v w' => v = .bool true ∧ Below w.heap.size w w' := by
  have hb := Below.refl w.heap.size w
  have hR_hb := hR
  have hS_hb := hS
  refine enter Tryz.func24 rfl rfl rfl ?_
  refine Wc.seq fun _ hK_1 => Wc.region <| Wl.sg rfl rfl <| Wl.nil <| Wq.next hK_1 <| Wc.seq fun _ hK_3 => Wc.seq fun _ hK_4 => Wc.region <| Wl.mv rfl rfl ?_
  refine Wl.y (y_lenl Tryz.underlying37 (by omega) rfl) rfl ?_
  refine Wl.mv rfl rfl ?_
  refine Wl.y (y_lenl Tryz.underlying40 (by omega) rfl) rfl ?_
  refine Wl.y (y_neqi rfl rfl) rfl <| Wl.nil <| Wq.next hK_4 ?_
  refine Wc.cond rfl (fun c0_10 => ?_) (fun c0_10 => ?_)
  ·
   have c0_10_ := c0_10
   try simp only [DZ] at c0_10
   exact absurd trivial c0_10
  have c0_10_ := c0_10
  try simp only [DZ] at c0_10
  refine Wc.skip <| Wq.next hK_3 <| Wc.seq fun _ hK_11 => Wc.seq fun _ hK_12 => Wc.region <| Wl.sg rfl rfl <| Wl.nil <| Wq.next hK_12 <| Wc.block ?_
  refine Wc.loop (X := Nat) (fun i => [(0, .slice A l.length c), (1, .slice B l.length d), (5, .int .i64 (i : Int))]) (fun i wr => i ≤ l.length ∧ Below w.heap.size w wr) (fun i => l.length - i) (0) ?_ ?_ ?_
  · exact Sub.cons' rfl (by first | rfl | exact int_eq (by omega)) (Sub.cons' rfl (by first | rfl | exact int_eq (by omega)) (Sub.cons' rfl (by first | rfl | exact int_eq (by omega)) (Sub.nil)))
  · exact ⟨by omega, hb⟩
  rintro i wr hI_15 _ hL_14
  replace hI_15 : i ≤ l.length ∧ Below w.heap.size w wr := hI_15
  obtain ⟨hi, hb⟩ := hI_15
  show Wc _ _ _ _ _ [(0, .slice A l.length c), (1, .slice B l.length d), (5, .int .i64 (i : Int))] _
  have hR := hR_hb.below hb
  have hS := hS_hb.below hb
  try have hzhb_L0 := hb.size
  refine Wc.seq fun _ hK_16 => Wc.seq fun _ hK_17 => Wc.region <| Wl.mv rfl rfl <| Wl.mv rfl rfl ?_
  refine Wl.y (y_lenl Tryz.underlying37 (by omega) rfl) rfl ?_
  refine Wl.y (y_lssi rfl rfl) rfl <| Wl.nil <| Wq.next hK_17 ?_
  refine Wc.cond rfl (fun c1_22 => ?_) (fun c1_22 => ?_)
  ·
   have c1_22_ := c1_22
   try simp only [DZ] at c1_22
   have hil : i < l.length := by have := c1_22; omega
   obtain ⟨p_, hpe, hcell⟩ := Rd.tok hR hil
   subst hpe
   obtain ⟨q_, hqe, hcell2⟩ := Rd.tok hS hil
   subst hqe
   obtain ⟨t, htk⟩ : ∃ t, t = l[i] := ⟨_, rfl⟩
   rw [← htk] at hcell hcell2
   refine Wc.skip <| Wq.next hK_16 <| Wc.seq fun _ hK_23 => Wc.block <| Wc.seq fun _ hK_24 => ?_
   refine Wc.quiet (by kernel_rfl) (by kernel_rfl) ?_
   refine Wy.y (y_move rfl) rfl <| Wy.y (y_move rfl) rfl ?_
   refine Wy.y (y_indexAddr Tryz.underlying37 sz65LawL rfl rfl (by omega) (by omega)) rfl ?_
   refine Wy.y (y_fieldAddr (fa65_0LawL _) rfl) rfl ?_
   refine Wy.l (fun wq hq => l_load one3LawL rfl (by have hR := hR.below hq; have hS := hS.below hq; exact cell_below hq (hcell 0 _ rfl))) rfl ?_
   refine Wy.y (y_move rfl) rfl <| Wy.y (y_move rfl) rfl ?_
   refine Wy.y (y_indexAddr Tryz.underlying40 sz105LawL rfl rfl (by omega) (by omega)) rfl ?_
   refine Wy.y (y_fieldAddr (fa105_0LawL _) rfl) rfl ?_
   refine Wy.l (fun wq hq => l_load one3LawL rfl (by have hR := hR.below hq; have hS := hS.below hq; exact cell_below hq (hcell2 0 _ rfl))) rfl ?_
   refine Wy.y (y_neqi rfl rfl) rfl <| Wy.y (y_move rfl) rfl ?_
   refine Wy.guardF rfl rfl rfl (fun g_37 => ?_) (fun g_37 => ?_)
   ·
    have g_37_ := g_37
    try simp only [DZ] at g_37
    exact absurd g_37_ (by simp)
   have g_37_ := g_37
   try simp only [DZ] at g_37
   refine Wy.y (y_move rfl) rfl <| Wy.on' rfl rfl g_37_ <| Wy.y (y_move rfl) rfl <| Wy.on' rfl rfl g_37_ ?_
   refine Wy.y (y_indexAddr Tryz.underlying37 sz65LawL rfl rfl (by omega) (by omega)) rfl ?_
   refine Wy.on' rfl rfl g_37_ ?_
   refine Wy.y (y_fieldAddr (fa65_1LawL _) rfl) rfl ?_
   refine Wy.on' rfl rfl g_37_ ?_
   refine Wy.l (fun wq hq => l_load one9LawL rfl (by have hR := hR.below hq; have hS := hS.below hq; exact cell_below hq (hcell 1 _ rfl))) rfl ?_
   refine Wy.on' rfl rfl g_37_ <| Wy.y (y_move rfl) rfl <| Wy.on' rfl rfl g_37_ <| Wy.y (y_move rfl) rfl <| Wy.on' rfl rfl g_37_ ?_
   refine Wy.y (y_indexAddr Tryz.underlying40 sz105LawL rfl rfl (by omega) (by omega)) rfl ?_
   refine Wy.on' rfl rfl g_37_ ?_
   refine Wy.y (y_fieldAddr (fa105_1LawL _) rfl) rfl ?_
   refine Wy.on' rfl rfl g_37_ ?_
   refine Wy.l (fun wq hq => l_load one9LawL rfl (by have hR := hR.below hq; have hS := hS.below hq; exact cell_below hq (hcell2 1 _ rfl))) rfl ?_
   refine Wy.on' rfl rfl g_37_ <| Wy.y (y_neqs rfl rfl) rfl ?_
   refine Wy.y (y_pickF rfl g_37_ rfl) rfl ?_
   refine Wy.y (y_move rfl) rfl ?_
   refine Wy.guardF rfl rfl rfl (fun g_51 => ?_) (fun g_51 => ?_)
   ·
    have g_51_ := g_51
    try simp only [DZ] at g_51
    exact absurd g_51_ (by simp)
   have g_51_ := g_51
   try simp only [DZ] at g_51
   refine Wy.y (y_move rfl) rfl <| Wy.on' rfl rfl g_51_ <| Wy.y (y_move rfl) rfl <| Wy.on' rfl rfl g_51_ ?_
   refine Wy.y (y_indexAddr Tryz.underlying37 sz65LawL rfl rfl (by omega) (by omega)) rfl ?_
   refine Wy.on' rfl rfl g_51_ ?_
   refine Wy.y (y_fieldAddr (fa65_2LawL _) rfl) rfl ?_
   refine Wy.on' rfl rfl g_51_ ?_
   refine Wy.l (fun wq hq => l_load one3LawL rfl (by have hR := hR.below hq; have hS := hS.below hq; exact cell_below hq (hcell 2 _ rfl))) rfl ?_
   refine Wy.on' rfl rfl g_51_ <| Wy.y (y_move rfl) rfl <| Wy.on' rfl rfl g_51_ <| Wy.y (y_move rfl) rfl <| Wy.on' rfl rfl g_51_ ?_
   refine Wy.y (y_indexAddr Tryz.underlying40 sz105LawL rfl rfl (by omega) (by omega)) rfl ?_
   refine Wy.on' rfl rfl g_51_ ?_
   refine Wy.y (y_fieldAddr (fa105_2LawL _) rfl) rfl ?_
   refine Wy.on' rfl rfl g_51_ ?_
   refine Wy.l (fun wq hq => l_load one3LawL rfl (by have hR := hR.below hq; have hS := hS.below hq; exact cell_below hq (hcell2 2 _ rfl))) rfl ?_
   refine Wy.on' rfl rfl g_51_ <| Wy.y (y_neqi rfl rfl) rfl ?_
   refine Wy.y (y_pickF rfl g_51_ rfl) rfl ?_
   refine Wy.nil fun w_g5 hs_g5 => ?_
   have hz_g5 := hs_g5.size
   have hb := hb.trans (hs_g5.mono hb.size)
   have hR := hR_hb.below hb
   have hS := hS_hb.below hb
   refine Wq.next hK_24 ?_
   refine Wc.cond rfl (fun c2_64 => ?_) (fun c2_64 => ?_)
   ·
    have c2_64_ := c2_64
    try simp only [DZ] at c2_64
    exact absurd c2_64_ (by simp)
   have c2_64_ := c2_64
   try simp only [DZ] at c2_64
   refine Wc.skip <| Wq.block_normal <| Wq.next hK_23 <| Wc.region <| Wl.mv rfl rfl ?_
   refine Wl.y (y_addI rfl rfl (by first | omega | (simp; done) | (simp; omega)) (by first | omega | (simp; done) | (simp; omega))) rfl ?_
   refine Wl.sg rfl rfl <| Wl.nil ?_
   refine fun a_ ha_ => hL_14 _ _ (i + 1) (by first | omega | (simp; omega)) (Sub.cons' rfl (by first | rfl | exact int_eq (by omega)) (Sub.cons' rfl (by first | rfl | exact int_eq (by omega)) (Sub.cons' rfl (by first | rfl | exact int_eq (by omega)) (Sub.nil)))) ?_ a_ ha_
   exact ⟨by omega, hb⟩
  have c1_22_ := c1_22
  try simp only [DZ] at c1_22
  refine Wc.exit ?_
  refine Wq.then_exit <| Wq.then_exit <| Wq.block_exit <| Wq.next hK_11 <| Wc.seq fun _ hK_68 => Wc.region <| Wl.sg rfl rfl <| Wl.nil <| Wq.next hK_68 <| Wc.ret ?_
  refine ret1 rfl rfl ?_
  exact ⟨_, rfl, rfl, hb⟩
theorem LTells_r (s : List UInt8) (w : World) (hX : Lx w) (hs : s.length ≤ 140737488355328) : Ret Tryz.prog 4 [str s] w fun v w' => v = .bool true ∧ Below w.heap.size w w' := by
  obtain ⟨x, hx⟩ : ∃ x, x = s.take 3000 := ⟨_, rfl⟩
  have hxl : x.length ≤ 3000 := by rw [hx]; exact List.length_take_le _ _
  have hb := Below.refl w.heap.size w
  have hX_hb := hX
  refine enter Tryz.func4 rfl rfl rfl ?_
  refine Wc.seq fun _ hK_1 => Wc.region <| Wl.sg rfl rfl <| Wl.nil <| Wq.next hK_1 <| Wc.seq fun _ hK_3 => Wc.region ?_
  refine Wl.call txt21LawL rfl rfl (lshown_r _ hX) rfl ?_
  rintro _ w_k0 ⟨rfl, hs_k0⟩
  have hz_k0 := hs_k0.size
  have hb := hb.trans (hs_k0.mono hb.size)
  have hX := hX_hb.below hb
  refine Wl.sg rfl rfl <| Wl.nil <| Wq.next hK_3 <| Wc.seq fun _ hK_6 => Wc.region <| Wl.mv rfl rfl <| Wl.mv rfl rfl ?_
  refine Wl.y (y_lens Tryz.underlying9 (by omega) rfl) rfl ?_
  refine Wl.y (y_eq (y_min rfl rfl) (int_eq (show min (s.length : Int) 3000 = ((min s.length 3000 : Nat) : Int) by omega))) rfl ?_
  refine Wl.y (y_eq (y_slicesH Tryz.underlying9 rfl rfl (by omega) (by omega)) (str_eq (show _ = x by rw [hx, Int.toNat_natCast]; exact List.take_eq_take_iff.2 (by omega)))) rfl ?_
  refine Wl.sg rfl rfl <| Wl.nil <| Wq.next hK_6 <| Wc.seq fun _ hK_13 => Wc.region <| Wl.mv rfl rfl ?_
  refine Wl.call txt22LawL rfl rfl (LexU_r x (by omega) _ hX) rfl ?_
  rintro _ w_k1 ⟨⟨l, A, c, a, e, rfl, ho, hl, hR⟩, hs_k1⟩
  have hz_k1 := hs_k1.size
  have hb := hb.trans (hs_k1.mono hb.size)
  have hX := hX_hb.below hb
  refine Wl.mv rfl rfl <| Wl.y (y_extract rfl rfl) rfl <| Wl.y (y_extract rfl rfl) rfl <| Wl.y (y_extract rfl rfl) rfl <| Wl.sg rfl rfl <| Wl.sg rfl rfl <| Wl.sg rfl rfl <| Wl.nil <| Wq.next hK_13 <| Wc.seq fun _ hK_23 => ?_
  refine Wc.region <| Wl.mv rfl rfl ?_
  refine Wl.call txt23LawL rfl rfl (RLexU_r x (by omega) _) rfl ?_
  rintro _ w_k2 ⟨⟨l2, B, c2, a2, e2, rfl, ho2, hl2, hS⟩, hs_k2⟩
  have hz_k2 := hs_k2.size
  have hb := hb.trans (hs_k2.mono hb.size)
  have hX := hX_hb.below hb
  try have hR := Rd.below hR hs_k2
  refine Wl.mv rfl rfl <| Wl.y (y_extract rfl rfl) rfl <| Wl.y (y_extract rfl rfl) rfl <| Wl.y (y_extract rfl rfl) rfl <| Wl.sg rfl rfl <| Wl.sg rfl rfl <| Wl.sg rfl rfl <| Wl.nil <| Wq.next hK_23 <| Wc.seq fun _ hK_33 => ?_
  obtain ⟨rfl, rfl, rfl⟩ : l = l2 ∧ a = a2 ∧ e = e2 := by rw [ho] at ho2; injection ho2 with h1 h2; injection h2 with h2 h3; exact ⟨h1, h2, h3⟩
  refine Wc.region <| Wl.mv rfl rfl <| Wl.mv rfl rfl ?_
  refine Wl.guardT rfl rfl rfl (fun g_36 => ?_) (fun g_36 => ?_)
  ·
   have g_36_ := g_36
   try simp only [DZ] at g_36
   refine Wl.mv rfl rfl <| Wl.on' rfl rfl g_36_ <| Wl.mv rfl rfl <| Wl.on' rfl rfl g_36_ ?_
   refine Wl.call txt24LawL rfl rfl (LSame_r A B c c2 l hl _ hR hS) rfl ?_
   rintro _ w_k3 ⟨rfl, hs_k3⟩
   have hz_k3 := hs_k3.size
   have hb := hb.trans (hs_k3.mono hb.size)
   have hX := hX_hb.below hb
   try have hS := Rd.below hS hs_k3
   refine Wl.y (y_pickT rfl g_36_ rfl) rfl ?_
   refine Wl.mv rfl rfl ?_
   refine Wl.guardT rfl rfl rfl (fun g_42 => ?_) (fun g_42 => ?_)
   ·
    have g_42_ := g_42
    try simp only [DZ] at g_42
    refine Wl.mv rfl rfl <| Wl.on' rfl rfl g_42_ <| Wl.mv rfl rfl <| Wl.on' rfl rfl g_42_ <| Wl.y (y_eqli rfl rfl) rfl ?_
    refine Wl.y (y_pickT rfl g_42_ rfl) rfl ?_
    refine Wl.mv rfl rfl ?_
    refine Wl.guardT rfl rfl rfl (fun g_48 => ?_) (fun g_48 => ?_)
    ·
     have g_48_ := g_48
     try simp only [DZ] at g_48
     refine Wl.mv rfl rfl <| Wl.on' rfl rfl g_48_ <| Wl.mv rfl rfl <| Wl.on' rfl rfl g_48_ <| Wl.y (y_eqli rfl rfl) rfl ?_
     refine Wl.y (y_pickT rfl g_48_ rfl) rfl ?_
     refine Wl.sg rfl rfl <| Wl.nil <| Wq.next hK_33 <| Wc.ret ?_
     refine ret1 rfl rfl ?_
     exact ⟨_, rfl, bool_eq (by simp), hb⟩
    have g_48_ := g_48
    try simp only [DZ] at g_48
    exact absurd g_48_ (by simp)
   have g_42_ := g_42
   try simp only [DZ] at g_42
   exact absurd g_42_ (by decide)
  have g_36_ := g_36
  try simp only [DZ] at g_36
  exact absurd g_36_ (by decide)
end Go.Proofs.YtccgjfcaomngjaaGreatDoor
