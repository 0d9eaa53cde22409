/- The statement ParseDirs, by the calculus. -/
import Derived.Test.YtjnabgddjogkbaaGreatDoorZPsY
import Derived.Test.YtjnabgddjogkbaaGreatDoorZLexY
namespace Go.Proofs.YtjnabgddjogkbaaGreatDoor
open Go.RowKit Go.Bw Go.Bw.Fl
set_option linter.unusedVariables false
set_option linter.unusedSimpArgs false
theorem fa31_0PlD (p : Addr) (w : World) : (Instr.fieldAt 31 (.pointer (some p)) 0).run Tryz.prog w = .ok (.pointer (some (p.add 0))) w := run_fieldAt (i := 0) (sz := 0) Tryz.underlying31 rfl (by kernel_rfl) p w
theorem fa31_1PlD (p : Addr) (w : World) : (Instr.fieldAt 31 (.pointer (some p)) 1).run Tryz.prog w = .ok (.pointer (some (p.add 1))) w := run_fieldAt (i := 1) (sz := 0) Tryz.underlying31 rfl (by kernel_rfl) p w
theorem fa31_2PlD (p : Addr) (w : World) : (Instr.fieldAt 31 (.pointer (some p)) 2).run Tryz.prog w = .ok (.pointer (some (p.add 2))) w := run_fieldAt (i := 2) (sz := 0) Tryz.underlying31 rfl (by kernel_rfl) p w
theorem fa33_3PlD (p : Addr) (w : World) : (Instr.fieldAt 33 (.pointer (some p)) 3).run Tryz.prog w = .ok (.pointer (some (p.add 3))) w := run_fieldAt (i := 3) (sz := 19) Tryz.underlying33 rfl (by kernel_rfl) p w
theorem one3PlD : One Tryz.prog 3 := ⟨_, Tryz.underlying3, rfl, by kernel_rfl⟩
theorem one9PlD : One Tryz.prog 9 := ⟨_, Tryz.underlying9, rfl, by kernel_rfl⟩
theorem sz9PlD : (Tryz.prog.info? 9).map (·.size) = some 1 := by kernel_rfl
theorem txt11PlD : Txt Tryz.prog 11 := ⟨_, Tryz.func11, by kernel_rfl, rfl⟩   -- bridleway/bridlewaylaw11.shown
theorem txt12PlD : Txt Tryz.prog 12 := ⟨_, Tryz.func12, by kernel_rfl, rfl⟩   -- bridleway/parse.Parse
theorem txt17PlD : Txt Tryz.prog 17 := ⟨_, Tryz.func17, by kernel_rfl, rfl⟩   -- bridleway/bridlewayref11.Dir
def opensV : List (List UInt8) := [[45, 91], [60, 45, 91], [126, 91], [60, 126, 91]]
def closesV : List (List UInt8) := [[93, 45, 62], [93, 45], [93, 126], [93, 126, 62]]
def edgeQ (var : List UInt8) (d : Int) : QryD := ⟨0, 0, 0, .mk 2 var d noE noE 0 0 []⟩
theorem dirs_eq : ∀ i j : Nat, i < 4 → j < 4 → (dirR (opensV.getD i []) (closesV.getD j []) = 0 ∧ parseV (opensV.getD i [] ++ [120] ++ closesV.getD j []) = (noQ, (((opensV.getD i []).length + 1 : Nat) : Int), 2)) ∨ (dirR (opensV.getD i []) (closesV.getD j []) ≠ 0 ∧ parseV (opensV.getD i [] ++ [120] ++ closesV.getD j []) = (edgeQ [120] (dirR (opensV.getD i []) (closesV.getD j [])), 0, 0) ∧ parseV ((opensV.getD i []).take ((opensV.getD i []).length - 2) ++ (closesV.getD j []).drop 1) = (edgeQ [] (dirR (opensV.getD i []) (closesV.getD j [])), 0, 0))
  | 0, 0, _, _ => .inr ⟨by decide +kernel, by kernel_rfl, by kernel_rfl⟩
  | 0, 1, _, _ => .inr ⟨by decide +kernel, by kernel_rfl, by kernel_rfl⟩
  | 0, 2, _, _ => .inl ⟨by kernel_rfl, by kernel_rfl⟩
  | 0, 3, _, _ => .inl ⟨by kernel_rfl, by kernel_rfl⟩
  | 1, 0, _, _ => .inr ⟨by decide +kernel, by kernel_rfl, by kernel_rfl⟩
  | 1, 1, _, _ => .inr ⟨by decide +kernel, by kernel_rfl, by kernel_rfl⟩
  | 1, 2, _, _ => .inl ⟨by kernel_rfl, by kernel_rfl⟩
  | 1, 3, _, _ => .inl ⟨by kernel_rfl, by kernel_rfl⟩
  | 2, 0, _, _ => .inl ⟨by kernel_rfl, by kernel_rfl⟩
  | 2, 1, _, _ => .inl ⟨by kernel_rfl, by kernel_rfl⟩
  | 2, 2, _, _ => .inr ⟨by decide +kernel, by kernel_rfl, by kernel_rfl⟩
  | 2, 3, _, _ => .inr ⟨by decide +kernel, by kernel_rfl, by kernel_rfl⟩
  | 3, 0, _, _ => .inl ⟨by kernel_rfl, by kernel_rfl⟩
  | 3, 1, _, _ => .inl ⟨by kernel_rfl, by kernel_rfl⟩
  | 3, 2, _, _ => .inr ⟨by decide +kernel, by kernel_rfl, by kernel_rfl⟩
  | 3, 3, _, _ => .inl ⟨by kernel_rfl, by kernel_rfl⟩
  | i + 4, _, h, _ => absurd h (by omega)
  | _, j + 4, _, h => absurd h (by omega)
theorem opens_len : ∀ i : Nat, i < 4 → 2 ≤ (opensV.getD i []).length ∧ (opensV.getD i []).length ≤ 3 ∧ 1 ≤ (closesV.getD i []).length ∧ (closesV.getD i []).length ≤ 3 := by decide
theorem Dirs_r (a b : Int) (w : World) (hX : Lx w) : Ret Tryz.prog 7 [.int .i64 a, .int .i64 b] w fun v w' => v = .bool true ∧ Below w.heap.size w w' := by
  obtain ⟨n1, hn1, hn14⟩ := and3 a
  obtain ⟨n2, hn2, hn24⟩ := and3 b
  obtain ⟨ho2, ho3, _⟩ := opens_len n1 hn14
  obtain ⟨_, _, hc1, hc3⟩ := opens_len n2 hn24
  have hd := dirs_eq n1 n2 hn14 hn24
  obtain ⟨o, ho⟩ : ∃ o, o = opensV.getD n1 [] := ⟨_, rfl⟩
  obtain ⟨c, hc⟩ : ∃ c, c = closesV.getD n2 [] := ⟨_, rfl⟩
  rw [← ho] at ho2 ho3
  rw [← hc] at hc1 hc3
  rw [← ho, ← hc] at hd
  obtain ⟨d, hdd⟩ : ∃ d, d = dirR o c := ⟨_, rfl⟩
  rw [← hdd] at hd
  obtain ⟨q, at_, e, hq⟩ : ∃ q a e, parseV (o ++ [120] ++ c) = (q, a, e) := ⟨_, _, _, rfl⟩
  have hb := Below.refl w.heap.size w
  have hX_hb := hX
  refine enter Tryz.func7 rfl rfl rfl ?_
  refine Wc.seq fun _ hK_1 => Wc.region <| Wl.sg rfl rfl <| Wl.nil <| Wq.next hK_1 <| Wc.seq fun _ hK_3 => Wc.region ?_
  refine Wl.call txt11PlD rfl rfl (pshown_r _ hX) rfl ?_
  rintro _ w_k0 ⟨rfl, hs_k0⟩
  have hz_k0 := hs_k0.size
  have hb := hb.trans (hs_k0.mono hb.size)
  have hX := hX_hb.below hb
  refine Wl.sg rfl rfl <| Wl.nil <| Wq.next hK_3 <| Wc.seq fun _ hK_6 => Wc.region ?_
  refine Wl.litN (sz := 1) (vs := [_, _, _, _]) Tryz.underlying45 (by kernel_rfl) rfl rfl rfl rfl rfl rfl ?_
  rintro g_b0 w_b0 hg_b0 hn_b0 hs_b0
  have hz_b0 := hs_b0.size
  have hb := hb.trans (hs_b0.mono hb.size)
  have hX := hX_hb.below hb
  have hB_b0 := hn_b0
  have hl_b0 := hB_b0.lt
  refine Wl.sg rfl rfl <| Wl.nil <| Wq.next hK_6 <| Wc.seq fun _ hK_9 => Wc.region ?_
  refine Wl.litN (sz := 1) (vs := [_, _, _, _]) Tryz.underlying45 (by kernel_rfl) rfl rfl rfl rfl rfl rfl ?_
  rintro g_b1 w_b1 hg_b1 hn_b1 hs_b1
  have hz_b1 := hs_b1.size
  have hb := hb.trans (hs_b1.mono hb.size)
  have hX := hX_hb.below hb
  try have hB_b0 := Blk.below hB_b0 hs_b1
  have hB_b1 := hn_b1
  have hl_b1 := hB_b1.lt
  refine Wl.sg rfl rfl <| Wl.nil <| Wq.next hK_9 <| Wc.seq fun _ hK_12 => Wc.region <| Wl.mv rfl rfl <| Wl.mv rfl rfl ?_
  refine Wl.y (y_eq (y_and rfl rfl) (int_eq (show _ = (n1 : Int) from hn1))) rfl ?_
  refine Wl.y (y_indexAddr Tryz.underlying45 sz9PlD rfl rfl (by omega) (by omega)) rfl ?_
  refine Wl.l (l_load one9PlD rfl (by exact (show _ = some (str o) by rw [ho]; exact lit1 (l := opensV) hB_b0 hn14))) rfl ?_
  refine Wl.sg rfl rfl <| Wl.nil <| Wq.next hK_12 <| Wc.seq fun _ hK_19 => Wc.region <| Wl.mv rfl rfl <| Wl.mv rfl rfl ?_
  refine Wl.y (y_eq (y_and rfl rfl) (int_eq (show _ = (n2 : Int) from hn2))) rfl ?_
  refine Wl.y (y_indexAddr Tryz.underlying45 sz9PlD rfl rfl (by omega) (by omega)) rfl ?_
  refine Wl.l (l_load one9PlD rfl (by exact (show _ = some (str c) by rw [hc]; exact lit1 (l := closesV) hB_b1 hn24))) rfl ?_
  refine Wl.sg rfl rfl <| Wl.nil <| Wq.next hK_19 <| Wc.seq fun _ hK_26 => Wc.region <| Wl.mv rfl rfl <| Wl.mv rfl rfl ?_
  refine Wl.call txt17PlD rfl rfl (RDir_r o c _) rfl ?_
  rintro _ w_k1 ⟨rfl, hs_k1⟩
  have hz_k1 := hs_k1.size
  have hb := hb.trans (hs_k1.mono hb.size)
  have hX := hX_hb.below hb
  refine Wl.sg rfl rfl <| Wl.nil <| Wq.next hK_26 <| Wc.seq fun _ hK_31 => ?_
  rw [← hdd]
  refine Wc.region <| Wl.mv rfl rfl ?_
  refine Wl.y (y_adds rfl rfl (by first | omega | (simp; done) | (simp; omega))) rfl ?_
  refine Wl.mv rfl rfl ?_
  refine Wl.y (y_adds rfl rfl (by first | omega | (simp; done) | (simp; omega))) rfl ?_
  refine Wl.call txt12PlD rfl rfl (ParseT_r hq (by simp; omega) _ hX) rfl ?_
  rintro _ w_k2 ⟨⟨z, Sz, rfl, hz, hz_S⟩, hs_k2⟩
  have hz_k2 := hs_k2.size
  have hb := hb.trans (hs_k2.mono hb.size)
  have hX := hX_hb.below hb
  refine Wl.mv rfl rfl <| Wl.y (y_extract rfl rfl) rfl <| Wl.y (y_extract rfl rfl) rfl <| Wl.y (y_extract rfl rfl) rfl ?_
  refine Wl.allocN (z := (.agg #[(.int .i64 0), (.int .i64 0), (.int .i64 0), (.int .i64 0), (str []), (.int .i64 0), (.int .i64 0), (str []), (.int .i64 0), (.int .i64 0), (.float .f64 0), (str []), (.slice none 0 0), (.int .i64 0), (str []), (.int .i64 0), (.int .i64 0), (.float .f64 0), (str []), (.slice none 0 0), (.int .i64 0), (.int .i64 0), (.slice none 0 0)])) (by kernel_rfl) rfl ?_
  rintro g_o23 w_o23 hg_o23 hn_o23 hs_o23
  have hz_o23 := hs_o23.size
  have hb := hb.trans (hs_o23.mono hb.size)
  have hX := hX_hb.below hb
  try have hz := PAt.below hz hs_o23
  have hB_o23 := hn_o23
  have hl_o23 := hB_o23.lt
  refine Wl.storeS (by kernel_rfl) rfl rfl hB_o23 rfl rfl ?_
  rintro w_s0 hn_s0 hg_s0
  have hz_s0 := hg_s0.size
  have hb := below_blk hb hg_s0 hb.size (by omega)
  have hX := hX_hb.below hb
  try have hz := PAt.kp hz hg_s0 (fun h_ => by have h2_ := hz_S _ h_; first | omega | (rcases h2_ with h3_ | h3_; (have h4_ := hS _ h3_; omega); omega))
  have hB_o23 := hn_s0
  refine Wl.sg rfl rfl <| Wl.sg rfl rfl <| Wl.nil <| Wq.next hK_31 <| Wc.seq fun _ hK_44 => Wc.seq fun _ hK_45 => Wc.region <| Wl.mv rfl rfl <| Wl.y (y_eqli rfl rfl) rfl <| Wl.nil ?_
  refine Wq.next hK_45 ?_
  refine Wc.cond rfl (fun c0_48 => ?_) (fun c0_48 => ?_)
  ·
   have c0_48_ := c0_48
   try simp only [DZ] at c0_48
   have hd0 : d = 0 := by have := c0_48; omega
   obtain ⟨rfl, rfl, rfl⟩ : q = noQ ∧ at_ = ((o.length + 1 : Nat) : Int) ∧ e = 2 := by rcases hd with h | h; (· rw [hq] at h; have h2 := h.2; injection h2 with h3 h4; injection h4 with h4 h5; exact ⟨h3, h4, h5⟩); (· exact absurd hd0 h.1)
   refine Wc.seq fun _ hK_49 => Wc.region <| Wl.mv rfl rfl <| Wl.mv rfl rfl ?_
   refine Wl.guardT rfl rfl rfl (fun g_52 => ?_) (fun g_52 => ?_)
   ·
    have g_52_ := g_52
    try simp only [DZ] at g_52
    refine Wl.mv rfl rfl <| Wl.on' rfl rfl g_52_ <| Wl.y (y_eqli rfl rfl) rfl ?_
    refine Wl.y (y_pickT rfl g_52_ rfl) rfl ?_
    refine Wl.mv rfl rfl ?_
    refine Wl.guardT rfl rfl rfl (fun g_57 => ?_) (fun g_57 => ?_)
    ·
     have g_57_ := g_57
     try simp only [DZ] at g_57
     refine Wl.mv rfl rfl <| Wl.on' rfl rfl g_57_ <| Wl.mv rfl rfl <| Wl.on' rfl rfl g_57_ ?_
     refine Wl.y (y_lens Tryz.underlying9 (by omega) rfl) rfl ?_
     refine Wl.on' rfl rfl g_57_ ?_
     refine Wl.y (y_addI rfl rfl (by first | omega | (simp; done) | (simp; omega)) (by first | omega | (simp; done) | (simp; omega))) rfl ?_
     refine Wl.on' rfl rfl g_57_ <| Wl.y (y_eqli rfl rfl) rfl ?_
     refine Wl.y (y_pickT rfl g_57_ rfl) rfl ?_
     refine Wl.sg rfl rfl <| Wl.nil <| Wq.next hK_49 <| Wc.ret <| Wq.then_ret ?_
     refine ret1 rfl rfl ?_
     exact ⟨_, rfl, bool_eq (by simp), hb⟩
    have g_57_ := g_57
    try simp only [DZ] at g_57
    exact absurd g_57_ (by decide)
   have g_52_ := g_52
   try simp only [DZ] at g_52
   exact absurd g_52_ (by decide)
  have c0_48_ := c0_48
  try simp only [DZ] at c0_48
  have hd0 : d ≠ 0 := fun e => by have := c0_48; omega
  obtain ⟨hp1, hp2⟩ : parseV (o ++ [120] ++ c) = (edgeQ [120] d, 0, 0) ∧ parseV (o.take (o.length - 2) ++ c.drop 1) = (edgeQ [] d, 0, 0) := by rcases hd with h | h; (· exact absurd h.1 hd0); (· exact h.2)
  rw [hq] at hp1
  injection hp1 with e1 e2
  injection e2 with e2 e3
  subst e1 e2 e3
  refine Wc.skip <| Wq.next hK_44 <| Wc.seq fun _ hK_65 => ?_
  refine Wc.quiet (by kernel_rfl) (by kernel_rfl) ?_
  refine Wy.y (y_move rfl) rfl <| Wy.y (y_move rfl) rfl ?_
  refine Wy.y (y_lens Tryz.underlying9 (by omega) rfl) rfl ?_
  refine Wy.y (y_subI rfl rfl (by first | omega | (simp; done) | (simp; omega)) (by first | omega | (simp; done) | (simp; omega))) rfl ?_
  refine Wy.y (y_slicesH Tryz.underlying9 rfl rfl (by omega) (by omega)) rfl ?_
  refine Wy.y (y_move rfl) rfl ?_
  refine Wy.y (y_slicesL Tryz.underlying9 rfl rfl (by omega) (by omega)) rfl ?_
  refine Wy.y (y_eq (y_adds rfl rfl (by first | omega | (simp; done) | (simp; omega))) (str_eq (show _ = o.take (o.length - 2) ++ c.drop 1 by rw [show ((o.length : Int) - 2).toNat = o.length - 2 by omega]; rfl))) rfl ?_
  refine Wy.y (y_assign rfl) rfl ?_
  refine Wy.nil fun w_g10 hs_g10 => ?_
  have hz_g10 := hs_g10.size
  have hb := hb.trans (hs_g10.mono hb.size)
  have hX := hX_hb.below hb
  try have hz := PAt.below hz hs_g10
  try have hB_o23 := Blk.below hB_o23 hs_g10
  refine Wq.next hK_65 <| Wc.seq fun _ hK_75 => Wc.region <| Wl.mv rfl rfl ?_
  refine Wl.call txt12PlD rfl rfl (ParseT_r hp2 (by simp; omega) _ hX) rfl ?_
  rintro _ w_k3 ⟨⟨z2, S2, rfl, hz2, hz2_S⟩, hs_k3⟩
  have hz_k3 := hs_k3.size
  have hb := hb.trans (hs_k3.mono hb.size)
  have hX := hX_hb.below hb
  try have hz := PAt.below hz hs_k3
  try have hB_o23 := Blk.below hB_o23 hs_k3
  refine Wl.mv rfl rfl <| Wl.y (y_extract rfl rfl) rfl <| Wl.y (y_extract rfl rfl) rfl <| Wl.y (y_extract rfl rfl) rfl ?_
  refine Wl.allocN (z := (.agg #[(.int .i64 0), (.int .i64 0), (.int .i64 0), (.int .i64 0), (str []), (.int .i64 0), (.int .i64 0), (str []), (.int .i64 0), (.int .i64 0), (.float .f64 0), (str []), (.slice none 0 0), (.int .i64 0), (str []), (.int .i64 0), (.int .i64 0), (.float .f64 0), (str []), (.slice none 0 0), (.int .i64 0), (.int .i64 0), (.slice none 0 0)])) (by kernel_rfl) rfl ?_
  rintro g_o51 w_o51 hg_o51 hn_o51 hs_o51
  have hz_o51 := hs_o51.size
  have hb := hb.trans (hs_o51.mono hb.size)
  have hX := hX_hb.below hb
  try have hz := PAt.below hz hs_o51
  try have hB_o23 := Blk.below hB_o23 hs_o51
  try have hz2 := PAt.below hz2 hs_o51
  have hB_o51 := hn_o51
  have hl_o51 := hB_o51.lt
  refine Wl.storeS (by kernel_rfl) rfl rfl hB_o51 rfl rfl ?_
  rintro w_s1 hn_s1 hg_s1
  have hz_s1 := hg_s1.size
  have hb := below_blk hb hg_s1 hb.size (by omega)
  have hX := hX_hb.below hb
  try have hz := PAt.kp hz hg_s1 (fun h_ => by have h2_ := hz_S _ h_; first | omega | (rcases h2_ with h3_ | h3_; (have h4_ := hS _ h3_; omega); omega))
  try have hB_o23 := hB_o23.over hg_s1 (by omega)
  try have hz2 := PAt.kp hz2 hg_s1 (fun h_ => by have h2_ := hz2_S _ h_; first | omega | (rcases h2_ with h3_ | h3_; (have h4_ := hS _ h3_; omega); omega))
  have hB_o51 := hn_s1
  refine Wl.sg rfl rfl <| Wl.sg rfl rfl <| Wl.nil <| Wq.next hK_75 <| Wc.seq fun _ hK_85 => Wc.seq fun _ hK_86 => ?_
  obtain ⟨hk, hv, hdr, _⟩ := PAt.see hz
  obtain ⟨hk2, _, hdr2, _⟩ := PAt.see hz2
  refine Wc.region <| Wl.mv rfl rfl <| Wl.y (y_neqi rfl rfl) rfl <| Wl.mv rfl rfl ?_
  refine Wl.guardF rfl rfl rfl (fun g_90 => ?_) (fun g_90 => ?_)
  ·
   have g_90_ := g_90
   try simp only [DZ] at g_90
   exact absurd g_90_ (by decide)
  have g_90_ := g_90
  try simp only [DZ] at g_90
  refine Wl.y (y_fieldAddr (fa33_3PlD _) rfl) rfl ?_
  refine Wl.on' rfl rfl g_90_ ?_
  refine Wl.y (y_fieldAddr (fa31_0PlD _) rfl) rfl ?_
  refine Wl.on' rfl rfl g_90_ ?_
  refine Wl.l (l_load one3PlD rfl (by exact hB_o23.at (j := 3) rfl)) rfl ?_
  refine Wl.on' rfl rfl g_90_ <| Wl.y (y_neqi rfl rfl) rfl ?_
  refine Wl.y (y_pickF rfl g_90_ rfl) rfl ?_
  refine Wl.mv rfl rfl ?_
  refine Wl.guardF rfl rfl rfl (fun g_97 => ?_) (fun g_97 => ?_)
  ·
   have g_97_ := g_97
   try simp only [DZ] at g_97
   exact absurd g_97_ (by rw [hk]; decide)
  have g_97_ := g_97
  try simp only [DZ] at g_97
  refine Wl.y (y_fieldAddr (fa33_3PlD _) rfl) rfl ?_
  refine Wl.on' rfl rfl g_97_ ?_
  refine Wl.y (y_fieldAddr (fa31_2PlD _) rfl) rfl ?_
  refine Wl.on' rfl rfl g_97_ ?_
  refine Wl.l (l_load one3PlD rfl (by exact hB_o23.at (j := 5) rfl)) rfl ?_
  refine Wl.on' rfl rfl g_97_ <| Wl.mv rfl rfl <| Wl.on' rfl rfl g_97_ <| Wl.y (y_neqi rfl rfl) rfl ?_
  refine Wl.y (y_pickF rfl g_97_ rfl) rfl ?_
  refine Wl.mv rfl rfl ?_
  refine Wl.guardF rfl rfl rfl (fun g_105 => ?_) (fun g_105 => ?_)
  ·
   have g_105_ := g_105
   try simp only [DZ] at g_105
   exact absurd g_105_ (by rw [hdr]; simp)
  have g_105_ := g_105
  try simp only [DZ] at g_105
  refine Wl.y (y_fieldAddr (fa33_3PlD _) rfl) rfl ?_
  refine Wl.on' rfl rfl g_105_ ?_
  refine Wl.y (y_fieldAddr (fa31_1PlD _) rfl) rfl ?_
  refine Wl.on' rfl rfl g_105_ ?_
  refine Wl.l (l_load one9PlD rfl (by exact hB_o23.at (j := 4) rfl)) rfl ?_
  refine Wl.on' rfl rfl g_105_ <| Wl.y (y_neqs rfl rfl) rfl ?_
  refine Wl.y (y_pickF rfl g_105_ rfl) rfl ?_
  refine Wl.nil <| Wq.next hK_86 ?_
  refine Wc.cond rfl (fun c1_111 => ?_) (fun c1_111 => ?_)
  ·
   have c1_111_ := c1_111
   try simp only [DZ] at c1_111
   exact absurd c1_111_ (by rw [hv]; decide)
  have c1_111_ := c1_111
  try simp only [DZ] at c1_111
  refine Wc.skip <| Wq.next hK_85 <| Wc.seq fun _ hK_112 => Wc.region <| Wl.mv rfl rfl <| Wl.mv rfl rfl ?_
  refine Wl.guardT rfl rfl rfl (fun g_115 => ?_) (fun g_115 => ?_)
  ·
   have g_115_ := g_115
   try simp only [DZ] at g_115
   refine Wl.mv rfl rfl <| Wl.on' rfl rfl g_115_ <| Wl.y (y_eqli rfl rfl) rfl ?_
   refine Wl.y (y_pickT rfl g_115_ rfl) rfl ?_
   refine Wl.mv rfl rfl ?_
   refine Wl.guardT rfl rfl rfl (fun g_120 => ?_) (fun g_120 => ?_)
   ·
    have g_120_ := g_120
    try simp only [DZ] at g_120
    refine Wl.y (y_fieldAddr (fa33_3PlD _) rfl) rfl ?_
    refine Wl.on' rfl rfl g_120_ ?_
    refine Wl.y (y_fieldAddr (fa31_0PlD _) rfl) rfl ?_
    refine Wl.on' rfl rfl g_120_ ?_
    refine Wl.l (l_load one3PlD rfl (by exact hB_o51.at (j := 3) rfl)) rfl ?_
    refine Wl.on' rfl rfl g_120_ <| Wl.y (y_eqli rfl rfl) rfl ?_
    refine Wl.y (y_pickT rfl g_120_ rfl) rfl ?_
    refine Wl.mv rfl rfl ?_
    refine Wl.guardT rfl rfl rfl (fun g_127 => ?_) (fun g_127 => ?_)
    ·
     have g_127_ := g_127
     try simp only [DZ] at g_127
     refine Wl.y (y_fieldAddr (fa33_3PlD _) rfl) rfl ?_
     refine Wl.on' rfl rfl g_127_ ?_
     refine Wl.y (y_fieldAddr (fa31_2PlD _) rfl) rfl ?_
     refine Wl.on' rfl rfl g_127_ ?_
     refine Wl.l (l_load one3PlD rfl (by exact hB_o51.at (j := 5) rfl)) rfl ?_
     refine Wl.on' rfl rfl g_127_ <| Wl.mv rfl rfl <| Wl.on' rfl rfl g_127_ <| Wl.y (y_eqli rfl rfl) rfl ?_
     refine Wl.y (y_pickT rfl g_127_ rfl) rfl ?_
     refine Wl.sg rfl rfl <| Wl.nil <| Wq.next hK_112 <| Wc.ret ?_
     refine ret1 rfl rfl ?_
     exact ⟨_, rfl, bool_eq (by rw [hdr2]; simp), hb⟩
    have g_127_ := g_127
    try simp only [DZ] at g_127
    exact absurd g_127_ (by rw [hk2]; decide)
   have g_120_ := g_120
   try simp only [DZ] at g_120
   exact absurd g_120_ (by decide)
  have g_115_ := g_115
  try simp only [DZ] at g_115
  exact absurd g_115_ (by decide)
end Go.Proofs.YtjnabgddjogkbaaGreatDoor
