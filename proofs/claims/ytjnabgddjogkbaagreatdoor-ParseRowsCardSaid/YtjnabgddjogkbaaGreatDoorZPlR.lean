/- The statement ParseRows, by the calculus. -/
import Derived.Test.YtjnabgddjogkbaaGreatDoorZP6
import Derived.Test.YtjnabgddjogkbaaGreatDoorZX
import Derived.Test.YtjnabgddjogkbaaGreatDoorZD
namespace Go.Proofs.YtjnabgddjogkbaaGreatDoor
open Go.RowKit Go.Bw Go.Bw.Fl
set_option linter.unusedVariables false
set_option linter.unusedSimpArgs false
theorem fa31_0PlR (p : Addr) (w : World) : (Instr.fieldAt 31 (.pointer (some p)) 0).run Tryz.prog w = .ok (.pointer (some (p.add 0))) w := run_fieldAt (i := 0) (sz := 0) Tryz.underlying31 rfl (by kernel_rfl) p w
theorem fa31_1PlR (p : Addr) (w : World) : (Instr.fieldAt 31 (.pointer (some p)) 1).run Tryz.prog w = .ok (.pointer (some (p.add 1))) w := run_fieldAt (i := 1) (sz := 0) Tryz.underlying31 rfl (by kernel_rfl) p w
theorem fa31_7PlR (p : Addr) (w : World) : (Instr.fieldAt 31 (.pointer (some p)) 7).run Tryz.prog w = .ok (.pointer (some (p.add 19))) w := run_fieldAt (i := 7) (sz := 0) Tryz.underlying31 rfl (by kernel_rfl) p w
theorem fa33_3PlR (p : Addr) (w : World) : (Instr.fieldAt 33 (.pointer (some p)) 3).run Tryz.prog w = .ok (.pointer (some (p.add 3))) w := run_fieldAt (i := 3) (sz := 19) Tryz.underlying33 rfl (by kernel_rfl) p w
theorem one29PlR : One Tryz.prog 29 := ⟨_, Tryz.underlying29, rfl, by kernel_rfl⟩
theorem one3PlR : One Tryz.prog 3 := ⟨_, Tryz.underlying3, rfl, by kernel_rfl⟩
theorem one9PlR : One Tryz.prog 9 := ⟨_, Tryz.underlying9, rfl, by kernel_rfl⟩
theorem sz31PlR : (Tryz.prog.info? 31).map (·.size) = some 20 := by kernel_rfl
theorem txt11PlR : Txt Tryz.prog 11 := ⟨_, Tryz.func11, by kernel_rfl, rfl⟩   -- bridleway/bridlewaylaw11.shown
theorem txt12PlR : Txt Tryz.prog 12 := ⟨_, Tryz.func12, by kernel_rfl, rfl⟩   -- bridleway/parse.Parse
def letV (i : Nat) : UInt8 := UInt8.ofNat (65 + i % 26)
def rowS (alt : Bool) : Nat → List UInt8
  | 0 => []
  | i + 1 => (if 0 < i ∧ alt = true then rowS alt i ++ [124] else rowS alt i) ++ [40] ++ [letV i] ++ [41]
def rowP (alt : Bool) (i : Nat) : List UInt8 := if 0 < i ∧ alt = true then rowS alt i ++ [124] else rowS alt i
def rowN (i : Nat) : PatD := .mk 1 [letV i] 0 noE noE 0 0 []
def rowQ (alt : Bool) (n : Nat) : PatD := .mk (if alt then 4 else 3) [] 0 noE noE 0 0 ((List.range n).map rowN)
theorem rows_eq : ∀ (n : Nat) (alt : Bool), 2 ≤ n → n ≤ 30 → parseV (rowS alt n) = (⟨0, 0, 0, rowQ alt n⟩, 0, 0)
  | 0, _, h, _ => absurd h (by omega)
  | 1, _, h, _ => absurd h (by omega)
  | 2, true, _, _ => by kernel_rfl
  | 2, false, _, _ => by kernel_rfl
  | 3, true, _, _ => by kernel_rfl
  | 3, false, _, _ => by kernel_rfl
  | 4, true, _, _ => by kernel_rfl
  | 4, false, _, _ => by kernel_rfl
  | 5, true, _, _ => by kernel_rfl
  | 5, false, _, _ => by kernel_rfl
  | 6, true, _, _ => by kernel_rfl
  | 6, false, _, _ => by kernel_rfl
  | 7, true, _, _ => by kernel_rfl
  | 7, false, _, _ => by kernel_rfl
  | 8, true, _, _ => by kernel_rfl
  | 8, false, _, _ => by kernel_rfl
  | 9, true, _, _ => by kernel_rfl
  | 9, false, _, _ => by kernel_rfl
  | 10, true, _, _ => by kernel_rfl
  | 10, false, _, _ => by kernel_rfl
  | 11, true, _, _ => by kernel_rfl
  | 11, false, _, _ => by kernel_rfl
  | 12, true, _, _ => by kernel_rfl
  | 12, false, _, _ => by kernel_rfl
  | 13, true, _, _ => by kernel_rfl
  | 13, false, _, _ => by kernel_rfl
  | 14, true, _, _ => by kernel_rfl
  | 14, false, _, _ => by kernel_rfl
  | 15, true, _, _ => by kernel_rfl
  | 15, false, _, _ => by kernel_rfl
  | 16, true, _, _ => by kernel_rfl
  | 16, false, _, _ => by kernel_rfl
  | 17, true, _, _ => by kernel_rfl
  | 17, false, _, _ => by kernel_rfl
  | 18, true, _, _ => by kernel_rfl
  | 18, false, _, _ => by kernel_rfl
  | 19, true, _, _ => by kernel_rfl
  | 19, false, _, _ => by kernel_rfl
  | 20, true, _, _ => by kernel_rfl
  | 20, false, _, _ => by kernel_rfl
  | 21, true, _, _ => by kernel_rfl
  | 21, false, _, _ => by kernel_rfl
  | 22, true, _, _ => by kernel_rfl
  | 22, false, _, _ => by kernel_rfl
  | 23, true, _, _ => by kernel_rfl
  | 23, false, _, _ => by kernel_rfl
  | 24, true, _, _ => by kernel_rfl
  | 24, false, _, _ => by kernel_rfl
  | 25, true, _, _ => by kernel_rfl
  | 25, false, _, _ => by kernel_rfl
  | 26, true, _, _ => by kernel_rfl
  | 26, false, _, _ => by kernel_rfl
  | 27, true, _, _ => by kernel_rfl
  | 27, false, _, _ => by kernel_rfl
  | 28, true, _, _ => by kernel_rfl
  | 28, false, _, _ => by kernel_rfl
  | 29, true, _, _ => by kernel_rfl
  | 29, false, _, _ => by kernel_rfl
  | 30, true, _, _ => by kernel_rfl
  | 30, false, _, _ => by kernel_rfl
  | n + 31, _, _, h => absurd h (by omega)
theorem rowS_len (alt : Bool) : ∀ i, (rowS alt i).length ≤ 4 * i
  | 0 => by simp [rowS]
  | i + 1 => by
    have := rowS_len alt i
    unfold rowS
    split <;> simp <;> omega
theorem letter_u8 (i : Nat) : IntKind.u8.wrap ((65 + i % 26 : Nat) : Int) = ((letV i).toNat : Int) := by
  have h2 : (letV i).toNat = 65 + i % 26 := by unfold letV; simp; omega
  rw [h2]; show ((65 + i % 26 : Nat) : Int) % 256 = _; omega
theorem Rows_r (a : Int) (alt : Bool) (w : World) (hX : Lx w) : Ret Tryz.prog 9 [.int .i64 a, .bool alt] w fun v w' => v = .bool true ∧ Below w.heap.size w w' := by
  obtain ⟨m, hm⟩ := and65535 a
  obtain ⟨n, hn⟩ : ∃ n, n = 2 + m % 29 := ⟨_, rfl⟩
  have hn2 : 2 ≤ n := by omega
  have hn30 : n ≤ 30 := by omega
  have hq := rows_eq n alt hn2 hn30
  have hsl := rowS_len alt n
  have hkl : ((List.range n).map rowN).length = n := by simp
  have hb := Below.refl w.heap.size w
  have hX_hb := hX
  refine enter Tryz.func9 rfl rfl rfl ?_
  refine Wc.seq fun _ hK_1 => Wc.region <| Wl.sg rfl rfl <| Wl.nil <| Wq.next hK_1 <| Wc.seq fun _ hK_3 => Wc.region ?_
  refine Wl.call txt11PlR rfl rfl (pshown_r _ hX) rfl ?_
  rintro _ w_k0 ⟨rfl, hs_k0⟩
  have hz_k0 := hs_k0.size
  have hb := hb.trans (hs_k0.mono hb.size)
  have hX := hX_hb.below hb
  refine Wl.sg rfl rfl <| Wl.nil <| Wq.next hK_3 <| Wc.seq fun _ hK_6 => Wc.region <| Wl.mv rfl rfl ?_
  refine Wl.y (y_eq (y_and rfl rfl) (int_eq (show _ = (m : Int) from hm))) rfl ?_
  refine Wl.y (y_eq (y_rem rfl rfl (by first | decide | omega)) (int_eq (show _ = ((m % 29 : Nat) : Int) by rfl))) rfl ?_
  refine Wl.y (y_eq (y_addI rfl rfl (by first | omega | (simp; done) | (simp; omega)) (by first | omega | (simp; done) | (simp; omega))) (int_eq (show _ = (n : Int) by rw [hn]; omega))) rfl ?_
  refine Wl.sg rfl rfl <| Wl.nil <| Wq.next hK_6 <| Wc.seq fun _ hK_12 => Wc.region <| Wl.sg rfl rfl <| Wl.nil <| Wq.next hK_12 <| Wc.seq fun _ hK_14 => Wc.seq fun _ hK_15 => ?_
  refine Wc.region <| Wl.sg rfl rfl <| Wl.nil <| Wq.next hK_15 <| Wc.block ?_
  refine Wc.loop (X := Nat) (fun i => [(0, .int .i64 (n : Int)), (1, .bool alt), (5, .bool true), (6, str (rowS alt i)), (7, .int .i64 (i : Int))]) (fun i wr => i ≤ n ∧ Below w.heap.size w wr) (fun i => n - i) (0) ?_ ?_ ?_
  · exact by repeat first | exact Sub.nil | refine Sub.cons' rfl (by first | rfl | exact int_eq (by omega)) ?_
  · exact ⟨by omega, hb⟩
  rintro i wr hI_18 _ hL_17
  replace hI_18 : i ≤ n ∧ Below w.heap.size w wr := hI_18
  obtain ⟨hi, hb⟩ := hI_18
  show Wc _ _ _ _ _ [(0, .int .i64 (n : Int)), (1, .bool alt), (5, .bool true), (6, str (rowS alt i)), (7, .int .i64 (i : Int))] _
  have hX := hX_hb.below hb
  try have hzhb_L0 := hb.size
  refine Wc.seq fun _ hK_19 => Wc.seq fun _ hK_20 => Wc.region <| Wl.mv rfl rfl <| Wl.mv rfl rfl <| Wl.y (y_lssi rfl rfl) rfl <| Wl.nil <| Wq.next hK_20 ?_
  refine Wc.cond rfl (fun c0_24 => ?_) (fun c0_24 => ?_)
  ·
   have c0_24_ := c0_24
   try simp only [DZ] at c0_24
   have hin : i < n := by have := c0_24; omega
   have hil := rowS_len alt i
   refine Wc.skip <| Wq.next hK_19 <| Wc.seq fun _ hK_25 => Wc.block <| Wc.seq fun _ hK_26 => Wc.seq fun _ hK_27 => Wc.region <| Wl.mv rfl rfl <| Wl.y (y_gtri rfl rfl) rfl <| Wl.mv rfl rfl ?_
   refine Wl.guardT rfl rfl rfl (fun g_31 => ?_) (fun g_31 => ?_)
   ·
    have g_31_ := g_31
    try simp only [DZ] at g_31
    have hi0 : 0 < i := by have := g_31; omega
    refine Wl.mv rfl rfl ?_
    refine Wl.y (y_pickT rfl g_31_ rfl) rfl ?_
    refine Wl.nil <| Wq.next hK_27 ?_
    refine Wc.meet (X := List UInt8) (fun s2 => [(0, .int .i64 (n : Int)), (1, .bool alt), (5, .bool true), (6, str s2), (7, .int .i64 (i : Int))]) (fun s2 wr => s2 = rowP alt i ∧ s2.length ≤ 4 * i + 1 ∧ Below w.heap.size w wr) (fun _ hM_34 => ?_) ?_
    ·
     refine Wc.cond rfl (fun c1_35 => ?_) (fun c1_35 => ?_)
     ·
      have c1_35_ := c1_35
      try simp only [DZ] at c1_35
      have hp : rowP alt i = rowS alt i ++ [124] := if_pos ⟨hi0, c1_35_⟩
      refine Wc.region <| Wl.mv rfl rfl ?_
      refine Wl.y (y_adds rfl rfl (by first | omega | (simp; done) | (simp; omega))) rfl ?_
      refine Wl.sg rfl rfl <| Wl.nil ?_
      refine Wq.meet hM_34 (rowP alt i) (by repeat first | exact Sub.nil | refine Sub.cons' rfl (by first | rfl | exact str_eq hp.symm) ?_) ?_
      exact ⟨rfl, by rw [hp]; first | omega | (simp; omega), hb⟩
     have c1_35_ := c1_35
     try simp only [DZ] at c1_35
     have hp : rowP alt i = rowS alt i := if_neg (fun h => by first | exact hi0 h.1 | (have h2 := c1_35_; rw [h.2] at h2; cases h2))
     refine Wc.skip ?_
     refine Wq.meet hM_34 (rowP alt i) (by repeat first | exact Sub.nil | refine Sub.cons' rfl (by first | rfl | exact str_eq hp.symm) ?_) ?_
     exact ⟨rfl, by rw [hp]; first | omega | (simp; omega), hb⟩
    rintro s2 wr hI_39
    replace hI_39 : s2 = rowP alt i ∧ s2.length ≤ 4 * i + 1 ∧ Below w.heap.size w wr := hI_39
    obtain ⟨hs2, hs2l, hb⟩ := hI_39
    show Wq _ _ _ _ [(0, .int .i64 (n : Int)), (1, .bool alt), (5, .bool true), (6, str s2), (7, .int .i64 (i : Int))] _
    have hX := hX_hb.below hb
    try have hzhb_c1 := hb.size
    refine Wq.next hK_26 <| Wc.region <| Wl.mv rfl rfl ?_
    refine Wl.y (y_adds rfl rfl (by first | omega | (simp; done) | (simp; omega))) rfl ?_
    refine Wl.mv rfl rfl ?_
    refine Wl.y (y_eq (y_rem rfl rfl (by first | decide | omega)) (int_eq (show _ = ((i % 26 : Nat) : Int) by rfl))) rfl ?_
    refine Wl.y (y_eq (y_addI rfl rfl (by first | omega | (simp; done) | (simp; omega)) (by first | omega | (simp; done) | (simp; omega))) (int_eq (show _ = ((65 + i % 26 : Nat) : Int) by omega))) rfl ?_
    refine Wl.y (y_eq (y_convi Tryz.underlying3 Tryz.underlying5 rfl) (int_eq (letter_u8 i))) rfl ?_
    refine Wl.litN (sz := 1) (vs := [_]) Tryz.underlying50 (by kernel_rfl) rfl rfl rfl rfl rfl rfl ?_
    rintro g_b0 w_b0 hg_b0 hn_b0 hs_b0
    have hz_b0 := hs_b0.size
    have hb := hb.trans (hs_b0.mono hb.size)
    have hX := hX_hb.below hb
    have hB_b0 := hn_b0
    have hl_b0 := hB_b0.lt
    refine Wl.l (l_str Tryz.underlying50 Tryz.underlying5 Tryz.underlying9 rfl (by exact Rd.byte hB_b0)) rfl ?_
    refine Wl.y (y_adds rfl rfl (by first | omega | (simp; done) | (simp; omega))) rfl ?_
    refine Wl.y (y_adds rfl rfl (by first | omega | (simp; done) | (simp; omega))) rfl ?_
    refine Wl.sg rfl rfl <| Wl.nil <| Wq.block_normal <| Wq.next hK_25 <| Wc.region <| Wl.mv rfl rfl ?_
    refine Wl.y (y_addI rfl rfl (by first | omega | (simp; done) | (simp; omega)) (by first | omega | (simp; done) | (simp; omega))) rfl ?_
    refine Wl.sg rfl rfl <| Wl.nil ?_
    refine fun a_ ha_ => hL_17 _ _ (i + 1) (by first | omega | (simp; omega)) (by repeat first | exact Sub.nil | refine Sub.cons' rfl (by first | rfl | exact int_eq (by omega) | exact str_eq (by rw [hs2]; rfl)) ?_) ?_ a_ ha_
    exact ⟨by omega, hb⟩
   have g_31_ := g_31
   try simp only [DZ] at g_31
   have hi0 : ¬ 0 < i := by have := g_31; omega
   have hp : rowP alt i = rowS alt i := if_neg (fun h => hi0 h.1)
   refine Wl.y (y_pickF rfl g_31_ rfl) rfl ?_
   refine Wl.nil <| Wq.next hK_27 ?_
   refine Wc.meet (X := List UInt8) (fun s2 => [(0, .int .i64 (n : Int)), (1, .bool alt), (5, .bool true), (6, str s2), (7, .int .i64 (i : Int))]) (fun s2 wr => s2 = rowP alt i ∧ s2.length ≤ 4 * i + 1 ∧ Below w.heap.size w wr) (fun _ hM_55 => ?_) ?_
   ·
    refine Wc.condF rfl rfl ?_
    refine Wc.skip ?_
    refine Wq.meet hM_55 (rowP alt i) (by repeat first | exact Sub.nil | refine Sub.cons' rfl (by first | rfl | exact str_eq hp.symm) ?_) ?_
    exact ⟨rfl, by rw [hp]; first | omega | (simp; omega), hb⟩
   rintro s2 wr hI_56
   replace hI_56 : s2 = rowP alt i ∧ s2.length ≤ 4 * i + 1 ∧ Below w.heap.size w wr := hI_56
   obtain ⟨hs2, hs2l, hb⟩ := hI_56
   show Wq _ _ _ _ [(0, .int .i64 (n : Int)), (1, .bool alt), (5, .bool true), (6, str s2), (7, .int .i64 (i : Int))] _
   have hX := hX_hb.below hb
   try have hzhb_c1 := hb.size
   refine Wq.next hK_26 <| Wc.region <| Wl.mv rfl rfl ?_
   refine Wl.y (y_adds rfl rfl (by first | omega | (simp; done) | (simp; omega))) rfl ?_
   refine Wl.mv rfl rfl ?_
   refine Wl.y (y_eq (y_rem rfl rfl (by first | decide | omega)) (int_eq (show _ = ((i % 26 : Nat) : Int) by rfl))) rfl ?_
   refine Wl.y (y_eq (y_addI rfl rfl (by first | omega | (simp; done) | (simp; omega)) (by first | omega | (simp; done) | (simp; omega))) (int_eq (show _ = ((65 + i % 26 : Nat) : Int) by omega))) rfl ?_
   refine Wl.y (y_eq (y_convi Tryz.underlying3 Tryz.underlying5 rfl) (int_eq (letter_u8 i))) rfl ?_
   refine Wl.litN (sz := 1) (vs := [_]) Tryz.underlying50 (by kernel_rfl) rfl rfl rfl rfl rfl rfl ?_
   rintro g_b0 w_b0 hg_b0 hn_b0 hs_b0
   have hz_b0 := hs_b0.size
   have hb := hb.trans (hs_b0.mono hb.size)
   have hX := hX_hb.below hb
   have hB_b0 := hn_b0
   have hl_b0 := hB_b0.lt
   refine Wl.l (l_str Tryz.underlying50 Tryz.underlying5 Tryz.underlying9 rfl (by exact Rd.byte hB_b0)) rfl ?_
   refine Wl.y (y_adds rfl rfl (by first | omega | (simp; done) | (simp; omega))) rfl ?_
   refine Wl.y (y_adds rfl rfl (by first | omega | (simp; done) | (simp; omega))) rfl ?_
   refine Wl.sg rfl rfl <| Wl.nil <| Wq.block_normal <| Wq.next hK_25 <| Wc.region <| Wl.mv rfl rfl ?_
   refine Wl.y (y_addI rfl rfl (by first | omega | (simp; done) | (simp; omega)) (by first | omega | (simp; done) | (simp; omega))) rfl ?_
   refine Wl.sg rfl rfl <| Wl.nil ?_
   refine fun a_ ha_ => hL_17 _ _ (i + 1) (by first | omega | (simp; omega)) (by repeat first | exact Sub.nil | refine Sub.cons' rfl (by first | rfl | exact int_eq (by omega) | exact str_eq (by rw [hs2]; rfl)) ?_) ?_ a_ ha_
   exact ⟨by omega, hb⟩
  have c0_24_ := c0_24
  try simp only [DZ] at c0_24
  have hin : i = n := by have := c0_24; omega
  subst hin
  refine Wc.exit ?_
  refine Wq.then_exit <| Wq.then_exit <| Wq.block_exit <| Wq.next hK_14 <| Wc.seq fun _ hK_71 => Wc.region <| Wl.mv rfl rfl ?_
  refine Wl.call txt12PlR rfl rfl (ParseT_r hq (by omega) _ hX) rfl ?_
  rintro _ w_k1 ⟨⟨z, Sz, rfl, hz, hz_S⟩, hs_k1⟩
  have hz_k1 := hs_k1.size
  have hb := hb.trans (hs_k1.mono hb.size)
  have hX := hX_hb.below hb
  refine Wl.mv rfl rfl <| Wl.y (y_extract rfl rfl) rfl <| Wl.y (y_extract rfl rfl) rfl <| Wl.y (y_extract rfl rfl) rfl ?_
  refine Wl.allocN (z := (.agg #[(.int .i64 0), (.int .i64 0), (.int .i64 0), (.int .i64 0), (str []), (.int .i64 0), (.int .i64 0), (str []), (.int .i64 0), (.int .i64 0), (.float .f64 0), (str []), (.slice none 0 0), (.int .i64 0), (str []), (.int .i64 0), (.int .i64 0), (.float .f64 0), (str []), (.slice none 0 0), (.int .i64 0), (.int .i64 0), (.slice none 0 0)])) (by kernel_rfl) rfl ?_
  rintro g_o38 w_o38 hg_o38 hn_o38 hs_o38
  have hz_o38 := hs_o38.size
  have hb := hb.trans (hs_o38.mono hb.size)
  have hX := hX_hb.below hb
  try have hz := PAt.below hz hs_o38
  have hB_o38 := hn_o38
  have hl_o38 := hB_o38.lt
  refine Wl.storeS (by kernel_rfl) rfl rfl hB_o38 rfl rfl ?_
  rintro w_s0 hn_s0 hg_s0
  have hz_s0 := hg_s0.size
  have hb := below_blk hb hg_s0 hb.size (by omega)
  have hX := hX_hb.below hb
  try have hz := PAt.kp hz hg_s0 (fun h_ => by have h2_ := hz_S _ h_; first | omega | (rcases h2_ with h3_ | h3_; (have h4_ := hS _ h3_; omega); omega))
  have hB_o38 := hn_s0
  refine Wl.sg rfl rfl <| Wl.sg rfl rfl <| Wl.nil <| Wq.next hK_71 <| Wc.seq fun _ hK_81 => Wc.region <| Wl.sg rfl rfl <| Wl.nil <| Wq.next hK_81 <| Wc.seq fun _ hK_83 => ?_
  refine Wc.seq fun _ hK_84 => ?_
  obtain ⟨hk, _, _, _, _, _, _, A, c, hcA, _⟩ := PAt.see hz
  rw [hkl] at hcA
  refine Wc.region <| Wl.mv rfl rfl <| Wl.nil <| Wq.next hK_84 ?_
  refine Wc.meet (X := Int) (fun kk => [(0, .int .i64 (i : Int)), (5, .bool true), (8, .pointer (some ⟨g_o38, 0, none⟩)), (10, .int .i64 0), (11, .int .i64 kk)]) (fun kk wr => kk = (if alt = true then (4 : Int) else 3) ∧ Below w.heap.size w wr ∧ Blk wr g_o38 33 (qcells 0 0 0 z) ∧ PAt wr Sz (rowQ alt i) z.cells) (fun _ hM_86 => ?_) ?_
  ·
   refine Wc.cond rfl (fun c2_87 => ?_) (fun c2_87 => ?_)
   ·
    have c2_87_ := c2_87
    try simp only [DZ] at c2_87
    have hkk : (if alt = true then (4 : Int) else 3) = 4 := if_pos c2_87_
    refine Wc.region <| Wl.sg rfl rfl <| Wl.nil ?_
    refine Wq.meet hM_86 ((if alt = true then (4 : Int) else 3)) (by repeat first | exact Sub.nil | refine Sub.cons' rfl (by first | rfl | exact int_eq hkk.symm) ?_) ?_
    exact ⟨rfl, hb, hB_o38, hz⟩
   have c2_87_ := c2_87
   try simp only [DZ] at c2_87
   have hkk : (if alt = true then (4 : Int) else 3) = 3 := if_neg (by rw [c2_87_]; simp)
   refine Wc.skip ?_
   refine Wq.meet hM_86 ((if alt = true then (4 : Int) else 3)) (by repeat first | exact Sub.nil | refine Sub.cons' rfl (by first | rfl | exact int_eq hkk.symm) ?_) ?_
   exact ⟨rfl, hb, hB_o38, hz⟩
  rintro kk wr hI_89
  replace hI_89 : kk = (if alt = true then (4 : Int) else 3) ∧ Below w.heap.size w wr ∧ Blk wr g_o38 33 (qcells 0 0 0 z) ∧ PAt wr Sz (rowQ alt i) z.cells := hI_89
  obtain ⟨hkk, hb, hB_o38, hz⟩ := hI_89
  show Wq _ _ _ _ [(0, .int .i64 (i : Int)), (5, .bool true), (8, .pointer (some ⟨g_o38, 0, none⟩)), (10, .int .i64 0), (11, .int .i64 kk)] _
  have hX := hX_hb.below hb
  try have hzhb_c2 := hb.size
  have hlhB_o38_c2 := hB_o38.lt
  refine Wq.next hK_83 <| Wc.seq fun _ hK_90 => Wc.seq fun _ hK_91 => Wc.region <| Wl.mv rfl rfl <| Wl.y (y_neqi rfl rfl) rfl <| Wl.mv rfl rfl ?_
  refine Wl.guardF rfl rfl rfl (fun g_95 => ?_) (fun g_95 => ?_)
  ·
   have g_95_ := g_95
   try simp only [DZ] at g_95
   exact absurd g_95_ (by decide)
  have g_95_ := g_95
  try simp only [DZ] at g_95
  refine Wl.y (y_fieldAddr (fa33_3PlR _) rfl) rfl ?_
  refine Wl.on' rfl rfl g_95_ ?_
  refine Wl.y (y_fieldAddr (fa31_0PlR _) rfl) rfl ?_
  refine Wl.on' rfl rfl g_95_ ?_
  refine Wl.l (l_load one3PlR rfl (by exact hB_o38.at (j := 3) rfl)) rfl ?_
  refine Wl.on' rfl rfl g_95_ <| Wl.mv rfl rfl <| Wl.on' rfl rfl g_95_ <| Wl.y (y_neqi rfl rfl) rfl ?_
  refine Wl.y (y_pickF rfl g_95_ rfl) rfl ?_
  refine Wl.mv rfl rfl ?_
  refine Wl.guardF rfl rfl rfl (fun g_103 => ?_) (fun g_103 => ?_)
  ·
   have g_103_ := g_103
   try simp only [DZ] at g_103
   exact absurd g_103_ (by rw [hk, hkk]; simp)
  have g_103_ := g_103
  try simp only [DZ] at g_103
  refine Wl.y (y_fieldAddr (fa33_3PlR _) rfl) rfl ?_
  refine Wl.on' rfl rfl g_103_ ?_
  refine Wl.y (y_fieldAddr (fa31_7PlR _) rfl) rfl ?_
  refine Wl.on' rfl rfl g_103_ ?_
  refine Wl.l (l_load one29PlR rfl (by exact hB_o38.at (j := 22) (qcells_pat _ _ _ z hcA))) rfl ?_
  refine Wl.on' rfl rfl g_103_ ?_
  refine Wl.y (y_lenl Tryz.underlying29 (by omega) rfl) rfl ?_
  refine Wl.on' rfl rfl g_103_ <| Wl.mv rfl rfl <| Wl.on' rfl rfl g_103_ <| Wl.y (y_neqi rfl rfl) rfl ?_
  refine Wl.y (y_pickF rfl g_103_ rfl) rfl ?_
  refine Wl.nil <| Wq.next hK_91 ?_
  refine Wc.cond rfl (fun c3_111 => ?_) (fun c3_111 => ?_)
  ·
   have c3_111_ := c3_111
   try simp only [DZ] at c3_111
   exact absurd c3_111_ (by simp)
  have c3_111_ := c3_111
  try simp only [DZ] at c3_111
  refine Wc.skip <| Wq.next hK_90 <| Wc.seq fun _ hK_112 => Wc.seq fun _ hK_113 => Wc.region <| Wl.sg rfl rfl <| Wl.nil <| Wq.next hK_113 <| Wc.block ?_
  refine Wc.loop (X := Nat) (fun j => [(0, .int .i64 (i : Int)), (5, .bool true), (8, .pointer (some ⟨g_o38, 0, none⟩)), (12, .int .i64 (j : Int))]) (fun j wr => j ≤ i ∧ Below w.heap.size w wr ∧ Blk wr g_o38 33 (qcells 0 0 0 z) ∧ PAt wr Sz (rowQ alt i) z.cells) (fun j => i - j) (0) ?_ ?_ ?_
  · exact by repeat first | exact Sub.nil | refine Sub.cons' rfl (by first | rfl | exact int_eq (by omega)) ?_
  · exact ⟨by omega, hb, hB_o38, hz⟩
  rintro j wr hI_116 _ hL_115
  replace hI_116 : j ≤ i ∧ Below w.heap.size w wr ∧ Blk wr g_o38 33 (qcells 0 0 0 z) ∧ PAt wr Sz (rowQ alt i) z.cells := hI_116
  obtain ⟨hj, hb, hB_o38, hz⟩ := hI_116
  show Wc _ _ _ _ _ [(0, .int .i64 (i : Int)), (5, .bool true), (8, .pointer (some ⟨g_o38, 0, none⟩)), (12, .int .i64 (j : Int))] _
  have hX := hX_hb.below hb
  try have hzhb_L1 := hb.size
  have hlhB_o38_L1 := hB_o38.lt
  refine Wc.seq fun _ hK_117 => Wc.seq fun _ hK_118 => Wc.region <| Wl.mv rfl rfl <| Wl.mv rfl rfl <| Wl.y (y_lssi rfl rfl) rfl <| Wl.nil <| Wq.next hK_118 ?_
  refine Wc.cond rfl (fun c4_122 => ?_) (fun c4_122 => ?_)
  ·
   have c4_122_ := c4_122
   try simp only [DZ] at c4_122
   have hjn : j < i := by have := c4_122; omega
   obtain ⟨_, _, _, _, _, _, _, A', c', hcA', _, _, hkA⟩ := PAt.see hz
   obtain ⟨p, zj, rfl, hzj, hcj⟩ := hkA j (by rw [hkl]; exact hjn)
   rw [hkl] at hcA'
   rw [show ((List.range i).map rowN)[j]'(by rw [hkl]; exact hjn) = rowN j by simp] at hzj
   obtain ⟨hjk, hjv, _⟩ := PAt.see hzj
   refine Wc.skip <| Wq.next hK_117 <| Wc.seq fun _ hK_123 => Wc.block <| Wc.seq fun _ hK_124 => ?_
   have hb2 := Below.refl wr.heap.size wr
   have hB_o38_hb2 := hB_o38
   have hz_hb2 := hz
   refine Wc.any (n := 24) (fun w' => Below wr.heap.size wr w') #[false, false, false, false, false, false, false, false, false, false, false, false, false, false, false, false, false, false, false, false, false, false, false, false] (by kernel_rfl) rfl (by kernel_rfl) ?_
   refine Wa.drew ?_
   rintro w_g18 hs_g18
   have hz_g18 := hs_g18.size
   have hb := hb.trans (hs_g18.mono hb.size)
   have hX := hX_hb.below hb
   have hb2 := hb2.trans (hs_g18.mono hb2.size)
   have hB_o38 := hB_o38_hb2.below hb2
   have hz := hz_hb2.below hb2
   refine Wa.take (i := 0) #[true, false, false, false, false, false, false, false, false, false, false, false, false, false, false, false, false, false, false, false, false, false, false, false] rfl (by kernel_rfl) (fun _ _ _ h => h) rfl (fun wq hq => Yl.ld (y_fieldAddr (fa33_3PlR _) rfl)) hb2 ?_
   refine Wa.take (i := 1) #[true, true, false, false, false, false, false, false, false, false, false, false, false, false, false, false, false, false, false, false, false, false, false, false] rfl (by kernel_rfl) (fun _ _ _ h => h) rfl (fun wq hq => Yl.ld (y_fieldAddr (fa31_7PlR _) rfl)) hb2 ?_
   refine Wa.take (i := 2) #[true, true, true, false, false, false, false, false, false, false, false, false, false, false, false, false, false, false, false, false, false, false, false, false] rfl (by kernel_rfl) (fun _ _ _ h => h) rfl (fun wq hq => l_load one29PlR rfl (by have hB_o38 := hB_o38_hb2.below hq; have hz := hz_hb2.below hq; exact (hB_o38_hb2.below hq).at (j := 22) (qcells_pat _ _ _ z hcA'))) hb2 ?_
   refine Wa.take (i := 3) #[true, true, true, true, false, false, false, false, false, false, false, false, false, false, false, false, false, false, false, false, false, false, false, false] rfl (by kernel_rfl) (fun _ _ _ h => h) rfl (fun wq hq => Yl.ld (y_move rfl)) hb2 ?_
   refine Wa.take (i := 4) #[true, true, true, true, true, false, false, false, false, false, false, false, false, false, false, false, false, false, false, false, false, false, false, false] rfl (by kernel_rfl) (fun _ _ _ h => h) rfl (fun wq hq => Yl.ld (y_indexAddr Tryz.underlying29 sz31PlR rfl rfl (by omega) (by omega))) hb2 ?_
   refine Wa.take (i := 5) #[true, true, true, true, true, true, false, false, false, false, false, false, false, false, false, false, false, false, false, false, false, false, false, false] rfl (by kernel_rfl) (fun _ _ _ h => h) rfl (fun wq hq => Yl.ld (y_fieldAddr (fa31_0PlR _) rfl)) hb2 ?_
   refine Wa.take (i := 6) #[true, true, true, true, true, true, true, false, false, false, false, false, false, false, false, false, false, false, false, false, false, false, false, false] rfl (by kernel_rfl) (fun _ _ _ h => h) rfl (fun wq hq => l_load one3PlR rfl (by have hB_o38 := hB_o38_hb2.below hq; have hz := hz_hb2.below hq; exact by rw [Int.toNat_natCast]; exact cell_below hq (hcj 0 _ rfl))) hb2 ?_
   refine Wa.take (i := 7) #[true, true, true, true, true, true, true, true, false, false, false, false, false, false, false, false, false, false, false, false, false, false, false, false] rfl (by kernel_rfl) (fun _ _ _ h => h) rfl (fun wq hq => Yl.ld (y_neqi rfl rfl)) hb2 ?_
   refine Wa.take (i := 8) #[true, true, true, true, true, true, true, true, true, false, false, false, false, false, false, false, false, false, false, false, false, false, false, false] rfl (by kernel_rfl) (fun _ _ _ h => h) rfl (fun wq hq => Yl.ld (y_move rfl)) hb2 ?_
   refine Wa.split (s := 77) rfl (fun g_134 => ?_) (fun g_134 => ?_)
   ·
    have g_134_ := g_134
    try simp only [DZ] at g_134
    exact absurd g_134_ (by rw [hjk]; simp)
   have g_134_ := g_134
   try simp only [DZ] at g_134
   refine Wa.takeOn (i := 9) #[true, true, true, true, true, true, true, true, true, true, false, false, false, false, false, false, false, false, false, false, false, false, false, false] rfl rfl rfl g_134_ (by kernel_rfl) (fun _ _ _ h => h) rfl (fun wq hq => Yl.ld (y_fieldAddr (fa33_3PlR _) rfl)) hb2 ?_
   refine Wa.takeOn (i := 10) #[true, true, true, true, true, true, true, true, true, true, true, false, false, false, false, false, false, false, false, false, false, false, false, false] rfl rfl rfl g_134_ (by kernel_rfl) (fun _ _ _ h => h) rfl (fun wq hq => Yl.ld (y_fieldAddr (fa31_7PlR _) rfl)) hb2 ?_
   refine Wa.takeOn (i := 11) #[true, true, true, true, true, true, true, true, true, true, true, true, false, false, false, false, false, false, false, false, false, false, false, false] rfl rfl rfl g_134_ (by kernel_rfl) (fun _ _ _ h => h) rfl (fun wq hq => l_load one29PlR rfl (by have hB_o38 := hB_o38_hb2.below hq; have hz := hz_hb2.below hq; exact (hB_o38_hb2.below hq).at (j := 22) (qcells_pat _ _ _ z hcA'))) hb2 ?_
   refine Wa.takeOn (i := 12) #[true, true, true, true, true, true, true, true, true, true, true, true, true, false, false, false, false, false, false, false, false, false, false, false] rfl rfl rfl g_134_ (by kernel_rfl) (fun _ _ _ h => h) rfl (fun wq hq => Yl.ld (y_move rfl)) hb2 ?_
   refine Wa.takeOn (i := 13) #[true, true, true, true, true, true, true, true, true, true, true, true, true, true, false, false, false, false, false, false, false, false, false, false] rfl rfl rfl g_134_ (by kernel_rfl) (fun _ _ _ h => h) rfl (fun wq hq => Yl.ld (y_indexAddr Tryz.underlying29 sz31PlR rfl rfl (by omega) (by omega))) hb2 ?_
   refine Wa.takeOn (i := 14) #[true, true, true, true, true, true, true, true, true, true, true, true, true, true, true, false, false, false, false, false, false, false, false, false] rfl rfl rfl g_134_ (by kernel_rfl) (fun _ _ _ h => h) rfl (fun wq hq => Yl.ld (y_fieldAddr (fa31_1PlR _) rfl)) hb2 ?_
   refine Wa.takeOn (i := 15) #[true, true, true, true, true, true, true, true, true, true, true, true, true, true, true, true, false, false, false, false, false, false, false, false] rfl rfl rfl g_134_ (by kernel_rfl) (fun _ _ _ h => h) rfl (fun wq hq => l_load one9PlR rfl (by have hB_o38 := hB_o38_hb2.below hq; have hz := hz_hb2.below hq; exact by rw [Int.toNat_natCast]; exact cell_below hq (hcj 1 _ rfl))) hb2 ?_
   refine Wa.takeOn (i := 16) #[true, true, true, true, true, true, true, true, true, true, true, true, true, true, true, true, true, false, false, false, false, false, false, false] rfl rfl rfl g_134_ (by kernel_rfl) (fun _ _ _ h => h) rfl (fun wq hq => Yl.ld (y_move rfl)) hb2 ?_
   refine Wa.takeOn (i := 17) #[true, true, true, true, true, true, true, true, true, true, true, true, true, true, true, true, true, true, false, false, false, false, false, false] rfl rfl rfl g_134_ (by kernel_rfl) (fun _ _ _ h => h) rfl (fun wq hq => Yl.ld (y_eq (y_rem rfl rfl (by first | decide | omega)) (int_eq (show _ = ((j % 26 : Nat) : Int) by rfl)))) hb2 ?_
   refine Wa.takeOn (i := 18) #[true, true, true, true, true, true, true, true, true, true, true, true, true, true, true, true, true, true, true, false, false, false, false, false] rfl rfl rfl g_134_ (by kernel_rfl) (fun _ _ _ h => h) rfl (fun wq hq => Yl.ld (y_eq (y_addI rfl rfl (by first | omega | (simp; done) | (simp; omega)) (by first | omega | (simp; done) | (simp; omega))) (int_eq (show _ = ((65 + j % 26 : Nat) : Int) by omega)))) hb2 ?_
   refine Wa.takeOn (i := 19) #[true, true, true, true, true, true, true, true, true, true, true, true, true, true, true, true, true, true, true, true, false, false, false, false] rfl rfl rfl g_134_ (by kernel_rfl) (fun _ _ _ h => h) rfl (fun wq hq => Yl.ld (y_eq (y_convi Tryz.underlying3 Tryz.underlying5 rfl) (int_eq (letter_u8 j)))) hb2 ?_
   refine Wa.some (rs := [20]) (by kernel_rfl) rfl ?_
   refine Ws.cons #[true, true, true, true, true, true, true, true, true, true, true, true, true, true, true, true, true, true, true, true, true, false, false, false] rfl rfl (fun _ hK_146 => ?_) ?_
   ·
    refine Wl.on' rfl rfl g_134_ ?_
    refine Wl.litN (sz := 1) (vs := [_]) Tryz.underlying50 (by kernel_rfl) rfl rfl rfl rfl rfl rfl ?_
    rintro g_b2 w_b2 hg_b2 hn_b2 hs_b2
    have hz_b2 := hs_b2.size
    have hb := hb.trans (hs_b2.mono hb.size)
    have hX := hX_hb.below hb
    have hb2 := hb2.trans (hs_b2.mono hb2.size)
    have hB_o38 := hB_o38_hb2.below hb2
    have hz := hz_hb2.below hb2
    have hB_b2 := hn_b2
    have hl_b2 := hB_b2.lt
    refine Wl.nil ?_
    refine Wq.back hK_146 hb2 ?_
    refine Wa.some (rs := [21]) (by kernel_rfl) rfl ?_
    refine Ws.cons #[true, true, true, true, true, true, true, true, true, true, true, true, true, true, true, true, true, true, true, true, true, true, false, false] rfl rfl (fun _ hK_148 => ?_) ?_
    ·
     refine Wl.on' rfl rfl g_134_ ?_
     refine Wl.l (l_str Tryz.underlying50 Tryz.underlying5 Tryz.underlying9 rfl (by exact Rd.byte hB_b2)) rfl ?_
     refine Wl.nil ?_
     refine Wq.back hK_148 hb2 ?_
     refine Wa.takeOn (i := 22) #[true, true, true, true, true, true, true, true, true, true, true, true, true, true, true, true, true, true, true, true, true, true, true, false] rfl rfl rfl g_134_ (by kernel_rfl) (fun _ _ _ h => h) rfl (fun wq hq => Yl.ld (y_neqs rfl rfl)) hb2 ?_
     refine Wa.take (i := 23) #[true, true, true, true, true, true, true, true, true, true, true, true, true, true, true, true, true, true, true, true, true, true, true, true] rfl (by kernel_rfl) (fun _ _ _ h => h) rfl (fun wq hq => Yl.ld (y_pickF rfl g_134_ rfl)) hb2 ?_
     refine Wa.done (by kernel_rfl) ?_
     refine Wq.next hK_124 ?_
     refine Wc.cond rfl (fun c5_152 => ?_) (fun c5_152 => ?_)
     ·
      have c5_152_ := c5_152
      try simp only [DZ] at c5_152
      exact absurd c5_152_ (by rw [hjv]; simp)
     have c5_152_ := c5_152
     try simp only [DZ] at c5_152
     refine Wc.skip <| Wq.block_normal <| Wq.next hK_123 <| Wc.region <| Wl.mv rfl rfl ?_
     refine Wl.y (y_addI rfl rfl (by first | omega | (simp; done) | (simp; omega)) (by first | omega | (simp; done) | (simp; omega))) rfl ?_
     refine Wl.sg rfl rfl <| Wl.nil ?_
     refine fun a_ ha_ => hL_115 _ _ (j + 1) (by first | omega | (simp; omega)) (by repeat first | exact Sub.nil | refine Sub.cons' rfl (by first | rfl | exact int_eq (by omega)) ?_) ?_ a_ ha_
     exact ⟨by omega, hb, hB_o38, hz⟩
    exact Ws.nil
   exact Ws.nil
  have c4_122_ := c4_122
  try simp only [DZ] at c4_122
  refine Wc.exit ?_
  refine Wq.then_exit <| Wq.then_exit <| Wq.block_exit <| Wq.next hK_112 <| Wc.seq fun _ hK_156 => Wc.region <| Wl.mv rfl rfl <| Wl.sg rfl rfl <| Wl.nil <| Wq.next hK_156 ?_
  refine Wc.ret ?_
  refine ret1 rfl rfl ?_
  exact ⟨_, rfl, rfl, hb⟩
end Go.Proofs.YtjnabgddjogkbaaGreatDoor
