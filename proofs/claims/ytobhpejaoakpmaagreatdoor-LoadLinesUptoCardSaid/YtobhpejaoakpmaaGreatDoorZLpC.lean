/- LoadLines, by the calculus. -/
import Derived.Test.YtobhpejaoakpmaaGreatDoorZLpB
import Derived.Test.YtobhpejaoakpmaaGreatDoorZLT
namespace Go.Proofs.YtobhpejaoakpmaaGreatDoor
open Go.RowKit Go.Bw Go.Bw.Fl
set_option linter.unusedVariables false
set_option linter.unusedSimpArgs false
theorem fa25_0LpC (p : Addr) (w : World) : (Instr.fieldAt 25 (.pointer (some p)) 0).run Tryz.prog w = .ok (.pointer (some (p.add 0))) w := run_fieldAt (i := 0) (sz := 0) Tryz.underlying25 rfl (by kernel_rfl) p w
theorem fa25_1LpC (p : Addr) (w : World) : (Instr.fieldAt 25 (.pointer (some p)) 1).run Tryz.prog w = .ok (.pointer (some (p.add 1))) w := run_fieldAt (i := 1) (sz := 0) Tryz.underlying25 rfl (by kernel_rfl) p w
theorem one22LpC : One Tryz.prog 22 := ⟨_, Tryz.underlying22, rfl, by kernel_rfl⟩
theorem one23LpC : One Tryz.prog 23 := ⟨_, Tryz.underlying23, rfl, by kernel_rfl⟩
theorem sz47LpC : (Tryz.prog.info? 47).map (·.size) = some 3 := by kernel_rfl
theorem sz54LpC : (Tryz.prog.info? 54).map (·.size) = some 6 := by kernel_rfl
theorem txt17LpC : Txt Tryz.prog 17 := ⟨_, Tryz.func17, by kernel_rfl, rfl⟩   -- bridleway/bridlewayref07.Same
theorem txt18LpC : Txt Tryz.prog 18 := ⟨_, Tryz.func18, by kernel_rfl, rfl⟩   -- bridleway/bridlewaylaw08.shown
theorem txt19LpC : Txt Tryz.prog 19 := ⟨_, Tryz.func19, by kernel_rfl, rfl⟩   -- bridleway/load.Parse
theorem txt21LpC : Txt Tryz.prog 21 := ⟨_, Tryz.func21, by kernel_rfl, rfl⟩   -- bridleway/bridlewaylaw08.few
theorem txt22LpC : Txt Tryz.prog 22 := ⟨_, Tryz.func22, by kernel_rfl, rfl⟩   -- bridleway/load.Print
theorem GAt.want {S : Nat → Prop} {w : World} {A B : Option Addr} {c e : Nat} {g : GV} (h : GAt S w A c B e g) (n : Nat) : GAt S w A c B e (wantG n g) := by
  have l1 : (wantG n g).ns.length ≤ g.ns.length := by unfold wantG; rw [List.length_take]; omega
  have l2 : (wantG n g).es.length ≤ g.es.length := by unfold wantG; rw [List.length_take]; omega
  refine ⟨Nat.le_trans l1 h.nc, Nat.le_trans l2 h.ec, fun i hi => ?_, fun i hi => ?_, fun d hd => h.oks d (List.mem_of_mem_take hd), fun d hd => h.oke d (List.mem_of_mem_take hd)⟩
  · obtain ⟨p, cs, h1, h2, h3, h4⟩ := h.rn i (by omega)
    have e : (wantG n g).ns.getD i nd0 = g.ns.getD i nd0 := getD_take nd0 hi
    exact ⟨p, cs, h1, h2, h3, by show NodeC S w cs ((wantG n g).ns.getD i nd0); rw [e]; exact h4⟩
  · obtain ⟨p, cs, h1, h2, h3, h4⟩ := h.re i (by omega)
    have e : (wantG n g).es.getD i ed0 = g.es.getD i ed0 := getD_take ed0 hi
    exact ⟨p, cs, h1, h2, h3, by show EdgeC S w cs ((wantG n g).es.getD i ed0); rw [e]; exact h4⟩
theorem wantG_sz (n : Nat) (g : GV) : szG (wantG n g) ≤ szG g := by
  unfold szG wantG
  have h1 := take_sum_le szN g.ns n
  have h2 := take_sum_le2 szE g.es (n - g.ns.length)
  dsimp only; omega
theorem LoadLines_r (S : Nat → Prop) (A : Option Addr) (c : Nat) (B : Option Addr) (e : Nat) (g : GV) (a : Int) (w : World) (hG0 : GAt S w A c B e g) (hsz0 : szG g ≤ 1048576) (hL : Lb w) :
    Ret Tryz.prog 10 [.agg #[.slice A g.ns.length c, .slice B g.es.length e], .int .i64 a] w fun v w' => v = .bool true ∧ Below w.heap.size w w' := by
  have hnl := szG_nlen g
  have hel := szG_elen g
  have hG := hG0.few
  have hsz := Nat.le_trans (fewG_sz g) hsz0
  obtain ⟨ma, hma⟩ := mask65535 a
  have hnc := hG.nc
  have hec := hG.ec
  have l1 : (fewG g).ns.length ≤ 30 := by unfold fewG; rw [List.length_take]; omega
  have l2 : (fewG g).es.length ≤ 30 := by unfold fewG; rw [List.length_take]; omega
  obtain ⟨n, hn⟩ : ∃ n, n = ma % ((fewG g).ns.length + (fewG g).es.length + 1) := ⟨_, rfl⟩
  have hnN : n ≤ (fewG g).ns.length + (fewG g).es.length := by have := Nat.mod_lt ma (show 0 < (fewG g).ns.length + (fewG g).es.length + 1 by omega); omega
  have hb := Below.refl w.heap.size w
  have hG_hb := hG
  have hL_hb := hL
  refine enter Tryz.func10 rfl rfl rfl <| Wc.seq fun _ hK_1 => Wc.region <| Wl.boxN rfl rfl ?_
  rintro g_o0 w_o0 hg_o0 hn_o0 hs_o0
  have hz_o0 := hs_o0.size
  have hb := hb.trans (hs_o0.mono hb.size)
  have hG := hG_hb.below hb
  have hL := hL_hb.below hb
  have hB_o0 := hn_o0
  have hl_o0 := hB_o0.lt
  refine Wl.sg rfl rfl <| Wl.nil <| Wq.next hK_1 <| Wc.seq fun _ hK_4 => Wc.region <| Wl.call txt18LpC rfl rfl (shown8_r _ hL) rfl ?_
  rintro _ w_k0 ⟨rfl, hs_k0⟩
  have hz_k0 := hs_k0.size
  have hb := hb.trans (hs_k0.mono hb.size)
  have hG := hG_hb.below hb
  have hL := hL_hb.below hb
  have hB_o0 := Blk.below hB_o0 hs_k0
  refine Wl.sg rfl rfl <| Wl.nil <| Wq.next hK_4 <| Wc.seq fun _ hK_7 => Wc.region <| Wl.l (l_loadS Tryz.underlying25 (by kernel_rfl) rfl (by exact fun j u hu => hB_o0.at hu)) rfl <| Wl.call txt21LpC rfl rfl (few8_r A c B e g _ hG0.nc hG0.ec (by omega) (by omega)) rfl ?_
  rintro _ w_k1 ⟨rfl, hs_k1⟩
  have hz_k1 := hs_k1.size
  have hb := hb.trans (hs_k1.mono hb.size)
  have hG := hG_hb.below hb
  have hL := hL_hb.below hb
  have hB_o0 := Blk.below hB_o0 hs_k1
  refine Wl.storeS (by kernel_rfl) rfl rfl hB_o0 rfl rfl ?_
  rintro w_s0 hn_s0 hg_s0
  have hz_s0 := hg_s0.size
  have hb := below_blk hb hg_s0 hb.size (by omega)
  have hG := hG_hb.below hb
  have hL := hL_hb.below hb
  have hB_o0 := hn_s0
  refine Wl.nil <| Wq.next hK_7 <| Wc.seq fun _ hK_10 => Wc.region <| Wl.l (l_loadS Tryz.underlying25 (by kernel_rfl) rfl (by exact fun j u hu => hB_o0.at hu)) rfl <| Wl.call txt22LpC rfl rfl (GPrint_r S A c B e (fewG g) _ hG (by omega) hL) rfl ?_
  rintro _ w_k2 ⟨rfl, hs_k2⟩
  have hz_k2 := hs_k2.size
  have hb := hb.trans (hs_k2.mono hb.size)
  have hG := hG_hb.below hb
  have hL := hL_hb.below hb
  have hB_o0 := Blk.below hB_o0 hs_k2
  refine Wl.mv rfl rfl <| Wl.y (y_extract rfl rfl) rfl <| Wl.y (y_extract rfl rfl) rfl <| Wl.sg rfl rfl <| Wl.sg rfl rfl <| Wl.nil <| Wq.next hK_10 <| Wc.seq fun _ hK_18 => Wc.seq fun _ hK_19 => Wc.region <| Wl.mv rfl rfl <| Wl.y (y_neqi rfl rfl) rfl <| Wl.nil <| Wq.next hK_19 <| Wc.cond rfl (fun c0_22 => ?_) (fun c0_22 => ?_)
  ·
   have c0_22_ := c0_22
   simp only [DZ] at c0_22
   refine Wc.seq fun _ hK_23 => Wc.region <| Wl.mv rfl rfl <| Wl.sg rfl rfl <| Wl.nil <| Wq.next hK_23 <| Wc.ret <| Wq.then_ret <| ret1 rfl rfl ?_
   exact ⟨_, rfl, rfl, hb⟩
  have c0_22_ := c0_22
  simp only [DZ] at c0_22
  have h0 : rightG (fewG g) = 0 := by simpa using c0_22
  have hpl := print_le hG h0 hsz
  have hrg := rg_of h0 hG.oks hG.oke
  rw [if_pos h0]
  obtain ⟨L, hLe⟩ : ∃ L, L = linesG (fewG g) := ⟨_, rfl⟩
  have hLl : L.length = (fewG g).ns.length + (fewG g).es.length := by rw [hLe]; exact linesG_len _
  have hL10 : ∀ l ∈ L, (10 : UInt8) ∉ l := by rw [hLe]; exact lines_no10 hrg
  have hpr : printG (fewG g) = feeds L := by rw [hLe]; exact printG_lines _
  rw [hpr] at hpl ⊢
  have hcnt := count_feeds hL10
  refine Wc.skip <| Wq.next hK_18 <| Wc.seq fun _ hK_26 => Wc.region <| Wl.sg rfl rfl <| Wl.nil <| Wq.next hK_26 <| Wc.seq fun _ hK_28 => Wc.seq fun _ hK_29 => Wc.region <| Wl.sg rfl rfl <| Wl.nil <| Wq.next hK_29 <| Wc.block <| Wc.loop (X := Nat) (fun i => [(1, .int .i64 a), (2, .pointer (some ⟨g_o0, 0, none⟩)), (5, .bool true), (6, str (feeds L)), (8, .int .i64 (((feeds L).take i).count 10 : Int)), (9, .int .i64 (i : Int))]) (fun i wr => i ≤ (feeds L).length ∧ Below w.heap.size w wr ∧ Blk wr g_o0 25 [.slice A (fewG g).ns.length c, .slice B (fewG g).es.length e]) (fun i => (feeds L).length - i) (0) ?_ ?_ ?_
  · exact by repeat first | exact Sub.nil | refine Sub.cons' rfl (by first | rfl | exact int_eq (by omega)) ?_
  · exact ⟨Nat.zero_le _, hb, hB_o0⟩
  rintro i wr hI_32 _ hL_31
  replace hI_32 : i ≤ (feeds L).length ∧ Below w.heap.size w wr ∧ Blk wr g_o0 25 [.slice A (fewG g).ns.length c, .slice B (fewG g).es.length e] := hI_32
  obtain ⟨hi, hb, hB_o0⟩ := hI_32
  show Wc _ _ _ _ _ [(1, .int .i64 a), (2, .pointer (some ⟨g_o0, 0, none⟩)), (5, .bool true), (6, str (feeds L)), (8, .int .i64 (((feeds L).take i).count 10 : Int)), (9, .int .i64 (i : Int))] _
  have hG := hG_hb.below hb
  have hL := hL_hb.below hb
  have hzhb_L0 := hb.size
  have hlhB_o0_L0 := hB_o0.lt
  refine Wc.seq fun _ hK_33 => Wc.seq fun _ hK_34 => Wc.region <| Wl.mv rfl rfl <| Wl.mv rfl rfl <| Wl.y (y_lens Tryz.underlying9 (by omega) rfl) rfl <| Wl.y (y_lssi rfl rfl) rfl <| Wl.nil <| Wq.next hK_34 <| Wc.cond rfl (fun c1_39 => ?_) (fun c1_39 => ?_)
  ·
   have c1_39_ := c1_39
   simp only [DZ] at c1_39
   have hil : i < (feeds L).length := by have := c1_39; omega
   have hcs := cnt_succ hil
   have hcl : ((feeds L).take i).count 10 ≤ i := Nat.le_trans List.count_le_length (by rw [List.length_take]; omega)
   refine Wc.skip <| Wq.next hK_33 <| Wc.seq fun _ hK_40 => Wc.block <| Wc.seq fun _ hK_41 => Wc.region <| Wl.mv rfl rfl <| Wl.mv rfl rfl <| Wl.y (y_indexs Tryz.underlying9 rfl rfl (by omega) (by omega)) rfl <| Wl.y (y_eqli rfl rfl) rfl <| Wl.nil <| Wq.next hK_41 <| Wc.meet (X := Unit) (fun u_ => [(1, .int .i64 a), (2, .pointer (some ⟨g_o0, 0, none⟩)), (5, .bool true), (6, str (feeds L)), (8, .int .i64 (((feeds L).take (i + 1)).count 10 : Int)), (9, .int .i64 (i : Int))]) (fun u_ wm => Below w.heap.size w wm ∧ Blk wm g_o0 25 [.slice A (fewG g).ns.length c, .slice B (fewG g).es.length e]) (fun _ hM_46 => ?_) ?_
   ·
    refine Wc.cond rfl (fun c2_47 => ?_) (fun c2_47 => ?_)
    ·
     have c2_47_ := c2_47
     simp only [DZ] at c2_47
     have hu := (u8_ten _).1 c2_47
     rw [Int.toNat_natCast] at hu
     rw [if_pos hu] at hcs
     refine Wc.region <| Wl.mv rfl rfl <| Wl.y (y_addI rfl rfl (by omega) (by omega)) rfl <| Wl.sg rfl rfl <| Wl.nil <| Wq.meet hM_46 (()) (by repeat first | exact Sub.nil | refine Sub.cons' rfl (by first | rfl | exact int_eq (by omega)) ?_) ?_
     exact ⟨hb, hB_o0⟩
    have c2_47_ := c2_47
    simp only [DZ] at c2_47
    rw [if_neg (fun h => c2_47 ((u8_ten _).2 (by rw [Int.toNat_natCast]; exact h)))] at hcs
    refine Wc.skip <| Wq.meet hM_46 (()) (by repeat first | exact Sub.nil | refine Sub.cons' rfl (by first | rfl | exact int_eq (by omega)) ?_) ?_
    exact ⟨hb, hB_o0⟩
   rintro u_ wm hI_51
   replace hI_51 : Below w.heap.size w wm ∧ Blk wm g_o0 25 [.slice A (fewG g).ns.length c, .slice B (fewG g).es.length e] := hI_51
   obtain ⟨hb, hB_o0⟩ := hI_51
   show Wq _ _ _ _ [(1, .int .i64 a), (2, .pointer (some ⟨g_o0, 0, none⟩)), (5, .bool true), (6, str (feeds L)), (8, .int .i64 (((feeds L).take (i + 1)).count 10 : Int)), (9, .int .i64 (i : Int))] _
   have hG := hG_hb.below hb
   have hL := hL_hb.below hb
   have hzhb_c2 := hb.size
   have hlhB_o0_c2 := hB_o0.lt
   refine Wq.block_normal <| Wq.next hK_40 <| Wc.region <| Wl.mv rfl rfl <| Wl.y (y_addI rfl rfl (by omega) (by omega)) rfl <| Wl.sg rfl rfl <| Wl.nil <| fun a_ ha_ => hL_31 _ _ (i + 1) (by omega) (by repeat first | exact Sub.nil | refine Sub.cons' rfl (by first | rfl | exact int_eq (by omega)) ?_) ?_ a_ ha_
   exact ⟨(show i + 1 ≤ (feeds L).length by omega), hb, hB_o0⟩
  have c1_39_ := c1_39
  simp only [DZ] at c1_39
  refine Wc.exit <| Wq.then_exit <| Wq.then_exit <| Wq.block_exit <| Wq.next hK_28 <| Wc.seq fun _ hK_55 => Wc.seq fun _ hK_56 => Wc.region <| Wl.mv rfl rfl <| Wl.y (y_fieldAddr (fa25_0LpC _) rfl) rfl <| Wl.l (l_load one22LpC rfl (by exact hB_o0.at (j := 0) rfl)) rfl <| Wl.y (y_lenl Tryz.underlying22 (by omega) rfl) rfl <| Wl.y (y_fieldAddr (fa25_1LpC _) rfl) rfl <| Wl.l (l_load one23LpC rfl (by exact hB_o0.at (j := 1) rfl)) rfl <| Wl.y (y_lenl Tryz.underlying23 (by omega) rfl) rfl <| Wl.y (y_addI rfl rfl (by omega) (by omega)) rfl <| Wl.y (y_lssi rfl rfl) rfl <| Wl.nil <| Wq.next hK_56 <| Wc.cond rfl (fun c3_66 => ?_) (fun c3_66 => ?_)
  ·
   have c3_66_ := c3_66
   simp only [DZ] at c3_66
   exfalso; have hie : i = (feeds L).length := (by omega); have h3 := c3_66; rw [hie, List.take_length, hcnt] at h3; omega
  have c3_66_ := c3_66
  simp only [DZ] at c3_66
  refine Wc.skip <| Wq.next hK_55 <| Wc.seq fun _ hK_67 => Wc.region <| Wl.mv rfl rfl <| Wl.y (y_and rfl rfl) rfl <| Wl.y (y_fieldAddr (fa25_0LpC _) rfl) rfl <| Wl.l (l_load one22LpC rfl (by exact hB_o0.at (j := 0) rfl)) rfl <| Wl.y (y_lenl Tryz.underlying22 (by omega) rfl) rfl <| Wl.y (y_fieldAddr (fa25_1LpC _) rfl) rfl <| Wl.l (l_load one23LpC rfl (by exact hB_o0.at (j := 1) rfl)) rfl <| Wl.y (y_lenl Tryz.underlying23 (by omega) rfl) rfl <| Wl.y (y_addI rfl rfl (by omega) (by omega)) rfl <| Wl.y (y_addI rfl rfl (by omega) (by omega)) rfl <| Wl.y (y_eq (y_rem rfl rfl (by omega)) (int_eq (show _ = (n : Int) by rw [hma, hn]; exact tmod_nat ma ((fewG g).ns.length + (fewG g).es.length + 1)))) rfl <| Wl.sg rfl rfl <| Wl.nil <| Wq.next hK_67 <| Wc.seq fun _ hK_80 => Wc.region <| Wl.sg rfl rfl <| Wl.nil <| Wq.next hK_80 <| Wc.seq fun _ hK_82 => Wc.seq fun _ hK_83 => Wc.region <| Wl.sg rfl rfl <| Wl.nil <| Wq.next hK_83 <| Wc.block <| Wc.loop (X := Nat) (fun j => [(2, .pointer (some ⟨g_o0, 0, none⟩)), (5, .bool true), (6, str (feeds L)), (10, .int .i64 (n : Int)), (11, .int .i64 (pos L j : Int)), (12, .int .i64 (j : Int))]) (fun j wv => j ≤ n ∧ Below w.heap.size w wv ∧ Blk wv g_o0 25 [.slice A (fewG g).ns.length c, .slice B (fewG g).es.length e]) (fun j => n - j) (0) ?_ ?_ ?_
  · exact by repeat first | exact Sub.nil | refine Sub.cons' rfl (by first | rfl | exact int_eq (by omega)) ?_
  · exact ⟨Nat.zero_le _, hb, hB_o0⟩
  rintro j wv hI_86 _ hL_85
  replace hI_86 : j ≤ n ∧ Below w.heap.size w wv ∧ Blk wv g_o0 25 [.slice A (fewG g).ns.length c, .slice B (fewG g).es.length e] := hI_86
  obtain ⟨hj, hb, hB_o0⟩ := hI_86
  show Wc _ _ _ _ _ [(2, .pointer (some ⟨g_o0, 0, none⟩)), (5, .bool true), (6, str (feeds L)), (10, .int .i64 (n : Int)), (11, .int .i64 (pos L j : Int)), (12, .int .i64 (j : Int))] _
  have hG := hG_hb.below hb
  have hL := hL_hb.below hb
  have hzhb_L1 := hb.size
  have hlhB_o0_L1 := hB_o0.lt
  refine Wc.seq fun _ hK_87 => Wc.seq fun _ hK_88 => Wc.region <| Wl.mv rfl rfl <| Wl.mv rfl rfl <| Wl.y (y_lssi rfl rfl) rfl <| Wl.nil <| Wq.next hK_88 <| Wc.cond rfl (fun c4_92 => ?_) (fun c4_92 => ?_)
  ·
   have c4_92_ := c4_92
   simp only [DZ] at c4_92
   have hjn : j < n := by have := c4_92; omega
   have hjl : j < L.length := by omega
   have hps := pos_succ hjl
   have hple := pos_le hjl
   refine Wc.skip <| Wq.next hK_87 <| Wc.seq fun _ hK_93 => Wc.block <| Wc.seq fun _ hK_94 => Wc.block <| Wc.loop (X := Nat) (fun q => [(2, .pointer (some ⟨g_o0, 0, none⟩)), (5, .bool true), (6, str (feeds L)), (10, .int .i64 (n : Int)), (11, .int .i64 ((pos L j + q : Nat) : Int)), (12, .int .i64 (j : Int))]) (fun q wx => q ≤ (L.getD j []).length ∧ Below w.heap.size w wx ∧ Blk wx g_o0 25 [.slice A (fewG g).ns.length c, .slice B (fewG g).es.length e]) (fun q => (L.getD j []).length - q) (0) ?_ ?_ ?_
   · exact by repeat first | exact Sub.nil | refine Sub.cons' rfl (by first | rfl | exact int_eq (by omega)) ?_
   · exact ⟨Nat.zero_le _, hb, hB_o0⟩
   rintro q wx hI_96 _ hL_95
   replace hI_96 : q ≤ (L.getD j []).length ∧ Below w.heap.size w wx ∧ Blk wx g_o0 25 [.slice A (fewG g).ns.length c, .slice B (fewG g).es.length e] := hI_96
   obtain ⟨hq, hb, hB_o0⟩ := hI_96
   show Wc _ _ _ _ _ [(2, .pointer (some ⟨g_o0, 0, none⟩)), (5, .bool true), (6, str (feeds L)), (10, .int .i64 (n : Int)), (11, .int .i64 ((pos L j + q : Nat) : Int)), (12, .int .i64 (j : Int))] _
   have hG := hG_hb.below hb
   have hL := hL_hb.below hb
   have hzhb_L2 := hb.size
   have hlhB_o0_L2 := hB_o0.lt
   refine Wc.seq fun _ hK_97 => Wc.seq fun _ hK_98 => Wc.region <| Wl.mv rfl rfl <| Wl.mv rfl rfl <| Wl.y (y_indexs Tryz.underlying9 rfl rfl (by omega) (by omega)) rfl <| Wl.y (y_neqi rfl rfl) rfl <| Wl.nil <| Wq.next hK_98 <| Wc.cond rfl (fun c5_103 => ?_) (fun c5_103 => ?_)
   ·
    have c5_103_ := c5_103
    simp only [DZ] at c5_103
    have hql : q < (L.getD j []).length := by rcases Nat.lt_or_ge q (L.getD j []).length with h | h; (· exact h); (· exfalso; have he : q = (L.getD j []).length := (by omega); exact c5_103 ((u8_ten _).2 (by rw [Int.toNat_natCast, he]; exact text_end hjl)))
    refine Wc.skip <| Wq.next hK_97 <| Wc.block <| Wc.region <| Wl.mv rfl rfl <| Wl.y (y_addI rfl rfl (by omega) (by omega)) rfl <| Wl.sg rfl rfl <| Wl.nil <| Wq.block_normal <| fun a_ ha_ => hL_95 _ _ (q + 1) (by have hql2 : q < (L.getD j []).length := hql; omega) (by repeat first | exact Sub.nil | refine Sub.cons' rfl (by first | rfl | exact int_eq (by omega)) ?_) ?_ a_ ha_
    exact ⟨(show q + 1 ≤ (L.getD j []).length by omega), hb, hB_o0⟩
   have c5_103_ := c5_103
   simp only [DZ] at c5_103
   have hqe : q = (L.getD j []).length := by rcases Nat.lt_or_ge q (L.getD j []).length with h | h; (· exfalso; have h2 := (u8_ten _).1 c5_103; rw [Int.toNat_natCast] at h2; exact text_in hjl hL10 h h2); (· omega)
   refine Wc.exit <| Wq.then_exit <| Wq.then_exit <| Wq.block_exit <| Wq.next hK_94 <| Wc.region <| Wl.mv rfl rfl <| Wl.y (y_addI rfl rfl (by omega) (by omega)) rfl <| Wl.sg rfl rfl <| Wl.nil <| Wq.block_normal <| Wq.next hK_93 <| Wc.region <| Wl.mv rfl rfl <| Wl.y (y_addI rfl rfl (by omega) (by omega)) rfl <| Wl.sg rfl rfl <| Wl.nil <| fun a_ ha_ => hL_85 _ _ (j + 1) (by omega) (by repeat first | exact Sub.nil | refine Sub.cons' rfl (by first | rfl | exact int_eq (by omega)) ?_) ?_ a_ ha_
   exact ⟨(show j + 1 ≤ n by omega), hb, hB_o0⟩
  have c4_92_ := c4_92
  simp only [DZ] at c4_92
  have hje : j = n := by have := c4_92; omega
  have hpn : pos L j ≤ (feeds L).length := by unfold pos; rw [← text_take]; rw [List.length_take]; exact Nat.min_le_right _ _
  have htk : (feeds L).take (pos L j) = feeds (L.take n) := by rw [text_take, hje]
  have hld := load_take hrg n
  rw [← hLe] at hld
  have hll : (feeds (L.take n)).length < 4294967281 := by rw [← htk, List.length_take]; omega
  refine Wc.exit <| Wq.then_exit <| Wq.then_exit <| Wq.block_exit <| Wq.next hK_82 <| Wc.seq fun _ hK_113 => Wc.region <| Wl.mv rfl rfl <| Wl.mv rfl rfl <| Wl.y (y_eq (y_slicesH Tryz.underlying9 rfl rfl (by omega) (by omega)) (str_eq (by rw [Int.toNat_natCast, htk]))) rfl <| Wl.bytesN Tryz.underlying9 Tryz.underlying33 Tryz.underlying5 rfl rfl ?_
  rintro g_o59 c_o59 w_o59 hg_o59 hl_o59 hn_o59 hs_o59
  have hz_o59 := hs_o59.size
  have hb := hb.trans (hs_o59.mono hb.size)
  have hG := hG_hb.below hb
  have hL := hL_hb.below hb
  have hB_o0 := Blk.below hB_o0 hs_o59
  have hR_o59 := hn_o59
  refine Wl.call txt19LpC rfl rfl (LParse_r _ _ _ (feeds (L.take n)) _ hR_o59 rfl hll hL) rfl ?_
  rintro _ w_k3 ⟨⟨A1, c1, A2, c2, rfl, hG1⟩, hs_k3⟩
  have hz_k3 := hs_k3.size
  have hb := hb.trans (hs_k3.mono hb.size)
  have hG := hG_hb.below hb
  have hL := hL_hb.below hb
  have hB_o0 := Blk.below hB_o0 hs_k3
  rw [hld] at hG1 ⊢
  dsimp only at hG1 ⊢
  refine Wl.mv rfl rfl <| Wl.y (y_extract rfl rfl) rfl <| Wl.y (y_extract rfl rfl) rfl <| Wl.y (y_extract rfl rfl) rfl <| Wl.allocN (z := (.agg #[(.slice none 0 0), (.slice none 0 0)])) (by kernel_rfl) rfl ?_
  rintro g_o64 w_o64 hg_o64 hn_o64 hs_o64
  have hz_o64 := hs_o64.size
  have hb := hb.trans (hs_o64.mono hb.size)
  have hG := hG_hb.below hb
  have hL := hL_hb.below hb
  have hB_o0 := Blk.below hB_o0 hs_o64
  have hG1 := GIn.below hG1 hs_o64
  have hB_o64 := hn_o64
  have hl_o64 := hB_o64.lt
  refine Wl.storeS (by kernel_rfl) rfl rfl hB_o64 rfl rfl ?_
  rintro w_s1 hn_s1 hg_s1
  have hz_s1 := hg_s1.size
  have hb := below_blk hb hg_s1 hb.size (by omega)
  have hG := hG_hb.below hb
  have hL := hL_hb.below hb
  have hB_o0 := hB_o0.over hg_s1 (by omega)
  have hG1 := hG1.over hg_s1 (by omega)
  have hB_o64 := hn_s1
  refine Wl.sg rfl rfl <| Wl.sg rfl rfl <| Wl.nil <| Wq.next hK_113 <| Wc.seq fun _ hK_126 => Wc.any (n := 20) (fun w' => Below w.heap.size w w' ∧ Blk w' g_o0 25 [.slice A (fewG g).ns.length c, .slice B (fewG g).es.length e]) #[false, false, false, false, false, false, false, false, false, false, false, false, false, false, false, false, false, false, false, false] (by kernel_rfl) rfl (by kernel_rfl) <| Wa.drew ?_
  rintro w_g23 hs_g23
  have hz_g23 := hs_g23.size
  have hb := hb.trans (hs_g23.mono hb.size)
  have hG := hG_hb.below hb
  have hL := hL_hb.below hb
  have hB_o0 := Blk.below hB_o0 hs_g23
  have hG1 := GIn.below hG1 hs_g23
  have hB_o64 := Blk.below hB_o64 hs_g23
  refine Wa.take (i := 0) #[true, false, false, false, false, false, false, false, false, false, false, false, false, false, false, false, false, false, false, false] rfl (by kernel_rfl) (fun _ _ _ h => h) rfl (fun wq hq => Yl.ld (y_fieldAddr (fa25_0LpC _) rfl)) ⟨hb, hB_o0⟩ <| Wa.take (i := 1) #[true, true, false, false, false, false, false, false, false, false, false, false, false, false, false, false, false, false, false, false] rfl (by kernel_rfl) (fun _ _ _ h => h) rfl (fun wq hq => l_load one22LpC rfl (by obtain ⟨hq, hB_o0⟩ := hq; exact hB_o0.at (j := 0) rfl)) ⟨hb, hB_o0⟩ <| Wa.take (i := 2) #[true, true, true, false, false, false, false, false, false, false, false, false, false, false, false, false, false, false, false, false] rfl (by kernel_rfl) (fun _ _ _ h => h) rfl (fun wq hq => Yl.ld (y_move rfl)) ⟨hb, hB_o0⟩ <| Wa.take (i := 3) #[true, true, true, true, false, false, false, false, false, false, false, false, false, false, false, false, false, false, false, false] rfl (by kernel_rfl) (fun _ _ _ h => h) rfl (fun wq hq => Yl.ld (y_fieldAddr (fa25_0LpC _) rfl)) ⟨hb, hB_o0⟩ <| Wa.take (i := 4) #[true, true, true, true, true, false, false, false, false, false, false, false, false, false, false, false, false, false, false, false] rfl (by kernel_rfl) (fun _ _ _ h => h) rfl (fun wq hq => l_load one22LpC rfl (by obtain ⟨hq, hB_o0⟩ := hq; exact hB_o0.at (j := 0) rfl)) ⟨hb, hB_o0⟩ <| Wa.take (i := 5) #[true, true, true, true, true, true, false, false, false, false, false, false, false, false, false, false, false, false, false, false] rfl (by kernel_rfl) (fun _ _ _ h => h) rfl (fun wq hq => Yl.ld (y_lenl Tryz.underlying22 (by omega) rfl)) ⟨hb, hB_o0⟩ <| Wa.take (i := 6) #[true, true, true, true, true, true, true, false, false, false, false, false, false, false, false, false, false, false, false, false] rfl (by kernel_rfl) (fun _ _ _ h => h) rfl (fun wq hq => Yl.ld (y_min rfl rfl)) ⟨hb, hB_o0⟩ <| Wa.take (i := 7) #[true, true, true, true, true, true, true, true, false, false, false, false, false, false, false, false, false, false, false, false] rfl (by kernel_rfl) (fun _ _ _ h => h) rfl (fun wq hq => Yl.ld (y_eq (y_slicelH Tryz.underlying22 sz47LpC rfl rfl (by omega) (by omega)) (congrArg (fun k => Value.slice A k c) (show (min (n : Int) ((fewG g).ns.length : Int)).toNat = (wantG n (fewG g)).ns.length by unfold wantG; rw [List.length_take]; omega)))) ⟨hb, hB_o0⟩ <| Wa.take (i := 8) #[true, true, true, true, true, true, true, true, true, false, false, false, false, false, false, false, false, false, false, false] rfl (by kernel_rfl) (fun _ _ _ h => h) rfl (fun wq hq => Yl.ld (y_fieldAddr (fa25_1LpC _) rfl)) ⟨hb, hB_o0⟩ <| Wa.take (i := 9) #[true, true, true, true, true, true, true, true, true, true, false, false, false, false, false, false, false, false, false, false] rfl (by kernel_rfl) (fun _ _ _ h => h) rfl (fun wq hq => l_load one23LpC rfl (by obtain ⟨hq, hB_o0⟩ := hq; exact hB_o0.at (j := 1) rfl)) ⟨hb, hB_o0⟩ <| Wa.take (i := 10) #[true, true, true, true, true, true, true, true, true, true, true, false, false, false, false, false, false, false, false, false] rfl (by kernel_rfl) (fun _ _ _ h => h) rfl (fun wq hq => Yl.ld (y_move rfl)) ⟨hb, hB_o0⟩ <| Wa.take (i := 11) #[true, true, true, true, true, true, true, true, true, true, true, true, false, false, false, false, false, false, false, false] rfl (by kernel_rfl) (fun _ _ _ h => h) rfl (fun wq hq => Yl.ld (y_fieldAddr (fa25_0LpC _) rfl)) ⟨hb, hB_o0⟩ <| Wa.take (i := 12) #[true, true, true, true, true, true, true, true, true, true, true, true, true, false, false, false, false, false, false, false] rfl (by kernel_rfl) (fun _ _ _ h => h) rfl (fun wq hq => l_load one22LpC rfl (by obtain ⟨hq, hB_o0⟩ := hq; exact hB_o0.at (j := 0) rfl)) ⟨hb, hB_o0⟩ <| Wa.take (i := 13) #[true, true, true, true, true, true, true, true, true, true, true, true, true, true, false, false, false, false, false, false] rfl (by kernel_rfl) (fun _ _ _ h => h) rfl (fun wq hq => Yl.ld (y_lenl Tryz.underlying22 (by omega) rfl)) ⟨hb, hB_o0⟩ <| Wa.take (i := 14) #[true, true, true, true, true, true, true, true, true, true, true, true, true, true, true, false, false, false, false, false] rfl (by kernel_rfl) (fun _ _ _ h => h) rfl (fun wq hq => Yl.ld (y_subI rfl rfl (by omega) (by omega))) ⟨hb, hB_o0⟩ <| Wa.take (i := 15) #[true, true, true, true, true, true, true, true, true, true, true, true, true, true, true, true, false, false, false, false] rfl (by kernel_rfl) (fun _ _ _ h => h) rfl (fun wq hq => Yl.ld (y_max rfl rfl)) ⟨hb, hB_o0⟩ <| Wa.take (i := 16) #[true, true, true, true, true, true, true, true, true, true, true, true, true, true, true, true, true, false, false, false] rfl (by kernel_rfl) (fun _ _ _ h => h) rfl (fun wq hq => Yl.ld (y_eq (y_slicelH Tryz.underlying23 sz54LpC rfl rfl (by omega) (by omega)) (congrArg (fun k => Value.slice B k e) (show (max 0 ((n : Int) - ((fewG g).ns.length : Int))).toNat = (wantG n (fewG g)).es.length by unfold wantG; rw [List.length_take]; omega)))) ⟨hb, hB_o0⟩ <| Wa.take (i := 17) #[true, true, true, true, true, true, true, true, true, true, true, true, true, true, true, true, true, true, false, false] rfl (by kernel_rfl) (fun _ _ _ h => h) rfl (fun wq hq => Yl.ld (y_buildS (z := [(.slice none 0 0), (.slice none 0 0)]) (pl := [(0, 1), (1, 1)]) (cs := [_, _]) Tryz.underlying25 (by kernel_rfl) (by kernel_rfl) rfl rfl rfl)) ⟨hb, hB_o0⟩ <| Wa.some (rs := [18]) (by kernel_rfl) rfl <| Ws.cons #[true, true, true, true, true, true, true, true, true, true, true, true, true, true, true, true, true, true, true, false] rfl rfl (fun _ hK_145 => ?_) ?_
  ·
   refine Wl.allocN (z := (.agg #[(.slice none 0 0), (.slice none 0 0)])) (by kernel_rfl) rfl ?_
   rintro g_o75 w_o75 hg_o75 hn_o75 hs_o75
   have hz_o75 := hs_o75.size
   have hb := hb.trans (hs_o75.mono hb.size)
   have hG := hG_hb.below hb
   have hL := hL_hb.below hb
   have hB_o0 := Blk.below hB_o0 hs_o75
   have hG1 := GIn.below hG1 hs_o75
   have hB_o64 := Blk.below hB_o64 hs_o75
   have hB_o75 := hn_o75
   have hl_o75 := hB_o75.lt
   refine Wl.nil <| Wq.back hK_145 ⟨hb, hB_o0⟩ <| Wa.some (rs := [19]) (by kernel_rfl) rfl <| Ws.cons #[true, true, true, true, true, true, true, true, true, true, true, true, true, true, true, true, true, true, true, true] rfl rfl (fun _ hK_147 => ?_) ?_
   ·
    refine Wl.storeS (by kernel_rfl) rfl rfl hB_o75 rfl rfl ?_
    rintro w_s2 hn_s2 hg_s2
    have hz_s2 := hg_s2.size
    have hb := below_blk hb hg_s2 hb.size (by omega)
    have hG := hG_hb.below hb
    have hL := hL_hb.below hb
    have hB_o0 := hB_o0.over hg_s2 (by omega)
    have hG1 := hG1.over hg_s2 (by omega)
    have hB_o64 := hB_o64.over hg_s2 (by omega)
    have hB_o75 := hn_s2
    refine Wl.nil <| Wq.back hK_147 ⟨hb, hB_o0⟩ <| Wa.done (by kernel_rfl) <| Wq.next hK_126 <| Wc.seq fun _ hK_148 => Wc.region <| Wl.mv rfl rfl <| Wl.mv rfl rfl <| Wl.guardT rfl rfl rfl (fun g_151 => ?_) (fun g_151 => ?_)
    ·
     have g_151_ := g_151
     simp only [DZ] at g_151
     refine Wl.mv rfl rfl <| Wl.on' rfl rfl g_151_ <| Wl.y (y_eqli rfl rfl) rfl <| Wl.y (y_pickT rfl g_151_ rfl) rfl <| Wl.mv rfl rfl <| Wl.guardT rfl rfl rfl (fun g_156 => ?_) (fun g_156 => ?_)
     ·
      have g_156_ := g_156
      simp only [DZ] at g_156
      refine Wl.l (l_loadS Tryz.underlying25 (by kernel_rfl) rfl (by exact fun j u hu => hB_o64.at hu)) rfl <| Wl.on' rfl rfl g_156_ <| Wl.l (l_loadS Tryz.underlying25 (by kernel_rfl) rfl (by exact fun j u hu => hB_o75.at hu)) rfl <| Wl.on' rfl rfl g_156_ <| Wl.call txt17LpC rfl rfl (GSame_r _ A1 c1 A2 c2 (wantG n (fewG g)) S A c B e (wantG n (fewG g)) _ hG1.gat (hG.want n) (Nat.le_trans (wantG_sz n (fewG g)) (by omega)) (Nat.le_trans (wantG_sz n (fewG g)) (by omega))) rfl ?_
      rintro _ w_k4 ⟨rfl, hs_k4⟩
      have hz_k4 := hs_k4.size
      have hb := hb.trans (hs_k4.mono hb.size)
      have hG := hG_hb.below hb
      have hL := hL_hb.below hb
      have hG1 := GIn.below hG1 hs_k4
      refine Wl.y (y_pickT rfl g_156_ rfl) rfl <| Wl.sg rfl rfl <| Wl.nil <| Wq.next hK_148 <| Wc.ret <| ret1 rfl rfl ?_
      exact ⟨_, rfl, bool_eq (by rw [sameG_refl]), hb⟩
     have g_156_ := g_156
     simp only [DZ] at g_156
     exact absurd g_156_ (by simp)
    have g_151_ := g_151
    exact absurd g_151_ (by simp)
   exact Ws.nil
  exact Ws.nil
end Go.Proofs.YtobhpejaoakpmaaGreatDoor
