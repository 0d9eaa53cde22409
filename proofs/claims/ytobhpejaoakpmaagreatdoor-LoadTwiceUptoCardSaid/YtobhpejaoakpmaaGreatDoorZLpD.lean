/- LoadTwice, by the calculus. -/
import Derived.Test.YtobhpejaoakpmaaGreatDoorZLpB
import Derived.Test.YtobhpejaoakpmaaGreatDoorZLT
namespace Go.Proofs.YtobhpejaoakpmaaGreatDoor
open Go.RowKit Go.Bw Go.Bw.Fl
set_option linter.unusedVariables false
set_option linter.unusedSimpArgs false
theorem fa25_0LpD (p : Addr) (w : World) : (Instr.fieldAt 25 (.pointer (some p)) 0).run Tryz.prog w = .ok (.pointer (some (p.add 0))) w := run_fieldAt (i := 0) (sz := 0) Tryz.underlying25 rfl (by kernel_rfl) p w
theorem fa25_1LpD (p : Addr) (w : World) : (Instr.fieldAt 25 (.pointer (some p)) 1).run Tryz.prog w = .ok (.pointer (some (p.add 1))) w := run_fieldAt (i := 1) (sz := 0) Tryz.underlying25 rfl (by kernel_rfl) p w
theorem one22LpD : One Tryz.prog 22 := ⟨_, Tryz.underlying22, rfl, by kernel_rfl⟩
theorem one23LpD : One Tryz.prog 23 := ⟨_, Tryz.underlying23, rfl, by kernel_rfl⟩
theorem txt18LpD : Txt Tryz.prog 18 := ⟨_, Tryz.func18, by kernel_rfl, rfl⟩   -- bridleway/bridlewaylaw08.shown
theorem txt19LpD : Txt Tryz.prog 19 := ⟨_, Tryz.func19, by kernel_rfl, rfl⟩   -- bridleway/load.Parse
theorem txt21LpD : Txt Tryz.prog 21 := ⟨_, Tryz.func21, by kernel_rfl, rfl⟩   -- bridleway/bridlewaylaw08.few
theorem txt22LpD : Txt Tryz.prog 22 := ⟨_, Tryz.func22, by kernel_rfl, rfl⟩   -- bridleway/load.Print
theorem print_le2 {S : Nat → Prop} {w : World} {A B : Option Addr} {c e : Nat} {g : GV} (hG : GAt S w A c B e g) (h : rightG g = 0) : (printG g).length ≤ 2100 * szG g + 40000 := by
  obtain ⟨h1, h2, h3⟩ := rightG_zero h
  have := print_len hG.oks hG.oke h3 h1 h2
  unfold printG; rw [List.length_append]; exact this
theorem line_len {S : Nat → Prop} {w : World} {A B : Option Addr} {c e : Nat} {g : GV} (hG : GAt S w A c B e g) (h : rightG g = 0) {i : Nat} (hi : i < (linesG g).length) : ((linesG g).getD i []).length ≤ 66 * szG g + 40 := by
  obtain ⟨_, _, h3⟩ := rightG_zero h
  rw [getD_at [] hi]
  have hm := List.getElem_mem hi
  generalize (linesG g)[i] = l at hm ⊢
  rcases List.mem_append.1 hm with h1 | h1
  · obtain ⟨d, hd, rfl⟩ := List.mem_map.1 h1
    obtain ⟨k, hk, rfl⟩ := List.getElem_of_mem hd
    have h4 := nodeL_len (hG.oks _ hd) (by have := okG_n h3 hk; rwa [getD_at nd0 hk] at this)
    have h5 := szG_n hk
    rw [getD_at nd0 hk] at h5
    rw [nodeL_K, List.length_append] at h4
    simp only [List.length_cons, List.length_nil] at h4
    omega
  · obtain ⟨d, hd, rfl⟩ := List.mem_map.1 h1
    obtain ⟨k, hk, rfl⟩ := List.getElem_of_mem hd
    have h4 := edgeL_len (g := g) (hG.oke _ hd) (by have := okG_e h3 hk; rwa [getD_at ed0 hk] at this)
    have h5 := szG_e hk
    rw [getD_at ed0 hk] at h5
    rw [edgeL_K, List.length_append] at h4
    simp only [List.length_cons, List.length_nil] at h4
    omega
theorem LoadTwice_r (S : Nat → Prop) (A : Option Addr) (c : Nat) (B : Option Addr) (e : Nat) (g : GV) (a : Int) (w : World) (hG0 : GAt S w A c B e g) (hsz0 : szG g ≤ 1048576) (hL : Lb w) :
    Ret Tryz.prog 11 [.agg #[.slice A g.ns.length c, .slice B g.es.length e], .int .i64 a] w fun v w' => v = .bool true ∧ Below w.heap.size w w' := by
  have hnl := szG_nlen g
  have hel := szG_elen g
  have hG := hG0.few
  have hsz := Nat.le_trans (fewG_sz g) hsz0
  obtain ⟨ma, hma⟩ := mask65535 a
  have l1 : (fewG g).ns.length ≤ 30 := by unfold fewG; rw [List.length_take]; omega
  have l2 : (fewG g).es.length ≤ 30 := by unfold fewG; rw [List.length_take]; omega
  obtain ⟨N, hN⟩ : ∃ N, N = (fewG g).ns.length + (fewG g).es.length := ⟨_, rfl⟩
  obtain ⟨n, hn⟩ : ∃ n, n = ma % N := ⟨_, rfl⟩
  have hb := Below.refl w.heap.size w
  have hG_hb := hG
  have hL_hb := hL
  refine enter Tryz.func11 rfl rfl rfl <| Wc.seq fun _ hK_1 => Wc.region <| Wl.boxN rfl rfl ?_
  rintro g_o0 w_o0 hg_o0 hn_o0 hs_o0
  have hz_o0 := hs_o0.size
  have hb := hb.trans (hs_o0.mono hb.size)
  have hG := hG_hb.below hb
  have hL := hL_hb.below hb
  have hB_o0 := hn_o0
  have hl_o0 := hB_o0.lt
  refine Wl.sg rfl rfl <| Wl.nil <| Wq.next hK_1 <| Wc.seq fun _ hK_4 => Wc.region <| Wl.call txt18LpD rfl rfl (shown8_r _ hL) rfl ?_
  rintro _ w_k0 ⟨rfl, hs_k0⟩
  have hz_k0 := hs_k0.size
  have hb := hb.trans (hs_k0.mono hb.size)
  have hG := hG_hb.below hb
  have hL := hL_hb.below hb
  have hB_o0 := Blk.below hB_o0 hs_k0
  refine Wl.sg rfl rfl <| Wl.nil <| Wq.next hK_4 <| Wc.seq fun _ hK_7 => Wc.region <| Wl.l (l_loadS Tryz.underlying25 (by kernel_rfl) rfl (by exact fun j u hu => hB_o0.at hu)) rfl <| Wl.call txt21LpD rfl rfl (few8_r A c B e g _ hG0.nc hG0.ec (by omega) (by omega)) rfl ?_
  rintro _ w_k1 ⟨rfl, hs_k1⟩
  have hz_k1 := hs_k1.size
  have hb := hb.trans (hs_k1.mono hb.size)
  have hG := hG_hb.below hb
  have hL := hL_hb.below hb
  have hB_o0 := Blk.below hB_o0 hs_k1
  refine Wl.storeS (by kernel_rfl) rfl rfl hB_o0 rfl rfl ?_
  rintro w_s0 hn_s0 hg_s0
  have hz_s0 := hg_s0.size
  have hb := below_blk hb hg_s0 hb.size (by omega)
  have hG := hG_hb.below hb
  have hL := hL_hb.below hb
  have hB_o0 := hn_s0
  refine Wl.nil <| Wq.next hK_7 <| Wc.seq fun _ hK_10 => Wc.region <| Wl.l (l_loadS Tryz.underlying25 (by kernel_rfl) rfl (by exact fun j u hu => hB_o0.at hu)) rfl <| Wl.call txt22LpD rfl rfl (GPrint_r S A c B e (fewG g) _ hG (by omega) hL) rfl ?_
  rintro _ w_k2 ⟨rfl, hs_k2⟩
  have hz_k2 := hs_k2.size
  have hb := hb.trans (hs_k2.mono hb.size)
  have hG := hG_hb.below hb
  have hL := hL_hb.below hb
  have hB_o0 := Blk.below hB_o0 hs_k2
  refine Wl.mv rfl rfl <| Wl.y (y_extract rfl rfl) rfl <| Wl.y (y_extract rfl rfl) rfl <| Wl.sg rfl rfl <| Wl.sg rfl rfl <| Wl.nil <| Wq.next hK_10 <| Wc.seq fun _ hK_18 => Wc.region <| Wl.y (y_fieldAddr (fa25_0LpD _) rfl) rfl <| Wl.l (l_load one22LpD rfl (by exact hB_o0.at (j := 0) rfl)) rfl <| Wl.y (y_lenl Tryz.underlying22 (by omega) rfl) rfl <| Wl.y (y_fieldAddr (fa25_1LpD _) rfl) rfl <| Wl.l (l_load one23LpD rfl (by exact hB_o0.at (j := 1) rfl)) rfl <| Wl.y (y_lenl Tryz.underlying23 (by omega) rfl) rfl <| Wl.y (y_eq (y_addI rfl rfl (by omega) (by omega)) (int_eq (show _ = (N : Int) by rw [hN]; rfl))) rfl <| Wl.sg rfl rfl <| Wl.nil <| Wq.next hK_18 <| Wc.seq fun _ hK_27 => Wc.seq fun _ hK_28 => Wc.meet (X := Bool) (fun z => [(1, .int .i64 a), (2, .pointer (some ⟨g_o0, 0, none⟩)), (5, .bool true), (6, str (if rightG (fewG g) = 0 then printG (fewG g) else [])), (8, .int .i64 (N : Int)), (37, .bool z)]) (fun z wy => z = decide (rightG (fewG g) ≠ 0 ∨ N = 0) ∧ Below w.heap.size w wy ∧ Blk wy g_o0 25 [.slice A (fewG g).ns.length c, .slice B (fewG g).es.length e]) (fun _ hM_29 => ?_) ?_
  ·
   refine Wc.region <| Wl.mv rfl rfl <| Wl.y (y_neqi rfl rfl) rfl <| Wl.mv rfl rfl <| Wl.guardF rfl rfl rfl (fun g_33 => ?_) (fun g_33 => ?_)
   ·
    have g_33_ := g_33
    simp only [DZ] at g_33
    refine Wl.off' rfl rfl g_33_ rfl rfl <| Wl.y (y_pickT rfl g_33_ rfl) rfl <| Wl.nil <| Wq.meet hM_29 (decide (rightG (fewG g) ≠ 0 ∨ N = 0)) (by repeat first | exact Sub.nil | refine Sub.cons' rfl (by first | rfl | exact bool_eq (by clear hN l1 l2; rw [Bool.eq_iff_iff]; simp_all; try omega)) ?_) ?_
    exact ⟨rfl, hb, hB_o0⟩
   have g_33_ := g_33
   simp only [DZ] at g_33
   refine Wl.mv rfl rfl <| Wl.on' rfl rfl g_33_ <| Wl.y (y_eqli rfl rfl) rfl <| Wl.y (y_pickF rfl g_33_ rfl) rfl <| Wl.nil <| Wq.meet hM_29 (decide (rightG (fewG g) ≠ 0 ∨ N = 0)) (by repeat first | exact Sub.nil | refine Sub.cons' rfl (by first | rfl | exact bool_eq (by clear hN l1 l2; rw [Bool.eq_iff_iff]; simp_all; try omega)) ?_) ?_
   exact ⟨rfl, hb, hB_o0⟩
  rintro z wy hI_38
  replace hI_38 : z = decide (rightG (fewG g) ≠ 0 ∨ N = 0) ∧ Below w.heap.size w wy ∧ Blk wy g_o0 25 [.slice A (fewG g).ns.length c, .slice B (fewG g).es.length e] := hI_38
  obtain ⟨hz, hb, hB_o0⟩ := hI_38
  show Wq _ _ _ _ [(1, .int .i64 a), (2, .pointer (some ⟨g_o0, 0, none⟩)), (5, .bool true), (6, str (if rightG (fewG g) = 0 then printG (fewG g) else [])), (8, .int .i64 (N : Int)), (37, .bool z)] _
  have hG := hG_hb.below hb
  have hL := hL_hb.below hb
  have hzhb_g5 := hb.size
  have hlhB_o0_g5 := hB_o0.lt
  refine Wq.next hK_28 <| Wc.cond rfl (fun c0_39 => ?_) (fun c0_39 => ?_)
  ·
   have c0_39_ := c0_39
   refine Wc.seq fun _ hK_40 => Wc.region <| Wl.mv rfl rfl <| Wl.sg rfl rfl <| Wl.nil <| Wq.next hK_40 <| Wc.ret <| Wq.then_ret <| ret1 rfl rfl ?_
   exact ⟨_, rfl, rfl, hb⟩
  have c0_39_ := c0_39
  have hboth : ¬ (rightG (fewG g) ≠ 0 ∨ N = 0) := by have h := c0_39_; rw [hz] at h; exact of_decide_eq_false h
  have h0 : rightG (fewG g) = 0 := by rcases Int.decEq (rightG (fewG g)) 0 with h | h; (· exact absurd (.inl h) hboth); (· exact h)
  have hN0 : N ≠ 0 := fun h => hboth (.inr h)
  have hnN : n < N := by rw [hn]; exact Nat.mod_lt _ (by omega)
  have hpl := print_le hG h0 hsz
  have hrg := rg_of h0 hG.oks hG.oke
  rw [if_pos h0]
  obtain ⟨L, hLe⟩ : ∃ L, L = linesG (fewG g) := ⟨_, rfl⟩
  have hLl : L.length = N := by rw [hLe, hN]; exact linesG_len _
  have hL10 : ∀ l ∈ L, (10 : UInt8) ∉ l := by rw [hLe]; exact lines_no10 hrg
  have hpr : printG (fewG g) = feeds L := by rw [hLe]; exact printG_lines _
  rw [hpr] at hpl ⊢
  have hcnt := count_feeds hL10
  refine Wc.skip <| Wq.next hK_27 <| Wc.seq fun _ hK_43 => Wc.region <| Wl.sg rfl rfl <| Wl.nil <| Wq.next hK_43 <| Wc.seq fun _ hK_45 => Wc.seq fun _ hK_46 => Wc.region <| Wl.sg rfl rfl <| Wl.nil <| Wq.next hK_46 <| Wc.block <| Wc.loop (X := Nat) (fun i => [(1, .int .i64 a), (2, .pointer (some ⟨g_o0, 0, none⟩)), (5, .bool true), (6, str (feeds L)), (8, .int .i64 (N : Int)), (9, .int .i64 (((feeds L).take i).count 10 : Int)), (10, .int .i64 (i : Int))]) (fun i wr => i ≤ (feeds L).length ∧ Below w.heap.size w wr ∧ Blk wr g_o0 25 [.slice A (fewG g).ns.length c, .slice B (fewG g).es.length e]) (fun i => (feeds L).length - i) (0) ?_ ?_ ?_
  · exact by repeat first | exact Sub.nil | refine Sub.cons' rfl (by first | rfl | exact int_eq (by omega)) ?_
  · exact ⟨Nat.zero_le _, hb, hB_o0⟩
  rintro i wr hI_49 _ hL_48
  replace hI_49 : i ≤ (feeds L).length ∧ Below w.heap.size w wr ∧ Blk wr g_o0 25 [.slice A (fewG g).ns.length c, .slice B (fewG g).es.length e] := hI_49
  obtain ⟨hi, hb, hB_o0⟩ := hI_49
  show Wc _ _ _ _ _ [(1, .int .i64 a), (2, .pointer (some ⟨g_o0, 0, none⟩)), (5, .bool true), (6, str (feeds L)), (8, .int .i64 (N : Int)), (9, .int .i64 (((feeds L).take i).count 10 : Int)), (10, .int .i64 (i : Int))] _
  have hG := hG_hb.below hb
  have hL := hL_hb.below hb
  have hzhb_L0 := hb.size
  have hlhB_o0_L0 := hB_o0.lt
  refine Wc.seq fun _ hK_50 => Wc.seq fun _ hK_51 => Wc.region <| Wl.mv rfl rfl <| Wl.mv rfl rfl <| Wl.y (y_lens Tryz.underlying9 (by omega) rfl) rfl <| Wl.y (y_lssi rfl rfl) rfl <| Wl.nil <| Wq.next hK_51 <| Wc.cond rfl (fun c1_56 => ?_) (fun c1_56 => ?_)
  ·
   have c1_56_ := c1_56
   simp only [DZ] at c1_56
   have hil : i < (feeds L).length := by have := c1_56; omega
   have hcs := cnt_succ hil
   have hcl : ((feeds L).take i).count 10 ≤ i := Nat.le_trans List.count_le_length (by rw [List.length_take]; omega)
   refine Wc.skip <| Wq.next hK_50 <| Wc.seq fun _ hK_57 => Wc.block <| Wc.seq fun _ hK_58 => Wc.region <| Wl.mv rfl rfl <| Wl.mv rfl rfl <| Wl.y (y_indexs Tryz.underlying9 rfl rfl (by omega) (by omega)) rfl <| Wl.y (y_eqli rfl rfl) rfl <| Wl.nil <| Wq.next hK_58 <| Wc.meet (X := Unit) (fun u_ => [(1, .int .i64 a), (2, .pointer (some ⟨g_o0, 0, none⟩)), (5, .bool true), (6, str (feeds L)), (8, .int .i64 (N : Int)), (9, .int .i64 (((feeds L).take (i + 1)).count 10 : Int)), (10, .int .i64 (i : Int))]) (fun u_ wm => Below w.heap.size w wm ∧ Blk wm g_o0 25 [.slice A (fewG g).ns.length c, .slice B (fewG g).es.length e]) (fun _ hM_63 => ?_) ?_
   ·
    refine Wc.cond rfl (fun c2_64 => ?_) (fun c2_64 => ?_)
    ·
     have c2_64_ := c2_64
     simp only [DZ] at c2_64
     have hu := (u8_ten _).1 c2_64
     rw [Int.toNat_natCast] at hu
     rw [if_pos hu] at hcs
     refine Wc.region <| Wl.mv rfl rfl <| Wl.y (y_addI rfl rfl (by omega) (by omega)) rfl <| Wl.sg rfl rfl <| Wl.nil <| Wq.meet hM_63 (()) (by repeat first | exact Sub.nil | refine Sub.cons' rfl (by first | rfl | exact int_eq (by omega)) ?_) ?_
     exact ⟨hb, hB_o0⟩
    have c2_64_ := c2_64
    simp only [DZ] at c2_64
    rw [if_neg (fun h => c2_64 ((u8_ten _).2 (by rw [Int.toNat_natCast]; exact h)))] at hcs
    refine Wc.skip <| Wq.meet hM_63 (()) (by repeat first | exact Sub.nil | refine Sub.cons' rfl (by first | rfl | exact int_eq (by omega)) ?_) ?_
    exact ⟨hb, hB_o0⟩
   rintro u_ wm hI_68
   replace hI_68 : Below w.heap.size w wm ∧ Blk wm g_o0 25 [.slice A (fewG g).ns.length c, .slice B (fewG g).es.length e] := hI_68
   obtain ⟨hb, hB_o0⟩ := hI_68
   show Wq _ _ _ _ [(1, .int .i64 a), (2, .pointer (some ⟨g_o0, 0, none⟩)), (5, .bool true), (6, str (feeds L)), (8, .int .i64 (N : Int)), (9, .int .i64 (((feeds L).take (i + 1)).count 10 : Int)), (10, .int .i64 (i : Int))] _
   have hG := hG_hb.below hb
   have hL := hL_hb.below hb
   have hzhb_c2 := hb.size
   have hlhB_o0_c2 := hB_o0.lt
   refine Wq.block_normal <| Wq.next hK_57 <| Wc.region <| Wl.mv rfl rfl <| Wl.y (y_addI rfl rfl (by omega) (by omega)) rfl <| Wl.sg rfl rfl <| Wl.nil <| fun a_ ha_ => hL_48 _ _ (i + 1) (by omega) (by repeat first | exact Sub.nil | refine Sub.cons' rfl (by first | rfl | exact int_eq (by omega)) ?_) ?_ a_ ha_
   exact ⟨(show i + 1 ≤ (feeds L).length by omega), hb, hB_o0⟩
  have c1_56_ := c1_56
  simp only [DZ] at c1_56
  refine Wc.exit <| Wq.then_exit <| Wq.then_exit <| Wq.block_exit <| Wq.next hK_45 <| Wc.seq fun _ hK_72 => Wc.seq fun _ hK_73 => Wc.region <| Wl.mv rfl rfl <| Wl.y (y_fieldAddr (fa25_0LpD _) rfl) rfl <| Wl.l (l_load one22LpD rfl (by exact hB_o0.at (j := 0) rfl)) rfl <| Wl.y (y_lenl Tryz.underlying22 (by omega) rfl) rfl <| Wl.y (y_fieldAddr (fa25_1LpD _) rfl) rfl <| Wl.l (l_load one23LpD rfl (by exact hB_o0.at (j := 1) rfl)) rfl <| Wl.y (y_lenl Tryz.underlying23 (by omega) rfl) rfl <| Wl.y (y_addI rfl rfl (by omega) (by omega)) rfl <| Wl.y (y_lssi rfl rfl) rfl <| Wl.nil <| Wq.next hK_73 <| Wc.cond rfl (fun c3_83 => ?_) (fun c3_83 => ?_)
  ·
   have c3_83_ := c3_83
   simp only [DZ] at c3_83
   exfalso; have hie : i = (feeds L).length := (by omega); have h3 := c3_83; rw [hie, List.take_length, hcnt] at h3; omega
  have c3_83_ := c3_83
  simp only [DZ] at c3_83
  refine Wc.skip <| Wq.next hK_72 <| Wc.seq fun _ hK_84 => Wc.region <| Wl.mv rfl rfl <| Wl.y (y_and rfl rfl) rfl <| Wl.mv rfl rfl <| Wl.y (y_eq (y_rem rfl rfl (by omega)) (int_eq (show _ = (n : Int) by rw [hma, hn]; exact tmod_nat ma N))) rfl <| Wl.sg rfl rfl <| Wl.nil <| Wq.next hK_84 <| Wc.seq fun _ hK_90 => Wc.region <| Wl.sg rfl rfl <| Wl.nil <| Wq.next hK_90 <| Wc.seq fun _ hK_92 => Wc.seq fun _ hK_93 => Wc.region <| Wl.sg rfl rfl <| Wl.nil <| Wq.next hK_93 <| Wc.block <| Wc.loop (X := Nat) (fun j => [(1, .int .i64 (n : Int)), (2, .pointer (some ⟨g_o0, 0, none⟩)), (5, .bool true), (6, str (feeds L)), (8, .int .i64 (N : Int)), (11, .int .i64 (pos L j : Int)), (12, .int .i64 (j : Int))]) (fun j wv => j ≤ n ∧ Below w.heap.size w wv) (fun j => n - j) (0) ?_ ?_ ?_
  · exact by repeat first | exact Sub.nil | refine Sub.cons' rfl (by first | rfl | exact int_eq (by omega)) ?_
  · exact ⟨Nat.zero_le _, hb⟩
  rintro j wv hI_96 _ hL_95
  replace hI_96 : j ≤ n ∧ Below w.heap.size w wv := hI_96
  obtain ⟨hj, hb⟩ := hI_96
  show Wc _ _ _ _ _ [(1, .int .i64 (n : Int)), (2, .pointer (some ⟨g_o0, 0, none⟩)), (5, .bool true), (6, str (feeds L)), (8, .int .i64 (N : Int)), (11, .int .i64 (pos L j : Int)), (12, .int .i64 (j : Int))] _
  have hG := hG_hb.below hb
  have hL := hL_hb.below hb
  have hzhb_L1 := hb.size
  refine Wc.seq fun _ hK_97 => Wc.seq fun _ hK_98 => Wc.region <| Wl.mv rfl rfl <| Wl.mv rfl rfl <| Wl.y (y_lssi rfl rfl) rfl <| Wl.nil <| Wq.next hK_98 <| Wc.cond rfl (fun c4_102 => ?_) (fun c4_102 => ?_)
  ·
   have c4_102_ := c4_102
   simp only [DZ] at c4_102
   have hjn : j < n := by have := c4_102; omega
   have hjl : j < L.length := by omega
   have hps := pos_succ hjl
   have hple := pos_le hjl
   refine Wc.skip <| Wq.next hK_97 <| Wc.seq fun _ hK_103 => Wc.block <| Wc.seq fun _ hK_104 => Wc.block <| Wc.loop (X := Nat) (fun q => [(1, .int .i64 (n : Int)), (2, .pointer (some ⟨g_o0, 0, none⟩)), (5, .bool true), (6, str (feeds L)), (8, .int .i64 (N : Int)), (11, .int .i64 ((pos L j + q : Nat) : Int)), (12, .int .i64 (j : Int))]) (fun q wx => q ≤ (L.getD j []).length ∧ Below w.heap.size w wx) (fun q => (L.getD j []).length - q) (0) ?_ ?_ ?_
   · exact by repeat first | exact Sub.nil | refine Sub.cons' rfl (by first | rfl | exact int_eq (by omega)) ?_
   · exact ⟨Nat.zero_le _, hb⟩
   rintro q wx hI_106 _ hL_105
   replace hI_106 : q ≤ (L.getD j []).length ∧ Below w.heap.size w wx := hI_106
   obtain ⟨hq, hb⟩ := hI_106
   show Wc _ _ _ _ _ [(1, .int .i64 (n : Int)), (2, .pointer (some ⟨g_o0, 0, none⟩)), (5, .bool true), (6, str (feeds L)), (8, .int .i64 (N : Int)), (11, .int .i64 ((pos L j + q : Nat) : Int)), (12, .int .i64 (j : Int))] _
   have hG := hG_hb.below hb
   have hL := hL_hb.below hb
   have hzhb_L2 := hb.size
   refine Wc.seq fun _ hK_107 => Wc.seq fun _ hK_108 => Wc.region <| Wl.mv rfl rfl <| Wl.mv rfl rfl <| Wl.y (y_indexs Tryz.underlying9 rfl rfl (by omega) (by omega)) rfl <| Wl.y (y_neqi rfl rfl) rfl <| Wl.nil <| Wq.next hK_108 <| Wc.cond rfl (fun c5_113 => ?_) (fun c5_113 => ?_)
   ·
    have c5_113_ := c5_113
    simp only [DZ] at c5_113
    have hql : q < (L.getD j []).length := by rcases Nat.lt_or_ge q (L.getD j []).length with h | h; (· exact h); (· exfalso; have he : q = (L.getD j []).length := (by omega); exact c5_113 ((u8_ten _).2 (by rw [Int.toNat_natCast, he]; exact text_end hjl)))
    refine Wc.skip <| Wq.next hK_107 <| Wc.block <| Wc.region <| Wl.mv rfl rfl <| Wl.y (y_addI rfl rfl (by omega) (by omega)) rfl <| Wl.sg rfl rfl <| Wl.nil <| Wq.block_normal <| fun a_ ha_ => hL_105 _ _ (q + 1) (by have hql2 : q < (L.getD j []).length := hql; omega) (by repeat first | exact Sub.nil | refine Sub.cons' rfl (by first | rfl | exact int_eq (by omega)) ?_) ?_ a_ ha_
    exact ⟨(show q + 1 ≤ (L.getD j []).length by omega), hb⟩
   have c5_113_ := c5_113
   simp only [DZ] at c5_113
   have hqe : q = (L.getD j []).length := by rcases Nat.lt_or_ge q (L.getD j []).length with h | h; (· exfalso; have h2 := (u8_ten _).1 c5_113; rw [Int.toNat_natCast] at h2; exact text_in hjl hL10 h h2); (· omega)
   refine Wc.exit <| Wq.then_exit <| Wq.then_exit <| Wq.block_exit <| Wq.next hK_104 <| Wc.region <| Wl.mv rfl rfl <| Wl.y (y_addI rfl rfl (by omega) (by omega)) rfl <| Wl.sg rfl rfl <| Wl.nil <| Wq.block_normal <| Wq.next hK_103 <| Wc.region <| Wl.mv rfl rfl <| Wl.y (y_addI rfl rfl (by omega) (by omega)) rfl <| Wl.sg rfl rfl <| Wl.nil <| fun a_ ha_ => hL_95 _ _ (j + 1) (by omega) (by repeat first | exact Sub.nil | refine Sub.cons' rfl (by first | rfl | exact int_eq (by omega)) ?_) ?_ a_ ha_
   exact ⟨(show j + 1 ≤ n by omega), hb⟩
  have c4_102_ := c4_102
  simp only [DZ] at c4_102
  have hje : j = n := by have := c4_102; omega
  have hnl2 : n < L.length := by omega
  have hple2 := pos_le hnl2
  rw [hje]
  refine Wc.exit <| Wq.then_exit <| Wq.then_exit <| Wq.block_exit <| Wq.next hK_92 <| Wc.seq fun _ hK_123 => Wc.region <| Wl.mv rfl rfl <| Wl.sg rfl rfl <| Wl.nil <| Wq.next hK_123 <| Wc.seq fun _ hK_126 => Wc.block <| Wc.loop (X := Nat) (fun q => [(1, .int .i64 (n : Int)), (2, .pointer (some ⟨g_o0, 0, none⟩)), (5, .bool true), (6, str (feeds L)), (8, .int .i64 (N : Int)), (11, .int .i64 (pos L n : Int)), (13, .int .i64 ((pos L n + q : Nat) : Int))]) (fun q wz => q ≤ (L.getD n []).length ∧ Below w.heap.size w wz) (fun q => (L.getD n []).length - q) (0) ?_ ?_ ?_
  · exact by repeat first | exact Sub.nil | refine Sub.cons' rfl (by first | rfl | exact int_eq (by omega)) ?_
  · exact ⟨Nat.zero_le _, hb⟩
  rintro q wz hI_128 _ hL_127
  replace hI_128 : q ≤ (L.getD n []).length ∧ Below w.heap.size w wz := hI_128
  obtain ⟨hq, hb⟩ := hI_128
  show Wc _ _ _ _ _ [(1, .int .i64 (n : Int)), (2, .pointer (some ⟨g_o0, 0, none⟩)), (5, .bool true), (6, str (feeds L)), (8, .int .i64 (N : Int)), (11, .int .i64 (pos L n : Int)), (13, .int .i64 ((pos L n + q : Nat) : Int))] _
  have hG := hG_hb.below hb
  have hL := hL_hb.below hb
  have hzhb_L3 := hb.size
  refine Wc.seq fun _ hK_129 => Wc.seq fun _ hK_130 => Wc.region <| Wl.mv rfl rfl <| Wl.mv rfl rfl <| Wl.y (y_indexs Tryz.underlying9 rfl rfl (by omega) (by omega)) rfl <| Wl.y (y_neqi rfl rfl) rfl <| Wl.nil <| Wq.next hK_130 <| Wc.cond rfl (fun c6_135 => ?_) (fun c6_135 => ?_)
  ·
   have c6_135_ := c6_135
   simp only [DZ] at c6_135
   have hql : q < (L.getD n []).length := by rcases Nat.lt_or_ge q (L.getD n []).length with h | h; (· exact h); (· exfalso; have he : q = (L.getD n []).length := (by omega); exact c6_135 ((u8_ten _).2 (by rw [Int.toNat_natCast, he]; exact text_end hnl2)))
   refine Wc.skip <| Wq.next hK_129 <| Wc.block <| Wc.region <| Wl.mv rfl rfl <| Wl.y (y_addI rfl rfl (by omega) (by omega)) rfl <| Wl.sg rfl rfl <| Wl.nil <| Wq.block_normal <| fun a_ ha_ => hL_127 _ _ (q + 1) (by have hql2 : q < (L.getD n []).length := hql; omega) (by repeat first | exact Sub.nil | refine Sub.cons' rfl (by first | rfl | exact int_eq (by omega)) ?_) ?_ a_ ha_
   exact ⟨(show q + 1 ≤ (L.getD n []).length by omega), hb⟩
  have c6_135_ := c6_135
  simp only [DZ] at c6_135
  have hqe : q = (L.getD n []).length := by rcases Nat.lt_or_ge q (L.getD n []).length with h | h; (· exfalso; have h2 := (u8_ten _).1 c6_135; rw [Int.toNat_natCast] at h2; exact text_in hnl2 hL10 h h2); (· omega)
  refine Wc.exit <| Wq.then_exit <| Wq.then_exit <| Wq.block_exit <| Wq.next hK_126 <| Wc.seq fun _ hK_139 => Wc.region <| Wl.mv rfl rfl <| Wl.mv rfl rfl <| Wl.mv rfl rfl <| Wl.mv rfl rfl <| Wl.y (y_eq (y_slices Tryz.underlying9 rfl rfl rfl (by omega) (by omega) (by omega)) (str_eq (show _ = L.getD n [] by rw [Int.toNat_natCast, Int.toNat_natCast, hqe, text_line hnl2]))) rfl ?_
  have hlz : (L.getD n []).length ≤ (feeds L).length := by omega
  refine Wl.y (y_adds rfl rfl (by omega)) rfl <| Wl.bytesN Tryz.underlying9 Tryz.underlying33 Tryz.underlying5 rfl rfl ?_
  rintro g_o75 c_o75 w_o75 hg_o75 hl_o75 hn_o75 hs_o75
  have hz_o75 := hs_o75.size
  have hb := hb.trans (hs_o75.mono hb.size)
  have hG := hG_hb.below hb
  have hL := hL_hb.below hb
  have hR_o75 := hn_o75
  have hll := line_len hG h0 (i := n) (by rw [← hLe]; exact hnl2)
  rw [← hLe] at hll
  have hpr2 := print_le2 hG h0
  rw [hpr] at hpr2
  have hld := load_twice hrg (i := n) (by rw [← hLe]; exact hnl2)
  rw [← hLe] at hld
  refine Wl.call txt19LpD rfl rfl (LParse_r _ _ _ (feeds L ++ L.getD n []) _ hR_o75 rfl (by rw [List.length_append]; omega) hL) rfl ?_
  rintro _ w_k3 ⟨⟨A1, c1, A2, c2, rfl, hG1⟩, hs_k3⟩
  have hz_k3 := hs_k3.size
  have hb := hb.trans (hs_k3.mono hb.size)
  have hG := hG_hb.below hb
  have hL := hL_hb.below hb
  rw [hld] at hG1 ⊢
  dsimp only at hG1 ⊢
  refine Wl.mv rfl rfl <| Wl.y (y_extract rfl rfl) rfl <| Wl.y (y_extract rfl rfl) rfl <| Wl.y (y_extract rfl rfl) rfl <| Wl.allocN (z := (.agg #[(.slice none 0 0), (.slice none 0 0)])) (by kernel_rfl) rfl ?_
  rintro g_o80 w_o80 hg_o80 hn_o80 hs_o80
  have hz_o80 := hs_o80.size
  have hb := hb.trans (hs_o80.mono hb.size)
  have hG := hG_hb.below hb
  have hL := hL_hb.below hb
  have hG1 := GIn.below hG1 hs_o80
  have hB_o80 := hn_o80
  have hl_o80 := hB_o80.lt
  refine Wl.storeS (by kernel_rfl) rfl rfl hB_o80 rfl rfl ?_
  rintro w_s1 hn_s1 hg_s1
  have hz_s1 := hg_s1.size
  have hb := below_blk hb hg_s1 hb.size (by omega)
  have hG := hG_hb.below hb
  have hL := hL_hb.below hb
  have hG1 := hG1.over hg_s1 (by omega)
  have hB_o80 := hn_s1
  refine Wl.sg rfl rfl <| Wl.sg rfl rfl <| Wl.nil <| Wq.next hK_139 <| Wc.seq fun _ hK_155 => Wc.region <| Wl.mv rfl rfl <| Wl.mv rfl rfl <| Wl.guardT rfl rfl rfl (fun g_158 => ?_) (fun g_158 => ?_)
  ·
   have g_158_ := g_158
   simp only [DZ] at g_158
   refine Wl.mv rfl rfl <| Wl.on' rfl rfl g_158_ <| Wl.y (y_eqli rfl rfl) rfl <| Wl.y (y_pickT rfl g_158_ rfl) rfl <| Wl.mv rfl rfl <| Wl.guardT rfl rfl rfl (fun g_163 => ?_) (fun g_163 => ?_)
   ·
    have g_163_ := g_163
    simp only [DZ] at g_163
    refine Wl.mv rfl rfl <| Wl.on' rfl rfl g_163_ <| Wl.mv rfl rfl <| Wl.on' rfl rfl g_163_ <| Wl.y (y_addI rfl rfl (by omega) (by omega)) rfl <| Wl.on' rfl rfl g_163_ <| Wl.y (y_eqli rfl rfl) rfl <| Wl.y (y_pickT rfl g_163_ rfl) rfl <| Wl.mv rfl rfl <| Wl.guardT rfl rfl rfl (fun g_170 => ?_) (fun g_170 => ?_)
    ·
     have g_170_ := g_170
     simp only [DZ] at g_170
     refine Wl.y (y_fieldAddr (fa25_0LpD _) rfl) rfl <| Wl.on' rfl rfl g_170_ <| Wl.l (l_load one22LpD rfl (by exact hB_o80.at (j := 0) rfl)) rfl <| Wl.on' rfl rfl g_170_ <| Wl.y (y_lenl Tryz.underlying22 (by simp) rfl) rfl <| Wl.on' rfl rfl g_170_ <| Wl.y (y_eqli rfl rfl) rfl <| Wl.y (y_pickT rfl g_170_ rfl) rfl <| Wl.sg rfl rfl <| Wl.nil <| Wq.next hK_155 <| Wc.ret <| ret1 rfl rfl ?_
     exact ⟨_, rfl, rfl, hb⟩
    have g_170_ := g_170
    simp only [DZ] at g_170
    exact absurd g_170_ (by rw [hLl]; simp)
   have g_163_ := g_163
   simp only [DZ] at g_163
   exact absurd g_163_ (by simp)
  have g_158_ := g_158
  exact absurd g_158_ (by simp)
end Go.Proofs.YtobhpejaoakpmaaGreatDoor
