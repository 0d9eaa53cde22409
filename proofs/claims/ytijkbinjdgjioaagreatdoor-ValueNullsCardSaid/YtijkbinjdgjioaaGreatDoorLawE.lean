/- The statements about values, by the calculus: ValueNulls. -/
import Derived.Test.YtijkbinjdgjioaaGreatDoorLawO
namespace Go.Proofs.YtijkbinjdgjioaaGreatDoor
open Go.RowKit Go.Bw Go.Bw.Fl
set_option linter.unusedVariables false
set_option linter.unusedSimpArgs false
theorem fa28_0LawE (p : Addr) (w : World) : (Instr.fieldAt 28 (.pointer (some p)) 0).run Tryz.prog w = .ok (.pointer (some (p.add 0))) w := run_fieldAt (i := 0) (sz := 0) Tryz.underlying28 rfl (by kernel_rfl) p w
theorem one3LawE : One Tryz.prog 3 := ⟨_, Tryz.underlying3, rfl, by kernel_rfl⟩
theorem one9LawE : One Tryz.prog 9 := ⟨_, Tryz.underlying9, rfl, by kernel_rfl⟩
theorem sz9LawE : (Tryz.prog.info? 9).map (·.size) = some 1 := by kernel_rfl
theorem txt14LawE : Txt Tryz.prog 14 := ⟨_, Tryz.func14, by kernel_rfl, rfl⟩   -- bridleway/bridlewaylaw02.shown
theorem txt15LawE : Txt Tryz.prog 15 := ⟨_, Tryz.func15, by kernel_rfl, rfl⟩   -- bridleway/bridlewaylaw02.of
theorem txt16LawE : Txt Tryz.prog 16 := ⟨_, Tryz.func16, by kernel_rfl, rfl⟩   -- bridleway/bridlewaylaw02.ops
theorem txt17LawE : Txt Tryz.prog 17 := ⟨_, Tryz.func17, by kernel_rfl, rfl⟩   -- bridleway/value.Test
theorem txt20LawE : Txt Tryz.prog 20 := ⟨_, Tryz.func20, by kernel_rfl, rfl⟩   -- bridleway/value.Reckon
theorem txt22LawE : Txt Tryz.prog 22 := ⟨_, Tryz.func22, by kernel_rfl, rfl⟩   -- bridleway/value.Right
theorem op_is {i : Nat} (h : i < 6) : (holdsV (opsL.getD i []) 0).isNone = false := by
  match i, h with
  | 0, _ => rfl
  | 1, _ => rfl
  | 2, _ => rfl
  | 3, _ => rfl
  | 4, _ => rfl
  | 5, _ => rfl
theorem op_ar {i : Nat} (h : 6 ≤ i) (h' : i < 9) : arithV (opsL.getD i []) = true := by
  match i, h, h' with
  | 6, _, _ => rfl
  | 7, _, _ => rfl
  | 8, _, _ => rfl
theorem nulls_test {i : Nat} (h : i < 6) {x : Val} (hx : rightV x = true) : testV (opsL.getD i []) x nullV = (nullV, 0) ∧ testV (opsL.getD i []) nullV x = (nullV, 0) := by
  have ho := op_is h
  have hn : rightV nullV = true := rfl
  unfold testV
  rw [if_neg (by rw [ho, hx, hn]; simp), if_pos (.inr rfl), if_neg (by rw [ho, hx, hn]; simp), if_pos (.inl rfl)]
  exact ⟨rfl, rfl⟩
theorem nulls_reck {i : Nat} (h : 6 ≤ i) (h' : i < 9) {x : Val} (hx : rightV x = true) : reckonV (opsL.getD i []) x nullV = (nullV, 0) ∧ reckonV (opsL.getD i []) nullV x = (nullV, 0) := by
  have ho := op_ar h h'
  have hn : rightV nullV = true := rfl
  unfold reckonV
  rw [if_neg (by rw [ho, hx, hn]; simp), if_pos (.inr rfl), if_neg (by rw [ho, hx, hn]; simp), if_pos (.inl rfl)]
  exact ⟨rfl, rfl⟩
theorem Nulls_r (r : Raw) (o : r.Ok) (w : World) (hL : Lb w) : Ret Tryz.prog 7 [r.enc] w fun v w' => v = .bool true ∧ Below w.heap.size w w' := by
  have hb := Below.refl w.heap.size w
  have hL_hb := hL
  refine enter Tryz.func7 rfl rfl rfl ?_
  refine Wc.seq fun _ hK_1 => ?_
  refine Wc.region ?_
  refine Wl.boxN rfl rfl ?_
  rintro g_o0 w_o0 hg_o0 hn_o0 hs_o0
  have hz_o0 := hs_o0.size
  have hb := hb.trans (hs_o0.mono hb.size)
  have hL := hL_hb.below hb
  have hB_o0 := hn_o0
  have hl_o0 := hB_o0.lt
  refine Wl.y (y_assign rfl) rfl ?_
  refine Wl.nil ?_
  refine Wq.next hK_1 ?_
  refine Wc.seq fun _ hK_4 => ?_
  refine Wc.region ?_
  refine Wl.call txt14LawE rfl rfl (shown_r _ hL) rfl ?_
  rintro _ w_k0 ⟨rfl, hs_k0⟩
  have hz_k0 := hs_k0.size
  have hb := hb.trans (hs_k0.mono hb.size)
  have hL := hL_hb.below hb
  try have hB_o0 := Blk.below hB_o0 hs_k0
  refine Wl.y (y_assign rfl) rfl ?_
  refine Wl.nil ?_
  refine Wq.next hK_4 ?_
  refine Wc.seq fun _ hK_7 => ?_
  refine Wc.region ?_
  refine Wl.l (l_loadS Tryz.underlying24 (by kernel_rfl) rfl (by first | exact fun j u hu => hB_o0.at hu | assumption)) rfl ?_
  refine Wl.call txt15LawE rfl rfl (of_r r o _) rfl ?_
  rintro _ w_k1 ⟨rfl, hs_k1⟩
  have hz_k1 := hs_k1.size
  have hb := hb.trans (hs_k1.mono hb.size)
  have hL := hL_hb.below hb
  try have hB_o0 := Blk.below hB_o0 hs_k1
  refine Wl.allocN (z := (.agg #[(.int .i64 0), (.int .i64 0), (.float .f64 0), (str [])])) (by kernel_rfl) rfl ?_
  rintro g_o3 w_o3 hg_o3 hn_o3 hs_o3
  have hz_o3 := hs_o3.size
  have hb := hb.trans (hs_o3.mono hb.size)
  have hL := hL_hb.below hb
  try have hB_o0 := Blk.below hB_o0 hs_o3
  have hB_o3 := hn_o3
  have hl_o3 := hB_o3.lt
  refine Wl.storeS (by kernel_rfl) rfl rfl hB_o3 rfl rfl ?_
  rintro w_s0 hn_s0 hg_s0
  have hz_s0 := hg_s0.size
  have hb := below_blk hb hg_s0 hb.size (by omega)
  have hL := hL_hb.below hb
  try have hB_o0 := hB_o0.over hg_s0 (by omega)
  have hB_o3 := hn_s0
  refine Wl.nil ?_
  refine Wq.next hK_7 ?_
  refine Wc.seq fun _ hK_11 => ?_
  refine Wc.seq fun _ hK_12 => ?_
  refine Wc.region ?_
  refine Wl.l (l_loadS Tryz.underlying28 (by kernel_rfl) rfl (by first | exact fun j u hu => hB_o0.at hu | exact fun j u hu => hB_o3.at hu | assumption)) rfl ?_
  refine Wl.call txt22LawE rfl rfl (Right_r _ o.val _) rfl ?_
  rintro _ w_k2 ⟨rfl, hs_k2⟩
  have hz_k2 := hs_k2.size
  have hb := hb.trans (hs_k2.mono hb.size)
  have hL := hL_hb.below hb
  try have hB_o3 := Blk.below hB_o3 hs_k2
  refine Wl.y (y_not rfl) rfl ?_
  refine Wl.nil ?_
  refine Wq.next hK_12 ?_
  refine Wc.cond rfl (fun c0_16 => ?_) (fun c0_16 => ?_)
  ·
   have c0_16_ := c0_16
   try simp only [decide_eq_true_eq, decide_eq_false_iff_not, beq_iff_eq, beq_eq_false_iff_ne, bne_iff_ne, bne_eq_false_iff_eq, Bool.not_eq_true', Bool.not_eq_false', Bool.not_eq_eq_eq_not, Bool.not_true, Bool.not_false, ne_eq, Int.not_lt, Int.not_le] at c0_16
   refine Wc.seq fun _ hK_17 => ?_
   refine Wc.region ?_
   refine Wl.y (y_move rfl) rfl ?_
   refine Wl.y (y_assign rfl) rfl ?_
   refine Wl.nil ?_
   refine Wq.next hK_17 ?_
   refine Wc.ret ?_
   refine Wq.then_ret ?_
   refine ret1 rfl rfl ?_
   exact ⟨_, rfl, rfl, hb⟩
  ·
   have c0_16_ := c0_16
   try simp only [decide_eq_true_eq, decide_eq_false_iff_not, beq_iff_eq, beq_eq_false_iff_ne, bne_iff_ne, bne_eq_false_iff_eq, Bool.not_eq_true', Bool.not_eq_false', Bool.not_eq_eq_eq_not, Bool.not_true, Bool.not_false, ne_eq, Int.not_lt, Int.not_le] at c0_16
   have hx : rightV r.val = true := by have h := c0_16_; simpa using h
   refine Wc.skip ?_
   refine Wq.next hK_11 ?_
   refine Wc.seq fun _ hK_20 => ?_
   refine Wc.region ?_
   refine Wl.call txt16LawE rfl rfl (ops_r _) rfl ?_
   rintro _ w_k3 ⟨⟨gk, rfl, hgk, hB_k3⟩, hs_k3⟩
   have hz_k3 := hs_k3.size
   have hb := hb.trans (hs_k3.mono hb.size)
   have hL := hL_hb.below hb
   try have hB_o3 := Blk.below hB_o3 hs_k3
   have hR : Rd w_k3 1 (some ⟨gk, 0, none⟩) 11 (opsL.map str) := hB_k3.rd 11 1 rfl
   refine Wl.y (y_assign rfl) rfl ?_
   refine Wl.nil ?_
   refine Wq.next hK_20 ?_
   refine Wc.seq fun _ hK_23 => ?_
   refine Wc.seq fun _ hK_24 => ?_
   refine Wc.region ?_
   refine Wl.y (y_assign rfl) rfl ?_
   refine Wl.nil ?_
   refine Wq.next hK_24 ?_
   refine Wc.block ?_
   refine Wc.loop (X := Nat) (fun i => [(3, .bool true), (4, .pointer (some ⟨g_o3, 0, none⟩)), (5, .slice (some ⟨gk, 0, none⟩) 11 11), (6, .int .i64 (i : Int))]) (fun i wr => i ≤ 9 ∧ Below w.heap.size w wr ∧ Blk wr g_o3 28 r.val.cells ∧ Rd wr 1 (some ⟨gk, 0, none⟩) 11 (opsL.map str)) (fun i => 9 - i) (0) ?_ ?_ ?_
   · exact Sub.cons' rfl (by first | rfl | exact int_eq (by omega) | exact int_eq (by simp) | (simp; done)) (Sub.cons' rfl (by first | rfl | exact int_eq (by omega) | exact int_eq (by simp) | (simp; done)) (Sub.cons' rfl (by first | rfl | exact int_eq (by omega) | exact int_eq (by simp) | (simp; done)) (Sub.cons' rfl (by first | rfl | exact int_eq (by omega) | exact int_eq (by simp) | (simp; done)) (Sub.nil))))
   · exact ⟨by omega, hb, hB_o3, hR⟩
   ·
    rintro i wr hI_27 _ hL_26
    replace hI_27 : i ≤ 9 ∧ Below w.heap.size w wr ∧ Blk wr g_o3 28 r.val.cells ∧ Rd wr 1 (some ⟨gk, 0, none⟩) 11 (opsL.map str) := hI_27
    obtain ⟨hi, hb, hB_o3, hR⟩ := hI_27
    show Wc _ _ _ _ _ [(3, .bool true), (4, .pointer (some ⟨g_o3, 0, none⟩)), (5, .slice (some ⟨gk, 0, none⟩) 11 11), (6, .int .i64 (i : Int))] _
    have hL := hL_hb.below hb
    try have hzhb_L0 := hb.size
    have hlhB_o3_L0 := hB_o3.lt
    refine Wc.seq fun _ hK_28 => ?_
    refine Wc.seq fun _ hK_29 => ?_
    refine Wc.region ?_
    refine Wl.y (y_move rfl) rfl ?_
    refine Wl.y (y_lssi rfl rfl) rfl ?_
    refine Wl.nil ?_
    refine Wq.next hK_29 ?_
    refine Wc.cond rfl (fun c1_32 => ?_) (fun c1_32 => ?_)
    ·
     have c1_32_ := c1_32
     try simp only [decide_eq_true_eq, decide_eq_false_iff_not, beq_iff_eq, beq_eq_false_iff_ne, bne_iff_ne, bne_eq_false_iff_eq, Bool.not_eq_true', Bool.not_eq_false', Bool.not_eq_eq_eq_not, Bool.not_true, Bool.not_false, ne_eq, Int.not_lt, Int.not_le] at c1_32
     refine Wc.skip ?_
     refine Wq.next hK_28 ?_
     refine Wc.seq fun _ hK_33 => ?_
     refine Wc.block ?_
     refine Wc.seq fun _ hK_34 => ?_
     obtain ⟨p, v, hpe, hv, hcell⟩ := hR.one (i := i) (by omega)
     cases hpe
     have hve := strs_at hv
     subst hve
     have hb2 := Below.refl wr.heap.size wr
     have hB_o3_hb2 := hB_o3
     have hR_hb2 := hR
     refine Wc.any (n := 13) (fun w' => Below wr.heap.size wr w') #[false, false, false, false, false, false, false, false, false, false, false, false, false] (by kernel_rfl) rfl (by kernel_rfl) ?_
     refine Wa.drew ?_
     rintro w_g8 hs_g8
     have hz_g8 := hs_g8.size
     have hb := hb.trans (hs_g8.mono hb.size)
     have hL := hL_hb.below hb
     have hb2 := hb2.trans (hs_g8.mono hb2.size)
     have hB_o3 := hB_o3_hb2.below hb2
     have hR := hR_hb2.below hb2
     refine Wa.take (i := 0) #[true, false, false, false, false, false, false, false, false, false, false, false, false] rfl (by kernel_rfl) (fun _ _ _ h => h) rfl (fun wq hq => Yl.ld (y_move rfl)) hb2 ?_
     refine Wa.take (i := 1) #[true, true, false, false, false, false, false, false, false, false, false, false, false] rfl (by kernel_rfl) (fun _ _ _ h => h) rfl (fun wq hq => Yl.ld (y_move rfl)) hb2 ?_
     refine Wa.take (i := 2) #[true, true, true, false, false, false, false, false, false, false, false, false, false] rfl (by kernel_rfl) (fun _ _ _ h => h) rfl (fun wq hq => Yl.ld (y_indexAddr Tryz.underlying30 sz9LawE rfl rfl (by omega) (by omega))) hb2 ?_
     refine Wa.take (i := 3) #[true, true, true, true, false, false, false, false, false, false, false, false, false] rfl (by kernel_rfl) (fun _ _ _ h => h) rfl (fun wq hq => l_load one9LawE rfl (by have hB_o3 := hB_o3_hb2.below hq; have hR := hR_hb2.below hq; exact at1 (cell_below hq hcell))) hb2 ?_
     refine Wa.take (i := 4) #[true, true, true, true, true, false, false, false, false, false, false, false, false] rfl (by kernel_rfl) (fun _ _ _ h => h) rfl (fun wq hq => l_loadS Tryz.underlying28 (by kernel_rfl) rfl (by have hB_o3 := hB_o3_hb2.below hq; have hR := hR_hb2.below hq; first | exact fun j u hu => hB_o3.at hu | assumption)) hb2 ?_
     refine Wa.take (i := 5) #[true, true, true, true, true, true, false, false, false, false, false, false, false] rfl (by kernel_rfl) (fun _ _ _ h => h) rfl (fun wq hq => Yl.ld (y_buildS (z := [(.int .i64 0), (.int .i64 0), (.float .f64 0), (str [])]) (pl := [(0, 1), (1, 1), (2, 1), (3, 1)]) (cs := [_, _, _, _]) Tryz.underlying28 (by kernel_rfl) (by kernel_rfl) rfl rfl rfl)) hb2 ?_
     refine Wa.some (rs := [6, 10]) (by kernel_rfl) rfl ?_
     refine Ws.cons #[true, true, true, true, true, true, true, false, false, false, false, false, false] rfl rfl (fun _ hK_41 => ?_) ?_
     ·
      refine Wl.call txt17LawE rfl rfl (Test_r _ r.val nullV o.val ok_null _) rfl ?_
      rintro _ w_k4 ⟨rfl, hs_k4⟩
      have hz_k4 := hs_k4.size
      have hb := hb.trans (hs_k4.mono hb.size)
      have hL := hL_hb.below hb
      have hb2 := hb2.trans (hs_k4.mono hb2.size)
      have hB_o3 := hB_o3_hb2.below hb2
      have hR := hR_hb2.below hb2
      refine Wl.nil ?_
      refine Wq.back hK_41 hb2 ?_
      refine Wa.take (i := 7) #[true, true, true, true, true, true, true, true, false, false, false, false, false] rfl (by kernel_rfl) (fun _ _ _ h => h) rfl (fun wq hq => Yl.ld (y_move rfl)) hb2 ?_
      refine Wa.take (i := 8) #[true, true, true, true, true, true, true, true, true, false, false, false, false] rfl (by kernel_rfl) (fun _ _ _ h => h) rfl (fun wq hq => Yl.ld (y_extract rfl rfl)) hb2 ?_
      refine Wa.take (i := 9) #[true, true, true, true, true, true, true, true, true, true, false, false, false] rfl (by kernel_rfl) (fun _ _ _ h => h) rfl (fun wq hq => Yl.ld (y_extract rfl rfl)) hb2 ?_
      refine Wa.some (rs := [10]) (by kernel_rfl) rfl ?_
      refine Ws.cons #[true, true, true, true, true, true, true, true, true, true, true, false, false] rfl rfl (fun _ hK_46 => ?_) ?_
      ·
       refine Wl.allocN (z := (.agg #[(.int .i64 0), (.int .i64 0), (.float .f64 0), (str [])])) (by kernel_rfl) rfl ?_
       rintro g_o17 w_o17 hg_o17 hn_o17 hs_o17
       have hz_o17 := hs_o17.size
       have hb := hb.trans (hs_o17.mono hb.size)
       have hL := hL_hb.below hb
       have hb2 := hb2.trans (hs_o17.mono hb2.size)
       have hB_o3 := hB_o3_hb2.below hb2
       have hR := hR_hb2.below hb2
       have hB_o17 := hn_o17
       have hl_o17 := hB_o17.lt
       refine Wl.nil ?_
       refine Wq.back hK_46 hb2 ?_
       refine Wa.some (rs := [11]) (by kernel_rfl) rfl ?_
       refine Ws.cons #[true, true, true, true, true, true, true, true, true, true, true, true, false] rfl rfl (fun _ hK_48 => ?_) ?_
       ·
        refine Wl.storeS (by kernel_rfl) rfl rfl hB_o17 rfl rfl ?_
        rintro w_s1 hn_s1 hg_s1
        have hz_s1 := hg_s1.size
        have hb := below_blk hb hg_s1 hb.size (by omega)
        have hL := hL_hb.below hb
        have hb2 := below_blk hb2 hg_s1 hb2.size (by omega)
        have hB_o3 := hB_o3_hb2.below hb2
        have hR := hR_hb2.below hb2
        have hB_o17 := hn_s1
        refine Wl.nil ?_
        refine Wq.back hK_48 hb2 ?_
        refine Wa.take (i := 12) #[true, true, true, true, true, true, true, true, true, true, true, true, true] rfl (by kernel_rfl) (fun _ _ _ h => h) rfl (fun wq hq => Yl.ld (y_assign rfl)) hb2 ?_
        refine Wa.done (by kernel_rfl) ?_
        refine Wq.next hK_34 ?_
        refine Wc.seq fun _ hK_50 => ?_
        refine Wc.any (n := 13) (fun w' => Below wr.heap.size wr w') #[false, false, false, false, false, false, false, false, false, false, false, false, false] (by kernel_rfl) rfl (by kernel_rfl) ?_
        refine Wa.drew ?_
        rintro w_g9 hs_g9
        have hz_g9 := hs_g9.size
        have hb := hb.trans (hs_g9.mono hb.size)
        have hL := hL_hb.below hb
        have hb2 := hb2.trans (hs_g9.mono hb2.size)
        have hB_o3 := hB_o3_hb2.below hb2
        have hR := hR_hb2.below hb2
        try have hB_o17 := Blk.below hB_o17 hs_g9
        refine Wa.take (i := 0) #[true, false, false, false, false, false, false, false, false, false, false, false, false] rfl (by kernel_rfl) (fun _ _ _ h => h) rfl (fun wq hq => Yl.ld (y_move rfl)) hb2 ?_
        refine Wa.take (i := 1) #[true, true, false, false, false, false, false, false, false, false, false, false, false] rfl (by kernel_rfl) (fun _ _ _ h => h) rfl (fun wq hq => Yl.ld (y_move rfl)) hb2 ?_
        refine Wa.take (i := 2) #[true, true, true, false, false, false, false, false, false, false, false, false, false] rfl (by kernel_rfl) (fun _ _ _ h => h) rfl (fun wq hq => Yl.ld (y_indexAddr Tryz.underlying30 sz9LawE rfl rfl (by omega) (by omega))) hb2 ?_
        refine Wa.take (i := 3) #[true, true, true, true, false, false, false, false, false, false, false, false, false] rfl (by kernel_rfl) (fun _ _ _ h => h) rfl (fun wq hq => l_load one9LawE rfl (by have hB_o3 := hB_o3_hb2.below hq; have hR := hR_hb2.below hq; exact at1 (cell_below hq hcell))) hb2 ?_
        refine Wa.take (i := 4) #[true, true, true, true, true, false, false, false, false, false, false, false, false] rfl (by kernel_rfl) (fun _ _ _ h => h) rfl (fun wq hq => Yl.ld (y_buildS (z := [(.int .i64 0), (.int .i64 0), (.float .f64 0), (str [])]) (pl := [(0, 1), (1, 1), (2, 1), (3, 1)]) (cs := [_, _, _, _]) Tryz.underlying28 (by kernel_rfl) (by kernel_rfl) rfl rfl rfl)) hb2 ?_
        refine Wa.take (i := 5) #[true, true, true, true, true, true, false, false, false, false, false, false, false] rfl (by kernel_rfl) (fun _ _ _ h => h) rfl (fun wq hq => l_loadS Tryz.underlying28 (by kernel_rfl) rfl (by have hB_o3 := hB_o3_hb2.below hq; have hR := hR_hb2.below hq; first | exact fun j u hu => hB_o17.at hu | exact fun j u hu => hB_o3.at hu | assumption)) hb2 ?_
        refine Wa.some (rs := [6, 10]) (by kernel_rfl) rfl ?_
        refine Ws.cons #[true, true, true, true, true, true, true, false, false, false, false, false, false] rfl rfl (fun _ hK_57 => ?_) ?_
        ·
         refine Wl.call txt17LawE rfl rfl (Test_r _ nullV r.val ok_null o.val _) rfl ?_
         rintro _ w_k5 ⟨rfl, hs_k5⟩
         have hz_k5 := hs_k5.size
         have hb := hb.trans (hs_k5.mono hb.size)
         have hL := hL_hb.below hb
         have hb2 := hb2.trans (hs_k5.mono hb2.size)
         have hB_o3 := hB_o3_hb2.below hb2
         have hR := hR_hb2.below hb2
         try have hB_o17 := Blk.below hB_o17 hs_k5
         refine Wl.nil ?_
         refine Wq.back hK_57 hb2 ?_
         refine Wa.take (i := 7) #[true, true, true, true, true, true, true, true, false, false, false, false, false] rfl (by kernel_rfl) (fun _ _ _ h => h) rfl (fun wq hq => Yl.ld (y_move rfl)) hb2 ?_
         refine Wa.take (i := 8) #[true, true, true, true, true, true, true, true, true, false, false, false, false] rfl (by kernel_rfl) (fun _ _ _ h => h) rfl (fun wq hq => Yl.ld (y_extract rfl rfl)) hb2 ?_
         refine Wa.take (i := 9) #[true, true, true, true, true, true, true, true, true, true, false, false, false] rfl (by kernel_rfl) (fun _ _ _ h => h) rfl (fun wq hq => Yl.ld (y_extract rfl rfl)) hb2 ?_
         refine Wa.some (rs := [10]) (by kernel_rfl) rfl ?_
         refine Ws.cons #[true, true, true, true, true, true, true, true, true, true, true, false, false] rfl rfl (fun _ hK_62 => ?_) ?_
         ·
          refine Wl.allocN (z := (.agg #[(.int .i64 0), (.int .i64 0), (.float .f64 0), (str [])])) (by kernel_rfl) rfl ?_
          rintro g_o25 w_o25 hg_o25 hn_o25 hs_o25
          have hz_o25 := hs_o25.size
          have hb := hb.trans (hs_o25.mono hb.size)
          have hL := hL_hb.below hb
          have hb2 := hb2.trans (hs_o25.mono hb2.size)
          have hB_o3 := hB_o3_hb2.below hb2
          have hR := hR_hb2.below hb2
          try have hB_o17 := Blk.below hB_o17 hs_o25
          have hB_o25 := hn_o25
          have hl_o25 := hB_o25.lt
          refine Wl.nil ?_
          refine Wq.back hK_62 hb2 ?_
          refine Wa.some (rs := [11]) (by kernel_rfl) rfl ?_
          refine Ws.cons #[true, true, true, true, true, true, true, true, true, true, true, true, false] rfl rfl (fun _ hK_64 => ?_) ?_
          ·
           refine Wl.storeS (by kernel_rfl) rfl rfl hB_o25 rfl rfl ?_
           rintro w_s2 hn_s2 hg_s2
           have hz_s2 := hg_s2.size
           have hb := below_blk hb hg_s2 hb.size (by omega)
           have hL := hL_hb.below hb
           have hb2 := below_blk hb2 hg_s2 hb2.size (by omega)
           have hB_o3 := hB_o3_hb2.below hb2
           have hR := hR_hb2.below hb2
           try have hB_o17 := hB_o17.over hg_s2 (by omega)
           have hB_o25 := hn_s2
           refine Wl.nil ?_
           refine Wq.back hK_64 hb2 ?_
           refine Wa.take (i := 12) #[true, true, true, true, true, true, true, true, true, true, true, true, true] rfl (by kernel_rfl) (fun _ _ _ h => h) rfl (fun wq hq => Yl.ld (y_assign rfl)) hb2 ?_
           refine Wa.done (by kernel_rfl) ?_
           refine Wq.next hK_50 ?_
           refine Wc.seq fun _ hK_66 => ?_
           refine Wc.seq fun _ hK_67 => ?_
           refine Wc.region ?_
           refine Wl.y (y_move rfl) rfl ?_
           refine Wl.y (y_geqi rfl rfl) rfl ?_
           refine Wl.nil ?_
           refine Wq.next hK_67 ?_
           refine Wc.cond rfl (fun c2_70 => ?_) (fun c2_70 => ?_)
           ·
            have c2_70_ := c2_70
            try simp only [decide_eq_true_eq, decide_eq_false_iff_not, beq_iff_eq, beq_eq_false_iff_ne, bne_iff_ne, bne_eq_false_iff_eq, Bool.not_eq_true', Bool.not_eq_false', Bool.not_eq_eq_eq_not, Bool.not_true, Bool.not_false, ne_eq, Int.not_lt, Int.not_le] at c2_70
            obtain ⟨hn1, hn2⟩ := nulls_reck (i := i) (by have := c2_70; omega) (by omega) hx
            refine Wc.seq fun _ hK_71 => ?_
            refine Wc.any (n := 12) (fun w' => Below wr.heap.size wr w') #[false, false, false, false, false, false, false, false, false, false, false, false] (by kernel_rfl) rfl (by kernel_rfl) ?_
            refine Wa.drew ?_
            rintro w_g11 hs_g11
            have hz_g11 := hs_g11.size
            have hb := hb.trans (hs_g11.mono hb.size)
            have hL := hL_hb.below hb
            have hb2 := hb2.trans (hs_g11.mono hb2.size)
            have hB_o3 := hB_o3_hb2.below hb2
            have hR := hR_hb2.below hb2
            try have hB_o17 := Blk.below hB_o17 hs_g11
            try have hB_o25 := Blk.below hB_o25 hs_g11
            refine Wa.take (i := 0) #[true, false, false, false, false, false, false, false, false, false, false, false] rfl (by kernel_rfl) (fun _ _ _ h => h) rfl (fun wq hq => Yl.ld (y_move rfl)) hb2 ?_
            refine Wa.take (i := 1) #[true, true, false, false, false, false, false, false, false, false, false, false] rfl (by kernel_rfl) (fun _ _ _ h => h) rfl (fun wq hq => Yl.ld (y_move rfl)) hb2 ?_
            refine Wa.take (i := 2) #[true, true, true, false, false, false, false, false, false, false, false, false] rfl (by kernel_rfl) (fun _ _ _ h => h) rfl (fun wq hq => Yl.ld (y_indexAddr Tryz.underlying30 sz9LawE rfl rfl (by omega) (by omega))) hb2 ?_
            refine Wa.take (i := 3) #[true, true, true, true, false, false, false, false, false, false, false, false] rfl (by kernel_rfl) (fun _ _ _ h => h) rfl (fun wq hq => l_load one9LawE rfl (by have hB_o3 := hB_o3_hb2.below hq; have hR := hR_hb2.below hq; exact at1 (cell_below hq hcell))) hb2 ?_
            refine Wa.take (i := 4) #[true, true, true, true, true, false, false, false, false, false, false, false] rfl (by kernel_rfl) (fun _ _ _ h => h) rfl (fun wq hq => l_loadS Tryz.underlying28 (by kernel_rfl) rfl (by have hB_o3 := hB_o3_hb2.below hq; have hR := hR_hb2.below hq; first | exact fun j u hu => hB_o17.at hu | exact fun j u hu => hB_o25.at hu | exact fun j u hu => hB_o3.at hu | assumption)) hb2 ?_
            refine Wa.take (i := 5) #[true, true, true, true, true, true, false, false, false, false, false, false] rfl (by kernel_rfl) (fun _ _ _ h => h) rfl (fun wq hq => Yl.ld (y_buildS (z := [(.int .i64 0), (.int .i64 0), (.float .f64 0), (str [])]) (pl := [(0, 1), (1, 1), (2, 1), (3, 1)]) (cs := [_, _, _, _]) Tryz.underlying28 (by kernel_rfl) (by kernel_rfl) rfl rfl rfl)) hb2 ?_
            refine Wa.some (rs := [6]) (by kernel_rfl) rfl ?_
            refine Ws.cons #[true, true, true, true, true, true, true, false, false, false, false, false] rfl rfl (fun _ hK_78 => ?_) ?_
            ·
             refine Wl.call txt20LawE rfl rfl (Reckon_r _ r.val nullV o.val ok_null _) rfl ?_
             rintro _ w_k6 ⟨rfl, hs_k6⟩
             have hz_k6 := hs_k6.size
             have hb := hb.trans (hs_k6.mono hb.size)
             have hL := hL_hb.below hb
             have hb2 := hb2.trans (hs_k6.mono hb2.size)
             have hB_o3 := hB_o3_hb2.below hb2
             have hR := hR_hb2.below hb2
             try have hB_o17 := Blk.below hB_o17 hs_k6
             try have hB_o25 := Blk.below hB_o25 hs_k6
             refine Wl.nil ?_
             refine Wq.back hK_78 hb2 ?_
             refine Wa.take (i := 7) #[true, true, true, true, true, true, true, true, false, false, false, false] rfl (by kernel_rfl) (fun _ _ _ h => h) rfl (fun wq hq => Yl.ld (y_move rfl)) hb2 ?_
             refine Wa.take (i := 8) #[true, true, true, true, true, true, true, true, true, false, false, false] rfl (by kernel_rfl) (fun _ _ _ h => h) rfl (fun wq hq => Yl.ld (y_extract rfl rfl)) hb2 ?_
             refine Wa.take (i := 9) #[true, true, true, true, true, true, true, true, true, true, false, false] rfl (by kernel_rfl) (fun _ _ _ h => h) rfl (fun wq hq => Yl.ld (y_extract rfl rfl)) hb2 ?_
             refine Wa.some (rs := [10]) (by kernel_rfl) rfl ?_
             refine Ws.cons #[true, true, true, true, true, true, true, true, true, true, true, false] rfl rfl (fun _ hK_83 => ?_) ?_
             ·
              refine Wl.storeS (by kernel_rfl) rfl rfl hB_o17 rfl rfl ?_
              rintro w_s3 hn_s3 hg_s3
              have hz_s3 := hg_s3.size
              have hb := below_blk hb hg_s3 hb.size (by omega)
              have hL := hL_hb.below hb
              have hb2 := below_blk hb2 hg_s3 hb2.size (by omega)
              have hB_o3 := hB_o3_hb2.below hb2
              have hR := hR_hb2.below hb2
              try have hB_o25 := hB_o25.over hg_s3 (by omega)
              have hB_o17 := hn_s3
              refine Wl.nil ?_
              refine Wq.back hK_83 hb2 ?_
              refine Wa.take (i := 11) #[true, true, true, true, true, true, true, true, true, true, true, true] rfl (by kernel_rfl) (fun _ _ _ h => h) rfl (fun wq hq => Yl.ld (y_assign rfl)) hb2 ?_
              refine Wa.done (by kernel_rfl) ?_
              refine Wq.next hK_71 ?_
              refine Wc.any (n := 12) (fun w' => Below wr.heap.size wr w') #[false, false, false, false, false, false, false, false, false, false, false, false] (by kernel_rfl) rfl (by kernel_rfl) ?_
              refine Wa.drew ?_
              rintro w_g12 hs_g12
              have hz_g12 := hs_g12.size
              have hb := hb.trans (hs_g12.mono hb.size)
              have hL := hL_hb.below hb
              have hb2 := hb2.trans (hs_g12.mono hb2.size)
              have hB_o3 := hB_o3_hb2.below hb2
              have hR := hR_hb2.below hb2
              try have hB_o17 := Blk.below hB_o17 hs_g12
              try have hB_o25 := Blk.below hB_o25 hs_g12
              refine Wa.take (i := 0) #[true, false, false, false, false, false, false, false, false, false, false, false] rfl (by kernel_rfl) (fun _ _ _ h => h) rfl (fun wq hq => Yl.ld (y_move rfl)) hb2 ?_
              refine Wa.take (i := 1) #[true, true, false, false, false, false, false, false, false, false, false, false] rfl (by kernel_rfl) (fun _ _ _ h => h) rfl (fun wq hq => Yl.ld (y_move rfl)) hb2 ?_
              refine Wa.take (i := 2) #[true, true, true, false, false, false, false, false, false, false, false, false] rfl (by kernel_rfl) (fun _ _ _ h => h) rfl (fun wq hq => Yl.ld (y_indexAddr Tryz.underlying30 sz9LawE rfl rfl (by omega) (by omega))) hb2 ?_
              refine Wa.take (i := 3) #[true, true, true, true, false, false, false, false, false, false, false, false] rfl (by kernel_rfl) (fun _ _ _ h => h) rfl (fun wq hq => l_load one9LawE rfl (by have hB_o3 := hB_o3_hb2.below hq; have hR := hR_hb2.below hq; exact at1 (cell_below hq hcell))) hb2 ?_
              refine Wa.take (i := 4) #[true, true, true, true, true, false, false, false, false, false, false, false] rfl (by kernel_rfl) (fun _ _ _ h => h) rfl (fun wq hq => Yl.ld (y_buildS (z := [(.int .i64 0), (.int .i64 0), (.float .f64 0), (str [])]) (pl := [(0, 1), (1, 1), (2, 1), (3, 1)]) (cs := [_, _, _, _]) Tryz.underlying28 (by kernel_rfl) (by kernel_rfl) rfl rfl rfl)) hb2 ?_
              refine Wa.take (i := 5) #[true, true, true, true, true, true, false, false, false, false, false, false] rfl (by kernel_rfl) (fun _ _ _ h => h) rfl (fun wq hq => l_loadS Tryz.underlying28 (by kernel_rfl) rfl (by have hB_o3 := hB_o3_hb2.below hq; have hR := hR_hb2.below hq; first | exact fun j u hu => hB_o17.at hu | exact fun j u hu => hB_o25.at hu | exact fun j u hu => hB_o3.at hu | assumption)) hb2 ?_
              refine Wa.some (rs := [6]) (by kernel_rfl) rfl ?_
              refine Ws.cons #[true, true, true, true, true, true, true, false, false, false, false, false] rfl rfl (fun _ hK_91 => ?_) ?_
              ·
               refine Wl.call txt20LawE rfl rfl (Reckon_r _ nullV r.val ok_null o.val _) rfl ?_
               rintro _ w_k7 ⟨rfl, hs_k7⟩
               have hz_k7 := hs_k7.size
               have hb := hb.trans (hs_k7.mono hb.size)
               have hL := hL_hb.below hb
               have hb2 := hb2.trans (hs_k7.mono hb2.size)
               have hB_o3 := hB_o3_hb2.below hb2
               have hR := hR_hb2.below hb2
               try have hB_o17 := Blk.below hB_o17 hs_k7
               try have hB_o25 := Blk.below hB_o25 hs_k7
               refine Wl.nil ?_
               refine Wq.back hK_91 hb2 ?_
               refine Wa.take (i := 7) #[true, true, true, true, true, true, true, true, false, false, false, false] rfl (by kernel_rfl) (fun _ _ _ h => h) rfl (fun wq hq => Yl.ld (y_move rfl)) hb2 ?_
               refine Wa.take (i := 8) #[true, true, true, true, true, true, true, true, true, false, false, false] rfl (by kernel_rfl) (fun _ _ _ h => h) rfl (fun wq hq => Yl.ld (y_extract rfl rfl)) hb2 ?_
               refine Wa.take (i := 9) #[true, true, true, true, true, true, true, true, true, true, false, false] rfl (by kernel_rfl) (fun _ _ _ h => h) rfl (fun wq hq => Yl.ld (y_extract rfl rfl)) hb2 ?_
               refine Wa.some (rs := [10]) (by kernel_rfl) rfl ?_
               refine Ws.cons #[true, true, true, true, true, true, true, true, true, true, true, false] rfl rfl (fun _ hK_96 => ?_) ?_
               ·
                refine Wl.storeS (by kernel_rfl) rfl rfl hB_o25 rfl rfl ?_
                rintro w_s4 hn_s4 hg_s4
                have hz_s4 := hg_s4.size
                have hb := below_blk hb hg_s4 hb.size (by omega)
                have hL := hL_hb.below hb
                have hb2 := below_blk hb2 hg_s4 hb2.size (by omega)
                have hB_o3 := hB_o3_hb2.below hb2
                have hR := hR_hb2.below hb2
                try have hB_o17 := hB_o17.over hg_s4 (by omega)
                have hB_o25 := hn_s4
                refine Wl.nil ?_
                refine Wq.back hK_96 hb2 ?_
                refine Wa.take (i := 11) #[true, true, true, true, true, true, true, true, true, true, true, true] rfl (by kernel_rfl) (fun _ _ _ h => h) rfl (fun wq hq => Yl.ld (y_assign rfl)) hb2 ?_
                refine Wa.done (by kernel_rfl) ?_
                refine Wq.next hK_66 ?_
                refine Wc.seq fun _ hK_98 => ?_
                refine Wc.region ?_
                refine Wl.y (y_move rfl) rfl ?_
                refine Wl.y (y_neqi rfl rfl) rfl ?_
                refine Wl.y (y_move rfl) rfl ?_
                refine Wl.guardF rfl rfl rfl (fun g_102 => ?_) (fun g_102 => ?_)
                ·
                 have g_102_ := g_102
                 try simp only [decide_eq_true_eq, decide_eq_false_iff_not, beq_iff_eq, beq_eq_false_iff_ne, bne_iff_ne, bne_eq_false_iff_eq, Bool.not_eq_true', Bool.not_eq_false', Bool.not_eq_eq_eq_not, Bool.not_true, Bool.not_false, ne_eq, Int.not_lt, Int.not_le] at g_102
                 exact absurd g_102_ (by rw [hn1]; simp)
                ·
                 have g_102_ := g_102
                 try simp only [decide_eq_true_eq, decide_eq_false_iff_not, beq_iff_eq, beq_eq_false_iff_ne, bne_iff_ne, bne_eq_false_iff_eq, Bool.not_eq_true', Bool.not_eq_false', Bool.not_eq_eq_eq_not, Bool.not_true, Bool.not_false, ne_eq, Int.not_lt, Int.not_le] at g_102
                 refine Wl.y (y_move rfl) rfl ?_
                 refine Wl.on' rfl rfl g_102_ ?_
                 refine Wl.y (y_neqi rfl rfl) rfl ?_
                 refine Wl.y (y_pickF rfl g_102_ rfl) rfl ?_
                 refine Wl.y (y_move rfl) rfl ?_
                 refine Wl.guardF rfl rfl rfl (fun g_107 => ?_) (fun g_107 => ?_)
                 ·
                  have g_107_ := g_107
                  try simp only [decide_eq_true_eq, decide_eq_false_iff_not, beq_iff_eq, beq_eq_false_iff_ne, bne_iff_ne, bne_eq_false_iff_eq, Bool.not_eq_true', Bool.not_eq_false', Bool.not_eq_eq_eq_not, Bool.not_true, Bool.not_false, ne_eq, Int.not_lt, Int.not_le] at g_107
                  exact absurd g_107_ (by rw [hn2]; simp)
                 ·
                  have g_107_ := g_107
                  try simp only [decide_eq_true_eq, decide_eq_false_iff_not, beq_iff_eq, beq_eq_false_iff_ne, bne_iff_ne, bne_eq_false_iff_eq, Bool.not_eq_true', Bool.not_eq_false', Bool.not_eq_eq_eq_not, Bool.not_true, Bool.not_false, ne_eq, Int.not_lt, Int.not_le] at g_107
                  refine Wl.y (y_fieldAddr (fa28_0LawE _) rfl) rfl ?_
                  refine Wl.on' rfl rfl g_107_ ?_
                  refine Wl.l (l_load one3LawE rfl (by first | exact hB_o17.at rfl | exact hB_o25.at rfl | exact hB_o3.at rfl | exact hB_o17.cell 0 | exact hB_o25.cell 0 | exact hB_o3.cell 0 | assumption)) rfl ?_
                  refine Wl.on' rfl rfl g_107_ ?_
                  refine Wl.y (y_neqi rfl rfl) rfl ?_
                  refine Wl.y (y_pickF rfl g_107_ rfl) rfl ?_
                  refine Wl.y (y_move rfl) rfl ?_
                  refine Wl.guardF rfl rfl rfl (fun g_113 => ?_) (fun g_113 => ?_)
                  ·
                   have g_113_ := g_113
                   try simp only [decide_eq_true_eq, decide_eq_false_iff_not, beq_iff_eq, beq_eq_false_iff_ne, bne_iff_ne, bne_eq_false_iff_eq, Bool.not_eq_true', Bool.not_eq_false', Bool.not_eq_eq_eq_not, Bool.not_true, Bool.not_false, ne_eq, Int.not_lt, Int.not_le] at g_113
                   exact absurd g_113_ (by rw [hn1]; simp [nullV])
                  ·
                   have g_113_ := g_113
                   try simp only [decide_eq_true_eq, decide_eq_false_iff_not, beq_iff_eq, beq_eq_false_iff_ne, bne_iff_ne, bne_eq_false_iff_eq, Bool.not_eq_true', Bool.not_eq_false', Bool.not_eq_eq_eq_not, Bool.not_true, Bool.not_false, ne_eq, Int.not_lt, Int.not_le] at g_113
                   refine Wl.y (y_fieldAddr (fa28_0LawE _) rfl) rfl ?_
                   refine Wl.on' rfl rfl g_113_ ?_
                   refine Wl.l (l_load one3LawE rfl (by first | exact hB_o17.at rfl | exact hB_o25.at rfl | exact hB_o3.at rfl | exact hB_o17.cell 0 | exact hB_o25.cell 0 | exact hB_o3.cell 0 | assumption)) rfl ?_
                   refine Wl.on' rfl rfl g_113_ ?_
                   refine Wl.y (y_neqi rfl rfl) rfl ?_
                   refine Wl.y (y_pickF rfl g_113_ rfl) rfl ?_
                   refine Wl.nil ?_
                   refine Wq.next hK_98 ?_
                   refine Wc.cond rfl (fun c3_118 => ?_) (fun c3_118 => ?_)
                   ·
                    have c3_118_ := c3_118
                    try simp only [decide_eq_true_eq, decide_eq_false_iff_not, beq_iff_eq, beq_eq_false_iff_ne, bne_iff_ne, bne_eq_false_iff_eq, Bool.not_eq_true', Bool.not_eq_false', Bool.not_eq_eq_eq_not, Bool.not_true, Bool.not_false, ne_eq, Int.not_lt, Int.not_le] at c3_118
                    exact absurd c3_118_ (by rw [hn2]; simp [nullV])
                   ·
                    have c3_118_ := c3_118
                    try simp only [decide_eq_true_eq, decide_eq_false_iff_not, beq_iff_eq, beq_eq_false_iff_ne, bne_iff_ne, bne_eq_false_iff_eq, Bool.not_eq_true', Bool.not_eq_false', Bool.not_eq_eq_eq_not, Bool.not_true, Bool.not_false, ne_eq, Int.not_lt, Int.not_le] at c3_118
                    refine Wc.skip ?_
                    refine Wq.block_normal ?_
                    refine Wq.next hK_33 ?_
                    refine Wc.region ?_
                    refine Wl.y (y_move rfl) rfl ?_
                    refine Wl.y (y_addI rfl rfl (by first | omega | (simp; done) | (simp; omega)) (by first | omega | (simp; done) | (simp; omega))) rfl ?_
                    refine Wl.y (y_assign rfl) rfl ?_
                    refine Wl.nil ?_
                    refine fun a_ ha_ => hL_26 _ _ (i + 1) (by first | omega | (simp; omega)) (Sub.cons' rfl (by first | rfl | exact int_eq (by omega) | exact int_eq (by simp) | (simp; done)) (Sub.cons' rfl (by first | rfl | exact int_eq (by omega) | exact int_eq (by simp) | (simp; done)) (Sub.cons' rfl (by first | rfl | exact int_eq (by omega) | exact int_eq (by simp) | (simp; done)) (Sub.cons' rfl (by first | rfl | exact int_eq (by omega) | exact int_eq (by simp) | (simp; done)) (Sub.nil))))) ?_ a_ ha_
                    exact ⟨by omega, hb, hB_o3, hR⟩
               exact Ws.nil
              exact Ws.nil
             exact Ws.nil
            exact Ws.nil
           ·
            have c2_70_ := c2_70
            try simp only [decide_eq_true_eq, decide_eq_false_iff_not, beq_iff_eq, beq_eq_false_iff_ne, bne_iff_ne, bne_eq_false_iff_eq, Bool.not_eq_true', Bool.not_eq_false', Bool.not_eq_eq_eq_not, Bool.not_true, Bool.not_false, ne_eq, Int.not_lt, Int.not_le] at c2_70
            obtain ⟨hn1, hn2⟩ := nulls_test (i := i) (by have := c2_70; omega) hx
            refine Wc.skip ?_
            refine Wq.next hK_66 ?_
            refine Wc.seq fun _ hK_122 => ?_
            refine Wc.region ?_
            refine Wl.y (y_move rfl) rfl ?_
            refine Wl.y (y_neqi rfl rfl) rfl ?_
            refine Wl.y (y_move rfl) rfl ?_
            refine Wl.guardF rfl rfl rfl (fun g_126 => ?_) (fun g_126 => ?_)
            ·
             have g_126_ := g_126
             try simp only [decide_eq_true_eq, decide_eq_false_iff_not, beq_iff_eq, beq_eq_false_iff_ne, bne_iff_ne, bne_eq_false_iff_eq, Bool.not_eq_true', Bool.not_eq_false', Bool.not_eq_eq_eq_not, Bool.not_true, Bool.not_false, ne_eq, Int.not_lt, Int.not_le] at g_126
             exact absurd g_126_ (by rw [hn1]; simp)
            ·
             have g_126_ := g_126
             try simp only [decide_eq_true_eq, decide_eq_false_iff_not, beq_iff_eq, beq_eq_false_iff_ne, bne_iff_ne, bne_eq_false_iff_eq, Bool.not_eq_true', Bool.not_eq_false', Bool.not_eq_eq_eq_not, Bool.not_true, Bool.not_false, ne_eq, Int.not_lt, Int.not_le] at g_126
             refine Wl.y (y_move rfl) rfl ?_
             refine Wl.on' rfl rfl g_126_ ?_
             refine Wl.y (y_neqi rfl rfl) rfl ?_
             refine Wl.y (y_pickF rfl g_126_ rfl) rfl ?_
             refine Wl.y (y_move rfl) rfl ?_
             refine Wl.guardF rfl rfl rfl (fun g_131 => ?_) (fun g_131 => ?_)
             ·
              have g_131_ := g_131
              try simp only [decide_eq_true_eq, decide_eq_false_iff_not, beq_iff_eq, beq_eq_false_iff_ne, bne_iff_ne, bne_eq_false_iff_eq, Bool.not_eq_true', Bool.not_eq_false', Bool.not_eq_eq_eq_not, Bool.not_true, Bool.not_false, ne_eq, Int.not_lt, Int.not_le] at g_131
              exact absurd g_131_ (by rw [hn2]; simp)
             ·
              have g_131_ := g_131
              try simp only [decide_eq_true_eq, decide_eq_false_iff_not, beq_iff_eq, beq_eq_false_iff_ne, bne_iff_ne, bne_eq_false_iff_eq, Bool.not_eq_true', Bool.not_eq_false', Bool.not_eq_eq_eq_not, Bool.not_true, Bool.not_false, ne_eq, Int.not_lt, Int.not_le] at g_131
              refine Wl.y (y_fieldAddr (fa28_0LawE _) rfl) rfl ?_
              refine Wl.on' rfl rfl g_131_ ?_
              refine Wl.l (l_load one3LawE rfl (by first | exact hB_o17.at rfl | exact hB_o25.at rfl | exact hB_o3.at rfl | exact hB_o17.cell 0 | exact hB_o25.cell 0 | exact hB_o3.cell 0 | assumption)) rfl ?_
              refine Wl.on' rfl rfl g_131_ ?_
              refine Wl.y (y_neqi rfl rfl) rfl ?_
              refine Wl.y (y_pickF rfl g_131_ rfl) rfl ?_
              refine Wl.y (y_move rfl) rfl ?_
              refine Wl.guardF rfl rfl rfl (fun g_137 => ?_) (fun g_137 => ?_)
              ·
               have g_137_ := g_137
               try simp only [decide_eq_true_eq, decide_eq_false_iff_not, beq_iff_eq, beq_eq_false_iff_ne, bne_iff_ne, bne_eq_false_iff_eq, Bool.not_eq_true', Bool.not_eq_false', Bool.not_eq_eq_eq_not, Bool.not_true, Bool.not_false, ne_eq, Int.not_lt, Int.not_le] at g_137
               exact absurd g_137_ (by rw [hn1]; simp [nullV])
              ·
               have g_137_ := g_137
               try simp only [decide_eq_true_eq, decide_eq_false_iff_not, beq_iff_eq, beq_eq_false_iff_ne, bne_iff_ne, bne_eq_false_iff_eq, Bool.not_eq_true', Bool.not_eq_false', Bool.not_eq_eq_eq_not, Bool.not_true, Bool.not_false, ne_eq, Int.not_lt, Int.not_le] at g_137
               refine Wl.y (y_fieldAddr (fa28_0LawE _) rfl) rfl ?_
               refine Wl.on' rfl rfl g_137_ ?_
               refine Wl.l (l_load one3LawE rfl (by first | exact hB_o17.at rfl | exact hB_o25.at rfl | exact hB_o3.at rfl | exact hB_o17.cell 0 | exact hB_o25.cell 0 | exact hB_o3.cell 0 | assumption)) rfl ?_
               refine Wl.on' rfl rfl g_137_ ?_
               refine Wl.y (y_neqi rfl rfl) rfl ?_
               refine Wl.y (y_pickF rfl g_137_ rfl) rfl ?_
               refine Wl.nil ?_
               refine Wq.next hK_122 ?_
               refine Wc.cond rfl (fun c3_142 => ?_) (fun c3_142 => ?_)
               ·
                have c3_142_ := c3_142
                try simp only [decide_eq_true_eq, decide_eq_false_iff_not, beq_iff_eq, beq_eq_false_iff_ne, bne_iff_ne, bne_eq_false_iff_eq, Bool.not_eq_true', Bool.not_eq_false', Bool.not_eq_eq_eq_not, Bool.not_true, Bool.not_false, ne_eq, Int.not_lt, Int.not_le] at c3_142
                exact absurd c3_142_ (by rw [hn2]; simp [nullV])
               ·
                have c3_142_ := c3_142
                try simp only [decide_eq_true_eq, decide_eq_false_iff_not, beq_iff_eq, beq_eq_false_iff_ne, bne_iff_ne, bne_eq_false_iff_eq, Bool.not_eq_true', Bool.not_eq_false', Bool.not_eq_eq_eq_not, Bool.not_true, Bool.not_false, ne_eq, Int.not_lt, Int.not_le] at c3_142
                refine Wc.skip ?_
                refine Wq.block_normal ?_
                refine Wq.next hK_33 ?_
                refine Wc.region ?_
                refine Wl.y (y_move rfl) rfl ?_
                refine Wl.y (y_addI rfl rfl (by first | omega | (simp; done) | (simp; omega)) (by first | omega | (simp; done) | (simp; omega))) rfl ?_
                refine Wl.y (y_assign rfl) rfl ?_
                refine Wl.nil ?_
                refine fun a_ ha_ => hL_26 _ _ (i + 1) (by first | omega | (simp; omega)) (Sub.cons' rfl (by first | rfl | exact int_eq (by omega) | exact int_eq (by simp) | (simp; done)) (Sub.cons' rfl (by first | rfl | exact int_eq (by omega) | exact int_eq (by simp) | (simp; done)) (Sub.cons' rfl (by first | rfl | exact int_eq (by omega) | exact int_eq (by simp) | (simp; done)) (Sub.cons' rfl (by first | rfl | exact int_eq (by omega) | exact int_eq (by simp) | (simp; done)) (Sub.nil))))) ?_ a_ ha_
                exact ⟨by omega, hb, hB_o3, hR⟩
          exact Ws.nil
         exact Ws.nil
        refine Ws.cons #[true, true, true, true, true, true, false, false, false, false, true, false, false] rfl rfl (fun _ hK_146 => ?_) ?_
        ·
         refine Wl.allocN (z := (.agg #[(.int .i64 0), (.int .i64 0), (.float .f64 0), (str [])])) (by kernel_rfl) rfl ?_
         rintro g_o25 w_o25 hg_o25 hn_o25 hs_o25
         have hz_o25 := hs_o25.size
         have hb := hb.trans (hs_o25.mono hb.size)
         have hL := hL_hb.below hb
         have hb2 := hb2.trans (hs_o25.mono hb2.size)
         have hB_o3 := hB_o3_hb2.below hb2
         have hR := hR_hb2.below hb2
         try have hB_o17 := Blk.below hB_o17 hs_o25
         have hB_o25 := hn_o25
         have hl_o25 := hB_o25.lt
         refine Wl.nil ?_
         refine Wq.back hK_146 hb2 ?_
         refine Wa.some (rs := [6]) (by kernel_rfl) rfl ?_
         refine Ws.cons #[true, true, true, true, true, true, true, false, false, false, true, false, false] rfl rfl (fun _ hK_148 => ?_) ?_
         ·
          refine Wl.call txt17LawE rfl rfl (Test_r _ nullV r.val ok_null o.val _) rfl ?_
          rintro _ w_k5 ⟨rfl, hs_k5⟩
          have hz_k5 := hs_k5.size
          have hb := hb.trans (hs_k5.mono hb.size)
          have hL := hL_hb.below hb
          have hb2 := hb2.trans (hs_k5.mono hb2.size)
          have hB_o3 := hB_o3_hb2.below hb2
          have hR := hR_hb2.below hb2
          try have hB_o17 := Blk.below hB_o17 hs_k5
          try have hB_o25 := Blk.below hB_o25 hs_k5
          refine Wl.nil ?_
          refine Wq.back hK_148 hb2 ?_
          refine Wa.take (i := 7) #[true, true, true, true, true, true, true, true, false, false, true, false, false] rfl (by kernel_rfl) (fun _ _ _ h => h) rfl (fun wq hq => Yl.ld (y_move rfl)) hb2 ?_
          refine Wa.take (i := 8) #[true, true, true, true, true, true, true, true, true, false, true, false, false] rfl (by kernel_rfl) (fun _ _ _ h => h) rfl (fun wq hq => Yl.ld (y_extract rfl rfl)) hb2 ?_
          refine Wa.take (i := 9) #[true, true, true, true, true, true, true, true, true, true, true, false, false] rfl (by kernel_rfl) (fun _ _ _ h => h) rfl (fun wq hq => Yl.ld (y_extract rfl rfl)) hb2 ?_
          refine Wa.some (rs := [11]) (by kernel_rfl) rfl ?_
          refine Ws.cons #[true, true, true, true, true, true, true, true, true, true, true, true, false] rfl rfl (fun _ hK_153 => ?_) ?_
          ·
           refine Wl.storeS (by kernel_rfl) rfl rfl hB_o25 rfl rfl ?_
           rintro w_s2 hn_s2 hg_s2
           have hz_s2 := hg_s2.size
           have hb := below_blk hb hg_s2 hb.size (by omega)
           have hL := hL_hb.below hb
           have hb2 := below_blk hb2 hg_s2 hb2.size (by omega)
           have hB_o3 := hB_o3_hb2.below hb2
           have hR := hR_hb2.below hb2
           try have hB_o17 := hB_o17.over hg_s2 (by omega)
           have hB_o25 := hn_s2
           refine Wl.nil ?_
           refine Wq.back hK_153 hb2 ?_
           refine Wa.take (i := 12) #[true, true, true, true, true, true, true, true, true, true, true, true, true] rfl (by kernel_rfl) (fun _ _ _ h => h) rfl (fun wq hq => Yl.ld (y_assign rfl)) hb2 ?_
           refine Wa.done (by kernel_rfl) ?_
           refine Wq.next hK_50 ?_
           refine Wc.seq fun _ hK_155 => ?_
           refine Wc.seq fun _ hK_156 => ?_
           refine Wc.region ?_
           refine Wl.y (y_move rfl) rfl ?_
           refine Wl.y (y_geqi rfl rfl) rfl ?_
           refine Wl.nil ?_
           refine Wq.next hK_156 ?_
           refine Wc.cond rfl (fun c2_159 => ?_) (fun c2_159 => ?_)
           ·
            have c2_159_ := c2_159
            try simp only [decide_eq_true_eq, decide_eq_false_iff_not, beq_iff_eq, beq_eq_false_iff_ne, bne_iff_ne, bne_eq_false_iff_eq, Bool.not_eq_true', Bool.not_eq_false', Bool.not_eq_eq_eq_not, Bool.not_true, Bool.not_false, ne_eq, Int.not_lt, Int.not_le] at c2_159
            obtain ⟨hn1, hn2⟩ := nulls_reck (i := i) (by have := c2_159; omega) (by omega) hx
            refine Wc.seq fun _ hK_160 => ?_
            refine Wc.any (n := 12) (fun w' => Below wr.heap.size wr w') #[false, false, false, false, false, false, false, false, false, false, false, false] (by kernel_rfl) rfl (by kernel_rfl) ?_
            refine Wa.drew ?_
            rintro w_g11 hs_g11
            have hz_g11 := hs_g11.size
            have hb := hb.trans (hs_g11.mono hb.size)
            have hL := hL_hb.below hb
            have hb2 := hb2.trans (hs_g11.mono hb2.size)
            have hB_o3 := hB_o3_hb2.below hb2
            have hR := hR_hb2.below hb2
            try have hB_o17 := Blk.below hB_o17 hs_g11
            try have hB_o25 := Blk.below hB_o25 hs_g11
            refine Wa.take (i := 0) #[true, false, false, false, false, false, false, false, false, false, false, false] rfl (by kernel_rfl) (fun _ _ _ h => h) rfl (fun wq hq => Yl.ld (y_move rfl)) hb2 ?_
            refine Wa.take (i := 1) #[true, true, false, false, false, false, false, false, false, false, false, false] rfl (by kernel_rfl) (fun _ _ _ h => h) rfl (fun wq hq => Yl.ld (y_move rfl)) hb2 ?_
            refine Wa.take (i := 2) #[true, true, true, false, false, false, false, false, false, false, false, false] rfl (by kernel_rfl) (fun _ _ _ h => h) rfl (fun wq hq => Yl.ld (y_indexAddr Tryz.underlying30 sz9LawE rfl rfl (by omega) (by omega))) hb2 ?_
            refine Wa.take (i := 3) #[true, true, true, true, false, false, false, false, false, false, false, false] rfl (by kernel_rfl) (fun _ _ _ h => h) rfl (fun wq hq => l_load one9LawE rfl (by have hB_o3 := hB_o3_hb2.below hq; have hR := hR_hb2.below hq; exact at1 (cell_below hq hcell))) hb2 ?_
            refine Wa.take (i := 4) #[true, true, true, true, true, false, false, false, false, false, false, false] rfl (by kernel_rfl) (fun _ _ _ h => h) rfl (fun wq hq => l_loadS Tryz.underlying28 (by kernel_rfl) rfl (by have hB_o3 := hB_o3_hb2.below hq; have hR := hR_hb2.below hq; first | exact fun j u hu => hB_o17.at hu | exact fun j u hu => hB_o25.at hu | exact fun j u hu => hB_o3.at hu | assumption)) hb2 ?_
            refine Wa.take (i := 5) #[true, true, true, true, true, true, false, false, false, false, false, false] rfl (by kernel_rfl) (fun _ _ _ h => h) rfl (fun wq hq => Yl.ld (y_buildS (z := [(.int .i64 0), (.int .i64 0), (.float .f64 0), (str [])]) (pl := [(0, 1), (1, 1), (2, 1), (3, 1)]) (cs := [_, _, _, _]) Tryz.underlying28 (by kernel_rfl) (by kernel_rfl) rfl rfl rfl)) hb2 ?_
            refine Wa.some (rs := [6]) (by kernel_rfl) rfl ?_
            refine Ws.cons #[true, true, true, true, true, true, true, false, false, false, false, false] rfl rfl (fun _ hK_167 => ?_) ?_
            ·
             refine Wl.call txt20LawE rfl rfl (Reckon_r _ r.val nullV o.val ok_null _) rfl ?_
             rintro _ w_k6 ⟨rfl, hs_k6⟩
             have hz_k6 := hs_k6.size
             have hb := hb.trans (hs_k6.mono hb.size)
             have hL := hL_hb.below hb
             have hb2 := hb2.trans (hs_k6.mono hb2.size)
             have hB_o3 := hB_o3_hb2.below hb2
             have hR := hR_hb2.below hb2
             try have hB_o17 := Blk.below hB_o17 hs_k6
             try have hB_o25 := Blk.below hB_o25 hs_k6
             refine Wl.nil ?_
             refine Wq.back hK_167 hb2 ?_
             refine Wa.take (i := 7) #[true, true, true, true, true, true, true, true, false, false, false, false] rfl (by kernel_rfl) (fun _ _ _ h => h) rfl (fun wq hq => Yl.ld (y_move rfl)) hb2 ?_
             refine Wa.take (i := 8) #[true, true, true, true, true, true, true, true, true, false, false, false] rfl (by kernel_rfl) (fun _ _ _ h => h) rfl (fun wq hq => Yl.ld (y_extract rfl rfl)) hb2 ?_
             refine Wa.take (i := 9) #[true, true, true, true, true, true, true, true, true, true, false, false] rfl (by kernel_rfl) (fun _ _ _ h => h) rfl (fun wq hq => Yl.ld (y_extract rfl rfl)) hb2 ?_
             refine Wa.some (rs := [10]) (by kernel_rfl) rfl ?_
             refine Ws.cons #[true, true, true, true, true, true, true, true, true, true, true, false] rfl rfl (fun _ hK_172 => ?_) ?_
             ·
              refine Wl.storeS (by kernel_rfl) rfl rfl hB_o17 rfl rfl ?_
              rintro w_s3 hn_s3 hg_s3
              have hz_s3 := hg_s3.size
              have hb := below_blk hb hg_s3 hb.size (by omega)
              have hL := hL_hb.below hb
              have hb2 := below_blk hb2 hg_s3 hb2.size (by omega)
              have hB_o3 := hB_o3_hb2.below hb2
              have hR := hR_hb2.below hb2
              try have hB_o25 := hB_o25.over hg_s3 (by omega)
              have hB_o17 := hn_s3
              refine Wl.nil ?_
              refine Wq.back hK_172 hb2 ?_
              refine Wa.take (i := 11) #[true, true, true, true, true, true, true, true, true, true, true, true] rfl (by kernel_rfl) (fun _ _ _ h => h) rfl (fun wq hq => Yl.ld (y_assign rfl)) hb2 ?_
              refine Wa.done (by kernel_rfl) ?_
              refine Wq.next hK_160 ?_
              refine Wc.any (n := 12) (fun w' => Below wr.heap.size wr w') #[false, false, false, false, false, false, false, false, false, false, false, false] (by kernel_rfl) rfl (by kernel_rfl) ?_
              refine Wa.drew ?_
              rintro w_g12 hs_g12
              have hz_g12 := hs_g12.size
              have hb := hb.trans (hs_g12.mono hb.size)
              have hL := hL_hb.below hb
              have hb2 := hb2.trans (hs_g12.mono hb2.size)
              have hB_o3 := hB_o3_hb2.below hb2
              have hR := hR_hb2.below hb2
              try have hB_o17 := Blk.below hB_o17 hs_g12
              try have hB_o25 := Blk.below hB_o25 hs_g12
              refine Wa.take (i := 0) #[true, false, false, false, false, false, false, false, false, false, false, false] rfl (by kernel_rfl) (fun _ _ _ h => h) rfl (fun wq hq => Yl.ld (y_move rfl)) hb2 ?_
              refine Wa.take (i := 1) #[true, true, false, false, false, false, false, false, false, false, false, false] rfl (by kernel_rfl) (fun _ _ _ h => h) rfl (fun wq hq => Yl.ld (y_move rfl)) hb2 ?_
              refine Wa.take (i := 2) #[true, true, true, false, false, false, false, false, false, false, false, false] rfl (by kernel_rfl) (fun _ _ _ h => h) rfl (fun wq hq => Yl.ld (y_indexAddr Tryz.underlying30 sz9LawE rfl rfl (by omega) (by omega))) hb2 ?_
              refine Wa.take (i := 3) #[true, true, true, true, false, false, false, false, false, false, false, false] rfl (by kernel_rfl) (fun _ _ _ h => h) rfl (fun wq hq => l_load one9LawE rfl (by have hB_o3 := hB_o3_hb2.below hq; have hR := hR_hb2.below hq; exact at1 (cell_below hq hcell))) hb2 ?_
              refine Wa.take (i := 4) #[true, true, true, true, true, false, false, false, false, false, false, false] rfl (by kernel_rfl) (fun _ _ _ h => h) rfl (fun wq hq => Yl.ld (y_buildS (z := [(.int .i64 0), (.int .i64 0), (.float .f64 0), (str [])]) (pl := [(0, 1), (1, 1), (2, 1), (3, 1)]) (cs := [_, _, _, _]) Tryz.underlying28 (by kernel_rfl) (by kernel_rfl) rfl rfl rfl)) hb2 ?_
              refine Wa.take (i := 5) #[true, true, true, true, true, true, false, false, false, false, false, false] rfl (by kernel_rfl) (fun _ _ _ h => h) rfl (fun wq hq => l_loadS Tryz.underlying28 (by kernel_rfl) rfl (by have hB_o3 := hB_o3_hb2.below hq; have hR := hR_hb2.below hq; first | exact fun j u hu => hB_o17.at hu | exact fun j u hu => hB_o25.at hu | exact fun j u hu => hB_o3.at hu | assumption)) hb2 ?_
              refine Wa.some (rs := [6]) (by kernel_rfl) rfl ?_
              refine Ws.cons #[true, true, true, true, true, true, true, false, false, false, false, false] rfl rfl (fun _ hK_180 => ?_) ?_
              ·
               refine Wl.call txt20LawE rfl rfl (Reckon_r _ nullV r.val ok_null o.val _) rfl ?_
               rintro _ w_k7 ⟨rfl, hs_k7⟩
               have hz_k7 := hs_k7.size
               have hb := hb.trans (hs_k7.mono hb.size)
               have hL := hL_hb.below hb
               have hb2 := hb2.trans (hs_k7.mono hb2.size)
               have hB_o3 := hB_o3_hb2.below hb2
               have hR := hR_hb2.below hb2
               try have hB_o17 := Blk.below hB_o17 hs_k7
               try have hB_o25 := Blk.below hB_o25 hs_k7
               refine Wl.nil ?_
               refine Wq.back hK_180 hb2 ?_
               refine Wa.take (i := 7) #[true, true, true, true, true, true, true, true, false, false, false, false] rfl (by kernel_rfl) (fun _ _ _ h => h) rfl (fun wq hq => Yl.ld (y_move rfl)) hb2 ?_
               refine Wa.take (i := 8) #[true, true, true, true, true, true, true, true, true, false, false, false] rfl (by kernel_rfl) (fun _ _ _ h => h) rfl (fun wq hq => Yl.ld (y_extract rfl rfl)) hb2 ?_
               refine Wa.take (i := 9) #[true, true, true, true, true, true, true, true, true, true, false, false] rfl (by kernel_rfl) (fun _ _ _ h => h) rfl (fun wq hq => Yl.ld (y_extract rfl rfl)) hb2 ?_
               refine Wa.some (rs := [10]) (by kernel_rfl) rfl ?_
               refine Ws.cons #[true, true, true, true, true, true, true, true, true, true, true, false] rfl rfl (fun _ hK_185 => ?_) ?_
               ·
                refine Wl.storeS (by kernel_rfl) rfl rfl hB_o25 rfl rfl ?_
                rintro w_s4 hn_s4 hg_s4
                have hz_s4 := hg_s4.size
                have hb := below_blk hb hg_s4 hb.size (by omega)
                have hL := hL_hb.below hb
                have hb2 := below_blk hb2 hg_s4 hb2.size (by omega)
                have hB_o3 := hB_o3_hb2.below hb2
                have hR := hR_hb2.below hb2
                try have hB_o17 := hB_o17.over hg_s4 (by omega)
                have hB_o25 := hn_s4
                refine Wl.nil ?_
                refine Wq.back hK_185 hb2 ?_
                refine Wa.take (i := 11) #[true, true, true, true, true, true, true, true, true, true, true, true] rfl (by kernel_rfl) (fun _ _ _ h => h) rfl (fun wq hq => Yl.ld (y_assign rfl)) hb2 ?_
                refine Wa.done (by kernel_rfl) ?_
                refine Wq.next hK_155 ?_
                refine Wc.seq fun _ hK_187 => ?_
                refine Wc.region ?_
                refine Wl.y (y_move rfl) rfl ?_
                refine Wl.y (y_neqi rfl rfl) rfl ?_
                refine Wl.y (y_move rfl) rfl ?_
                refine Wl.guardF rfl rfl rfl (fun g_191 => ?_) (fun g_191 => ?_)
                ·
                 have g_191_ := g_191
                 try simp only [decide_eq_true_eq, decide_eq_false_iff_not, beq_iff_eq, beq_eq_false_iff_ne, bne_iff_ne, bne_eq_false_iff_eq, Bool.not_eq_true', Bool.not_eq_false', Bool.not_eq_eq_eq_not, Bool.not_true, Bool.not_false, ne_eq, Int.not_lt, Int.not_le] at g_191
                 exact absurd g_191_ (by rw [hn1]; simp)
                ·
                 have g_191_ := g_191
                 try simp only [decide_eq_true_eq, decide_eq_false_iff_not, beq_iff_eq, beq_eq_false_iff_ne, bne_iff_ne, bne_eq_false_iff_eq, Bool.not_eq_true', Bool.not_eq_false', Bool.not_eq_eq_eq_not, Bool.not_true, Bool.not_false, ne_eq, Int.not_lt, Int.not_le] at g_191
                 refine Wl.y (y_move rfl) rfl ?_
                 refine Wl.on' rfl rfl g_191_ ?_
                 refine Wl.y (y_neqi rfl rfl) rfl ?_
                 refine Wl.y (y_pickF rfl g_191_ rfl) rfl ?_
                 refine Wl.y (y_move rfl) rfl ?_
                 refine Wl.guardF rfl rfl rfl (fun g_196 => ?_) (fun g_196 => ?_)
                 ·
                  have g_196_ := g_196
                  try simp only [decide_eq_true_eq, decide_eq_false_iff_not, beq_iff_eq, beq_eq_false_iff_ne, bne_iff_ne, bne_eq_false_iff_eq, Bool.not_eq_true', Bool.not_eq_false', Bool.not_eq_eq_eq_not, Bool.not_true, Bool.not_false, ne_eq, Int.not_lt, Int.not_le] at g_196
                  exact absurd g_196_ (by rw [hn2]; simp)
                 ·
                  have g_196_ := g_196
                  try simp only [decide_eq_true_eq, decide_eq_false_iff_not, beq_iff_eq, beq_eq_false_iff_ne, bne_iff_ne, bne_eq_false_iff_eq, Bool.not_eq_true', Bool.not_eq_false', Bool.not_eq_eq_eq_not, Bool.not_true, Bool.not_false, ne_eq, Int.not_lt, Int.not_le] at g_196
                  refine Wl.y (y_fieldAddr (fa28_0LawE _) rfl) rfl ?_
                  refine Wl.on' rfl rfl g_196_ ?_
                  refine Wl.l (l_load one3LawE rfl (by first | exact hB_o17.at rfl | exact hB_o25.at rfl | exact hB_o3.at rfl | exact hB_o17.cell 0 | exact hB_o25.cell 0 | exact hB_o3.cell 0 | assumption)) rfl ?_
                  refine Wl.on' rfl rfl g_196_ ?_
                  refine Wl.y (y_neqi rfl rfl) rfl ?_
                  refine Wl.y (y_pickF rfl g_196_ rfl) rfl ?_
                  refine Wl.y (y_move rfl) rfl ?_
                  refine Wl.guardF rfl rfl rfl (fun g_202 => ?_) (fun g_202 => ?_)
                  ·
                   have g_202_ := g_202
                   try simp only [decide_eq_true_eq, decide_eq_false_iff_not, beq_iff_eq, beq_eq_false_iff_ne, bne_iff_ne, bne_eq_false_iff_eq, Bool.not_eq_true', Bool.not_eq_false', Bool.not_eq_eq_eq_not, Bool.not_true, Bool.not_false, ne_eq, Int.not_lt, Int.not_le] at g_202
                   exact absurd g_202_ (by rw [hn1]; simp [nullV])
                  ·
                   have g_202_ := g_202
                   try simp only [decide_eq_true_eq, decide_eq_false_iff_not, beq_iff_eq, beq_eq_false_iff_ne, bne_iff_ne, bne_eq_false_iff_eq, Bool.not_eq_true', Bool.not_eq_false', Bool.not_eq_eq_eq_not, Bool.not_true, Bool.not_false, ne_eq, Int.not_lt, Int.not_le] at g_202
                   refine Wl.y (y_fieldAddr (fa28_0LawE _) rfl) rfl ?_
                   refine Wl.on' rfl rfl g_202_ ?_
                   refine Wl.l (l_load one3LawE rfl (by first | exact hB_o17.at rfl | exact hB_o25.at rfl | exact hB_o3.at rfl | exact hB_o17.cell 0 | exact hB_o25.cell 0 | exact hB_o3.cell 0 | assumption)) rfl ?_
                   refine Wl.on' rfl rfl g_202_ ?_
                   refine Wl.y (y_neqi rfl rfl) rfl ?_
                   refine Wl.y (y_pickF rfl g_202_ rfl) rfl ?_
                   refine Wl.nil ?_
                   refine Wq.next hK_187 ?_
                   refine Wc.cond rfl (fun c3_207 => ?_) (fun c3_207 => ?_)
                   ·
                    have c3_207_ := c3_207
                    try simp only [decide_eq_true_eq, decide_eq_false_iff_not, beq_iff_eq, beq_eq_false_iff_ne, bne_iff_ne, bne_eq_false_iff_eq, Bool.not_eq_true', Bool.not_eq_false', Bool.not_eq_eq_eq_not, Bool.not_true, Bool.not_false, ne_eq, Int.not_lt, Int.not_le] at c3_207
                    exact absurd c3_207_ (by rw [hn2]; simp [nullV])
                   ·
                    have c3_207_ := c3_207
                    try simp only [decide_eq_true_eq, decide_eq_false_iff_not, beq_iff_eq, beq_eq_false_iff_ne, bne_iff_ne, bne_eq_false_iff_eq, Bool.not_eq_true', Bool.not_eq_false', Bool.not_eq_eq_eq_not, Bool.not_true, Bool.not_false, ne_eq, Int.not_lt, Int.not_le] at c3_207
                    refine Wc.skip ?_
                    refine Wq.block_normal ?_
                    refine Wq.next hK_33 ?_
                    refine Wc.region ?_
                    refine Wl.y (y_move rfl) rfl ?_
                    refine Wl.y (y_addI rfl rfl (by first | omega | (simp; done) | (simp; omega)) (by first | omega | (simp; done) | (simp; omega))) rfl ?_
                    refine Wl.y (y_assign rfl) rfl ?_
                    refine Wl.nil ?_
                    refine fun a_ ha_ => hL_26 _ _ (i + 1) (by first | omega | (simp; omega)) (Sub.cons' rfl (by first | rfl | exact int_eq (by omega) | exact int_eq (by simp) | (simp; done)) (Sub.cons' rfl (by first | rfl | exact int_eq (by omega) | exact int_eq (by simp) | (simp; done)) (Sub.cons' rfl (by first | rfl | exact int_eq (by omega) | exact int_eq (by simp) | (simp; done)) (Sub.cons' rfl (by first | rfl | exact int_eq (by omega) | exact int_eq (by simp) | (simp; done)) (Sub.nil))))) ?_ a_ ha_
                    exact ⟨by omega, hb, hB_o3, hR⟩
               exact Ws.nil
              exact Ws.nil
             exact Ws.nil
            exact Ws.nil
           ·
            have c2_159_ := c2_159
            try simp only [decide_eq_true_eq, decide_eq_false_iff_not, beq_iff_eq, beq_eq_false_iff_ne, bne_iff_ne, bne_eq_false_iff_eq, Bool.not_eq_true', Bool.not_eq_false', Bool.not_eq_eq_eq_not, Bool.not_true, Bool.not_false, ne_eq, Int.not_lt, Int.not_le] at c2_159
            obtain ⟨hn1, hn2⟩ := nulls_test (i := i) (by have := c2_159; omega) hx
            refine Wc.skip ?_
            refine Wq.next hK_155 ?_
            refine Wc.seq fun _ hK_211 => ?_
            refine Wc.region ?_
            refine Wl.y (y_move rfl) rfl ?_
            refine Wl.y (y_neqi rfl rfl) rfl ?_
            refine Wl.y (y_move rfl) rfl ?_
            refine Wl.guardF rfl rfl rfl (fun g_215 => ?_) (fun g_215 => ?_)
            ·
             have g_215_ := g_215
             try simp only [decide_eq_true_eq, decide_eq_false_iff_not, beq_iff_eq, beq_eq_false_iff_ne, bne_iff_ne, bne_eq_false_iff_eq, Bool.not_eq_true', Bool.not_eq_false', Bool.not_eq_eq_eq_not, Bool.not_true, Bool.not_false, ne_eq, Int.not_lt, Int.not_le] at g_215
             exact absurd g_215_ (by rw [hn1]; simp)
            ·
             have g_215_ := g_215
             try simp only [decide_eq_true_eq, decide_eq_false_iff_not, beq_iff_eq, beq_eq_false_iff_ne, bne_iff_ne, bne_eq_false_iff_eq, Bool.not_eq_true', Bool.not_eq_false', Bool.not_eq_eq_eq_not, Bool.not_true, Bool.not_false, ne_eq, Int.not_lt, Int.not_le] at g_215
             refine Wl.y (y_move rfl) rfl ?_
             refine Wl.on' rfl rfl g_215_ ?_
             refine Wl.y (y_neqi rfl rfl) rfl ?_
             refine Wl.y (y_pickF rfl g_215_ rfl) rfl ?_
             refine Wl.y (y_move rfl) rfl ?_
             refine Wl.guardF rfl rfl rfl (fun g_220 => ?_) (fun g_220 => ?_)
             ·
              have g_220_ := g_220
              try simp only [decide_eq_true_eq, decide_eq_false_iff_not, beq_iff_eq, beq_eq_false_iff_ne, bne_iff_ne, bne_eq_false_iff_eq, Bool.not_eq_true', Bool.not_eq_false', Bool.not_eq_eq_eq_not, Bool.not_true, Bool.not_false, ne_eq, Int.not_lt, Int.not_le] at g_220
              exact absurd g_220_ (by rw [hn2]; simp)
             ·
              have g_220_ := g_220
              try simp only [decide_eq_true_eq, decide_eq_false_iff_not, beq_iff_eq, beq_eq_false_iff_ne, bne_iff_ne, bne_eq_false_iff_eq, Bool.not_eq_true', Bool.not_eq_false', Bool.not_eq_eq_eq_not, Bool.not_true, Bool.not_false, ne_eq, Int.not_lt, Int.not_le] at g_220
              refine Wl.y (y_fieldAddr (fa28_0LawE _) rfl) rfl ?_
              refine Wl.on' rfl rfl g_220_ ?_
              refine Wl.l (l_load one3LawE rfl (by first | exact hB_o17.at rfl | exact hB_o25.at rfl | exact hB_o3.at rfl | exact hB_o17.cell 0 | exact hB_o25.cell 0 | exact hB_o3.cell 0 | assumption)) rfl ?_
              refine Wl.on' rfl rfl g_220_ ?_
              refine Wl.y (y_neqi rfl rfl) rfl ?_
              refine Wl.y (y_pickF rfl g_220_ rfl) rfl ?_
              refine Wl.y (y_move rfl) rfl ?_
              refine Wl.guardF rfl rfl rfl (fun g_226 => ?_) (fun g_226 => ?_)
              ·
               have g_226_ := g_226
               try simp only [decide_eq_true_eq, decide_eq_false_iff_not, beq_iff_eq, beq_eq_false_iff_ne, bne_iff_ne, bne_eq_false_iff_eq, Bool.not_eq_true', Bool.not_eq_false', Bool.not_eq_eq_eq_not, Bool.not_true, Bool.not_false, ne_eq, Int.not_lt, Int.not_le] at g_226
               exact absurd g_226_ (by rw [hn1]; simp [nullV])
              ·
               have g_226_ := g_226
               try simp only [decide_eq_true_eq, decide_eq_false_iff_not, beq_iff_eq, beq_eq_false_iff_ne, bne_iff_ne, bne_eq_false_iff_eq, Bool.not_eq_true', Bool.not_eq_false', Bool.not_eq_eq_eq_not, Bool.not_true, Bool.not_false, ne_eq, Int.not_lt, Int.not_le] at g_226
               refine Wl.y (y_fieldAddr (fa28_0LawE _) rfl) rfl ?_
               refine Wl.on' rfl rfl g_226_ ?_
               refine Wl.l (l_load one3LawE rfl (by first | exact hB_o17.at rfl | exact hB_o25.at rfl | exact hB_o3.at rfl | exact hB_o17.cell 0 | exact hB_o25.cell 0 | exact hB_o3.cell 0 | assumption)) rfl ?_
               refine Wl.on' rfl rfl g_226_ ?_
               refine Wl.y (y_neqi rfl rfl) rfl ?_
               refine Wl.y (y_pickF rfl g_226_ rfl) rfl ?_
               refine Wl.nil ?_
               refine Wq.next hK_211 ?_
               refine Wc.cond rfl (fun c3_231 => ?_) (fun c3_231 => ?_)
               ·
                have c3_231_ := c3_231
                try simp only [decide_eq_true_eq, decide_eq_false_iff_not, beq_iff_eq, beq_eq_false_iff_ne, bne_iff_ne, bne_eq_false_iff_eq, Bool.not_eq_true', Bool.not_eq_false', Bool.not_eq_eq_eq_not, Bool.not_true, Bool.not_false, ne_eq, Int.not_lt, Int.not_le] at c3_231
                exact absurd c3_231_ (by rw [hn2]; simp [nullV])
               ·
                have c3_231_ := c3_231
                try simp only [decide_eq_true_eq, decide_eq_false_iff_not, beq_iff_eq, beq_eq_false_iff_ne, bne_iff_ne, bne_eq_false_iff_eq, Bool.not_eq_true', Bool.not_eq_false', Bool.not_eq_eq_eq_not, Bool.not_true, Bool.not_false, ne_eq, Int.not_lt, Int.not_le] at c3_231
                refine Wc.skip ?_
                refine Wq.block_normal ?_
                refine Wq.next hK_33 ?_
                refine Wc.region ?_
                refine Wl.y (y_move rfl) rfl ?_
                refine Wl.y (y_addI rfl rfl (by first | omega | (simp; done) | (simp; omega)) (by first | omega | (simp; done) | (simp; omega))) rfl ?_
                refine Wl.y (y_assign rfl) rfl ?_
                refine Wl.nil ?_
                refine fun a_ ha_ => hL_26 _ _ (i + 1) (by first | omega | (simp; omega)) (Sub.cons' rfl (by first | rfl | exact int_eq (by omega) | exact int_eq (by simp) | (simp; done)) (Sub.cons' rfl (by first | rfl | exact int_eq (by omega) | exact int_eq (by simp) | (simp; done)) (Sub.cons' rfl (by first | rfl | exact int_eq (by omega) | exact int_eq (by simp) | (simp; done)) (Sub.cons' rfl (by first | rfl | exact int_eq (by omega) | exact int_eq (by simp) | (simp; done)) (Sub.nil))))) ?_ a_ ha_
                exact ⟨by omega, hb, hB_o3, hR⟩
          exact Ws.nil
         exact Ws.nil
        exact Ws.nil
       exact Ws.nil
      exact Ws.nil
     refine Ws.cons #[true, true, true, true, true, true, false, false, false, false, true, false, false] rfl rfl (fun _ hK_235 => ?_) ?_
     ·
      refine Wl.allocN (z := (.agg #[(.int .i64 0), (.int .i64 0), (.float .f64 0), (str [])])) (by kernel_rfl) rfl ?_
      rintro g_o17 w_o17 hg_o17 hn_o17 hs_o17
      have hz_o17 := hs_o17.size
      have hb := hb.trans (hs_o17.mono hb.size)
      have hL := hL_hb.below hb
      have hb2 := hb2.trans (hs_o17.mono hb2.size)
      have hB_o3 := hB_o3_hb2.below hb2
      have hR := hR_hb2.below hb2
      have hB_o17 := hn_o17
      have hl_o17 := hB_o17.lt
      refine Wl.nil ?_
      refine Wq.back hK_235 hb2 ?_
      refine Wa.some (rs := [6]) (by kernel_rfl) rfl ?_
      refine Ws.cons #[true, true, true, true, true, true, true, false, false, false, true, false, false] rfl rfl (fun _ hK_237 => ?_) ?_
      ·
       refine Wl.call txt17LawE rfl rfl (Test_r _ r.val nullV o.val ok_null _) rfl ?_
       rintro _ w_k4 ⟨rfl, hs_k4⟩
       have hz_k4 := hs_k4.size
       have hb := hb.trans (hs_k4.mono hb.size)
       have hL := hL_hb.below hb
       have hb2 := hb2.trans (hs_k4.mono hb2.size)
       have hB_o3 := hB_o3_hb2.below hb2
       have hR := hR_hb2.below hb2
       try have hB_o17 := Blk.below hB_o17 hs_k4
       refine Wl.nil ?_
       refine Wq.back hK_237 hb2 ?_
       refine Wa.take (i := 7) #[true, true, true, true, true, true, true, true, false, false, true, false, false] rfl (by kernel_rfl) (fun _ _ _ h => h) rfl (fun wq hq => Yl.ld (y_move rfl)) hb2 ?_
       refine Wa.take (i := 8) #[true, true, true, true, true, true, true, true, true, false, true, false, false] rfl (by kernel_rfl) (fun _ _ _ h => h) rfl (fun wq hq => Yl.ld (y_extract rfl rfl)) hb2 ?_
       refine Wa.take (i := 9) #[true, true, true, true, true, true, true, true, true, true, true, false, false] rfl (by kernel_rfl) (fun _ _ _ h => h) rfl (fun wq hq => Yl.ld (y_extract rfl rfl)) hb2 ?_
       refine Wa.some (rs := [11]) (by kernel_rfl) rfl ?_
       refine Ws.cons #[true, true, true, true, true, true, true, true, true, true, true, true, false] rfl rfl (fun _ hK_242 => ?_) ?_
       ·
        refine Wl.storeS (by kernel_rfl) rfl rfl hB_o17 rfl rfl ?_
        rintro w_s1 hn_s1 hg_s1
        have hz_s1 := hg_s1.size
        have hb := below_blk hb hg_s1 hb.size (by omega)
        have hL := hL_hb.below hb
        have hb2 := below_blk hb2 hg_s1 hb2.size (by omega)
        have hB_o3 := hB_o3_hb2.below hb2
        have hR := hR_hb2.below hb2
        have hB_o17 := hn_s1
        refine Wl.nil ?_
        refine Wq.back hK_242 hb2 ?_
        refine Wa.take (i := 12) #[true, true, true, true, true, true, true, true, true, true, true, true, true] rfl (by kernel_rfl) (fun _ _ _ h => h) rfl (fun wq hq => Yl.ld (y_assign rfl)) hb2 ?_
        refine Wa.done (by kernel_rfl) ?_
        refine Wq.next hK_34 ?_
        refine Wc.seq fun _ hK_244 => ?_
        refine Wc.any (n := 13) (fun w' => Below wr.heap.size wr w') #[false, false, false, false, false, false, false, false, false, false, false, false, false] (by kernel_rfl) rfl (by kernel_rfl) ?_
        refine Wa.drew ?_
        rintro w_g9 hs_g9
        have hz_g9 := hs_g9.size
        have hb := hb.trans (hs_g9.mono hb.size)
        have hL := hL_hb.below hb
        have hb2 := hb2.trans (hs_g9.mono hb2.size)
        have hB_o3 := hB_o3_hb2.below hb2
        have hR := hR_hb2.below hb2
        try have hB_o17 := Blk.below hB_o17 hs_g9
        refine Wa.take (i := 0) #[true, false, false, false, false, false, false, false, false, false, false, false, false] rfl (by kernel_rfl) (fun _ _ _ h => h) rfl (fun wq hq => Yl.ld (y_move rfl)) hb2 ?_
        refine Wa.take (i := 1) #[true, true, false, false, false, false, false, false, false, false, false, false, false] rfl (by kernel_rfl) (fun _ _ _ h => h) rfl (fun wq hq => Yl.ld (y_move rfl)) hb2 ?_
        refine Wa.take (i := 2) #[true, true, true, false, false, false, false, false, false, false, false, false, false] rfl (by kernel_rfl) (fun _ _ _ h => h) rfl (fun wq hq => Yl.ld (y_indexAddr Tryz.underlying30 sz9LawE rfl rfl (by omega) (by omega))) hb2 ?_
        refine Wa.take (i := 3) #[true, true, true, true, false, false, false, false, false, false, false, false, false] rfl (by kernel_rfl) (fun _ _ _ h => h) rfl (fun wq hq => l_load one9LawE rfl (by have hB_o3 := hB_o3_hb2.below hq; have hR := hR_hb2.below hq; exact at1 (cell_below hq hcell))) hb2 ?_
        refine Wa.take (i := 4) #[true, true, true, true, true, false, false, false, false, false, false, false, false] rfl (by kernel_rfl) (fun _ _ _ h => h) rfl (fun wq hq => Yl.ld (y_buildS (z := [(.int .i64 0), (.int .i64 0), (.float .f64 0), (str [])]) (pl := [(0, 1), (1, 1), (2, 1), (3, 1)]) (cs := [_, _, _, _]) Tryz.underlying28 (by kernel_rfl) (by kernel_rfl) rfl rfl rfl)) hb2 ?_
        refine Wa.take (i := 5) #[true, true, true, true, true, true, false, false, false, false, false, false, false] rfl (by kernel_rfl) (fun _ _ _ h => h) rfl (fun wq hq => l_loadS Tryz.underlying28 (by kernel_rfl) rfl (by have hB_o3 := hB_o3_hb2.below hq; have hR := hR_hb2.below hq; first | exact fun j u hu => hB_o17.at hu | exact fun j u hu => hB_o3.at hu | assumption)) hb2 ?_
        refine Wa.some (rs := [6, 10]) (by kernel_rfl) rfl ?_
        refine Ws.cons #[true, true, true, true, true, true, true, false, false, false, false, false, false] rfl rfl (fun _ hK_251 => ?_) ?_
        ·
         refine Wl.call txt17LawE rfl rfl (Test_r _ nullV r.val ok_null o.val _) rfl ?_
         rintro _ w_k5 ⟨rfl, hs_k5⟩
         have hz_k5 := hs_k5.size
         have hb := hb.trans (hs_k5.mono hb.size)
         have hL := hL_hb.below hb
         have hb2 := hb2.trans (hs_k5.mono hb2.size)
         have hB_o3 := hB_o3_hb2.below hb2
         have hR := hR_hb2.below hb2
         try have hB_o17 := Blk.below hB_o17 hs_k5
         refine Wl.nil ?_
         refine Wq.back hK_251 hb2 ?_
         refine Wa.take (i := 7) #[true, true, true, true, true, true, true, true, false, false, false, false, false] rfl (by kernel_rfl) (fun _ _ _ h => h) rfl (fun wq hq => Yl.ld (y_move rfl)) hb2 ?_
         refine Wa.take (i := 8) #[true, true, true, true, true, true, true, true, true, false, false, false, false] rfl (by kernel_rfl) (fun _ _ _ h => h) rfl (fun wq hq => Yl.ld (y_extract rfl rfl)) hb2 ?_
         refine Wa.take (i := 9) #[true, true, true, true, true, true, true, true, true, true, false, false, false] rfl (by kernel_rfl) (fun _ _ _ h => h) rfl (fun wq hq => Yl.ld (y_extract rfl rfl)) hb2 ?_
         refine Wa.some (rs := [10]) (by kernel_rfl) rfl ?_
         refine Ws.cons #[true, true, true, true, true, true, true, true, true, true, true, false, false] rfl rfl (fun _ hK_256 => ?_) ?_
         ·
          refine Wl.allocN (z := (.agg #[(.int .i64 0), (.int .i64 0), (.float .f64 0), (str [])])) (by kernel_rfl) rfl ?_
          rintro g_o25 w_o25 hg_o25 hn_o25 hs_o25
          have hz_o25 := hs_o25.size
          have hb := hb.trans (hs_o25.mono hb.size)
          have hL := hL_hb.below hb
          have hb2 := hb2.trans (hs_o25.mono hb2.size)
          have hB_o3 := hB_o3_hb2.below hb2
          have hR := hR_hb2.below hb2
          try have hB_o17 := Blk.below hB_o17 hs_o25
          have hB_o25 := hn_o25
          have hl_o25 := hB_o25.lt
          refine Wl.nil ?_
          refine Wq.back hK_256 hb2 ?_
          refine Wa.some (rs := [11]) (by kernel_rfl) rfl ?_
          refine Ws.cons #[true, true, true, true, true, true, true, true, true, true, true, true, false] rfl rfl (fun _ hK_258 => ?_) ?_
          ·
           refine Wl.storeS (by kernel_rfl) rfl rfl hB_o25 rfl rfl ?_
           rintro w_s2 hn_s2 hg_s2
           have hz_s2 := hg_s2.size
           have hb := below_blk hb hg_s2 hb.size (by omega)
           have hL := hL_hb.below hb
           have hb2 := below_blk hb2 hg_s2 hb2.size (by omega)
           have hB_o3 := hB_o3_hb2.below hb2
           have hR := hR_hb2.below hb2
           try have hB_o17 := hB_o17.over hg_s2 (by omega)
           have hB_o25 := hn_s2
           refine Wl.nil ?_
           refine Wq.back hK_258 hb2 ?_
           refine Wa.take (i := 12) #[true, true, true, true, true, true, true, true, true, true, true, true, true] rfl (by kernel_rfl) (fun _ _ _ h => h) rfl (fun wq hq => Yl.ld (y_assign rfl)) hb2 ?_
           refine Wa.done (by kernel_rfl) ?_
           refine Wq.next hK_244 ?_
           refine Wc.seq fun _ hK_260 => ?_
           refine Wc.seq fun _ hK_261 => ?_
           refine Wc.region ?_
           refine Wl.y (y_move rfl) rfl ?_
           refine Wl.y (y_geqi rfl rfl) rfl ?_
           refine Wl.nil ?_
           refine Wq.next hK_261 ?_
           refine Wc.cond rfl (fun c2_264 => ?_) (fun c2_264 => ?_)
           ·
            have c2_264_ := c2_264
            try simp only [decide_eq_true_eq, decide_eq_false_iff_not, beq_iff_eq, beq_eq_false_iff_ne, bne_iff_ne, bne_eq_false_iff_eq, Bool.not_eq_true', Bool.not_eq_false', Bool.not_eq_eq_eq_not, Bool.not_true, Bool.not_false, ne_eq, Int.not_lt, Int.not_le] at c2_264
            obtain ⟨hn1, hn2⟩ := nulls_reck (i := i) (by have := c2_264; omega) (by omega) hx
            refine Wc.seq fun _ hK_265 => ?_
            refine Wc.any (n := 12) (fun w' => Below wr.heap.size wr w') #[false, false, false, false, false, false, false, false, false, false, false, false] (by kernel_rfl) rfl (by kernel_rfl) ?_
            refine Wa.drew ?_
            rintro w_g11 hs_g11
            have hz_g11 := hs_g11.size
            have hb := hb.trans (hs_g11.mono hb.size)
            have hL := hL_hb.below hb
            have hb2 := hb2.trans (hs_g11.mono hb2.size)
            have hB_o3 := hB_o3_hb2.below hb2
            have hR := hR_hb2.below hb2
            try have hB_o17 := Blk.below hB_o17 hs_g11
            try have hB_o25 := Blk.below hB_o25 hs_g11
            refine Wa.take (i := 0) #[true, false, false, false, false, false, false, false, false, false, false, false] rfl (by kernel_rfl) (fun _ _ _ h => h) rfl (fun wq hq => Yl.ld (y_move rfl)) hb2 ?_
            refine Wa.take (i := 1) #[true, true, false, false, false, false, false, false, false, false, false, false] rfl (by kernel_rfl) (fun _ _ _ h => h) rfl (fun wq hq => Yl.ld (y_move rfl)) hb2 ?_
            refine Wa.take (i := 2) #[true, true, true, false, false, false, false, false, false, false, false, false] rfl (by kernel_rfl) (fun _ _ _ h => h) rfl (fun wq hq => Yl.ld (y_indexAddr Tryz.underlying30 sz9LawE rfl rfl (by omega) (by omega))) hb2 ?_
            refine Wa.take (i := 3) #[true, true, true, true, false, false, false, false, false, false, false, false] rfl (by kernel_rfl) (fun _ _ _ h => h) rfl (fun wq hq => l_load one9LawE rfl (by have hB_o3 := hB_o3_hb2.below hq; have hR := hR_hb2.below hq; exact at1 (cell_below hq hcell))) hb2 ?_
            refine Wa.take (i := 4) #[true, true, true, true, true, false, false, false, false, false, false, false] rfl (by kernel_rfl) (fun _ _ _ h => h) rfl (fun wq hq => l_loadS Tryz.underlying28 (by kernel_rfl) rfl (by have hB_o3 := hB_o3_hb2.below hq; have hR := hR_hb2.below hq; first | exact fun j u hu => hB_o17.at hu | exact fun j u hu => hB_o25.at hu | exact fun j u hu => hB_o3.at hu | assumption)) hb2 ?_
            refine Wa.take (i := 5) #[true, true, true, true, true, true, false, false, false, false, false, false] rfl (by kernel_rfl) (fun _ _ _ h => h) rfl (fun wq hq => Yl.ld (y_buildS (z := [(.int .i64 0), (.int .i64 0), (.float .f64 0), (str [])]) (pl := [(0, 1), (1, 1), (2, 1), (3, 1)]) (cs := [_, _, _, _]) Tryz.underlying28 (by kernel_rfl) (by kernel_rfl) rfl rfl rfl)) hb2 ?_
            refine Wa.some (rs := [6]) (by kernel_rfl) rfl ?_
            refine Ws.cons #[true, true, true, true, true, true, true, false, false, false, false, false] rfl rfl (fun _ hK_272 => ?_) ?_
            ·
             refine Wl.call txt20LawE rfl rfl (Reckon_r _ r.val nullV o.val ok_null _) rfl ?_
             rintro _ w_k6 ⟨rfl, hs_k6⟩
             have hz_k6 := hs_k6.size
             have hb := hb.trans (hs_k6.mono hb.size)
             have hL := hL_hb.below hb
             have hb2 := hb2.trans (hs_k6.mono hb2.size)
             have hB_o3 := hB_o3_hb2.below hb2
             have hR := hR_hb2.below hb2
             try have hB_o17 := Blk.below hB_o17 hs_k6
             try have hB_o25 := Blk.below hB_o25 hs_k6
             refine Wl.nil ?_
             refine Wq.back hK_272 hb2 ?_
             refine Wa.take (i := 7) #[true, true, true, true, true, true, true, true, false, false, false, false] rfl (by kernel_rfl) (fun _ _ _ h => h) rfl (fun wq hq => Yl.ld (y_move rfl)) hb2 ?_
             refine Wa.take (i := 8) #[true, true, true, true, true, true, true, true, true, false, false, false] rfl (by kernel_rfl) (fun _ _ _ h => h) rfl (fun wq hq => Yl.ld (y_extract rfl rfl)) hb2 ?_
             refine Wa.take (i := 9) #[true, true, true, true, true, true, true, true, true, true, false, false] rfl (by kernel_rfl) (fun _ _ _ h => h) rfl (fun wq hq => Yl.ld (y_extract rfl rfl)) hb2 ?_
             refine Wa.some (rs := [10]) (by kernel_rfl) rfl ?_
             refine Ws.cons #[true, true, true, true, true, true, true, true, true, true, true, false] rfl rfl (fun _ hK_277 => ?_) ?_
             ·
              refine Wl.storeS (by kernel_rfl) rfl rfl hB_o17 rfl rfl ?_
              rintro w_s3 hn_s3 hg_s3
              have hz_s3 := hg_s3.size
              have hb := below_blk hb hg_s3 hb.size (by omega)
              have hL := hL_hb.below hb
              have hb2 := below_blk hb2 hg_s3 hb2.size (by omega)
              have hB_o3 := hB_o3_hb2.below hb2
              have hR := hR_hb2.below hb2
              try have hB_o25 := hB_o25.over hg_s3 (by omega)
              have hB_o17 := hn_s3
              refine Wl.nil ?_
              refine Wq.back hK_277 hb2 ?_
              refine Wa.take (i := 11) #[true, true, true, true, true, true, true, true, true, true, true, true] rfl (by kernel_rfl) (fun _ _ _ h => h) rfl (fun wq hq => Yl.ld (y_assign rfl)) hb2 ?_
              refine Wa.done (by kernel_rfl) ?_
              refine Wq.next hK_265 ?_
              refine Wc.any (n := 12) (fun w' => Below wr.heap.size wr w') #[false, false, false, false, false, false, false, false, false, false, false, false] (by kernel_rfl) rfl (by kernel_rfl) ?_
              refine Wa.drew ?_
              rintro w_g12 hs_g12
              have hz_g12 := hs_g12.size
              have hb := hb.trans (hs_g12.mono hb.size)
              have hL := hL_hb.below hb
              have hb2 := hb2.trans (hs_g12.mono hb2.size)
              have hB_o3 := hB_o3_hb2.below hb2
              have hR := hR_hb2.below hb2
              try have hB_o17 := Blk.below hB_o17 hs_g12
              try have hB_o25 := Blk.below hB_o25 hs_g12
              refine Wa.take (i := 0) #[true, false, false, false, false, false, false, false, false, false, false, false] rfl (by kernel_rfl) (fun _ _ _ h => h) rfl (fun wq hq => Yl.ld (y_move rfl)) hb2 ?_
              refine Wa.take (i := 1) #[true, true, false, false, false, false, false, false, false, false, false, false] rfl (by kernel_rfl) (fun _ _ _ h => h) rfl (fun wq hq => Yl.ld (y_move rfl)) hb2 ?_
              refine Wa.take (i := 2) #[true, true, true, false, false, false, false, false, false, false, false, false] rfl (by kernel_rfl) (fun _ _ _ h => h) rfl (fun wq hq => Yl.ld (y_indexAddr Tryz.underlying30 sz9LawE rfl rfl (by omega) (by omega))) hb2 ?_
              refine Wa.take (i := 3) #[true, true, true, true, false, false, false, false, false, false, false, false] rfl (by kernel_rfl) (fun _ _ _ h => h) rfl (fun wq hq => l_load one9LawE rfl (by have hB_o3 := hB_o3_hb2.below hq; have hR := hR_hb2.below hq; exact at1 (cell_below hq hcell))) hb2 ?_
              refine Wa.take (i := 4) #[true, true, true, true, true, false, false, false, false, false, false, false] rfl (by kernel_rfl) (fun _ _ _ h => h) rfl (fun wq hq => Yl.ld (y_buildS (z := [(.int .i64 0), (.int .i64 0), (.float .f64 0), (str [])]) (pl := [(0, 1), (1, 1), (2, 1), (3, 1)]) (cs := [_, _, _, _]) Tryz.underlying28 (by kernel_rfl) (by kernel_rfl) rfl rfl rfl)) hb2 ?_
              refine Wa.take (i := 5) #[true, true, true, true, true, true, false, false, false, false, false, false] rfl (by kernel_rfl) (fun _ _ _ h => h) rfl (fun wq hq => l_loadS Tryz.underlying28 (by kernel_rfl) rfl (by have hB_o3 := hB_o3_hb2.below hq; have hR := hR_hb2.below hq; first | exact fun j u hu => hB_o17.at hu | exact fun j u hu => hB_o25.at hu | exact fun j u hu => hB_o3.at hu | assumption)) hb2 ?_
              refine Wa.some (rs := [6]) (by kernel_rfl) rfl ?_
              refine Ws.cons #[true, true, true, true, true, true, true, false, false, false, false, false] rfl rfl (fun _ hK_285 => ?_) ?_
              ·
               refine Wl.call txt20LawE rfl rfl (Reckon_r _ nullV r.val ok_null o.val _) rfl ?_
               rintro _ w_k7 ⟨rfl, hs_k7⟩
               have hz_k7 := hs_k7.size
               have hb := hb.trans (hs_k7.mono hb.size)
               have hL := hL_hb.below hb
               have hb2 := hb2.trans (hs_k7.mono hb2.size)
               have hB_o3 := hB_o3_hb2.below hb2
               have hR := hR_hb2.below hb2
               try have hB_o17 := Blk.below hB_o17 hs_k7
               try have hB_o25 := Blk.below hB_o25 hs_k7
               refine Wl.nil ?_
               refine Wq.back hK_285 hb2 ?_
               refine Wa.take (i := 7) #[true, true, true, true, true, true, true, true, false, false, false, false] rfl (by kernel_rfl) (fun _ _ _ h => h) rfl (fun wq hq => Yl.ld (y_move rfl)) hb2 ?_
               refine Wa.take (i := 8) #[true, true, true, true, true, true, true, true, true, false, false, false] rfl (by kernel_rfl) (fun _ _ _ h => h) rfl (fun wq hq => Yl.ld (y_extract rfl rfl)) hb2 ?_
               refine Wa.take (i := 9) #[true, true, true, true, true, true, true, true, true, true, false, false] rfl (by kernel_rfl) (fun _ _ _ h => h) rfl (fun wq hq => Yl.ld (y_extract rfl rfl)) hb2 ?_
               refine Wa.some (rs := [10]) (by kernel_rfl) rfl ?_
               refine Ws.cons #[true, true, true, true, true, true, true, true, true, true, true, false] rfl rfl (fun _ hK_290 => ?_) ?_
               ·
                refine Wl.storeS (by kernel_rfl) rfl rfl hB_o25 rfl rfl ?_
                rintro w_s4 hn_s4 hg_s4
                have hz_s4 := hg_s4.size
                have hb := below_blk hb hg_s4 hb.size (by omega)
                have hL := hL_hb.below hb
                have hb2 := below_blk hb2 hg_s4 hb2.size (by omega)
                have hB_o3 := hB_o3_hb2.below hb2
                have hR := hR_hb2.below hb2
                try have hB_o17 := hB_o17.over hg_s4 (by omega)
                have hB_o25 := hn_s4
                refine Wl.nil ?_
                refine Wq.back hK_290 hb2 ?_
                refine Wa.take (i := 11) #[true, true, true, true, true, true, true, true, true, true, true, true] rfl (by kernel_rfl) (fun _ _ _ h => h) rfl (fun wq hq => Yl.ld (y_assign rfl)) hb2 ?_
                refine Wa.done (by kernel_rfl) ?_
                refine Wq.next hK_260 ?_
                refine Wc.seq fun _ hK_292 => ?_
                refine Wc.region ?_
                refine Wl.y (y_move rfl) rfl ?_
                refine Wl.y (y_neqi rfl rfl) rfl ?_
                refine Wl.y (y_move rfl) rfl ?_
                refine Wl.guardF rfl rfl rfl (fun g_296 => ?_) (fun g_296 => ?_)
                ·
                 have g_296_ := g_296
                 try simp only [decide_eq_true_eq, decide_eq_false_iff_not, beq_iff_eq, beq_eq_false_iff_ne, bne_iff_ne, bne_eq_false_iff_eq, Bool.not_eq_true', Bool.not_eq_false', Bool.not_eq_eq_eq_not, Bool.not_true, Bool.not_false, ne_eq, Int.not_lt, Int.not_le] at g_296
                 exact absurd g_296_ (by rw [hn1]; simp)
                ·
                 have g_296_ := g_296
                 try simp only [decide_eq_true_eq, decide_eq_false_iff_not, beq_iff_eq, beq_eq_false_iff_ne, bne_iff_ne, bne_eq_false_iff_eq, Bool.not_eq_true', Bool.not_eq_false', Bool.not_eq_eq_eq_not, Bool.not_true, Bool.not_false, ne_eq, Int.not_lt, Int.not_le] at g_296
                 refine Wl.y (y_move rfl) rfl ?_
                 refine Wl.on' rfl rfl g_296_ ?_
                 refine Wl.y (y_neqi rfl rfl) rfl ?_
                 refine Wl.y (y_pickF rfl g_296_ rfl) rfl ?_
                 refine Wl.y (y_move rfl) rfl ?_
                 refine Wl.guardF rfl rfl rfl (fun g_301 => ?_) (fun g_301 => ?_)
                 ·
                  have g_301_ := g_301
                  try simp only [decide_eq_true_eq, decide_eq_false_iff_not, beq_iff_eq, beq_eq_false_iff_ne, bne_iff_ne, bne_eq_false_iff_eq, Bool.not_eq_true', Bool.not_eq_false', Bool.not_eq_eq_eq_not, Bool.not_true, Bool.not_false, ne_eq, Int.not_lt, Int.not_le] at g_301
                  exact absurd g_301_ (by rw [hn2]; simp)
                 ·
                  have g_301_ := g_301
                  try simp only [decide_eq_true_eq, decide_eq_false_iff_not, beq_iff_eq, beq_eq_false_iff_ne, bne_iff_ne, bne_eq_false_iff_eq, Bool.not_eq_true', Bool.not_eq_false', Bool.not_eq_eq_eq_not, Bool.not_true, Bool.not_false, ne_eq, Int.not_lt, Int.not_le] at g_301
                  refine Wl.y (y_fieldAddr (fa28_0LawE _) rfl) rfl ?_
                  refine Wl.on' rfl rfl g_301_ ?_
                  refine Wl.l (l_load one3LawE rfl (by first | exact hB_o17.at rfl | exact hB_o25.at rfl | exact hB_o3.at rfl | exact hB_o17.cell 0 | exact hB_o25.cell 0 | exact hB_o3.cell 0 | assumption)) rfl ?_
                  refine Wl.on' rfl rfl g_301_ ?_
                  refine Wl.y (y_neqi rfl rfl) rfl ?_
                  refine Wl.y (y_pickF rfl g_301_ rfl) rfl ?_
                  refine Wl.y (y_move rfl) rfl ?_
                  refine Wl.guardF rfl rfl rfl (fun g_307 => ?_) (fun g_307 => ?_)
                  ·
                   have g_307_ := g_307
                   try simp only [decide_eq_true_eq, decide_eq_false_iff_not, beq_iff_eq, beq_eq_false_iff_ne, bne_iff_ne, bne_eq_false_iff_eq, Bool.not_eq_true', Bool.not_eq_false', Bool.not_eq_eq_eq_not, Bool.not_true, Bool.not_false, ne_eq, Int.not_lt, Int.not_le] at g_307
                   exact absurd g_307_ (by rw [hn1]; simp [nullV])
                  ·
                   have g_307_ := g_307
                   try simp only [decide_eq_true_eq, decide_eq_false_iff_not, beq_iff_eq, beq_eq_false_iff_ne, bne_iff_ne, bne_eq_false_iff_eq, Bool.not_eq_true', Bool.not_eq_false', Bool.not_eq_eq_eq_not, Bool.not_true, Bool.not_false, ne_eq, Int.not_lt, Int.not_le] at g_307
                   refine Wl.y (y_fieldAddr (fa28_0LawE _) rfl) rfl ?_
                   refine Wl.on' rfl rfl g_307_ ?_
                   refine Wl.l (l_load one3LawE rfl (by first | exact hB_o17.at rfl | exact hB_o25.at rfl | exact hB_o3.at rfl | exact hB_o17.cell 0 | exact hB_o25.cell 0 | exact hB_o3.cell 0 | assumption)) rfl ?_
                   refine Wl.on' rfl rfl g_307_ ?_
                   refine Wl.y (y_neqi rfl rfl) rfl ?_
                   refine Wl.y (y_pickF rfl g_307_ rfl) rfl ?_
                   refine Wl.nil ?_
                   refine Wq.next hK_292 ?_
                   refine Wc.cond rfl (fun c3_312 => ?_) (fun c3_312 => ?_)
                   ·
                    have c3_312_ := c3_312
                    try simp only [decide_eq_true_eq, decide_eq_false_iff_not, beq_iff_eq, beq_eq_false_iff_ne, bne_iff_ne, bne_eq_false_iff_eq, Bool.not_eq_true', Bool.not_eq_false', Bool.not_eq_eq_eq_not, Bool.not_true, Bool.not_false, ne_eq, Int.not_lt, Int.not_le] at c3_312
                    exact absurd c3_312_ (by rw [hn2]; simp [nullV])
                   ·
                    have c3_312_ := c3_312
                    try simp only [decide_eq_true_eq, decide_eq_false_iff_not, beq_iff_eq, beq_eq_false_iff_ne, bne_iff_ne, bne_eq_false_iff_eq, Bool.not_eq_true', Bool.not_eq_false', Bool.not_eq_eq_eq_not, Bool.not_true, Bool.not_false, ne_eq, Int.not_lt, Int.not_le] at c3_312
                    refine Wc.skip ?_
                    refine Wq.block_normal ?_
                    refine Wq.next hK_33 ?_
                    refine Wc.region ?_
                    refine Wl.y (y_move rfl) rfl ?_
                    refine Wl.y (y_addI rfl rfl (by first | omega | (simp; done) | (simp; omega)) (by first | omega | (simp; done) | (simp; omega))) rfl ?_
                    refine Wl.y (y_assign rfl) rfl ?_
                    refine Wl.nil ?_
                    refine fun a_ ha_ => hL_26 _ _ (i + 1) (by first | omega | (simp; omega)) (Sub.cons' rfl (by first | rfl | exact int_eq (by omega) | exact int_eq (by simp) | (simp; done)) (Sub.cons' rfl (by first | rfl | exact int_eq (by omega) | exact int_eq (by simp) | (simp; done)) (Sub.cons' rfl (by first | rfl | exact int_eq (by omega) | exact int_eq (by simp) | (simp; done)) (Sub.cons' rfl (by first | rfl | exact int_eq (by omega) | exact int_eq (by simp) | (simp; done)) (Sub.nil))))) ?_ a_ ha_
                    exact ⟨by omega, hb, hB_o3, hR⟩
               exact Ws.nil
              exact Ws.nil
             exact Ws.nil
            exact Ws.nil
           ·
            have c2_264_ := c2_264
            try simp only [decide_eq_true_eq, decide_eq_false_iff_not, beq_iff_eq, beq_eq_false_iff_ne, bne_iff_ne, bne_eq_false_iff_eq, Bool.not_eq_true', Bool.not_eq_false', Bool.not_eq_eq_eq_not, Bool.not_true, Bool.not_false, ne_eq, Int.not_lt, Int.not_le] at c2_264
            obtain ⟨hn1, hn2⟩ := nulls_test (i := i) (by have := c2_264; omega) hx
            refine Wc.skip ?_
            refine Wq.next hK_260 ?_
            refine Wc.seq fun _ hK_316 => ?_
            refine Wc.region ?_
            refine Wl.y (y_move rfl) rfl ?_
            refine Wl.y (y_neqi rfl rfl) rfl ?_
            refine Wl.y (y_move rfl) rfl ?_
            refine Wl.guardF rfl rfl rfl (fun g_320 => ?_) (fun g_320 => ?_)
            ·
             have g_320_ := g_320
             try simp only [decide_eq_true_eq, decide_eq_false_iff_not, beq_iff_eq, beq_eq_false_iff_ne, bne_iff_ne, bne_eq_false_iff_eq, Bool.not_eq_true', Bool.not_eq_false', Bool.not_eq_eq_eq_not, Bool.not_true, Bool.not_false, ne_eq, Int.not_lt, Int.not_le] at g_320
             exact absurd g_320_ (by rw [hn1]; simp)
            ·
             have g_320_ := g_320
             try simp only [decide_eq_true_eq, decide_eq_false_iff_not, beq_iff_eq, beq_eq_false_iff_ne, bne_iff_ne, bne_eq_false_iff_eq, Bool.not_eq_true', Bool.not_eq_false', Bool.not_eq_eq_eq_not, Bool.not_true, Bool.not_false, ne_eq, Int.not_lt, Int.not_le] at g_320
             refine Wl.y (y_move rfl) rfl ?_
             refine Wl.on' rfl rfl g_320_ ?_
             refine Wl.y (y_neqi rfl rfl) rfl ?_
             refine Wl.y (y_pickF rfl g_320_ rfl) rfl ?_
             refine Wl.y (y_move rfl) rfl ?_
             refine Wl.guardF rfl rfl rfl (fun g_325 => ?_) (fun g_325 => ?_)
             ·
              have g_325_ := g_325
              try simp only [decide_eq_true_eq, decide_eq_false_iff_not, beq_iff_eq, beq_eq_false_iff_ne, bne_iff_ne, bne_eq_false_iff_eq, Bool.not_eq_true', Bool.not_eq_false', Bool.not_eq_eq_eq_not, Bool.not_true, Bool.not_false, ne_eq, Int.not_lt, Int.not_le] at g_325
              exact absurd g_325_ (by rw [hn2]; simp)
             ·
              have g_325_ := g_325
              try simp only [decide_eq_true_eq, decide_eq_false_iff_not, beq_iff_eq, beq_eq_false_iff_ne, bne_iff_ne, bne_eq_false_iff_eq, Bool.not_eq_true', Bool.not_eq_false', Bool.not_eq_eq_eq_not, Bool.not_true, Bool.not_false, ne_eq, Int.not_lt, Int.not_le] at g_325
              refine Wl.y (y_fieldAddr (fa28_0LawE _) rfl) rfl ?_
              refine Wl.on' rfl rfl g_325_ ?_
              refine Wl.l (l_load one3LawE rfl (by first | exact hB_o17.at rfl | exact hB_o25.at rfl | exact hB_o3.at rfl | exact hB_o17.cell 0 | exact hB_o25.cell 0 | exact hB_o3.cell 0 | assumption)) rfl ?_
              refine Wl.on' rfl rfl g_325_ ?_
              refine Wl.y (y_neqi rfl rfl) rfl ?_
              refine Wl.y (y_pickF rfl g_325_ rfl) rfl ?_
              refine Wl.y (y_move rfl) rfl ?_
              refine Wl.guardF rfl rfl rfl (fun g_331 => ?_) (fun g_331 => ?_)
              ·
               have g_331_ := g_331
               try simp only [decide_eq_true_eq, decide_eq_false_iff_not, beq_iff_eq, beq_eq_false_iff_ne, bne_iff_ne, bne_eq_false_iff_eq, Bool.not_eq_true', Bool.not_eq_false', Bool.not_eq_eq_eq_not, Bool.not_true, Bool.not_false, ne_eq, Int.not_lt, Int.not_le] at g_331
               exact absurd g_331_ (by rw [hn1]; simp [nullV])
              ·
               have g_331_ := g_331
               try simp only [decide_eq_true_eq, decide_eq_false_iff_not, beq_iff_eq, beq_eq_false_iff_ne, bne_iff_ne, bne_eq_false_iff_eq, Bool.not_eq_true', Bool.not_eq_false', Bool.not_eq_eq_eq_not, Bool.not_true, Bool.not_false, ne_eq, Int.not_lt, Int.not_le] at g_331
               refine Wl.y (y_fieldAddr (fa28_0LawE _) rfl) rfl ?_
               refine Wl.on' rfl rfl g_331_ ?_
               refine Wl.l (l_load one3LawE rfl (by first | exact hB_o17.at rfl | exact hB_o25.at rfl | exact hB_o3.at rfl | exact hB_o17.cell 0 | exact hB_o25.cell 0 | exact hB_o3.cell 0 | assumption)) rfl ?_
               refine Wl.on' rfl rfl g_331_ ?_
               refine Wl.y (y_neqi rfl rfl) rfl ?_
               refine Wl.y (y_pickF rfl g_331_ rfl) rfl ?_
               refine Wl.nil ?_
               refine Wq.next hK_316 ?_
               refine Wc.cond rfl (fun c3_336 => ?_) (fun c3_336 => ?_)
               ·
                have c3_336_ := c3_336
                try simp only [decide_eq_true_eq, decide_eq_false_iff_not, beq_iff_eq, beq_eq_false_iff_ne, bne_iff_ne, bne_eq_false_iff_eq, Bool.not_eq_true', Bool.not_eq_false', Bool.not_eq_eq_eq_not, Bool.not_true, Bool.not_false, ne_eq, Int.not_lt, Int.not_le] at c3_336
                exact absurd c3_336_ (by rw [hn2]; simp [nullV])
               ·
                have c3_336_ := c3_336
                try simp only [decide_eq_true_eq, decide_eq_false_iff_not, beq_iff_eq, beq_eq_false_iff_ne, bne_iff_ne, bne_eq_false_iff_eq, Bool.not_eq_true', Bool.not_eq_false', Bool.not_eq_eq_eq_not, Bool.not_true, Bool.not_false, ne_eq, Int.not_lt, Int.not_le] at c3_336
                refine Wc.skip ?_
                refine Wq.block_normal ?_
                refine Wq.next hK_33 ?_
                refine Wc.region ?_
                refine Wl.y (y_move rfl) rfl ?_
                refine Wl.y (y_addI rfl rfl (by first | omega | (simp; done) | (simp; omega)) (by first | omega | (simp; done) | (simp; omega))) rfl ?_
                refine Wl.y (y_assign rfl) rfl ?_
                refine Wl.nil ?_
                refine fun a_ ha_ => hL_26 _ _ (i + 1) (by first | omega | (simp; omega)) (Sub.cons' rfl (by first | rfl | exact int_eq (by omega) | exact int_eq (by simp) | (simp; done)) (Sub.cons' rfl (by first | rfl | exact int_eq (by omega) | exact int_eq (by simp) | (simp; done)) (Sub.cons' rfl (by first | rfl | exact int_eq (by omega) | exact int_eq (by simp) | (simp; done)) (Sub.cons' rfl (by first | rfl | exact int_eq (by omega) | exact int_eq (by simp) | (simp; done)) (Sub.nil))))) ?_ a_ ha_
                exact ⟨by omega, hb, hB_o3, hR⟩
          exact Ws.nil
         exact Ws.nil
        refine Ws.cons #[true, true, true, true, true, true, false, false, false, false, true, false, false] rfl rfl (fun _ hK_340 => ?_) ?_
        ·
         refine Wl.allocN (z := (.agg #[(.int .i64 0), (.int .i64 0), (.float .f64 0), (str [])])) (by kernel_rfl) rfl ?_
         rintro g_o25 w_o25 hg_o25 hn_o25 hs_o25
         have hz_o25 := hs_o25.size
         have hb := hb.trans (hs_o25.mono hb.size)
         have hL := hL_hb.below hb
         have hb2 := hb2.trans (hs_o25.mono hb2.size)
         have hB_o3 := hB_o3_hb2.below hb2
         have hR := hR_hb2.below hb2
         try have hB_o17 := Blk.below hB_o17 hs_o25
         have hB_o25 := hn_o25
         have hl_o25 := hB_o25.lt
         refine Wl.nil ?_
         refine Wq.back hK_340 hb2 ?_
         refine Wa.some (rs := [6]) (by kernel_rfl) rfl ?_
         refine Ws.cons #[true, true, true, true, true, true, true, false, false, false, true, false, false] rfl rfl (fun _ hK_342 => ?_) ?_
         ·
          refine Wl.call txt17LawE rfl rfl (Test_r _ nullV r.val ok_null o.val _) rfl ?_
          rintro _ w_k5 ⟨rfl, hs_k5⟩
          have hz_k5 := hs_k5.size
          have hb := hb.trans (hs_k5.mono hb.size)
          have hL := hL_hb.below hb
          have hb2 := hb2.trans (hs_k5.mono hb2.size)
          have hB_o3 := hB_o3_hb2.below hb2
          have hR := hR_hb2.below hb2
          try have hB_o17 := Blk.below hB_o17 hs_k5
          try have hB_o25 := Blk.below hB_o25 hs_k5
          refine Wl.nil ?_
          refine Wq.back hK_342 hb2 ?_
          refine Wa.take (i := 7) #[true, true, true, true, true, true, true, true, false, false, true, false, false] rfl (by kernel_rfl) (fun _ _ _ h => h) rfl (fun wq hq => Yl.ld (y_move rfl)) hb2 ?_
          refine Wa.take (i := 8) #[true, true, true, true, true, true, true, true, true, false, true, false, false] rfl (by kernel_rfl) (fun _ _ _ h => h) rfl (fun wq hq => Yl.ld (y_extract rfl rfl)) hb2 ?_
          refine Wa.take (i := 9) #[true, true, true, true, true, true, true, true, true, true, true, false, false] rfl (by kernel_rfl) (fun _ _ _ h => h) rfl (fun wq hq => Yl.ld (y_extract rfl rfl)) hb2 ?_
          refine Wa.some (rs := [11]) (by kernel_rfl) rfl ?_
          refine Ws.cons #[true, true, true, true, true, true, true, true, true, true, true, true, false] rfl rfl (fun _ hK_347 => ?_) ?_
          ·
           refine Wl.storeS (by kernel_rfl) rfl rfl hB_o25 rfl rfl ?_
           rintro w_s2 hn_s2 hg_s2
           have hz_s2 := hg_s2.size
           have hb := below_blk hb hg_s2 hb.size (by omega)
           have hL := hL_hb.below hb
           have hb2 := below_blk hb2 hg_s2 hb2.size (by omega)
           have hB_o3 := hB_o3_hb2.below hb2
           have hR := hR_hb2.below hb2
           try have hB_o17 := hB_o17.over hg_s2 (by omega)
           have hB_o25 := hn_s2
           refine Wl.nil ?_
           refine Wq.back hK_347 hb2 ?_
           refine Wa.take (i := 12) #[true, true, true, true, true, true, true, true, true, true, true, true, true] rfl (by kernel_rfl) (fun _ _ _ h => h) rfl (fun wq hq => Yl.ld (y_assign rfl)) hb2 ?_
           refine Wa.done (by kernel_rfl) ?_
           refine Wq.next hK_244 ?_
           refine Wc.seq fun _ hK_349 => ?_
           refine Wc.seq fun _ hK_350 => ?_
           refine Wc.region ?_
           refine Wl.y (y_move rfl) rfl ?_
           refine Wl.y (y_geqi rfl rfl) rfl ?_
           refine Wl.nil ?_
           refine Wq.next hK_350 ?_
           refine Wc.cond rfl (fun c2_353 => ?_) (fun c2_353 => ?_)
           ·
            have c2_353_ := c2_353
            try simp only [decide_eq_true_eq, decide_eq_false_iff_not, beq_iff_eq, beq_eq_false_iff_ne, bne_iff_ne, bne_eq_false_iff_eq, Bool.not_eq_true', Bool.not_eq_false', Bool.not_eq_eq_eq_not, Bool.not_true, Bool.not_false, ne_eq, Int.not_lt, Int.not_le] at c2_353
            obtain ⟨hn1, hn2⟩ := nulls_reck (i := i) (by have := c2_353; omega) (by omega) hx
            refine Wc.seq fun _ hK_354 => ?_
            refine Wc.any (n := 12) (fun w' => Below wr.heap.size wr w') #[false, false, false, false, false, false, false, false, false, false, false, false] (by kernel_rfl) rfl (by kernel_rfl) ?_
            refine Wa.drew ?_
            rintro w_g11 hs_g11
            have hz_g11 := hs_g11.size
            have hb := hb.trans (hs_g11.mono hb.size)
            have hL := hL_hb.below hb
            have hb2 := hb2.trans (hs_g11.mono hb2.size)
            have hB_o3 := hB_o3_hb2.below hb2
            have hR := hR_hb2.below hb2
            try have hB_o17 := Blk.below hB_o17 hs_g11
            try have hB_o25 := Blk.below hB_o25 hs_g11
            refine Wa.take (i := 0) #[true, false, false, false, false, false, false, false, false, false, false, false] rfl (by kernel_rfl) (fun _ _ _ h => h) rfl (fun wq hq => Yl.ld (y_move rfl)) hb2 ?_
            refine Wa.take (i := 1) #[true, true, false, false, false, false, false, false, false, false, false, false] rfl (by kernel_rfl) (fun _ _ _ h => h) rfl (fun wq hq => Yl.ld (y_move rfl)) hb2 ?_
            refine Wa.take (i := 2) #[true, true, true, false, false, false, false, false, false, false, false, false] rfl (by kernel_rfl) (fun _ _ _ h => h) rfl (fun wq hq => Yl.ld (y_indexAddr Tryz.underlying30 sz9LawE rfl rfl (by omega) (by omega))) hb2 ?_
            refine Wa.take (i := 3) #[true, true, true, true, false, false, false, false, false, false, false, false] rfl (by kernel_rfl) (fun _ _ _ h => h) rfl (fun wq hq => l_load one9LawE rfl (by have hB_o3 := hB_o3_hb2.below hq; have hR := hR_hb2.below hq; exact at1 (cell_below hq hcell))) hb2 ?_
            refine Wa.take (i := 4) #[true, true, true, true, true, false, false, false, false, false, false, false] rfl (by kernel_rfl) (fun _ _ _ h => h) rfl (fun wq hq => l_loadS Tryz.underlying28 (by kernel_rfl) rfl (by have hB_o3 := hB_o3_hb2.below hq; have hR := hR_hb2.below hq; first | exact fun j u hu => hB_o17.at hu | exact fun j u hu => hB_o25.at hu | exact fun j u hu => hB_o3.at hu | assumption)) hb2 ?_
            refine Wa.take (i := 5) #[true, true, true, true, true, true, false, false, false, false, false, false] rfl (by kernel_rfl) (fun _ _ _ h => h) rfl (fun wq hq => Yl.ld (y_buildS (z := [(.int .i64 0), (.int .i64 0), (.float .f64 0), (str [])]) (pl := [(0, 1), (1, 1), (2, 1), (3, 1)]) (cs := [_, _, _, _]) Tryz.underlying28 (by kernel_rfl) (by kernel_rfl) rfl rfl rfl)) hb2 ?_
            refine Wa.some (rs := [6]) (by kernel_rfl) rfl ?_
            refine Ws.cons #[true, true, true, true, true, true, true, false, false, false, false, false] rfl rfl (fun _ hK_361 => ?_) ?_
            ·
             refine Wl.call txt20LawE rfl rfl (Reckon_r _ r.val nullV o.val ok_null _) rfl ?_
             rintro _ w_k6 ⟨rfl, hs_k6⟩
             have hz_k6 := hs_k6.size
             have hb := hb.trans (hs_k6.mono hb.size)
             have hL := hL_hb.below hb
             have hb2 := hb2.trans (hs_k6.mono hb2.size)
             have hB_o3 := hB_o3_hb2.below hb2
             have hR := hR_hb2.below hb2
             try have hB_o17 := Blk.below hB_o17 hs_k6
             try have hB_o25 := Blk.below hB_o25 hs_k6
             refine Wl.nil ?_
             refine Wq.back hK_361 hb2 ?_
             refine Wa.take (i := 7) #[true, true, true, true, true, true, true, true, false, false, false, false] rfl (by kernel_rfl) (fun _ _ _ h => h) rfl (fun wq hq => Yl.ld (y_move rfl)) hb2 ?_
             refine Wa.take (i := 8) #[true, true, true, true, true, true, true, true, true, false, false, false] rfl (by kernel_rfl) (fun _ _ _ h => h) rfl (fun wq hq => Yl.ld (y_extract rfl rfl)) hb2 ?_
             refine Wa.take (i := 9) #[true, true, true, true, true, true, true, true, true, true, false, false] rfl (by kernel_rfl) (fun _ _ _ h => h) rfl (fun wq hq => Yl.ld (y_extract rfl rfl)) hb2 ?_
             refine Wa.some (rs := [10]) (by kernel_rfl) rfl ?_
             refine Ws.cons #[true, true, true, true, true, true, true, true, true, true, true, false] rfl rfl (fun _ hK_366 => ?_) ?_
             ·
              refine Wl.storeS (by kernel_rfl) rfl rfl hB_o17 rfl rfl ?_
              rintro w_s3 hn_s3 hg_s3
              have hz_s3 := hg_s3.size
              have hb := below_blk hb hg_s3 hb.size (by omega)
              have hL := hL_hb.below hb
              have hb2 := below_blk hb2 hg_s3 hb2.size (by omega)
              have hB_o3 := hB_o3_hb2.below hb2
              have hR := hR_hb2.below hb2
              try have hB_o25 := hB_o25.over hg_s3 (by omega)
              have hB_o17 := hn_s3
              refine Wl.nil ?_
              refine Wq.back hK_366 hb2 ?_
              refine Wa.take (i := 11) #[true, true, true, true, true, true, true, true, true, true, true, true] rfl (by kernel_rfl) (fun _ _ _ h => h) rfl (fun wq hq => Yl.ld (y_assign rfl)) hb2 ?_
              refine Wa.done (by kernel_rfl) ?_
              refine Wq.next hK_354 ?_
              refine Wc.any (n := 12) (fun w' => Below wr.heap.size wr w') #[false, false, false, false, false, false, false, false, false, false, false, false] (by kernel_rfl) rfl (by kernel_rfl) ?_
              refine Wa.drew ?_
              rintro w_g12 hs_g12
              have hz_g12 := hs_g12.size
              have hb := hb.trans (hs_g12.mono hb.size)
              have hL := hL_hb.below hb
              have hb2 := hb2.trans (hs_g12.mono hb2.size)
              have hB_o3 := hB_o3_hb2.below hb2
              have hR := hR_hb2.below hb2
              try have hB_o17 := Blk.below hB_o17 hs_g12
              try have hB_o25 := Blk.below hB_o25 hs_g12
              refine Wa.take (i := 0) #[true, false, false, false, false, false, false, false, false, false, false, false] rfl (by kernel_rfl) (fun _ _ _ h => h) rfl (fun wq hq => Yl.ld (y_move rfl)) hb2 ?_
              refine Wa.take (i := 1) #[true, true, false, false, false, false, false, false, false, false, false, false] rfl (by kernel_rfl) (fun _ _ _ h => h) rfl (fun wq hq => Yl.ld (y_move rfl)) hb2 ?_
              refine Wa.take (i := 2) #[true, true, true, false, false, false, false, false, false, false, false, false] rfl (by kernel_rfl) (fun _ _ _ h => h) rfl (fun wq hq => Yl.ld (y_indexAddr Tryz.underlying30 sz9LawE rfl rfl (by omega) (by omega))) hb2 ?_
              refine Wa.take (i := 3) #[true, true, true, true, false, false, false, false, false, false, false, false] rfl (by kernel_rfl) (fun _ _ _ h => h) rfl (fun wq hq => l_load one9LawE rfl (by have hB_o3 := hB_o3_hb2.below hq; have hR := hR_hb2.below hq; exact at1 (cell_below hq hcell))) hb2 ?_
              refine Wa.take (i := 4) #[true, true, true, true, true, false, false, false, false, false, false, false] rfl (by kernel_rfl) (fun _ _ _ h => h) rfl (fun wq hq => Yl.ld (y_buildS (z := [(.int .i64 0), (.int .i64 0), (.float .f64 0), (str [])]) (pl := [(0, 1), (1, 1), (2, 1), (3, 1)]) (cs := [_, _, _, _]) Tryz.underlying28 (by kernel_rfl) (by kernel_rfl) rfl rfl rfl)) hb2 ?_
              refine Wa.take (i := 5) #[true, true, true, true, true, true, false, false, false, false, false, false] rfl (by kernel_rfl) (fun _ _ _ h => h) rfl (fun wq hq => l_loadS Tryz.underlying28 (by kernel_rfl) rfl (by have hB_o3 := hB_o3_hb2.below hq; have hR := hR_hb2.below hq; first | exact fun j u hu => hB_o17.at hu | exact fun j u hu => hB_o25.at hu | exact fun j u hu => hB_o3.at hu | assumption)) hb2 ?_
              refine Wa.some (rs := [6]) (by kernel_rfl) rfl ?_
              refine Ws.cons #[true, true, true, true, true, true, true, false, false, false, false, false] rfl rfl (fun _ hK_374 => ?_) ?_
              ·
               refine Wl.call txt20LawE rfl rfl (Reckon_r _ nullV r.val ok_null o.val _) rfl ?_
               rintro _ w_k7 ⟨rfl, hs_k7⟩
               have hz_k7 := hs_k7.size
               have hb := hb.trans (hs_k7.mono hb.size)
               have hL := hL_hb.below hb
               have hb2 := hb2.trans (hs_k7.mono hb2.size)
               have hB_o3 := hB_o3_hb2.below hb2
               have hR := hR_hb2.below hb2
               try have hB_o17 := Blk.below hB_o17 hs_k7
               try have hB_o25 := Blk.below hB_o25 hs_k7
               refine Wl.nil ?_
               refine Wq.back hK_374 hb2 ?_
               refine Wa.take (i := 7) #[true, true, true, true, true, true, true, true, false, false, false, false] rfl (by kernel_rfl) (fun _ _ _ h => h) rfl (fun wq hq => Yl.ld (y_move rfl)) hb2 ?_
               refine Wa.take (i := 8) #[true, true, true, true, true, true, true, true, true, false, false, false] rfl (by kernel_rfl) (fun _ _ _ h => h) rfl (fun wq hq => Yl.ld (y_extract rfl rfl)) hb2 ?_
               refine Wa.take (i := 9) #[true, true, true, true, true, true, true, true, true, true, false, false] rfl (by kernel_rfl) (fun _ _ _ h => h) rfl (fun wq hq => Yl.ld (y_extract rfl rfl)) hb2 ?_
               refine Wa.some (rs := [10]) (by kernel_rfl) rfl ?_
               refine Ws.cons #[true, true, true, true, true, true, true, true, true, true, true, false] rfl rfl (fun _ hK_379 => ?_) ?_
               ·
                refine Wl.storeS (by kernel_rfl) rfl rfl hB_o25 rfl rfl ?_
                rintro w_s4 hn_s4 hg_s4
                have hz_s4 := hg_s4.size
                have hb := below_blk hb hg_s4 hb.size (by omega)
                have hL := hL_hb.below hb
                have hb2 := below_blk hb2 hg_s4 hb2.size (by omega)
                have hB_o3 := hB_o3_hb2.below hb2
                have hR := hR_hb2.below hb2
                try have hB_o17 := hB_o17.over hg_s4 (by omega)
                have hB_o25 := hn_s4
                refine Wl.nil ?_
                refine Wq.back hK_379 hb2 ?_
                refine Wa.take (i := 11) #[true, true, true, true, true, true, true, true, true, true, true, true] rfl (by kernel_rfl) (fun _ _ _ h => h) rfl (fun wq hq => Yl.ld (y_assign rfl)) hb2 ?_
                refine Wa.done (by kernel_rfl) ?_
                refine Wq.next hK_349 ?_
                refine Wc.seq fun _ hK_381 => ?_
                refine Wc.region ?_
                refine Wl.y (y_move rfl) rfl ?_
                refine Wl.y (y_neqi rfl rfl) rfl ?_
                refine Wl.y (y_move rfl) rfl ?_
                refine Wl.guardF rfl rfl rfl (fun g_385 => ?_) (fun g_385 => ?_)
                ·
                 have g_385_ := g_385
                 try simp only [decide_eq_true_eq, decide_eq_false_iff_not, beq_iff_eq, beq_eq_false_iff_ne, bne_iff_ne, bne_eq_false_iff_eq, Bool.not_eq_true', Bool.not_eq_false', Bool.not_eq_eq_eq_not, Bool.not_true, Bool.not_false, ne_eq, Int.not_lt, Int.not_le] at g_385
                 exact absurd g_385_ (by rw [hn1]; simp)
                ·
                 have g_385_ := g_385
                 try simp only [decide_eq_true_eq, decide_eq_false_iff_not, beq_iff_eq, beq_eq_false_iff_ne, bne_iff_ne, bne_eq_false_iff_eq, Bool.not_eq_true', Bool.not_eq_false', Bool.not_eq_eq_eq_not, Bool.not_true, Bool.not_false, ne_eq, Int.not_lt, Int.not_le] at g_385
                 refine Wl.y (y_move rfl) rfl ?_
                 refine Wl.on' rfl rfl g_385_ ?_
                 refine Wl.y (y_neqi rfl rfl) rfl ?_
                 refine Wl.y (y_pickF rfl g_385_ rfl) rfl ?_
                 refine Wl.y (y_move rfl) rfl ?_
                 refine Wl.guardF rfl rfl rfl (fun g_390 => ?_) (fun g_390 => ?_)
                 ·
                  have g_390_ := g_390
                  try simp only [decide_eq_true_eq, decide_eq_false_iff_not, beq_iff_eq, beq_eq_false_iff_ne, bne_iff_ne, bne_eq_false_iff_eq, Bool.not_eq_true', Bool.not_eq_false', Bool.not_eq_eq_eq_not, Bool.not_true, Bool.not_false, ne_eq, Int.not_lt, Int.not_le] at g_390
                  exact absurd g_390_ (by rw [hn2]; simp)
                 ·
                  have g_390_ := g_390
                  try simp only [decide_eq_true_eq, decide_eq_false_iff_not, beq_iff_eq, beq_eq_false_iff_ne, bne_iff_ne, bne_eq_false_iff_eq, Bool.not_eq_true', Bool.not_eq_false', Bool.not_eq_eq_eq_not, Bool.not_true, Bool.not_false, ne_eq, Int.not_lt, Int.not_le] at g_390
                  refine Wl.y (y_fieldAddr (fa28_0LawE _) rfl) rfl ?_
                  refine Wl.on' rfl rfl g_390_ ?_
                  refine Wl.l (l_load one3LawE rfl (by first | exact hB_o17.at rfl | exact hB_o25.at rfl | exact hB_o3.at rfl | exact hB_o17.cell 0 | exact hB_o25.cell 0 | exact hB_o3.cell 0 | assumption)) rfl ?_
                  refine Wl.on' rfl rfl g_390_ ?_
                  refine Wl.y (y_neqi rfl rfl) rfl ?_
                  refine Wl.y (y_pickF rfl g_390_ rfl) rfl ?_
                  refine Wl.y (y_move rfl) rfl ?_
                  refine Wl.guardF rfl rfl rfl (fun g_396 => ?_) (fun g_396 => ?_)
                  ·
                   have g_396_ := g_396
                   try simp only [decide_eq_true_eq, decide_eq_false_iff_not, beq_iff_eq, beq_eq_false_iff_ne, bne_iff_ne, bne_eq_false_iff_eq, Bool.not_eq_true', Bool.not_eq_false', Bool.not_eq_eq_eq_not, Bool.not_true, Bool.not_false, ne_eq, Int.not_lt, Int.not_le] at g_396
                   exact absurd g_396_ (by rw [hn1]; simp [nullV])
                  ·
                   have g_396_ := g_396
                   try simp only [decide_eq_true_eq, decide_eq_false_iff_not, beq_iff_eq, beq_eq_false_iff_ne, bne_iff_ne, bne_eq_false_iff_eq, Bool.not_eq_true', Bool.not_eq_false', Bool.not_eq_eq_eq_not, Bool.not_true, Bool.not_false, ne_eq, Int.not_lt, Int.not_le] at g_396
                   refine Wl.y (y_fieldAddr (fa28_0LawE _) rfl) rfl ?_
                   refine Wl.on' rfl rfl g_396_ ?_
                   refine Wl.l (l_load one3LawE rfl (by first | exact hB_o17.at rfl | exact hB_o25.at rfl | exact hB_o3.at rfl | exact hB_o17.cell 0 | exact hB_o25.cell 0 | exact hB_o3.cell 0 | assumption)) rfl ?_
                   refine Wl.on' rfl rfl g_396_ ?_
                   refine Wl.y (y_neqi rfl rfl) rfl ?_
                   refine Wl.y (y_pickF rfl g_396_ rfl) rfl ?_
                   refine Wl.nil ?_
                   refine Wq.next hK_381 ?_
                   refine Wc.cond rfl (fun c3_401 => ?_) (fun c3_401 => ?_)
                   ·
                    have c3_401_ := c3_401
                    try simp only [decide_eq_true_eq, decide_eq_false_iff_not, beq_iff_eq, beq_eq_false_iff_ne, bne_iff_ne, bne_eq_false_iff_eq, Bool.not_eq_true', Bool.not_eq_false', Bool.not_eq_eq_eq_not, Bool.not_true, Bool.not_false, ne_eq, Int.not_lt, Int.not_le] at c3_401
                    exact absurd c3_401_ (by rw [hn2]; simp [nullV])
                   ·
                    have c3_401_ := c3_401
                    try simp only [decide_eq_true_eq, decide_eq_false_iff_not, beq_iff_eq, beq_eq_false_iff_ne, bne_iff_ne, bne_eq_false_iff_eq, Bool.not_eq_true', Bool.not_eq_false', Bool.not_eq_eq_eq_not, Bool.not_true, Bool.not_false, ne_eq, Int.not_lt, Int.not_le] at c3_401
                    refine Wc.skip ?_
                    refine Wq.block_normal ?_
                    refine Wq.next hK_33 ?_
                    refine Wc.region ?_
                    refine Wl.y (y_move rfl) rfl ?_
                    refine Wl.y (y_addI rfl rfl (by first | omega | (simp; done) | (simp; omega)) (by first | omega | (simp; done) | (simp; omega))) rfl ?_
                    refine Wl.y (y_assign rfl) rfl ?_
                    refine Wl.nil ?_
                    refine fun a_ ha_ => hL_26 _ _ (i + 1) (by first | omega | (simp; omega)) (Sub.cons' rfl (by first | rfl | exact int_eq (by omega) | exact int_eq (by simp) | (simp; done)) (Sub.cons' rfl (by first | rfl | exact int_eq (by omega) | exact int_eq (by simp) | (simp; done)) (Sub.cons' rfl (by first | rfl | exact int_eq (by omega) | exact int_eq (by simp) | (simp; done)) (Sub.cons' rfl (by first | rfl | exact int_eq (by omega) | exact int_eq (by simp) | (simp; done)) (Sub.nil))))) ?_ a_ ha_
                    exact ⟨by omega, hb, hB_o3, hR⟩
               exact Ws.nil
              exact Ws.nil
             exact Ws.nil
            exact Ws.nil
           ·
            have c2_353_ := c2_353
            try simp only [decide_eq_true_eq, decide_eq_false_iff_not, beq_iff_eq, beq_eq_false_iff_ne, bne_iff_ne, bne_eq_false_iff_eq, Bool.not_eq_true', Bool.not_eq_false', Bool.not_eq_eq_eq_not, Bool.not_true, Bool.not_false, ne_eq, Int.not_lt, Int.not_le] at c2_353
            obtain ⟨hn1, hn2⟩ := nulls_test (i := i) (by have := c2_353; omega) hx
            refine Wc.skip ?_
            refine Wq.next hK_349 ?_
            refine Wc.seq fun _ hK_405 => ?_
            refine Wc.region ?_
            refine Wl.y (y_move rfl) rfl ?_
            refine Wl.y (y_neqi rfl rfl) rfl ?_
            refine Wl.y (y_move rfl) rfl ?_
            refine Wl.guardF rfl rfl rfl (fun g_409 => ?_) (fun g_409 => ?_)
            ·
             have g_409_ := g_409
             try simp only [decide_eq_true_eq, decide_eq_false_iff_not, beq_iff_eq, beq_eq_false_iff_ne, bne_iff_ne, bne_eq_false_iff_eq, Bool.not_eq_true', Bool.not_eq_false', Bool.not_eq_eq_eq_not, Bool.not_true, Bool.not_false, ne_eq, Int.not_lt, Int.not_le] at g_409
             exact absurd g_409_ (by rw [hn1]; simp)
            ·
             have g_409_ := g_409
             try simp only [decide_eq_true_eq, decide_eq_false_iff_not, beq_iff_eq, beq_eq_false_iff_ne, bne_iff_ne, bne_eq_false_iff_eq, Bool.not_eq_true', Bool.not_eq_false', Bool.not_eq_eq_eq_not, Bool.not_true, Bool.not_false, ne_eq, Int.not_lt, Int.not_le] at g_409
             refine Wl.y (y_move rfl) rfl ?_
             refine Wl.on' rfl rfl g_409_ ?_
             refine Wl.y (y_neqi rfl rfl) rfl ?_
             refine Wl.y (y_pickF rfl g_409_ rfl) rfl ?_
             refine Wl.y (y_move rfl) rfl ?_
             refine Wl.guardF rfl rfl rfl (fun g_414 => ?_) (fun g_414 => ?_)
             ·
              have g_414_ := g_414
              try simp only [decide_eq_true_eq, decide_eq_false_iff_not, beq_iff_eq, beq_eq_false_iff_ne, bne_iff_ne, bne_eq_false_iff_eq, Bool.not_eq_true', Bool.not_eq_false', Bool.not_eq_eq_eq_not, Bool.not_true, Bool.not_false, ne_eq, Int.not_lt, Int.not_le] at g_414
              exact absurd g_414_ (by rw [hn2]; simp)
             ·
              have g_414_ := g_414
              try simp only [decide_eq_true_eq, decide_eq_false_iff_not, beq_iff_eq, beq_eq_false_iff_ne, bne_iff_ne, bne_eq_false_iff_eq, Bool.not_eq_true', Bool.not_eq_false', Bool.not_eq_eq_eq_not, Bool.not_true, Bool.not_false, ne_eq, Int.not_lt, Int.not_le] at g_414
              refine Wl.y (y_fieldAddr (fa28_0LawE _) rfl) rfl ?_
              refine Wl.on' rfl rfl g_414_ ?_
              refine Wl.l (l_load one3LawE rfl (by first | exact hB_o17.at rfl | exact hB_o25.at rfl | exact hB_o3.at rfl | exact hB_o17.cell 0 | exact hB_o25.cell 0 | exact hB_o3.cell 0 | assumption)) rfl ?_
              refine Wl.on' rfl rfl g_414_ ?_
              refine Wl.y (y_neqi rfl rfl) rfl ?_
              refine Wl.y (y_pickF rfl g_414_ rfl) rfl ?_
              refine Wl.y (y_move rfl) rfl ?_
              refine Wl.guardF rfl rfl rfl (fun g_420 => ?_) (fun g_420 => ?_)
              ·
               have g_420_ := g_420
               try simp only [decide_eq_true_eq, decide_eq_false_iff_not, beq_iff_eq, beq_eq_false_iff_ne, bne_iff_ne, bne_eq_false_iff_eq, Bool.not_eq_true', Bool.not_eq_false', Bool.not_eq_eq_eq_not, Bool.not_true, Bool.not_false, ne_eq, Int.not_lt, Int.not_le] at g_420
               exact absurd g_420_ (by rw [hn1]; simp [nullV])
              ·
               have g_420_ := g_420
               try simp only [decide_eq_true_eq, decide_eq_false_iff_not, beq_iff_eq, beq_eq_false_iff_ne, bne_iff_ne, bne_eq_false_iff_eq, Bool.not_eq_true', Bool.not_eq_false', Bool.not_eq_eq_eq_not, Bool.not_true, Bool.not_false, ne_eq, Int.not_lt, Int.not_le] at g_420
               refine Wl.y (y_fieldAddr (fa28_0LawE _) rfl) rfl ?_
               refine Wl.on' rfl rfl g_420_ ?_
               refine Wl.l (l_load one3LawE rfl (by first | exact hB_o17.at rfl | exact hB_o25.at rfl | exact hB_o3.at rfl | exact hB_o17.cell 0 | exact hB_o25.cell 0 | exact hB_o3.cell 0 | assumption)) rfl ?_
               refine Wl.on' rfl rfl g_420_ ?_
               refine Wl.y (y_neqi rfl rfl) rfl ?_
               refine Wl.y (y_pickF rfl g_420_ rfl) rfl ?_
               refine Wl.nil ?_
               refine Wq.next hK_405 ?_
               refine Wc.cond rfl (fun c3_425 => ?_) (fun c3_425 => ?_)
               ·
                have c3_425_ := c3_425
                try simp only [decide_eq_true_eq, decide_eq_false_iff_not, beq_iff_eq, beq_eq_false_iff_ne, bne_iff_ne, bne_eq_false_iff_eq, Bool.not_eq_true', Bool.not_eq_false', Bool.not_eq_eq_eq_not, Bool.not_true, Bool.not_false, ne_eq, Int.not_lt, Int.not_le] at c3_425
                exact absurd c3_425_ (by rw [hn2]; simp [nullV])
               ·
                have c3_425_ := c3_425
                try simp only [decide_eq_true_eq, decide_eq_false_iff_not, beq_iff_eq, beq_eq_false_iff_ne, bne_iff_ne, bne_eq_false_iff_eq, Bool.not_eq_true', Bool.not_eq_false', Bool.not_eq_eq_eq_not, Bool.not_true, Bool.not_false, ne_eq, Int.not_lt, Int.not_le] at c3_425
                refine Wc.skip ?_
                refine Wq.block_normal ?_
                refine Wq.next hK_33 ?_
                refine Wc.region ?_
                refine Wl.y (y_move rfl) rfl ?_
                refine Wl.y (y_addI rfl rfl (by first | omega | (simp; done) | (simp; omega)) (by first | omega | (simp; done) | (simp; omega))) rfl ?_
                refine Wl.y (y_assign rfl) rfl ?_
                refine Wl.nil ?_
                refine fun a_ ha_ => hL_26 _ _ (i + 1) (by first | omega | (simp; omega)) (Sub.cons' rfl (by first | rfl | exact int_eq (by omega) | exact int_eq (by simp) | (simp; done)) (Sub.cons' rfl (by first | rfl | exact int_eq (by omega) | exact int_eq (by simp) | (simp; done)) (Sub.cons' rfl (by first | rfl | exact int_eq (by omega) | exact int_eq (by simp) | (simp; done)) (Sub.cons' rfl (by first | rfl | exact int_eq (by omega) | exact int_eq (by simp) | (simp; done)) (Sub.nil))))) ?_ a_ ha_
                exact ⟨by omega, hb, hB_o3, hR⟩
          exact Ws.nil
         exact Ws.nil
        exact Ws.nil
       exact Ws.nil
      exact Ws.nil
     exact Ws.nil
    ·
     have c1_32_ := c1_32
     try simp only [decide_eq_true_eq, decide_eq_false_iff_not, beq_iff_eq, beq_eq_false_iff_ne, bne_iff_ne, bne_eq_false_iff_eq, Bool.not_eq_true', Bool.not_eq_false', Bool.not_eq_eq_eq_not, Bool.not_true, Bool.not_false, ne_eq, Int.not_lt, Int.not_le] at c1_32
     refine Wc.exit ?_
     refine Wq.then_exit ?_
     refine Wq.then_exit ?_
     refine Wq.block_exit ?_
     refine Wq.next hK_23 ?_
     refine Wc.seq fun _ hK_429 => ?_
     refine Wc.region ?_
     refine Wl.y (y_move rfl) rfl ?_
     refine Wl.y (y_assign rfl) rfl ?_
     refine Wl.nil ?_
     refine Wq.next hK_429 ?_
     refine Wc.ret ?_
     refine ret1 rfl rfl ?_
     exact ⟨_, rfl, rfl, hb⟩
end Go.Proofs.YtijkbinjdgjioaaGreatDoor
