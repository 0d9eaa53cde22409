/- The statements about values, by the calculus: ValueTests, ValueReckons. -/
import Derived.Test.YtijkbinjdgjioaaGreatDoorLawC
namespace Go.Proofs.YtijkbinjdgjioaaGreatDoor
open Go.RowKit Go.Bw Go.Bw.Fl
set_option linter.unusedVariables false
set_option linter.unusedSimpArgs false
theorem one9LawD : One Tryz.prog 9 := ⟨_, Tryz.underlying9, rfl, by kernel_rfl⟩
theorem sz9LawD : (Tryz.prog.info? 9).map (·.size) = some 1 := by kernel_rfl
theorem txt14LawD : Txt Tryz.prog 14 := ⟨_, Tryz.func14, by kernel_rfl, rfl⟩   -- bridleway/bridlewaylaw02.shown
theorem txt15LawD : Txt Tryz.prog 15 := ⟨_, Tryz.func15, by kernel_rfl, rfl⟩   -- bridleway/bridlewaylaw02.of
theorem txt16LawD : Txt Tryz.prog 16 := ⟨_, Tryz.func16, by kernel_rfl, rfl⟩   -- bridleway/bridlewaylaw02.ops
theorem txt17LawD : Txt Tryz.prog 17 := ⟨_, Tryz.func17, by kernel_rfl, rfl⟩   -- bridleway/value.Test
theorem txt18LawD : Txt Tryz.prog 18 := ⟨_, Tryz.func18, by kernel_rfl, rfl⟩   -- bridleway/bridlewayref02.Test
theorem txt19LawD : Txt Tryz.prog 19 := ⟨_, Tryz.func19, by kernel_rfl, rfl⟩   -- bridleway/bridlewayref02.Same
theorem txt20LawD : Txt Tryz.prog 20 := ⟨_, Tryz.func20, by kernel_rfl, rfl⟩   -- bridleway/value.Reckon
theorem txt21LawD : Txt Tryz.prog 21 := ⟨_, Tryz.func21, by kernel_rfl, rfl⟩   -- bridleway/bridlewayref02.Reckon
theorem txt22LawD : Txt Tryz.prog 22 := ⟨_, Tryz.func22, by kernel_rfl, rfl⟩   -- bridleway/value.Right
def opsL : List (List UInt8) := [[61], [60, 62], [60], [60, 61], [62], [62, 61], [43], [45], [42], [47], []]
theorem ops_r (w : World) : Ret Tryz.prog 16 [] w fun v w' => (∃ g, v = .slice (some ⟨g, 0, none⟩) 11 11 ∧ w.heap.size ≤ g ∧ Blk w' g 9 (opsL.map str)) ∧ Below w.heap.size w w' := by
  have hb := Below.refl w.heap.size w
  refine enter Tryz.func16 rfl rfl rfl ?_
  refine Wc.seq fun _ hK_1 => ?_
  refine Wc.region ?_
  refine Wl.y (y_assign rfl) rfl ?_
  refine Wl.nil ?_
  refine Wq.next hK_1 ?_
  refine Wc.seq fun _ hK_3 => ?_
  refine Wc.region ?_
  refine Wl.litN (sz := 1) (vs := [_, _, _, _, _, _, _, _, _, _, _]) Tryz.underlying30 (by kernel_rfl) rfl rfl rfl rfl rfl rfl ?_
  rintro g_b0 w_b0 hg_b0 hn_b0 hs_b0
  have hz_b0 := hs_b0.size
  have hb := hb.trans (hs_b0.mono hb.size)
  have hB_b0 := hn_b0
  have hl_b0 := hB_b0.lt
  refine Wl.y (y_assign rfl) rfl ?_
  refine Wl.nil ?_
  refine Wq.next hK_3 ?_
  refine Wc.ret ?_
  refine ret1 rfl rfl ?_
  exact ⟨_, rfl, ⟨_, rfl, hg_b0, hB_b0⟩, hb⟩
theorem ok_null : nullV.Ok := ⟨by decide, by decide, by decide⟩
theorem ok_test (op : List UInt8) (x y : Val) : (testV op x y).1.Ok := by
  unfold testV; repeat' split
  all_goals first | exact ok_null | exact okT _
theorem ok_reck (op : List UInt8) (x y : Val) : (reckonV op x y).1.Ok := by
  unfold reckonV; repeat' split
  all_goals first | exact ok_null | skip
  · rename_i h; have := fits_iff.1 h; exact ⟨this.1, this.2, show (0 : Nat) < 18446744073709551616 by decide⟩
  · exact ⟨show (-9223372036854775808 : Int) ≤ 0 by decide, show (0 : Int) ≤ 9223372036854775807 by decide, by show floatV _ _ _ < _; unfold floatV; split; exact fop_lt _ _ _; split; exact fop_lt _ _ _; exact fop_lt _ _ _⟩
theorem fop_canon (b : BinOp) (m n : Nat) : canon (fop b m n) = fop b m n := canon_idem _
theorem right_reck (op : List UInt8) (x y : Val) : rightV (reckonV op x y).1 = true := by
  unfold reckonV; repeat' split
  all_goals first | rfl | skip
  rw [right3 rfl, decide_eq_true_eq]
  refine ⟨rfl, rfl, ?_⟩
  show canon (floatV _ _ _) = floatV _ _ _
  unfold floatV; repeat' split
  all_goals exact fop_canon _ _ _
theorem strs_at {l : List (List UInt8)} {k : Nat} {v : Value} (h : (l.map str)[k]? = some v) : v = str (l.getD k []) := by
  rw [List.getElem?_map] at h
  cases hl : l[k]? with
  | none => rw [hl] at h; cases h
  | some x => rw [hl] at h; cases h; simp [List.getD, hl]
theorem Tests_r (r s : Raw) (op : List UInt8) (o : r.Ok) (o' : s.Ok) (w : World) (hL : Lb w) : Ret Tryz.prog 3 [r.enc, s.enc, str op] w fun v w' => v = .bool true ∧ Below w.heap.size w w' := by
  have hb := Below.refl w.heap.size w
  have hL_hb := hL
  refine enter Tryz.func3 rfl rfl rfl ?_
  refine Wc.seq fun _ hK_1 => ?_
  refine Wc.region ?_
  refine Wl.boxN rfl rfl ?_
  rintro g_o0 w_o0 hg_o0 hn_o0 hs_o0
  have hz_o0 := hs_o0.size
  have hb := hb.trans (hs_o0.mono hb.size)
  have hL := hL_hb.below hb
  have hB_o0 := hn_o0
  have hl_o0 := hB_o0.lt
  refine Wl.boxN rfl rfl ?_
  rintro g_o1 w_o1 hg_o1 hn_o1 hs_o1
  have hz_o1 := hs_o1.size
  have hb := hb.trans (hs_o1.mono hb.size)
  have hL := hL_hb.below hb
  try have hB_o0 := Blk.below hB_o0 hs_o1
  have hB_o1 := hn_o1
  have hl_o1 := hB_o1.lt
  refine Wl.y (y_assign rfl) rfl ?_
  refine Wl.nil ?_
  refine Wq.next hK_1 ?_
  refine Wc.seq fun _ hK_5 => ?_
  refine Wc.region ?_
  refine Wl.call txt14LawD rfl rfl (shown_r _ hL) rfl ?_
  rintro _ w_k0 ⟨rfl, hs_k0⟩
  have hz_k0 := hs_k0.size
  have hb := hb.trans (hs_k0.mono hb.size)
  have hL := hL_hb.below hb
  try have hB_o0 := Blk.below hB_o0 hs_k0
  try have hB_o1 := Blk.below hB_o1 hs_k0
  refine Wl.y (y_assign rfl) rfl ?_
  refine Wl.nil ?_
  refine Wq.next hK_5 ?_
  refine Wc.seq fun _ hK_8 => ?_
  refine Wc.region ?_
  refine Wl.l (l_loadS Tryz.underlying24 (by kernel_rfl) rfl (by first | exact fun j u hu => hB_o0.at hu | exact fun j u hu => hB_o1.at hu | assumption)) rfl ?_
  refine Wl.call txt15LawD rfl rfl (of_r r o _) rfl ?_
  rintro _ w_k1 ⟨rfl, hs_k1⟩
  have hz_k1 := hs_k1.size
  have hb := hb.trans (hs_k1.mono hb.size)
  have hL := hL_hb.below hb
  try have hB_o0 := Blk.below hB_o0 hs_k1
  try have hB_o1 := Blk.below hB_o1 hs_k1
  refine Wl.allocN (z := (.agg #[(.int .i64 0), (.int .i64 0), (.float .f64 0), (str [])])) (by kernel_rfl) rfl ?_
  rintro g_o4 w_o4 hg_o4 hn_o4 hs_o4
  have hz_o4 := hs_o4.size
  have hb := hb.trans (hs_o4.mono hb.size)
  have hL := hL_hb.below hb
  try have hB_o0 := Blk.below hB_o0 hs_o4
  try have hB_o1 := Blk.below hB_o1 hs_o4
  have hB_o4 := hn_o4
  have hl_o4 := hB_o4.lt
  refine Wl.storeS (by kernel_rfl) rfl rfl hB_o4 rfl rfl ?_
  rintro w_s0 hn_s0 hg_s0
  have hz_s0 := hg_s0.size
  have hb := below_blk hb hg_s0 hb.size (by omega)
  have hL := hL_hb.below hb
  try have hB_o0 := hB_o0.over hg_s0 (by omega)
  try have hB_o1 := hB_o1.over hg_s0 (by omega)
  have hB_o4 := hn_s0
  refine Wl.nil ?_
  refine Wq.next hK_8 ?_
  refine Wc.seq fun _ hK_12 => ?_
  refine Wc.region ?_
  refine Wl.l (l_loadS Tryz.underlying24 (by kernel_rfl) rfl (by first | exact fun j u hu => hB_o0.at hu | exact fun j u hu => hB_o1.at hu | exact fun j u hu => hB_o4.at hu | assumption)) rfl ?_
  refine Wl.call txt15LawD rfl rfl (of_r s o' _) rfl ?_
  rintro _ w_k2 ⟨rfl, hs_k2⟩
  have hz_k2 := hs_k2.size
  have hb := hb.trans (hs_k2.mono hb.size)
  have hL := hL_hb.below hb
  try have hB_o4 := Blk.below hB_o4 hs_k2
  refine Wl.allocN (z := (.agg #[(.int .i64 0), (.int .i64 0), (.float .f64 0), (str [])])) (by kernel_rfl) rfl ?_
  rintro g_o5 w_o5 hg_o5 hn_o5 hs_o5
  have hz_o5 := hs_o5.size
  have hb := hb.trans (hs_o5.mono hb.size)
  have hL := hL_hb.below hb
  try have hB_o4 := Blk.below hB_o4 hs_o5
  have hB_o5 := hn_o5
  have hl_o5 := hB_o5.lt
  refine Wl.storeS (by kernel_rfl) rfl rfl hB_o5 rfl rfl ?_
  rintro w_s1 hn_s1 hg_s1
  have hz_s1 := hg_s1.size
  have hb := below_blk hb hg_s1 hb.size (by omega)
  have hL := hL_hb.below hb
  try have hB_o4 := hB_o4.over hg_s1 (by omega)
  have hB_o5 := hn_s1
  refine Wl.nil ?_
  refine Wq.next hK_12 ?_
  refine Wc.seq fun _ hK_16 => ?_
  refine Wc.region ?_
  refine Wl.call txt16LawD rfl rfl (ops_r _) rfl ?_
  rintro _ w_k3 ⟨⟨gk, rfl, hgk, hB_k3⟩, hs_k3⟩
  have hz_k3 := hs_k3.size
  have hb := hb.trans (hs_k3.mono hb.size)
  have hL := hL_hb.below hb
  try have hB_o4 := Blk.below hB_o4 hs_k3
  try have hB_o5 := Blk.below hB_o5 hs_k3
  refine Wl.y (y_move rfl) rfl ?_
  refine Wl.litN (sz := 1) (vs := [_]) Tryz.underlying30 (by kernel_rfl) rfl rfl rfl rfl rfl rfl ?_
  rintro g_b0 w_b0 hg_b0 hn_b0 hs_b0
  have hz_b0 := hs_b0.size
  have hb := hb.trans (hs_b0.mono hb.size)
  have hL := hL_hb.below hb
  try have hB_o4 := Blk.below hB_o4 hs_b0
  try have hB_o5 := Blk.below hB_o5 hs_b0
  try have hB_k3 := Blk.below hB_k3 hs_b0
  have hB_b0 := hn_b0
  have hl_b0 := hB_b0.lt
  have hO := hB_k3.own (base := w.heap.size) (n := 11) (sz := 1) (by omega) rfl (by decide)
  refine Wl.append (z := (str [])) (sz := 1) (bytes := 16) Tryz.underlying30 (by kernel_rfl) rfl (by decide) _ rfl hO rfl (hB_b0.rd 1 1 rfl) (fun u hu => by rcases List.mem_singleton.1 (show u ∈ [str op] from hu) with rfl; rfl) (by simp only [maxLen]; omega) (by omega) (by first | exact hb.size | omega) rfl ?_
  rintro v_b1 w_b1 hn_b1 hg_b1 ha_b1
  have hz_b1 := hg_b1.size
  have hb := hb.grown hg_b1 hb.size (fun k_ hk_ => by have := (own_ge hO k_ hk_).1; omega)
  have hL := hL_hb.below hb
  try have hB_o4 := Blk.grown hB_o4 hg_b1 (by first | assumption | (simp [Value.ownBlock]; omega))
  try have hB_o5 := Blk.grown hB_o5 hg_b1 (by first | assumption | (simp [Value.ownBlock]; omega))
  have hO := hn_b1
  obtain ⟨A, c, rfl, hnc, _⟩ := own_form hO
  have hR : Rd w_b1 1 A 12 ((opsL ++ [op]).map str) := Rd.of_own hO
  refine Wl.y (y_assign rfl) rfl ?_
  refine Wl.nil ?_
  refine Wq.next hK_16 ?_
  refine Wc.seq fun _ hK_22 => ?_
  refine Wc.seq fun _ hK_23 => ?_
  refine Wc.region ?_
  refine Wl.y (y_assign rfl) rfl ?_
  refine Wl.nil ?_
  refine Wq.next hK_23 ?_
  refine Wc.block ?_
  refine Wc.loop (X := Nat) (fun i => [(7, .bool true), (8, .pointer (some ⟨g_o4, 0, none⟩)), (9, .pointer (some ⟨g_o5, 0, none⟩)), (10, .slice A 12 c), (11, .int .i64 (i : Int))]) (fun i wr => i ≤ 12 ∧ Below w.heap.size w wr ∧ Blk wr g_o4 28 r.val.cells ∧ Blk wr g_o5 28 s.val.cells ∧ Rd wr 1 A 12 ((opsL ++ [op]).map str)) (fun i => 12 - i) (0) ?_ ?_ ?_
  · exact Sub.cons' rfl (by first | rfl | exact int_eq (by omega) | exact int_eq (by simp) | (simp; done)) (Sub.cons' rfl (by first | rfl | exact int_eq (by omega) | exact int_eq (by simp) | (simp; done)) (Sub.cons' rfl (by first | rfl | exact int_eq (by omega) | exact int_eq (by simp) | (simp; done)) (Sub.cons' rfl (by first | rfl | exact int_eq (by omega) | exact int_eq (by simp) | (simp; done)) (Sub.cons' rfl (by first | rfl | exact int_eq (by omega) | exact int_eq (by simp) | (simp; done)) (Sub.nil)))))
  · exact ⟨by omega, hb, hB_o4, hB_o5, hR⟩
  ·
   rintro i wr hI_26 _ hL_25
   replace hI_26 : i ≤ 12 ∧ Below w.heap.size w wr ∧ Blk wr g_o4 28 r.val.cells ∧ Blk wr g_o5 28 s.val.cells ∧ Rd wr 1 A 12 ((opsL ++ [op]).map str) := hI_26
   obtain ⟨hi, hb, hB_o4, hB_o5, hR⟩ := hI_26
   show Wc _ _ _ _ _ [(7, .bool true), (8, .pointer (some ⟨g_o4, 0, none⟩)), (9, .pointer (some ⟨g_o5, 0, none⟩)), (10, .slice A 12 c), (11, .int .i64 (i : Int))] _
   have hL := hL_hb.below hb
   try have hzhb_L0 := hb.size
   have hlhB_o4_L0 := hB_o4.lt
   have hlhB_o5_L0 := hB_o5.lt
   refine Wc.seq fun _ hK_27 => ?_
   refine Wc.seq fun _ hK_28 => ?_
   refine Wc.region ?_
   refine Wl.y (y_move rfl) rfl ?_
   refine Wl.y (y_move rfl) rfl ?_
   refine Wl.y (y_lenl Tryz.underlying30 (by omega) rfl) rfl ?_
   refine Wl.y (y_lssi rfl rfl) rfl ?_
   refine Wl.nil ?_
   refine Wq.next hK_28 ?_
   refine Wc.cond rfl (fun c0_33 => ?_) (fun c0_33 => ?_)
   ·
    have c0_33_ := c0_33
    try simp only [decide_eq_true_eq, decide_eq_false_iff_not, beq_iff_eq, beq_eq_false_iff_ne, bne_iff_ne, bne_eq_false_iff_eq, Bool.not_eq_true', Bool.not_eq_false', Bool.not_eq_eq_eq_not, Bool.not_true, Bool.not_false, ne_eq, Int.not_lt, Int.not_le] at c0_33
    refine Wc.skip ?_
    refine Wq.next hK_27 ?_
    refine Wc.seq fun _ hK_34 => ?_
    refine Wc.block ?_
    refine Wc.seq fun _ hK_35 => ?_
    obtain ⟨p, v, hpe, hv, hcell⟩ := hR.one (i := i) (by omega)
    subst hpe
    have hve := strs_at hv
    subst hve
    have hb2 := Below.refl wr.heap.size wr
    have hB_o4_hb2 := hB_o4
    have hB_o5_hb2 := hB_o5
    have hR_hb2 := hR
    refine Wc.any (n := 13) (fun w' => Below wr.heap.size wr w') #[false, false, false, false, false, false, false, false, false, false, false, false, false] (by kernel_rfl) rfl (by kernel_rfl) ?_
    refine Wa.drew ?_
    rintro w_g7 hs_g7
    have hz_g7 := hs_g7.size
    have hb := hb.trans (hs_g7.mono hb.size)
    have hL := hL_hb.below hb
    have hb2 := hb2.trans (hs_g7.mono hb2.size)
    have hB_o4 := hB_o4_hb2.below hb2
    have hB_o5 := hB_o5_hb2.below hb2
    have hR := hR_hb2.below hb2
    refine Wa.take (i := 0) #[true, false, false, false, false, false, false, false, false, false, false, false, false] rfl (by kernel_rfl) (fun _ _ _ h => h) rfl (fun wq hq => Yl.ld (y_move rfl)) hb2 ?_
    refine Wa.take (i := 1) #[true, true, false, false, false, false, false, false, false, false, false, false, false] rfl (by kernel_rfl) (fun _ _ _ h => h) rfl (fun wq hq => Yl.ld (y_move rfl)) hb2 ?_
    refine Wa.take (i := 2) #[true, true, true, false, false, false, false, false, false, false, false, false, false] rfl (by kernel_rfl) (fun _ _ _ h => h) rfl (fun wq hq => Yl.ld (y_indexAddr Tryz.underlying30 sz9LawD rfl rfl (by omega) (by omega))) hb2 ?_
    refine Wa.take (i := 3) #[true, true, true, true, false, false, false, false, false, false, false, false, false] rfl (by kernel_rfl) (fun _ _ _ h => h) rfl (fun wq hq => l_load one9LawD rfl (by have hB_o4 := hB_o4_hb2.below hq; have hB_o5 := hB_o5_hb2.below hq; have hR := hR_hb2.below hq; exact at1 (cell_below hq hcell))) hb2 ?_
    refine Wa.take (i := 4) #[true, true, true, true, true, false, false, false, false, false, false, false, false] rfl (by kernel_rfl) (fun _ _ _ h => h) rfl (fun wq hq => l_loadS Tryz.underlying28 (by kernel_rfl) rfl (by have hB_o4 := hB_o4_hb2.below hq; have hB_o5 := hB_o5_hb2.below hq; have hR := hR_hb2.below hq; first | exact fun j u hu => hB_o4.at hu | exact fun j u hu => hB_o5.at hu | assumption)) hb2 ?_
    refine Wa.take (i := 5) #[true, true, true, true, true, true, false, false, false, false, false, false, false] rfl (by kernel_rfl) (fun _ _ _ h => h) rfl (fun wq hq => l_loadS Tryz.underlying28 (by kernel_rfl) rfl (by have hB_o4 := hB_o4_hb2.below hq; have hB_o5 := hB_o5_hb2.below hq; have hR := hR_hb2.below hq; first | exact fun j u hu => hB_o4.at hu | exact fun j u hu => hB_o5.at hu | assumption)) hb2 ?_
    refine Wa.some (rs := [6, 10]) (by kernel_rfl) rfl ?_
    refine Ws.cons #[true, true, true, true, true, true, true, false, false, false, false, false, false] rfl rfl (fun _ hK_42 => ?_) ?_
    ·
     refine Wl.call txt17LawD rfl rfl (Test_r _ _ _ o.val o'.val _) rfl ?_
     rintro _ w_k4 ⟨rfl, hs_k4⟩
     have hz_k4 := hs_k4.size
     have hb := hb.trans (hs_k4.mono hb.size)
     have hL := hL_hb.below hb
     have hb2 := hb2.trans (hs_k4.mono hb2.size)
     have hB_o4 := hB_o4_hb2.below hb2
     have hB_o5 := hB_o5_hb2.below hb2
     have hR := hR_hb2.below hb2
     refine Wl.nil ?_
     refine Wq.back hK_42 hb2 ?_
     refine Wa.take (i := 7) #[true, true, true, true, true, true, true, true, false, false, false, false, false] rfl (by kernel_rfl) (fun _ _ _ h => h) rfl (fun wq hq => Yl.ld (y_move rfl)) hb2 ?_
     refine Wa.take (i := 8) #[true, true, true, true, true, true, true, true, true, false, false, false, false] rfl (by kernel_rfl) (fun _ _ _ h => h) rfl (fun wq hq => Yl.ld (y_extract rfl rfl)) hb2 ?_
     refine Wa.take (i := 9) #[true, true, true, true, true, true, true, true, true, true, false, false, false] rfl (by kernel_rfl) (fun _ _ _ h => h) rfl (fun wq hq => Yl.ld (y_extract rfl rfl)) hb2 ?_
     refine Wa.some (rs := [10]) (by kernel_rfl) rfl ?_
     refine Ws.cons #[true, true, true, true, true, true, true, true, true, true, true, false, false] rfl rfl (fun _ hK_47 => ?_) ?_
     ·
      refine Wl.allocN (z := (.agg #[(.int .i64 0), (.int .i64 0), (.float .f64 0), (str [])])) (by kernel_rfl) rfl ?_
      rintro g_o17 w_o17 hg_o17 hn_o17 hs_o17
      have hz_o17 := hs_o17.size
      have hb := hb.trans (hs_o17.mono hb.size)
      have hL := hL_hb.below hb
      have hb2 := hb2.trans (hs_o17.mono hb2.size)
      have hB_o4 := hB_o4_hb2.below hb2
      have hB_o5 := hB_o5_hb2.below hb2
      have hR := hR_hb2.below hb2
      have hB_o17 := hn_o17
      have hl_o17 := hB_o17.lt
      refine Wl.nil ?_
      refine Wq.back hK_47 hb2 ?_
      refine Wa.some (rs := [11]) (by kernel_rfl) rfl ?_
      refine Ws.cons #[true, true, true, true, true, true, true, true, true, true, true, true, false] rfl rfl (fun _ hK_49 => ?_) ?_
      ·
       refine Wl.storeS (by kernel_rfl) rfl rfl hB_o17 rfl rfl ?_
       rintro w_s2 hn_s2 hg_s2
       have hz_s2 := hg_s2.size
       have hb := below_blk hb hg_s2 hb.size (by omega)
       have hL := hL_hb.below hb
       have hb2 := below_blk hb2 hg_s2 hb2.size (by omega)
       have hB_o4 := hB_o4_hb2.below hb2
       have hB_o5 := hB_o5_hb2.below hb2
       have hR := hR_hb2.below hb2
       have hB_o17 := hn_s2
       refine Wl.nil ?_
       refine Wq.back hK_49 hb2 ?_
       refine Wa.take (i := 12) #[true, true, true, true, true, true, true, true, true, true, true, true, true] rfl (by kernel_rfl) (fun _ _ _ h => h) rfl (fun wq hq => Yl.ld (y_assign rfl)) hb2 ?_
       refine Wa.done (by kernel_rfl) ?_
       refine Wq.next hK_35 ?_
       refine Wc.seq fun _ hK_51 => ?_
       refine Wc.any (n := 13) (fun w' => Below wr.heap.size wr w') #[false, false, false, false, false, false, false, false, false, false, false, false, false] (by kernel_rfl) rfl (by kernel_rfl) ?_
       refine Wa.drew ?_
       rintro w_g8 hs_g8
       have hz_g8 := hs_g8.size
       have hb := hb.trans (hs_g8.mono hb.size)
       have hL := hL_hb.below hb
       have hb2 := hb2.trans (hs_g8.mono hb2.size)
       have hB_o4 := hB_o4_hb2.below hb2
       have hB_o5 := hB_o5_hb2.below hb2
       have hR := hR_hb2.below hb2
       try have hB_o17 := Blk.below hB_o17 hs_g8
       refine Wa.take (i := 0) #[true, false, false, false, false, false, false, false, false, false, false, false, false] rfl (by kernel_rfl) (fun _ _ _ h => h) rfl (fun wq hq => Yl.ld (y_move rfl)) hb2 ?_
       refine Wa.take (i := 1) #[true, true, false, false, false, false, false, false, false, false, false, false, false] rfl (by kernel_rfl) (fun _ _ _ h => h) rfl (fun wq hq => Yl.ld (y_move rfl)) hb2 ?_
       refine Wa.take (i := 2) #[true, true, true, false, false, false, false, false, false, false, false, false, false] rfl (by kernel_rfl) (fun _ _ _ h => h) rfl (fun wq hq => Yl.ld (y_indexAddr Tryz.underlying30 sz9LawD rfl rfl (by omega) (by omega))) hb2 ?_
       refine Wa.take (i := 3) #[true, true, true, true, false, false, false, false, false, false, false, false, false] rfl (by kernel_rfl) (fun _ _ _ h => h) rfl (fun wq hq => l_load one9LawD rfl (by have hB_o4 := hB_o4_hb2.below hq; have hB_o5 := hB_o5_hb2.below hq; have hR := hR_hb2.below hq; exact at1 (cell_below hq hcell))) hb2 ?_
       refine Wa.take (i := 4) #[true, true, true, true, true, false, false, false, false, false, false, false, false] rfl (by kernel_rfl) (fun _ _ _ h => h) rfl (fun wq hq => l_loadS Tryz.underlying28 (by kernel_rfl) rfl (by have hB_o4 := hB_o4_hb2.below hq; have hB_o5 := hB_o5_hb2.below hq; have hR := hR_hb2.below hq; first | exact fun j u hu => hB_o17.at hu | exact fun j u hu => hB_o4.at hu | exact fun j u hu => hB_o5.at hu | assumption)) hb2 ?_
       refine Wa.take (i := 5) #[true, true, true, true, true, true, false, false, false, false, false, false, false] rfl (by kernel_rfl) (fun _ _ _ h => h) rfl (fun wq hq => l_loadS Tryz.underlying28 (by kernel_rfl) rfl (by have hB_o4 := hB_o4_hb2.below hq; have hB_o5 := hB_o5_hb2.below hq; have hR := hR_hb2.below hq; first | exact fun j u hu => hB_o17.at hu | exact fun j u hu => hB_o4.at hu | exact fun j u hu => hB_o5.at hu | assumption)) hb2 ?_
       refine Wa.some (rs := [6, 10]) (by kernel_rfl) rfl ?_
       refine Ws.cons #[true, true, true, true, true, true, true, false, false, false, false, false, false] rfl rfl (fun _ hK_58 => ?_) ?_
       ·
        refine Wl.call txt18LawD rfl rfl (RTest_r _ _ _ o.val o'.val _) rfl ?_
        rintro _ w_k5 ⟨rfl, hs_k5⟩
        have hz_k5 := hs_k5.size
        have hb := hb.trans (hs_k5.mono hb.size)
        have hL := hL_hb.below hb
        have hb2 := hb2.trans (hs_k5.mono hb2.size)
        have hB_o4 := hB_o4_hb2.below hb2
        have hB_o5 := hB_o5_hb2.below hb2
        have hR := hR_hb2.below hb2
        try have hB_o17 := Blk.below hB_o17 hs_k5
        refine Wl.nil ?_
        refine Wq.back hK_58 hb2 ?_
        refine Wa.take (i := 7) #[true, true, true, true, true, true, true, true, false, false, false, false, false] rfl (by kernel_rfl) (fun _ _ _ h => h) rfl (fun wq hq => Yl.ld (y_move rfl)) hb2 ?_
        refine Wa.take (i := 8) #[true, true, true, true, true, true, true, true, true, false, false, false, false] rfl (by kernel_rfl) (fun _ _ _ h => h) rfl (fun wq hq => Yl.ld (y_extract rfl rfl)) hb2 ?_
        refine Wa.take (i := 9) #[true, true, true, true, true, true, true, true, true, true, false, false, false] rfl (by kernel_rfl) (fun _ _ _ h => h) rfl (fun wq hq => Yl.ld (y_extract rfl rfl)) hb2 ?_
        refine Wa.some (rs := [10]) (by kernel_rfl) rfl ?_
        refine Ws.cons #[true, true, true, true, true, true, true, true, true, true, true, false, false] rfl rfl (fun _ hK_63 => ?_) ?_
        ·
         refine Wl.allocN (z := (.agg #[(.int .i64 0), (.int .i64 0), (.float .f64 0), (str [])])) (by kernel_rfl) rfl ?_
         rintro g_o24 w_o24 hg_o24 hn_o24 hs_o24
         have hz_o24 := hs_o24.size
         have hb := hb.trans (hs_o24.mono hb.size)
         have hL := hL_hb.below hb
         have hb2 := hb2.trans (hs_o24.mono hb2.size)
         have hB_o4 := hB_o4_hb2.below hb2
         have hB_o5 := hB_o5_hb2.below hb2
         have hR := hR_hb2.below hb2
         try have hB_o17 := Blk.below hB_o17 hs_o24
         have hB_o24 := hn_o24
         have hl_o24 := hB_o24.lt
         refine Wl.nil ?_
         refine Wq.back hK_63 hb2 ?_
         refine Wa.some (rs := [11]) (by kernel_rfl) rfl ?_
         refine Ws.cons #[true, true, true, true, true, true, true, true, true, true, true, true, false] rfl rfl (fun _ hK_65 => ?_) ?_
         ·
          refine Wl.storeS (by kernel_rfl) rfl rfl hB_o24 rfl rfl ?_
          rintro w_s3 hn_s3 hg_s3
          have hz_s3 := hg_s3.size
          have hb := below_blk hb hg_s3 hb.size (by omega)
          have hL := hL_hb.below hb
          have hb2 := below_blk hb2 hg_s3 hb2.size (by omega)
          have hB_o4 := hB_o4_hb2.below hb2
          have hB_o5 := hB_o5_hb2.below hb2
          have hR := hR_hb2.below hb2
          try have hB_o17 := hB_o17.over hg_s3 (by omega)
          have hB_o24 := hn_s3
          refine Wl.nil ?_
          refine Wq.back hK_65 hb2 ?_
          refine Wa.take (i := 12) #[true, true, true, true, true, true, true, true, true, true, true, true, true] rfl (by kernel_rfl) (fun _ _ _ h => h) rfl (fun wq hq => Yl.ld (y_assign rfl)) hb2 ?_
          refine Wa.done (by kernel_rfl) ?_
          refine Wq.next hK_51 ?_
          refine Wc.seq fun _ hK_67 => ?_
          refine Wc.region ?_
          refine Wl.y (y_move rfl) rfl ?_
          refine Wl.y (y_move rfl) rfl ?_
          refine Wl.y (y_neqi rfl rfl) rfl ?_
          refine Wl.y (y_move rfl) rfl ?_
          refine Wl.guardF rfl rfl rfl (fun g_72 => ?_) (fun g_72 => ?_)
          ·
           have g_72_ := g_72
           try simp only [decide_eq_true_eq, decide_eq_false_iff_not, beq_iff_eq, beq_eq_false_iff_ne, bne_iff_ne, bne_eq_false_iff_eq, Bool.not_eq_true', Bool.not_eq_false', Bool.not_eq_eq_eq_not, Bool.not_true, Bool.not_false, ne_eq, Int.not_lt, Int.not_le] at g_72
           exact absurd g_72_ (by simp)
          ·
           have g_72_ := g_72
           try simp only [decide_eq_true_eq, decide_eq_false_iff_not, beq_iff_eq, beq_eq_false_iff_ne, bne_iff_ne, bne_eq_false_iff_eq, Bool.not_eq_true', Bool.not_eq_false', Bool.not_eq_eq_eq_not, Bool.not_true, Bool.not_false, ne_eq, Int.not_lt, Int.not_le] at g_72
           refine Wl.l (l_loadS Tryz.underlying28 (by kernel_rfl) rfl (by first | exact fun j u hu => hB_o17.at hu | exact fun j u hu => hB_o24.at hu | exact fun j u hu => hB_o4.at hu | exact fun j u hu => hB_o5.at hu | assumption)) rfl ?_
           refine Wl.on' rfl rfl g_72_ ?_
           refine Wl.l (l_loadS Tryz.underlying28 (by kernel_rfl) rfl (by first | exact fun j u hu => hB_o17.at hu | exact fun j u hu => hB_o24.at hu | exact fun j u hu => hB_o4.at hu | exact fun j u hu => hB_o5.at hu | assumption)) rfl ?_
           refine Wl.on' rfl rfl g_72_ ?_
           refine Wl.call txt19LawD rfl rfl (RSame_r _ _ (ok_test _ _ _) (ok_test _ _ _) _) rfl ?_
           rintro _ w_k6 ⟨rfl, hs_k6⟩
           have hz_k6 := hs_k6.size
           have hb := hb.trans (hs_k6.mono hb.size)
           have hL := hL_hb.below hb
           have hb2 := hb2.trans (hs_k6.mono hb2.size)
           have hB_o4 := hB_o4_hb2.below hb2
           have hB_o5 := hB_o5_hb2.below hb2
           have hR := hR_hb2.below hb2
           refine Wl.on' rfl rfl g_72_ ?_
           refine Wl.y (y_not rfl) rfl ?_
           refine Wl.y (y_pickF rfl g_72_ rfl) rfl ?_
           refine Wl.nil ?_
           refine Wq.next hK_67 ?_
           refine Wc.cond rfl (fun c1_78 => ?_) (fun c1_78 => ?_)
           ·
            have c1_78_ := c1_78
            try simp only [decide_eq_true_eq, decide_eq_false_iff_not, beq_iff_eq, beq_eq_false_iff_ne, bne_iff_ne, bne_eq_false_iff_eq, Bool.not_eq_true', Bool.not_eq_false', Bool.not_eq_eq_eq_not, Bool.not_true, Bool.not_false, ne_eq, Int.not_lt, Int.not_le] at c1_78
            exact absurd c1_78_ (by rw [sameV_refl]; simp)
           ·
            have c1_78_ := c1_78
            try simp only [decide_eq_true_eq, decide_eq_false_iff_not, beq_iff_eq, beq_eq_false_iff_ne, bne_iff_ne, bne_eq_false_iff_eq, Bool.not_eq_true', Bool.not_eq_false', Bool.not_eq_eq_eq_not, Bool.not_true, Bool.not_false, ne_eq, Int.not_lt, Int.not_le] at c1_78
            refine Wc.skip ?_
            refine Wq.block_normal ?_
            refine Wq.next hK_34 ?_
            refine Wc.region ?_
            refine Wl.y (y_move rfl) rfl ?_
            refine Wl.y (y_addI rfl rfl (by first | omega | (simp; done) | (simp; omega)) (by first | omega | (simp; done) | (simp; omega))) rfl ?_
            refine Wl.y (y_assign rfl) rfl ?_
            refine Wl.nil ?_
            refine fun a_ ha_ => hL_25 _ _ (i + 1) (by first | omega | (simp; omega)) (Sub.cons' rfl (by first | rfl | exact int_eq (by omega) | exact int_eq (by simp) | (simp; done)) (Sub.cons' rfl (by first | rfl | exact int_eq (by omega) | exact int_eq (by simp) | (simp; done)) (Sub.cons' rfl (by first | rfl | exact int_eq (by omega) | exact int_eq (by simp) | (simp; done)) (Sub.cons' rfl (by first | rfl | exact int_eq (by omega) | exact int_eq (by simp) | (simp; done)) (Sub.cons' rfl (by first | rfl | exact int_eq (by omega) | exact int_eq (by simp) | (simp; done)) (Sub.nil)))))) ?_ a_ ha_
            exact ⟨by omega, hb, hB_o4, hB_o5, hR⟩
         exact Ws.nil
        exact Ws.nil
       refine Ws.cons #[true, true, true, true, true, true, false, false, false, false, true, false, false] rfl rfl (fun _ hK_82 => ?_) ?_
       ·
        refine Wl.allocN (z := (.agg #[(.int .i64 0), (.int .i64 0), (.float .f64 0), (str [])])) (by kernel_rfl) rfl ?_
        rintro g_o24 w_o24 hg_o24 hn_o24 hs_o24
        have hz_o24 := hs_o24.size
        have hb := hb.trans (hs_o24.mono hb.size)
        have hL := hL_hb.below hb
        have hb2 := hb2.trans (hs_o24.mono hb2.size)
        have hB_o4 := hB_o4_hb2.below hb2
        have hB_o5 := hB_o5_hb2.below hb2
        have hR := hR_hb2.below hb2
        try have hB_o17 := Blk.below hB_o17 hs_o24
        have hB_o24 := hn_o24
        have hl_o24 := hB_o24.lt
        refine Wl.nil ?_
        refine Wq.back hK_82 hb2 ?_
        refine Wa.some (rs := [6]) (by kernel_rfl) rfl ?_
        refine Ws.cons #[true, true, true, true, true, true, true, false, false, false, true, false, false] rfl rfl (fun _ hK_84 => ?_) ?_
        ·
         refine Wl.call txt18LawD rfl rfl (RTest_r _ _ _ o.val o'.val _) rfl ?_
         rintro _ w_k5 ⟨rfl, hs_k5⟩
         have hz_k5 := hs_k5.size
         have hb := hb.trans (hs_k5.mono hb.size)
         have hL := hL_hb.below hb
         have hb2 := hb2.trans (hs_k5.mono hb2.size)
         have hB_o4 := hB_o4_hb2.below hb2
         have hB_o5 := hB_o5_hb2.below hb2
         have hR := hR_hb2.below hb2
         try have hB_o17 := Blk.below hB_o17 hs_k5
         try have hB_o24 := Blk.below hB_o24 hs_k5
         refine Wl.nil ?_
         refine Wq.back hK_84 hb2 ?_
         refine Wa.take (i := 7) #[true, true, true, true, true, true, true, true, false, false, true, false, false] rfl (by kernel_rfl) (fun _ _ _ h => h) rfl (fun wq hq => Yl.ld (y_move rfl)) hb2 ?_
         refine Wa.take (i := 8) #[true, true, true, true, true, true, true, true, true, false, true, false, false] rfl (by kernel_rfl) (fun _ _ _ h => h) rfl (fun wq hq => Yl.ld (y_extract rfl rfl)) hb2 ?_
         refine Wa.take (i := 9) #[true, true, true, true, true, true, true, true, true, true, true, false, false] rfl (by kernel_rfl) (fun _ _ _ h => h) rfl (fun wq hq => Yl.ld (y_extract rfl rfl)) hb2 ?_
         refine Wa.some (rs := [11]) (by kernel_rfl) rfl ?_
         refine Ws.cons #[true, true, true, true, true, true, true, true, true, true, true, true, false] rfl rfl (fun _ hK_89 => ?_) ?_
         ·
          refine Wl.storeS (by kernel_rfl) rfl rfl hB_o24 rfl rfl ?_
          rintro w_s3 hn_s3 hg_s3
          have hz_s3 := hg_s3.size
          have hb := below_blk hb hg_s3 hb.size (by omega)
          have hL := hL_hb.below hb
          have hb2 := below_blk hb2 hg_s3 hb2.size (by omega)
          have hB_o4 := hB_o4_hb2.below hb2
          have hB_o5 := hB_o5_hb2.below hb2
          have hR := hR_hb2.below hb2
          try have hB_o17 := hB_o17.over hg_s3 (by omega)
          have hB_o24 := hn_s3
          refine Wl.nil ?_
          refine Wq.back hK_89 hb2 ?_
          refine Wa.take (i := 12) #[true, true, true, true, true, true, true, true, true, true, true, true, true] rfl (by kernel_rfl) (fun _ _ _ h => h) rfl (fun wq hq => Yl.ld (y_assign rfl)) hb2 ?_
          refine Wa.done (by kernel_rfl) ?_
          refine Wq.next hK_51 ?_
          refine Wc.seq fun _ hK_91 => ?_
          refine Wc.region ?_
          refine Wl.y (y_move rfl) rfl ?_
          refine Wl.y (y_move rfl) rfl ?_
          refine Wl.y (y_neqi rfl rfl) rfl ?_
          refine Wl.y (y_move rfl) rfl ?_
          refine Wl.guardF rfl rfl rfl (fun g_96 => ?_) (fun g_96 => ?_)
          ·
           have g_96_ := g_96
           try simp only [decide_eq_true_eq, decide_eq_false_iff_not, beq_iff_eq, beq_eq_false_iff_ne, bne_iff_ne, bne_eq_false_iff_eq, Bool.not_eq_true', Bool.not_eq_false', Bool.not_eq_eq_eq_not, Bool.not_true, Bool.not_false, ne_eq, Int.not_lt, Int.not_le] at g_96
           exact absurd g_96_ (by simp)
          ·
           have g_96_ := g_96
           try simp only [decide_eq_true_eq, decide_eq_false_iff_not, beq_iff_eq, beq_eq_false_iff_ne, bne_iff_ne, bne_eq_false_iff_eq, Bool.not_eq_true', Bool.not_eq_false', Bool.not_eq_eq_eq_not, Bool.not_true, Bool.not_false, ne_eq, Int.not_lt, Int.not_le] at g_96
           refine Wl.l (l_loadS Tryz.underlying28 (by kernel_rfl) rfl (by first | exact fun j u hu => hB_o17.at hu | exact fun j u hu => hB_o24.at hu | exact fun j u hu => hB_o4.at hu | exact fun j u hu => hB_o5.at hu | assumption)) rfl ?_
           refine Wl.on' rfl rfl g_96_ ?_
           refine Wl.l (l_loadS Tryz.underlying28 (by kernel_rfl) rfl (by first | exact fun j u hu => hB_o17.at hu | exact fun j u hu => hB_o24.at hu | exact fun j u hu => hB_o4.at hu | exact fun j u hu => hB_o5.at hu | assumption)) rfl ?_
           refine Wl.on' rfl rfl g_96_ ?_
           refine Wl.call txt19LawD rfl rfl (RSame_r _ _ (ok_test _ _ _) (ok_test _ _ _) _) rfl ?_
           rintro _ w_k6 ⟨rfl, hs_k6⟩
           have hz_k6 := hs_k6.size
           have hb := hb.trans (hs_k6.mono hb.size)
           have hL := hL_hb.below hb
           have hb2 := hb2.trans (hs_k6.mono hb2.size)
           have hB_o4 := hB_o4_hb2.below hb2
           have hB_o5 := hB_o5_hb2.below hb2
           have hR := hR_hb2.below hb2
           refine Wl.on' rfl rfl g_96_ ?_
           refine Wl.y (y_not rfl) rfl ?_
           refine Wl.y (y_pickF rfl g_96_ rfl) rfl ?_
           refine Wl.nil ?_
           refine Wq.next hK_91 ?_
           refine Wc.cond rfl (fun c1_102 => ?_) (fun c1_102 => ?_)
           ·
            have c1_102_ := c1_102
            try simp only [decide_eq_true_eq, decide_eq_false_iff_not, beq_iff_eq, beq_eq_false_iff_ne, bne_iff_ne, bne_eq_false_iff_eq, Bool.not_eq_true', Bool.not_eq_false', Bool.not_eq_eq_eq_not, Bool.not_true, Bool.not_false, ne_eq, Int.not_lt, Int.not_le] at c1_102
            exact absurd c1_102_ (by rw [sameV_refl]; simp)
           ·
            have c1_102_ := c1_102
            try simp only [decide_eq_true_eq, decide_eq_false_iff_not, beq_iff_eq, beq_eq_false_iff_ne, bne_iff_ne, bne_eq_false_iff_eq, Bool.not_eq_true', Bool.not_eq_false', Bool.not_eq_eq_eq_not, Bool.not_true, Bool.not_false, ne_eq, Int.not_lt, Int.not_le] at c1_102
            refine Wc.skip ?_
            refine Wq.block_normal ?_
            refine Wq.next hK_34 ?_
            refine Wc.region ?_
            refine Wl.y (y_move rfl) rfl ?_
            refine Wl.y (y_addI rfl rfl (by first | omega | (simp; done) | (simp; omega)) (by first | omega | (simp; done) | (simp; omega))) rfl ?_
            refine Wl.y (y_assign rfl) rfl ?_
            refine Wl.nil ?_
            refine fun a_ ha_ => hL_25 _ _ (i + 1) (by first | omega | (simp; omega)) (Sub.cons' rfl (by first | rfl | exact int_eq (by omega) | exact int_eq (by simp) | (simp; done)) (Sub.cons' rfl (by first | rfl | exact int_eq (by omega) | exact int_eq (by simp) | (simp; done)) (Sub.cons' rfl (by first | rfl | exact int_eq (by omega) | exact int_eq (by simp) | (simp; done)) (Sub.cons' rfl (by first | rfl | exact int_eq (by omega) | exact int_eq (by simp) | (simp; done)) (Sub.cons' rfl (by first | rfl | exact int_eq (by omega) | exact int_eq (by simp) | (simp; done)) (Sub.nil)))))) ?_ a_ ha_
            exact ⟨by omega, hb, hB_o4, hB_o5, hR⟩
         exact Ws.nil
        exact Ws.nil
       exact Ws.nil
      exact Ws.nil
     exact Ws.nil
    refine Ws.cons #[true, true, true, true, true, true, false, false, false, false, true, false, false] rfl rfl (fun _ hK_106 => ?_) ?_
    ·
     refine Wl.allocN (z := (.agg #[(.int .i64 0), (.int .i64 0), (.float .f64 0), (str [])])) (by kernel_rfl) rfl ?_
     rintro g_o17 w_o17 hg_o17 hn_o17 hs_o17
     have hz_o17 := hs_o17.size
     have hb := hb.trans (hs_o17.mono hb.size)
     have hL := hL_hb.below hb
     have hb2 := hb2.trans (hs_o17.mono hb2.size)
     have hB_o4 := hB_o4_hb2.below hb2
     have hB_o5 := hB_o5_hb2.below hb2
     have hR := hR_hb2.below hb2
     have hB_o17 := hn_o17
     have hl_o17 := hB_o17.lt
     refine Wl.nil ?_
     refine Wq.back hK_106 hb2 ?_
     refine Wa.some (rs := [6]) (by kernel_rfl) rfl ?_
     refine Ws.cons #[true, true, true, true, true, true, true, false, false, false, true, false, false] rfl rfl (fun _ hK_108 => ?_) ?_
     ·
      refine Wl.call txt17LawD rfl rfl (Test_r _ _ _ o.val o'.val _) rfl ?_
      rintro _ w_k4 ⟨rfl, hs_k4⟩
      have hz_k4 := hs_k4.size
      have hb := hb.trans (hs_k4.mono hb.size)
      have hL := hL_hb.below hb
      have hb2 := hb2.trans (hs_k4.mono hb2.size)
      have hB_o4 := hB_o4_hb2.below hb2
      have hB_o5 := hB_o5_hb2.below hb2
      have hR := hR_hb2.below hb2
      try have hB_o17 := Blk.below hB_o17 hs_k4
      refine Wl.nil ?_
      refine Wq.back hK_108 hb2 ?_
      refine Wa.take (i := 7) #[true, true, true, true, true, true, true, true, false, false, true, false, false] rfl (by kernel_rfl) (fun _ _ _ h => h) rfl (fun wq hq => Yl.ld (y_move rfl)) hb2 ?_
      refine Wa.take (i := 8) #[true, true, true, true, true, true, true, true, true, false, true, false, false] rfl (by kernel_rfl) (fun _ _ _ h => h) rfl (fun wq hq => Yl.ld (y_extract rfl rfl)) hb2 ?_
      refine Wa.take (i := 9) #[true, true, true, true, true, true, true, true, true, true, true, false, false] rfl (by kernel_rfl) (fun _ _ _ h => h) rfl (fun wq hq => Yl.ld (y_extract rfl rfl)) hb2 ?_
      refine Wa.some (rs := [11]) (by kernel_rfl) rfl ?_
      refine Ws.cons #[true, true, true, true, true, true, true, true, true, true, true, true, false] rfl rfl (fun _ hK_113 => ?_) ?_
      ·
       refine Wl.storeS (by kernel_rfl) rfl rfl hB_o17 rfl rfl ?_
       rintro w_s2 hn_s2 hg_s2
       have hz_s2 := hg_s2.size
       have hb := below_blk hb hg_s2 hb.size (by omega)
       have hL := hL_hb.below hb
       have hb2 := below_blk hb2 hg_s2 hb2.size (by omega)
       have hB_o4 := hB_o4_hb2.below hb2
       have hB_o5 := hB_o5_hb2.below hb2
       have hR := hR_hb2.below hb2
       have hB_o17 := hn_s2
       refine Wl.nil ?_
       refine Wq.back hK_113 hb2 ?_
       refine Wa.take (i := 12) #[true, true, true, true, true, true, true, true, true, true, true, true, true] rfl (by kernel_rfl) (fun _ _ _ h => h) rfl (fun wq hq => Yl.ld (y_assign rfl)) hb2 ?_
       refine Wa.done (by kernel_rfl) ?_
       refine Wq.next hK_35 ?_
       refine Wc.seq fun _ hK_115 => ?_
       refine Wc.any (n := 13) (fun w' => Below wr.heap.size wr w') #[false, false, false, false, false, false, false, false, false, false, false, false, false] (by kernel_rfl) rfl (by kernel_rfl) ?_
       refine Wa.drew ?_
       rintro w_g8 hs_g8
       have hz_g8 := hs_g8.size
       have hb := hb.trans (hs_g8.mono hb.size)
       have hL := hL_hb.below hb
       have hb2 := hb2.trans (hs_g8.mono hb2.size)
       have hB_o4 := hB_o4_hb2.below hb2
       have hB_o5 := hB_o5_hb2.below hb2
       have hR := hR_hb2.below hb2
       try have hB_o17 := Blk.below hB_o17 hs_g8
       refine Wa.take (i := 0) #[true, false, false, false, false, false, false, false, false, false, false, false, false] rfl (by kernel_rfl) (fun _ _ _ h => h) rfl (fun wq hq => Yl.ld (y_move rfl)) hb2 ?_
       refine Wa.take (i := 1) #[true, true, false, false, false, false, false, false, false, false, false, false, false] rfl (by kernel_rfl) (fun _ _ _ h => h) rfl (fun wq hq => Yl.ld (y_move rfl)) hb2 ?_
       refine Wa.take (i := 2) #[true, true, true, false, false, false, false, false, false, false, false, false, false] rfl (by kernel_rfl) (fun _ _ _ h => h) rfl (fun wq hq => Yl.ld (y_indexAddr Tryz.underlying30 sz9LawD rfl rfl (by omega) (by omega))) hb2 ?_
       refine Wa.take (i := 3) #[true, true, true, true, false, false, false, false, false, false, false, false, false] rfl (by kernel_rfl) (fun _ _ _ h => h) rfl (fun wq hq => l_load one9LawD rfl (by have hB_o4 := hB_o4_hb2.below hq; have hB_o5 := hB_o5_hb2.below hq; have hR := hR_hb2.below hq; exact at1 (cell_below hq hcell))) hb2 ?_
       refine Wa.take (i := 4) #[true, true, true, true, true, false, false, false, false, false, false, false, false] rfl (by kernel_rfl) (fun _ _ _ h => h) rfl (fun wq hq => l_loadS Tryz.underlying28 (by kernel_rfl) rfl (by have hB_o4 := hB_o4_hb2.below hq; have hB_o5 := hB_o5_hb2.below hq; have hR := hR_hb2.below hq; first | exact fun j u hu => hB_o17.at hu | exact fun j u hu => hB_o4.at hu | exact fun j u hu => hB_o5.at hu | assumption)) hb2 ?_
       refine Wa.take (i := 5) #[true, true, true, true, true, true, false, false, false, false, false, false, false] rfl (by kernel_rfl) (fun _ _ _ h => h) rfl (fun wq hq => l_loadS Tryz.underlying28 (by kernel_rfl) rfl (by have hB_o4 := hB_o4_hb2.below hq; have hB_o5 := hB_o5_hb2.below hq; have hR := hR_hb2.below hq; first | exact fun j u hu => hB_o17.at hu | exact fun j u hu => hB_o4.at hu | exact fun j u hu => hB_o5.at hu | assumption)) hb2 ?_
       refine Wa.some (rs := [6, 10]) (by kernel_rfl) rfl ?_
       refine Ws.cons #[true, true, true, true, true, true, true, false, false, false, false, false, false] rfl rfl (fun _ hK_122 => ?_) ?_
       ·
        refine Wl.call txt18LawD rfl rfl (RTest_r _ _ _ o.val o'.val _) rfl ?_
        rintro _ w_k5 ⟨rfl, hs_k5⟩
        have hz_k5 := hs_k5.size
        have hb := hb.trans (hs_k5.mono hb.size)
        have hL := hL_hb.below hb
        have hb2 := hb2.trans (hs_k5.mono hb2.size)
        have hB_o4 := hB_o4_hb2.below hb2
        have hB_o5 := hB_o5_hb2.below hb2
        have hR := hR_hb2.below hb2
        try have hB_o17 := Blk.below hB_o17 hs_k5
        refine Wl.nil ?_
        refine Wq.back hK_122 hb2 ?_
        refine Wa.take (i := 7) #[true, true, true, true, true, true, true, true, false, false, false, false, false] rfl (by kernel_rfl) (fun _ _ _ h => h) rfl (fun wq hq => Yl.ld (y_move rfl)) hb2 ?_
        refine Wa.take (i := 8) #[true, true, true, true, true, true, true, true, true, false, false, false, false] rfl (by kernel_rfl) (fun _ _ _ h => h) rfl (fun wq hq => Yl.ld (y_extract rfl rfl)) hb2 ?_
        refine Wa.take (i := 9) #[true, true, true, true, true, true, true, true, true, true, false, false, false] rfl (by kernel_rfl) (fun _ _ _ h => h) rfl (fun wq hq => Yl.ld (y_extract rfl rfl)) hb2 ?_
        refine Wa.some (rs := [10]) (by kernel_rfl) rfl ?_
        refine Ws.cons #[true, true, true, true, true, true, true, true, true, true, true, false, false] rfl rfl (fun _ hK_127 => ?_) ?_
        ·
         refine Wl.allocN (z := (.agg #[(.int .i64 0), (.int .i64 0), (.float .f64 0), (str [])])) (by kernel_rfl) rfl ?_
         rintro g_o24 w_o24 hg_o24 hn_o24 hs_o24
         have hz_o24 := hs_o24.size
         have hb := hb.trans (hs_o24.mono hb.size)
         have hL := hL_hb.below hb
         have hb2 := hb2.trans (hs_o24.mono hb2.size)
         have hB_o4 := hB_o4_hb2.below hb2
         have hB_o5 := hB_o5_hb2.below hb2
         have hR := hR_hb2.below hb2
         try have hB_o17 := Blk.below hB_o17 hs_o24
         have hB_o24 := hn_o24
         have hl_o24 := hB_o24.lt
         refine Wl.nil ?_
         refine Wq.back hK_127 hb2 ?_
         refine Wa.some (rs := [11]) (by kernel_rfl) rfl ?_
         refine Ws.cons #[true, true, true, true, true, true, true, true, true, true, true, true, false] rfl rfl (fun _ hK_129 => ?_) ?_
         ·
          refine Wl.storeS (by kernel_rfl) rfl rfl hB_o24 rfl rfl ?_
          rintro w_s3 hn_s3 hg_s3
          have hz_s3 := hg_s3.size
          have hb := below_blk hb hg_s3 hb.size (by omega)
          have hL := hL_hb.below hb
          have hb2 := below_blk hb2 hg_s3 hb2.size (by omega)
          have hB_o4 := hB_o4_hb2.below hb2
          have hB_o5 := hB_o5_hb2.below hb2
          have hR := hR_hb2.below hb2
          try have hB_o17 := hB_o17.over hg_s3 (by omega)
          have hB_o24 := hn_s3
          refine Wl.nil ?_
          refine Wq.back hK_129 hb2 ?_
          refine Wa.take (i := 12) #[true, true, true, true, true, true, true, true, true, true, true, true, true] rfl (by kernel_rfl) (fun _ _ _ h => h) rfl (fun wq hq => Yl.ld (y_assign rfl)) hb2 ?_
          refine Wa.done (by kernel_rfl) ?_
          refine Wq.next hK_115 ?_
          refine Wc.seq fun _ hK_131 => ?_
          refine Wc.region ?_
          refine Wl.y (y_move rfl) rfl ?_
          refine Wl.y (y_move rfl) rfl ?_
          refine Wl.y (y_neqi rfl rfl) rfl ?_
          refine Wl.y (y_move rfl) rfl ?_
          refine Wl.guardF rfl rfl rfl (fun g_136 => ?_) (fun g_136 => ?_)
          ·
           have g_136_ := g_136
           try simp only [decide_eq_true_eq, decide_eq_false_iff_not, beq_iff_eq, beq_eq_false_iff_ne, bne_iff_ne, bne_eq_false_iff_eq, Bool.not_eq_true', Bool.not_eq_false', Bool.not_eq_eq_eq_not, Bool.not_true, Bool.not_false, ne_eq, Int.not_lt, Int.not_le] at g_136
           exact absurd g_136_ (by simp)
          ·
           have g_136_ := g_136
           try simp only [decide_eq_true_eq, decide_eq_false_iff_not, beq_iff_eq, beq_eq_false_iff_ne, bne_iff_ne, bne_eq_false_iff_eq, Bool.not_eq_true', Bool.not_eq_false', Bool.not_eq_eq_eq_not, Bool.not_true, Bool.not_false, ne_eq, Int.not_lt, Int.not_le] at g_136
           refine Wl.l (l_loadS Tryz.underlying28 (by kernel_rfl) rfl (by first | exact fun j u hu => hB_o17.at hu | exact fun j u hu => hB_o24.at hu | exact fun j u hu => hB_o4.at hu | exact fun j u hu => hB_o5.at hu | assumption)) rfl ?_
           refine Wl.on' rfl rfl g_136_ ?_
           refine Wl.l (l_loadS Tryz.underlying28 (by kernel_rfl) rfl (by first | exact fun j u hu => hB_o17.at hu | exact fun j u hu => hB_o24.at hu | exact fun j u hu => hB_o4.at hu | exact fun j u hu => hB_o5.at hu | assumption)) rfl ?_
           refine Wl.on' rfl rfl g_136_ ?_
           refine Wl.call txt19LawD rfl rfl (RSame_r _ _ (ok_test _ _ _) (ok_test _ _ _) _) rfl ?_
           rintro _ w_k6 ⟨rfl, hs_k6⟩
           have hz_k6 := hs_k6.size
           have hb := hb.trans (hs_k6.mono hb.size)
           have hL := hL_hb.below hb
           have hb2 := hb2.trans (hs_k6.mono hb2.size)
           have hB_o4 := hB_o4_hb2.below hb2
           have hB_o5 := hB_o5_hb2.below hb2
           have hR := hR_hb2.below hb2
           refine Wl.on' rfl rfl g_136_ ?_
           refine Wl.y (y_not rfl) rfl ?_
           refine Wl.y (y_pickF rfl g_136_ rfl) rfl ?_
           refine Wl.nil ?_
           refine Wq.next hK_131 ?_
           refine Wc.cond rfl (fun c1_142 => ?_) (fun c1_142 => ?_)
           ·
            have c1_142_ := c1_142
            try simp only [decide_eq_true_eq, decide_eq_false_iff_not, beq_iff_eq, beq_eq_false_iff_ne, bne_iff_ne, bne_eq_false_iff_eq, Bool.not_eq_true', Bool.not_eq_false', Bool.not_eq_eq_eq_not, Bool.not_true, Bool.not_false, ne_eq, Int.not_lt, Int.not_le] at c1_142
            exact absurd c1_142_ (by rw [sameV_refl]; simp)
           ·
            have c1_142_ := c1_142
            try simp only [decide_eq_true_eq, decide_eq_false_iff_not, beq_iff_eq, beq_eq_false_iff_ne, bne_iff_ne, bne_eq_false_iff_eq, Bool.not_eq_true', Bool.not_eq_false', Bool.not_eq_eq_eq_not, Bool.not_true, Bool.not_false, ne_eq, Int.not_lt, Int.not_le] at c1_142
            refine Wc.skip ?_
            refine Wq.block_normal ?_
            refine Wq.next hK_34 ?_
            refine Wc.region ?_
            refine Wl.y (y_move rfl) rfl ?_
            refine Wl.y (y_addI rfl rfl (by first | omega | (simp; done) | (simp; omega)) (by first | omega | (simp; done) | (simp; omega))) rfl ?_
            refine Wl.y (y_assign rfl) rfl ?_
            refine Wl.nil ?_
            refine fun a_ ha_ => hL_25 _ _ (i + 1) (by first | omega | (simp; omega)) (Sub.cons' rfl (by first | rfl | exact int_eq (by omega) | exact int_eq (by simp) | (simp; done)) (Sub.cons' rfl (by first | rfl | exact int_eq (by omega) | exact int_eq (by simp) | (simp; done)) (Sub.cons' rfl (by first | rfl | exact int_eq (by omega) | exact int_eq (by simp) | (simp; done)) (Sub.cons' rfl (by first | rfl | exact int_eq (by omega) | exact int_eq (by simp) | (simp; done)) (Sub.cons' rfl (by first | rfl | exact int_eq (by omega) | exact int_eq (by simp) | (simp; done)) (Sub.nil)))))) ?_ a_ ha_
            exact ⟨by omega, hb, hB_o4, hB_o5, hR⟩
         exact Ws.nil
        exact Ws.nil
       refine Ws.cons #[true, true, true, true, true, true, false, false, false, false, true, false, false] rfl rfl (fun _ hK_146 => ?_) ?_
       ·
        refine Wl.allocN (z := (.agg #[(.int .i64 0), (.int .i64 0), (.float .f64 0), (str [])])) (by kernel_rfl) rfl ?_
        rintro g_o24 w_o24 hg_o24 hn_o24 hs_o24
        have hz_o24 := hs_o24.size
        have hb := hb.trans (hs_o24.mono hb.size)
        have hL := hL_hb.below hb
        have hb2 := hb2.trans (hs_o24.mono hb2.size)
        have hB_o4 := hB_o4_hb2.below hb2
        have hB_o5 := hB_o5_hb2.below hb2
        have hR := hR_hb2.below hb2
        try have hB_o17 := Blk.below hB_o17 hs_o24
        have hB_o24 := hn_o24
        have hl_o24 := hB_o24.lt
        refine Wl.nil ?_
        refine Wq.back hK_146 hb2 ?_
        refine Wa.some (rs := [6]) (by kernel_rfl) rfl ?_
        refine Ws.cons #[true, true, true, true, true, true, true, false, false, false, true, false, false] rfl rfl (fun _ hK_148 => ?_) ?_
        ·
         refine Wl.call txt18LawD rfl rfl (RTest_r _ _ _ o.val o'.val _) rfl ?_
         rintro _ w_k5 ⟨rfl, hs_k5⟩
         have hz_k5 := hs_k5.size
         have hb := hb.trans (hs_k5.mono hb.size)
         have hL := hL_hb.below hb
         have hb2 := hb2.trans (hs_k5.mono hb2.size)
         have hB_o4 := hB_o4_hb2.below hb2
         have hB_o5 := hB_o5_hb2.below hb2
         have hR := hR_hb2.below hb2
         try have hB_o17 := Blk.below hB_o17 hs_k5
         try have hB_o24 := Blk.below hB_o24 hs_k5
         refine Wl.nil ?_
         refine Wq.back hK_148 hb2 ?_
         refine Wa.take (i := 7) #[true, true, true, true, true, true, true, true, false, false, true, false, false] rfl (by kernel_rfl) (fun _ _ _ h => h) rfl (fun wq hq => Yl.ld (y_move rfl)) hb2 ?_
         refine Wa.take (i := 8) #[true, true, true, true, true, true, true, true, true, false, true, false, false] rfl (by kernel_rfl) (fun _ _ _ h => h) rfl (fun wq hq => Yl.ld (y_extract rfl rfl)) hb2 ?_
         refine Wa.take (i := 9) #[true, true, true, true, true, true, true, true, true, true, true, false, false] rfl (by kernel_rfl) (fun _ _ _ h => h) rfl (fun wq hq => Yl.ld (y_extract rfl rfl)) hb2 ?_
         refine Wa.some (rs := [11]) (by kernel_rfl) rfl ?_
         refine Ws.cons #[true, true, true, true, true, true, true, true, true, true, true, true, false] rfl rfl (fun _ hK_153 => ?_) ?_
         ·
          refine Wl.storeS (by kernel_rfl) rfl rfl hB_o24 rfl rfl ?_
          rintro w_s3 hn_s3 hg_s3
          have hz_s3 := hg_s3.size
          have hb := below_blk hb hg_s3 hb.size (by omega)
          have hL := hL_hb.below hb
          have hb2 := below_blk hb2 hg_s3 hb2.size (by omega)
          have hB_o4 := hB_o4_hb2.below hb2
          have hB_o5 := hB_o5_hb2.below hb2
          have hR := hR_hb2.below hb2
          try have hB_o17 := hB_o17.over hg_s3 (by omega)
          have hB_o24 := hn_s3
          refine Wl.nil ?_
          refine Wq.back hK_153 hb2 ?_
          refine Wa.take (i := 12) #[true, true, true, true, true, true, true, true, true, true, true, true, true] rfl (by kernel_rfl) (fun _ _ _ h => h) rfl (fun wq hq => Yl.ld (y_assign rfl)) hb2 ?_
          refine Wa.done (by kernel_rfl) ?_
          refine Wq.next hK_115 ?_
          refine Wc.seq fun _ hK_155 => ?_
          refine Wc.region ?_
          refine Wl.y (y_move rfl) rfl ?_
          refine Wl.y (y_move rfl) rfl ?_
          refine Wl.y (y_neqi rfl rfl) rfl ?_
          refine Wl.y (y_move rfl) rfl ?_
          refine Wl.guardF rfl rfl rfl (fun g_160 => ?_) (fun g_160 => ?_)
          ·
           have g_160_ := g_160
           try simp only [decide_eq_true_eq, decide_eq_false_iff_not, beq_iff_eq, beq_eq_false_iff_ne, bne_iff_ne, bne_eq_false_iff_eq, Bool.not_eq_true', Bool.not_eq_false', Bool.not_eq_eq_eq_not, Bool.not_true, Bool.not_false, ne_eq, Int.not_lt, Int.not_le] at g_160
           exact absurd g_160_ (by simp)
          ·
           have g_160_ := g_160
           try simp only [decide_eq_true_eq, decide_eq_false_iff_not, beq_iff_eq, beq_eq_false_iff_ne, bne_iff_ne, bne_eq_false_iff_eq, Bool.not_eq_true', Bool.not_eq_false', Bool.not_eq_eq_eq_not, Bool.not_true, Bool.not_false, ne_eq, Int.not_lt, Int.not_le] at g_160
           refine Wl.l (l_loadS Tryz.underlying28 (by kernel_rfl) rfl (by first | exact fun j u hu => hB_o17.at hu | exact fun j u hu => hB_o24.at hu | exact fun j u hu => hB_o4.at hu | exact fun j u hu => hB_o5.at hu | assumption)) rfl ?_
           refine Wl.on' rfl rfl g_160_ ?_
           refine Wl.l (l_loadS Tryz.underlying28 (by kernel_rfl) rfl (by first | exact fun j u hu => hB_o17.at hu | exact fun j u hu => hB_o24.at hu | exact fun j u hu => hB_o4.at hu | exact fun j u hu => hB_o5.at hu | assumption)) rfl ?_
           refine Wl.on' rfl rfl g_160_ ?_
           refine Wl.call txt19LawD rfl rfl (RSame_r _ _ (ok_test _ _ _) (ok_test _ _ _) _) rfl ?_
           rintro _ w_k6 ⟨rfl, hs_k6⟩
           have hz_k6 := hs_k6.size
           have hb := hb.trans (hs_k6.mono hb.size)
           have hL := hL_hb.below hb
           have hb2 := hb2.trans (hs_k6.mono hb2.size)
           have hB_o4 := hB_o4_hb2.below hb2
           have hB_o5 := hB_o5_hb2.below hb2
           have hR := hR_hb2.below hb2
           refine Wl.on' rfl rfl g_160_ ?_
           refine Wl.y (y_not rfl) rfl ?_
           refine Wl.y (y_pickF rfl g_160_ rfl) rfl ?_
           refine Wl.nil ?_
           refine Wq.next hK_155 ?_
           refine Wc.cond rfl (fun c1_166 => ?_) (fun c1_166 => ?_)
           ·
            have c1_166_ := c1_166
            try simp only [decide_eq_true_eq, decide_eq_false_iff_not, beq_iff_eq, beq_eq_false_iff_ne, bne_iff_ne, bne_eq_false_iff_eq, Bool.not_eq_true', Bool.not_eq_false', Bool.not_eq_eq_eq_not, Bool.not_true, Bool.not_false, ne_eq, Int.not_lt, Int.not_le] at c1_166
            exact absurd c1_166_ (by rw [sameV_refl]; simp)
           ·
            have c1_166_ := c1_166
            try simp only [decide_eq_true_eq, decide_eq_false_iff_not, beq_iff_eq, beq_eq_false_iff_ne, bne_iff_ne, bne_eq_false_iff_eq, Bool.not_eq_true', Bool.not_eq_false', Bool.not_eq_eq_eq_not, Bool.not_true, Bool.not_false, ne_eq, Int.not_lt, Int.not_le] at c1_166
            refine Wc.skip ?_
            refine Wq.block_normal ?_
            refine Wq.next hK_34 ?_
            refine Wc.region ?_
            refine Wl.y (y_move rfl) rfl ?_
            refine Wl.y (y_addI rfl rfl (by first | omega | (simp; done) | (simp; omega)) (by first | omega | (simp; done) | (simp; omega))) rfl ?_
            refine Wl.y (y_assign rfl) rfl ?_
            refine Wl.nil ?_
            refine fun a_ ha_ => hL_25 _ _ (i + 1) (by first | omega | (simp; omega)) (Sub.cons' rfl (by first | rfl | exact int_eq (by omega) | exact int_eq (by simp) | (simp; done)) (Sub.cons' rfl (by first | rfl | exact int_eq (by omega) | exact int_eq (by simp) | (simp; done)) (Sub.cons' rfl (by first | rfl | exact int_eq (by omega) | exact int_eq (by simp) | (simp; done)) (Sub.cons' rfl (by first | rfl | exact int_eq (by omega) | exact int_eq (by simp) | (simp; done)) (Sub.cons' rfl (by first | rfl | exact int_eq (by omega) | exact int_eq (by simp) | (simp; done)) (Sub.nil)))))) ?_ a_ ha_
            exact ⟨by omega, hb, hB_o4, hB_o5, hR⟩
         exact Ws.nil
        exact Ws.nil
       exact Ws.nil
      exact Ws.nil
     exact Ws.nil
    exact Ws.nil
   ·
    have c0_33_ := c0_33
    try simp only [decide_eq_true_eq, decide_eq_false_iff_not, beq_iff_eq, beq_eq_false_iff_ne, bne_iff_ne, bne_eq_false_iff_eq, Bool.not_eq_true', Bool.not_eq_false', Bool.not_eq_eq_eq_not, Bool.not_true, Bool.not_false, ne_eq, Int.not_lt, Int.not_le] at c0_33
    refine Wc.exit ?_
    refine Wq.then_exit ?_
    refine Wq.then_exit ?_
    refine Wq.block_exit ?_
    refine Wq.next hK_22 ?_
    refine Wc.seq fun _ hK_170 => ?_
    refine Wc.region ?_
    refine Wl.y (y_move rfl) rfl ?_
    refine Wl.y (y_assign rfl) rfl ?_
    refine Wl.nil ?_
    refine Wq.next hK_170 ?_
    refine Wc.ret ?_
    refine ret1 rfl rfl ?_
    exact ⟨_, rfl, rfl, hb⟩
theorem Reckons_r (r s : Raw) (op : List UInt8) (o : r.Ok) (o' : s.Ok) (w : World) (hL : Lb w) : Ret Tryz.prog 4 [r.enc, s.enc, str op] w fun v w' => v = .bool true ∧ Below w.heap.size w w' := by
  have hb := Below.refl w.heap.size w
  have hL_hb := hL
  refine enter Tryz.func4 rfl rfl rfl ?_
  refine Wc.seq fun _ hK_1 => ?_
  refine Wc.region ?_
  refine Wl.boxN rfl rfl ?_
  rintro g_o0 w_o0 hg_o0 hn_o0 hs_o0
  have hz_o0 := hs_o0.size
  have hb := hb.trans (hs_o0.mono hb.size)
  have hL := hL_hb.below hb
  have hB_o0 := hn_o0
  have hl_o0 := hB_o0.lt
  refine Wl.boxN rfl rfl ?_
  rintro g_o1 w_o1 hg_o1 hn_o1 hs_o1
  have hz_o1 := hs_o1.size
  have hb := hb.trans (hs_o1.mono hb.size)
  have hL := hL_hb.below hb
  try have hB_o0 := Blk.below hB_o0 hs_o1
  have hB_o1 := hn_o1
  have hl_o1 := hB_o1.lt
  refine Wl.y (y_assign rfl) rfl ?_
  refine Wl.nil ?_
  refine Wq.next hK_1 ?_
  refine Wc.seq fun _ hK_5 => ?_
  refine Wc.region ?_
  refine Wl.call txt14LawD rfl rfl (shown_r _ hL) rfl ?_
  rintro _ w_k0 ⟨rfl, hs_k0⟩
  have hz_k0 := hs_k0.size
  have hb := hb.trans (hs_k0.mono hb.size)
  have hL := hL_hb.below hb
  try have hB_o0 := Blk.below hB_o0 hs_k0
  try have hB_o1 := Blk.below hB_o1 hs_k0
  refine Wl.y (y_assign rfl) rfl ?_
  refine Wl.nil ?_
  refine Wq.next hK_5 ?_
  refine Wc.seq fun _ hK_8 => ?_
  refine Wc.region ?_
  refine Wl.l (l_loadS Tryz.underlying24 (by kernel_rfl) rfl (by first | exact fun j u hu => hB_o0.at hu | exact fun j u hu => hB_o1.at hu | assumption)) rfl ?_
  refine Wl.call txt15LawD rfl rfl (of_r r o _) rfl ?_
  rintro _ w_k1 ⟨rfl, hs_k1⟩
  have hz_k1 := hs_k1.size
  have hb := hb.trans (hs_k1.mono hb.size)
  have hL := hL_hb.below hb
  try have hB_o0 := Blk.below hB_o0 hs_k1
  try have hB_o1 := Blk.below hB_o1 hs_k1
  refine Wl.allocN (z := (.agg #[(.int .i64 0), (.int .i64 0), (.float .f64 0), (str [])])) (by kernel_rfl) rfl ?_
  rintro g_o4 w_o4 hg_o4 hn_o4 hs_o4
  have hz_o4 := hs_o4.size
  have hb := hb.trans (hs_o4.mono hb.size)
  have hL := hL_hb.below hb
  try have hB_o0 := Blk.below hB_o0 hs_o4
  try have hB_o1 := Blk.below hB_o1 hs_o4
  have hB_o4 := hn_o4
  have hl_o4 := hB_o4.lt
  refine Wl.storeS (by kernel_rfl) rfl rfl hB_o4 rfl rfl ?_
  rintro w_s0 hn_s0 hg_s0
  have hz_s0 := hg_s0.size
  have hb := below_blk hb hg_s0 hb.size (by omega)
  have hL := hL_hb.below hb
  try have hB_o0 := hB_o0.over hg_s0 (by omega)
  try have hB_o1 := hB_o1.over hg_s0 (by omega)
  have hB_o4 := hn_s0
  refine Wl.nil ?_
  refine Wq.next hK_8 ?_
  refine Wc.seq fun _ hK_12 => ?_
  refine Wc.region ?_
  refine Wl.l (l_loadS Tryz.underlying24 (by kernel_rfl) rfl (by first | exact fun j u hu => hB_o0.at hu | exact fun j u hu => hB_o1.at hu | exact fun j u hu => hB_o4.at hu | assumption)) rfl ?_
  refine Wl.call txt15LawD rfl rfl (of_r s o' _) rfl ?_
  rintro _ w_k2 ⟨rfl, hs_k2⟩
  have hz_k2 := hs_k2.size
  have hb := hb.trans (hs_k2.mono hb.size)
  have hL := hL_hb.below hb
  try have hB_o4 := Blk.below hB_o4 hs_k2
  refine Wl.allocN (z := (.agg #[(.int .i64 0), (.int .i64 0), (.float .f64 0), (str [])])) (by kernel_rfl) rfl ?_
  rintro g_o5 w_o5 hg_o5 hn_o5 hs_o5
  have hz_o5 := hs_o5.size
  have hb := hb.trans (hs_o5.mono hb.size)
  have hL := hL_hb.below hb
  try have hB_o4 := Blk.below hB_o4 hs_o5
  have hB_o5 := hn_o5
  have hl_o5 := hB_o5.lt
  refine Wl.storeS (by kernel_rfl) rfl rfl hB_o5 rfl rfl ?_
  rintro w_s1 hn_s1 hg_s1
  have hz_s1 := hg_s1.size
  have hb := below_blk hb hg_s1 hb.size (by omega)
  have hL := hL_hb.below hb
  try have hB_o4 := hB_o4.over hg_s1 (by omega)
  have hB_o5 := hn_s1
  refine Wl.nil ?_
  refine Wq.next hK_12 ?_
  refine Wc.seq fun _ hK_16 => ?_
  refine Wc.region ?_
  refine Wl.call txt16LawD rfl rfl (ops_r _) rfl ?_
  rintro _ w_k3 ⟨⟨gk, rfl, hgk, hB_k3⟩, hs_k3⟩
  have hz_k3 := hs_k3.size
  have hb := hb.trans (hs_k3.mono hb.size)
  have hL := hL_hb.below hb
  try have hB_o4 := Blk.below hB_o4 hs_k3
  try have hB_o5 := Blk.below hB_o5 hs_k3
  refine Wl.y (y_move rfl) rfl ?_
  refine Wl.litN (sz := 1) (vs := [_]) Tryz.underlying30 (by kernel_rfl) rfl rfl rfl rfl rfl rfl ?_
  rintro g_b0 w_b0 hg_b0 hn_b0 hs_b0
  have hz_b0 := hs_b0.size
  have hb := hb.trans (hs_b0.mono hb.size)
  have hL := hL_hb.below hb
  try have hB_o4 := Blk.below hB_o4 hs_b0
  try have hB_o5 := Blk.below hB_o5 hs_b0
  try have hB_k3 := Blk.below hB_k3 hs_b0
  have hB_b0 := hn_b0
  have hl_b0 := hB_b0.lt
  have hO := hB_k3.own (base := w.heap.size) (n := 11) (sz := 1) (by omega) rfl (by decide)
  refine Wl.append (z := (str [])) (sz := 1) (bytes := 16) Tryz.underlying30 (by kernel_rfl) rfl (by decide) _ rfl hO rfl (hB_b0.rd 1 1 rfl) (fun u hu => by rcases List.mem_singleton.1 (show u ∈ [str op] from hu) with rfl; rfl) (by simp only [maxLen]; omega) (by omega) (by first | exact hb.size | omega) rfl ?_
  rintro v_b1 w_b1 hn_b1 hg_b1 ha_b1
  have hz_b1 := hg_b1.size
  have hb := hb.grown hg_b1 hb.size (fun k_ hk_ => by have := (own_ge hO k_ hk_).1; omega)
  have hL := hL_hb.below hb
  try have hB_o4 := Blk.grown hB_o4 hg_b1 (by first | assumption | (simp [Value.ownBlock]; omega))
  try have hB_o5 := Blk.grown hB_o5 hg_b1 (by first | assumption | (simp [Value.ownBlock]; omega))
  have hO := hn_b1
  obtain ⟨A, c, rfl, hnc, _⟩ := own_form hO
  have hR : Rd w_b1 1 A 12 ((opsL ++ [op]).map str) := Rd.of_own hO
  refine Wl.y (y_assign rfl) rfl ?_
  refine Wl.nil ?_
  refine Wq.next hK_16 ?_
  refine Wc.seq fun _ hK_22 => ?_
  refine Wc.seq fun _ hK_23 => ?_
  refine Wc.region ?_
  refine Wl.y (y_assign rfl) rfl ?_
  refine Wl.nil ?_
  refine Wq.next hK_23 ?_
  refine Wc.block ?_
  refine Wc.loop (X := Nat) (fun i => [(7, .bool true), (8, .pointer (some ⟨g_o4, 0, none⟩)), (9, .pointer (some ⟨g_o5, 0, none⟩)), (10, .slice A 12 c), (11, .int .i64 (i : Int))]) (fun i wr => i ≤ 12 ∧ Below w.heap.size w wr ∧ Blk wr g_o4 28 r.val.cells ∧ Blk wr g_o5 28 s.val.cells ∧ Rd wr 1 A 12 ((opsL ++ [op]).map str)) (fun i => 12 - i) (0) ?_ ?_ ?_
  · exact Sub.cons' rfl (by first | rfl | exact int_eq (by omega) | exact int_eq (by simp) | (simp; done)) (Sub.cons' rfl (by first | rfl | exact int_eq (by omega) | exact int_eq (by simp) | (simp; done)) (Sub.cons' rfl (by first | rfl | exact int_eq (by omega) | exact int_eq (by simp) | (simp; done)) (Sub.cons' rfl (by first | rfl | exact int_eq (by omega) | exact int_eq (by simp) | (simp; done)) (Sub.cons' rfl (by first | rfl | exact int_eq (by omega) | exact int_eq (by simp) | (simp; done)) (Sub.nil)))))
  · exact ⟨by omega, hb, hB_o4, hB_o5, hR⟩
  ·
   rintro i wr hI_26 _ hL_25
   replace hI_26 : i ≤ 12 ∧ Below w.heap.size w wr ∧ Blk wr g_o4 28 r.val.cells ∧ Blk wr g_o5 28 s.val.cells ∧ Rd wr 1 A 12 ((opsL ++ [op]).map str) := hI_26
   obtain ⟨hi, hb, hB_o4, hB_o5, hR⟩ := hI_26
   show Wc _ _ _ _ _ [(7, .bool true), (8, .pointer (some ⟨g_o4, 0, none⟩)), (9, .pointer (some ⟨g_o5, 0, none⟩)), (10, .slice A 12 c), (11, .int .i64 (i : Int))] _
   have hL := hL_hb.below hb
   try have hzhb_L0 := hb.size
   have hlhB_o4_L0 := hB_o4.lt
   have hlhB_o5_L0 := hB_o5.lt
   refine Wc.seq fun _ hK_27 => ?_
   refine Wc.seq fun _ hK_28 => ?_
   refine Wc.region ?_
   refine Wl.y (y_move rfl) rfl ?_
   refine Wl.y (y_move rfl) rfl ?_
   refine Wl.y (y_lenl Tryz.underlying30 (by omega) rfl) rfl ?_
   refine Wl.y (y_lssi rfl rfl) rfl ?_
   refine Wl.nil ?_
   refine Wq.next hK_28 ?_
   refine Wc.cond rfl (fun c0_33 => ?_) (fun c0_33 => ?_)
   ·
    have c0_33_ := c0_33
    try simp only [decide_eq_true_eq, decide_eq_false_iff_not, beq_iff_eq, beq_eq_false_iff_ne, bne_iff_ne, bne_eq_false_iff_eq, Bool.not_eq_true', Bool.not_eq_false', Bool.not_eq_eq_eq_not, Bool.not_true, Bool.not_false, ne_eq, Int.not_lt, Int.not_le] at c0_33
    refine Wc.skip ?_
    refine Wq.next hK_27 ?_
    refine Wc.seq fun _ hK_34 => ?_
    refine Wc.block ?_
    refine Wc.seq fun _ hK_35 => ?_
    obtain ⟨p, v, hpe, hv, hcell⟩ := hR.one (i := i) (by omega)
    subst hpe
    have hve := strs_at hv
    subst hve
    have hb2 := Below.refl wr.heap.size wr
    have hB_o4_hb2 := hB_o4
    have hB_o5_hb2 := hB_o5
    have hR_hb2 := hR
    refine Wc.any (n := 13) (fun w' => Below wr.heap.size wr w') #[false, false, false, false, false, false, false, false, false, false, false, false, false] (by kernel_rfl) rfl (by kernel_rfl) ?_
    refine Wa.drew ?_
    rintro w_g7 hs_g7
    have hz_g7 := hs_g7.size
    have hb := hb.trans (hs_g7.mono hb.size)
    have hL := hL_hb.below hb
    have hb2 := hb2.trans (hs_g7.mono hb2.size)
    have hB_o4 := hB_o4_hb2.below hb2
    have hB_o5 := hB_o5_hb2.below hb2
    have hR := hR_hb2.below hb2
    refine Wa.take (i := 0) #[true, false, false, false, false, false, false, false, false, false, false, false, false] rfl (by kernel_rfl) (fun _ _ _ h => h) rfl (fun wq hq => Yl.ld (y_move rfl)) hb2 ?_
    refine Wa.take (i := 1) #[true, true, false, false, false, false, false, false, false, false, false, false, false] rfl (by kernel_rfl) (fun _ _ _ h => h) rfl (fun wq hq => Yl.ld (y_move rfl)) hb2 ?_
    refine Wa.take (i := 2) #[true, true, true, false, false, false, false, false, false, false, false, false, false] rfl (by kernel_rfl) (fun _ _ _ h => h) rfl (fun wq hq => Yl.ld (y_indexAddr Tryz.underlying30 sz9LawD rfl rfl (by omega) (by omega))) hb2 ?_
    refine Wa.take (i := 3) #[true, true, true, true, false, false, false, false, false, false, false, false, false] rfl (by kernel_rfl) (fun _ _ _ h => h) rfl (fun wq hq => l_load one9LawD rfl (by have hB_o4 := hB_o4_hb2.below hq; have hB_o5 := hB_o5_hb2.below hq; have hR := hR_hb2.below hq; exact at1 (cell_below hq hcell))) hb2 ?_
    refine Wa.take (i := 4) #[true, true, true, true, true, false, false, false, false, false, false, false, false] rfl (by kernel_rfl) (fun _ _ _ h => h) rfl (fun wq hq => l_loadS Tryz.underlying28 (by kernel_rfl) rfl (by have hB_o4 := hB_o4_hb2.below hq; have hB_o5 := hB_o5_hb2.below hq; have hR := hR_hb2.below hq; first | exact fun j u hu => hB_o4.at hu | exact fun j u hu => hB_o5.at hu | assumption)) hb2 ?_
    refine Wa.take (i := 5) #[true, true, true, true, true, true, false, false, false, false, false, false, false] rfl (by kernel_rfl) (fun _ _ _ h => h) rfl (fun wq hq => l_loadS Tryz.underlying28 (by kernel_rfl) rfl (by have hB_o4 := hB_o4_hb2.below hq; have hB_o5 := hB_o5_hb2.below hq; have hR := hR_hb2.below hq; first | exact fun j u hu => hB_o4.at hu | exact fun j u hu => hB_o5.at hu | assumption)) hb2 ?_
    refine Wa.some (rs := [6, 10]) (by kernel_rfl) rfl ?_
    refine Ws.cons #[true, true, true, true, true, true, true, false, false, false, false, false, false] rfl rfl (fun _ hK_42 => ?_) ?_
    ·
     refine Wl.call txt20LawD rfl rfl (Reckon_r _ _ _ o.val o'.val _) rfl ?_
     rintro _ w_k4 ⟨rfl, hs_k4⟩
     have hz_k4 := hs_k4.size
     have hb := hb.trans (hs_k4.mono hb.size)
     have hL := hL_hb.below hb
     have hb2 := hb2.trans (hs_k4.mono hb2.size)
     have hB_o4 := hB_o4_hb2.below hb2
     have hB_o5 := hB_o5_hb2.below hb2
     have hR := hR_hb2.below hb2
     refine Wl.nil ?_
     refine Wq.back hK_42 hb2 ?_
     refine Wa.take (i := 7) #[true, true, true, true, true, true, true, true, false, false, false, false, false] rfl (by kernel_rfl) (fun _ _ _ h => h) rfl (fun wq hq => Yl.ld (y_move rfl)) hb2 ?_
     refine Wa.take (i := 8) #[true, true, true, true, true, true, true, true, true, false, false, false, false] rfl (by kernel_rfl) (fun _ _ _ h => h) rfl (fun wq hq => Yl.ld (y_extract rfl rfl)) hb2 ?_
     refine Wa.take (i := 9) #[true, true, true, true, true, true, true, true, true, true, false, false, false] rfl (by kernel_rfl) (fun _ _ _ h => h) rfl (fun wq hq => Yl.ld (y_extract rfl rfl)) hb2 ?_
     refine Wa.some (rs := [10]) (by kernel_rfl) rfl ?_
     refine Ws.cons #[true, true, true, true, true, true, true, true, true, true, true, false, false] rfl rfl (fun _ hK_47 => ?_) ?_
     ·
      refine Wl.allocN (z := (.agg #[(.int .i64 0), (.int .i64 0), (.float .f64 0), (str [])])) (by kernel_rfl) rfl ?_
      rintro g_o17 w_o17 hg_o17 hn_o17 hs_o17
      have hz_o17 := hs_o17.size
      have hb := hb.trans (hs_o17.mono hb.size)
      have hL := hL_hb.below hb
      have hb2 := hb2.trans (hs_o17.mono hb2.size)
      have hB_o4 := hB_o4_hb2.below hb2
      have hB_o5 := hB_o5_hb2.below hb2
      have hR := hR_hb2.below hb2
      have hB_o17 := hn_o17
      have hl_o17 := hB_o17.lt
      refine Wl.nil ?_
      refine Wq.back hK_47 hb2 ?_
      refine Wa.some (rs := [11]) (by kernel_rfl) rfl ?_
      refine Ws.cons #[true, true, true, true, true, true, true, true, true, true, true, true, false] rfl rfl (fun _ hK_49 => ?_) ?_
      ·
       refine Wl.storeS (by kernel_rfl) rfl rfl hB_o17 rfl rfl ?_
       rintro w_s2 hn_s2 hg_s2
       have hz_s2 := hg_s2.size
       have hb := below_blk hb hg_s2 hb.size (by omega)
       have hL := hL_hb.below hb
       have hb2 := below_blk hb2 hg_s2 hb2.size (by omega)
       have hB_o4 := hB_o4_hb2.below hb2
       have hB_o5 := hB_o5_hb2.below hb2
       have hR := hR_hb2.below hb2
       have hB_o17 := hn_s2
       refine Wl.nil ?_
       refine Wq.back hK_49 hb2 ?_
       refine Wa.take (i := 12) #[true, true, true, true, true, true, true, true, true, true, true, true, true] rfl (by kernel_rfl) (fun _ _ _ h => h) rfl (fun wq hq => Yl.ld (y_assign rfl)) hb2 ?_
       refine Wa.done (by kernel_rfl) ?_
       refine Wq.next hK_35 ?_
       refine Wc.seq fun _ hK_51 => ?_
       refine Wc.any (n := 13) (fun w' => Below wr.heap.size wr w') #[false, false, false, false, false, false, false, false, false, false, false, false, false] (by kernel_rfl) rfl (by kernel_rfl) ?_
       refine Wa.drew ?_
       rintro w_g8 hs_g8
       have hz_g8 := hs_g8.size
       have hb := hb.trans (hs_g8.mono hb.size)
       have hL := hL_hb.below hb
       have hb2 := hb2.trans (hs_g8.mono hb2.size)
       have hB_o4 := hB_o4_hb2.below hb2
       have hB_o5 := hB_o5_hb2.below hb2
       have hR := hR_hb2.below hb2
       try have hB_o17 := Blk.below hB_o17 hs_g8
       refine Wa.take (i := 0) #[true, false, false, false, false, false, false, false, false, false, false, false, false] rfl (by kernel_rfl) (fun _ _ _ h => h) rfl (fun wq hq => Yl.ld (y_move rfl)) hb2 ?_
       refine Wa.take (i := 1) #[true, true, false, false, false, false, false, false, false, false, false, false, false] rfl (by kernel_rfl) (fun _ _ _ h => h) rfl (fun wq hq => Yl.ld (y_move rfl)) hb2 ?_
       refine Wa.take (i := 2) #[true, true, true, false, false, false, false, false, false, false, false, false, false] rfl (by kernel_rfl) (fun _ _ _ h => h) rfl (fun wq hq => Yl.ld (y_indexAddr Tryz.underlying30 sz9LawD rfl rfl (by omega) (by omega))) hb2 ?_
       refine Wa.take (i := 3) #[true, true, true, true, false, false, false, false, false, false, false, false, false] rfl (by kernel_rfl) (fun _ _ _ h => h) rfl (fun wq hq => l_load one9LawD rfl (by have hB_o4 := hB_o4_hb2.below hq; have hB_o5 := hB_o5_hb2.below hq; have hR := hR_hb2.below hq; exact at1 (cell_below hq hcell))) hb2 ?_
       refine Wa.take (i := 4) #[true, true, true, true, true, false, false, false, false, false, false, false, false] rfl (by kernel_rfl) (fun _ _ _ h => h) rfl (fun wq hq => l_loadS Tryz.underlying28 (by kernel_rfl) rfl (by have hB_o4 := hB_o4_hb2.below hq; have hB_o5 := hB_o5_hb2.below hq; have hR := hR_hb2.below hq; first | exact fun j u hu => hB_o17.at hu | exact fun j u hu => hB_o4.at hu | exact fun j u hu => hB_o5.at hu | assumption)) hb2 ?_
       refine Wa.take (i := 5) #[true, true, true, true, true, true, false, false, false, false, false, false, false] rfl (by kernel_rfl) (fun _ _ _ h => h) rfl (fun wq hq => l_loadS Tryz.underlying28 (by kernel_rfl) rfl (by have hB_o4 := hB_o4_hb2.below hq; have hB_o5 := hB_o5_hb2.below hq; have hR := hR_hb2.below hq; first | exact fun j u hu => hB_o17.at hu | exact fun j u hu => hB_o4.at hu | exact fun j u hu => hB_o5.at hu | assumption)) hb2 ?_
       refine Wa.some (rs := [6, 10]) (by kernel_rfl) rfl ?_
       refine Ws.cons #[true, true, true, true, true, true, true, false, false, false, false, false, false] rfl rfl (fun _ hK_58 => ?_) ?_
       ·
        refine Wl.call txt21LawD rfl rfl (RReckon_r _ _ _ o.val o'.val _) rfl ?_
        rintro _ w_k5 ⟨rfl, hs_k5⟩
        have hz_k5 := hs_k5.size
        have hb := hb.trans (hs_k5.mono hb.size)
        have hL := hL_hb.below hb
        have hb2 := hb2.trans (hs_k5.mono hb2.size)
        have hB_o4 := hB_o4_hb2.below hb2
        have hB_o5 := hB_o5_hb2.below hb2
        have hR := hR_hb2.below hb2
        try have hB_o17 := Blk.below hB_o17 hs_k5
        refine Wl.nil ?_
        refine Wq.back hK_58 hb2 ?_
        refine Wa.take (i := 7) #[true, true, true, true, true, true, true, true, false, false, false, false, false] rfl (by kernel_rfl) (fun _ _ _ h => h) rfl (fun wq hq => Yl.ld (y_move rfl)) hb2 ?_
        refine Wa.take (i := 8) #[true, true, true, true, true, true, true, true, true, false, false, false, false] rfl (by kernel_rfl) (fun _ _ _ h => h) rfl (fun wq hq => Yl.ld (y_extract rfl rfl)) hb2 ?_
        refine Wa.take (i := 9) #[true, true, true, true, true, true, true, true, true, true, false, false, false] rfl (by kernel_rfl) (fun _ _ _ h => h) rfl (fun wq hq => Yl.ld (y_extract rfl rfl)) hb2 ?_
        refine Wa.some (rs := [10]) (by kernel_rfl) rfl ?_
        refine Ws.cons #[true, true, true, true, true, true, true, true, true, true, true, false, false] rfl rfl (fun _ hK_63 => ?_) ?_
        ·
         refine Wl.allocN (z := (.agg #[(.int .i64 0), (.int .i64 0), (.float .f64 0), (str [])])) (by kernel_rfl) rfl ?_
         rintro g_o24 w_o24 hg_o24 hn_o24 hs_o24
         have hz_o24 := hs_o24.size
         have hb := hb.trans (hs_o24.mono hb.size)
         have hL := hL_hb.below hb
         have hb2 := hb2.trans (hs_o24.mono hb2.size)
         have hB_o4 := hB_o4_hb2.below hb2
         have hB_o5 := hB_o5_hb2.below hb2
         have hR := hR_hb2.below hb2
         try have hB_o17 := Blk.below hB_o17 hs_o24
         have hB_o24 := hn_o24
         have hl_o24 := hB_o24.lt
         refine Wl.nil ?_
         refine Wq.back hK_63 hb2 ?_
         refine Wa.some (rs := [11]) (by kernel_rfl) rfl ?_
         refine Ws.cons #[true, true, true, true, true, true, true, true, true, true, true, true, false] rfl rfl (fun _ hK_65 => ?_) ?_
         ·
          refine Wl.storeS (by kernel_rfl) rfl rfl hB_o24 rfl rfl ?_
          rintro w_s3 hn_s3 hg_s3
          have hz_s3 := hg_s3.size
          have hb := below_blk hb hg_s3 hb.size (by omega)
          have hL := hL_hb.below hb
          have hb2 := below_blk hb2 hg_s3 hb2.size (by omega)
          have hB_o4 := hB_o4_hb2.below hb2
          have hB_o5 := hB_o5_hb2.below hb2
          have hR := hR_hb2.below hb2
          try have hB_o17 := hB_o17.over hg_s3 (by omega)
          have hB_o24 := hn_s3
          refine Wl.nil ?_
          refine Wq.back hK_65 hb2 ?_
          refine Wa.take (i := 12) #[true, true, true, true, true, true, true, true, true, true, true, true, true] rfl (by kernel_rfl) (fun _ _ _ h => h) rfl (fun wq hq => Yl.ld (y_assign rfl)) hb2 ?_
          refine Wa.done (by kernel_rfl) ?_
          refine Wq.next hK_51 ?_
          refine Wc.seq fun _ hK_67 => ?_
          refine Wc.region ?_
          refine Wl.y (y_move rfl) rfl ?_
          refine Wl.y (y_move rfl) rfl ?_
          refine Wl.y (y_neqi rfl rfl) rfl ?_
          refine Wl.y (y_move rfl) rfl ?_
          refine Wl.guardF rfl rfl rfl (fun g_72 => ?_) (fun g_72 => ?_)
          ·
           have g_72_ := g_72
           try simp only [decide_eq_true_eq, decide_eq_false_iff_not, beq_iff_eq, beq_eq_false_iff_ne, bne_iff_ne, bne_eq_false_iff_eq, Bool.not_eq_true', Bool.not_eq_false', Bool.not_eq_eq_eq_not, Bool.not_true, Bool.not_false, ne_eq, Int.not_lt, Int.not_le] at g_72
           exact absurd g_72_ (by simp)
          ·
           have g_72_ := g_72
           try simp only [decide_eq_true_eq, decide_eq_false_iff_not, beq_iff_eq, beq_eq_false_iff_ne, bne_iff_ne, bne_eq_false_iff_eq, Bool.not_eq_true', Bool.not_eq_false', Bool.not_eq_eq_eq_not, Bool.not_true, Bool.not_false, ne_eq, Int.not_lt, Int.not_le] at g_72
           refine Wl.l (l_loadS Tryz.underlying28 (by kernel_rfl) rfl (by first | exact fun j u hu => hB_o17.at hu | exact fun j u hu => hB_o24.at hu | exact fun j u hu => hB_o4.at hu | exact fun j u hu => hB_o5.at hu | assumption)) rfl ?_
           refine Wl.on' rfl rfl g_72_ ?_
           refine Wl.l (l_loadS Tryz.underlying28 (by kernel_rfl) rfl (by first | exact fun j u hu => hB_o17.at hu | exact fun j u hu => hB_o24.at hu | exact fun j u hu => hB_o4.at hu | exact fun j u hu => hB_o5.at hu | assumption)) rfl ?_
           refine Wl.on' rfl rfl g_72_ ?_
           refine Wl.call txt19LawD rfl rfl (RSame_r _ _ (ok_reck _ _ _) (ok_reck _ _ _) _) rfl ?_
           rintro _ w_k6 ⟨rfl, hs_k6⟩
           have hz_k6 := hs_k6.size
           have hb := hb.trans (hs_k6.mono hb.size)
           have hL := hL_hb.below hb
           have hb2 := hb2.trans (hs_k6.mono hb2.size)
           have hB_o4 := hB_o4_hb2.below hb2
           have hB_o5 := hB_o5_hb2.below hb2
           have hR := hR_hb2.below hb2
           try have hB_o17 := Blk.below hB_o17 hs_k6
           try have hB_o24 := Blk.below hB_o24 hs_k6
           refine Wl.on' rfl rfl g_72_ ?_
           refine Wl.y (y_not rfl) rfl ?_
           refine Wl.y (y_pickF rfl g_72_ rfl) rfl ?_
           refine Wl.y (y_move rfl) rfl ?_
           refine Wl.guardF rfl rfl rfl (fun g_79 => ?_) (fun g_79 => ?_)
           ·
            have g_79_ := g_79
            try simp only [decide_eq_true_eq, decide_eq_false_iff_not, beq_iff_eq, beq_eq_false_iff_ne, bne_iff_ne, bne_eq_false_iff_eq, Bool.not_eq_true', Bool.not_eq_false', Bool.not_eq_eq_eq_not, Bool.not_true, Bool.not_false, ne_eq, Int.not_lt, Int.not_le] at g_79
            exact absurd g_79_ (by rw [sameV_refl]; simp)
           ·
            have g_79_ := g_79
            try simp only [decide_eq_true_eq, decide_eq_false_iff_not, beq_iff_eq, beq_eq_false_iff_ne, bne_iff_ne, bne_eq_false_iff_eq, Bool.not_eq_true', Bool.not_eq_false', Bool.not_eq_eq_eq_not, Bool.not_true, Bool.not_false, ne_eq, Int.not_lt, Int.not_le] at g_79
            refine Wl.l (l_loadS Tryz.underlying28 (by kernel_rfl) rfl (by first | exact fun j u hu => hB_o17.at hu | exact fun j u hu => hB_o24.at hu | exact fun j u hu => hB_o4.at hu | exact fun j u hu => hB_o5.at hu | assumption)) rfl ?_
            refine Wl.on' rfl rfl g_79_ ?_
            refine Wl.call txt22LawD rfl rfl (Right_r _ (ok_reck _ _ _) _) rfl ?_
            rintro _ w_k7 ⟨rfl, hs_k7⟩
            have hz_k7 := hs_k7.size
            have hb := hb.trans (hs_k7.mono hb.size)
            have hL := hL_hb.below hb
            have hb2 := hb2.trans (hs_k7.mono hb2.size)
            have hB_o4 := hB_o4_hb2.below hb2
            have hB_o5 := hB_o5_hb2.below hb2
            have hR := hR_hb2.below hb2
            refine Wl.on' rfl rfl g_79_ ?_
            refine Wl.y (y_not rfl) rfl ?_
            refine Wl.y (y_pickF rfl g_79_ rfl) rfl ?_
            refine Wl.nil ?_
            refine Wq.next hK_67 ?_
            refine Wc.cond rfl (fun c1_84 => ?_) (fun c1_84 => ?_)
            ·
             have c1_84_ := c1_84
             try simp only [decide_eq_true_eq, decide_eq_false_iff_not, beq_iff_eq, beq_eq_false_iff_ne, bne_iff_ne, bne_eq_false_iff_eq, Bool.not_eq_true', Bool.not_eq_false', Bool.not_eq_eq_eq_not, Bool.not_true, Bool.not_false, ne_eq, Int.not_lt, Int.not_le] at c1_84
             exact absurd c1_84_ (by rw [right_reck]; simp)
            ·
             have c1_84_ := c1_84
             try simp only [decide_eq_true_eq, decide_eq_false_iff_not, beq_iff_eq, beq_eq_false_iff_ne, bne_iff_ne, bne_eq_false_iff_eq, Bool.not_eq_true', Bool.not_eq_false', Bool.not_eq_eq_eq_not, Bool.not_true, Bool.not_false, ne_eq, Int.not_lt, Int.not_le] at c1_84
             refine Wc.skip ?_
             refine Wq.block_normal ?_
             refine Wq.next hK_34 ?_
             refine Wc.region ?_
             refine Wl.y (y_move rfl) rfl ?_
             refine Wl.y (y_addI rfl rfl (by first | omega | (simp; done) | (simp; omega)) (by first | omega | (simp; done) | (simp; omega))) rfl ?_
             refine Wl.y (y_assign rfl) rfl ?_
             refine Wl.nil ?_
             refine fun a_ ha_ => hL_25 _ _ (i + 1) (by first | omega | (simp; omega)) (Sub.cons' rfl (by first | rfl | exact int_eq (by omega) | exact int_eq (by simp) | (simp; done)) (Sub.cons' rfl (by first | rfl | exact int_eq (by omega) | exact int_eq (by simp) | (simp; done)) (Sub.cons' rfl (by first | rfl | exact int_eq (by omega) | exact int_eq (by simp) | (simp; done)) (Sub.cons' rfl (by first | rfl | exact int_eq (by omega) | exact int_eq (by simp) | (simp; done)) (Sub.cons' rfl (by first | rfl | exact int_eq (by omega) | exact int_eq (by simp) | (simp; done)) (Sub.nil)))))) ?_ a_ ha_
             exact ⟨by omega, hb, hB_o4, hB_o5, hR⟩
         exact Ws.nil
        exact Ws.nil
       refine Ws.cons #[true, true, true, true, true, true, false, false, false, false, true, false, false] rfl rfl (fun _ hK_88 => ?_) ?_
       ·
        refine Wl.allocN (z := (.agg #[(.int .i64 0), (.int .i64 0), (.float .f64 0), (str [])])) (by kernel_rfl) rfl ?_
        rintro g_o24 w_o24 hg_o24 hn_o24 hs_o24
        have hz_o24 := hs_o24.size
        have hb := hb.trans (hs_o24.mono hb.size)
        have hL := hL_hb.below hb
        have hb2 := hb2.trans (hs_o24.mono hb2.size)
        have hB_o4 := hB_o4_hb2.below hb2
        have hB_o5 := hB_o5_hb2.below hb2
        have hR := hR_hb2.below hb2
        try have hB_o17 := Blk.below hB_o17 hs_o24
        have hB_o24 := hn_o24
        have hl_o24 := hB_o24.lt
        refine Wl.nil ?_
        refine Wq.back hK_88 hb2 ?_
        refine Wa.some (rs := [6]) (by kernel_rfl) rfl ?_
        refine Ws.cons #[true, true, true, true, true, true, true, false, false, false, true, false, false] rfl rfl (fun _ hK_90 => ?_) ?_
        ·
         refine Wl.call txt21LawD rfl rfl (RReckon_r _ _ _ o.val o'.val _) rfl ?_
         rintro _ w_k5 ⟨rfl, hs_k5⟩
         have hz_k5 := hs_k5.size
         have hb := hb.trans (hs_k5.mono hb.size)
         have hL := hL_hb.below hb
         have hb2 := hb2.trans (hs_k5.mono hb2.size)
         have hB_o4 := hB_o4_hb2.below hb2
         have hB_o5 := hB_o5_hb2.below hb2
         have hR := hR_hb2.below hb2
         try have hB_o17 := Blk.below hB_o17 hs_k5
         try have hB_o24 := Blk.below hB_o24 hs_k5
         refine Wl.nil ?_
         refine Wq.back hK_90 hb2 ?_
         refine Wa.take (i := 7) #[true, true, true, true, true, true, true, true, false, false, true, false, false] rfl (by kernel_rfl) (fun _ _ _ h => h) rfl (fun wq hq => Yl.ld (y_move rfl)) hb2 ?_
         refine Wa.take (i := 8) #[true, true, true, true, true, true, true, true, true, false, true, false, false] rfl (by kernel_rfl) (fun _ _ _ h => h) rfl (fun wq hq => Yl.ld (y_extract rfl rfl)) hb2 ?_
         refine Wa.take (i := 9) #[true, true, true, true, true, true, true, true, true, true, true, false, false] rfl (by kernel_rfl) (fun _ _ _ h => h) rfl (fun wq hq => Yl.ld (y_extract rfl rfl)) hb2 ?_
         refine Wa.some (rs := [11]) (by kernel_rfl) rfl ?_
         refine Ws.cons #[true, true, true, true, true, true, true, true, true, true, true, true, false] rfl rfl (fun _ hK_95 => ?_) ?_
         ·
          refine Wl.storeS (by kernel_rfl) rfl rfl hB_o24 rfl rfl ?_
          rintro w_s3 hn_s3 hg_s3
          have hz_s3 := hg_s3.size
          have hb := below_blk hb hg_s3 hb.size (by omega)
          have hL := hL_hb.below hb
          have hb2 := below_blk hb2 hg_s3 hb2.size (by omega)
          have hB_o4 := hB_o4_hb2.below hb2
          have hB_o5 := hB_o5_hb2.below hb2
          have hR := hR_hb2.below hb2
          try have hB_o17 := hB_o17.over hg_s3 (by omega)
          have hB_o24 := hn_s3
          refine Wl.nil ?_
          refine Wq.back hK_95 hb2 ?_
          refine Wa.take (i := 12) #[true, true, true, true, true, true, true, true, true, true, true, true, true] rfl (by kernel_rfl) (fun _ _ _ h => h) rfl (fun wq hq => Yl.ld (y_assign rfl)) hb2 ?_
          refine Wa.done (by kernel_rfl) ?_
          refine Wq.next hK_51 ?_
          refine Wc.seq fun _ hK_97 => ?_
          refine Wc.region ?_
          refine Wl.y (y_move rfl) rfl ?_
          refine Wl.y (y_move rfl) rfl ?_
          refine Wl.y (y_neqi rfl rfl) rfl ?_
          refine Wl.y (y_move rfl) rfl ?_
          refine Wl.guardF rfl rfl rfl (fun g_102 => ?_) (fun g_102 => ?_)
          ·
           have g_102_ := g_102
           try simp only [decide_eq_true_eq, decide_eq_false_iff_not, beq_iff_eq, beq_eq_false_iff_ne, bne_iff_ne, bne_eq_false_iff_eq, Bool.not_eq_true', Bool.not_eq_false', Bool.not_eq_eq_eq_not, Bool.not_true, Bool.not_false, ne_eq, Int.not_lt, Int.not_le] at g_102
           exact absurd g_102_ (by simp)
          ·
           have g_102_ := g_102
           try simp only [decide_eq_true_eq, decide_eq_false_iff_not, beq_iff_eq, beq_eq_false_iff_ne, bne_iff_ne, bne_eq_false_iff_eq, Bool.not_eq_true', Bool.not_eq_false', Bool.not_eq_eq_eq_not, Bool.not_true, Bool.not_false, ne_eq, Int.not_lt, Int.not_le] at g_102
           refine Wl.l (l_loadS Tryz.underlying28 (by kernel_rfl) rfl (by first | exact fun j u hu => hB_o17.at hu | exact fun j u hu => hB_o24.at hu | exact fun j u hu => hB_o4.at hu | exact fun j u hu => hB_o5.at hu | assumption)) rfl ?_
           refine Wl.on' rfl rfl g_102_ ?_
           refine Wl.l (l_loadS Tryz.underlying28 (by kernel_rfl) rfl (by first | exact fun j u hu => hB_o17.at hu | exact fun j u hu => hB_o24.at hu | exact fun j u hu => hB_o4.at hu | exact fun j u hu => hB_o5.at hu | assumption)) rfl ?_
           refine Wl.on' rfl rfl g_102_ ?_
           refine Wl.call txt19LawD rfl rfl (RSame_r _ _ (ok_reck _ _ _) (ok_reck _ _ _) _) rfl ?_
           rintro _ w_k6 ⟨rfl, hs_k6⟩
           have hz_k6 := hs_k6.size
           have hb := hb.trans (hs_k6.mono hb.size)
           have hL := hL_hb.below hb
           have hb2 := hb2.trans (hs_k6.mono hb2.size)
           have hB_o4 := hB_o4_hb2.below hb2
           have hB_o5 := hB_o5_hb2.below hb2
           have hR := hR_hb2.below hb2
           try have hB_o17 := Blk.below hB_o17 hs_k6
           try have hB_o24 := Blk.below hB_o24 hs_k6
           refine Wl.on' rfl rfl g_102_ ?_
           refine Wl.y (y_not rfl) rfl ?_
           refine Wl.y (y_pickF rfl g_102_ rfl) rfl ?_
           refine Wl.y (y_move rfl) rfl ?_
           refine Wl.guardF rfl rfl rfl (fun g_109 => ?_) (fun g_109 => ?_)
           ·
            have g_109_ := g_109
            try simp only [decide_eq_true_eq, decide_eq_false_iff_not, beq_iff_eq, beq_eq_false_iff_ne, bne_iff_ne, bne_eq_false_iff_eq, Bool.not_eq_true', Bool.not_eq_false', Bool.not_eq_eq_eq_not, Bool.not_true, Bool.not_false, ne_eq, Int.not_lt, Int.not_le] at g_109
            exact absurd g_109_ (by rw [sameV_refl]; simp)
           ·
            have g_109_ := g_109
            try simp only [decide_eq_true_eq, decide_eq_false_iff_not, beq_iff_eq, beq_eq_false_iff_ne, bne_iff_ne, bne_eq_false_iff_eq, Bool.not_eq_true', Bool.not_eq_false', Bool.not_eq_eq_eq_not, Bool.not_true, Bool.not_false, ne_eq, Int.not_lt, Int.not_le] at g_109
            refine Wl.l (l_loadS Tryz.underlying28 (by kernel_rfl) rfl (by first | exact fun j u hu => hB_o17.at hu | exact fun j u hu => hB_o24.at hu | exact fun j u hu => hB_o4.at hu | exact fun j u hu => hB_o5.at hu | assumption)) rfl ?_
            refine Wl.on' rfl rfl g_109_ ?_
            refine Wl.call txt22LawD rfl rfl (Right_r _ (ok_reck _ _ _) _) rfl ?_
            rintro _ w_k7 ⟨rfl, hs_k7⟩
            have hz_k7 := hs_k7.size
            have hb := hb.trans (hs_k7.mono hb.size)
            have hL := hL_hb.below hb
            have hb2 := hb2.trans (hs_k7.mono hb2.size)
            have hB_o4 := hB_o4_hb2.below hb2
            have hB_o5 := hB_o5_hb2.below hb2
            have hR := hR_hb2.below hb2
            refine Wl.on' rfl rfl g_109_ ?_
            refine Wl.y (y_not rfl) rfl ?_
            refine Wl.y (y_pickF rfl g_109_ rfl) rfl ?_
            refine Wl.nil ?_
            refine Wq.next hK_97 ?_
            refine Wc.cond rfl (fun c1_114 => ?_) (fun c1_114 => ?_)
            ·
             have c1_114_ := c1_114
             try simp only [decide_eq_true_eq, decide_eq_false_iff_not, beq_iff_eq, beq_eq_false_iff_ne, bne_iff_ne, bne_eq_false_iff_eq, Bool.not_eq_true', Bool.not_eq_false', Bool.not_eq_eq_eq_not, Bool.not_true, Bool.not_false, ne_eq, Int.not_lt, Int.not_le] at c1_114
             exact absurd c1_114_ (by rw [right_reck]; simp)
            ·
             have c1_114_ := c1_114
             try simp only [decide_eq_true_eq, decide_eq_false_iff_not, beq_iff_eq, beq_eq_false_iff_ne, bne_iff_ne, bne_eq_false_iff_eq, Bool.not_eq_true', Bool.not_eq_false', Bool.not_eq_eq_eq_not, Bool.not_true, Bool.not_false, ne_eq, Int.not_lt, Int.not_le] at c1_114
             refine Wc.skip ?_
             refine Wq.block_normal ?_
             refine Wq.next hK_34 ?_
             refine Wc.region ?_
             refine Wl.y (y_move rfl) rfl ?_
             refine Wl.y (y_addI rfl rfl (by first | omega | (simp; done) | (simp; omega)) (by first | omega | (simp; done) | (simp; omega))) rfl ?_
             refine Wl.y (y_assign rfl) rfl ?_
             refine Wl.nil ?_
             refine fun a_ ha_ => hL_25 _ _ (i + 1) (by first | omega | (simp; omega)) (Sub.cons' rfl (by first | rfl | exact int_eq (by omega) | exact int_eq (by simp) | (simp; done)) (Sub.cons' rfl (by first | rfl | exact int_eq (by omega) | exact int_eq (by simp) | (simp; done)) (Sub.cons' rfl (by first | rfl | exact int_eq (by omega) | exact int_eq (by simp) | (simp; done)) (Sub.cons' rfl (by first | rfl | exact int_eq (by omega) | exact int_eq (by simp) | (simp; done)) (Sub.cons' rfl (by first | rfl | exact int_eq (by omega) | exact int_eq (by simp) | (simp; done)) (Sub.nil)))))) ?_ a_ ha_
             exact ⟨by omega, hb, hB_o4, hB_o5, hR⟩
         exact Ws.nil
        exact Ws.nil
       exact Ws.nil
      exact Ws.nil
     exact Ws.nil
    refine Ws.cons #[true, true, true, true, true, true, false, false, false, false, true, false, false] rfl rfl (fun _ hK_118 => ?_) ?_
    ·
     refine Wl.allocN (z := (.agg #[(.int .i64 0), (.int .i64 0), (.float .f64 0), (str [])])) (by kernel_rfl) rfl ?_
     rintro g_o17 w_o17 hg_o17 hn_o17 hs_o17
     have hz_o17 := hs_o17.size
     have hb := hb.trans (hs_o17.mono hb.size)
     have hL := hL_hb.below hb
     have hb2 := hb2.trans (hs_o17.mono hb2.size)
     have hB_o4 := hB_o4_hb2.below hb2
     have hB_o5 := hB_o5_hb2.below hb2
     have hR := hR_hb2.below hb2
     have hB_o17 := hn_o17
     have hl_o17 := hB_o17.lt
     refine Wl.nil ?_
     refine Wq.back hK_118 hb2 ?_
     refine Wa.some (rs := [6]) (by kernel_rfl) rfl ?_
     refine Ws.cons #[true, true, true, true, true, true, true, false, false, false, true, false, false] rfl rfl (fun _ hK_120 => ?_) ?_
     ·
      refine Wl.call txt20LawD rfl rfl (Reckon_r _ _ _ o.val o'.val _) rfl ?_
      rintro _ w_k4 ⟨rfl, hs_k4⟩
      have hz_k4 := hs_k4.size
      have hb := hb.trans (hs_k4.mono hb.size)
      have hL := hL_hb.below hb
      have hb2 := hb2.trans (hs_k4.mono hb2.size)
      have hB_o4 := hB_o4_hb2.below hb2
      have hB_o5 := hB_o5_hb2.below hb2
      have hR := hR_hb2.below hb2
      try have hB_o17 := Blk.below hB_o17 hs_k4
      refine Wl.nil ?_
      refine Wq.back hK_120 hb2 ?_
      refine Wa.take (i := 7) #[true, true, true, true, true, true, true, true, false, false, true, false, false] rfl (by kernel_rfl) (fun _ _ _ h => h) rfl (fun wq hq => Yl.ld (y_move rfl)) hb2 ?_
      refine Wa.take (i := 8) #[true, true, true, true, true, true, true, true, true, false, true, false, false] rfl (by kernel_rfl) (fun _ _ _ h => h) rfl (fun wq hq => Yl.ld (y_extract rfl rfl)) hb2 ?_
      refine Wa.take (i := 9) #[true, true, true, true, true, true, true, true, true, true, true, false, false] rfl (by kernel_rfl) (fun _ _ _ h => h) rfl (fun wq hq => Yl.ld (y_extract rfl rfl)) hb2 ?_
      refine Wa.some (rs := [11]) (by kernel_rfl) rfl ?_
      refine Ws.cons #[true, true, true, true, true, true, true, true, true, true, true, true, false] rfl rfl (fun _ hK_125 => ?_) ?_
      ·
       refine Wl.storeS (by kernel_rfl) rfl rfl hB_o17 rfl rfl ?_
       rintro w_s2 hn_s2 hg_s2
       have hz_s2 := hg_s2.size
       have hb := below_blk hb hg_s2 hb.size (by omega)
       have hL := hL_hb.below hb
       have hb2 := below_blk hb2 hg_s2 hb2.size (by omega)
       have hB_o4 := hB_o4_hb2.below hb2
       have hB_o5 := hB_o5_hb2.below hb2
       have hR := hR_hb2.below hb2
       have hB_o17 := hn_s2
       refine Wl.nil ?_
       refine Wq.back hK_125 hb2 ?_
       refine Wa.take (i := 12) #[true, true, true, true, true, true, true, true, true, true, true, true, true] rfl (by kernel_rfl) (fun _ _ _ h => h) rfl (fun wq hq => Yl.ld (y_assign rfl)) hb2 ?_
       refine Wa.done (by kernel_rfl) ?_
       refine Wq.next hK_35 ?_
       refine Wc.seq fun _ hK_127 => ?_
       refine Wc.any (n := 13) (fun w' => Below wr.heap.size wr w') #[false, false, false, false, false, false, false, false, false, false, false, false, false] (by kernel_rfl) rfl (by kernel_rfl) ?_
       refine Wa.drew ?_
       rintro w_g8 hs_g8
       have hz_g8 := hs_g8.size
       have hb := hb.trans (hs_g8.mono hb.size)
       have hL := hL_hb.below hb
       have hb2 := hb2.trans (hs_g8.mono hb2.size)
       have hB_o4 := hB_o4_hb2.below hb2
       have hB_o5 := hB_o5_hb2.below hb2
       have hR := hR_hb2.below hb2
       try have hB_o17 := Blk.below hB_o17 hs_g8
       refine Wa.take (i := 0) #[true, false, false, false, false, false, false, false, false, false, false, false, false] rfl (by kernel_rfl) (fun _ _ _ h => h) rfl (fun wq hq => Yl.ld (y_move rfl)) hb2 ?_
       refine Wa.take (i := 1) #[true, true, false, false, false, false, false, false, false, false, false, false, false] rfl (by kernel_rfl) (fun _ _ _ h => h) rfl (fun wq hq => Yl.ld (y_move rfl)) hb2 ?_
       refine Wa.take (i := 2) #[true, true, true, false, false, false, false, false, false, false, false, false, false] rfl (by kernel_rfl) (fun _ _ _ h => h) rfl (fun wq hq => Yl.ld (y_indexAddr Tryz.underlying30 sz9LawD rfl rfl (by omega) (by omega))) hb2 ?_
       refine Wa.take (i := 3) #[true, true, true, true, false, false, false, false, false, false, false, false, false] rfl (by kernel_rfl) (fun _ _ _ h => h) rfl (fun wq hq => l_load one9LawD rfl (by have hB_o4 := hB_o4_hb2.below hq; have hB_o5 := hB_o5_hb2.below hq; have hR := hR_hb2.below hq; exact at1 (cell_below hq hcell))) hb2 ?_
       refine Wa.take (i := 4) #[true, true, true, true, true, false, false, false, false, false, false, false, false] rfl (by kernel_rfl) (fun _ _ _ h => h) rfl (fun wq hq => l_loadS Tryz.underlying28 (by kernel_rfl) rfl (by have hB_o4 := hB_o4_hb2.below hq; have hB_o5 := hB_o5_hb2.below hq; have hR := hR_hb2.below hq; first | exact fun j u hu => hB_o17.at hu | exact fun j u hu => hB_o4.at hu | exact fun j u hu => hB_o5.at hu | assumption)) hb2 ?_
       refine Wa.take (i := 5) #[true, true, true, true, true, true, false, false, false, false, false, false, false] rfl (by kernel_rfl) (fun _ _ _ h => h) rfl (fun wq hq => l_loadS Tryz.underlying28 (by kernel_rfl) rfl (by have hB_o4 := hB_o4_hb2.below hq; have hB_o5 := hB_o5_hb2.below hq; have hR := hR_hb2.below hq; first | exact fun j u hu => hB_o17.at hu | exact fun j u hu => hB_o4.at hu | exact fun j u hu => hB_o5.at hu | assumption)) hb2 ?_
       refine Wa.some (rs := [6, 10]) (by kernel_rfl) rfl ?_
       refine Ws.cons #[true, true, true, true, true, true, true, false, false, false, false, false, false] rfl rfl (fun _ hK_134 => ?_) ?_
       ·
        refine Wl.call txt21LawD rfl rfl (RReckon_r _ _ _ o.val o'.val _) rfl ?_
        rintro _ w_k5 ⟨rfl, hs_k5⟩
        have hz_k5 := hs_k5.size
        have hb := hb.trans (hs_k5.mono hb.size)
        have hL := hL_hb.below hb
        have hb2 := hb2.trans (hs_k5.mono hb2.size)
        have hB_o4 := hB_o4_hb2.below hb2
        have hB_o5 := hB_o5_hb2.below hb2
        have hR := hR_hb2.below hb2
        try have hB_o17 := Blk.below hB_o17 hs_k5
        refine Wl.nil ?_
        refine Wq.back hK_134 hb2 ?_
        refine Wa.take (i := 7) #[true, true, true, true, true, true, true, true, false, false, false, false, false] rfl (by kernel_rfl) (fun _ _ _ h => h) rfl (fun wq hq => Yl.ld (y_move rfl)) hb2 ?_
        refine Wa.take (i := 8) #[true, true, true, true, true, true, true, true, true, false, false, false, false] rfl (by kernel_rfl) (fun _ _ _ h => h) rfl (fun wq hq => Yl.ld (y_extract rfl rfl)) hb2 ?_
        refine Wa.take (i := 9) #[true, true, true, true, true, true, true, true, true, true, false, false, false] rfl (by kernel_rfl) (fun _ _ _ h => h) rfl (fun wq hq => Yl.ld (y_extract rfl rfl)) hb2 ?_
        refine Wa.some (rs := [10]) (by kernel_rfl) rfl ?_
        refine Ws.cons #[true, true, true, true, true, true, true, true, true, true, true, false, false] rfl rfl (fun _ hK_139 => ?_) ?_
        ·
         refine Wl.allocN (z := (.agg #[(.int .i64 0), (.int .i64 0), (.float .f64 0), (str [])])) (by kernel_rfl) rfl ?_
         rintro g_o24 w_o24 hg_o24 hn_o24 hs_o24
         have hz_o24 := hs_o24.size
         have hb := hb.trans (hs_o24.mono hb.size)
         have hL := hL_hb.below hb
         have hb2 := hb2.trans (hs_o24.mono hb2.size)
         have hB_o4 := hB_o4_hb2.below hb2
         have hB_o5 := hB_o5_hb2.below hb2
         have hR := hR_hb2.below hb2
         try have hB_o17 := Blk.below hB_o17 hs_o24
         have hB_o24 := hn_o24
         have hl_o24 := hB_o24.lt
         refine Wl.nil ?_
         refine Wq.back hK_139 hb2 ?_
         refine Wa.some (rs := [11]) (by kernel_rfl) rfl ?_
         refine Ws.cons #[true, true, true, true, true, true, true, true, true, true, true, true, false] rfl rfl (fun _ hK_141 => ?_) ?_
         ·
          refine Wl.storeS (by kernel_rfl) rfl rfl hB_o24 rfl rfl ?_
          rintro w_s3 hn_s3 hg_s3
          have hz_s3 := hg_s3.size
          have hb := below_blk hb hg_s3 hb.size (by omega)
          have hL := hL_hb.below hb
          have hb2 := below_blk hb2 hg_s3 hb2.size (by omega)
          have hB_o4 := hB_o4_hb2.below hb2
          have hB_o5 := hB_o5_hb2.below hb2
          have hR := hR_hb2.below hb2
          try have hB_o17 := hB_o17.over hg_s3 (by omega)
          have hB_o24 := hn_s3
          refine Wl.nil ?_
          refine Wq.back hK_141 hb2 ?_
          refine Wa.take (i := 12) #[true, true, true, true, true, true, true, true, true, true, true, true, true] rfl (by kernel_rfl) (fun _ _ _ h => h) rfl (fun wq hq => Yl.ld (y_assign rfl)) hb2 ?_
          refine Wa.done (by kernel_rfl) ?_
          refine Wq.next hK_127 ?_
          refine Wc.seq fun _ hK_143 => ?_
          refine Wc.region ?_
          refine Wl.y (y_move rfl) rfl ?_
          refine Wl.y (y_move rfl) rfl ?_
          refine Wl.y (y_neqi rfl rfl) rfl ?_
          refine Wl.y (y_move rfl) rfl ?_
          refine Wl.guardF rfl rfl rfl (fun g_148 => ?_) (fun g_148 => ?_)
          ·
           have g_148_ := g_148
           try simp only [decide_eq_true_eq, decide_eq_false_iff_not, beq_iff_eq, beq_eq_false_iff_ne, bne_iff_ne, bne_eq_false_iff_eq, Bool.not_eq_true', Bool.not_eq_false', Bool.not_eq_eq_eq_not, Bool.not_true, Bool.not_false, ne_eq, Int.not_lt, Int.not_le] at g_148
           exact absurd g_148_ (by simp)
          ·
           have g_148_ := g_148
           try simp only [decide_eq_true_eq, decide_eq_false_iff_not, beq_iff_eq, beq_eq_false_iff_ne, bne_iff_ne, bne_eq_false_iff_eq, Bool.not_eq_true', Bool.not_eq_false', Bool.not_eq_eq_eq_not, Bool.not_true, Bool.not_false, ne_eq, Int.not_lt, Int.not_le] at g_148
           refine Wl.l (l_loadS Tryz.underlying28 (by kernel_rfl) rfl (by first | exact fun j u hu => hB_o17.at hu | exact fun j u hu => hB_o24.at hu | exact fun j u hu => hB_o4.at hu | exact fun j u hu => hB_o5.at hu | assumption)) rfl ?_
           refine Wl.on' rfl rfl g_148_ ?_
           refine Wl.l (l_loadS Tryz.underlying28 (by kernel_rfl) rfl (by first | exact fun j u hu => hB_o17.at hu | exact fun j u hu => hB_o24.at hu | exact fun j u hu => hB_o4.at hu | exact fun j u hu => hB_o5.at hu | assumption)) rfl ?_
           refine Wl.on' rfl rfl g_148_ ?_
           refine Wl.call txt19LawD rfl rfl (RSame_r _ _ (ok_reck _ _ _) (ok_reck _ _ _) _) rfl ?_
           rintro _ w_k6 ⟨rfl, hs_k6⟩
           have hz_k6 := hs_k6.size
           have hb := hb.trans (hs_k6.mono hb.size)
           have hL := hL_hb.below hb
           have hb2 := hb2.trans (hs_k6.mono hb2.size)
           have hB_o4 := hB_o4_hb2.below hb2
           have hB_o5 := hB_o5_hb2.below hb2
           have hR := hR_hb2.below hb2
           try have hB_o17 := Blk.below hB_o17 hs_k6
           try have hB_o24 := Blk.below hB_o24 hs_k6
           refine Wl.on' rfl rfl g_148_ ?_
           refine Wl.y (y_not rfl) rfl ?_
           refine Wl.y (y_pickF rfl g_148_ rfl) rfl ?_
           refine Wl.y (y_move rfl) rfl ?_
           refine Wl.guardF rfl rfl rfl (fun g_155 => ?_) (fun g_155 => ?_)
           ·
            have g_155_ := g_155
            try simp only [decide_eq_true_eq, decide_eq_false_iff_not, beq_iff_eq, beq_eq_false_iff_ne, bne_iff_ne, bne_eq_false_iff_eq, Bool.not_eq_true', Bool.not_eq_false', Bool.not_eq_eq_eq_not, Bool.not_true, Bool.not_false, ne_eq, Int.not_lt, Int.not_le] at g_155
            exact absurd g_155_ (by rw [sameV_refl]; simp)
           ·
            have g_155_ := g_155
            try simp only [decide_eq_true_eq, decide_eq_false_iff_not, beq_iff_eq, beq_eq_false_iff_ne, bne_iff_ne, bne_eq_false_iff_eq, Bool.not_eq_true', Bool.not_eq_false', Bool.not_eq_eq_eq_not, Bool.not_true, Bool.not_false, ne_eq, Int.not_lt, Int.not_le] at g_155
            refine Wl.l (l_loadS Tryz.underlying28 (by kernel_rfl) rfl (by first | exact fun j u hu => hB_o17.at hu | exact fun j u hu => hB_o24.at hu | exact fun j u hu => hB_o4.at hu | exact fun j u hu => hB_o5.at hu | assumption)) rfl ?_
            refine Wl.on' rfl rfl g_155_ ?_
            refine Wl.call txt22LawD rfl rfl (Right_r _ (ok_reck _ _ _) _) rfl ?_
            rintro _ w_k7 ⟨rfl, hs_k7⟩
            have hz_k7 := hs_k7.size
            have hb := hb.trans (hs_k7.mono hb.size)
            have hL := hL_hb.below hb
            have hb2 := hb2.trans (hs_k7.mono hb2.size)
            have hB_o4 := hB_o4_hb2.below hb2
            have hB_o5 := hB_o5_hb2.below hb2
            have hR := hR_hb2.below hb2
            refine Wl.on' rfl rfl g_155_ ?_
            refine Wl.y (y_not rfl) rfl ?_
            refine Wl.y (y_pickF rfl g_155_ rfl) rfl ?_
            refine Wl.nil ?_
            refine Wq.next hK_143 ?_
            refine Wc.cond rfl (fun c1_160 => ?_) (fun c1_160 => ?_)
            ·
             have c1_160_ := c1_160
             try simp only [decide_eq_true_eq, decide_eq_false_iff_not, beq_iff_eq, beq_eq_false_iff_ne, bne_iff_ne, bne_eq_false_iff_eq, Bool.not_eq_true', Bool.not_eq_false', Bool.not_eq_eq_eq_not, Bool.not_true, Bool.not_false, ne_eq, Int.not_lt, Int.not_le] at c1_160
             exact absurd c1_160_ (by rw [right_reck]; simp)
            ·
             have c1_160_ := c1_160
             try simp only [decide_eq_true_eq, decide_eq_false_iff_not, beq_iff_eq, beq_eq_false_iff_ne, bne_iff_ne, bne_eq_false_iff_eq, Bool.not_eq_true', Bool.not_eq_false', Bool.not_eq_eq_eq_not, Bool.not_true, Bool.not_false, ne_eq, Int.not_lt, Int.not_le] at c1_160
             refine Wc.skip ?_
             refine Wq.block_normal ?_
             refine Wq.next hK_34 ?_
             refine Wc.region ?_
             refine Wl.y (y_move rfl) rfl ?_
             refine Wl.y (y_addI rfl rfl (by first | omega | (simp; done) | (simp; omega)) (by first | omega | (simp; done) | (simp; omega))) rfl ?_
             refine Wl.y (y_assign rfl) rfl ?_
             refine Wl.nil ?_
             refine fun a_ ha_ => hL_25 _ _ (i + 1) (by first | omega | (simp; omega)) (Sub.cons' rfl (by first | rfl | exact int_eq (by omega) | exact int_eq (by simp) | (simp; done)) (Sub.cons' rfl (by first | rfl | exact int_eq (by omega) | exact int_eq (by simp) | (simp; done)) (Sub.cons' rfl (by first | rfl | exact int_eq (by omega) | exact int_eq (by simp) | (simp; done)) (Sub.cons' rfl (by first | rfl | exact int_eq (by omega) | exact int_eq (by simp) | (simp; done)) (Sub.cons' rfl (by first | rfl | exact int_eq (by omega) | exact int_eq (by simp) | (simp; done)) (Sub.nil)))))) ?_ a_ ha_
             exact ⟨by omega, hb, hB_o4, hB_o5, hR⟩
         exact Ws.nil
        exact Ws.nil
       refine Ws.cons #[true, true, true, true, true, true, false, false, false, false, true, false, false] rfl rfl (fun _ hK_164 => ?_) ?_
       ·
        refine Wl.allocN (z := (.agg #[(.int .i64 0), (.int .i64 0), (.float .f64 0), (str [])])) (by kernel_rfl) rfl ?_
        rintro g_o24 w_o24 hg_o24 hn_o24 hs_o24
        have hz_o24 := hs_o24.size
        have hb := hb.trans (hs_o24.mono hb.size)
        have hL := hL_hb.below hb
        have hb2 := hb2.trans (hs_o24.mono hb2.size)
        have hB_o4 := hB_o4_hb2.below hb2
        have hB_o5 := hB_o5_hb2.below hb2
        have hR := hR_hb2.below hb2
        try have hB_o17 := Blk.below hB_o17 hs_o24
        have hB_o24 := hn_o24
        have hl_o24 := hB_o24.lt
        refine Wl.nil ?_
        refine Wq.back hK_164 hb2 ?_
        refine Wa.some (rs := [6]) (by kernel_rfl) rfl ?_
        refine Ws.cons #[true, true, true, true, true, true, true, false, false, false, true, false, false] rfl rfl (fun _ hK_166 => ?_) ?_
        ·
         refine Wl.call txt21LawD rfl rfl (RReckon_r _ _ _ o.val o'.val _) rfl ?_
         rintro _ w_k5 ⟨rfl, hs_k5⟩
         have hz_k5 := hs_k5.size
         have hb := hb.trans (hs_k5.mono hb.size)
         have hL := hL_hb.below hb
         have hb2 := hb2.trans (hs_k5.mono hb2.size)
         have hB_o4 := hB_o4_hb2.below hb2
         have hB_o5 := hB_o5_hb2.below hb2
         have hR := hR_hb2.below hb2
         try have hB_o17 := Blk.below hB_o17 hs_k5
         try have hB_o24 := Blk.below hB_o24 hs_k5
         refine Wl.nil ?_
         refine Wq.back hK_166 hb2 ?_
         refine Wa.take (i := 7) #[true, true, true, true, true, true, true, true, false, false, true, false, false] rfl (by kernel_rfl) (fun _ _ _ h => h) rfl (fun wq hq => Yl.ld (y_move rfl)) hb2 ?_
         refine Wa.take (i := 8) #[true, true, true, true, true, true, true, true, true, false, true, false, false] rfl (by kernel_rfl) (fun _ _ _ h => h) rfl (fun wq hq => Yl.ld (y_extract rfl rfl)) hb2 ?_
         refine Wa.take (i := 9) #[true, true, true, true, true, true, true, true, true, true, true, false, false] rfl (by kernel_rfl) (fun _ _ _ h => h) rfl (fun wq hq => Yl.ld (y_extract rfl rfl)) hb2 ?_
         refine Wa.some (rs := [11]) (by kernel_rfl) rfl ?_
         refine Ws.cons #[true, true, true, true, true, true, true, true, true, true, true, true, false] rfl rfl (fun _ hK_171 => ?_) ?_
         ·
          refine Wl.storeS (by kernel_rfl) rfl rfl hB_o24 rfl rfl ?_
          rintro w_s3 hn_s3 hg_s3
          have hz_s3 := hg_s3.size
          have hb := below_blk hb hg_s3 hb.size (by omega)
          have hL := hL_hb.below hb
          have hb2 := below_blk hb2 hg_s3 hb2.size (by omega)
          have hB_o4 := hB_o4_hb2.below hb2
          have hB_o5 := hB_o5_hb2.below hb2
          have hR := hR_hb2.below hb2
          try have hB_o17 := hB_o17.over hg_s3 (by omega)
          have hB_o24 := hn_s3
          refine Wl.nil ?_
          refine Wq.back hK_171 hb2 ?_
          refine Wa.take (i := 12) #[true, true, true, true, true, true, true, true, true, true, true, true, true] rfl (by kernel_rfl) (fun _ _ _ h => h) rfl (fun wq hq => Yl.ld (y_assign rfl)) hb2 ?_
          refine Wa.done (by kernel_rfl) ?_
          refine Wq.next hK_127 ?_
          refine Wc.seq fun _ hK_173 => ?_
          refine Wc.region ?_
          refine Wl.y (y_move rfl) rfl ?_
          refine Wl.y (y_move rfl) rfl ?_
          refine Wl.y (y_neqi rfl rfl) rfl ?_
          refine Wl.y (y_move rfl) rfl ?_
          refine Wl.guardF rfl rfl rfl (fun g_178 => ?_) (fun g_178 => ?_)
          ·
           have g_178_ := g_178
           try simp only [decide_eq_true_eq, decide_eq_false_iff_not, beq_iff_eq, beq_eq_false_iff_ne, bne_iff_ne, bne_eq_false_iff_eq, Bool.not_eq_true', Bool.not_eq_false', Bool.not_eq_eq_eq_not, Bool.not_true, Bool.not_false, ne_eq, Int.not_lt, Int.not_le] at g_178
           exact absurd g_178_ (by simp)
          ·
           have g_178_ := g_178
           try simp only [decide_eq_true_eq, decide_eq_false_iff_not, beq_iff_eq, beq_eq_false_iff_ne, bne_iff_ne, bne_eq_false_iff_eq, Bool.not_eq_true', Bool.not_eq_false', Bool.not_eq_eq_eq_not, Bool.not_true, Bool.not_false, ne_eq, Int.not_lt, Int.not_le] at g_178
           refine Wl.l (l_loadS Tryz.underlying28 (by kernel_rfl) rfl (by first | exact fun j u hu => hB_o17.at hu | exact fun j u hu => hB_o24.at hu | exact fun j u hu => hB_o4.at hu | exact fun j u hu => hB_o5.at hu | assumption)) rfl ?_
           refine Wl.on' rfl rfl g_178_ ?_
           refine Wl.l (l_loadS Tryz.underlying28 (by kernel_rfl) rfl (by first | exact fun j u hu => hB_o17.at hu | exact fun j u hu => hB_o24.at hu | exact fun j u hu => hB_o4.at hu | exact fun j u hu => hB_o5.at hu | assumption)) rfl ?_
           refine Wl.on' rfl rfl g_178_ ?_
           refine Wl.call txt19LawD rfl rfl (RSame_r _ _ (ok_reck _ _ _) (ok_reck _ _ _) _) rfl ?_
           rintro _ w_k6 ⟨rfl, hs_k6⟩
           have hz_k6 := hs_k6.size
           have hb := hb.trans (hs_k6.mono hb.size)
           have hL := hL_hb.below hb
           have hb2 := hb2.trans (hs_k6.mono hb2.size)
           have hB_o4 := hB_o4_hb2.below hb2
           have hB_o5 := hB_o5_hb2.below hb2
           have hR := hR_hb2.below hb2
           try have hB_o17 := Blk.below hB_o17 hs_k6
           try have hB_o24 := Blk.below hB_o24 hs_k6
           refine Wl.on' rfl rfl g_178_ ?_
           refine Wl.y (y_not rfl) rfl ?_
           refine Wl.y (y_pickF rfl g_178_ rfl) rfl ?_
           refine Wl.y (y_move rfl) rfl ?_
           refine Wl.guardF rfl rfl rfl (fun g_185 => ?_) (fun g_185 => ?_)
           ·
            have g_185_ := g_185
            try simp only [decide_eq_true_eq, decide_eq_false_iff_not, beq_iff_eq, beq_eq_false_iff_ne, bne_iff_ne, bne_eq_false_iff_eq, Bool.not_eq_true', Bool.not_eq_false', Bool.not_eq_eq_eq_not, Bool.not_true, Bool.not_false, ne_eq, Int.not_lt, Int.not_le] at g_185
            exact absurd g_185_ (by rw [sameV_refl]; simp)
           ·
            have g_185_ := g_185
            try simp only [decide_eq_true_eq, decide_eq_false_iff_not, beq_iff_eq, beq_eq_false_iff_ne, bne_iff_ne, bne_eq_false_iff_eq, Bool.not_eq_true', Bool.not_eq_false', Bool.not_eq_eq_eq_not, Bool.not_true, Bool.not_false, ne_eq, Int.not_lt, Int.not_le] at g_185
            refine Wl.l (l_loadS Tryz.underlying28 (by kernel_rfl) rfl (by first | exact fun j u hu => hB_o17.at hu | exact fun j u hu => hB_o24.at hu | exact fun j u hu => hB_o4.at hu | exact fun j u hu => hB_o5.at hu | assumption)) rfl ?_
            refine Wl.on' rfl rfl g_185_ ?_
            refine Wl.call txt22LawD rfl rfl (Right_r _ (ok_reck _ _ _) _) rfl ?_
            rintro _ w_k7 ⟨rfl, hs_k7⟩
            have hz_k7 := hs_k7.size
            have hb := hb.trans (hs_k7.mono hb.size)
            have hL := hL_hb.below hb
            have hb2 := hb2.trans (hs_k7.mono hb2.size)
            have hB_o4 := hB_o4_hb2.below hb2
            have hB_o5 := hB_o5_hb2.below hb2
            have hR := hR_hb2.below hb2
            refine Wl.on' rfl rfl g_185_ ?_
            refine Wl.y (y_not rfl) rfl ?_
            refine Wl.y (y_pickF rfl g_185_ rfl) rfl ?_
            refine Wl.nil ?_
            refine Wq.next hK_173 ?_
            refine Wc.cond rfl (fun c1_190 => ?_) (fun c1_190 => ?_)
            ·
             have c1_190_ := c1_190
             try simp only [decide_eq_true_eq, decide_eq_false_iff_not, beq_iff_eq, beq_eq_false_iff_ne, bne_iff_ne, bne_eq_false_iff_eq, Bool.not_eq_true', Bool.not_eq_false', Bool.not_eq_eq_eq_not, Bool.not_true, Bool.not_false, ne_eq, Int.not_lt, Int.not_le] at c1_190
             exact absurd c1_190_ (by rw [right_reck]; simp)
            ·
             have c1_190_ := c1_190
             try simp only [decide_eq_true_eq, decide_eq_false_iff_not, beq_iff_eq, beq_eq_false_iff_ne, bne_iff_ne, bne_eq_false_iff_eq, Bool.not_eq_true', Bool.not_eq_false', Bool.not_eq_eq_eq_not, Bool.not_true, Bool.not_false, ne_eq, Int.not_lt, Int.not_le] at c1_190
             refine Wc.skip ?_
             refine Wq.block_normal ?_
             refine Wq.next hK_34 ?_
             refine Wc.region ?_
             refine Wl.y (y_move rfl) rfl ?_
             refine Wl.y (y_addI rfl rfl (by first | omega | (simp; done) | (simp; omega)) (by first | omega | (simp; done) | (simp; omega))) rfl ?_
             refine Wl.y (y_assign rfl) rfl ?_
             refine Wl.nil ?_
             refine fun a_ ha_ => hL_25 _ _ (i + 1) (by first | omega | (simp; omega)) (Sub.cons' rfl (by first | rfl | exact int_eq (by omega) | exact int_eq (by simp) | (simp; done)) (Sub.cons' rfl (by first | rfl | exact int_eq (by omega) | exact int_eq (by simp) | (simp; done)) (Sub.cons' rfl (by first | rfl | exact int_eq (by omega) | exact int_eq (by simp) | (simp; done)) (Sub.cons' rfl (by first | rfl | exact int_eq (by omega) | exact int_eq (by simp) | (simp; done)) (Sub.cons' rfl (by first | rfl | exact int_eq (by omega) | exact int_eq (by simp) | (simp; done)) (Sub.nil)))))) ?_ a_ ha_
             exact ⟨by omega, hb, hB_o4, hB_o5, hR⟩
         exact Ws.nil
        exact Ws.nil
       exact Ws.nil
      exact Ws.nil
     exact Ws.nil
    exact Ws.nil
   ·
    have c0_33_ := c0_33
    try simp only [decide_eq_true_eq, decide_eq_false_iff_not, beq_iff_eq, beq_eq_false_iff_ne, bne_iff_ne, bne_eq_false_iff_eq, Bool.not_eq_true', Bool.not_eq_false', Bool.not_eq_eq_eq_not, Bool.not_true, Bool.not_false, ne_eq, Int.not_lt, Int.not_le] at c0_33
    refine Wc.exit ?_
    refine Wq.then_exit ?_
    refine Wq.then_exit ?_
    refine Wq.block_exit ?_
    refine Wq.next hK_22 ?_
    refine Wc.seq fun _ hK_194 => ?_
    refine Wc.region ?_
    refine Wl.y (y_move rfl) rfl ?_
    refine Wl.y (y_assign rfl) rfl ?_
    refine Wl.nil ?_
    refine Wq.next hK_194 ?_
    refine Wc.ret ?_
    refine ret1 rfl rfl ?_
    exact ⟨_, rfl, rfl, hb⟩
end Go.Proofs.YtijkbinjdgjioaaGreatDoor
