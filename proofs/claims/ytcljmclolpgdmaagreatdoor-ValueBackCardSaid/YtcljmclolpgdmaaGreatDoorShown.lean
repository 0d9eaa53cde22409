/- What each statement about values begins with, by the calculus. -/
import Derived.Test.YtcljmclolpgdmaaGreatDoorVTxt
namespace Go.Proofs.YtcljmclolpgdmaaGreatDoor
open Go.RowKit Go.Bw Go.Bw.Fl Go.Shelf
set_option linter.unusedVariables false
set_option linter.unusedSimpArgs false
theorem fa28_0Shown (p : Addr) (w : World) : (Instr.fieldAt 28 (.pointer (some p)) 0).run Tryz.prog w = .ok (.pointer (some (p.add 0))) w := run_fieldAt (i := 0) (sz := 0) Tryz.underlying28 rfl (by kernel_rfl) p w
theorem fa28_1Shown (p : Addr) (w : World) : (Instr.fieldAt 28 (.pointer (some p)) 1).run Tryz.prog w = .ok (.pointer (some (p.add 1))) w := run_fieldAt (i := 1) (sz := 0) Tryz.underlying28 rfl (by kernel_rfl) p w
theorem one2Shown : One Tryz.prog 2 := ⟨_, Tryz.underlying2, rfl, by kernel_rfl⟩
theorem one3Shown : One Tryz.prog 3 := ⟨_, Tryz.underlying3, rfl, by kernel_rfl⟩
theorem txt14Shown : Txt Tryz.prog 14 := ⟨_, Tryz.func14, by kernel_rfl, rfl⟩   -- bridleway/value.Text
theorem txt16Shown : Txt Tryz.prog 16 := ⟨_, Tryz.func16, by kernel_rfl, rfl⟩   -- bridleway/value.Read
theorem txt19Shown : Txt Tryz.prog 19 := ⟨_, Tryz.func19, by kernel_rfl, rfl⟩   -- bridleway/value.Right
theorem txt27Shown : Txt Tryz.prog 27 := ⟨_, Tryz.func27, by kernel_rfl, rfl⟩   -- bridleway/value.Test
theorem txt28Shown : Txt Tryz.prog 28 := ⟨_, Tryz.func28, by kernel_rfl, rfl⟩   -- bridleway/bridlewaylaw02.whole
theorem txt29Shown : Txt Tryz.prog 29 := ⟨_, Tryz.func29, by kernel_rfl, rfl⟩   -- bridleway/bridlewaylaw02.float
theorem txt30Shown : Txt Tryz.prog 30 := ⟨_, Tryz.func30, by kernel_rfl, rfl⟩   -- bridleway/value.Reckon
theorem txt31Shown : Txt Tryz.prog 31 := ⟨_, Tryz.func31, by kernel_rfl, rfl⟩   -- math.NaN
def intV (n : Int) : Val := ⟨2, n, 0, []⟩
def fltV (b : Nat) : Val := ⟨3, 0, b, []⟩
theorem whole_mk (n : Int) (w : World) : Ret Tryz.prog 28 [.int .i64 n] w fun v w' => v = (intV n).enc ∧ Below w.heap.size w w' := by
  have hb := Below.refl w.heap.size w
  refine enter Tryz.func28 rfl rfl rfl ?_
  refine Wc.seq fun _ hK_1 => ?_
  refine Wc.region ?_
  refine Wl.allocN (z := (.agg #[(.int .i64 0), (.int .i64 0), (.float .f64 0), (str [])])) (by kernel_rfl) rfl ?_
  rintro g_o0 w_o0 hg_o0 hn_o0 hs_o0
  have hz_o0 := hs_o0.size
  have hb := hb.trans (hs_o0.mono hb.size)
  have hB_o0 := hn_o0
  have hl_o0 := hB_o0.lt
  refine Wl.nil ?_
  refine Wq.next hK_1 ?_
  refine Wc.seq fun _ hK_3 => ?_
  refine Wc.region ?_
  refine Wl.y (y_move rfl) rfl ?_
  refine Wl.y (y_buildS (z := [(.int .i64 0), (.int .i64 0), (.float .f64 0), (str [])]) (pl := [(0, 1), (1, 1), (2, 1), (3, 1)]) (cs := [_, _, _, _]) Tryz.underlying28 (by kernel_rfl) (by kernel_rfl) rfl rfl rfl) rfl ?_
  refine Wl.storeS (by kernel_rfl) rfl rfl hB_o0 rfl rfl ?_
  rintro w_s0 hn_s0 hg_s0
  have hz_s0 := hg_s0.size
  have hb := below_blk hb hg_s0 hb.size (by omega)
  have hB_o0 := hn_s0
  refine Wl.nil ?_
  refine Wq.next hK_3 ?_
  refine Wc.ret ?_
  refine retN (rs := [.cell 2 28]) (vs := [_]) rfl (.cell rfl (loadS Tryz.underlying28 (by kernel_rfl) (fun j u hu => hB_o0.at hu)) .nil) ?_
  exact ⟨_, rfl, rfl, hb⟩
theorem float_mk (b : Nat) (w : World) : Ret Tryz.prog 29 [.float .f64 b] w fun v w' => v = (fltV b).enc ∧ Below w.heap.size w w' := by
  have hb := Below.refl w.heap.size w
  refine enter Tryz.func29 rfl rfl rfl ?_
  refine Wc.seq fun _ hK_1 => ?_
  refine Wc.region ?_
  refine Wl.allocN (z := (.agg #[(.int .i64 0), (.int .i64 0), (.float .f64 0), (str [])])) (by kernel_rfl) rfl ?_
  rintro g_o0 w_o0 hg_o0 hn_o0 hs_o0
  have hz_o0 := hs_o0.size
  have hb := hb.trans (hs_o0.mono hb.size)
  have hB_o0 := hn_o0
  have hl_o0 := hB_o0.lt
  refine Wl.nil ?_
  refine Wq.next hK_1 ?_
  refine Wc.seq fun _ hK_3 => ?_
  refine Wc.region ?_
  refine Wl.y (y_move rfl) rfl ?_
  refine Wl.y (y_buildS (z := [(.int .i64 0), (.int .i64 0), (.float .f64 0), (str [])]) (pl := [(0, 1), (1, 1), (2, 1), (3, 1)]) (cs := [_, _, _, _]) Tryz.underlying28 (by kernel_rfl) (by kernel_rfl) rfl rfl rfl) rfl ?_
  refine Wl.storeS (by kernel_rfl) rfl rfl hB_o0 rfl rfl ?_
  rintro w_s0 hn_s0 hg_s0
  have hz_s0 := hg_s0.size
  have hb := below_blk hb hg_s0 hb.size (by omega)
  have hB_o0 := hn_s0
  refine Wl.nil ?_
  refine Wq.next hK_3 ?_
  refine Wc.ret ?_
  refine retN (rs := [.cell 2 28]) (vs := [_]) rfl (.cell rfl (loadS Tryz.underlying28 (by kernel_rfl) (fun j u hu => hB_o0.at hu)) .nil) ?_
  exact ⟨_, rfl, rfl, hb⟩
theorem okI {n : Int} (h0 : -9223372036854775808 ≤ n) (h1 : n ≤ 9223372036854775807) : (intV n).Ok := ⟨h0, h1, show (0 : Nat) < 18446744073709551616 by decide⟩
theorem okF {b : Nat} (h : b < 18446744073709551616) : (fltV b).Ok := ⟨show (-9223372036854775808 : Int) ≤ 0 by decide, show (0 : Int) ≤ 9223372036854775807 by decide, h⟩
theorem sh1 (w : World) : Ret Tryz.prog 27 [str [61], (intV 9007199254740993).enc, (fltV 4845873199050653696).enc] w fun v w' => v = .tuple #[(truthV false).enc, .int .i64 0] ∧ Below w.heap.size w w' := by
  have h := Test_r [61] (intV 9007199254740993) (fltV 4845873199050653696) (okI (by decide) (by decide)) (okF (by decide)) w
  rwa [show testV [61] (intV 9007199254740993) (fltV 4845873199050653696) = (truthV false, 0) by kernel_rfl] at h
theorem sh2 (w : World) : Ret Tryz.prog 30 [str [43], (intV 9223372036854775807).enc, (intV 1).enc] w fun v w' => v = .tuple #[nullV.enc, .int .i64 7] ∧ Below w.heap.size w w' := by
  have h := Reckon_r [43] (intV 9223372036854775807) (intV 1) (okI (by decide) (by decide)) (okI (by decide) (by decide)) w
  rwa [show reckonV [43] (intV 9223372036854775807) (intV 1) = (nullV, 7) by kernel_rfl] at h
theorem one_half : textF 4609434218613702656 = [51, 112, 45, 49] := by
  have h1 : od (mant0 (rung 4609434218613702656)) = 3 ∧ v2 (mant0 (rung 4609434218613702656)) = 51 := by
    rw [show mant0 (rung 4609434218613702656) = 3 * 2 ^ 51 by decide +kernel]
    exact ⟨(od_unique (by decide)).2, (od_unique (by decide)).1⟩
  rw [text_num (by decide) (by decide) (by decide), h1.1, h1.2]
  decide +kernel
theorem sh3 (w : World) (hL : Lb w) : Ret Tryz.prog 14 [(fltV 4609434218613702656).enc] w fun v w' => v = .tuple #[str [51, 112, 45, 49], .int .i64 0] ∧ Below w.heap.size w w' := by
  have h := VText_r [] (fltV 4609434218613702656) (okF (by decide)) w hL (fun _ h => by exact absurd (show (3 : Int) = 4 from h) (by decide))
  have e1 : ¬ rightV (fltV 4609434218613702656) = false := by decide +kernel
  have e2 : ¬ (fltV 4609434218613702656).k = 1 := by decide
  have e3 : ¬ (fltV 4609434218613702656).k = 2 := by decide
  have e4 : (fltV 4609434218613702656).k = 3 := rfl
  rwa [show textV [] (fltV 4609434218613702656) = ([51, 112, 45, 49], 0) by
    unfold textV
    rw [if_neg e1, if_neg e2, if_neg e3, if_pos e4, show (fltV 4609434218613702656).f = 4609434218613702656 from rfl, one_half]] at h
theorem callees4 : Callees (fun _ => none) (fun _ => ([], 0)) [45, 49, 50, 32, 120] where
  unq := fun h => by exact absurd h (by decide)
  word := fun x hx h => by
    simp only [words3, List.mem_cons, List.not_mem_nil, or_false] at hx
    rcases hx with rfl | rfl | rfl
    · exact absurd h (by decide)
    · exact absurd h (by decide)
    · exact absurd h (by decide)
  prs := fun e he => by
    have h := List.mem_of_mem_take he
    simp at h
theorem sh4 (w : World) (hL : Lb w) : Ret Tryz.prog 16 [str [45, 49, 50, 32, 120]] w fun v w' => v = .tuple #[(intV (-12)).enc, .int .i64 3, .bool true] ∧ Below w.heap.size w w' := by
  have h := Read_r (fun _ => none) (fun _ => ([], 0)) [45, 49, 50, 32, 120] (by decide) callees4 w hL
  rwa [show readV (fun _ => none) (fun _ => ([], 0)) [45, 49, 50, 32, 120] = some (intV (-12), 3) by kernel_rfl] at h
theorem sh5 (w : World) : Ret Tryz.prog 27 [str [60, 62], (fltV 9221120237041090561).enc, (fltV 9221120237041090561).enc] w fun v w' => v = .tuple #[(truthV true).enc, .int .i64 0] ∧ Below w.heap.size w w' := by
  have h := Test_r [60, 62] (fltV 9221120237041090561) (fltV 9221120237041090561) (okF (by decide)) (okF (by decide)) w
  rwa [show testV [60, 62] (fltV 9221120237041090561) (fltV 9221120237041090561) = (truthV true, 0) by kernel_rfl] at h
theorem sh6 (w : World) : Ret Tryz.prog 19 [(intV 3).enc] w fun v w' => v = .bool true ∧ Below w.heap.size w w' := by
  have h := Right_r (intV 3) (okI (by decide) (by decide)) w
  rwa [show rightV (intV 3) = true by decide +kernel] at h
theorem shown_r (w : World) (hL : Lb w) : Ret Tryz.prog 12 [] w fun v w' => v = .bool true ∧ Below w.heap.size w w' := by
  have hb := Below.refl w.heap.size w
  have hL_hb := hL
  refine enter Tryz.func12 rfl rfl rfl ?_
  refine Wc.seq fun _ hK_1 => ?_
  refine Wc.region ?_
  refine Wl.y (y_assign rfl) rfl ?_
  refine Wl.nil ?_
  refine Wq.next hK_1 ?_
  refine Wc.seq fun _ hK_3 => ?_
  refine Wc.region ?_
  refine Wl.call txt28Shown rfl rfl (whole_mk _ _) rfl ?_
  rintro _ w_k0 ⟨rfl, hs_k0⟩
  have hz_k0 := hs_k0.size
  have hb := hb.trans (hs_k0.mono hb.size)
  have hL := hL_hb.below hb
  refine Wl.call txt29Shown rfl rfl (float_mk _ _) rfl ?_
  rintro _ w_k1 ⟨rfl, hs_k1⟩
  have hz_k1 := hs_k1.size
  have hb := hb.trans (hs_k1.mono hb.size)
  have hL := hL_hb.below hb
  refine Wl.call txt27Shown rfl rfl (sh1 _) rfl ?_
  rintro _ w_k2 ⟨rfl, hs_k2⟩
  have hz_k2 := hs_k2.size
  have hb := hb.trans (hs_k2.mono hb.size)
  have hL := hL_hb.below hb
  refine Wl.y (y_move rfl) rfl ?_
  refine Wl.y (y_extract rfl rfl) rfl ?_
  refine Wl.y (y_extract rfl rfl) rfl ?_
  refine Wl.allocN (z := (.agg #[(.int .i64 0), (.int .i64 0), (.float .f64 0), (str [])])) (by kernel_rfl) rfl ?_
  rintro g_o4 w_o4 hg_o4 hn_o4 hs_o4
  have hz_o4 := hs_o4.size
  have hb := hb.trans (hs_o4.mono hb.size)
  have hL := hL_hb.below hb
  have hB_o4 := hn_o4
  have hl_o4 := hB_o4.lt
  refine Wl.storeS (by kernel_rfl) rfl rfl hB_o4 rfl rfl ?_
  rintro w_s0 hn_s0 hg_s0
  have hz_s0 := hg_s0.size
  have hb := below_blk hb hg_s0 hb.size (by omega)
  have hL := hL_hb.below hb
  have hB_o4 := hn_s0
  refine Wl.y (y_assign rfl) rfl ?_
  refine Wl.nil ?_
  refine Wq.next hK_3 ?_
  refine Wc.seq fun _ hK_12 => ?_
  refine Wc.region ?_
  refine Wl.call txt28Shown rfl rfl (whole_mk _ _) rfl ?_
  rintro _ w_k3 ⟨rfl, hs_k3⟩
  have hz_k3 := hs_k3.size
  have hb := hb.trans (hs_k3.mono hb.size)
  have hL := hL_hb.below hb
  try have hB_o4 := Blk.below hB_o4 hs_k3
  refine Wl.call txt28Shown rfl rfl (whole_mk _ _) rfl ?_
  rintro _ w_k4 ⟨rfl, hs_k4⟩
  have hz_k4 := hs_k4.size
  have hb := hb.trans (hs_k4.mono hb.size)
  have hL := hL_hb.below hb
  try have hB_o4 := Blk.below hB_o4 hs_k4
  refine Wl.call txt30Shown rfl rfl (sh2 _) rfl ?_
  rintro _ w_k5 ⟨rfl, hs_k5⟩
  have hz_k5 := hs_k5.size
  have hb := hb.trans (hs_k5.mono hb.size)
  have hL := hL_hb.below hb
  try have hB_o4 := Blk.below hB_o4 hs_k5
  refine Wl.y (y_move rfl) rfl ?_
  refine Wl.y (y_extract rfl rfl) rfl ?_
  refine Wl.y (y_extract rfl rfl) rfl ?_
  refine Wl.allocN (z := (.agg #[(.int .i64 0), (.int .i64 0), (.float .f64 0), (str [])])) (by kernel_rfl) rfl ?_
  rintro g_o9 w_o9 hg_o9 hn_o9 hs_o9
  have hz_o9 := hs_o9.size
  have hb := hb.trans (hs_o9.mono hb.size)
  have hL := hL_hb.below hb
  try have hB_o4 := Blk.below hB_o4 hs_o9
  have hB_o9 := hn_o9
  have hl_o9 := hB_o9.lt
  refine Wl.storeS (by kernel_rfl) rfl rfl hB_o9 rfl rfl ?_
  rintro w_s1 hn_s1 hg_s1
  have hz_s1 := hg_s1.size
  have hb := below_blk hb hg_s1 hb.size (by omega)
  have hL := hL_hb.below hb
  try have hB_o4 := hB_o4.over hg_s1 (by omega)
  have hB_o9 := hn_s1
  refine Wl.y (y_assign rfl) rfl ?_
  refine Wl.nil ?_
  refine Wq.next hK_12 ?_
  refine Wc.seq fun _ hK_21 => ?_
  refine Wc.region ?_
  refine Wl.call txt29Shown rfl rfl (float_mk _ _) rfl ?_
  rintro _ w_k6 ⟨rfl, hs_k6⟩
  have hz_k6 := hs_k6.size
  have hb := hb.trans (hs_k6.mono hb.size)
  have hL := hL_hb.below hb
  try have hB_o4 := Blk.below hB_o4 hs_k6
  try have hB_o9 := Blk.below hB_o9 hs_k6
  refine Wl.call txt14Shown rfl rfl (sh3 _ hL) rfl ?_
  rintro _ w_k7 ⟨rfl, hs_k7⟩
  have hz_k7 := hs_k7.size
  have hb := hb.trans (hs_k7.mono hb.size)
  have hL := hL_hb.below hb
  try have hB_o4 := Blk.below hB_o4 hs_k7
  try have hB_o9 := Blk.below hB_o9 hs_k7
  refine Wl.y (y_move rfl) rfl ?_
  refine Wl.y (y_extract rfl rfl) rfl ?_
  refine Wl.y (y_extract rfl rfl) rfl ?_
  refine Wl.y (y_assign rfl) rfl ?_
  refine Wl.y (y_assign rfl) rfl ?_
  refine Wl.nil ?_
  refine Wq.next hK_21 ?_
  refine Wc.seq fun _ hK_29 => ?_
  refine Wc.region ?_
  refine Wl.call txt16Shown rfl rfl (sh4 _ hL) rfl ?_
  rintro _ w_k8 ⟨rfl, hs_k8⟩
  have hz_k8 := hs_k8.size
  have hb := hb.trans (hs_k8.mono hb.size)
  have hL := hL_hb.below hb
  try have hB_o4 := Blk.below hB_o4 hs_k8
  try have hB_o9 := Blk.below hB_o9 hs_k8
  refine Wl.y (y_move rfl) rfl ?_
  refine Wl.y (y_extract rfl rfl) rfl ?_
  refine Wl.y (y_extract rfl rfl) rfl ?_
  refine Wl.y (y_extract rfl rfl) rfl ?_
  refine Wl.allocN (z := (.agg #[(.int .i64 0), (.int .i64 0), (.float .f64 0), (str [])])) (by kernel_rfl) rfl ?_
  rintro g_o20 w_o20 hg_o20 hn_o20 hs_o20
  have hz_o20 := hs_o20.size
  have hb := hb.trans (hs_o20.mono hb.size)
  have hL := hL_hb.below hb
  try have hB_o4 := Blk.below hB_o4 hs_o20
  try have hB_o9 := Blk.below hB_o9 hs_o20
  have hB_o20 := hn_o20
  have hl_o20 := hB_o20.lt
  refine Wl.storeS (by kernel_rfl) rfl rfl hB_o20 rfl rfl ?_
  rintro w_s2 hn_s2 hg_s2
  have hz_s2 := hg_s2.size
  have hb := below_blk hb hg_s2 hb.size (by omega)
  have hL := hL_hb.below hb
  try have hB_o4 := hB_o4.over hg_s2 (by omega)
  try have hB_o9 := hB_o9.over hg_s2 (by omega)
  have hB_o20 := hn_s2
  refine Wl.y (y_assign rfl) rfl ?_
  refine Wl.y (y_assign rfl) rfl ?_
  refine Wl.nil ?_
  refine Wq.next hK_29 ?_
  refine Wc.seq fun _ hK_38 => ?_
  refine Wc.region ?_
  refine Wl.call txt31Shown rfl rfl (NaN_r _) rfl ?_
  rintro _ w_ ⟨rfl, hw_⟩
  have hw_ := hw_.symm; subst hw_
  refine Wl.call txt29Shown rfl rfl (float_mk _ _) rfl ?_
  rintro _ w_k10 ⟨rfl, hs_k10⟩
  have hz_k10 := hs_k10.size
  have hb := hb.trans (hs_k10.mono hb.size)
  have hL := hL_hb.below hb
  try have hB_o4 := Blk.below hB_o4 hs_k10
  try have hB_o9 := Blk.below hB_o9 hs_k10
  try have hB_o20 := Blk.below hB_o20 hs_k10
  refine Wl.call txt31Shown rfl rfl (NaN_r _) rfl ?_
  rintro _ w_ ⟨rfl, hw_⟩
  have hw_ := hw_.symm; subst hw_
  refine Wl.call txt29Shown rfl rfl (float_mk _ _) rfl ?_
  rintro _ w_k12 ⟨rfl, hs_k12⟩
  have hz_k12 := hs_k12.size
  have hb := hb.trans (hs_k12.mono hb.size)
  have hL := hL_hb.below hb
  try have hB_o4 := Blk.below hB_o4 hs_k12
  try have hB_o9 := Blk.below hB_o9 hs_k12
  try have hB_o20 := Blk.below hB_o20 hs_k12
  refine Wl.call txt27Shown rfl rfl (sh5 _) rfl ?_
  rintro _ w_k13 ⟨rfl, hs_k13⟩
  have hz_k13 := hs_k13.size
  have hb := hb.trans (hs_k13.mono hb.size)
  have hL := hL_hb.below hb
  try have hB_o4 := Blk.below hB_o4 hs_k13
  try have hB_o9 := Blk.below hB_o9 hs_k13
  try have hB_o20 := Blk.below hB_o20 hs_k13
  refine Wl.y (y_move rfl) rfl ?_
  refine Wl.y (y_extract rfl rfl) rfl ?_
  refine Wl.y (y_extract rfl rfl) rfl ?_
  refine Wl.allocN (z := (.agg #[(.int .i64 0), (.int .i64 0), (.float .f64 0), (str [])])) (by kernel_rfl) rfl ?_
  rintro g_o26 w_o26 hg_o26 hn_o26 hs_o26
  have hz_o26 := hs_o26.size
  have hb := hb.trans (hs_o26.mono hb.size)
  have hL := hL_hb.below hb
  try have hB_o4 := Blk.below hB_o4 hs_o26
  try have hB_o9 := Blk.below hB_o9 hs_o26
  try have hB_o20 := Blk.below hB_o20 hs_o26
  have hB_o26 := hn_o26
  have hl_o26 := hB_o26.lt
  refine Wl.storeS (by kernel_rfl) rfl rfl hB_o26 rfl rfl ?_
  rintro w_s3 hn_s3 hg_s3
  have hz_s3 := hg_s3.size
  have hb := below_blk hb hg_s3 hb.size (by omega)
  have hL := hL_hb.below hb
  try have hB_o4 := hB_o4.over hg_s3 (by omega)
  try have hB_o9 := hB_o9.over hg_s3 (by omega)
  try have hB_o20 := hB_o20.over hg_s3 (by omega)
  have hB_o26 := hn_s3
  refine Wl.y (y_assign rfl) rfl ?_
  refine Wl.nil ?_
  refine Wq.next hK_38 ?_
  refine Wc.seq fun _ hK_49 => ?_
  refine Wc.region ?_
  refine Wl.y (y_fieldAddr (fa28_0Shown _) rfl) rfl ?_
  refine Wl.l (l_load one3Shown rfl (by first | exact hB_o4.at rfl | exact hB_o9.at rfl | exact hB_o20.at rfl | exact hB_o26.at rfl | exact hB_o4.cell 0 | exact hB_o9.cell 0 | exact hB_o20.cell 0 | exact hB_o26.cell 0 | assumption)) rfl ?_
  refine Wl.y (y_eqli rfl rfl) rfl ?_
  refine Wl.y (y_move rfl) rfl ?_
  refine Wl.guardT rfl rfl rfl (fun g_54 => ?_) (fun g_54 => ?_)
  ·
   have g_54_ := g_54
   try simp only [decide_eq_true_eq, decide_eq_false_iff_not, beq_iff_eq, beq_eq_false_iff_ne, bne_iff_ne, bne_eq_false_iff_eq, Bool.not_eq_true', Bool.not_eq_false', Bool.not_eq_eq_eq_not, Bool.not_true, Bool.not_false, ne_eq, Int.not_lt, Int.not_le] at g_54
   refine Wl.y (y_fieldAddr (fa28_1Shown _) rfl) rfl ?_
   refine Wl.on' rfl rfl g_54_ ?_
   refine Wl.l (l_load one2Shown rfl (by first | exact hB_o4.at rfl | exact hB_o9.at rfl | exact hB_o20.at rfl | exact hB_o26.at rfl | exact hB_o4.cell 0 | exact hB_o9.cell 0 | exact hB_o20.cell 0 | exact hB_o26.cell 0 | assumption)) rfl ?_
   refine Wl.on' rfl rfl g_54_ ?_
   refine Wl.y (y_eqli rfl rfl) rfl ?_
   refine Wl.y (y_pickT rfl g_54_ rfl) rfl ?_
   refine Wl.y (y_move rfl) rfl ?_
   refine Wl.guardT rfl rfl rfl (fun g_60 => ?_) (fun g_60 => ?_)
   ·
    have g_60_ := g_60
    try simp only [decide_eq_true_eq, decide_eq_false_iff_not, beq_iff_eq, beq_eq_false_iff_ne, bne_iff_ne, bne_eq_false_iff_eq, Bool.not_eq_true', Bool.not_eq_false', Bool.not_eq_eq_eq_not, Bool.not_true, Bool.not_false, ne_eq, Int.not_lt, Int.not_le] at g_60
    refine Wl.y (y_move rfl) rfl ?_
    refine Wl.on' rfl rfl g_60_ ?_
    refine Wl.y (y_eqli rfl rfl) rfl ?_
    refine Wl.y (y_pickT rfl g_60_ rfl) rfl ?_
    refine Wl.y (y_move rfl) rfl ?_
    refine Wl.guardT rfl rfl rfl (fun g_65 => ?_) (fun g_65 => ?_)
    ·
     have g_65_ := g_65
     try simp only [decide_eq_true_eq, decide_eq_false_iff_not, beq_iff_eq, beq_eq_false_iff_ne, bne_iff_ne, bne_eq_false_iff_eq, Bool.not_eq_true', Bool.not_eq_false', Bool.not_eq_eq_eq_not, Bool.not_true, Bool.not_false, ne_eq, Int.not_lt, Int.not_le] at g_65
     refine Wl.y (y_move rfl) rfl ?_
     refine Wl.on' rfl rfl g_65_ ?_
     refine Wl.y (y_eqli rfl rfl) rfl ?_
     refine Wl.y (y_pickT rfl g_65_ rfl) rfl ?_
     refine Wl.y (y_move rfl) rfl ?_
     refine Wl.guardT rfl rfl rfl (fun g_70 => ?_) (fun g_70 => ?_)
     ·
      have g_70_ := g_70
      try simp only [decide_eq_true_eq, decide_eq_false_iff_not, beq_iff_eq, beq_eq_false_iff_ne, bne_iff_ne, bne_eq_false_iff_eq, Bool.not_eq_true', Bool.not_eq_false', Bool.not_eq_eq_eq_not, Bool.not_true, Bool.not_false, ne_eq, Int.not_lt, Int.not_le] at g_70
      refine Wl.y (y_move rfl) rfl ?_
      refine Wl.on' rfl rfl g_70_ ?_
      refine Wl.y (y_eqls rfl rfl) rfl ?_
      refine Wl.y (y_pickT rfl g_70_ rfl) rfl ?_
      refine Wl.y (y_move rfl) rfl ?_
      refine Wl.guardT rfl rfl rfl (fun g_75 => ?_) (fun g_75 => ?_)
      ·
       have g_75_ := g_75
       try simp only [decide_eq_true_eq, decide_eq_false_iff_not, beq_iff_eq, beq_eq_false_iff_ne, bne_iff_ne, bne_eq_false_iff_eq, Bool.not_eq_true', Bool.not_eq_false', Bool.not_eq_eq_eq_not, Bool.not_true, Bool.not_false, ne_eq, Int.not_lt, Int.not_le] at g_75
       refine Wl.y (y_move rfl) rfl ?_
       refine Wl.on' rfl rfl g_75_ ?_
       refine Wl.y (y_eqli rfl rfl) rfl ?_
       refine Wl.y (y_pickT rfl g_75_ rfl) rfl ?_
       refine Wl.y (y_move rfl) rfl ?_
       refine Wl.guardT rfl rfl rfl (fun g_80 => ?_) (fun g_80 => ?_)
       ·
        have g_80_ := g_80
        try simp only [decide_eq_true_eq, decide_eq_false_iff_not, beq_iff_eq, beq_eq_false_iff_ne, bne_iff_ne, bne_eq_false_iff_eq, Bool.not_eq_true', Bool.not_eq_false', Bool.not_eq_eq_eq_not, Bool.not_true, Bool.not_false, ne_eq, Int.not_lt, Int.not_le] at g_80
        refine Wl.y (y_fieldAddr (fa28_1Shown _) rfl) rfl ?_
        refine Wl.on' rfl rfl g_80_ ?_
        refine Wl.l (l_load one2Shown rfl (by first | exact hB_o4.at rfl | exact hB_o9.at rfl | exact hB_o20.at rfl | exact hB_o26.at rfl | exact hB_o4.cell 0 | exact hB_o9.cell 0 | exact hB_o20.cell 0 | exact hB_o26.cell 0 | assumption)) rfl ?_
        refine Wl.on' rfl rfl g_80_ ?_
        refine Wl.y (y_eqli rfl rfl) rfl ?_
        refine Wl.y (y_pickT rfl g_80_ rfl) rfl ?_
        refine Wl.y (y_move rfl) rfl ?_
        refine Wl.guardT rfl rfl rfl (fun g_86 => ?_) (fun g_86 => ?_)
        ·
         have g_86_ := g_86
         try simp only [decide_eq_true_eq, decide_eq_false_iff_not, beq_iff_eq, beq_eq_false_iff_ne, bne_iff_ne, bne_eq_false_iff_eq, Bool.not_eq_true', Bool.not_eq_false', Bool.not_eq_eq_eq_not, Bool.not_true, Bool.not_false, ne_eq, Int.not_lt, Int.not_le] at g_86
         refine Wl.y (y_move rfl) rfl ?_
         refine Wl.on' rfl rfl g_86_ ?_
         refine Wl.y (y_eqli rfl rfl) rfl ?_
         refine Wl.y (y_pickT rfl g_86_ rfl) rfl ?_
         refine Wl.y (y_move rfl) rfl ?_
         refine Wl.guardT rfl rfl rfl (fun g_91 => ?_) (fun g_91 => ?_)
         ·
          have g_91_ := g_91
          try simp only [decide_eq_true_eq, decide_eq_false_iff_not, beq_iff_eq, beq_eq_false_iff_ne, bne_iff_ne, bne_eq_false_iff_eq, Bool.not_eq_true', Bool.not_eq_false', Bool.not_eq_eq_eq_not, Bool.not_true, Bool.not_false, ne_eq, Int.not_lt, Int.not_le] at g_91
          refine Wl.y (y_move rfl) rfl ?_
          refine Wl.y (y_pickT rfl g_91_ rfl) rfl ?_
          refine Wl.y (y_move rfl) rfl ?_
          refine Wl.guardT rfl rfl rfl (fun g_95 => ?_) (fun g_95 => ?_)
          ·
           have g_95_ := g_95
           try simp only [decide_eq_true_eq, decide_eq_false_iff_not, beq_iff_eq, beq_eq_false_iff_ne, bne_iff_ne, bne_eq_false_iff_eq, Bool.not_eq_true', Bool.not_eq_false', Bool.not_eq_eq_eq_not, Bool.not_true, Bool.not_false, ne_eq, Int.not_lt, Int.not_le] at g_95
           refine Wl.y (y_fieldAddr (fa28_1Shown _) rfl) rfl ?_
           refine Wl.on' rfl rfl g_95_ ?_
           refine Wl.l (l_load one2Shown rfl (by first | exact hB_o4.at rfl | exact hB_o9.at rfl | exact hB_o20.at rfl | exact hB_o26.at rfl | exact hB_o4.cell 0 | exact hB_o9.cell 0 | exact hB_o20.cell 0 | exact hB_o26.cell 0 | assumption)) rfl ?_
           refine Wl.on' rfl rfl g_95_ ?_
           refine Wl.y (y_eqli rfl rfl) rfl ?_
           refine Wl.y (y_pickT rfl g_95_ rfl) rfl ?_
           refine Wl.y (y_move rfl) rfl ?_
           refine Wl.guardT rfl rfl rfl (fun g_101 => ?_) (fun g_101 => ?_)
           ·
            have g_101_ := g_101
            try simp only [decide_eq_true_eq, decide_eq_false_iff_not, beq_iff_eq, beq_eq_false_iff_ne, bne_iff_ne, bne_eq_false_iff_eq, Bool.not_eq_true', Bool.not_eq_false', Bool.not_eq_eq_eq_not, Bool.not_true, Bool.not_false, ne_eq, Int.not_lt, Int.not_le] at g_101
            refine Wl.y (y_move rfl) rfl ?_
            refine Wl.on' rfl rfl g_101_ ?_
            refine Wl.y (y_eqli rfl rfl) rfl ?_
            refine Wl.y (y_pickT rfl g_101_ rfl) rfl ?_
            refine Wl.y (y_move rfl) rfl ?_
            refine Wl.guardT rfl rfl rfl (fun g_106 => ?_) (fun g_106 => ?_)
            ·
             have g_106_ := g_106
             try simp only [decide_eq_true_eq, decide_eq_false_iff_not, beq_iff_eq, beq_eq_false_iff_ne, bne_iff_ne, bne_eq_false_iff_eq, Bool.not_eq_true', Bool.not_eq_false', Bool.not_eq_eq_eq_not, Bool.not_true, Bool.not_false, ne_eq, Int.not_lt, Int.not_le] at g_106
             refine Wl.call txt28Shown rfl rfl (whole_mk _ _) rfl ?_
             rintro _ w_k14 ⟨rfl, hs_k14⟩
             have hz_k14 := hs_k14.size
             have hb := hb.trans (hs_k14.mono hb.size)
             have hL := hL_hb.below hb
             refine Wl.on' rfl rfl g_106_ ?_
             refine Wl.call txt19Shown rfl rfl (sh6 _) rfl ?_
             rintro _ w_k15 ⟨rfl, hs_k15⟩
             have hz_k15 := hs_k15.size
             have hb := hb.trans (hs_k15.mono hb.size)
             have hL := hL_hb.below hb
             refine Wl.y (y_pickT rfl g_106_ rfl) rfl ?_
             refine Wl.y (y_assign rfl) rfl ?_
             refine Wl.nil ?_
             refine Wq.next hK_49 ?_
             refine Wc.ret ?_
             refine ret1 rfl rfl ?_
             exact ⟨_, rfl, rfl, hb⟩
            ·
             have g_106_ := g_106
             try simp only [decide_eq_true_eq, decide_eq_false_iff_not, beq_iff_eq, beq_eq_false_iff_ne, bne_iff_ne, bne_eq_false_iff_eq, Bool.not_eq_true', Bool.not_eq_false', Bool.not_eq_eq_eq_not, Bool.not_true, Bool.not_false, ne_eq, Int.not_lt, Int.not_le] at g_106
             exact absurd g_106_ (by decide)
           ·
            have g_101_ := g_101
            try simp only [decide_eq_true_eq, decide_eq_false_iff_not, beq_iff_eq, beq_eq_false_iff_ne, bne_iff_ne, bne_eq_false_iff_eq, Bool.not_eq_true', Bool.not_eq_false', Bool.not_eq_eq_eq_not, Bool.not_true, Bool.not_false, ne_eq, Int.not_lt, Int.not_le] at g_101
            exact absurd g_101_ (by decide)
          ·
           have g_95_ := g_95
           try simp only [decide_eq_true_eq, decide_eq_false_iff_not, beq_iff_eq, beq_eq_false_iff_ne, bne_iff_ne, bne_eq_false_iff_eq, Bool.not_eq_true', Bool.not_eq_false', Bool.not_eq_eq_eq_not, Bool.not_true, Bool.not_false, ne_eq, Int.not_lt, Int.not_le] at g_95
           exact absurd g_95_ (by decide)
         ·
          have g_91_ := g_91
          try simp only [decide_eq_true_eq, decide_eq_false_iff_not, beq_iff_eq, beq_eq_false_iff_ne, bne_iff_ne, bne_eq_false_iff_eq, Bool.not_eq_true', Bool.not_eq_false', Bool.not_eq_eq_eq_not, Bool.not_true, Bool.not_false, ne_eq, Int.not_lt, Int.not_le] at g_91
          exact absurd g_91_ (by decide)
        ·
         have g_86_ := g_86
         try simp only [decide_eq_true_eq, decide_eq_false_iff_not, beq_iff_eq, beq_eq_false_iff_ne, bne_iff_ne, bne_eq_false_iff_eq, Bool.not_eq_true', Bool.not_eq_false', Bool.not_eq_eq_eq_not, Bool.not_true, Bool.not_false, ne_eq, Int.not_lt, Int.not_le] at g_86
         exact absurd g_86_ (by decide)
       ·
        have g_80_ := g_80
        try simp only [decide_eq_true_eq, decide_eq_false_iff_not, beq_iff_eq, beq_eq_false_iff_ne, bne_iff_ne, bne_eq_false_iff_eq, Bool.not_eq_true', Bool.not_eq_false', Bool.not_eq_eq_eq_not, Bool.not_true, Bool.not_false, ne_eq, Int.not_lt, Int.not_le] at g_80
        exact absurd g_80_ (by decide)
      ·
       have g_75_ := g_75
       try simp only [decide_eq_true_eq, decide_eq_false_iff_not, beq_iff_eq, beq_eq_false_iff_ne, bne_iff_ne, bne_eq_false_iff_eq, Bool.not_eq_true', Bool.not_eq_false', Bool.not_eq_eq_eq_not, Bool.not_true, Bool.not_false, ne_eq, Int.not_lt, Int.not_le] at g_75
       exact absurd g_75_ (by decide)
     ·
      have g_70_ := g_70
      try simp only [decide_eq_true_eq, decide_eq_false_iff_not, beq_iff_eq, beq_eq_false_iff_ne, bne_iff_ne, bne_eq_false_iff_eq, Bool.not_eq_true', Bool.not_eq_false', Bool.not_eq_eq_eq_not, Bool.not_true, Bool.not_false, ne_eq, Int.not_lt, Int.not_le] at g_70
      exact absurd g_70_ (by decide)
    ·
     have g_65_ := g_65
     try simp only [decide_eq_true_eq, decide_eq_false_iff_not, beq_iff_eq, beq_eq_false_iff_ne, bne_iff_ne, bne_eq_false_iff_eq, Bool.not_eq_true', Bool.not_eq_false', Bool.not_eq_eq_eq_not, Bool.not_true, Bool.not_false, ne_eq, Int.not_lt, Int.not_le] at g_65
     exact absurd g_65_ (by decide)
   ·
    have g_60_ := g_60
    try simp only [decide_eq_true_eq, decide_eq_false_iff_not, beq_iff_eq, beq_eq_false_iff_ne, bne_iff_ne, bne_eq_false_iff_eq, Bool.not_eq_true', Bool.not_eq_false', Bool.not_eq_eq_eq_not, Bool.not_true, Bool.not_false, ne_eq, Int.not_lt, Int.not_le] at g_60
    exact absurd g_60_ (by decide)
  ·
   have g_54_ := g_54
   try simp only [decide_eq_true_eq, decide_eq_false_iff_not, beq_iff_eq, beq_eq_false_iff_ne, bne_iff_ne, bne_eq_false_iff_eq, Bool.not_eq_true', Bool.not_eq_false', Bool.not_eq_eq_eq_not, Bool.not_true, Bool.not_false, ne_eq, Int.not_lt, Int.not_le] at g_54
   exact absurd g_54_ (by decide)
end Go.Proofs.YtcljmclolpgdmaaGreatDoor
