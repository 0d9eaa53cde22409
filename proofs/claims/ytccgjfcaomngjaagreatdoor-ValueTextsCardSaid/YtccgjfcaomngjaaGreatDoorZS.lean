/- What each statement about values begins with, by the calculus. · The raw value of a statement about values, and what it is. -/
import Derived.Test.YtccgjfcaomngjaaGreatDoorZH
import Derived.Test.YtccgjfcaomngjaaGreatDoorZV
namespace Go.Proofs.YtccgjfcaomngjaaGreatDoor
open Go.RowKit Go.Bw Go.Bw.Fl Go.Shelf
set_option linter.unusedVariables false
set_option linter.unusedSimpArgs false
theorem fa28_0Shown (p : Addr) (w : World) : (Instr.fieldAt 28 (.pointer (some p)) 0).run Tryz.prog w = .ok (.pointer (some (p.add 0))) w := run_fieldAt (i := 0) (sz := 0) Tryz.underlying28 rfl (by kernel_rfl) p w
theorem fa28_1Shown (p : Addr) (w : World) : (Instr.fieldAt 28 (.pointer (some p)) 1).run Tryz.prog w = .ok (.pointer (some (p.add 1))) w := run_fieldAt (i := 1) (sz := 0) Tryz.underlying28 rfl (by kernel_rfl) p w
theorem one2Shown : One Tryz.prog 2 := ⟨_, Tryz.underlying2, rfl, by kernel_rfl⟩
theorem one3Shown : One Tryz.prog 3 := ⟨_, Tryz.underlying3, rfl, by kernel_rfl⟩
theorem txt16Shown : Txt Tryz.prog 16 := ⟨_, Tryz.func16, by kernel_rfl, rfl⟩   -- bridleway/value.Text
theorem txt18Shown : Txt Tryz.prog 18 := ⟨_, Tryz.func18, by kernel_rfl, rfl⟩   -- bridleway/value.Read
theorem txt38Shown : Txt Tryz.prog 38 := ⟨_, Tryz.func38, by kernel_rfl, rfl⟩   -- bridleway/value.Test
theorem txt39Shown : Txt Tryz.prog 39 := ⟨_, Tryz.func39, by kernel_rfl, rfl⟩   -- bridleway/bridlewaylaw02.whole
theorem txt40Shown : Txt Tryz.prog 40 := ⟨_, Tryz.func40, by kernel_rfl, rfl⟩   -- bridleway/bridlewaylaw02.float
theorem txt41Shown : Txt Tryz.prog 41 := ⟨_, Tryz.func41, by kernel_rfl, rfl⟩   -- bridleway/value.Reckon
theorem txt42Shown : Txt Tryz.prog 42 := ⟨_, Tryz.func42, by kernel_rfl, rfl⟩   -- math.NaN
theorem txt43Shown : Txt Tryz.prog 43 := ⟨_, Tryz.func43, by kernel_rfl, rfl⟩   -- bridleway/value.Right
def intV (n : Int) : Val := ⟨2, n, 0, []⟩
def fltV (b : Nat) : Val := ⟨3, 0, b, []⟩
theorem whole_mk (n : Int) (w : World) : Ret Tryz.prog 39 [.int .i64 n] w fun v w' => v = (intV n).enc ∧ Below w.heap.size w w' := by
  have hb := Below.refl w.heap.size w
  refine enter Tryz.func39 rfl rfl rfl ?_
  refine Wc.seq fun _ hK_1 => Wc.region ?_
  refine Wl.allocN (z := (.agg #[(.int .i64 0), (.int .i64 0), (.float .f64 0), (str [])])) (by kernel_rfl) rfl ?_
  rintro g_o0 w_o0 hg_o0 hn_o0 hs_o0
  have hz_o0 := hs_o0.size
  have hb := hb.trans (hs_o0.mono hb.size)
  have hB_o0 := hn_o0
  have hl_o0 := hB_o0.lt
  refine Wl.nil <| Wq.next hK_1 <| Wc.seq fun _ hK_3 => Wc.region <| Wl.mv rfl rfl ?_
  refine Wl.y (y_buildS (z := [(.int .i64 0), (.int .i64 0), (.float .f64 0), (str [])]) (pl := [(0, 1), (1, 1), (2, 1), (3, 1)]) (cs := [_, _, _, _]) Tryz.underlying28 (by kernel_rfl) (by kernel_rfl) rfl rfl rfl) rfl ?_
  refine Wl.storeS (by kernel_rfl) rfl rfl hB_o0 rfl rfl ?_
  rintro w_s0 hn_s0 hg_s0
  have hz_s0 := hg_s0.size
  have hb := below_blk hb hg_s0 hb.size (by omega)
  have hB_o0 := hn_s0
  refine Wl.nil <| Wq.next hK_3 <| Wc.ret ?_
  refine retN (rs := [.cell 2 28]) (vs := [_]) rfl (.cell rfl (loadS Tryz.underlying28 (by kernel_rfl) (fun j u hu => hB_o0.at hu)) .nil) ?_
  exact ⟨_, rfl, rfl, hb⟩
theorem float_mk (b : Nat) (w : World) : Ret Tryz.prog 40 [.float .f64 b] w fun v w' => v = (fltV b).enc ∧ Below w.heap.size w w' := by
  have hb := Below.refl w.heap.size w
  refine enter Tryz.func40 rfl rfl rfl ?_
  refine Wc.seq fun _ hK_1 => Wc.region ?_
  refine Wl.allocN (z := (.agg #[(.int .i64 0), (.int .i64 0), (.float .f64 0), (str [])])) (by kernel_rfl) rfl ?_
  rintro g_o0 w_o0 hg_o0 hn_o0 hs_o0
  have hz_o0 := hs_o0.size
  have hb := hb.trans (hs_o0.mono hb.size)
  have hB_o0 := hn_o0
  have hl_o0 := hB_o0.lt
  refine Wl.nil <| Wq.next hK_1 <| Wc.seq fun _ hK_3 => Wc.region <| Wl.mv rfl rfl ?_
  refine Wl.y (y_buildS (z := [(.int .i64 0), (.int .i64 0), (.float .f64 0), (str [])]) (pl := [(0, 1), (1, 1), (2, 1), (3, 1)]) (cs := [_, _, _, _]) Tryz.underlying28 (by kernel_rfl) (by kernel_rfl) rfl rfl rfl) rfl ?_
  refine Wl.storeS (by kernel_rfl) rfl rfl hB_o0 rfl rfl ?_
  rintro w_s0 hn_s0 hg_s0
  have hz_s0 := hg_s0.size
  have hb := below_blk hb hg_s0 hb.size (by omega)
  have hB_o0 := hn_s0
  refine Wl.nil <| Wq.next hK_3 <| Wc.ret ?_
  refine retN (rs := [.cell 2 28]) (vs := [_]) rfl (.cell rfl (loadS Tryz.underlying28 (by kernel_rfl) (fun j u hu => hB_o0.at hu)) .nil) ?_
  exact ⟨_, rfl, rfl, hb⟩
theorem okI {n : Int} (h0 : -9223372036854775808 ≤ n) (h1 : n ≤ 9223372036854775807) : (intV n).Ok := ⟨h0, h1, show (0 : Nat) < 18446744073709551616 by decide⟩
theorem okF {b : Nat} (h : b < 18446744073709551616) : (fltV b).Ok := ⟨show (-9223372036854775808 : Int) ≤ 0 by decide, show (0 : Int) ≤ 9223372036854775807 by decide, h⟩
theorem sh1 (w : World) : Ret Tryz.prog 38 [str [61], (intV 9007199254740993).enc, (fltV 4845873199050653696).enc] w fun v w' => v = .tuple #[(truthV false).enc, .int .i64 0] ∧ Below w.heap.size w w' := by
  have h := Test_r [61] (intV 9007199254740993) (fltV 4845873199050653696) (okI (by decide) (by decide)) (okF (by decide)) w
  rwa [show testV [61] (intV 9007199254740993) (fltV 4845873199050653696) = (truthV false, 0) by kernel_rfl] at h
theorem sh2 (w : World) : Ret Tryz.prog 41 [str [43], (intV 9223372036854775807).enc, (intV 1).enc] w fun v w' => v = .tuple #[nullV.enc, .int .i64 7] ∧ Below w.heap.size w w' := by
  have h := Reckon_r [43] (intV 9223372036854775807) (intV 1) (okI (by decide) (by decide)) (okI (by decide) (by decide)) w
  rwa [show reckonV [43] (intV 9223372036854775807) (intV 1) = (nullV, 7) by kernel_rfl] at h
theorem one_half : textF 4609434218613702656 = [51, 112, 45, 49] := by
  have h1 : od (mant0 (rung 4609434218613702656)) = 3 ∧ v2 (mant0 (rung 4609434218613702656)) = 51 := by
    rw [show mant0 (rung 4609434218613702656) = 3 * 2 ^ 51 by decide +kernel]
    exact ⟨(od_unique (by decide)).2, (od_unique (by decide)).1⟩
  rw [text_num (by decide) (by decide) (by decide), h1.1, h1.2]
  decide +kernel
theorem sh3 (w : World) (hL : Lb w) : Ret Tryz.prog 16 [(fltV 4609434218613702656).enc] w fun v w' => v = .tuple #[str [51, 112, 45, 49], .int .i64 0] ∧ Below w.heap.size w w' := by
  have h := VText_r [] (fltV 4609434218613702656) (okF (by decide)) w hL (fun _ h => by exact absurd (show (3 : Int) = 4 from h) (by decide))
  have e1 : ¬ rightV (fltV 4609434218613702656) = false := by decide +kernel
  have e2 : ¬ (fltV 4609434218613702656).k = 1 := by decide
  have e3 : ¬ (fltV 4609434218613702656).k = 2 := by decide
  have e4 : (fltV 4609434218613702656).k = 3 := rfl
  rwa [show textV [] (fltV 4609434218613702656) = ([51, 112, 45, 49], 0) by
    unfold textV
    rw [if_neg e1, if_neg e2, if_neg e3, if_pos e4, show (fltV 4609434218613702656).f = 4609434218613702656 from rfl, one_half]] at h
theorem callees4 : Callees (fun _ => none) (fun _ => ([], 0)) [45, 49, 50, 32, 120] where
  unq := fun h => by exact absurd h (by decide)
  word := fun x hx h => by
    simp only [words3, List.mem_cons, List.not_mem_nil, or_false] at hx
    rcases hx with rfl | rfl | rfl
    · exact absurd h (by decide)
    · exact absurd h (by decide)
    · exact absurd h (by decide)
  prs := fun e he => by
    have h := List.mem_of_mem_take he
    simp at h
theorem sh4 (w : World) (hL : Lb w) : Ret Tryz.prog 18 [str [45, 49, 50, 32, 120]] w fun v w' => v = .tuple #[(intV (-12)).enc, .int .i64 3, .bool true] ∧ Below w.heap.size w w' := by
  have h := Read_r (fun _ => none) (fun _ => ([], 0)) [45, 49, 50, 32, 120] (by decide) callees4 w hL
  rwa [show readV (fun _ => none) (fun _ => ([], 0)) [45, 49, 50, 32, 120] = some (intV (-12), 3) by kernel_rfl] at h
theorem sh5 (w : World) : Ret Tryz.prog 38 [str [60, 62], (fltV 9221120237041090561).enc, (fltV 9221120237041090561).enc] w fun v w' => v = .tuple #[(truthV true).enc, .int .i64 0] ∧ Below w.heap.size w w' := by
  have h := Test_r [60, 62] (fltV 9221120237041090561) (fltV 9221120237041090561) (okF (by decide)) (okF (by decide)) w
  rwa [show testV [60, 62] (fltV 9221120237041090561) (fltV 9221120237041090561) = (truthV true, 0) by kernel_rfl] at h
theorem sh6 (w : World) : Ret Tryz.prog 43 [(intV 3).enc] w fun v w' => v = .bool true ∧ Below w.heap.size w w' := by
  have h := Right_r (intV 3) (okI (by decide) (by decide)) w
  rwa [show rightV (intV 3) = true by decide +kernel] at h
theorem shown_r (w : World) (hL : Lb w) : Ret Tryz.prog 14 [] w fun v w' => v = .bool true ∧ Below w.heap.size w w' := by
  have hb := Below.refl w.heap.size w
  have hL_hb := hL
  refine enter Tryz.func14 rfl rfl rfl ?_
  refine Wc.seq fun _ hK_1 => Wc.region <| Wl.sg rfl rfl <| Wl.nil <| Wq.next hK_1 <| Wc.seq fun _ hK_3 => Wc.region ?_
  refine Wl.call txt39Shown rfl rfl (whole_mk _ _) rfl ?_
  rintro _ w_k0 ⟨rfl, hs_k0⟩
  have hz_k0 := hs_k0.size
  have hb := hb.trans (hs_k0.mono hb.size)
  have hL := hL_hb.below hb
  refine Wl.call txt40Shown rfl rfl (float_mk _ _) rfl ?_
  rintro _ w_k1 ⟨rfl, hs_k1⟩
  have hz_k1 := hs_k1.size
  have hb := hb.trans (hs_k1.mono hb.size)
  have hL := hL_hb.below hb
  refine Wl.call txt38Shown rfl rfl (sh1 _) rfl ?_
  rintro _ w_k2 ⟨rfl, hs_k2⟩
  have hz_k2 := hs_k2.size
  have hb := hb.trans (hs_k2.mono hb.size)
  have hL := hL_hb.below hb
  refine Wl.mv rfl rfl <| Wl.y (y_extract rfl rfl) rfl <| Wl.y (y_extract rfl rfl) rfl ?_
  refine Wl.allocN (z := (.agg #[(.int .i64 0), (.int .i64 0), (.float .f64 0), (str [])])) (by kernel_rfl) rfl ?_
  rintro g_o4 w_o4 hg_o4 hn_o4 hs_o4
  have hz_o4 := hs_o4.size
  have hb := hb.trans (hs_o4.mono hb.size)
  have hL := hL_hb.below hb
  have hB_o4 := hn_o4
  have hl_o4 := hB_o4.lt
  refine Wl.storeS (by kernel_rfl) rfl rfl hB_o4 rfl rfl ?_
  rintro w_s0 hn_s0 hg_s0
  have hz_s0 := hg_s0.size
  have hb := below_blk hb hg_s0 hb.size (by omega)
  have hL := hL_hb.below hb
  have hB_o4 := hn_s0
  refine Wl.sg rfl rfl <| Wl.nil <| Wq.next hK_3 <| Wc.seq fun _ hK_12 => Wc.region ?_
  refine Wl.call txt39Shown rfl rfl (whole_mk _ _) rfl ?_
  rintro _ w_k3 ⟨rfl, hs_k3⟩
  have hz_k3 := hs_k3.size
  have hb := hb.trans (hs_k3.mono hb.size)
  have hL := hL_hb.below hb
  try have hB_o4 := Blk.below hB_o4 hs_k3
  refine Wl.call txt39Shown rfl rfl (whole_mk _ _) rfl ?_
  rintro _ w_k4 ⟨rfl, hs_k4⟩
  have hz_k4 := hs_k4.size
  have hb := hb.trans (hs_k4.mono hb.size)
  have hL := hL_hb.below hb
  try have hB_o4 := Blk.below hB_o4 hs_k4
  refine Wl.call txt41Shown rfl rfl (sh2 _) rfl ?_
  rintro _ w_k5 ⟨rfl, hs_k5⟩
  have hz_k5 := hs_k5.size
  have hb := hb.trans (hs_k5.mono hb.size)
  have hL := hL_hb.below hb
  try have hB_o4 := Blk.below hB_o4 hs_k5
  refine Wl.mv rfl rfl <| Wl.y (y_extract rfl rfl) rfl <| Wl.y (y_extract rfl rfl) rfl ?_
  refine Wl.allocN (z := (.agg #[(.int .i64 0), (.int .i64 0), (.float .f64 0), (str [])])) (by kernel_rfl) rfl ?_
  rintro g_o9 w_o9 hg_o9 hn_o9 hs_o9
  have hz_o9 := hs_o9.size
  have hb := hb.trans (hs_o9.mono hb.size)
  have hL := hL_hb.below hb
  try have hB_o4 := Blk.below hB_o4 hs_o9
  have hB_o9 := hn_o9
  have hl_o9 := hB_o9.lt
  refine Wl.storeS (by kernel_rfl) rfl rfl hB_o9 rfl rfl ?_
  rintro w_s1 hn_s1 hg_s1
  have hz_s1 := hg_s1.size
  have hb := below_blk hb hg_s1 hb.size (by omega)
  have hL := hL_hb.below hb
  try have hB_o4 := hB_o4.over hg_s1 (by omega)
  have hB_o9 := hn_s1
  refine Wl.sg rfl rfl <| Wl.nil <| Wq.next hK_12 <| Wc.seq fun _ hK_21 => Wc.region ?_
  refine Wl.call txt40Shown rfl rfl (float_mk _ _) rfl ?_
  rintro _ w_k6 ⟨rfl, hs_k6⟩
  have hz_k6 := hs_k6.size
  have hb := hb.trans (hs_k6.mono hb.size)
  have hL := hL_hb.below hb
  try have hB_o4 := Blk.below hB_o4 hs_k6
  try have hB_o9 := Blk.below hB_o9 hs_k6
  refine Wl.call txt16Shown rfl rfl (sh3 _ hL) rfl ?_
  rintro _ w_k7 ⟨rfl, hs_k7⟩
  have hz_k7 := hs_k7.size
  have hb := hb.trans (hs_k7.mono hb.size)
  have hL := hL_hb.below hb
  try have hB_o4 := Blk.below hB_o4 hs_k7
  try have hB_o9 := Blk.below hB_o9 hs_k7
  refine Wl.mv rfl rfl <| Wl.y (y_extract rfl rfl) rfl <| Wl.y (y_extract rfl rfl) rfl <| Wl.sg rfl rfl <| Wl.sg rfl rfl <| Wl.nil <| Wq.next hK_21 <| Wc.seq fun _ hK_29 => Wc.region ?_
  refine Wl.call txt18Shown rfl rfl (sh4 _ hL) rfl ?_
  rintro _ w_k8 ⟨rfl, hs_k8⟩
  have hz_k8 := hs_k8.size
  have hb := hb.trans (hs_k8.mono hb.size)
  have hL := hL_hb.below hb
  try have hB_o4 := Blk.below hB_o4 hs_k8
  try have hB_o9 := Blk.below hB_o9 hs_k8
  refine Wl.mv rfl rfl <| Wl.y (y_extract rfl rfl) rfl <| Wl.y (y_extract rfl rfl) rfl <| Wl.y (y_extract rfl rfl) rfl ?_
  refine Wl.allocN (z := (.agg #[(.int .i64 0), (.int .i64 0), (.float .f64 0), (str [])])) (by kernel_rfl) rfl ?_
  rintro g_o20 w_o20 hg_o20 hn_o20 hs_o20
  have hz_o20 := hs_o20.size
  have hb := hb.trans (hs_o20.mono hb.size)
  have hL := hL_hb.below hb
  try have hB_o4 := Blk.below hB_o4 hs_o20
  try have hB_o9 := Blk.below hB_o9 hs_o20
  have hB_o20 := hn_o20
  have hl_o20 := hB_o20.lt
  refine Wl.storeS (by kernel_rfl) rfl rfl hB_o20 rfl rfl ?_
  rintro w_s2 hn_s2 hg_s2
  have hz_s2 := hg_s2.size
  have hb := below_blk hb hg_s2 hb.size (by omega)
  have hL := hL_hb.below hb
  try have hB_o4 := hB_o4.over hg_s2 (by omega)
  try have hB_o9 := hB_o9.over hg_s2 (by omega)
  have hB_o20 := hn_s2
  refine Wl.sg rfl rfl <| Wl.sg rfl rfl <| Wl.nil <| Wq.next hK_29 <| Wc.seq fun _ hK_38 => Wc.region ?_
  refine Wl.call txt42Shown rfl rfl (NaN_r _) rfl ?_
  rintro _ w_ ⟨rfl, hw_⟩
  have hw_ := hw_.symm; subst hw_
  refine Wl.call txt40Shown rfl rfl (float_mk _ _) rfl ?_
  rintro _ w_k10 ⟨rfl, hs_k10⟩
  have hz_k10 := hs_k10.size
  have hb := hb.trans (hs_k10.mono hb.size)
  have hL := hL_hb.below hb
  try have hB_o4 := Blk.below hB_o4 hs_k10
  try have hB_o9 := Blk.below hB_o9 hs_k10
  try have hB_o20 := Blk.below hB_o20 hs_k10
  refine Wl.call txt42Shown rfl rfl (NaN_r _) rfl ?_
  rintro _ w_ ⟨rfl, hw_⟩
  have hw_ := hw_.symm; subst hw_
  refine Wl.call txt40Shown rfl rfl (float_mk _ _) rfl ?_
  rintro _ w_k12 ⟨rfl, hs_k12⟩
  have hz_k12 := hs_k12.size
  have hb := hb.trans (hs_k12.mono hb.size)
  have hL := hL_hb.below hb
  try have hB_o4 := Blk.below hB_o4 hs_k12
  try have hB_o9 := Blk.below hB_o9 hs_k12
  try have hB_o20 := Blk.below hB_o20 hs_k12
  refine Wl.call txt38Shown rfl rfl (sh5 _) rfl ?_
  rintro _ w_k13 ⟨rfl, hs_k13⟩
  have hz_k13 := hs_k13.size
  have hb := hb.trans (hs_k13.mono hb.size)
  have hL := hL_hb.below hb
  try have hB_o4 := Blk.below hB_o4 hs_k13
  try have hB_o9 := Blk.below hB_o9 hs_k13
  try have hB_o20 := Blk.below hB_o20 hs_k13
  refine Wl.mv rfl rfl <| Wl.y (y_extract rfl rfl) rfl <| Wl.y (y_extract rfl rfl) rfl ?_
  refine Wl.allocN (z := (.agg #[(.int .i64 0), (.int .i64 0), (.float .f64 0), (str [])])) (by kernel_rfl) rfl ?_
  rintro g_o26 w_o26 hg_o26 hn_o26 hs_o26
  have hz_o26 := hs_o26.size
  have hb := hb.trans (hs_o26.mono hb.size)
  have hL := hL_hb.below hb
  try have hB_o4 := Blk.below hB_o4 hs_o26
  try have hB_o9 := Blk.below hB_o9 hs_o26
  try have hB_o20 := Blk.below hB_o20 hs_o26
  have hB_o26 := hn_o26
  have hl_o26 := hB_o26.lt
  refine Wl.storeS (by kernel_rfl) rfl rfl hB_o26 rfl rfl ?_
  rintro w_s3 hn_s3 hg_s3
  have hz_s3 := hg_s3.size
  have hb := below_blk hb hg_s3 hb.size (by omega)
  have hL := hL_hb.below hb
  try have hB_o4 := hB_o4.over hg_s3 (by omega)
  try have hB_o9 := hB_o9.over hg_s3 (by omega)
  try have hB_o20 := hB_o20.over hg_s3 (by omega)
  have hB_o26 := hn_s3
  refine Wl.sg rfl rfl <| Wl.nil <| Wq.next hK_38 <| Wc.seq fun _ hK_49 => Wc.region ?_
  refine Wl.y (y_fieldAddr (fa28_0Shown _) rfl) rfl ?_
  refine Wl.l (l_load one3Shown rfl (by first | exact hB_o4.at rfl | exact hB_o9.at rfl | exact hB_o20.at rfl | exact hB_o26.at rfl | exact hB_o4.cell 0 | exact hB_o9.cell 0 | exact hB_o20.cell 0 | exact hB_o26.cell 0 | assumption)) rfl ?_
  refine Wl.y (y_eqli rfl rfl) rfl <| Wl.mv rfl rfl ?_
  refine Wl.guardT rfl rfl rfl (fun g_54 => ?_) (fun g_54 => ?_)
  ·
   have g_54_ := g_54
   try simp only [DZ] at g_54
   refine Wl.y (y_fieldAddr (fa28_1Shown _) rfl) rfl ?_
   refine Wl.on' rfl rfl g_54_ ?_
   refine Wl.l (l_load one2Shown rfl (by first | exact hB_o4.at rfl | exact hB_o9.at rfl | exact hB_o20.at rfl | exact hB_o26.at rfl | exact hB_o4.cell 0 | exact hB_o9.cell 0 | exact hB_o20.cell 0 | exact hB_o26.cell 0 | assumption)) rfl ?_
   refine Wl.on' rfl rfl g_54_ <| Wl.y (y_eqli rfl rfl) rfl ?_
   refine Wl.y (y_pickT rfl g_54_ rfl) rfl ?_
   refine Wl.mv rfl rfl ?_
   refine Wl.guardT rfl rfl rfl (fun g_60 => ?_) (fun g_60 => ?_)
   ·
    have g_60_ := g_60
    try simp only [DZ] at g_60
    refine Wl.mv rfl rfl <| Wl.on' rfl rfl g_60_ <| Wl.y (y_eqli rfl rfl) rfl ?_
    refine Wl.y (y_pickT rfl g_60_ rfl) rfl ?_
    refine Wl.mv rfl rfl ?_
    refine Wl.guardT rfl rfl rfl (fun g_65 => ?_) (fun g_65 => ?_)
    ·
     have g_65_ := g_65
     try simp only [DZ] at g_65
     refine Wl.mv rfl rfl <| Wl.on' rfl rfl g_65_ <| Wl.y (y_eqli rfl rfl) rfl ?_
     refine Wl.y (y_pickT rfl g_65_ rfl) rfl ?_
     refine Wl.mv rfl rfl ?_
     refine Wl.guardT rfl rfl rfl (fun g_70 => ?_) (fun g_70 => ?_)
     ·
      have g_70_ := g_70
      try simp only [DZ] at g_70
      refine Wl.mv rfl rfl <| Wl.on' rfl rfl g_70_ <| Wl.y (y_eqls rfl rfl) rfl ?_
      refine Wl.y (y_pickT rfl g_70_ rfl) rfl ?_
      refine Wl.mv rfl rfl ?_
      refine Wl.guardT rfl rfl rfl (fun g_75 => ?_) (fun g_75 => ?_)
      ·
       have g_75_ := g_75
       try simp only [DZ] at g_75
       refine Wl.mv rfl rfl <| Wl.on' rfl rfl g_75_ <| Wl.y (y_eqli rfl rfl) rfl ?_
       refine Wl.y (y_pickT rfl g_75_ rfl) rfl ?_
       refine Wl.mv rfl rfl ?_
       refine Wl.guardT rfl rfl rfl (fun g_80 => ?_) (fun g_80 => ?_)
       ·
        have g_80_ := g_80
        try simp only [DZ] at g_80
        refine Wl.y (y_fieldAddr (fa28_1Shown _) rfl) rfl ?_
        refine Wl.on' rfl rfl g_80_ ?_
        refine Wl.l (l_load one2Shown rfl (by first | exact hB_o4.at rfl | exact hB_o9.at rfl | exact hB_o20.at rfl | exact hB_o26.at rfl | exact hB_o4.cell 0 | exact hB_o9.cell 0 | exact hB_o20.cell 0 | exact hB_o26.cell 0 | assumption)) rfl ?_
        refine Wl.on' rfl rfl g_80_ <| Wl.y (y_eqli rfl rfl) rfl ?_
        refine Wl.y (y_pickT rfl g_80_ rfl) rfl ?_
        refine Wl.mv rfl rfl ?_
        refine Wl.guardT rfl rfl rfl (fun g_86 => ?_) (fun g_86 => ?_)
        ·
         have g_86_ := g_86
         try simp only [DZ] at g_86
         refine Wl.mv rfl rfl <| Wl.on' rfl rfl g_86_ <| Wl.y (y_eqli rfl rfl) rfl ?_
         refine Wl.y (y_pickT rfl g_86_ rfl) rfl ?_
         refine Wl.mv rfl rfl ?_
         refine Wl.guardT rfl rfl rfl (fun g_91 => ?_) (fun g_91 => ?_)
         ·
          have g_91_ := g_91
          try simp only [DZ] at g_91
          refine Wl.mv rfl rfl ?_
          refine Wl.y (y_pickT rfl g_91_ rfl) rfl ?_
          refine Wl.mv rfl rfl ?_
          refine Wl.guardT rfl rfl rfl (fun g_95 => ?_) (fun g_95 => ?_)
          ·
           have g_95_ := g_95
           try simp only [DZ] at g_95
           refine Wl.y (y_fieldAddr (fa28_1Shown _) rfl) rfl ?_
           refine Wl.on' rfl rfl g_95_ ?_
           refine Wl.l (l_load one2Shown rfl (by first | exact hB_o4.at rfl | exact hB_o9.at rfl | exact hB_o20.at rfl | exact hB_o26.at rfl | exact hB_o4.cell 0 | exact hB_o9.cell 0 | exact hB_o20.cell 0 | exact hB_o26.cell 0 | assumption)) rfl ?_
           refine Wl.on' rfl rfl g_95_ <| Wl.y (y_eqli rfl rfl) rfl ?_
           refine Wl.y (y_pickT rfl g_95_ rfl) rfl ?_
           refine Wl.mv rfl rfl ?_
           refine Wl.guardT rfl rfl rfl (fun g_101 => ?_) (fun g_101 => ?_)
           ·
            have g_101_ := g_101
            try simp only [DZ] at g_101
            refine Wl.mv rfl rfl <| Wl.on' rfl rfl g_101_ <| Wl.y (y_eqli rfl rfl) rfl ?_
            refine Wl.y (y_pickT rfl g_101_ rfl) rfl ?_
            refine Wl.mv rfl rfl ?_
            refine Wl.guardT rfl rfl rfl (fun g_106 => ?_) (fun g_106 => ?_)
            ·
             have g_106_ := g_106
             try simp only [DZ] at g_106
             refine Wl.call txt39Shown rfl rfl (whole_mk _ _) rfl ?_
             rintro _ w_k14 ⟨rfl, hs_k14⟩
             have hz_k14 := hs_k14.size
             have hb := hb.trans (hs_k14.mono hb.size)
             have hL := hL_hb.below hb
             refine Wl.on' rfl rfl g_106_ ?_
             refine Wl.call txt43Shown rfl rfl (sh6 _) rfl ?_
             rintro _ w_k15 ⟨rfl, hs_k15⟩
             have hz_k15 := hs_k15.size
             have hb := hb.trans (hs_k15.mono hb.size)
             have hL := hL_hb.below hb
             refine Wl.y (y_pickT rfl g_106_ rfl) rfl ?_
             refine Wl.sg rfl rfl <| Wl.nil <| Wq.next hK_49 <| Wc.ret ?_
             refine ret1 rfl rfl ?_
             exact ⟨_, rfl, rfl, hb⟩
            have g_106_ := g_106
            try simp only [DZ] at g_106
            exact absurd g_106_ (by decide)
           have g_101_ := g_101
           try simp only [DZ] at g_101
           exact absurd g_101_ (by decide)
          have g_95_ := g_95
          try simp only [DZ] at g_95
          exact absurd g_95_ (by decide)
         have g_91_ := g_91
         try simp only [DZ] at g_91
         exact absurd g_91_ (by decide)
        have g_86_ := g_86
        try simp only [DZ] at g_86
        exact absurd g_86_ (by decide)
       have g_80_ := g_80
       try simp only [DZ] at g_80
       exact absurd g_80_ (by decide)
      have g_75_ := g_75
      try simp only [DZ] at g_75
      exact absurd g_75_ (by decide)
     have g_70_ := g_70
     try simp only [DZ] at g_70
     exact absurd g_70_ (by decide)
    have g_65_ := g_65
    try simp only [DZ] at g_65
    exact absurd g_65_ (by decide)
   have g_60_ := g_60
   try simp only [DZ] at g_60
   exact absurd g_60_ (by decide)
  have g_54_ := g_54
  try simp only [DZ] at g_54
  exact absurd g_54_ (by decide)
end Go.Proofs.YtccgjfcaomngjaaGreatDoor
namespace Go.Proofs.YtccgjfcaomngjaaGreatDoor
open Go.RowKit Go.Bw Go.Bw.Fl
set_option linter.unusedVariables false
set_option linter.unusedSimpArgs false
theorem exn44Raw : Extn Tryz.prog 44 Extern.MathFloatBits.float64frombits := fun args w => run_callFunc_extern Tryz.func44 (by kernel_rfl) (by kernel_rfl) (by kernel_rfl) (by kernel_rfl) args w
theorem fa24_0Raw (p : Addr) (w : World) : (Instr.fieldAt 24 (.pointer (some p)) 0).run Tryz.prog w = .ok (.pointer (some (p.add 0))) w := run_fieldAt (i := 0) (sz := 0) Tryz.underlying24 rfl (by kernel_rfl) p w
theorem fa24_1Raw (p : Addr) (w : World) : (Instr.fieldAt 24 (.pointer (some p)) 1).run Tryz.prog w = .ok (.pointer (some (p.add 1))) w := run_fieldAt (i := 1) (sz := 0) Tryz.underlying24 rfl (by kernel_rfl) p w
theorem fa24_2Raw (p : Addr) (w : World) : (Instr.fieldAt 24 (.pointer (some p)) 2).run Tryz.prog w = .ok (.pointer (some (p.add 2))) w := run_fieldAt (i := 2) (sz := 0) Tryz.underlying24 rfl (by kernel_rfl) p w
theorem fa24_3Raw (p : Addr) (w : World) : (Instr.fieldAt 24 (.pointer (some p)) 3).run Tryz.prog w = .ok (.pointer (some (p.add 3))) w := run_fieldAt (i := 3) (sz := 0) Tryz.underlying24 rfl (by kernel_rfl) p w
theorem one2Raw : One Tryz.prog 2 := ⟨_, Tryz.underlying2, rfl, by kernel_rfl⟩
theorem one22Raw : One Tryz.prog 22 := ⟨_, Tryz.underlying22, rfl, by kernel_rfl⟩
theorem one3Raw : One Tryz.prog 3 := ⟨_, Tryz.underlying3, rfl, by kernel_rfl⟩
theorem one9Raw : One Tryz.prog 9 := ⟨_, Tryz.underlying9, rfl, by kernel_rfl⟩
structure Raw where
  k : Int
  n : Int
  b : Int
  s : List UInt8
def Raw.cells (r : Raw) : List Value := [.int .i64 r.k, .int .i64 r.n, .int .u64 r.b, str r.s]
def Raw.enc (r : Raw) : Value := .agg r.cells.toArray
structure Raw.Ok (r : Raw) : Prop where
  n0 : -9223372036854775808 ≤ r.n
  n1 : r.n ≤ 9223372036854775807
  b0 : 0 ≤ r.b
  b1 : r.b ≤ 18446744073709551615
  sl : r.s.length ≤ 140737488351232
def Raw.val (r : Raw) : Val := ⟨r.k, r.n, r.b.toNat, r.s.take 60⟩
theorem Raw.Ok.val {r : Raw} (h : r.Ok) : r.val.Ok := ⟨h.n0, h.n1, by show r.b.toNat < _; have := h.b0; have := h.b1; omega⟩
theorem of_r (r : Raw) (o : r.Ok) (w : World) : Ret Tryz.prog 15 [r.enc] w fun v w' => v = r.val.enc ∧ Below w.heap.size w w' := by
  have hsl := o.sl
  have hb := Below.refl w.heap.size w
  refine enter Tryz.func15 rfl rfl rfl ?_
  refine Wc.seq fun _ hK_1 => Wc.region ?_
  refine Wl.boxN rfl rfl ?_
  rintro g_o0 w_o0 hg_o0 hn_o0 hs_o0
  have hz_o0 := hs_o0.size
  have hb := hb.trans (hs_o0.mono hb.size)
  have hB_o0 := hn_o0
  have hl_o0 := hB_o0.lt
  refine Wl.allocN (z := (.agg #[(.int .i64 0), (.int .i64 0), (.float .f64 0), (str [])])) (by kernel_rfl) rfl ?_
  rintro g_o1 w_o1 hg_o1 hn_o1 hs_o1
  have hz_o1 := hs_o1.size
  have hb := hb.trans (hs_o1.mono hb.size)
  try have hB_o0 := Blk.below hB_o0 hs_o1
  have hB_o1 := hn_o1
  have hl_o1 := hB_o1.lt
  refine Wl.nil <| Wq.next hK_1 <| Wc.seq fun _ hK_4 => ?_
  refine Wc.any (n := 16) (fun w' => Below w.heap.size w w' ∧ Blk w' g_o0 24 r.cells) #[false, false, false, false, false, false, false, false, false, false, false, false, false, false, false, false] (by kernel_rfl) rfl (by kernel_rfl) ?_
  refine Wa.drew ?_
  rintro w_g1 hs_g1
  have hz_g1 := hs_g1.size
  have hb := hb.trans (hs_g1.mono hb.size)
  try have hB_o0 := Blk.below hB_o0 hs_g1
  try have hB_o1 := Blk.below hB_o1 hs_g1
  refine Wa.take (i := 0) #[true, false, false, false, false, false, false, false, false, false, false, false, false, false, false, false] rfl (by kernel_rfl) (fun _ _ _ h => h) rfl (fun wq hq => Yl.ld (y_fieldAddr (fa24_0Raw _) rfl)) ⟨hb, hB_o0⟩ ?_
  refine Wa.take (i := 1) #[true, true, false, false, false, false, false, false, false, false, false, false, false, false, false, false] rfl (by kernel_rfl) (fun _ _ _ h => h) rfl (fun wq hq => l_load one3Raw rfl (by obtain ⟨hq, hB_o0⟩ := hq; first | exact hB_o0.at rfl | exact hB_o0.cell 0 | exact hB_o1.cell 0 | assumption)) ⟨hb, hB_o0⟩ ?_
  refine Wa.take (i := 2) #[true, true, true, false, false, false, false, false, false, false, false, false, false, false, false, false] rfl (by kernel_rfl) (fun _ _ _ h => h) rfl (fun wq hq => Yl.ld (y_fieldAddr (fa24_1Raw _) rfl)) ⟨hb, hB_o0⟩ ?_
  refine Wa.take (i := 3) #[true, true, true, true, false, false, false, false, false, false, false, false, false, false, false, false] rfl (by kernel_rfl) (fun _ _ _ h => h) rfl (fun wq hq => l_load one2Raw rfl (by obtain ⟨hq, hB_o0⟩ := hq; first | exact hB_o0.at rfl | exact hB_o0.cell 0 | exact hB_o1.cell 0 | assumption)) ⟨hb, hB_o0⟩ ?_
  refine Wa.take (i := 4) #[true, true, true, true, true, false, false, false, false, false, false, false, false, false, false, false] rfl (by kernel_rfl) (fun _ _ _ h => h) rfl (fun wq hq => Yl.ld (y_fieldAddr (fa24_2Raw _) rfl)) ⟨hb, hB_o0⟩ ?_
  refine Wa.take (i := 5) #[true, true, true, true, true, true, false, false, false, false, false, false, false, false, false, false] rfl (by kernel_rfl) (fun _ _ _ h => h) rfl (fun wq hq => l_load one22Raw rfl (by obtain ⟨hq, hB_o0⟩ := hq; first | exact hB_o0.at rfl | exact hB_o0.cell 0 | exact hB_o1.cell 0 | assumption)) ⟨hb, hB_o0⟩ ?_
  refine Wa.take (i := 7) #[true, true, true, true, true, true, false, true, false, false, false, false, false, false, false, false] rfl (by kernel_rfl) (fun _ _ _ h => h) rfl (fun wq hq => Yl.ld (y_fieldAddr (fa24_3Raw _) rfl)) ⟨hb, hB_o0⟩ ?_
  refine Wa.take (i := 8) #[true, true, true, true, true, true, false, true, true, false, false, false, false, false, false, false] rfl (by kernel_rfl) (fun _ _ _ h => h) rfl (fun wq hq => l_load one9Raw rfl (by obtain ⟨hq, hB_o0⟩ := hq; first | exact hB_o0.at rfl | exact hB_o0.cell 0 | exact hB_o1.cell 0 | assumption)) ⟨hb, hB_o0⟩ ?_
  refine Wa.take (i := 9) #[true, true, true, true, true, true, false, true, true, true, false, false, false, false, false, false] rfl (by kernel_rfl) (fun _ _ _ h => h) rfl (fun wq hq => Yl.ld (y_fieldAddr (fa24_3Raw _) rfl)) ⟨hb, hB_o0⟩ ?_
  refine Wa.take (i := 10) #[true, true, true, true, true, true, false, true, true, true, true, false, false, false, false, false] rfl (by kernel_rfl) (fun _ _ _ h => h) rfl (fun wq hq => l_load one9Raw rfl (by obtain ⟨hq, hB_o0⟩ := hq; first | exact hB_o0.at rfl | exact hB_o0.cell 0 | exact hB_o1.cell 0 | assumption)) ⟨hb, hB_o0⟩ ?_
  refine Wa.take (i := 11) #[true, true, true, true, true, true, false, true, true, true, true, true, false, false, false, false] rfl (by kernel_rfl) (fun _ _ _ h => h) rfl (fun wq hq => Yl.ld (y_lens Tryz.underlying9 (by omega) rfl)) ⟨hb, hB_o0⟩ ?_
  refine Wa.take (i := 12) #[true, true, true, true, true, true, false, true, true, true, true, true, true, false, false, false] rfl (by kernel_rfl) (fun _ _ _ h => h) rfl (fun wq hq => Yl.ld (y_eq (y_min rfl rfl) (int_eq (show min (r.s.length : Int) 60 = ((min r.s.length 60 : Nat) : Int) by omega)))) ⟨hb, hB_o0⟩ ?_
  refine Wa.take (i := 13) #[true, true, true, true, true, true, false, true, true, true, true, true, true, true, false, false] rfl (by kernel_rfl) (fun _ _ _ h => h) rfl (fun wq hq => Yl.ld (y_slicesH Tryz.underlying9 rfl rfl (by omega) (by omega))) ⟨hb, hB_o0⟩ ?_
  refine Wa.some (rs := [6]) (by kernel_rfl) rfl ?_
  refine Ws.cons #[true, true, true, true, true, true, true, true, true, true, true, true, true, true, false, false] rfl rfl (fun _ hK_18 => ?_) ?_
  ·
   refine Wl.y (y_b2f exn44Raw rfl rfl) rfl ?_
   refine Wl.nil ?_
   refine Wq.back hK_18 ⟨hb, hB_o0⟩ ?_
   refine Wa.take (i := 14) #[true, true, true, true, true, true, true, true, true, true, true, true, true, true, true, false] rfl (by kernel_rfl) (fun _ _ _ h => h) rfl (fun wq hq => Yl.ld (y_buildS (z := [(.int .i64 0), (.int .i64 0), (.float .f64 0), (str [])]) (pl := [(0, 1), (1, 1), (2, 1), (3, 1)]) (cs := [_, _, _, _]) Tryz.underlying28 (by kernel_rfl) (by kernel_rfl) rfl rfl rfl)) ⟨hb, hB_o0⟩ ?_
   refine Wa.some (rs := [15]) (by kernel_rfl) rfl ?_
   refine Ws.cons #[true, true, true, true, true, true, true, true, true, true, true, true, true, true, true, true] rfl rfl (fun _ hK_21 => ?_) ?_
   ·
    refine Wl.storeS (by kernel_rfl) rfl rfl hB_o1 rfl rfl ?_
    rintro w_s0 hn_s0 hg_s0
    have hz_s0 := hg_s0.size
    have hb := below_blk hb hg_s0 hb.size (by omega)
    try have hB_o0 := hB_o0.over hg_s0 (by omega)
    have hB_o1 := hn_s0
    refine Wl.nil ?_
    refine Wq.back hK_21 ⟨hb, hB_o0⟩ ?_
    refine Wa.done (by kernel_rfl) ?_
    refine Wq.next hK_4 <| Wc.ret ?_
    refine retN (rs := [.cell 2 28]) (vs := [_]) rfl (.cell rfl (loadS Tryz.underlying28 (by kernel_rfl) (fun j u hu => hB_o1.at hu)) .nil) ?_
    exact ⟨_, rfl, by unfold Raw.val Val.enc Val.cells; rw [show ((min r.s.length 60 : Nat) : Int).toNat = min r.s.length 60 from rfl, List.take_eq_take_iff.2 (show min (min r.s.length 60) r.s.length = min 60 r.s.length by omega)]; rfl, hb⟩
   exact Ws.nil
  exact Ws.nil
theorem sameV_refl (x : Val) : sameV x x = true := by unfold sameV; simp
end Go.Proofs.YtccgjfcaomngjaaGreatDoor
