/- Package parse, by the calculus: how often. · Package parse, by the calculus: items, branches, patterns. · Package parse, by the calculus: patterns. · Package parse, by the calculus: the whole query. -/
import Derived.Test.YtjnabgddjogkbaaGreatDoorZP3
namespace Go.Proofs.YtjnabgddjogkbaaGreatDoor
open Go.RowKit Go.Bw Go.Bw.Fl
set_option linter.unusedVariables false
set_option linter.unusedSimpArgs false
theorem fa43_2PsK (p : Addr) (w : World) : (Instr.fieldAt 43 (.pointer (some p)) 2).run Tryz.prog w = .ok (.pointer (some (p.add 2))) w := run_fieldAt (i := 2) (sz := 0) Tryz.underlying43 rfl (by kernel_rfl) p w
theorem fa60_0PsK (p : Addr) (w : World) : (Instr.fieldAt 60 (.pointer (some p)) 0).run Tryz.prog w = .ok (.pointer (some (p.add 0))) w := run_fieldAt (i := 0) (sz := 1) Tryz.underlying60 rfl (by kernel_rfl) p w
theorem one3PsK : One Tryz.prog 3 := ⟨_, Tryz.underlying3, rfl, by kernel_rfl⟩
theorem one9PsK : One Tryz.prog 9 := ⟨_, Tryz.underlying9, rfl, by kernel_rfl⟩
theorem txt150PsK : Txt Tryz.prog 150 := ⟨_, Tryz.func150, by kernel_rfl, rfl⟩   -- (*bridleway/parse.parser).text
theorem txt36PsK : Txt Tryz.prog 36 := ⟨_, Tryz.func36, by kernel_rfl, rfl⟩   -- (*bridleway/parse.row).is
theorem txt38PsK : Txt Tryz.prog 38 := ⟨_, Tryz.func38, by kernel_rfl, rfl⟩   -- (*bridleway/parse.parser).take
theorem txt39PsK : Txt Tryz.prog 39 := ⟨_, Tryz.func39, by kernel_rfl, rfl⟩   -- (*bridleway/parse.row).next
theorem txt40PsK : Txt Tryz.prog 40 := ⟨_, Tryz.func40, by kernel_rfl, rfl⟩   -- (*bridleway/parse.parser).whole
abbrev encT (o : Option (Int × Int)) : Value := .tuple #[.int .i64 (o.getD (0, 0)).1, .int .i64 (o.getD (0, 0)).2, .bool o.isSome]
def pTimesE (en : Nat) (a mn mx : Int) (r : List Tok) : Res (Option (Int × Int)) := match pText en [125] r with
  | .err a e => .err a e
  | .ok _ r3 => timesOk a mn mx r3
theorem times_r (p en : Nat) (ts : List Tok) (g : Nat) (w : World) (hP : PSt w p en ts g 0) : Out Tryz.prog 114 [pptr p] w (PRes w p en g 0 ts (pTimes en ts) fun o v _ => v = encT o) (PErr w p en g 0 (pTimes en ts)) := by
  have hpl := hP.lt
  have hb := Kp.refl p w
  refine enter Tryz.func114 rfl rfl rfl ?_
  refine Wc.seq fun _ hK_1 => Wc.region <| Wl.sg rfl rfl <| Wl.sg rfl rfl <| Wl.sg rfl rfl <| Wl.nil <| Wq.next hK_1 <| Wc.seq fun _ hK_5 => Wc.region <| Wl.mv rfl rfl ?_
  refine Wl.y (y_nilCheck rfl) rfl ?_
  refine Wl.y (y_fieldAddr (fa60_0PsK _) rfl) rfl ?_
  refine Wl.call txt39PsK rfl rfl (next_x p en ts g 0 _ hP) rfl ?_
  rintro _ w_k0 ⟨rfl, hs_k0⟩
  have hz_k0 := hs_k0.size
  first | have hP := PSt.below hP hs_k0 | have hP := PSt.kp hP hs_k0 | skip
  first | replace hs_k0 := Below.kp (p := p) hs_k0 | skip
  have hb := hb.trans hs_k0
  refine Wl.allocN (z := (.agg #[(.int .i64 0), (str []), (.int .i64 0)])) (by kernel_rfl) rfl ?_
  rintro g_o6 w_o6 hg_o6 hn_o6 hs_o6
  have hz_o6 := hs_o6.size
  have hP := hP.below hs_o6
  replace hs_o6 := Below.kp (p := p) hs_o6
  have hb := hb.trans hs_o6
  have hB_o6 := hn_o6
  have hl_o6 := hB_o6.lt
  refine Wl.storeS (by kernel_rfl) rfl rfl hB_o6 rfl rfl ?_
  rintro w_s0 hn_s0 hg_s0
  have hz_s0 := hg_s0.size
  have hb := kp_blk hb hg_s0 (by omega)
  try have hP := PSt.over hP hg_s0 (by omega)
  have hB_o6 := hn_s0
  refine Wl.nil <| Wq.next hK_5 <| Wc.seq fun _ hK_11 => Wc.seq fun _ hK_12 => Wc.region <| Wl.mv rfl rfl <| Wl.y (y_nilCheck rfl) rfl ?_
  refine Wl.y (y_fieldAddr (fa60_0PsK _) rfl) rfl ?_
  refine Wl.litN (sz := 1) (vs := [_, _, _, _]) Tryz.underlying45 (by kernel_rfl) rfl rfl rfl rfl rfl rfl ?_
  rintro g_b0 w_b0 hg_b0 hn_b0 hs_b0
  have hz_b0 := hs_b0.size
  have hP := hP.below hs_b0
  have hB_o6 := hB_o6.below hs_b0
  replace hs_b0 := Below.kp (p := p) hs_b0
  have hb := hb.trans hs_b0
  have hB_b0 := hn_b0
  have hl_b0 := hB_b0.lt
  refine Wl.call txt36PsK rfl rfl (is_r p en ts g 0 _ 4 [[42], [43], [63], [123]] (by simp) _ hP (hB_b0.rd 4 1 rfl)) rfl ?_
  rintro _ w_k1 ⟨rfl, hs_k1⟩
  have hz_k1 := hs_k1.size
  first | have hP := PSt.below hP hs_k1 | have hP := PSt.kp hP hs_k1 | skip
  first | have hB_o6 := Blk.below hB_o6 hs_k1 | have hB_o6 := Blk.kp hB_o6 hs_k1 (by omega) | skip
  first | replace hs_k1 := Below.kp (p := p) hs_k1 | skip
  have hb := hb.trans hs_k1
  refine Wl.y (y_not rfl) rfl <| Wl.nil <| Wq.next hK_12 ?_
  refine Wc.cond rfl (fun c0_19 => ?_) (fun c0_19 => ?_)
  ·
   have c0_19_ := c0_19
   try simp only [DZ] at c0_19
   have h0 : isT en [[42], [43], [63], [123]] ts = false := by have := c0_19_; simpa using this
   refine Wc.seq fun _ hK_20 => Wc.region <| Wl.sg rfl rfl <| Wl.sg rfl rfl <| Wl.sg rfl rfl <| Wl.nil <| Wq.next hK_20 <| Wc.ret <| Wq.then_ret ?_
   refine ret3 rfl rfl rfl rfl ?_
   exact outR ⟨⟨none, ts, by simp only [pTimes, if_pos h0], rfl, hP, Nat.le_refl _⟩, hb⟩
  have c0_19_ := c0_19
  try simp only [DZ] at c0_19
  have h0 : isT en [[42], [43], [63], [123]] ts = true := by have := c0_19_; simpa using this
  have h0' : ¬ isT en [[42], [43], [63], [123]] ts = false := by rw [h0]; decide
  have hne := isT_ne h0
  have hr0 := List.length_pos_iff.2 hne
  have hrt : ts.tail.length = ts.length - 1 := List.length_tail
  refine Wc.skip <| Wq.next hK_11 <| Wc.seq fun _ hK_24 => Wc.seq fun _ hK_25 => Wc.region <| Wl.mv rfl rfl ?_
  refine Wl.call txt38PsK rfl rfl (take_x p en ts g 0 hne _ hP) rfl ?_
  rintro _ w_k2 ⟨⟨rfl, hP⟩, hs_k2⟩
  have hz_k2 := hs_k2.size
  first | have hP := PSt.below hP hs_k2 | have hP := PSt.kp hP hs_k2 | skip
  first | have hB_o6 := Blk.below hB_o6 hs_k2 | have hB_o6 := Blk.kp hB_o6 hs_k2 (by omega) | skip
  first | replace hs_k2 := Below.kp (p := p) hs_k2 | skip
  have hb := hb.trans hs_k2
  refine Wl.y (y_fieldO Tryz.underlying43 rfl one9PsK rfl rfl) rfl ?_
  refine Wl.nil <| Wq.next hK_25 <| Wc.block <| Wc.seq fun _ hK_29 => Wc.region <| Wl.y (y_eqls rfl rfl) rfl <| Wl.sg rfl rfl <| Wl.nil <| Wq.next hK_29 ?_
  refine Wc.cond rfl (fun c1_32 => ?_) (fun c1_32 => ?_)
  ·
   have c1_32_ := c1_32
   try simp only [DZ] at c1_32
   have h1 : (nextT en ts).t = [42] := by have := c1_32; simpa using this
   refine Wc.seq fun _ hK_33 => Wc.region <| Wl.sg rfl rfl <| Wl.sg rfl rfl <| Wl.sg rfl rfl <| Wl.nil <| Wq.next hK_33 <| Wc.ret ?_
   refine Wq.block_ret (Wq.then_ret ?_)
   refine ret3 rfl rfl rfl rfl ?_
   exact outR ⟨⟨some (0, -1), ts.tail, by simp only [pTimes, if_neg h0', if_pos h1], rfl, hP, by omega⟩, hb⟩
  have c1_32_ := c1_32
  try simp only [DZ] at c1_32
  have h1 : (nextT en ts).t ≠ [42] := by have := c1_32; simpa using this
  refine Wc.seq fun _ hK_37 => Wc.region <| Wl.y (y_eqls rfl rfl) rfl <| Wl.sg rfl rfl <| Wl.nil <| Wq.next hK_37 ?_
  refine Wc.cond rfl (fun c2_40 => ?_) (fun c2_40 => ?_)
  ·
   have c2_40_ := c2_40
   try simp only [DZ] at c2_40
   have h2 : (nextT en ts).t = [43] := by have := c2_40; simpa using this
   refine Wc.seq fun _ hK_41 => Wc.region <| Wl.sg rfl rfl <| Wl.sg rfl rfl <| Wl.sg rfl rfl <| Wl.nil <| Wq.next hK_41 <| Wc.ret ?_
   refine Wq.block_ret (Wq.then_ret ?_)
   refine ret3 rfl rfl rfl rfl ?_
   exact outR ⟨⟨some (1, -1), ts.tail, by simp only [pTimes, if_neg h0', if_neg h1, if_pos h2], rfl, hP, by omega⟩, hb⟩
  have c2_40_ := c2_40
  try simp only [DZ] at c2_40
  have h2 : (nextT en ts).t ≠ [43] := by have := c2_40; simpa using this
  refine Wc.seq fun _ hK_45 => Wc.region <| Wl.y (y_eqls rfl rfl) rfl <| Wl.sg rfl rfl <| Wl.nil <| Wq.next hK_45 ?_
  refine Wc.cond rfl (fun c3_48 => ?_) (fun c3_48 => ?_)
  ·
   have c3_48_ := c3_48
   try simp only [DZ] at c3_48
   have h3 : (nextT en ts).t = [63] := by have := c3_48; simpa using this
   refine Wc.seq fun _ hK_49 => Wc.region <| Wl.sg rfl rfl <| Wl.sg rfl rfl <| Wl.sg rfl rfl <| Wl.nil <| Wq.next hK_49 <| Wc.ret ?_
   refine Wq.block_ret (Wq.then_ret ?_)
   refine ret3 rfl rfl rfl rfl ?_
   exact outR ⟨⟨some (0, 1), ts.tail, by simp only [pTimes, if_neg h0', if_neg h1, if_neg h2, if_pos h3], rfl, hP, by omega⟩, hb⟩
  have c3_48_ := c3_48
  try simp only [DZ] at c3_48
  have h3 : (nextT en ts).t ≠ [63] := by have := c3_48; simpa using this
  refine Wc.skip <| Wq.block_normal <| Wq.next hK_24 <| Wc.seq fun _ hK_53 => Wc.region <| Wl.mv rfl rfl ?_
  refine Wl.y (y_fieldAddr (fa43_2PsK _) rfl) rfl ?_
  refine Wl.l (l_load one3PsK rfl (by exact hB_o6.at (j := 2) rfl)) rfl ?_
  refine Wl.callP txt40PsK rfl rfl (whole_r p en (nextT en ts).a ts.tail g 0 _ hP) rfl (fun v_ w_k3 hv_ => ?_) (fun c_ w_k3 hx_ => ?_)
  rotate_left
  ·
   obtain ⟨a_k3, e_k3, hF_k3, rfl, hPp_k3, hs_k3⟩ := hx_
   have hz_k3 := hs_k3.size
   have hb := hb.trans hs_k3
   refine Wq.then_panic ?_
   refine panics ?_
   exact outX ⟨_, _, by simp only [pTimes, if_neg h0', if_neg h1, if_neg h2, if_neg h3, hF_k3], rfl, hPp_k3, hb⟩
  obtain ⟨⟨mn, r, hF, rfl, hP, hrl⟩, hs_k3⟩ := hv_
  have hz_k3 := hs_k3.size
  have hB_o6 := hB_o6.kp hs_k3 (by omega)
  have hb := hb.trans hs_k3
  refine Wl.sg rfl rfl <| Wl.nil <| Wq.next hK_53 <| Wc.seq fun _ hK_59 => Wc.region <| Wl.mv rfl rfl <| Wl.sg rfl rfl <| Wl.nil <| Wq.next hK_59 <| Wc.seq fun _ hK_62 => ?_
  refine Wc.seq fun _ hK_63 => Wc.region <| Wl.mv rfl rfl <| Wl.y (y_nilCheck rfl) rfl ?_
  refine Wl.y (y_fieldAddr (fa60_0PsK _) rfl) rfl ?_
  refine Wl.litN (sz := 1) (vs := [_]) Tryz.underlying45 (by kernel_rfl) rfl rfl rfl rfl rfl rfl ?_
  rintro g_b1 w_b1 hg_b1 hn_b1 hs_b1
  have hz_b1 := hs_b1.size
  have hP := hP.below hs_b1
  have hB_o6 := hB_o6.below hs_b1
  replace hs_b1 := Below.kp (p := p) hs_b1
  have hb := hb.trans hs_b1
  have hB_b1 := hn_b1
  have hl_b1 := hB_b1.lt
  refine Wl.call txt36PsK rfl rfl (is_r p en r g 0 _ 1 [[44]] (by simp) _ hP (hB_b1.rd 1 1 rfl)) rfl ?_
  rintro _ w_k4 ⟨rfl, hs_k4⟩
  have hz_k4 := hs_k4.size
  first | have hP := PSt.below hP hs_k4 | have hP := PSt.kp hP hs_k4 | skip
  first | have hB_o6 := Blk.below hB_o6 hs_k4 | have hB_o6 := Blk.kp hB_o6 hs_k4 (by omega) | skip
  first | replace hs_k4 := Below.kp (p := p) hs_k4 | skip
  have hb := hb.trans hs_k4
  refine Wl.nil <| Wq.next hK_63 ?_
  refine Wc.meet (X := Int × List Tok) (fun (mx, r2) => [(0, pptr p), (2, .int .i64 mn), (3, .int .i64 mx), (5, .pointer (some ⟨g_o6, 0, none⟩))]) (fun (mx, r2) wr => pTimes en ts = pTimesE en (nextT en ts).a mn mx r2 ∧ r2.length ≤ ts.length ∧ Kp p w wr ∧ PSt wr p en r2 g 0 ∧ Blk wr g_o6 43 [.int .i64 ((nextT en ts).k : Int), str (nextT en ts).t, .int .i64 ((nextT en ts).a : Int)]) (fun _ hM_69 => ?_) ?_
  ·
   refine Wc.cond rfl (fun c4_70 => ?_) (fun c4_70 => ?_)
   ·
    have c4_70_ := c4_70
    try simp only [DZ] at c4_70
    have h4 : isT en [[44]] r = true := c4_70_
    have hrt4 : r.tail.length = r.length - 1 := List.length_tail
    refine Wc.seq fun _ hK_71 => Wc.region <| Wl.mv rfl rfl ?_
    refine Wl.call txt38PsK rfl rfl (take_x p en r g 0 (isT_ne h4) _ hP) rfl ?_
    rintro _ w_k5 ⟨⟨rfl, hP⟩, hs_k5⟩
    have hz_k5 := hs_k5.size
    first | have hP := PSt.below hP hs_k5 | have hP := PSt.kp hP hs_k5 | skip
    first | have hB_o6 := Blk.below hB_o6 hs_k5 | have hB_o6 := Blk.kp hB_o6 hs_k5 (by omega) | skip
    first | replace hs_k5 := Below.kp (p := p) hs_k5 | skip
    have hb := hb.trans hs_k5
    refine Wl.nil <| Wq.next hK_71 <| Wc.seq fun _ hK_74 => Wc.region <| Wl.sg rfl rfl <| Wl.nil <| Wq.next hK_74 <| Wc.seq fun _ hK_76 => Wc.region <| Wl.mv rfl rfl ?_
    refine Wl.y (y_nilCheck rfl) rfl ?_
    refine Wl.y (y_fieldAddr (fa60_0PsK _) rfl) rfl ?_
    refine Wl.litN (sz := 1) (vs := [_]) Tryz.underlying45 (by kernel_rfl) rfl rfl rfl rfl rfl rfl ?_
    rintro g_b2 w_b2 hg_b2 hn_b2 hs_b2
    have hz_b2 := hs_b2.size
    have hP := hP.below hs_b2
    have hB_o6 := hB_o6.below hs_b2
    replace hs_b2 := Below.kp (p := p) hs_b2
    have hb := hb.trans hs_b2
    have hB_b2 := hn_b2
    have hl_b2 := hB_b2.lt
    refine Wl.call txt36PsK rfl rfl (is_r p en r.tail g 0 _ 1 [[125]] (by simp) _ hP (hB_b2.rd 1 1 rfl)) rfl ?_
    rintro _ w_k6 ⟨rfl, hs_k6⟩
    have hz_k6 := hs_k6.size
    first | have hP := PSt.below hP hs_k6 | have hP := PSt.kp hP hs_k6 | skip
    first | have hB_o6 := Blk.below hB_o6 hs_k6 | have hB_o6 := Blk.kp hB_o6 hs_k6 (by omega) | skip
    first | replace hs_k6 := Below.kp (p := p) hs_k6 | skip
    have hb := hb.trans hs_k6
    refine Wl.y (y_not rfl) rfl <| Wl.nil <| Wq.next hK_76 ?_
    refine Wc.cond rfl (fun c5_83 => ?_) (fun c5_83 => ?_)
    ·
     have c5_83_ := c5_83
     try simp only [DZ] at c5_83
     have h5 : ¬ isT en [[125]] r.tail = true := by have := c5_83_; simpa using this
     refine Wc.region <| Wl.mv rfl rfl ?_
     refine Wl.y (y_fieldAddr (fa43_2PsK _) rfl) rfl ?_
     refine Wl.l (l_load one3PsK rfl (by exact hB_o6.at (j := 2) rfl)) rfl ?_
     refine Wl.callP txt40PsK rfl rfl (whole_r p en (nextT en ts).a r.tail g 0 _ hP) rfl (fun v_ w_k7 hv_ => ?_) (fun c_ w_k7 hx_ => ?_)
     rotate_left
     ·
      obtain ⟨a_k7, e_k7, hF_k7, rfl, hPp_k7, hs_k7⟩ := hx_
      have hz_k7 := hs_k7.size
      have hb := hb.trans hs_k7
      refine Wq.then_panic <| Wq.then_panic ?_
      refine panics ?_
      exact outX ⟨_, _, by simp only [pTimes, if_neg h0', if_neg h1, if_neg h2, if_neg h3, hF, if_pos h4, if_neg h5, hF_k7], rfl, hPp_k7, hb⟩
     obtain ⟨⟨mx, r2, hF7, rfl, hP, hrl7⟩, hs_k7⟩ := hv_
     have hz_k7 := hs_k7.size
     have hB_o6 := hB_o6.kp hs_k7 (by omega)
     have hb := hb.trans hs_k7
     have hr2l : r2.length ≤ ts.length := by omega
     have hpt : pTimes en ts = pTimesE en (nextT en ts).a mn mx r2 := by simp only [pTimes, if_neg h0', if_neg h1, if_neg h2, if_neg h3, hF, if_pos h4, if_neg h5, hF7]; rfl
     refine Wl.sg rfl rfl <| Wl.nil ?_
     refine Wq.meet hM_69 (⟨mx, r2⟩) (by repeat first | exact Sub.nil | refine Sub.cons' rfl (by first | rfl | (rw [hmx]; first | done | rfl)) ?_) ?_
     first | exact ⟨hpt, hr2l, hb, hP, hB_o6⟩ | exact ⟨hpt, hr2l, hb, by rw [hr2]; exact hP, hB_o6⟩
    have c5_83_ := c5_83
    try simp only [DZ] at c5_83
    have h5 : isT en [[125]] r.tail = true := by have := c5_83_; simpa using this
    obtain ⟨mx, hmx⟩ : ∃ z : Int, z = -1 := ⟨_, rfl⟩
    obtain ⟨r2, hr2⟩ : ∃ z, z = r.tail := ⟨_, rfl⟩
    have hr2l : r2.length ≤ ts.length := by rw [hr2]; omega
    have hpt : pTimes en ts = pTimesE en (nextT en ts).a mn mx r2 := by rw [hr2, hmx]; simp only [pTimes, if_neg h0', if_neg h1, if_neg h2, if_neg h3, hF, if_pos h4, if_pos h5]; rfl
    refine Wc.skip ?_
    refine Wq.meet hM_69 (⟨mx, r2⟩) (by repeat first | exact Sub.nil | refine Sub.cons' rfl (by first | rfl | (rw [hmx]; first | done | rfl)) ?_) ?_
    first | exact ⟨hpt, hr2l, hb, hP, hB_o6⟩ | exact ⟨hpt, hr2l, hb, by rw [hr2]; exact hP, hB_o6⟩
   have c4_70_ := c4_70
   try simp only [DZ] at c4_70
   have h4 : ¬ isT en [[44]] r = true := by rw [c4_70_]; decide
   obtain ⟨mx, hmx⟩ : ∃ z, z = mn := ⟨_, rfl⟩
   obtain ⟨r2, hr2⟩ : ∃ z, z = r := ⟨_, rfl⟩
   have hr2l : r2.length ≤ ts.length := by rw [hr2]; omega
   have hpt : pTimes en ts = pTimesE en (nextT en ts).a mn mx r2 := by rw [hr2, hmx]; simp only [pTimes, if_neg h0', if_neg h1, if_neg h2, if_neg h3, hF, if_neg h4]; rfl
   refine Wc.skip ?_
   refine Wq.meet hM_69 (⟨mx, r2⟩) (by repeat first | exact Sub.nil | refine Sub.cons' rfl (by first | rfl | (rw [hmx]; first | done | rfl)) ?_) ?_
   first | exact ⟨hpt, hr2l, hb, hP, hB_o6⟩ | exact ⟨hpt, hr2l, hb, by rw [hr2]; exact hP, hB_o6⟩
  rintro ⟨mx, r2⟩ wr hI_89
  replace hI_89 : pTimes en ts = pTimesE en (nextT en ts).a mn mx r2 ∧ r2.length ≤ ts.length ∧ Kp p w wr ∧ PSt wr p en r2 g 0 ∧ Blk wr g_o6 43 [.int .i64 ((nextT en ts).k : Int), str (nextT en ts).t, .int .i64 ((nextT en ts).a : Int)] := hI_89
  obtain ⟨hT, hrl2, hb, hP, hB_o6⟩ := hI_89
  show Wq _ _ _ _ [(0, pptr p), (2, .int .i64 mn), (3, .int .i64 mx), (5, .pointer (some ⟨g_o6, 0, none⟩))] _
  try have hzhb_c4 := hb.size
  have hlhB_o6_c4 := hB_o6.lt
  refine Wq.next hK_62 <| Wc.seq fun _ hK_90 => Wc.region <| Wl.mv rfl rfl ?_
  refine Wl.callP txt150PsK rfl rfl (text_r p en [125] r2 g 0 _ hP) rfl (fun v_ w_k8 hv_ => ?_) (fun c_ w_k8 hx_ => ?_)
  rotate_left
  ·
   obtain ⟨a_k8, e_k8, hF_k8, rfl, hPp_k8, hs_k8⟩ := hx_
   have hz_k8 := hs_k8.size
   have hb := hb.trans hs_k8
   refine Wq.then_panic ?_
   refine panics ?_
   exact outX ⟨_, _, by rw [hT]; simp only [pTimesE, hF_k8], rfl, hPp_k8, hb⟩
  obtain ⟨⟨t8, r3, hF8, rfl, hP, hrl8⟩, hs_k8⟩ := hv_
  have hz_k8 := hs_k8.size
  have hB_o6 := hB_o6.kp hs_k8 (by omega)
  have hb := hb.trans hs_k8
  have hT2 : pTimes en ts = timesOk (nextT en ts).a mn mx r3 := by rw [hT]; simp only [pTimesE, hF8]
  refine Wl.nil <| Wq.next hK_90 <| Wc.seq fun _ hK_93 => Wc.block <| Wc.seq fun _ hK_94 => ?_
  refine Wc.meet (X := Bool) (fun q => [(0, pptr p), (2, .int .i64 mn), (3, .int .i64 mx), (5, .pointer (some ⟨g_o6, 0, none⟩)), (49, .bool q)]) (fun q wr => q = decide ((0 ≤ mx ∧ mx < mn) ∨ mx = 0) ∧ Kp p w wr ∧ PSt wr p en r3 g 0 ∧ Blk wr g_o6 43 [.int .i64 ((nextT en ts).k : Int), str (nextT en ts).t, .int .i64 ((nextT en ts).a : Int)]) (fun _ hM_95 => ?_) ?_
  ·
   refine Wc.region <| Wl.mv rfl rfl <| Wl.y (y_geqi rfl rfl) rfl <| Wl.mv rfl rfl ?_
   refine Wl.guardT rfl rfl rfl (fun g_99 => ?_) (fun g_99 => ?_)
   ·
    have g_99_ := g_99
    try simp only [DZ] at g_99
    refine Wl.mv rfl rfl <| Wl.on' rfl rfl g_99_ <| Wl.mv rfl rfl <| Wl.on' rfl rfl g_99_ <| Wl.y (y_gtri rfl rfl) rfl ?_
    refine Wl.y (y_pickT rfl g_99_ rfl) rfl ?_
    refine Wl.mv rfl rfl ?_
    refine Wl.guardF rfl rfl rfl (fun g_105 => ?_) (fun g_105 => ?_)
    ·
     have g_105_ := g_105
     try simp only [DZ] at g_105
     refine Wl.off' rfl rfl g_105_ rfl rfl ?_
     refine Wl.y (y_pickT rfl g_105_ rfl) rfl ?_
     refine Wl.sg rfl rfl <| Wl.nil ?_
     refine Wq.meet hM_95 (decide ((0 ≤ mx ∧ mx < mn) ∨ mx = 0)) (by repeat first | exact Sub.nil | refine Sub.cons' rfl (by first | rfl | exact bool_eq (by rw [Bool.eq_iff_iff]; simp_all <;> omega)) ?_) ?_
     exact ⟨rfl, hb, hP, hB_o6⟩
    have g_105_ := g_105
    try simp only [DZ] at g_105
    refine Wl.mv rfl rfl <| Wl.on' rfl rfl g_105_ <| Wl.y (y_eqli rfl rfl) rfl ?_
    refine Wl.y (y_pickF rfl g_105_ rfl) rfl ?_
    refine Wl.sg rfl rfl <| Wl.nil ?_
    refine Wq.meet hM_95 (decide ((0 ≤ mx ∧ mx < mn) ∨ mx = 0)) (by repeat first | exact Sub.nil | refine Sub.cons' rfl (by first | rfl | exact bool_eq (by rw [Bool.eq_iff_iff]; simp_all <;> omega)) ?_) ?_
    exact ⟨rfl, hb, hP, hB_o6⟩
   have g_99_ := g_99
   try simp only [DZ] at g_99
   refine Wl.off' rfl rfl g_99_ rfl rfl <| Wl.off' rfl rfl g_99_ rfl rfl ?_
   refine Wl.y (y_pickF rfl g_99_ rfl) rfl ?_
   refine Wl.mv rfl rfl <| Wl.on' rfl rfl rfl <| Wl.mv rfl rfl <| Wl.on' rfl rfl rfl <| Wl.y (y_eqli rfl rfl) rfl <| Wl.y (y_pickF rfl rfl rfl) rfl <| Wl.sg rfl rfl <| Wl.nil ?_
   refine Wq.meet hM_95 (decide ((0 ≤ mx ∧ mx < mn) ∨ mx = 0)) (by repeat first | exact Sub.nil | refine Sub.cons' rfl (by first | rfl | exact bool_eq (by rw [Bool.eq_iff_iff]; simp_all <;> omega)) ?_) ?_
   exact ⟨rfl, hb, hP, hB_o6⟩
  rintro q wr hI_118
  replace hI_118 : q = decide ((0 ≤ mx ∧ mx < mn) ∨ mx = 0) ∧ Kp p w wr ∧ PSt wr p en r3 g 0 ∧ Blk wr g_o6 43 [.int .i64 ((nextT en ts).k : Int), str (nextT en ts).t, .int .i64 ((nextT en ts).a : Int)] := hI_118
  obtain ⟨hq, hb, hP, hB_o6⟩ := hI_118
  show Wq _ _ _ _ [(0, pptr p), (2, .int .i64 mn), (3, .int .i64 mx), (5, .pointer (some ⟨g_o6, 0, none⟩)), (49, .bool q)] _
  try have hzhb_g19 := hb.size
  have hlhB_o6_g19 := hB_o6.lt
  refine Wq.next hK_94 ?_
  refine Wc.cond rfl (fun c6_119 => ?_) (fun c6_119 => ?_)
  ·
   have c6_119_ := c6_119
   try simp only [DZ] at c6_119
   have h6 := of_decide_eq_true (hq.symm.trans c6_119_)
   refine Wc.region ?_
   refine Wl.y (y_fieldAddr (fa43_2PsK _) rfl) rfl ?_
   refine Wl.l (l_load one3PsK rfl (by exact hB_o6.at (j := 2) rfl)) rfl ?_
   refine Wl.y (y_buildS (z := [(.int .i64 0), (.int .i64 0)]) (pl := [(0, 1), (1, 1)]) (cs := [_, _]) Tryz.underlying54 (by kernel_rfl) (by kernel_rfl) rfl rfl rfl) rfl ?_
   refine Wl.y (y_iface Tryz.underlying54 (by intro _ h; cases h) rfl) rfl ?_
   refine Wl.panic rfl ?_
   refine Wq.block_panic <| Wq.then_panic ?_
   refine panics ?_
   exact outX ⟨_, _, by rw [hT2]; exact if_pos h6, rfl, ⟨_, hP⟩, hb⟩
  have c6_119_ := c6_119
  try simp only [DZ] at c6_119
  have h6 := of_decide_eq_false (hq.symm.trans c6_119_)
  refine Wc.seq fun _ hK_124 => Wc.region <| Wl.mv rfl rfl <| Wl.mv rfl rfl <| Wl.y (y_max rfl rfl) rfl <| Wl.y (y_gtri rfl rfl) rfl <| Wl.sg rfl rfl <| Wl.nil <| Wq.next hK_124 ?_
  refine Wc.cond rfl (fun c7_130 => ?_) (fun c7_130 => ?_)
  ·
   have c7_130_ := c7_130
   try simp only [DZ] at c7_130
   have h7 : 20 < max mn mx := by have := c7_130; omega
   refine Wc.region ?_
   refine Wl.y (y_fieldAddr (fa43_2PsK _) rfl) rfl ?_
   refine Wl.l (l_load one3PsK rfl (by exact hB_o6.at (j := 2) rfl)) rfl ?_
   refine Wl.y (y_buildS (z := [(.int .i64 0), (.int .i64 0)]) (pl := [(0, 1), (1, 1)]) (cs := [_, _]) Tryz.underlying54 (by kernel_rfl) (by kernel_rfl) rfl rfl rfl) rfl ?_
   refine Wl.y (y_iface Tryz.underlying54 (by intro _ h; cases h) rfl) rfl ?_
   refine Wl.panic rfl ?_
   refine Wq.block_panic <| Wq.then_panic ?_
   refine panics ?_
   exact outX ⟨_, _, by rw [hT2, timesOk, if_neg h6]; exact if_pos h7, rfl, ⟨_, hP⟩, hb⟩
  have c7_130_ := c7_130
  try simp only [DZ] at c7_130
  have h7 : ¬ 20 < max mn mx := by have := c7_130; omega
  refine Wc.skip <| Wq.block_normal <| Wq.next hK_93 <| Wc.seq fun _ hK_135 => Wc.region <| Wl.mv rfl rfl <| Wl.mv rfl rfl <| Wl.sg rfl rfl <| Wl.sg rfl rfl <| Wl.sg rfl rfl ?_
  refine Wl.nil <| Wq.next hK_135 <| Wc.ret ?_
  refine ret3 rfl rfl rfl rfl ?_
  exact outR ⟨⟨some (mn, mx), r3, by rw [hT2, timesOk, if_neg h6]; exact if_neg h7, rfl, hP, by omega⟩, hb⟩
end Go.Proofs.YtjnabgddjogkbaaGreatDoor
namespace Go.Proofs.YtjnabgddjogkbaaGreatDoor
open Go.RowKit Go.Bw Go.Bw.Fl
set_option linter.unusedVariables false
set_option linter.unusedSimpArgs false
theorem sz31PsN : (Tryz.prog.info? 31).map (·.size) = some 20 := by kernel_rfl
theorem txt113PsN : Txt Tryz.prog 113 := ⟨_, Tryz.func113, by kernel_rfl, rfl⟩   -- (*bridleway/parse.parser).primary
theorem txt114PsN : Txt Tryz.prog 114 := ⟨_, Tryz.func114, by kernel_rfl, rfl⟩   -- (*bridleway/parse.parser).times
theorem txt67PsN : Txt Tryz.prog 67 := ⟨_, Tryz.func67, by kernel_rfl, rfl⟩   -- bridleway/parse.some
theorem txt88PsN : Txt Tryz.prog 88 := ⟨_, Tryz.func88, by kernel_rfl, rfl⟩   -- (*bridleway/parse.parser).item
theorem txt89PsN : Txt Tryz.prog 89 := ⟨_, Tryz.func89, by kernel_rfl, rfl⟩   -- (*bridleway/parse.parser).begins
theorem cell_row {a : Addr} {v : Value} {row : Option Nat} {w w' : World} (hg : w.grownBy w' row) (h : w.cell? a = some v) (hn : row ≠ some a.block) : w'.cell? a = some v := by
  have hb := hg.block a.block (block_lt h) (fun e => hn e.symm)
  unfold World.cell? at h ⊢
  rw [hb]; exact h
theorem Rd.row {sz n : Nat} {A : Option Addr} {xs : List Value} {row : Option Nat} {w w' : World} (h : Rd w sz A n xs) (hg : w.grownBy w' row) (hn : ∀ q, A = some q → row ≠ some q.block) : Rd w' sz A n xs :=
  ⟨h.1, fun h0 => let ⟨q, e, hc⟩ := h.2 h0; ⟨q, e, fun j u hu => cell_row hg (hc j u hu) (by rw [add_block]; exact hn q e)⟩⟩
theorem Keeps.row {w w' : World} {row : Option Nat} {S : Nat → Prop} (hg : w.grownBy w' row) (hp : ∀ k, S k → row ≠ some k) : Keeps w w' S := ⟨fun _ _ _ _ h h2 => Rd.row h hg fun q e => hp _ (h2 q e)⟩
theorem PSt.row {w w' : World} {p en : Nat} {ts : List Tok} {g b : Nat} {row : Option Nat} (h : PSt w p en ts g b) (hg : w.grownBy w' row) (hk : ∀ k, row = some k → p < k) : PSt w' p en ts g b := by
  cases row with
  | some k => exact h.over hg (hk k rfl)
  | none => exact h.below ⟨hg.os, hg.tape, hg.output, hg.size, fun k hk => hg.block k hk (by simp)⟩
theorem PAt.z {w : World} {S : Nat → Prop} {x : PatD} {cs : List Value} (h : PAt w S x cs) : ∃ z : PC, cs = z.cells := by
  obtain ⟨k, var, dir, l, wh, mn, mx, kids⟩ := x
  unfold PAt at h
  obtain ⟨lc, wc, A, c, kcs, h1, h2⟩ := h
  exact ⟨_, h1⟩
theorem PC.len (z : PC) : z.cells.length = 20 := rfl
theorem PLs.get {w : World} {S : Nat → Prop} : ∀ {l : List PatD} {xs : List Value} (_ : PLs w S l xs) {i : Nat} (hi : i < l.length), ∃ z : PC, PAt w S l[i] z.cells ∧ ∀ j, j < 20 → xs[i * 20 + j]? = z.cells[j]?
  | [], _, _, _, hi => absurd hi (Nat.not_lt_zero _)
  | e :: r, xs, h, 0, hi => by
    unfold PLs at h
    obtain ⟨c, ys, h1, h2, h3⟩ := h
    obtain ⟨z, rfl⟩ := h2.z
    exact ⟨z, h2, fun j hj => by rw [h1, Nat.zero_mul, Nat.zero_add, List.getElem?_append_left (by rw [z.len]; exact hj)]⟩
  | e :: r, xs, h, i + 1, hi => by
    unfold PLs at h
    obtain ⟨c, ys, h1, h2, h3⟩ := h
    obtain ⟨z0, rfl⟩ := h2.z
    obtain ⟨z, h4, h5⟩ := h3.get (i := i) (by simpa using hi)
    refine ⟨z, h4, fun j hj => ?_⟩
    rw [← h5 j hj, h1, List.getElem?_append_right (by rw [z0.len]; omega), z0.len]
    congr 1; omega
theorem Rd.kid {w : World} {S : Nat → Prop} {A : Option Addr} {l : List PatD} {xs : List Value} (h : Rd w 20 A l.length xs) (hL : PLs w S l xs) {i : Nat} (hi : i < l.length) : ∃ (p : Addr) (z : PC), A = some p ∧ PAt w S l[i] z.cells ∧ ∀ (j : Nat) (u : Value), z.cells[j]? = some u → w.cell? ((p.add (i * 20)).add j) = some u := by
  obtain ⟨z, h1, h2⟩ := hL.get hi
  obtain ⟨p, e, hc⟩ := h.2 (by rw [h.1]; omega)
  refine ⟨p, z, e, h1, fun j u hu => ?_⟩
  have hj : j < 20 := (List.getElem?_eq_some_iff.1 hu).1
  rw [addr_add_add]
  exact hc _ _ ((h2 j hj).trans hu)
theorem PAt.node {w : World} {S : Nat → Prop} {A : Option Addr} {n c : Nat} (k mn mx : Int) {kids : List PatD} {kcs : List Value} (hn : n = kids.length) (hR : Rd w 20 A kids.length kcs) (hg : ∀ q, A = some q → S q.block) (hL : PLs w S kids kcs) (hk : kids.length ≤ 65537 := by simp) : PAt w S (.mk k [] 0 noE noE mn mx kids) (PC.cells ⟨k, [], 0, ec0, ec0, mn, mx, A, n, c⟩) := by
  subst hn
  unfold PAt
  exact ⟨ec0, ec0, A, c, kcs, rfl, noE_at _ _, noE_at _ _, hR, hg, hL, hk⟩
theorem item_r (p en : Nat) (ts : List Tok) (g m n : Nat) (knot : Nat → List Tok → Res PatD) (hm : ts.length ≤ m) (hn : ts.length ≤ n) (w : World) (hP : PSt w p en ts g 0) (hD : PatKn w p en n knot) : Out Tryz.prog 88 [pptr p] w (PRes w p en g 0 ts.tail (pItem en m g knot ts) (PVal w.heap.size)) (PErr w p en g 0 (pItem en m g knot ts)) := by
  have hpl := hP.lt
  have hb := Kp.refl p w
  refine enter Tryz.func88 rfl rfl rfl ?_
  refine Wc.seq fun _ hK_1 => Wc.region ?_
  refine Wl.allocN (z := (.agg #[(.int .i64 0), (str []), (.int .i64 0), (.int .i64 0), (str []), (.int .i64 0), (.int .i64 0), (.float .f64 0), (str []), (.slice none 0 0), (.int .i64 0), (str []), (.int .i64 0), (.int .i64 0), (.float .f64 0), (str []), (.slice none 0 0), (.int .i64 0), (.int .i64 0), (.slice none 0 0)])) (by kernel_rfl) rfl ?_
  rintro g_o0 w_o0 hg_o0 hn_o0 hs_o0
  have hz_o0 := hs_o0.size
  have hP := hP.below hs_o0
  replace hs_o0 := Below.kp (p := p) hs_o0
  have hb := hb.trans hs_o0
  have hB_o0 := hn_o0
  have hl_o0 := hB_o0.lt
  refine Wl.nil <| Wq.next hK_1 <| Wc.seq fun _ hK_3 => Wc.region <| Wl.mv rfl rfl ?_
  refine Wl.callP txt113PsN rfl rfl (primary_r p en ts g m n knot hm hn _ hP (hD.kp hb)) rfl (fun v_ w_k0 hv_ => ?_) (fun c_ w_k0 hx_ => ?_)
  rotate_left
  ·
   obtain ⟨a_k0, e_k0, hF_k0, rfl, hPp_k0, hs_k0⟩ := hx_
   have hz_k0 := hs_k0.size
   have hb := hb.trans hs_k0
   refine Wq.then_panic ?_
   refine panics ?_
   exact outX ⟨_, _, by simp only [pItem, hF_k0], rfl, hPp_k0, hb⟩
  obtain ⟨⟨x, r, hF, ⟨z, Sz, rfl, hz, hz_S⟩, hP, hrl⟩, hs_k0⟩ := hv_
  have hz_k0 := hs_k0.size
  have hB_o0 := hB_o0.kp hs_k0 (by omega)
  have hb := hb.trans hs_k0
  refine Wl.allocN (z := (.agg #[(.int .i64 0), (str []), (.int .i64 0), (.int .i64 0), (str []), (.int .i64 0), (.int .i64 0), (.float .f64 0), (str []), (.slice none 0 0), (.int .i64 0), (str []), (.int .i64 0), (.int .i64 0), (.float .f64 0), (str []), (.slice none 0 0), (.int .i64 0), (.int .i64 0), (.slice none 0 0)])) (by kernel_rfl) rfl ?_
  rintro g_o2 w_o2 hg_o2 hn_o2 hs_o2
  have hz_o2 := hs_o2.size
  have hP := hP.below hs_o2
  have hB_o0 := hB_o0.below hs_o2
  have hz := hz.below hs_o2
  replace hs_o2 := Below.kp (p := p) hs_o2
  have hb := hb.trans hs_o2
  have hB_o2 := hn_o2
  have hl_o2 := hB_o2.lt
  refine Wl.storeS (by kernel_rfl) rfl rfl hB_o2 rfl rfl ?_
  rintro w_s0 hn_s0 hg_s0
  have hz_s0 := hg_s0.size
  have hb := kp_blk hb hg_s0 (by omega)
  try have hP := PSt.over hP hg_s0 (by omega)
  try have hB_o0 := hB_o0.over hg_s0 (by omega)
  try have hz := PAt.kp hz hg_s0 (fun h_ => by have h2_ := hz_S _ h_; omega)
  have hB_o2 := hn_s0
  refine Wl.nil <| Wq.next hK_3 <| Wc.seq fun _ hK_7 => Wc.seq fun _ hK_8 => Wc.region <| Wl.mv rfl rfl ?_
  refine Wl.callP txt114PsN rfl rfl (times_r p en r g _ hP) rfl (fun v_ w_k1 hv_ => ?_) (fun c_ w_k1 hx_ => ?_)
  rotate_left
  ·
   obtain ⟨a_k1, e_k1, hF_k1, rfl, hPp_k1, hs_k1⟩ := hx_
   have hz_k1 := hs_k1.size
   have hb := hb.trans hs_k1
   refine Wq.then_panic <| Wq.then_panic ?_
   refine panics ?_
   exact outX ⟨_, _, by simp only [pItem, hF, hF_k1], rfl, hPp_k1, hb⟩
  obtain ⟨⟨o, r2, hF2, rfl, hP, hrl2⟩, hs_k1⟩ := hv_
  have hz_k1 := hs_k1.size
  have hB_o0 := hB_o0.kp hs_k1 (by omega)
  try have hz := hz.kp hs_k1 (fun h_ => by have h2_ := hz_S _ h_; omega)
  have hB_o2 := hB_o2.kp hs_k1 (by omega)
  have hb := hb.trans hs_k1
  refine Wl.mv rfl rfl <| Wl.y (y_extract rfl rfl) rfl <| Wl.y (y_extract rfl rfl) rfl <| Wl.y (y_extract rfl rfl) rfl <| Wl.sg rfl rfl <| Wl.sg rfl rfl <| Wl.sg rfl rfl <| Wl.nil <| Wq.next hK_8 <| Wc.seq fun _ hK_18 => ?_
  refine Wc.region <| Wl.mv rfl rfl <| Wl.nil <| Wq.next hK_18 ?_
  refine Wc.cond rfl (fun c0_20 => ?_) (fun c0_20 => ?_)
  ·
   have c0_20_ := c0_20
   try simp only [DZ] at c0_20
   obtain ⟨⟨mn, mx⟩, rfl⟩ := Option.isSome_iff_exists.1 (show o.isSome = true from c0_20_)
   refine Wc.seq fun _ hK_21 => Wc.region <| Wl.mv rfl rfl <| Wl.mv rfl rfl ?_
   refine Wl.l (l_loadS Tryz.underlying31 (by kernel_rfl) rfl (by exact fun j u hu => hB_o2.at hu)) rfl ?_
   refine Wl.litN (sz := 20) (vs := [_]) Tryz.underlying29 (by kernel_rfl) rfl rfl rfl rfl rfl rfl ?_
   rintro g_b0 w_b0 hg_b0 hn_b0 hs_b0
   have hz_b0 := hs_b0.size
   have hP := hP.below hs_b0
   have hB_o0 := hB_o0.below hs_b0
   have hz := hz.below hs_b0
   replace hs_b0 := Below.kp (p := p) hs_b0
   have hb := hb.trans hs_b0
   have hB_b0 := hn_b0
   have hl_b0 := hB_b0.lt
   refine Wl.y (y_buildS (z := [(.int .i64 0), (str []), (.int .i64 0), (.int .i64 0), (str []), (.int .i64 0), (.int .i64 0), (.float .f64 0), (str []), (.slice none 0 0), (.int .i64 0), (str []), (.int .i64 0), (.int .i64 0), (.float .f64 0), (str []), (.slice none 0 0), (.int .i64 0), (.int .i64 0), (.slice none 0 0)]) (pl := [(0, 1), (1, 1), (2, 1), (3, 7), (10, 7), (17, 1), (18, 1), (19, 1)]) (cs := [_, _, _, _, _, _, _, _, _, _, _, _, _, _, _, _, _, _, _, _]) Tryz.underlying31 (by kernel_rfl) (by kernel_rfl) rfl rfl rfl) rfl ?_
   refine Wl.storeS (by kernel_rfl) rfl rfl hB_o0 rfl rfl ?_
   rintro w_s1 hn_s1 hg_s1
   have hz_s1 := hg_s1.size
   have hb := kp_blk hb hg_s1 (by omega)
   try have hP := PSt.over hP hg_s1 (by omega)
   try have hz := PAt.kp hz hg_s1 (fun h_ => by have h2_ := hz_S _ h_; omega)
   try have hB_b0 := hB_b0.over hg_s1 (by omega)
   have hB_o0 := hn_s1
   refine Wl.nil <| Wq.next hK_21 <| Wc.ret <| Wq.then_ret ?_
   refine retN (rs := [.cell 2 31]) (vs := [_]) rfl (.cell rfl (loadS Tryz.underlying31 (by kernel_rfl) (fun j u hu => hB_o0.at hu)) .nil) ?_
   exact outR ⟨⟨_, r2, by simp only [pItem, hF, hF2], ⟨⟨5, [], 0, ec0, ec0, mn, mx, some ⟨g_b0, 0, none⟩, 1, 1⟩, fun q => Sz q ∨ q = g_b0, rfl, PAt.node 5 mn mx (kids := [x]) rfl (hB_b0.rd 1 20 rfl) (fun q e => by cases e; exact .inr rfl) ((PLs.one hz).mono fun _ h => .inl h), fun k hk => by rcases hk with h | h; (· have := hz_S k h; omega); (· have := hB_b0.lt; omega)⟩, hP, by omega⟩, hb⟩
  have c0_20_ := c0_20
  try simp only [DZ] at c0_20
  obtain rfl : o = none := by have h_ : o.isSome = false := c0_20_; cases o with | none => rfl | some q => cases h_
  refine Wc.skip <| Wq.next hK_7 <| Wc.seq fun _ hK_27 => Wc.region ?_
  refine Wl.l (l_loadS Tryz.underlying31 (by kernel_rfl) rfl (by exact fun j u hu => hB_o2.at hu)) rfl ?_
  refine Wl.storeS (by kernel_rfl) rfl rfl hB_o0 rfl rfl ?_
  rintro w_s2 hn_s2 hg_s2
  have hz_s2 := hg_s2.size
  have hb := kp_blk hb hg_s2 (by omega)
  try have hP := PSt.over hP hg_s2 (by omega)
  try have hz := PAt.kp hz hg_s2 (fun h_ => by have h2_ := hz_S _ h_; omega)
  have hB_o0 := hn_s2
  refine Wl.nil <| Wq.next hK_27 <| Wc.ret ?_
  refine retN (rs := [.cell 2 31]) (vs := [_]) rfl (.cell rfl (loadS Tryz.underlying31 (by kernel_rfl) (fun j u hu => hB_o0.at hu)) .nil) ?_
  exact outR ⟨⟨x, r2, by simp only [pItem, hF, hF2], ⟨z, Sz, rfl, hz, fun k hk => by have := hz_S k hk; omega⟩, hP, by omega⟩, hb⟩
theorem some_r (k : Int) (A : Option Addr) (c : Nat) (l : List PatD) (xs : List Value) (S : Nat → Prop) (h0 : 0 < l.length) (hl : l.length ≤ 65537) (w : World) (hR : Rd w 20 A l.length xs) (hL : PLs w S l xs) : Ret Tryz.prog 67 [.int .i64 k, .slice A l.length c] w fun v w' => (∃ z : PC, v = z.enc ∧ PAt w' (fun q => S q ∨ ∃ a, A = some a ∧ q = a.block) (someP k l) z.cells) ∧ Below w.heap.size w w' := by
  have hb := Below.refl w.heap.size w
  have hR_hb := hR
  have hL_hb := hL
  refine enter Tryz.func67 rfl rfl rfl ?_
  refine Wc.seq fun _ hK_1 => Wc.region ?_
  refine Wl.allocN (z := (.agg #[(.int .i64 0), (str []), (.int .i64 0), (.int .i64 0), (str []), (.int .i64 0), (.int .i64 0), (.float .f64 0), (str []), (.slice none 0 0), (.int .i64 0), (str []), (.int .i64 0), (.int .i64 0), (.float .f64 0), (str []), (.slice none 0 0), (.int .i64 0), (.int .i64 0), (.slice none 0 0)])) (by kernel_rfl) rfl ?_
  rintro g_o0 w_o0 hg_o0 hn_o0 hs_o0
  have hz_o0 := hs_o0.size
  have hb := hb.trans (hs_o0.mono hb.size)
  have hR := hR_hb.below hb
  have hL := hL_hb.below hb
  have hB_o0 := hn_o0
  have hl_o0 := hB_o0.lt
  refine Wl.nil <| Wq.next hK_1 <| Wc.seq fun _ hK_3 => Wc.seq fun _ hK_4 => Wc.region <| Wl.mv rfl rfl ?_
  refine Wl.y (y_lenl Tryz.underlying29 (by omega) rfl) rfl ?_
  refine Wl.y (y_eqli rfl rfl) rfl <| Wl.nil <| Wq.next hK_4 ?_
  refine Wc.cond rfl (fun c0_8 => ?_) (fun c0_8 => ?_)
  ·
   have c0_8_ := c0_8
   try simp only [DZ] at c0_8
   have h1 : l.length = 1 := by have := c0_8; omega
   refine Wc.seq fun _ hK_9 => Wc.region <| Wl.mv rfl rfl ?_
   obtain ⟨p_, z, hpe, hz, hcell⟩ := Rd.kid hR_hb hL_hb h0
   subst hpe
   refine Wl.y (y_indexAddr Tryz.underlying29 sz31PsN rfl rfl (by omega) (by omega)) rfl ?_
   refine Wl.l (l_loadS Tryz.underlying31 (by kernel_rfl) rfl (by exact fun j u hu => cell_below hb (hcell j u hu))) rfl ?_
   refine Wl.storeS (by kernel_rfl) rfl rfl hB_o0 rfl rfl ?_
   rintro w_s0 hn_s0 hg_s0
   have hz_s0 := hg_s0.size
   have hb := below_blk hb hg_s0 hb.size (by omega)
   have hR := hR_hb.below hb
   have hL := hL_hb.below hb
   have hB_o0 := hn_s0
   refine Wl.nil <| Wq.next hK_9 <| Wc.ret <| Wq.then_ret ?_
   refine retN (rs := [.cell 4 31]) (vs := [_]) rfl (.cell rfl (loadS Tryz.underlying31 (by kernel_rfl) (fun j u hu => hB_o0.at hu)) .nil) ?_
   exact ⟨_, rfl, ⟨z, rfl, by obtain ⟨x, rfl⟩ := List.length_eq_one_iff.1 h1; exact (PAt.below hz hb).mono fun _ h => .inl h⟩, hb⟩
  have c0_8_ := c0_8
  try simp only [DZ] at c0_8
  have h1 : l.length ≠ 1 := by have := c0_8; omega
  refine Wc.skip <| Wq.next hK_3 <| Wc.seq fun _ hK_13 => Wc.region <| Wl.mv rfl rfl <| Wl.mv rfl rfl ?_
  refine Wl.y (y_buildS (z := [(.int .i64 0), (str []), (.int .i64 0), (.int .i64 0), (str []), (.int .i64 0), (.int .i64 0), (.float .f64 0), (str []), (.slice none 0 0), (.int .i64 0), (str []), (.int .i64 0), (.int .i64 0), (.float .f64 0), (str []), (.slice none 0 0), (.int .i64 0), (.int .i64 0), (.slice none 0 0)]) (pl := [(0, 1), (1, 1), (2, 1), (3, 7), (10, 7), (17, 1), (18, 1), (19, 1)]) (cs := [_, _, _, _, _, _, _, _, _, _, _, _, _, _, _, _, _, _, _, _]) Tryz.underlying31 (by kernel_rfl) (by kernel_rfl) rfl rfl rfl) rfl ?_
  refine Wl.storeS (by kernel_rfl) rfl rfl hB_o0 rfl rfl ?_
  rintro w_s1 hn_s1 hg_s1
  have hz_s1 := hg_s1.size
  have hb := below_blk hb hg_s1 hb.size (by omega)
  have hR := hR_hb.below hb
  have hL := hL_hb.below hb
  have hB_o0 := hn_s1
  refine Wl.nil <| Wq.next hK_13 <| Wc.ret ?_
  refine retN (rs := [.cell 4 31]) (vs := [_]) rfl (.cell rfl (loadS Tryz.underlying31 (by kernel_rfl) (fun j u hu => hB_o0.at hu)) .nil) ?_
  exact ⟨_, rfl, ⟨⟨k, [], 0, ec0, ec0, 0, 0, A, l.length, c⟩, rfl, by have e : someP k l = .mk k [] 0 noE noE 0 0 l := (by cases l with | nil => rfl | cons a r => cases r with | nil => exact absurd rfl h1 | cons b r => rfl); rw [e]; exact PAt.node k 0 0 rfl hR (fun q e => .inr ⟨q, e, rfl⟩) (hL.mono fun _ h => .inl h) hl⟩, hb⟩
theorem PC.one (z : PC) : ∀ u ∈ z.cells, u.oneCell' = true := fun u hu => List.all_eq_true.1 (show z.cells.all (·.oneCell') = true from rfl) u hu
def rowRes (k : Int) : Res (List PatD) → Res PatD
  | .ok l r => .ok (someP k l) r
  | .err a e => .err a e
theorem pRow_eq (k : Int) (go : List Tok → Option (List Tok)) (one : List Tok → Res PatD) (ts : List Tok) : pRow k go one ts = match one ts with
    | .err a e => .err a e
    | .ok x r => rowRes k (rowGo go one r.length [x] r) := by
  unfold pRow
  cases one ts with
  | err a e => rfl
  | ok x r => cases h : rowGo go one r.length [x] r <;> simp only [h, rowRes]
theorem branch_r (p en : Nat) (ts : List Tok) (g m n : Nat) (knot : Nat → List Tok → Res PatD) (hm : ts.length ≤ m) (hn : ts.length ≤ n) (w : World) (hP : PSt w p en ts g 0) (hD : PatKn w p en n knot) : Out Tryz.prog 66 [pptr p] w (PRes w p en g 0 ts.tail (pBranch en m g knot ts) (PVal w.heap.size)) (PErr w p en g 0 (pBranch en m g knot ts)) := by
  have hpl := hP.lt
  have hl65 : ts.length ≤ 65536 := let ⟨_, _, _, h, _⟩ := hP.ex; h
  have hrt : ts.tail.length = ts.length - 1 := List.length_tail
  have hb := Kp.refl p w
  refine enter Tryz.func66 rfl rfl rfl ?_
  refine Wc.seq fun _ hK_1 => Wc.region ?_
  refine Wl.allocN (z := (.agg #[(.int .i64 0), (str []), (.int .i64 0), (.int .i64 0), (str []), (.int .i64 0), (.int .i64 0), (.float .f64 0), (str []), (.slice none 0 0), (.int .i64 0), (str []), (.int .i64 0), (.int .i64 0), (.float .f64 0), (str []), (.slice none 0 0), (.int .i64 0), (.int .i64 0), (.slice none 0 0)])) (by kernel_rfl) rfl ?_
  rintro g_o0 w_o0 hg_o0 hn_o0 hs_o0
  have hz_o0 := hs_o0.size
  have hP := hP.below hs_o0
  replace hs_o0 := Below.kp (p := p) hs_o0
  have hb := hb.trans hs_o0
  have hB_o0 := hn_o0
  have hl_o0 := hB_o0.lt
  refine Wl.nil <| Wq.next hK_1 <| Wc.seq fun _ hK_3 => Wc.region <| Wl.mv rfl rfl ?_
  refine Wl.callP txt88PsN rfl rfl (item_r p en ts g m n knot hm hn _ hP (hD.kp hb)) rfl (fun v_ w_k0 hv_ => ?_) (fun c_ w_k0 hx_ => ?_)
  rotate_left
  ·
   obtain ⟨a_k0, e_k0, hF_k0, rfl, hPp_k0, hs_k0⟩ := hx_
   have hz_k0 := hs_k0.size
   have hb := hb.trans hs_k0
   refine Wq.then_panic ?_
   refine panics ?_
   exact outX ⟨_, _, by rw [pBranch, pRow_eq, hF_k0], rfl, hPp_k0, hb⟩
  obtain ⟨⟨x, r, hF, ⟨z, Sz, rfl, hz, hz_S⟩, hP, hrl⟩, hs_k0⟩ := hv_
  have hz_k0 := hs_k0.size
  have hB_o0 := hB_o0.kp hs_k0 (by omega)
  have hb := hb.trans hs_k0
  refine Wl.litN (sz := 20) (vs := [_]) Tryz.underlying29 (by kernel_rfl) rfl rfl rfl rfl rfl rfl ?_
  rintro g_b0 w_b0 hg_b0 hn_b0 hs_b0
  have hz_b0 := hs_b0.size
  have hP := hP.below hs_b0
  have hB_o0 := hB_o0.below hs_b0
  have hz := hz.below hs_b0
  replace hs_b0 := Below.kp (p := p) hs_b0
  have hb := hb.trans hs_b0
  have hB_b0 := hn_b0
  have hl_b0 := hB_b0.lt
  refine Wl.sg rfl rfl <| Wl.nil <| Wq.next hK_3 <| Wc.seq fun _ hK_8 => Wc.block ?_
  refine Wc.loop (X := Value × List PatD × List Value × (Nat → Prop) × List Tok × Nat) (fun (v, l, xs, S, r, n1) => [(0, pptr p), (2, .pointer (some ⟨g_o0, 0, none⟩)), (3, v)]) (fun (v, l, xs, S, r, n1) wr => pBranch en m g knot ts = rowRes 3 (rowGo (fun ts => if beginsT en ts = true then some ts else none) (pItem en m g knot) n1 l r) ∧ r.length ≤ n1 ∧ r.length ≤ ts.tail.length ∧ 0 < l.length ∧ l.length + r.length ≤ ts.length + 1 ∧ Kp p w wr ∧ PSt wr p en r g 0 ∧ wr.ownsRow w.heap.size 31 20 v l.length xs ∧ PLs wr S l xs ∧ (∀ k, S k → w.heap.size ≤ k ∧ k < wr.heap.size ∧ k ≠ g_o0) ∧ (∀ k, S k → v.ownBlock ≠ some k) ∧ v.ownBlock ≠ some g_o0 ∧ Blk wr g_o0 31 pc0.cells) (fun (v, l, xs, S, r, n1) => r.length) (⟨.slice (some ⟨g_b0, 0, none⟩) 1 1, [x], z.cells, Sz, r, r.length⟩) ?_ ?_ ?_
  · exact by repeat first | exact Sub.nil | refine Sub.cons' rfl (by first | rfl | exact int_eq (by omega) | exact int_eq (by simp) | (simp; done)) ?_
  · exact ⟨by rw [pBranch, pRow_eq, hF], Nat.le_refl _, hrl, Nat.one_pos, by show 1 + r.length ≤ _; omega, hb, hP, hB_b0.own (base := w.heap.size) (n := 1) (sz := 20) (by omega) rfl (by decide), PLs.one hz, fun k hk => by have := hz_S k hk; omega, fun k hk e => by have := hz_S k hk; have e : g_b0 = k := Option.some.inj e; omega, fun e => by have e : g_b0 = g_o0 := Option.some.inj e; omega, hB_o0⟩
  rintro ⟨v, l, xs, S, r, n1⟩ wr hI_10 _ hL_9
  replace hI_10 : pBranch en m g knot ts = rowRes 3 (rowGo (fun ts => if beginsT en ts = true then some ts else none) (pItem en m g knot) n1 l r) ∧ r.length ≤ n1 ∧ r.length ≤ ts.tail.length ∧ 0 < l.length ∧ l.length + r.length ≤ ts.length + 1 ∧ Kp p w wr ∧ PSt wr p en r g 0 ∧ wr.ownsRow w.heap.size 31 20 v l.length xs ∧ PLs wr S l xs ∧ (∀ k, S k → w.heap.size ≤ k ∧ k < wr.heap.size ∧ k ≠ g_o0) ∧ (∀ k, S k → v.ownBlock ≠ some k) ∧ v.ownBlock ≠ some g_o0 ∧ Blk wr g_o0 31 pc0.cells := hI_10
  obtain ⟨hF, hn1, hrl, hl0, hlr, hb, hP, hO, hL, hL_S, hL_O, hO0, hB_o0⟩ := hI_10
  show Wc _ _ _ _ _ [(0, pptr p), (2, .pointer (some ⟨g_o0, 0, none⟩)), (3, v)] _
  try have hzhb_L0 := hb.size
  have hlhB_o0_L0 := hB_o0.lt
  refine Wc.seq fun _ hK_11 => Wc.seq fun _ hK_12 => Wc.region <| Wl.mv rfl rfl ?_
  refine Wl.call txt89PsN rfl rfl (begins_r p en r g 0 _ hP) rfl ?_
  rintro _ w_k1 ⟨rfl, hs_k1⟩
  have hz_k1 := hs_k1.size
  first | have hP := PSt.below hP hs_k1 | have hP := PSt.kp hP hs_k1 | skip
  first | have hO := own_below hO hs_k1 | have hO := own_kp hO hs_k1 (by omega) | skip
  first | have hL := PLs.below hL hs_k1 | have hL := PLs.kp hL hs_k1 (fun h_ => by have h2_ := hL_S _ h_; omega) | skip
  first | have hB_o0 := Blk.below hB_o0 hs_k1 | have hB_o0 := Blk.kp hB_o0 hs_k1 (by omega) | skip
  first | replace hs_k1 := Below.kp (p := p) hs_k1 | skip
  have hb := hb.trans hs_k1
  refine Wl.nil <| Wq.next hK_12 ?_
  refine Wc.cond rfl (fun c0_15 => ?_) (fun c0_15 => ?_)
  ·
   have c0_15_ := c0_15
   try simp only [DZ] at c0_15
   have h1 : beginsT en r = true := c0_15_
   have hr0 := List.length_pos_iff.2 (begins_ne h1)
   have hrt2 : r.tail.length = r.length - 1 := List.length_tail
   have hvk : ∀ k, v.ownBlock = some k → k < w_k1.heap.size := fun k hk => (own_ge hO k hk).2
   obtain ⟨n1, rfl⟩ : ∃ k, n1 = k + 1 := ⟨n1 - 1, by omega⟩
   refine Wc.skip <| Wq.next hK_11 <| Wc.block <| Wc.region <| Wl.mv rfl rfl <| Wl.mv rfl rfl ?_
   refine Wl.callP txt88PsN rfl rfl (item_r p en r g m n knot (by omega) (by omega) _ hP (hD.kp hb)) rfl (fun v_ w_k2 hv_ => ?_) (fun c_ w_k2 hx_ => ?_)
   rotate_left
   ·
    obtain ⟨a_k2, e_k2, hF_k2, rfl, hPp_k2, hs_k2⟩ := hx_
    have hz_k2 := hs_k2.size
    have hb := hb.trans hs_k2
    refine Wq.block_panic <| Wq.then_panic <| Wq.block_panic <| Wq.then_panic ?_
    refine panics ?_
    exact outX ⟨_, _, by rw [hF]; simp only [rowGo, if_pos h1, hF_k2, rowRes], rfl, hPp_k2, hb⟩
   obtain ⟨⟨y, r2, hF2, ⟨z, Sz, rfl, hz, hz_S⟩, hP, hrl2⟩, hs_k2⟩ := hv_
   have hz_k2 := hs_k2.size
   try have hO := own_kp hO hs_k2 (by omega)
   try have hL := hL.kp hs_k2 (fun h_ => by have h2_ := hL_S _ h_; omega)
   have hB_o0 := hB_o0.kp hs_k2 (by omega)
   have hb := hb.trans hs_k2
   refine Wl.litN (sz := 20) (vs := [_]) Tryz.underlying29 (by kernel_rfl) rfl rfl rfl rfl rfl rfl ?_
   rintro g_b1 w_b1 hg_b1 hn_b1 hs_b1
   have hz_b1 := hs_b1.size
   have hP := hP.below hs_b1
   have hO := own_below hO hs_b1
   have hL := hL.below hs_b1
   have hB_o0 := hB_o0.below hs_b1
   have hz := hz.below hs_b1
   replace hs_b1 := Below.kp (p := p) hs_b1
   have hb := hb.trans hs_b1
   have hB_b1 := hn_b1
   have hl_b1 := hB_b1.lt
   have hO_0 := hO
   refine Wl.append (z := (.agg #[(.int .i64 0), (str []), (.int .i64 0), (.int .i64 0), (str []), (.int .i64 0), (.int .i64 0), (.float .f64 0), (str []), (.slice none 0 0), (.int .i64 0), (str []), (.int .i64 0), (.int .i64 0), (.float .f64 0), (str []), (.slice none 0 0), (.int .i64 0), (.int .i64 0), (.slice none 0 0)])) (sz := 20) (bytes := 248) Tryz.underlying29 (by kernel_rfl) rfl (by decide) _ rfl hO rfl (hB_b1.rd 1 20 rfl) z.one (by simp only [maxLen]; omega) (by omega) (by first | exact hb.size | omega) rfl ?_
   rintro v_b2 w_b2 hn_b2 hg_b2 ha_b2
   have hz_b2 := hg_b2.size
   have hb := kp_row hb hg_b2 (fun k_ hk_ => by have := (own_ge hO k_ hk_).1; omega)
   try have hP := PSt.grown hP hg_b2
   try have hL := PLs.grown hL hg_b2
   try have hB_o0 := Blk.grown hB_o0 hg_b2 (by simp [Value.ownBlock]; omega)
   try have hz := PAt.grown hz hg_b2
   have hO := hn_b2
   have hP := hP.row hg_b2 (fun k hk => by have := (own_ge hO_0 k hk).1; omega)
   have hL := PLs.lift (Keeps.row hg_b2 hL_O) (fun _ h => h) hL
   have hz := PAt.lift (Keeps.row hg_b2 (fun k hk e => by have := hvk k e; have := hz_S k hk; omega)) (fun _ h => h) hz
   have hB_o0 := hB_o0.grown hg_b2 (fun e => hO0 e.symm)
   refine Wl.sg rfl rfl <| Wl.nil <| Wq.block_normal ?_
   refine fun a_ ha_ => hL_9 _ _ (⟨v_b2, l ++ [y], xs ++ z.cells, fun k => S k ∨ Sz k, r2, n1⟩) (by first | omega | (simp; omega)) (by repeat first | exact Sub.nil | refine Sub.cons' rfl (by first | rfl | exact int_eq (by omega) | exact int_eq (by simp) | (simp; done)) ?_) ?_ a_ ha_
   exact ⟨by rw [hF]; simp only [rowGo, if_pos h1, hF2], by omega, by omega, by rw [List.length_append]; omega, by rw [List.length_append]; show l.length + 1 + r2.length ≤ _; omega, hb, hP, by rw [List.length_append]; exact hO, PLs.snoc (hL.mono fun _ h => .inl h) (hz.mono fun _ h => .inr h), fun k hk => by rcases hk with h | h; (· have := hL_S k h; omega); (· have := hz_S k h; omega), fun k hk e => by rcases ha_b2 with h3 | h3; (· rw [h3] at e; rcases hk with h | h; (· exact hL_O k h e); (· have := hvk k e; have := hz_S k h; omega)); (· rw [h3] at e; injection e with e; rcases hk with h | h; (· have := hL_S k h; omega); (· have := hz_S k h; omega)), fun e => by rcases ha_b2 with h3 | h3; (· rw [h3] at e; exact hO0 e); (· rw [h3] at e; injection e with e; omega), hB_o0⟩
  have c0_15_ := c0_15
  try simp only [DZ] at c0_15
  have h1 : ¬ beginsT en r = true := by rw [c0_15_]; decide
  refine Wc.exit ?_
  refine Wq.then_exit <| Wq.then_exit <| Wq.block_exit <| Wq.next hK_8 <| Wc.seq fun _ hK_22 => ?_
  obtain ⟨A, c, rfl, hnc, hmx⟩ := own_form hO
  have hR := Rd.of_own hO
  have hA : ∀ q, A = some q → w.heap.size ≤ q.block ∧ q.block < w_k1.heap.size ∧ q.block ≠ g_o0 := fun q e => by
    subst e
    have hq : (Value.slice (some q) l.length c).ownBlock = some q.block := rfl
    have := own_ge hO q.block hq
    exact ⟨this.1, this.2, fun e => hO0 (by rw [hq, e])⟩
  refine Wc.region <| Wl.mv rfl rfl ?_
  refine Wl.call txt67PsN rfl rfl (some_r 3 A c l xs S hl0 (by omega) _ hR hL) rfl ?_
  rintro _ w_k3 ⟨⟨z, rfl, hz⟩, hs_k3⟩
  have hz_k3 := hs_k3.size
  first | have hP := PSt.below hP hs_k3 | have hP := PSt.kp hP hs_k3 | skip
  first | have hB_o0 := Blk.below hB_o0 hs_k3 | have hB_o0 := Blk.kp hB_o0 hs_k3 (by omega) | skip
  first | replace hs_k3 := Below.kp (p := p) hs_k3 | skip
  have hb := hb.trans hs_k3
  have hz_S : ∀ k, (S k ∨ ∃ a, A = some a ∧ k = a.block) → w.heap.size ≤ k ∧ k < w_k1.heap.size ∧ k ≠ g_o0 := fun k hk => by
    rcases hk with h | ⟨a, e, rfl⟩
    · have := hL_S k h; omega
    · exact hA a e
  refine Wl.storeS (by kernel_rfl) rfl rfl hB_o0 rfl rfl ?_
  rintro w_s0 hn_s0 hg_s0
  have hz_s0 := hg_s0.size
  have hb := kp_blk hb hg_s0 (by omega)
  try have hP := PSt.over hP hg_s0 (by omega)
  try have hz := PAt.kp hz hg_s0 (fun h_ => by have h2_ := hz_S _ h_; omega)
  have hB_o0 := hn_s0
  refine Wl.nil <| Wq.next hK_22 <| Wc.ret ?_
  refine retN (rs := [.cell 2 31]) (vs := [_]) rfl (.cell rfl (loadS Tryz.underlying31 (by kernel_rfl) (fun j u hu => hB_o0.at hu)) .nil) ?_
  exact outR ⟨⟨_, r, by rw [hF]; cases n1 <;> simp only [rowGo, if_neg h1, rowRes], ⟨z, _, rfl, hz, fun k hk => by have := hz_S k hk; omega⟩, hP, hrl⟩, hb⟩
end Go.Proofs.YtjnabgddjogkbaaGreatDoor
namespace Go.Proofs.YtjnabgddjogkbaaGreatDoor
open Go.RowKit Go.Bw Go.Bw.Fl
set_option linter.unusedVariables false
set_option linter.unusedSimpArgs false
theorem fa60_0PsO (p : Addr) (w : World) : (Instr.fieldAt 60 (.pointer (some p)) 0).run Tryz.prog w = .ok (.pointer (some (p.add 0))) w := run_fieldAt (i := 0) (sz := 1) Tryz.underlying60 rfl (by kernel_rfl) p w
theorem txt36PsO : Txt Tryz.prog 36 := ⟨_, Tryz.func36, by kernel_rfl, rfl⟩   -- (*bridleway/parse.row).is
theorem txt38PsO : Txt Tryz.prog 38 := ⟨_, Tryz.func38, by kernel_rfl, rfl⟩   -- (*bridleway/parse.parser).take
theorem txt66PsO : Txt Tryz.prog 66 := ⟨_, Tryz.func66, by kernel_rfl, rfl⟩   -- (*bridleway/parse.parser).branch
theorem txt67PsO : Txt Tryz.prog 67 := ⟨_, Tryz.func67, by kernel_rfl, rfl⟩   -- bridleway/parse.some
theorem pattern_r (p en : Nat) (ts : List Tok) (g m n : Nat) (knot : Nat → List Tok → Res PatD) (hm : ts.length ≤ m) (hn : ts.length ≤ n) (w : World) (hP : PSt w p en ts g 0) (hD : PatKn w p en n knot) : Out Tryz.prog 41 [pptr p] w (PRes w p en g 0 ts (pPatF en m g knot ts) (PVal w.heap.size)) (PErr w p en g 0 (pPatF en m g knot ts)) := by
  have hpl := hP.lt
  have hl65 : ts.length ≤ 65536 := let ⟨_, _, _, h, _⟩ := hP.ex; h
  have hrt : ts.tail.length = ts.length - 1 := List.length_tail
  have hb := Kp.refl p w
  refine enter Tryz.func41 rfl rfl rfl ?_
  refine Wc.seq fun _ hK_1 => Wc.region ?_
  refine Wl.allocN (z := (.agg #[(.int .i64 0), (str []), (.int .i64 0), (.int .i64 0), (str []), (.int .i64 0), (.int .i64 0), (.float .f64 0), (str []), (.slice none 0 0), (.int .i64 0), (str []), (.int .i64 0), (.int .i64 0), (.float .f64 0), (str []), (.slice none 0 0), (.int .i64 0), (.int .i64 0), (.slice none 0 0)])) (by kernel_rfl) rfl ?_
  rintro g_o0 w_o0 hg_o0 hn_o0 hs_o0
  have hz_o0 := hs_o0.size
  have hP := hP.below hs_o0
  replace hs_o0 := Below.kp (p := p) hs_o0
  have hb := hb.trans hs_o0
  have hB_o0 := hn_o0
  have hl_o0 := hB_o0.lt
  refine Wl.nil <| Wq.next hK_1 <| Wc.seq fun _ hK_3 => Wc.region <| Wl.mv rfl rfl ?_
  refine Wl.callP txt66PsO rfl rfl (branch_r p en ts g m n knot hm hn _ hP (hD.kp hb)) rfl (fun v_ w_k0 hv_ => ?_) (fun c_ w_k0 hx_ => ?_)
  rotate_left
  ·
   obtain ⟨a_k0, e_k0, hF_k0, rfl, hPp_k0, hs_k0⟩ := hx_
   have hz_k0 := hs_k0.size
   have hb := hb.trans hs_k0
   refine Wq.then_panic ?_
   refine panics ?_
   exact outX ⟨_, _, by rw [pPatF, pRow_eq, hF_k0], rfl, hPp_k0, hb⟩
  obtain ⟨⟨x, r, hF, ⟨z, Sz, rfl, hz, hz_S⟩, hP, hrl⟩, hs_k0⟩ := hv_
  have hz_k0 := hs_k0.size
  have hB_o0 := hB_o0.kp hs_k0 (by omega)
  have hb := hb.trans hs_k0
  refine Wl.litN (sz := 20) (vs := [_]) Tryz.underlying29 (by kernel_rfl) rfl rfl rfl rfl rfl rfl ?_
  rintro g_b0 w_b0 hg_b0 hn_b0 hs_b0
  have hz_b0 := hs_b0.size
  have hP := hP.below hs_b0
  have hB_o0 := hB_o0.below hs_b0
  have hz := hz.below hs_b0
  replace hs_b0 := Below.kp (p := p) hs_b0
  have hb := hb.trans hs_b0
  have hB_b0 := hn_b0
  have hl_b0 := hB_b0.lt
  refine Wl.sg rfl rfl <| Wl.nil <| Wq.next hK_3 <| Wc.seq fun _ hK_8 => Wc.block ?_
  refine Wc.loop (X := Value × List PatD × List Value × (Nat → Prop) × List Tok × Nat) (fun (v, l, xs, S, r, n1) => [(0, pptr p), (2, .pointer (some ⟨g_o0, 0, none⟩)), (3, v)]) (fun (v, l, xs, S, r, n1) wr => pPatF en m g knot ts = rowRes 4 (rowGo (fun ts => if isT en [[124]] ts = true then some ts.tail else none) (pBranch en m g knot) n1 l r) ∧ r.length ≤ n1 ∧ r.length ≤ ts.tail.length ∧ 0 < l.length ∧ l.length + r.length ≤ ts.length + 1 ∧ Kp p w wr ∧ PSt wr p en r g 0 ∧ wr.ownsRow w.heap.size 31 20 v l.length xs ∧ PLs wr S l xs ∧ (∀ k, S k → w.heap.size ≤ k ∧ k < wr.heap.size ∧ k ≠ g_o0) ∧ (∀ k, S k → v.ownBlock ≠ some k) ∧ v.ownBlock ≠ some g_o0 ∧ Blk wr g_o0 31 pc0.cells) (fun (v, l, xs, S, r, n1) => r.length) (⟨.slice (some ⟨g_b0, 0, none⟩) 1 1, [x], z.cells, Sz, r, r.length⟩) ?_ ?_ ?_
  · exact by repeat first | exact Sub.nil | refine Sub.cons' rfl (by first | rfl | exact int_eq (by omega) | exact int_eq (by simp) | (simp; done)) ?_
  · exact ⟨by rw [pPatF, pRow_eq, hF], Nat.le_refl _, hrl, Nat.one_pos, by show 1 + r.length ≤ _; omega, hb, hP, hB_b0.own (base := w.heap.size) (n := 1) (sz := 20) (by omega) rfl (by decide), PLs.one hz, fun k hk => by have := hz_S k hk; omega, fun k hk e => by have := hz_S k hk; have e : g_b0 = k := Option.some.inj e; omega, fun e => by have e : g_b0 = g_o0 := Option.some.inj e; omega, hB_o0⟩
  rintro ⟨v, l, xs, S, r, n1⟩ wr hI_10 _ hL_9
  replace hI_10 : pPatF en m g knot ts = rowRes 4 (rowGo (fun ts => if isT en [[124]] ts = true then some ts.tail else none) (pBranch en m g knot) n1 l r) ∧ r.length ≤ n1 ∧ r.length ≤ ts.tail.length ∧ 0 < l.length ∧ l.length + r.length ≤ ts.length + 1 ∧ Kp p w wr ∧ PSt wr p en r g 0 ∧ wr.ownsRow w.heap.size 31 20 v l.length xs ∧ PLs wr S l xs ∧ (∀ k, S k → w.heap.size ≤ k ∧ k < wr.heap.size ∧ k ≠ g_o0) ∧ (∀ k, S k → v.ownBlock ≠ some k) ∧ v.ownBlock ≠ some g_o0 ∧ Blk wr g_o0 31 pc0.cells := hI_10
  obtain ⟨hF, hn1, hrl, hl0, hlr, hb, hP, hO, hL, hL_S, hL_O, hO0, hB_o0⟩ := hI_10
  show Wc _ _ _ _ _ [(0, pptr p), (2, .pointer (some ⟨g_o0, 0, none⟩)), (3, v)] _
  try have hzhb_L0 := hb.size
  have hlhB_o0_L0 := hB_o0.lt
  refine Wc.seq fun _ hK_11 => Wc.seq fun _ hK_12 => Wc.region <| Wl.mv rfl rfl <| Wl.y (y_nilCheck rfl) rfl ?_
  refine Wl.y (y_fieldAddr (fa60_0PsO _) rfl) rfl ?_
  refine Wl.litN (sz := 1) (vs := [_]) Tryz.underlying45 (by kernel_rfl) rfl rfl rfl rfl rfl rfl ?_
  rintro g_b1 w_b1 hg_b1 hn_b1 hs_b1
  have hz_b1 := hs_b1.size
  have hP := hP.below hs_b1
  have hO := own_below hO hs_b1
  have hL := hL.below hs_b1
  have hB_o0 := hB_o0.below hs_b1
  replace hs_b1 := Below.kp (p := p) hs_b1
  have hb := hb.trans hs_b1
  have hB_b1 := hn_b1
  have hl_b1 := hB_b1.lt
  refine Wl.call txt36PsO rfl rfl (is_r p en r g 0 _ 1 [[124]] (by simp) _ hP (hB_b1.rd 1 1 rfl)) rfl ?_
  rintro _ w_k1 ⟨rfl, hs_k1⟩
  have hz_k1 := hs_k1.size
  first | have hP := PSt.below hP hs_k1 | have hP := PSt.kp hP hs_k1 | skip
  first | have hO := own_below hO hs_k1 | have hO := own_kp hO hs_k1 (by omega) | skip
  first | have hL := PLs.below hL hs_k1 | have hL := PLs.kp hL hs_k1 (fun h_ => by have h2_ := hL_S _ h_; omega) | skip
  first | have hB_o0 := Blk.below hB_o0 hs_k1 | have hB_o0 := Blk.kp hB_o0 hs_k1 (by omega) | skip
  first | replace hs_k1 := Below.kp (p := p) hs_k1 | skip
  have hb := hb.trans hs_k1
  refine Wl.nil <| Wq.next hK_12 ?_
  refine Wc.cond rfl (fun c0_18 => ?_) (fun c0_18 => ?_)
  ·
   have c0_18_ := c0_18
   try simp only [DZ] at c0_18
   have h1 : isT en [[124]] r = true := c0_18_
   have hr0 := List.length_pos_iff.2 (isT_ne h1)
   have hrt2 : r.tail.length = r.length - 1 := List.length_tail
   have hrt3 : r.tail.tail.length = r.tail.length - 1 := List.length_tail
   have hvk : ∀ k, v.ownBlock = some k → k < w_k1.heap.size := fun k hk => (own_ge hO k hk).2
   obtain ⟨n1, rfl⟩ : ∃ k, n1 = k + 1 := ⟨n1 - 1, by omega⟩
   refine Wc.skip <| Wq.next hK_11 <| Wc.block <| Wc.seq fun _ hK_19 => Wc.region <| Wl.mv rfl rfl ?_
   refine Wl.call txt38PsO rfl rfl (take_x p en r g 0 (isT_ne h1) _ hP) rfl ?_
   rintro _ w_k2 ⟨⟨rfl, hP⟩, hs_k2⟩
   have hz_k2 := hs_k2.size
   first | have hP := PSt.below hP hs_k2 | have hP := PSt.kp hP hs_k2 | skip
   first | have hO := own_below hO hs_k2 | have hO := own_kp hO hs_k2 (by omega) | skip
   first | have hL := PLs.below hL hs_k2 | have hL := PLs.kp hL hs_k2 (fun h_ => by have h2_ := hL_S _ h_; omega) | skip
   first | have hB_o0 := Blk.below hB_o0 hs_k2 | have hB_o0 := Blk.kp hB_o0 hs_k2 (by omega) | skip
   first | replace hs_k2 := Below.kp (p := p) hs_k2 | skip
   have hb := hb.trans hs_k2
   refine Wl.nil <| Wq.next hK_19 <| Wc.region <| Wl.mv rfl rfl <| Wl.mv rfl rfl ?_
   refine Wl.callP txt66PsO rfl rfl (branch_r p en r.tail g m n knot (by omega) (by omega) _ hP (hD.kp hb)) rfl (fun v_ w_k3 hv_ => ?_) (fun c_ w_k3 hx_ => ?_)
   rotate_left
   ·
    obtain ⟨a_k3, e_k3, hF_k3, rfl, hPp_k3, hs_k3⟩ := hx_
    have hz_k3 := hs_k3.size
    have hb := hb.trans hs_k3
    refine Wq.block_panic <| Wq.then_panic <| Wq.block_panic <| Wq.then_panic ?_
    refine panics ?_
    exact outX ⟨_, _, by rw [hF]; simp only [rowGo, if_pos h1, hF_k3, rowRes], rfl, hPp_k3, hb⟩
   obtain ⟨⟨y, r2, hF2, ⟨z, Sz, rfl, hz, hz_S⟩, hP, hrl2⟩, hs_k3⟩ := hv_
   have hz_k3 := hs_k3.size
   try have hO := own_kp hO hs_k3 (by omega)
   try have hL := hL.kp hs_k3 (fun h_ => by have h2_ := hL_S _ h_; omega)
   have hB_o0 := hB_o0.kp hs_k3 (by omega)
   have hb := hb.trans hs_k3
   refine Wl.litN (sz := 20) (vs := [_]) Tryz.underlying29 (by kernel_rfl) rfl rfl rfl rfl rfl rfl ?_
   rintro g_b2 w_b2 hg_b2 hn_b2 hs_b2
   have hz_b2 := hs_b2.size
   have hP := hP.below hs_b2
   have hO := own_below hO hs_b2
   have hL := hL.below hs_b2
   have hB_o0 := hB_o0.below hs_b2
   have hz := hz.below hs_b2
   replace hs_b2 := Below.kp (p := p) hs_b2
   have hb := hb.trans hs_b2
   have hB_b2 := hn_b2
   have hl_b2 := hB_b2.lt
   have hO_0 := hO
   refine Wl.append (z := (.agg #[(.int .i64 0), (str []), (.int .i64 0), (.int .i64 0), (str []), (.int .i64 0), (.int .i64 0), (.float .f64 0), (str []), (.slice none 0 0), (.int .i64 0), (str []), (.int .i64 0), (.int .i64 0), (.float .f64 0), (str []), (.slice none 0 0), (.int .i64 0), (.int .i64 0), (.slice none 0 0)])) (sz := 20) (bytes := 248) Tryz.underlying29 (by kernel_rfl) rfl (by decide) _ rfl hO rfl (hB_b2.rd 1 20 rfl) z.one (by simp only [maxLen]; omega) (by omega) (by first | exact hb.size | omega) rfl ?_
   rintro v_b3 w_b3 hn_b3 hg_b3 ha_b3
   have hz_b3 := hg_b3.size
   have hb := kp_row hb hg_b3 (fun k_ hk_ => by have := (own_ge hO k_ hk_).1; omega)
   try have hP := PSt.grown hP hg_b3
   try have hL := PLs.grown hL hg_b3
   try have hB_o0 := Blk.grown hB_o0 hg_b3 (by simp [Value.ownBlock]; omega)
   try have hz := PAt.grown hz hg_b3
   have hO := hn_b3
   have hP := hP.row hg_b3 (fun k hk => by have := (own_ge hO_0 k hk).1; omega)
   have hL := PLs.lift (Keeps.row hg_b3 hL_O) (fun _ h => h) hL
   have hz := PAt.lift (Keeps.row hg_b3 (fun k hk e => by have := hvk k e; have := hz_S k hk; omega)) (fun _ h => h) hz
   have hB_o0 := hB_o0.grown hg_b3 (fun e => hO0 e.symm)
   refine Wl.sg rfl rfl <| Wl.nil <| Wq.block_normal ?_
   refine fun a_ ha_ => hL_9 _ _ (⟨v_b3, l ++ [y], xs ++ z.cells, fun k => S k ∨ Sz k, r2, n1⟩) (by first | omega | (simp; omega)) (by repeat first | exact Sub.nil | refine Sub.cons' rfl (by first | rfl | exact int_eq (by omega) | exact int_eq (by simp) | (simp; done)) ?_) ?_ a_ ha_
   exact ⟨by rw [hF]; simp only [rowGo, if_pos h1, hF2], by omega, by omega, by rw [List.length_append]; omega, by rw [List.length_append]; show l.length + 1 + r2.length ≤ _; omega, hb, hP, by rw [List.length_append]; exact hO, PLs.snoc (hL.mono fun _ h => .inl h) (hz.mono fun _ h => .inr h), fun k hk => by rcases hk with h | h; (· have := hL_S k h; omega); (· have := hz_S k h; omega), fun k hk e => by rcases ha_b3 with h3 | h3; (· rw [h3] at e; rcases hk with h | h; (· exact hL_O k h e); (· have := hvk k e; have := hz_S k h; omega)); (· rw [h3] at e; injection e with e; rcases hk with h | h; (· have := hL_S k h; omega); (· have := hz_S k h; omega)), fun e => by rcases ha_b3 with h3 | h3; (· rw [h3] at e; exact hO0 e); (· rw [h3] at e; injection e with e; omega), hB_o0⟩
  have c0_18_ := c0_18
  try simp only [DZ] at c0_18
  have h1 : ¬ isT en [[124]] r = true := by rw [c0_18_]; decide
  refine Wc.exit ?_
  refine Wq.then_exit <| Wq.then_exit <| Wq.block_exit <| Wq.next hK_8 <| Wc.seq fun _ hK_28 => ?_
  obtain ⟨A, c, rfl, hnc, hmx⟩ := own_form hO
  have hR := Rd.of_own hO
  have hA : ∀ q, A = some q → w.heap.size ≤ q.block ∧ q.block < w_k1.heap.size ∧ q.block ≠ g_o0 := fun q e => by
    subst e
    have hq : (Value.slice (some q) l.length c).ownBlock = some q.block := rfl
    have := own_ge hO q.block hq
    exact ⟨this.1, this.2, fun e => hO0 (by rw [hq, e])⟩
  refine Wc.region <| Wl.mv rfl rfl ?_
  refine Wl.call txt67PsO rfl rfl (some_r 4 A c l xs S hl0 (by omega) _ hR hL) rfl ?_
  rintro _ w_k4 ⟨⟨z, rfl, hz⟩, hs_k4⟩
  have hz_k4 := hs_k4.size
  first | have hP := PSt.below hP hs_k4 | have hP := PSt.kp hP hs_k4 | skip
  first | have hB_o0 := Blk.below hB_o0 hs_k4 | have hB_o0 := Blk.kp hB_o0 hs_k4 (by omega) | skip
  first | replace hs_k4 := Below.kp (p := p) hs_k4 | skip
  have hb := hb.trans hs_k4
  have hz_S : ∀ k, (S k ∨ ∃ a, A = some a ∧ k = a.block) → w.heap.size ≤ k ∧ k < w_k1.heap.size ∧ k ≠ g_o0 := fun k hk => by
    rcases hk with h | ⟨a, e, rfl⟩
    · have := hL_S k h; omega
    · exact hA a e
  refine Wl.storeS (by kernel_rfl) rfl rfl hB_o0 rfl rfl ?_
  rintro w_s0 hn_s0 hg_s0
  have hz_s0 := hg_s0.size
  have hb := kp_blk hb hg_s0 (by omega)
  try have hP := PSt.over hP hg_s0 (by omega)
  try have hz := PAt.kp hz hg_s0 (fun h_ => by have h2_ := hz_S _ h_; omega)
  have hB_o0 := hn_s0
  refine Wl.nil <| Wq.next hK_28 <| Wc.ret ?_
  refine retN (rs := [.cell 2 31]) (vs := [_]) rfl (.cell rfl (loadS Tryz.underlying31 (by kernel_rfl) (fun j u hu => hB_o0.at hu)) .nil) ?_
  exact outR ⟨⟨_, r, by rw [hF]; cases n1 <;> simp only [rowGo, if_neg h1, rowRes], ⟨z, _, rfl, hz, fun k hk => by have := hz_S k hk; omega⟩, hP, by omega⟩, hb⟩
theorem txtPt : Txt Tryz.prog 41 := ⟨_, Tryz.func41, by kernel_rfl, rfl⟩
theorem pat_d (p en m : Nat) : ∀ (n g : Nat) (w : World), n ≤ m → Does w p en g 0 n 41 #[pptr p] #[] (pPat en m n g) PVal
  | 0, g, w, _ => ⟨txtPt, fun w' ts hk hP hm => absurd hm (Nat.not_lt_zero _)⟩
  | n + 1, g, w, h => ⟨txtPt, fun w' ts hk hP hm => pattern_r p en ts g m n (pPat en m n) (by omega) (by omega) w' hP fun g' => pat_d p en m n g' w' (by omega)⟩
end Go.Proofs.YtjnabgddjogkbaaGreatDoor
namespace Go.Proofs.YtjnabgddjogkbaaGreatDoor
open Go.RowKit Go.Bw Go.Bw.Fl
set_option linter.unusedVariables false
set_option linter.unusedSimpArgs false
theorem fa33_0PsQ (p : Addr) (w : World) : (Instr.fieldAt 33 (.pointer (some p)) 0).run Tryz.prog w = .ok (.pointer (some (p.add 0))) w := run_fieldAt (i := 0) (sz := 0) Tryz.underlying33 rfl (by kernel_rfl) p w
theorem fa33_1PsQ (p : Addr) (w : World) : (Instr.fieldAt 33 (.pointer (some p)) 1).run Tryz.prog w = .ok (.pointer (some (p.add 1))) w := run_fieldAt (i := 1) (sz := 0) Tryz.underlying33 rfl (by kernel_rfl) p w
theorem fa33_2PsQ (p : Addr) (w : World) : (Instr.fieldAt 33 (.pointer (some p)) 2).run Tryz.prog w = .ok (.pointer (some (p.add 2))) w := run_fieldAt (i := 2) (sz := 0) Tryz.underlying33 rfl (by kernel_rfl) p w
theorem fa33_3PsQ (p : Addr) (w : World) : (Instr.fieldAt 33 (.pointer (some p)) 3).run Tryz.prog w = .ok (.pointer (some (p.add 3))) w := run_fieldAt (i := 3) (sz := 19) Tryz.underlying33 rfl (by kernel_rfl) p w
theorem fa43_2PsQ (p : Addr) (w : World) : (Instr.fieldAt 43 (.pointer (some p)) 2).run Tryz.prog w = .ok (.pointer (some (p.add 2))) w := run_fieldAt (i := 2) (sz := 0) Tryz.underlying43 rfl (by kernel_rfl) p w
theorem fa58_0PsQ (p : Addr) (w : World) : (Instr.fieldAt 58 (.pointer (some p)) 0).run Tryz.prog w = .ok (.pointer (some (p.add 0))) w := run_fieldAt (i := 0) (sz := 0) Tryz.underlying58 rfl (by kernel_rfl) p w
theorem fa60_0PsQ (p : Addr) (w : World) : (Instr.fieldAt 60 (.pointer (some p)) 0).run Tryz.prog w = .ok (.pointer (some (p.add 0))) w := run_fieldAt (i := 0) (sz := 1) Tryz.underlying60 rfl (by kernel_rfl) p w
theorem one3PsQ : One Tryz.prog 3 := ⟨_, Tryz.underlying3, rfl, by kernel_rfl⟩
theorem one39PsQ : One Tryz.prog 39 := ⟨_, Tryz.underlying39, rfl, by kernel_rfl⟩
theorem one9PsQ : One Tryz.prog 9 := ⟨_, Tryz.underlying9, rfl, by kernel_rfl⟩
theorem sz9PsQ : (Tryz.prog.info? 9).map (·.size) = some 1 := by kernel_rfl
theorem txt36PsQ : Txt Tryz.prog 36 := ⟨_, Tryz.func36, by kernel_rfl, rfl⟩   -- (*bridleway/parse.row).is
theorem txt37PsQ : Txt Tryz.prog 37 := ⟨_, Tryz.func37, by kernel_rfl, rfl⟩   -- slices.Index[[]string,string]
theorem txt38PsQ : Txt Tryz.prog 38 := ⟨_, Tryz.func38, by kernel_rfl, rfl⟩   -- (*bridleway/parse.parser).take
theorem txt39PsQ : Txt Tryz.prog 39 := ⟨_, Tryz.func39, by kernel_rfl, rfl⟩   -- (*bridleway/parse.row).next
theorem txt40PsQ : Txt Tryz.prog 40 := ⟨_, Tryz.func40, by kernel_rfl, rfl⟩   -- (*bridleway/parse.parser).whole
theorem txt41PsQ : Txt Tryz.prog 41 := ⟨_, Tryz.func41, by kernel_rfl, rfl⟩   -- (*bridleway/parse.parser).pattern
theorem txt42PsQ : Txt Tryz.prog 42 := ⟨_, Tryz.func42, by kernel_rfl, rfl⟩   -- (*bridleway/parse.parser).fail
theorem SIndex2_r (A : Option Addr) (c : Nat) (l : List (List UInt8)) (x : List UInt8) (hl : l.length ≤ 281474976710656) (w : World) (hR : Rd w 1 A l.length (strs l)) : Ret Tryz.prog 37 [.slice A l.length c, str x] w fun v w' => (∃ z, v = .int .i64 z ∧ (x ∈ l → z = ((l.findIdx (· == x) : Nat) : Int))) ∧ Below w.heap.size w w' := by
  have hb := Below.refl w.heap.size w
  have hR_hb := hR
  refine enter Tryz.func37 rfl rfl rfl ?_
  refine Wc.seq fun _ hK_1 => Wc.region <| Wl.sg rfl rfl <| Wl.nil <| Wq.next hK_1 <| Wc.seq fun _ hK_3 => Wc.seq fun _ hK_4 => Wc.region <| Wl.mv rfl rfl ?_
  refine Wl.y (y_lenl Tryz.underlying45 (by omega) rfl) rfl ?_
  refine Wl.mv rfl rfl <| Wl.nil <| Wq.next hK_4 <| Wc.block ?_
  refine Wc.loop (X := Nat) (fun i => [(0, .slice A l.length c), (1, str x), (7, .int .i64 (l.length : Int)), (8, .int .i64 (i : Int))]) (fun i wr => i ≤ l.length ∧ (∀ j, j < i → l.getD j [] ≠ x) ∧ Below w.heap.size w wr) (fun i => l.length - i) (0) ?_ ?_ ?_
  · exact by repeat first | exact Sub.nil | refine Sub.cons' rfl (by first | rfl | exact int_eq (by omega)) ?_
  · exact ⟨by omega, fun j h => by omega, hb⟩
  rintro i wr hI_9 _ hL_8
  replace hI_9 : i ≤ l.length ∧ (∀ j, j < i → l.getD j [] ≠ x) ∧ Below w.heap.size w wr := hI_9
  obtain ⟨hi, hall, hb⟩ := hI_9
  show Wc _ _ _ _ _ [(0, .slice A l.length c), (1, str x), (7, .int .i64 (l.length : Int)), (8, .int .i64 (i : Int))] _
  have hR := hR_hb.below hb
  try have hzhb_L0 := hb.size
  refine Wc.seq fun _ hK_10 => Wc.region <| Wl.y (y_lssi rfl rfl) rfl <| Wl.nil <| Wq.next hK_10 <| Wc.seq fun _ hK_12 => ?_
  refine Wc.cond rfl (fun c0_13 => ?_) (fun c0_13 => ?_)
  ·
   have c0_13_ := c0_13
   try simp only [DZ] at c0_13
   have hil : i < l.length := by have := c0_13; omega
   obtain ⟨p_, v_, hpe, hve, hcell⟩ := hR.one (i := i) hil
   subst hpe
   obtain rfl := strs_val hil hve
   refine Wc.skip <| Wq.next hK_12 <| Wc.seq fun _ hK_14 => Wc.block <| Wc.seq fun _ hK_15 => Wc.region <| Wl.mv rfl rfl <| Wl.sg rfl rfl <| Wl.nil <| Wq.next hK_15 ?_
   refine Wc.seq fun _ hK_18 => Wc.region <| Wl.mv rfl rfl <| Wl.mv rfl rfl <| Wl.mv rfl rfl ?_
   refine Wl.y (y_indexAddr Tryz.underlying45 sz9PsQ rfl rfl (by omega) (by omega)) rfl ?_
   refine Wl.l (l_load one9PsQ rfl (by exact at1 hcell)) rfl ?_
   refine Wl.y (y_eqls rfl rfl) rfl <| Wl.nil <| Wq.next hK_18 ?_
   refine Wc.cond rfl (fun c1_25 => ?_) (fun c1_25 => ?_)
   ·
    have c1_25_ := c1_25
    try simp only [DZ] at c1_25
    have heq : x = l.getD i [] := by have h := c1_25_; simpa using h
    refine Wc.seq fun _ hK_26 => Wc.region <| Wl.mv rfl rfl <| Wl.sg rfl rfl <| Wl.nil <| Wq.next hK_26 <| Wc.ret ?_
    refine Wq.block_ret (Wq.then_ret (Wq.then_ret (Wq.block_ret (Wq.then_ret ?_))))
    refine ret1 rfl rfl ?_
    exact ⟨_, rfl, ⟨_, rfl, fun _ => by
  have h1 : l.findIdx (· == x) = i := (List.findIdx_eq hil).2 ⟨by rw [heq]; simp [List.getD, List.getElem?_eq_getElem hil], fun j hj => by have := hall j hj; simpa [List.getD, List.getElem?_eq_getElem (Nat.lt_trans hj hil)] using this⟩
  rw [h1]⟩, hb⟩
   have c1_25_ := c1_25
   try simp only [DZ] at c1_25
   have hne : l.getD i [] ≠ x := fun e => by have h := c1_25_; rw [e] at h; simp at h
   refine Wc.skip <| Wq.block_normal <| Wq.next hK_14 <| Wc.region ?_
   refine Wl.y (y_addI rfl rfl (by first | omega | (simp; done) | (simp; omega)) (by first | omega | (simp; done) | (simp; omega))) rfl ?_
   refine Wl.mv rfl rfl <| Wl.nil ?_
   refine fun a_ ha_ => hL_8 _ _ (i + 1) (by first | omega | (simp; omega)) (by repeat first | exact Sub.nil | refine Sub.cons' rfl (by first | rfl | exact int_eq (by omega)) ?_) ?_ a_ ha_
   exact ⟨by omega, fun j hj => by (by_cases e : j = i); (· rw [e]; exact hne); (· exact hall j (by omega)), hb⟩
  have c0_13_ := c0_13
  try simp only [DZ] at c0_13
  refine Wc.exit ?_
  refine Wq.then_exit <| Wq.then_exit <| Wq.block_exit <| Wq.next hK_3 <| Wc.seq fun _ hK_31 => Wc.region <| Wl.sg rfl rfl <| Wl.nil <| Wq.next hK_31 <| Wc.ret ?_
  refine ret1 rfl rfl ?_
  exact ⟨_, rfl, ⟨_, rfl, fun h => by
  obtain ⟨j, hj, e⟩ := List.mem_iff_getElem.1 h
  exact absurd (by simp [List.getD, List.getElem?_eq_getElem hj, e]) (hall j (by have := c0_13; omega))⟩, hb⟩
def qcells (mode sel kk : Int) (z : PC) : List Value := .int .i64 mode :: .int .i64 sel :: .int .i64 kk :: z.cells
theorem setL_app : ∀ (vs pre old : List Value), old.length = vs.length → setL (pre ++ old) pre.length vs = pre ++ vs
  | [], pre, old, h => by
    rw [List.eq_nil_of_length_eq_zero h]; rfl
  | v :: r, pre, [], h => by cases h
  | v :: r, pre, o :: old, h => by
    have h1 : (pre ++ o :: old).set pre.length v = (pre ++ [v]) ++ old := by
      rw [List.set_append_right _ _ (Nat.le_refl _), Nat.sub_self, List.append_assoc]; rfl
    have h2 := setL_app r (pre ++ [v]) old (by simpa using h)
    rw [List.length_append] at h2
    show setL ((pre ++ o :: old).set pre.length v) (pre.length + 1) r = _
    rw [h1]
    exact h2.trans (by rw [List.append_assoc]; rfl)
theorem setL_q (mode sel kk : Int) (z0 z : PC) : setL (qcells mode sel kk z0) 3 z.cells = qcells mode sel kk z :=
  setL_app z.cells [.int .i64 mode, .int .i64 sel, .int .i64 kk] z0.cells (by rw [z0.len, z.len])
/-- a value that is a query, made since block B -/
def QVal (B : Nat) (q : QryD) (v : Value) (w : World) : Prop := ∃ (z : PC) (S : Nat → Prop), v = .agg (qcells q.mode q.sel q.kk z).toArray ∧ PAt w S q.pat z.cells ∧ ∀ k, S k → B ≤ k ∧ k < w.heap.size
set_option maxHeartbeats 400000 in
theorem query_r (p en : Nat) (ts : List Tok) (w : World) (hP : PSt w p en ts 0 0) : Out Tryz.prog 21 [pptr p] w (PRes w p en 0 0 ts (pQuery en ts) (QVal w.heap.size)) (PErr w p en 0 0 (pQuery en ts)) := by
  have hpl := hP.lt
  have hb := Kp.refl p w
  refine enter Tryz.func21 rfl rfl rfl ?_
  refine Wc.seq fun _ hK_1 => Wc.region ?_
  refine Wl.allocN (z := (.agg #[(.int .i64 0), (.int .i64 0), (.int .i64 0), (.int .i64 0), (str []), (.int .i64 0), (.int .i64 0), (str []), (.int .i64 0), (.int .i64 0), (.float .f64 0), (str []), (.slice none 0 0), (.int .i64 0), (str []), (.int .i64 0), (.int .i64 0), (.float .f64 0), (str []), (.slice none 0 0), (.int .i64 0), (.int .i64 0), (.slice none 0 0)])) (by kernel_rfl) rfl ?_
  rintro g_o0 w_o0 hg_o0 hn_o0 hs_o0
  have hz_o0 := hs_o0.size
  have hP := hP.below hs_o0
  replace hs_o0 := Below.kp (p := p) hs_o0
  have hb := hb.trans hs_o0
  have hB_o0 := hn_o0
  have hl_o0 := hB_o0.lt
  refine Wl.nil <| Wq.next hK_1 <| Wc.seq fun _ hK_3 => Wc.region ?_
  refine Wl.litN (sz := 1) (vs := [_, _, _, _]) Tryz.underlying45 (by kernel_rfl) rfl rfl rfl rfl rfl rfl ?_
  rintro g_b0 w_b0 hg_b0 hn_b0 hs_b0
  have hz_b0 := hs_b0.size
  have hP := hP.below hs_b0
  have hB_o0 := hB_o0.below hs_b0
  replace hs_b0 := Below.kp (p := p) hs_b0
  have hb := hb.trans hs_b0
  have hB_b0 := hn_b0
  have hl_b0 := hB_b0.lt
  refine Wl.sg rfl rfl <| Wl.nil <| Wq.next hK_3 <| Wc.seq fun _ hK_6 => Wc.seq fun _ hK_7 => Wc.region <| Wl.mv rfl rfl <| Wl.y (y_nilCheck rfl) rfl ?_
  refine Wl.y (y_fieldAddr (fa60_0PsQ _) rfl) rfl ?_
  refine Wl.mv rfl rfl ?_
  refine Wl.call txt36PsQ rfl rfl (is_r p en ts 0 0 _ 4 modesV (by simp [modesV]) _ hP (hB_b0.rd 4 1 rfl)) rfl ?_
  rintro _ w_k0 ⟨rfl, hs_k0⟩
  have hz_k0 := hs_k0.size
  first | have hP := PSt.below hP hs_k0 | have hP := PSt.kp hP hs_k0 | skip
  first | have hB_o0 := Blk.below hB_o0 hs_k0 | have hB_o0 := Blk.kp hB_o0 hs_k0 (by omega) | skip
  first | have hB_b0 := Blk.below hB_b0 hs_k0 | have hB_b0 := Blk.kp hB_b0 hs_k0 (by omega) | skip
  first | replace hs_k0 := Below.kp (p := p) hs_k0 | skip
  have hb := hb.trans hs_k0
  refine Wl.nil <| Wq.next hK_7 ?_
  refine Wc.meet (X := Int × List Tok) (fun (mode, r) => [(0, pptr p), (2, .pointer (some ⟨g_o0, 0, none⟩))]) (fun (mode, r) wr => pMode en ts = (mode, r) ∧ r.length ≤ ts.length ∧ Kp p w wr ∧ PSt wr p en r 0 0 ∧ Blk wr g_o0 33 (qcells mode 0 0 pc0)) (fun _ hM_13 => ?_) ?_
  ·
   refine Wc.cond rfl (fun c0_14 => ?_) (fun c0_14 => ?_)
   ·
    have c0_14_ := c0_14
    try simp only [DZ] at c0_14
    have h0 : isT en modesV ts = true := c0_14_
    obtain ⟨r, hr_⟩ : ∃ r, ts.tail = r := ⟨_, rfl⟩
    have hrt : r.length ≤ ts.length := by rw [← hr_, List.length_tail]; omega
    refine Wc.region <| Wl.mv rfl rfl <| Wl.mv rfl rfl ?_
    refine Wl.call txt38PsQ rfl rfl (take_x p en ts 0 0 (isT_ne h0) _ hP) rfl ?_
    rintro _ w_k1 ⟨⟨rfl, hP⟩, hs_k1⟩
    have hz_k1 := hs_k1.size
    first | have hP := PSt.below hP hs_k1 | have hP := PSt.kp hP hs_k1 | skip
    first | have hB_o0 := Blk.below hB_o0 hs_k1 | have hB_o0 := Blk.kp hB_o0 hs_k1 (by omega) | skip
    first | have hB_b0 := Blk.below hB_b0 hs_k1 | have hB_b0 := Blk.kp hB_b0 hs_k1 (by omega) | skip
    first | replace hs_k1 := Below.kp (p := p) hs_k1 | skip
    have hb := hb.trans hs_k1
    refine Wl.y (y_fieldO Tryz.underlying43 rfl one9PsQ rfl rfl) rfl ?_
    refine Wl.call txt37PsQ rfl rfl (SIndex2_r _ 4 modesV (nextT en ts).t (by simp [modesV]) _ (hB_b0.rd 4 1 rfl)) rfl ?_
    rintro _ w_k2 ⟨⟨mode, rfl, hmode⟩, hs_k2⟩
    have hz_k2 := hs_k2.size
    first | have hP := PSt.below hP hs_k2 | have hP := PSt.kp hP hs_k2 | skip
    first | have hB_o0 := Blk.below hB_o0 hs_k2 | have hB_o0 := Blk.kp hB_o0 hs_k2 (by omega) | skip
    first | replace hs_k2 := Below.kp (p := p) hs_k2 | skip
    have hb := hb.trans hs_k2
    refine Wl.y (y_fieldAddr (fa33_0PsQ _) rfl) rfl ?_
    rw [hr_] at hP
    refine Wl.storeB one3PsQ rfl rfl rfl hB_o0 (by show 0 < 23; decide) ?_
    rintro w_s0 hn_s0 hg_s0
    have hz_s0 := hg_s0.size
    have hb := kp_blk hb hg_s0 (by omega)
    try have hP := PSt.over hP hg_s0 (by omega)
    have hB_o0 := hn_s0
    refine Wl.nil ?_
    refine Wq.meet hM_13 (⟨mode, r⟩) (by repeat first | exact Sub.nil | refine Sub.cons' rfl (by first | rfl | exact int_eq (by omega) | exact int_eq (by simp) | (simp; done)) ?_) ?_
    first | exact ⟨by unfold pMode modeOf; rw [if_pos h0, hmode (isT_mem h0), hr_], hrt, hb, hP, hB_o0⟩ | (obtain ⟨e1, e2⟩ := heq; subst e1 e2; exact ⟨if_neg h0, Nat.le_refl _, hb, hP, hB_o0⟩)
   have c0_14_ := c0_14
   try simp only [DZ] at c0_14
   have h0 : ¬ isT en modesV ts = true := by rw [c0_14_]; decide
   obtain ⟨mode, r, heq⟩ : ∃ (a : Int) (b : List Tok), a = 0 ∧ b = ts := ⟨_, _, rfl, rfl⟩
   refine Wc.skip ?_
   refine Wq.meet hM_13 (⟨mode, r⟩) (by repeat first | exact Sub.nil | refine Sub.cons' rfl (by first | rfl | exact int_eq (by omega) | exact int_eq (by simp) | (simp; done)) ?_) ?_
   first | exact ⟨by unfold pMode modeOf; rw [if_pos h0, hmode (isT_mem h0), hr_], hrt, hb, hP, hB_o0⟩ | (obtain ⟨e1, e2⟩ := heq; subst e1 e2; exact ⟨if_neg h0, Nat.le_refl _, hb, hP, hB_o0⟩)
  rintro ⟨mode, r⟩ wr hI_21
  replace hI_21 : pMode en ts = (mode, r) ∧ r.length ≤ ts.length ∧ Kp p w wr ∧ PSt wr p en r 0 0 ∧ Blk wr g_o0 33 (qcells mode 0 0 pc0) := hI_21
  obtain ⟨hMo, hrl, hb, hP, hB_o0⟩ := hI_21
  show Wq _ _ _ _ [(0, pptr p), (2, .pointer (some ⟨g_o0, 0, none⟩))] _
  try have hzhb_c0 := hb.size
  have hlhB_o0_c0 := hB_o0.lt
  refine Wq.next hK_6 <| Wc.seq fun _ hK_22 => Wc.block <| Wc.seq fun _ hK_23 => Wc.region <| Wl.mv rfl rfl <| Wl.y (y_nilCheck rfl) rfl ?_
  refine Wl.y (y_fieldAddr (fa60_0PsQ _) rfl) rfl ?_
  refine Wl.litN (sz := 1) (vs := [_]) Tryz.underlying45 (by kernel_rfl) rfl rfl rfl rfl rfl rfl ?_
  rintro g_b1 w_b1 hg_b1 hn_b1 hs_b1
  have hz_b1 := hs_b1.size
  have hP := hP.below hs_b1
  have hB_o0 := hB_o0.below hs_b1
  replace hs_b1 := Below.kp (p := p) hs_b1
  have hb := hb.trans hs_b1
  have hB_b1 := hn_b1
  have hl_b1 := hB_b1.lt
  refine Wl.call txt36PsQ rfl rfl (is_r p en r 0 0 _ 1 [wAll] (by simp) _ hP (hB_b1.rd 1 1 rfl)) rfl ?_
  rintro _ w_k3 ⟨rfl, hs_k3⟩
  have hz_k3 := hs_k3.size
  first | have hP := PSt.below hP hs_k3 | have hP := PSt.kp hP hs_k3 | skip
  first | have hB_o0 := Blk.below hB_o0 hs_k3 | have hB_o0 := Blk.kp hB_o0 hs_k3 (by omega) | skip
  first | replace hs_k3 := Below.kp (p := p) hs_k3 | skip
  have hb := hb.trans hs_k3
  refine Wl.sg rfl rfl <| Wl.nil <| Wq.next hK_23 ?_
  have hrt1 : r.tail.length = r.length - 1 := List.length_tail
  have hrt2 : r.tail.tail.length = r.tail.length - 1 := List.length_tail
  refine Wc.meet (X := Int × Int × List Tok) (fun (sel, kk, r2) => [(0, pptr p), (2, .pointer (some ⟨g_o0, 0, none⟩))]) (fun (sel, kk, r2) wr => pSel en r = .ok (sel, kk) r2 ∧ r2.length ≤ ts.length ∧ Kp p w wr ∧ PSt wr p en r2 0 0 ∧ Blk wr g_o0 33 (qcells mode sel kk pc0)) (fun _ hM_30 => ?_) ?_
  ·
   refine Wc.cond rfl (fun c1_31 => ?_) (fun c1_31 => ?_)
   ·
    have c1_31_ := c1_31
    try simp only [DZ] at c1_31
    have h1 : isT en [wAll] r = true := c1_31_
    refine Wc.seq fun _ hK_32 => Wc.region <| Wl.mv rfl rfl ?_
    refine Wl.call txt38PsQ rfl rfl (take_x p en r 0 0 (isT_ne h1) _ hP) rfl ?_
    rintro _ w_k4 ⟨⟨rfl, hP⟩, hs_k4⟩
    have hz_k4 := hs_k4.size
    first | have hP := PSt.below hP hs_k4 | have hP := PSt.kp hP hs_k4 | skip
    first | have hB_o0 := Blk.below hB_o0 hs_k4 | have hB_o0 := Blk.kp hB_o0 hs_k4 (by omega) | skip
    first | replace hs_k4 := Below.kp (p := p) hs_k4 | skip
    have hb := hb.trans hs_k4
    refine Wl.nil <| Wq.next hK_32 <| Wc.seq fun _ hK_35 => Wc.region <| Wl.mv rfl rfl <| Wl.y (y_nilCheck rfl) rfl ?_
    refine Wl.y (y_fieldAddr (fa60_0PsQ _) rfl) rfl ?_
    refine Wl.litN (sz := 1) (vs := [_]) Tryz.underlying45 (by kernel_rfl) rfl rfl rfl rfl rfl rfl ?_
    rintro g_b2 w_b2 hg_b2 hn_b2 hs_b2
    have hz_b2 := hs_b2.size
    have hP := hP.below hs_b2
    have hB_o0 := hB_o0.below hs_b2
    replace hs_b2 := Below.kp (p := p) hs_b2
    have hb := hb.trans hs_b2
    have hB_b2 := hn_b2
    have hl_b2 := hB_b2.lt
    refine Wl.call txt36PsQ rfl rfl (is_r p en r.tail 0 0 _ 1 [wShort] (by simp) _ hP (hB_b2.rd 1 1 rfl)) rfl ?_
    rintro _ w_k5 ⟨rfl, hs_k5⟩
    have hz_k5 := hs_k5.size
    first | have hP := PSt.below hP hs_k5 | have hP := PSt.kp hP hs_k5 | skip
    first | have hB_o0 := Blk.below hB_o0 hs_k5 | have hB_o0 := Blk.kp hB_o0 hs_k5 (by omega) | skip
    first | replace hs_k5 := Below.kp (p := p) hs_k5 | skip
    have hb := hb.trans hs_k5
    refine Wl.nil <| Wq.next hK_35 ?_
    refine Wc.cond rfl (fun c2_41 => ?_) (fun c2_41 => ?_)
    ·
     have c2_41_ := c2_41
     try simp only [DZ] at c2_41
     have h2 : isT en [wShort] r.tail = true := c2_41_
     obtain ⟨sel, kk, r2, heq⟩ : ∃ (a b : Int) (c : List Tok), a = 2 ∧ b = 0 ∧ c = r.tail.tail := ⟨_, _, _, rfl, rfl, rfl⟩
     have hpt : pSel en r = .ok (2, 0) r.tail.tail := by unfold pSel; rw [if_pos h1, if_pos h2]
     have hr2l : r.tail.tail.length ≤ ts.length := by omega
     refine Wc.seq fun _ hK_42 => Wc.region <| Wl.mv rfl rfl ?_
     refine Wl.call txt38PsQ rfl rfl (take_x p en r.tail 0 0 (isT_ne h2) _ hP) rfl ?_
     rintro _ w_k6 ⟨⟨rfl, hP⟩, hs_k6⟩
     have hz_k6 := hs_k6.size
     first | have hP := PSt.below hP hs_k6 | have hP := PSt.kp hP hs_k6 | skip
     first | have hB_o0 := Blk.below hB_o0 hs_k6 | have hB_o0 := Blk.kp hB_o0 hs_k6 (by omega) | skip
     first | replace hs_k6 := Below.kp (p := p) hs_k6 | skip
     have hb := hb.trans hs_k6
     refine Wl.nil <| Wq.next hK_42 <| Wc.region ?_
     refine Wl.y (y_fieldAddr (fa33_1PsQ _) rfl) rfl ?_
     refine Wl.storeB one3PsQ rfl rfl rfl hB_o0 (by show 1 < 23; decide) ?_
     rintro w_s1 hn_s1 hg_s1
     have hz_s1 := hg_s1.size
     have hb := kp_blk hb hg_s1 (by omega)
     try have hP := PSt.over hP hg_s1 (by omega)
     have hB_o0 := hn_s1
     refine Wl.nil ?_
     refine Wq.meet hM_30 (⟨sel, kk, r2⟩) (by repeat first | exact Sub.nil | refine Sub.cons' rfl (by first | rfl | exact int_eq (by omega) | exact int_eq (by simp) | (simp; done)) ?_) ?_
     obtain ⟨e1, e2, e3⟩ := heq; subst e1 e2 e3; exact ⟨hpt, hr2l, hb, hP, hB_o0⟩
    have c2_41_ := c2_41
    try simp only [DZ] at c2_41
    have h2 : ¬ isT en [wShort] r.tail = true := by rw [c2_41_]; decide
    obtain ⟨sel, kk, r2, heq⟩ : ∃ (a b : Int) (c : List Tok), a = 0 ∧ b = 0 ∧ c = r.tail := ⟨_, _, _, rfl, rfl, rfl⟩
    have hpt : pSel en r = .ok (0, 0) r.tail := by unfold pSel; rw [if_pos h1, if_neg h2]
    have hr2l : r.tail.length ≤ ts.length := by omega
    refine Wc.skip ?_
    refine Wq.meet hM_30 (⟨sel, kk, r2⟩) (by repeat first | exact Sub.nil | refine Sub.cons' rfl (by first | rfl | exact int_eq (by omega) | exact int_eq (by simp) | (simp; done)) ?_) ?_
    obtain ⟨e1, e2, e3⟩ := heq; subst e1 e2 e3; exact ⟨hpt, hr2l, hb, hP, hB_o0⟩
   have c1_31_ := c1_31
   try simp only [DZ] at c1_31
   have h1 : ¬ isT en [wAll] r = true := by rw [c1_31_]; decide
   refine Wc.seq fun _ hK_46 => Wc.region <| Wl.mv rfl rfl <| Wl.y (y_nilCheck rfl) rfl ?_
   refine Wl.y (y_fieldAddr (fa60_0PsQ _) rfl) rfl ?_
   refine Wl.litN (sz := 1) (vs := [_]) Tryz.underlying45 (by kernel_rfl) rfl rfl rfl rfl rfl rfl ?_
   rintro g_b3 w_b3 hg_b3 hn_b3 hs_b3
   have hz_b3 := hs_b3.size
   have hP := hP.below hs_b3
   have hB_o0 := hB_o0.below hs_b3
   replace hs_b3 := Below.kp (p := p) hs_b3
   have hb := hb.trans hs_b3
   have hB_b3 := hn_b3
   have hl_b3 := hB_b3.lt
   refine Wl.call txt36PsQ rfl rfl (is_r p en r 0 0 _ 1 [wAny] (by simp) _ hP (hB_b3.rd 1 1 rfl)) rfl ?_
   rintro _ w_k7 ⟨rfl, hs_k7⟩
   have hz_k7 := hs_k7.size
   first | have hP := PSt.below hP hs_k7 | have hP := PSt.kp hP hs_k7 | skip
   first | have hB_o0 := Blk.below hB_o0 hs_k7 | have hB_o0 := Blk.kp hB_o0 hs_k7 (by omega) | skip
   first | replace hs_k7 := Below.kp (p := p) hs_k7 | skip
   have hb := hb.trans hs_k7
   refine Wl.sg rfl rfl <| Wl.nil <| Wq.next hK_46 ?_
   refine Wc.cond rfl (fun c3_53 => ?_) (fun c3_53 => ?_)
   ·
    have c3_53_ := c3_53
    try simp only [DZ] at c3_53
    have h3 : isT en [wAny] r = true := c3_53_
    obtain ⟨sel, kk, r2, heq⟩ : ∃ (a b : Int) (c : List Tok), a = 1 ∧ b = 0 ∧ c = r.tail := ⟨_, _, _, rfl, rfl, rfl⟩
    have hpt : pSel en r = .ok (1, 0) r.tail := by unfold pSel; rw [if_neg h1, if_pos h3]
    have hr2l : r.tail.length ≤ ts.length := by omega
    refine Wc.seq fun _ hK_54 => Wc.region <| Wl.mv rfl rfl ?_
    refine Wl.call txt38PsQ rfl rfl (take_x p en r 0 0 (isT_ne h3) _ hP) rfl ?_
    rintro _ w_k8 ⟨⟨rfl, hP⟩, hs_k8⟩
    have hz_k8 := hs_k8.size
    first | have hP := PSt.below hP hs_k8 | have hP := PSt.kp hP hs_k8 | skip
    first | have hB_o0 := Blk.below hB_o0 hs_k8 | have hB_o0 := Blk.kp hB_o0 hs_k8 (by omega) | skip
    first | replace hs_k8 := Below.kp (p := p) hs_k8 | skip
    have hb := hb.trans hs_k8
    refine Wl.nil <| Wq.next hK_54 <| Wc.region ?_
    refine Wl.y (y_fieldAddr (fa33_1PsQ _) rfl) rfl ?_
    refine Wl.storeB one3PsQ rfl rfl rfl hB_o0 (by show 1 < 23; decide) ?_
    rintro w_s2 hn_s2 hg_s2
    have hz_s2 := hg_s2.size
    have hb := kp_blk hb hg_s2 (by omega)
    try have hP := PSt.over hP hg_s2 (by omega)
    have hB_o0 := hn_s2
    refine Wl.nil ?_
    refine Wq.meet hM_30 (⟨sel, kk, r2⟩) (by repeat first | exact Sub.nil | refine Sub.cons' rfl (by first | rfl | exact int_eq (by omega) | exact int_eq (by simp) | (simp; done)) ?_) ?_
    obtain ⟨e1, e2, e3⟩ := heq; subst e1 e2 e3; exact ⟨hpt, hr2l, hb, hP, hB_o0⟩
   have c3_53_ := c3_53
   try simp only [DZ] at c3_53
   have h3 : ¬ isT en [wAny] r = true := by rw [c3_53_]; decide
   refine Wc.seq fun _ hK_58 => Wc.region <| Wl.mv rfl rfl <| Wl.y (y_nilCheck rfl) rfl ?_
   refine Wl.y (y_fieldAddr (fa60_0PsQ _) rfl) rfl ?_
   refine Wl.litN (sz := 1) (vs := [_]) Tryz.underlying45 (by kernel_rfl) rfl rfl rfl rfl rfl rfl ?_
   rintro g_b4 w_b4 hg_b4 hn_b4 hs_b4
   have hz_b4 := hs_b4.size
   have hP := hP.below hs_b4
   have hB_o0 := hB_o0.below hs_b4
   replace hs_b4 := Below.kp (p := p) hs_b4
   have hb := hb.trans hs_b4
   have hB_b4 := hn_b4
   have hl_b4 := hB_b4.lt
   refine Wl.call txt36PsQ rfl rfl (is_r p en r 0 0 _ 1 [wShort] (by simp) _ hP (hB_b4.rd 1 1 rfl)) rfl ?_
   rintro _ w_k9 ⟨rfl, hs_k9⟩
   have hz_k9 := hs_k9.size
   first | have hP := PSt.below hP hs_k9 | have hP := PSt.kp hP hs_k9 | skip
   first | have hB_o0 := Blk.below hB_o0 hs_k9 | have hB_o0 := Blk.kp hB_o0 hs_k9 (by omega) | skip
   first | replace hs_k9 := Below.kp (p := p) hs_k9 | skip
   have hb := hb.trans hs_k9
   refine Wl.sg rfl rfl <| Wl.nil <| Wq.next hK_58 ?_
   refine Wc.cond rfl (fun c4_65 => ?_) (fun c4_65 => ?_)
   ·
    have c4_65_ := c4_65
    try simp only [DZ] at c4_65
    have h4 : isT en [wShort] r = true := c4_65_
    refine Wc.seq fun _ hK_66 => Wc.region <| Wl.mv rfl rfl ?_
    refine Wl.call txt38PsQ rfl rfl (take_x p en r 0 0 (isT_ne h4) _ hP) rfl ?_
    rintro _ w_k10 ⟨⟨rfl, hP⟩, hs_k10⟩
    have hz_k10 := hs_k10.size
    first | have hP := PSt.below hP hs_k10 | have hP := PSt.kp hP hs_k10 | skip
    first | have hB_o0 := Blk.below hB_o0 hs_k10 | have hB_o0 := Blk.kp hB_o0 hs_k10 (by omega) | skip
    first | replace hs_k10 := Below.kp (p := p) hs_k10 | skip
    have hb := hb.trans hs_k10
    refine Wl.nil <| Wq.next hK_66 <| Wc.seq fun _ hK_69 => Wc.region <| Wl.mv rfl rfl <| Wl.y (y_nilCheck rfl) rfl ?_
    refine Wl.y (y_fieldAddr (fa60_0PsQ _) rfl) rfl ?_
    refine Wl.call txt39PsQ rfl rfl (next_x p en r.tail 0 0 _ hP) rfl ?_
    rintro _ w_k11 ⟨rfl, hs_k11⟩
    have hz_k11 := hs_k11.size
    first | have hP := PSt.below hP hs_k11 | have hP := PSt.kp hP hs_k11 | skip
    first | have hB_o0 := Blk.below hB_o0 hs_k11 | have hB_o0 := Blk.kp hB_o0 hs_k11 (by omega) | skip
    first | replace hs_k11 := Below.kp (p := p) hs_k11 | skip
    have hb := hb.trans hs_k11
    refine Wl.allocN (z := (.agg #[(.int .i64 0), (str []), (.int .i64 0)])) (by kernel_rfl) rfl ?_
    rintro g_o34 w_o34 hg_o34 hn_o34 hs_o34
    have hz_o34 := hs_o34.size
    have hP := hP.below hs_o34
    have hB_o0 := hB_o0.below hs_o34
    replace hs_o34 := Below.kp (p := p) hs_o34
    have hb := hb.trans hs_o34
    have hB_o34 := hn_o34
    have hl_o34 := hB_o34.lt
    refine Wl.storeS (by kernel_rfl) rfl rfl hB_o34 rfl rfl ?_
    rintro w_s3 hn_s3 hg_s3
    have hz_s3 := hg_s3.size
    have hb := kp_blk hb hg_s3 (by omega)
    try have hP := PSt.over hP hg_s3 (by omega)
    try have hB_o0 := hB_o0.over hg_s3 (by omega)
    have hB_o34 := hn_s3
    refine Wl.nil <| Wq.next hK_69 <| Wc.seq fun _ hK_75 => Wc.region <| Wl.mv rfl rfl ?_
    refine Wl.y (y_fieldAddr (fa43_2PsQ _) rfl) rfl ?_
    refine Wl.l (l_load one3PsQ rfl (by exact hB_o34.at (j := 2) rfl)) rfl ?_
    refine Wl.callP txt40PsQ rfl rfl (whole_r p en (nextT en r.tail).a r.tail 0 0 _ hP) rfl (fun v_ w_k12 hv_ => ?_) (fun c_ w_k12 hx_ => ?_)
    rotate_left
    ·
     obtain ⟨a_k12, e_k12, hF_k12, rfl, hPp_k12, hs_k12⟩ := hx_
     have hz_k12 := hs_k12.size
     have hb := hb.trans hs_k12
     refine Wq.then_panic <| Wq.then_panic <| Wq.block_panic <| Wq.then_panic ?_
     refine panics ?_
     exact outX ⟨_, _, by simp only [pQuery, hMo, pSel, if_neg h1, if_neg h3, if_pos h4, hF_k12], rfl, hPp_k12, hb⟩
    obtain ⟨⟨k3, r3, hFk, rfl, hP, hrl3⟩, hs_k12⟩ := hv_
    have hz_k12 := hs_k12.size
    have hB_o0 := hB_o0.kp hs_k12 (by omega)
    have hB_o34 := hB_o34.kp hs_k12 (by omega)
    have hb := hb.trans hs_k12
    refine Wl.y (y_fieldAddr (fa33_1PsQ _) rfl) rfl ?_
    refine Wl.storeB one3PsQ rfl rfl rfl hB_o0 (by show 1 < 23; decide) ?_
    rintro w_s4 hn_s4 hg_s4
    have hz_s4 := hg_s4.size
    have hb := kp_blk hb hg_s4 (by omega)
    try have hP := PSt.over hP hg_s4 (by omega)
    try have hB_o34 := hB_o34.over hg_s4 (by omega)
    have hB_o0 := hn_s4
    refine Wl.y (y_fieldAddr (fa33_2PsQ _) rfl) rfl ?_
    refine Wl.storeB one3PsQ rfl rfl rfl hB_o0 (by show 2 < 23; decide) ?_
    rintro w_s5 hn_s5 hg_s5
    have hz_s5 := hg_s5.size
    have hb := kp_blk hb hg_s5 (by omega)
    try have hP := PSt.over hP hg_s5 (by omega)
    try have hB_o34 := hB_o34.over hg_s5 (by omega)
    have hB_o0 := hn_s5
    refine Wl.nil <| Wq.next hK_75 <| Wc.block <| Wc.seq fun _ hK_82 => Wc.region ?_
    refine Wl.y (y_fieldAddr (fa33_2PsQ _) rfl) rfl ?_
    refine Wl.l (l_load one3PsQ rfl (by exact hB_o0.at (j := 2) rfl)) rfl ?_
    refine Wl.y (y_lssi rfl rfl) rfl <| Wl.sg rfl rfl <| Wl.nil <| Wq.next hK_82 ?_
    refine Wc.cond rfl (fun c5_87 => ?_) (fun c5_87 => ?_)
    ·
     have c5_87_ := c5_87
     try simp only [DZ] at c5_87
     have h5 : k3 < 1 := by have := c5_87; omega
     refine Wc.region ?_
     refine Wl.y (y_fieldAddr (fa43_2PsQ _) rfl) rfl ?_
     refine Wl.l (l_load one3PsQ rfl (by exact hB_o34.at (j := 2) rfl)) rfl ?_
     refine Wl.y (y_buildS (z := [(.int .i64 0), (.int .i64 0)]) (pl := [(0, 1), (1, 1)]) (cs := [_, _]) Tryz.underlying54 (by kernel_rfl) (by kernel_rfl) rfl rfl rfl) rfl ?_
     refine Wl.y (y_iface Tryz.underlying54 (by intro _ h; cases h) rfl) rfl ?_
     refine Wl.panic rfl ?_
     refine Wq.block_panic <| Wq.then_panic <| Wq.block_panic <| Wq.then_panic ?_
     refine panics ?_
     exact outX ⟨_, _, by simp only [pQuery, hMo, pSel, if_neg h1, if_neg h3, if_pos h4, hFk, if_pos h5], rfl, ⟨_, hP⟩, hb⟩
    have c5_87_ := c5_87
    try simp only [DZ] at c5_87
    have h5 : ¬ k3 < 1 := by have := c5_87; omega
    refine Wc.seq fun _ hK_92 => Wc.region ?_
    refine Wl.y (y_fieldAddr (fa33_2PsQ _) rfl) rfl ?_
    refine Wl.l (l_load one3PsQ rfl (by exact hB_o0.at (j := 2) rfl)) rfl ?_
    refine Wl.y (y_gtri rfl rfl) rfl <| Wl.sg rfl rfl <| Wl.nil <| Wq.next hK_92 ?_
    refine Wc.cond rfl (fun c6_97 => ?_) (fun c6_97 => ?_)
    ·
     have c6_97_ := c6_97
     try simp only [DZ] at c6_97
     have h6 : 1000 < k3 := by have := c6_97; omega
     refine Wc.region ?_
     refine Wl.y (y_fieldAddr (fa43_2PsQ _) rfl) rfl ?_
     refine Wl.l (l_load one3PsQ rfl (by exact hB_o34.at (j := 2) rfl)) rfl ?_
     refine Wl.y (y_buildS (z := [(.int .i64 0), (.int .i64 0)]) (pl := [(0, 1), (1, 1)]) (cs := [_, _]) Tryz.underlying54 (by kernel_rfl) (by kernel_rfl) rfl rfl rfl) rfl ?_
     refine Wl.y (y_iface Tryz.underlying54 (by intro _ h; cases h) rfl) rfl ?_
     refine Wl.panic rfl ?_
     refine Wq.block_panic <| Wq.then_panic <| Wq.block_panic <| Wq.then_panic ?_
     refine panics ?_
     exact outX ⟨_, _, by simp only [pQuery, hMo, pSel, if_neg h1, if_neg h3, if_pos h4, hFk, if_neg h5, if_pos h6], rfl, ⟨_, hP⟩, hb⟩
    have c6_97_ := c6_97
    try simp only [DZ] at c6_97
    have h6 : ¬ 1000 < k3 := by have := c6_97; omega
    obtain ⟨sel, kk, r2, heq⟩ : ∃ (a b : Int) (c : List Tok), a = 3 ∧ b = k3 ∧ c = r3 := ⟨_, _, _, rfl, rfl, rfl⟩
    have hpt : pSel en r = .ok (3, k3) r3 := by unfold pSel; rw [if_neg h1, if_neg h3, if_pos h4, hFk]; simp only [if_neg h5, if_neg h6]
    have hr2l : r3.length ≤ ts.length := by omega
    refine Wc.skip <| Wq.block_normal ?_
    refine Wq.meet hM_30 (⟨sel, kk, r2⟩) (by repeat first | exact Sub.nil | refine Sub.cons' rfl (by first | rfl | exact int_eq (by omega) | exact int_eq (by simp) | (simp; done)) ?_) ?_
    obtain ⟨e1, e2, e3⟩ := heq; subst e1 e2 e3; exact ⟨hpt, hr2l, hb, hP, hB_o0⟩
   have c4_65_ := c4_65
   try simp only [DZ] at c4_65
   have h4 : ¬ isT en [wShort] r = true := by rw [c4_65_]; decide
   obtain ⟨sel, kk, r2, heq⟩ : ∃ (a b : Int) (c : List Tok), a = 0 ∧ b = 0 ∧ c = r := ⟨_, _, _, rfl, rfl, rfl⟩
   have hpt : pSel en r = .ok (0, 0) r := by unfold pSel; rw [if_neg h1, if_neg h3, if_neg h4]
   have hr2l : r.length ≤ ts.length := by omega
   refine Wc.skip ?_
   refine Wq.meet hM_30 (⟨sel, kk, r2⟩) (by repeat first | exact Sub.nil | refine Sub.cons' rfl (by first | rfl | exact int_eq (by omega) | exact int_eq (by simp) | (simp; done)) ?_) ?_
   obtain ⟨e1, e2, e3⟩ := heq; subst e1 e2 e3; exact ⟨hpt, hr2l, hb, hP, hB_o0⟩
  rintro ⟨sel, kk, r2⟩ wr hI_102
  replace hI_102 : pSel en r = .ok (sel, kk) r2 ∧ r2.length ≤ ts.length ∧ Kp p w wr ∧ PSt wr p en r2 0 0 ∧ Blk wr g_o0 33 (qcells mode sel kk pc0) := hI_102
  obtain ⟨hSe, hrl2, hb, hP, hB_o0⟩ := hI_102
  show Wq _ _ _ _ [(0, pptr p), (2, .pointer (some ⟨g_o0, 0, none⟩))] _
  try have hzhb_c1 := hb.size
  have hlhB_o0_c1 := hB_o0.lt
  refine Wq.block_normal <| Wq.next hK_22 <| Wc.seq fun _ hK_103 => Wc.region <| Wl.mv rfl rfl ?_
  refine Wl.callP txt41PsQ rfl rfl ((pat_d p en (ts.length + 1) (ts.length + 1) 0 _ (Nat.le_refl _)).does _ r2 (Kp.refl _ _) hP (by omega)) rfl (fun v_ w_k13 hv_ => ?_) (fun c_ w_k13 hx_ => ?_)
  rotate_left
  ·
   obtain ⟨a_k13, e_k13, hF_k13, rfl, hPp_k13, hs_k13⟩ := hx_
   have hz_k13 := hs_k13.size
   have hb := hb.trans hs_k13
   refine Wq.then_panic ?_
   refine panics ?_
   exact outX ⟨_, _, by simp only [pQuery, hMo, hSe, hF_k13], rfl, hPp_k13, hb⟩
  obtain ⟨⟨x, r4, hFp, ⟨z, Sz, rfl, hz, hz_S⟩, hP, hrl4⟩, hs_k13⟩ := hv_
  have hz_k13 := hs_k13.size
  have hB_o0 := hB_o0.kp hs_k13 (by omega)
  have hb := hb.trans hs_k13
  refine Wl.y (y_fieldAddr (fa33_3PsQ _) rfl) rfl ?_
  refine Wl.storeBS (by kernel_rfl) rfl rfl rfl hB_o0 (by show 3 + 20 ≤ 23; decide) ?_
  rintro w_s6 hn_s6 hg_s6
  have hz_s6 := hg_s6.size
  have hb := kp_blk hb hg_s6 (by omega)
  try have hP := PSt.over hP hg_s6 (by omega)
  try have hz := PAt.kp hz hg_s6 (fun h_ => by have h2_ := hz_S _ h_; omega)
  have hB_o0 := hn_s6
  refine Wl.nil <| Wq.next hK_103 <| Wc.seq fun _ hK_107 => Wc.seq fun _ hK_108 => ?_
  rw [setL_q] at hB_o0
  obtain ⟨A, c, hp1, hp2, hPb, hPr, hp5⟩ := hP.ex
  refine Wc.region <| Wl.mv rfl rfl <| Wl.y (y_nilCheck rfl) rfl ?_
  refine Wl.y (y_fieldAddr (fa60_0PsQ _) rfl) rfl ?_
  refine Wl.y (y_fieldAddr (fa58_0PsQ _) rfl) rfl ?_
  refine Wl.l (l_load one39PsQ rfl (by exact hPb.at (j := 0) rfl)) rfl ?_
  refine Wl.y (y_lenl Tryz.underlying39 (by omega) rfl) rfl ?_
  refine Wl.y (y_gtri rfl rfl) rfl <| Wl.nil <| Wq.next hK_108 ?_
  refine Wc.cond rfl (fun c7_116 => ?_) (fun c7_116 => ?_)
  ·
   have c7_116_ := c7_116
   try simp only [DZ] at c7_116
   have h7 : 0 < r4.length := by have := c7_116; omega
   refine Wc.region <| Wl.mv rfl rfl ?_
   refine Wl.callP txt42PsQ rfl rfl (fail_r p en r4 0 0 _ hP) rfl (fun v_ w_k14 hv_ => ?_) (fun c_ w_k14 hx_ => ?_)
   rotate_left
   ·
    obtain ⟨a_k14, e_k14, hF_k14, rfl, hPp_k14, hs_k14⟩ := hx_
    have hz_k14 := hs_k14.size
    have hb := hb.trans hs_k14
    refine Wq.then_panic ?_
    refine panics ?_
    cases hF_k14; exact outX ⟨_, _, by simp only [pQuery, hMo, hSe, hFp, if_pos h7], rfl, hPp_k14, hb⟩
   exact hv_.elim
  have c7_116_ := c7_116
  try simp only [DZ] at c7_116
  have h7 : ¬ 0 < r4.length := by have := c7_116; omega
  refine Wc.skip <| Wq.next hK_107 <| Wc.seq fun _ hK_119 => Wc.region ?_
  refine Wl.l (l_loadS Tryz.underlying33 (by kernel_rfl) rfl (by exact fun j u hu => hB_o0.at hu)) rfl ?_
  refine Wl.storeS (by kernel_rfl) rfl rfl hB_o0 rfl rfl ?_
  rintro w_s7 hn_s7 hg_s7
  have hz_s7 := hg_s7.size
  have hb := kp_blk hb hg_s7 (by omega)
  try have hP := PSt.over hP hg_s7 (by omega)
  try have hz := PAt.kp hz hg_s7 (fun h_ => by have h2_ := hz_S _ h_; omega)
  have hB_o0 := hn_s7
  refine Wl.nil <| Wq.next hK_119 <| Wc.ret ?_
  refine retN (rs := [.cell 2 33]) (vs := [_]) rfl (.cell rfl (loadS Tryz.underlying33 (by kernel_rfl) (fun j u hu => hB_o0.at hu)) .nil) ?_
  exact outR ⟨⟨⟨mode, sel, kk, x⟩, r4, by simp only [pQuery, hMo, hSe, hFp, if_neg h7], ⟨z, Sz, rfl, hz, fun k hk => by have := hz_S k hk; omega⟩, hP, by omega⟩, hb⟩
end Go.Proofs.YtjnabgddjogkbaaGreatDoor
