/- The reference: Right, Same, null, Truth, by the calculus. · bridlewayref02.Int and sign, by the calculus. · bridlewayref02.Text, by the calculus. -/
import Derived.Test.YtjnabgddjogkbaaGreatDoorZH
import Derived.Test.YtjnabgddjogkbaaGreatDoorZD
import Derived.Test.YtjnabgddjogkbaaGreatDoorZJ
namespace Go.Proofs.YtjnabgddjogkbaaGreatDoor
open Go.RowKit Go.Bw Go.Bw.Fl
set_option linter.unusedVariables false
set_option linter.unusedSimpArgs false
theorem fa25_0RefR (p : Addr) (w : World) : (Instr.fieldAt 25 (.pointer (some p)) 0).run Tryz.prog w = .ok (.pointer (some (p.add 0))) w := run_fieldAt (i := 0) (sz := 0) Tryz.underlying25 rfl (by kernel_rfl) p w
theorem fa25_1RefR (p : Addr) (w : World) : (Instr.fieldAt 25 (.pointer (some p)) 1).run Tryz.prog w = .ok (.pointer (some (p.add 1))) w := run_fieldAt (i := 1) (sz := 0) Tryz.underlying25 rfl (by kernel_rfl) p w
theorem fa25_2RefR (p : Addr) (w : World) : (Instr.fieldAt 25 (.pointer (some p)) 2).run Tryz.prog w = .ok (.pointer (some (p.add 2))) w := run_fieldAt (i := 2) (sz := 0) Tryz.underlying25 rfl (by kernel_rfl) p w
theorem fa25_3RefR (p : Addr) (w : World) : (Instr.fieldAt 25 (.pointer (some p)) 3).run Tryz.prog w = .ok (.pointer (some (p.add 3))) w := run_fieldAt (i := 3) (sz := 0) Tryz.underlying25 rfl (by kernel_rfl) p w
theorem one2RefR : One Tryz.prog 2 := ⟨_, Tryz.underlying2, rfl, by kernel_rfl⟩
theorem one23RefR : One Tryz.prog 23 := ⟨_, Tryz.underlying23, rfl, by kernel_rfl⟩
theorem one3RefR : One Tryz.prog 3 := ⟨_, Tryz.underlying3, rfl, by kernel_rfl⟩
theorem one9RefR : One Tryz.prog 9 := ⟨_, Tryz.underlying9, rfl, by kernel_rfl⟩
theorem txt95RefR : Txt Tryz.prog 95 := ⟨_, Tryz.func95, by kernel_rfl, rfl⟩   -- bridleway/bridlewayref01.Bits
theorem key_canon_iff {a b : Nat} (ha : a < 18446744073709551616) (hb : b < 18446744073709551616) : keyW a = keyW b ↔ canon a = canon b :=
  ⟨canon_inj ha hb, fun h => by rw [← key_canon a, ← key_canon b, h]⟩
theorem RSame_r (a b : Val) (oa : a.Ok) (ob : b.Ok) (w : World) : Ret Tryz.prog 76 [a.enc, b.enc] w fun v w' => v = .bool (sameV a b) ∧ Below w.heap.size w w' := by
  have hk := key_canon_iff oa.f1 ob.f1
  have hb := Below.refl w.heap.size w
  refine enter Tryz.func76 rfl rfl rfl ?_
  refine Wc.seq fun _ hK_1 => Wc.region ?_
  refine Wl.boxN rfl rfl ?_
  rintro g_o0 w_o0 hg_o0 hn_o0 hs_o0
  have hz_o0 := hs_o0.size
  have hb := hb.trans (hs_o0.mono hb.size)
  have hB_o0 := hn_o0
  have hl_o0 := hB_o0.lt
  refine Wl.boxN rfl rfl ?_
  rintro g_o1 w_o1 hg_o1 hn_o1 hs_o1
  have hz_o1 := hs_o1.size
  have hb := hb.trans (hs_o1.mono hb.size)
  try have hB_o0 := Blk.below hB_o0 hs_o1
  have hB_o1 := hn_o1
  have hl_o1 := hB_o1.lt
  refine Wl.sg rfl rfl <| Wl.nil <| Wq.next hK_1 <| Wc.seq fun _ hK_5 => ?_
  refine Wc.quiet (by kernel_rfl) (by kernel_rfl) ?_
  refine Wy.y (y_fieldAddr (fa25_0RefR _) rfl) rfl ?_
  refine Wy.l (fun wq hq => l_load one3RefR rfl (by have hB_o0 := Blk.below hB_o0 hq; have hB_o1 := Blk.below hB_o1 hq; first | exact hB_o0.at rfl | exact hB_o1.at rfl | exact hB_o0.cell 0 | exact hB_o1.cell 0 | assumption)) rfl ?_
  refine Wy.y (y_fieldAddr (fa25_0RefR _) rfl) rfl ?_
  refine Wy.l (fun wq hq => l_load one3RefR rfl (by have hB_o0 := Blk.below hB_o0 hq; have hB_o1 := Blk.below hB_o1 hq; first | exact hB_o0.at rfl | exact hB_o1.at rfl | exact hB_o0.cell 0 | exact hB_o1.cell 0 | assumption)) rfl ?_
  refine Wy.y (y_eqli rfl rfl) rfl <| Wy.y (y_move rfl) rfl ?_
  refine Wy.guardT rfl rfl rfl (fun g_12 => ?_) (fun g_12 => ?_)
  ·
   have g_12_ := g_12
   refine Wy.y (y_fieldAddr (fa25_1RefR _) rfl) rfl ?_
   refine Wy.on' rfl rfl g_12_ ?_
   refine Wy.l (fun wq hq => l_load one2RefR rfl (by have hB_o0 := Blk.below hB_o0 hq; have hB_o1 := Blk.below hB_o1 hq; first | exact hB_o0.at rfl | exact hB_o1.at rfl | exact hB_o0.cell 0 | exact hB_o1.cell 0 | assumption)) rfl ?_
   refine Wy.on' rfl rfl g_12_ ?_
   refine Wy.y (y_fieldAddr (fa25_1RefR _) rfl) rfl ?_
   refine Wy.on' rfl rfl g_12_ ?_
   refine Wy.l (fun wq hq => l_load one2RefR rfl (by have hB_o0 := Blk.below hB_o0 hq; have hB_o1 := Blk.below hB_o1 hq; first | exact hB_o0.at rfl | exact hB_o1.at rfl | exact hB_o0.cell 0 | exact hB_o1.cell 0 | assumption)) rfl ?_
   refine Wy.on' rfl rfl g_12_ <| Wy.y (y_eqli rfl rfl) rfl ?_
   refine Wy.y (y_pickT rfl g_12_ rfl) rfl ?_
   refine Wy.y (y_move rfl) rfl ?_
   refine Wy.guardT rfl rfl rfl (fun g_20 => ?_) (fun g_20 => ?_)
   ·
    have g_20_ := g_20
    refine Wy.y (y_fieldAddr (fa25_3RefR _) rfl) rfl ?_
    refine Wy.on' rfl rfl g_20_ ?_
    refine Wy.l (fun wq hq => l_load one9RefR rfl (by have hB_o0 := Blk.below hB_o0 hq; have hB_o1 := Blk.below hB_o1 hq; first | exact hB_o0.at rfl | exact hB_o1.at rfl | exact hB_o0.cell 0 | exact hB_o1.cell 0 | assumption)) rfl ?_
    refine Wy.on' rfl rfl g_20_ ?_
    refine Wy.y (y_fieldAddr (fa25_3RefR _) rfl) rfl ?_
    refine Wy.on' rfl rfl g_20_ ?_
    refine Wy.l (fun wq hq => l_load one9RefR rfl (by have hB_o0 := Blk.below hB_o0 hq; have hB_o1 := Blk.below hB_o1 hq; first | exact hB_o0.at rfl | exact hB_o1.at rfl | exact hB_o0.cell 0 | exact hB_o1.cell 0 | assumption)) rfl ?_
    refine Wy.on' rfl rfl g_20_ <| Wy.y (y_eqls rfl rfl) rfl ?_
    refine Wy.y (y_pickT rfl g_20_ rfl) rfl ?_
    refine Wy.y (y_move rfl) rfl ?_
    refine Wy.guardT rfl rfl rfl (fun g_28 => ?_) (fun g_28 => ?_)
    ·
     have g_28_ := g_28
     refine Wy.y (y_fieldAddr (fa25_2RefR _) rfl) rfl ?_
     refine Wy.on' rfl rfl g_28_ ?_
     refine Wy.l (fun wq hq => l_load one23RefR rfl (by have hB_o0 := Blk.below hB_o0 hq; have hB_o1 := Blk.below hB_o1 hq; first | exact hB_o0.at rfl | exact hB_o1.at rfl | exact hB_o0.cell 0 | exact hB_o1.cell 0 | assumption)) rfl ?_
     refine Wy.on' rfl rfl g_28_ ?_
     refine Wy.call txt95RefR rfl rfl (fun wq hq => by have hB_o0 := Blk.below hB_o0 hq; have hB_o1 := Blk.below hB_o1 hq; exact Ret.quiet (Bits_r _ oa.f1 _)) rfl ?_
     refine Wy.on' rfl rfl g_28_ ?_
     refine Wy.y (y_fieldAddr (fa25_2RefR _) rfl) rfl ?_
     refine Wy.on' rfl rfl g_28_ ?_
     refine Wy.l (fun wq hq => l_load one23RefR rfl (by have hB_o0 := Blk.below hB_o0 hq; have hB_o1 := Blk.below hB_o1 hq; first | exact hB_o0.at rfl | exact hB_o1.at rfl | exact hB_o0.cell 0 | exact hB_o1.cell 0 | assumption)) rfl ?_
     refine Wy.on' rfl rfl g_28_ ?_
     refine Wy.call txt95RefR rfl rfl (fun wq hq => by have hB_o0 := Blk.below hB_o0 hq; have hB_o1 := Blk.below hB_o1 hq; exact Ret.quiet (Bits_r _ ob.f1 _)) rfl ?_
     refine Wy.on' rfl rfl g_28_ <| Wy.y (y_eqli rfl rfl) rfl ?_
     refine Wy.y (y_pickT rfl g_28_ rfl) rfl ?_
     refine Wy.y (y_assign rfl) rfl ?_
     refine Wy.nil fun w_g1 hs_g1 => ?_
     have hz_g1 := hs_g1.size
     have hb := hb.trans (hs_g1.mono hb.size)
     refine Wq.next hK_5 <| Wc.ret ?_
     refine ret1 rfl rfl ?_
     exact ⟨_, rfl, bool_eq (by unfold sameV; rw [Bool.eq_iff_iff]; simp only [decide_eq_true_eq, hk, beqN]; clear hk; simp_all), hb⟩
    have g_28_ := g_28
    refine Wy.off' rfl rfl g_28_ rfl rfl <| Wy.off' rfl rfl g_28_ rfl rfl <| Wy.off' rfl rfl g_28_ rfl rfl <| Wy.off' rfl rfl g_28_ rfl rfl <| Wy.off' rfl rfl g_28_ rfl rfl <| Wy.off' rfl rfl g_28_ rfl rfl ?_
    refine Wy.y (y_pickF rfl g_28_ rfl) rfl ?_
    refine Wy.y (y_assign rfl) rfl ?_
    refine Wy.nil fun w_g1 hs_g1 => ?_
    have hz_g1 := hs_g1.size
    have hb := hb.trans (hs_g1.mono hb.size)
    refine Wq.next hK_5 <| Wc.ret ?_
    refine ret1 rfl rfl ?_
    exact ⟨_, rfl, bool_eq (by unfold sameV; rw [Bool.eq_iff_iff]; simp only [decide_eq_true_eq, hk, beqN]; clear hk; simp_all), hb⟩
   have g_20_ := g_20
   refine Wy.off' rfl rfl g_20_ rfl rfl <| Wy.off' rfl rfl g_20_ rfl rfl <| Wy.off' rfl rfl g_20_ rfl rfl <| Wy.off' rfl rfl g_20_ rfl rfl ?_
   refine Wy.y (y_pickF rfl g_20_ rfl) rfl ?_
   refine Wy.y (y_move rfl) rfl <| Wy.off' rfl rfl rfl rfl rfl <| Wy.off' rfl rfl rfl rfl rfl <| Wy.off' rfl rfl rfl rfl rfl <| Wy.off' rfl rfl rfl rfl rfl <| Wy.off' rfl rfl rfl rfl rfl <| Wy.off' rfl rfl rfl rfl rfl <| Wy.off' rfl rfl rfl rfl rfl <| Wy.y (y_pickF rfl rfl rfl) rfl <| Wy.y (y_assign rfl) rfl ?_
   refine Wy.nil fun w_g1 hs_g1 => ?_
   have hz_g1 := hs_g1.size
   have hb := hb.trans (hs_g1.mono hb.size)
   refine Wq.next hK_5 <| Wc.ret ?_
   refine ret1 rfl rfl ?_
   exact ⟨_, rfl, bool_eq (by unfold sameV; rw [Bool.eq_iff_iff]; simp only [decide_eq_true_eq, hk, beqN]; clear hk; simp_all), hb⟩
  have g_12_ := g_12
  refine Wy.off' rfl rfl g_12_ rfl rfl <| Wy.off' rfl rfl g_12_ rfl rfl <| Wy.off' rfl rfl g_12_ rfl rfl <| Wy.off' rfl rfl g_12_ rfl rfl ?_
  refine Wy.y (y_pickF rfl g_12_ rfl) rfl ?_
  refine Wy.y (y_move rfl) rfl <| Wy.off' rfl rfl rfl rfl rfl <| Wy.off' rfl rfl rfl rfl rfl <| Wy.off' rfl rfl rfl rfl rfl <| Wy.off' rfl rfl rfl rfl rfl <| Wy.off' rfl rfl rfl rfl rfl <| Wy.y (y_pickF rfl rfl rfl) rfl <| Wy.y (y_move rfl) rfl <| Wy.off' rfl rfl rfl rfl rfl <| Wy.off' rfl rfl rfl rfl rfl ?_
  refine Wy.off' rfl rfl rfl rfl rfl <| Wy.off' rfl rfl rfl rfl rfl <| Wy.off' rfl rfl rfl rfl rfl <| Wy.off' rfl rfl rfl rfl rfl <| Wy.off' rfl rfl rfl rfl rfl <| Wy.y (y_pickF rfl rfl rfl) rfl <| Wy.y (y_assign rfl) rfl ?_
  refine Wy.nil fun w_g1 hs_g1 => ?_
  have hz_g1 := hs_g1.size
  have hb := hb.trans (hs_g1.mono hb.size)
  refine Wq.next hK_5 <| Wc.ret ?_
  refine ret1 rfl rfl ?_
  exact ⟨_, rfl, bool_eq (by unfold sameV; rw [Bool.eq_iff_iff]; simp only [decide_eq_true_eq, hk, beqN]; clear hk; simp_all), hb⟩
end Go.Proofs.YtjnabgddjogkbaaGreatDoor
namespace Go.Proofs.YtjnabgddjogkbaaGreatDoor
open Go.RowKit Go.Bw Go.Bw.Fl
set_option linter.unusedVariables false
set_option linter.unusedSimpArgs false
theorem txt16RInt : Txt Tryz.prog 16 := ⟨_, Tryz.func16, by kernel_rfl, rfl⟩   -- bridleway/bridlewayref02.Int
theorem nt_abs (n : Int) : (n.tdiv 10).natAbs = n.natAbs / 10 ∧ (0 ≤ n → n.tmod 10 = ((n.natAbs % 10 : Nat) : Int)) ∧ (n < 0 → n.tmod 10 = -((n.natAbs % 10 : Nat) : Int)) := by
  rcases Int.lt_or_le n 0 with h | h
  · obtain ⟨u, hu⟩ : ∃ u : Nat, n = -(u : Int) := ⟨n.natAbs, by omega⟩
    subst hu
    have e1 : ((-(u : Int)).tdiv 10) = -((u / 10 : Nat) : Int) := by rw [Int.neg_tdiv, Int.tdiv_eq_ediv_of_nonneg (by omega)]; omega
    have e2 : ((-(u : Int)).tmod 10) = -((u % 10 : Nat) : Int) := by rw [Int.neg_tmod, Int.tmod_eq_emod_of_nonneg (by omega)]; omega
    rw [e1, e2]; omega
  · obtain ⟨u, hu⟩ : ∃ u : Nat, n = (u : Int) := ⟨n.natAbs, by omega⟩
    subst hu
    have e1 : ((u : Int).tdiv 10) = ((u / 10 : Nat) : Int) := by rw [Int.tdiv_eq_ediv_of_nonneg (by omega)]; omega
    have e2 : ((u : Int).tmod 10) = ((u % 10 : Nat) : Int) := by rw [Int.tmod_eq_emod_of_nonneg (by omega)]; omega
    rw [e1, e2]; omega
theorem RInt_r (u : Nat) : ∀ (n : Int) (hu : n.natAbs = u) (h0 : -9223372036854775808 ≤ n) (h1 : n ≤ 9223372036854775807) (w : World), Ret Tryz.prog 16 [.int .i64 n] w fun v w' => v = str (Lib.decDigits u) ∧ Below w.heap.size w w' := by
  induction u using Nat.strongRecOn with
  | ind u ih =>
  intro n hu h0 h1 w
  obtain ⟨hq, hm0, hm1⟩ := nt_abs n
  rw [hu] at hq hm0 hm1
  have hqb : -9223372036854775808 ≤ n.tdiv 10 ∧ n.tdiv 10 ≤ 9223372036854775807 := by omega
  have hb := Below.refl w.heap.size w
  refine enter Tryz.func16 rfl rfl rfl ?_
  refine Wc.seq fun _ hK_1 => Wc.region <| Wl.sg rfl rfl <| Wl.nil <| Wq.next hK_1 <| Wc.seq fun _ hK_3 => Wc.region <| Wl.mv rfl rfl ?_
  refine Wl.y (y_rem rfl rfl (by first | decide | omega)) rfl ?_
  refine Wl.sg rfl rfl <| Wl.nil <| Wq.next hK_3 <| Wc.seq fun _ hK_7 => Wc.seq fun _ hK_8 => Wc.region <| Wl.mv rfl rfl <| Wl.y (y_lssi rfl rfl) rfl <| Wl.nil <| Wq.next hK_8 ?_
  refine Wc.meet (X := Unit) (fun u_ => [(0, .int .i64 n), (3, .int .i64 (u % 10 : Nat))]) (fun u_ wr => Below w.heap.size w wr) (fun _ hM_11 => ?_) ?_
  ·
   refine Wc.cond rfl (fun c0_12 => ?_) (fun c0_12 => ?_)
   ·
    have c0_12_ := c0_12
    try simp only [DZ] at c0_12
    refine Wc.region <| Wl.mv rfl rfl ?_
    refine Wl.y (y_eq (y_negi rfl) (int_eq (show _ = ((u % 10 : Nat) : Int) by have := c0_12; first | (rw [wrap_i64 _ (by omega) (by omega)]; omega) | omega))) rfl ?_
    refine Wl.sg rfl rfl <| Wl.nil ?_
    refine Wq.meet hM_11 (()) (by repeat first | exact Sub.nil | refine Sub.cons' rfl (by first | rfl | exact int_eq (by have := c0_12; omega)) ?_) ?_
    exact hb
   have c0_12_ := c0_12
   try simp only [DZ] at c0_12
   refine Wc.skip ?_
   refine Wq.meet hM_11 (()) (by repeat first | exact Sub.nil | refine Sub.cons' rfl (by first | rfl | exact int_eq (by have := c0_12; omega)) ?_) ?_
   exact hb
  rintro u_ wr hI_16
  replace hI_16 : Below w.heap.size w wr := hI_16
  have hb := hI_16
  show Wq _ _ _ _ [(0, .int .i64 n), (3, .int .i64 (u % 10 : Nat))] _
  try have hzhb_c0 := hb.size
  refine Wq.next hK_7 <| Wc.seq fun _ hK_17 => Wc.region <| Wl.mv rfl rfl ?_
  refine Wl.y (y_addI rfl rfl (by first | omega | (simp; done) | (simp; omega)) (by first | omega | (simp; done) | (simp; omega))) rfl ?_
  refine Wl.y (y_eq (y_convi Tryz.underlying2 Tryz.underlying5 rfl) (int_eq (digit_u8 (u % 10) (by omega)))) rfl ?_
  refine Wl.litN (sz := 1) (vs := [_]) Tryz.underlying50 (by kernel_rfl) rfl rfl rfl rfl rfl rfl ?_
  rintro g_b0 w_b0 hg_b0 hn_b0 hs_b0
  have hz_b0 := hs_b0.size
  have hb := hb.trans (hs_b0.mono hb.size)
  have hB_b0 := hn_b0
  have hl_b0 := hB_b0.lt
  refine Wl.l (l_str Tryz.underlying50 Tryz.underlying5 Tryz.underlying9 rfl (by exact Rd.byte hB_b0)) rfl ?_
  refine Wl.sg rfl rfl <| Wl.nil <| Wq.next hK_17 <| Wc.seq fun _ hK_24 => Wc.region <| Wl.mv rfl rfl ?_
  refine Wl.y (y_eq (y_quo rfl rfl (by first | decide | omega)) (int_eq (show _ = n.tdiv 10 from wrap_i64 _ (by omega) (by omega)))) rfl ?_
  refine Wl.sg rfl rfl <| Wl.nil <| Wq.next hK_24 <| Wc.seq fun _ hK_28 => Wc.seq fun _ hK_29 => Wc.region <| Wl.mv rfl rfl <| Wl.y (y_neqi rfl rfl) rfl <| Wl.nil <| Wq.next hK_29 ?_
  refine Wc.cond rfl (fun c1_32 => ?_) (fun c1_32 => ?_)
  ·
   have c1_32_ := c1_32
   try simp only [DZ] at c1_32
   refine Wc.seq fun _ hK_33 => Wc.region <| Wl.mv rfl rfl ?_
   refine Wl.call txt16RInt rfl rfl (ih (u / 10) (by have := c1_32; omega) (n.tdiv 10) hq hqb.1 hqb.2 _) rfl ?_
   rintro _ w_k0 ⟨rfl, hs_k0⟩
   have hz_k0 := hs_k0.size
   have hb := hb.trans (hs_k0.mono hb.size)
   refine Wl.mv rfl rfl ?_
   refine Wl.y (y_adds rfl rfl (by have := decDigits_le (u / 10) (by omega); first | omega | (simp; omega))) rfl ?_
   refine Wl.sg rfl rfl <| Wl.nil <| Wq.next hK_33 <| Wc.ret <| Wq.then_ret ?_
   refine ret1 rfl rfl ?_
   exact ⟨_, rfl, by rw [Lib.decDigits.eq_def u, dif_neg (by have := c1_32; omega)], hb⟩
  have c1_32_ := c1_32
  try simp only [DZ] at c1_32
  refine Wc.skip <| Wq.next hK_28 <| Wc.seq fun _ hK_39 => Wc.region <| Wl.mv rfl rfl <| Wl.sg rfl rfl <| Wl.nil <| Wq.next hK_39 <| Wc.ret ?_
  refine ret1 rfl rfl ?_
  exact ⟨_, rfl, by rw [Lib.decDigits.eq_def u, dif_pos (by have := c1_32; omega), Nat.mod_eq_of_lt (by have := c1_32; omega)], hb⟩
theorem take_end {l : List UInt8} {i : Nat} (h : i < l.length) : l.take (i + 1) = l.take i ++ [l.getD i 0] := by
  rw [List.take_add_one, List.getElem?_eq_getElem h]; simp [List.getD, List.getElem?_eq_getElem h]
theorem itoa_neg {n : Int} (h : n < 0) : Lib.itoa n = 45 :: Lib.decDigits n.natAbs := by unfold Lib.itoa; rw [if_pos h]
theorem itoa_pos {n : Int} (h : ¬ n < 0) : Lib.itoa n = Lib.decDigits n.natAbs := by unfold Lib.itoa; rw [if_neg h]; congr 1; omega
theorem itoa_sgn (n : Int) : Lib.itoa n = (if n < 0 then [45] else []) ++ Lib.decDigits n.natAbs := by
  by_cases h : n < 0
  · rw [itoa_neg h, if_pos h]; rfl
  · rw [itoa_pos h, if_neg h]; rfl
end Go.Proofs.YtjnabgddjogkbaaGreatDoor
namespace Go.Proofs.YtjnabgddjogkbaaGreatDoor
open Go.RowKit Go.Bw Go.Bw.Fl
set_option linter.unusedVariables false
set_option linter.unusedSimpArgs false
end Go.Proofs.YtjnabgddjogkbaaGreatDoor
