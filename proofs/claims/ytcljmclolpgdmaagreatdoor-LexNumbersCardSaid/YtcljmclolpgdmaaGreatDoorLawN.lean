/- The statement LexNumbers, by the calculus. -/
import Derived.Test.YtcljmclolpgdmaaGreatDoorNumL
namespace Go.Proofs.YtcljmclolpgdmaaGreatDoor
open Go.RowKit Go.Bw Go.Bw.Fl
set_option linter.unusedVariables false
set_option linter.unusedSimpArgs false
theorem fa49_0LawN (p : Addr) (w : World) : (Instr.fieldAt 49 (.pointer (some p)) 0).run Tryz.prog w = .ok (.pointer (some (p.add 0))) w := run_fieldAt (i := 0) (sz := 0) Tryz.underlying49 rfl (by kernel_rfl) p w
theorem fa49_1LawN (p : Addr) (w : World) : (Instr.fieldAt 49 (.pointer (some p)) 1).run Tryz.prog w = .ok (.pointer (some (p.add 1))) w := run_fieldAt (i := 1) (sz := 0) Tryz.underlying49 rfl (by kernel_rfl) p w
theorem one3LawN : One Tryz.prog 3 := ⟨_, Tryz.underlying3, rfl, by kernel_rfl⟩
theorem one9LawN : One Tryz.prog 9 := ⟨_, Tryz.underlying9, rfl, by kernel_rfl⟩
theorem sz49LawN : (Tryz.prog.info? 49).map (·.size) = some 3 := by kernel_rfl
theorem txt15LawN : Txt Tryz.prog 15 := ⟨_, Tryz.func15, by kernel_rfl, rfl⟩   -- bridleway/bridlewayref02.Text
theorem txt21LawN : Txt Tryz.prog 21 := ⟨_, Tryz.func21, by kernel_rfl, rfl⟩   -- bridleway/bridlewaylaw10.shown
theorem txt22LawN : Txt Tryz.prog 22 := ⟨_, Tryz.func22, by kernel_rfl, rfl⟩   -- bridleway/lex.Lex
theorem txt26LawN : Txt Tryz.prog 26 := ⟨_, Tryz.func26, by kernel_rfl, rfl⟩   -- bridleway/bridlewayref02.Truth
theorem Rd.tokq {w : World} {A : Option Addr} {l : List Tok} (h : Rd w 3 A l.length (l.flatMap Tok.cells)) {i : Nat} {t : Tok} (hi : l[i]? = some t) : ∃ p, A = some p ∧ ∀ (j : Nat) (u : Value), t.cells[j]? = some u → w.cell? ((p.add (i * 3)).add j) = some u := by
  obtain ⟨hlt, e⟩ := List.getElem?_eq_some_iff.1 hi
  obtain ⟨p, hp, hc⟩ := Rd.tok h hlt
  rw [e] at hc; exact ⟨p, hp, hc⟩
theorem itoa_ne (n : Int) : 1 ≤ (Lib.itoa n).length := by
  unfold Lib.itoa; split
  · simp
  · exact List.length_pos_iff.2 (decDigits_spec n.toNat).2.2
theorem rt_int (n : Int) : rtV ⟨2, n, 0, []⟩ = Lib.itoa n := rfl
theorem rt_str (s : List UInt8) : rtV ⟨4, 0, 0, s⟩ = quoteV s := rfl
theorem Numbers_r (n : Int) (s : List UInt8) (t : Bool) (w : World) (hX : Lx w) (hs : s.length ≤ 140737488355328) (h0 : -9223372036854775808 ≤ n) (h1 : n ≤ 9223372036854775807) : Ret Tryz.prog 10 [.int .i64 n, str s, .bool t] w fun v w' => v = .bool true ∧ Below w.heap.size w w' := by
  obtain ⟨x, hx⟩ : ∃ x, x = s.take 50 := ⟨_, rfl⟩
  have hxl : x.length ≤ 50 := by rw [hx]; exact List.length_take_le _ _
  obtain ⟨c, hc⟩ : ∃ c, c = rtV (truthV t) := ⟨_, rfl⟩
  have hoc : Own 2 c := by rw [hc]; cases t; exact own_false; exact own_true
  have hcl : c.length ≤ 5 := by rw [hc]; cases t <;> decide
  have hql : (quoteV x).length ≤ 102 := by have := qc_len x; unfold quoteV; rw [List.length_cons, List.length_append]; show _ + 1 + 1 ≤ 102; omega
  have hil := itoa_le n h0 h1
  have hip := itoa_ne n
  obtain ⟨l, k, hlex, hlen, hk1, hkn, hl0, ⟨q0, hk0_⟩, ⟨q1, hk1_⟩, ⟨q2, hk2_⟩, ⟨q3, hk3_⟩⟩ := nums_eq n h0 h1 x c hoc
  have hb := Below.refl w.heap.size w
  have hX_hb := hX
  refine enter Tryz.func10 rfl rfl rfl ?_
  refine Wc.seq fun _ hK_1 => ?_
  refine Wc.region ?_
  refine Wl.y (y_assign rfl) rfl ?_
  refine Wl.nil ?_
  refine Wq.next hK_1 ?_
  refine Wc.seq fun _ hK_3 => ?_
  refine Wc.region ?_
  refine Wl.call txt21LawN rfl rfl (lshown_r _ hX) rfl ?_
  rintro _ w_k0 ⟨rfl, hs_k0⟩
  have hz_k0 := hs_k0.size
  have hb := hb.trans (hs_k0.mono hb.size)
  have hX := hX_hb.below hb
  refine Wl.y (y_assign rfl) rfl ?_
  refine Wl.nil ?_
  refine Wq.next hK_3 ?_
  refine Wc.seq fun _ hK_6 => ?_
  refine Wc.region ?_
  refine Wl.y (y_move rfl) rfl ?_
  refine Wl.y (y_move rfl) rfl ?_
  refine Wl.y (y_lens Tryz.underlying9 (by omega) rfl) rfl ?_
  refine Wl.y (y_eq (y_min rfl rfl) (int_eq (show min (s.length : Int) 50 = ((min s.length 50 : Nat) : Int) by omega))) rfl ?_
  refine Wl.y (y_eq (y_slicesH Tryz.underlying9 rfl rfl (by omega) (by omega)) (str_eq (show _ = x by rw [hx, Int.toNat_natCast]; exact List.take_eq_take_iff.2 (by omega)))) rfl ?_
  refine Wl.y (y_assign rfl) rfl ?_
  refine Wl.nil ?_
  refine Wq.next hK_6 ?_
  refine Wc.seq fun _ hK_13 => ?_
  refine Wc.region ?_
  refine Wl.y (y_move rfl) rfl ?_
  refine Wl.y (y_buildS (z := [(.int .i64 0), (.int .i64 0), (.float .f64 0), (str [])]) (pl := [(0, 1), (1, 1), (2, 1), (3, 1)]) (cs := [_, _, _, _]) Tryz.underlying28 (by kernel_rfl) (by kernel_rfl) rfl rfl rfl) rfl ?_
  refine Wl.call txt15LawN rfl rfl (RTextN_r ⟨2, n, 0, []⟩ (.inr (.inl ⟨rfl, rfl, rfl⟩)) (okV h0 h1 (by decide)) (by simp) _) rfl ?_
  rintro _ w_k1 ⟨rfl, hs_k1⟩
  have hz_k1 := hs_k1.size
  have hb := hb.trans (hs_k1.mono hb.size)
  have hX := hX_hb.below hb
  refine Wl.y (y_move rfl) rfl ?_
  refine Wl.y (y_eq (y_extract rfl rfl) (str_eq (rt_int n))) rfl ?_
  refine Wl.y (y_extract rfl rfl) rfl ?_
  refine Wl.y (y_assign rfl) rfl ?_
  refine Wl.y (y_assign rfl) rfl ?_
  refine Wl.nil ?_
  refine Wq.next hK_13 ?_
  refine Wc.seq fun _ hK_22 => ?_
  refine Wc.region ?_
  refine Wl.y (y_move rfl) rfl ?_
  refine Wl.y (y_buildS (z := [(.int .i64 0), (.int .i64 0), (.float .f64 0), (str [])]) (pl := [(0, 1), (1, 1), (2, 1), (3, 1)]) (cs := [_, _, _, _]) Tryz.underlying28 (by kernel_rfl) (by kernel_rfl) rfl rfl rfl) rfl ?_
  refine Wl.call txt15LawN rfl rfl (RTextN_r ⟨4, 0, 0, x⟩ (.inr (.inr ⟨rfl, rfl, rfl⟩)) (okV (by decide) (by decide) (by decide)) hxl _) rfl ?_
  rintro _ w_k2 ⟨rfl, hs_k2⟩
  have hz_k2 := hs_k2.size
  have hb := hb.trans (hs_k2.mono hb.size)
  have hX := hX_hb.below hb
  refine Wl.y (y_move rfl) rfl ?_
  refine Wl.y (y_eq (y_extract rfl rfl) (str_eq (rt_str x))) rfl ?_
  refine Wl.y (y_extract rfl rfl) rfl ?_
  refine Wl.y (y_assign rfl) rfl ?_
  refine Wl.y (y_assign rfl) rfl ?_
  refine Wl.nil ?_
  refine Wq.next hK_22 ?_
  refine Wc.seq fun _ hK_31 => ?_
  refine Wc.region ?_
  refine Wl.y (y_move rfl) rfl ?_
  refine Wl.call txt26LawN rfl rfl (TruthN_r t _) rfl ?_
  rintro _ w_k3 ⟨rfl, hs_k3⟩
  have hz_k3 := hs_k3.size
  have hb := hb.trans (hs_k3.mono hb.size)
  have hX := hX_hb.below hb
  refine Wl.call txt15LawN rfl rfl (RTextN_r (truthV t) (by cases t; exact .inl ⟨rfl, .inl rfl, rfl, rfl⟩; exact .inl ⟨rfl, .inr rfl, rfl, rfl⟩) (by cases t <;> exact okV (by decide) (by decide) (by decide)) (by cases t <;> decide) _) rfl ?_
  rintro _ w_k4 ⟨rfl, hs_k4⟩
  have hz_k4 := hs_k4.size
  have hb := hb.trans (hs_k4.mono hb.size)
  have hX := hX_hb.below hb
  refine Wl.y (y_move rfl) rfl ?_
  refine Wl.y (y_eq (y_extract rfl rfl) (str_eq hc.symm)) rfl ?_
  refine Wl.y (y_extract rfl rfl) rfl ?_
  refine Wl.y (y_assign rfl) rfl ?_
  refine Wl.y (y_assign rfl) rfl ?_
  refine Wl.nil ?_
  refine Wq.next hK_31 ?_
  refine Wc.seq fun _ hK_40 => ?_
  refine Wc.region ?_
  refine Wl.y (y_move rfl) rfl ?_
  refine Wl.y (y_adds rfl rfl (by first | omega | (simp; done) | (simp; omega))) rfl ?_
  refine Wl.y (y_move rfl) rfl ?_
  refine Wl.y (y_adds rfl rfl (by first | omega | (simp; done) | (simp; omega))) rfl ?_
  refine Wl.y (y_adds rfl rfl (by first | omega | (simp; done) | (simp; omega))) rfl ?_
  refine Wl.y (y_move rfl) rfl ?_
  refine Wl.y (y_adds rfl rfl (by first | omega | (simp; done) | (simp; omega))) rfl ?_
  refine Wl.y (y_eq (y_adds rfl rfl (by first | omega | (simp; done) | (simp; omega))) (str_eq (show _ = Lib.itoa n ++ 32 :: (quoteV x ++ 32 :: (c ++ 32 :: null4)) by simp [null4]))) rfl ?_
  refine Wl.call txt22LawN rfl rfl (Lex_ok hlex (by simp [null4]; omega) _ hX) rfl ?_
  rintro _ w_k5 ⟨⟨A, cp, rfl, _, hcp, hR⟩, hs_k5⟩
  have hz_k5 := hs_k5.size
  have hb := hb.trans (hs_k5.mono hb.size)
  have hX := hX_hb.below hb
  refine Wl.y (y_move rfl) rfl ?_
  refine Wl.y (y_extract rfl rfl) rfl ?_
  refine Wl.y (y_extract rfl rfl) rfl ?_
  refine Wl.y (y_extract rfl rfl) rfl ?_
  refine Wl.y (y_assign rfl) rfl ?_
  refine Wl.y (y_assign rfl) rfl ?_
  refine Wl.y (y_assign rfl) rfl ?_
  refine Wl.nil ?_
  refine Wq.next hK_40 ?_
  refine Wc.seq fun _ hK_57 => ?_
  refine Wc.seq fun _ hK_58 => ?_
  obtain ⟨p, hp, hd0_⟩ := Rd.tokq hR hk0_
  subst hp
  refine Wc.region ?_
  refine Wl.y (y_move rfl) rfl ?_
  refine Wl.y (y_neqi rfl rfl) rfl ?_
  refine Wl.y (y_move rfl) rfl ?_
  refine Wl.guardF rfl rfl rfl (fun g_62 => ?_) (fun g_62 => ?_)
  ·
   have g_62_ := g_62
   try simp only [decide_eq_true_eq, decide_eq_false_iff_not, beq_iff_eq, beq_eq_false_iff_ne, bne_iff_ne, bne_eq_false_iff_eq, Bool.not_eq_true', Bool.not_eq_false', Bool.not_eq_eq_eq_not, Bool.not_true, Bool.not_false, ne_eq, Int.not_lt, Int.not_le] at g_62
   exact absurd g_62_ (by decide)
  ·
   have g_62_ := g_62
   try simp only [decide_eq_true_eq, decide_eq_false_iff_not, beq_iff_eq, beq_eq_false_iff_ne, bne_iff_ne, bne_eq_false_iff_eq, Bool.not_eq_true', Bool.not_eq_false', Bool.not_eq_eq_eq_not, Bool.not_true, Bool.not_false, ne_eq, Int.not_lt, Int.not_le] at g_62
   refine Wl.y (y_move rfl) rfl ?_
   refine Wl.on' rfl rfl g_62_ ?_
   refine Wl.y (y_lenl Tryz.underlying39 (by omega) rfl) rfl ?_
   refine Wl.on' rfl rfl g_62_ ?_
   refine Wl.y (y_lssi rfl rfl) rfl ?_
   refine Wl.y (y_pickF rfl g_62_ rfl) rfl ?_
   refine Wl.nil ?_
   refine Wq.next hK_58 ?_
   refine Wc.cond rfl (fun c0_67 => ?_) (fun c0_67 => ?_)
   ·
    have c0_67_ := c0_67
    try simp only [decide_eq_true_eq, decide_eq_false_iff_not, beq_iff_eq, beq_eq_false_iff_ne, bne_iff_ne, bne_eq_false_iff_eq, Bool.not_eq_true', Bool.not_eq_false', Bool.not_eq_eq_eq_not, Bool.not_true, Bool.not_false, ne_eq, Int.not_lt, Int.not_le] at c0_67
    (have h := c0_67; omega)
   ·
    have c0_67_ := c0_67
    try simp only [decide_eq_true_eq, decide_eq_false_iff_not, beq_iff_eq, beq_eq_false_iff_ne, bne_iff_ne, bne_eq_false_iff_eq, Bool.not_eq_true', Bool.not_eq_false', Bool.not_eq_eq_eq_not, Bool.not_true, Bool.not_false, ne_eq, Int.not_lt, Int.not_le] at c0_67
    refine Wc.skip ?_
    refine Wq.next hK_57 ?_
    refine Wc.seq fun _ hK_68 => ?_
    refine Wc.region ?_
    refine Wl.y (y_move rfl) rfl ?_
    refine Wl.y (y_lenl Tryz.underlying39 (by omega) rfl) rfl ?_
    refine Wl.y (y_eq (y_subI rfl rfl (by first | omega | (simp; done) | (simp; omega)) (by first | omega | (simp; done) | (simp; omega))) (int_eq (show _ = (k : Int) by omega))) rfl ?_
    refine Wl.y (y_assign rfl) rfl ?_
    refine Wl.nil ?_
    refine Wq.next hK_68 ?_
    refine Wc.seq fun _ hK_73 => ?_
    refine Wc.seq fun _ hK_74 => ?_
    refine Wc.region ?_
    refine Wl.y (y_move rfl) rfl ?_
    refine Wl.y (y_eqli rfl rfl) rfl ?_
    refine Wl.y (y_move rfl) rfl ?_
    refine Wl.y (y_lssi rfl rfl) rfl ?_
    refine Wl.y (y_neqb Tryz.underlying4 rfl rfl) rfl ?_
    refine Wl.y (y_move rfl) rfl ?_
    refine Wl.guardF rfl rfl rfl (fun g_81 => ?_) (fun g_81 => ?_)
    ·
     have g_81_ := g_81
     try simp only [decide_eq_true_eq, decide_eq_false_iff_not, beq_iff_eq, beq_eq_false_iff_ne, bne_iff_ne, bne_eq_false_iff_eq, Bool.not_eq_true', Bool.not_eq_false', Bool.not_eq_eq_eq_not, Bool.not_true, Bool.not_false, ne_eq, Int.not_lt, Int.not_le] at g_81
     (exfalso; have h := g_81_; rw [bne_iff_ne] at h; refine h ?_; rw [Bool.eq_iff_iff]; simp; omega)
    ·
     have g_81_ := g_81
     try simp only [decide_eq_true_eq, decide_eq_false_iff_not, beq_iff_eq, beq_eq_false_iff_ne, bne_iff_ne, bne_eq_false_iff_eq, Bool.not_eq_true', Bool.not_eq_false', Bool.not_eq_eq_eq_not, Bool.not_true, Bool.not_false, ne_eq, Int.not_lt, Int.not_le] at g_81
     refine Wl.y (y_move rfl) rfl ?_
     refine Wl.on' rfl rfl g_81_ ?_
     refine Wl.y (y_gtri rfl rfl) rfl ?_
     refine Wl.y (y_pickF rfl g_81_ rfl) rfl ?_
     refine Wl.y (y_move rfl) rfl ?_
     refine Wl.guardF rfl rfl rfl (fun g_86 => ?_) (fun g_86 => ?_)
     ·
      have g_86_ := g_86
      try simp only [decide_eq_true_eq, decide_eq_false_iff_not, beq_iff_eq, beq_eq_false_iff_ne, bne_iff_ne, bne_eq_false_iff_eq, Bool.not_eq_true', Bool.not_eq_false', Bool.not_eq_eq_eq_not, Bool.not_true, Bool.not_false, ne_eq, Int.not_lt, Int.not_le] at g_86
      (have h := g_86; omega)
     ·
      have g_86_ := g_86
      try simp only [decide_eq_true_eq, decide_eq_false_iff_not, beq_iff_eq, beq_eq_false_iff_ne, bne_iff_ne, bne_eq_false_iff_eq, Bool.not_eq_true', Bool.not_eq_false', Bool.not_eq_eq_eq_not, Bool.not_true, Bool.not_false, ne_eq, Int.not_lt, Int.not_le] at g_86
      refine Wl.y (y_move rfl) rfl ?_
      refine Wl.on' rfl rfl g_86_ ?_
      refine Wl.y (y_eqli rfl rfl) rfl ?_
      refine Wl.on' rfl rfl g_86_ ?_
      refine Wl.y (y_move rfl) rfl ?_
      refine Wl.guardT rfl rfl rfl (fun g_90 => ?_) (fun g_90 => ?_)
      ·
       have g_90_ := g_90
       try simp only [decide_eq_true_eq, decide_eq_false_iff_not, beq_iff_eq, beq_eq_false_iff_ne, bne_iff_ne, bne_eq_false_iff_eq, Bool.not_eq_true', Bool.not_eq_false', Bool.not_eq_eq_eq_not, Bool.not_true, Bool.not_false, ne_eq, Int.not_lt, Int.not_le] at g_90
       have hk1t : k = 1 := by have h := g_90; omega
       obtain ⟨q, hl0_⟩ := hl0 hk1t
       obtain ⟨p', hp', hl0c⟩ := Rd.tokq hR hl0_
       cases hp'
       refine Wl.y (y_move rfl) rfl ?_
       refine Wl.on' rfl rfl g_90_ ?_
       refine Wl.y (y_indexAddr Tryz.underlying39 sz49LawN rfl rfl (by omega) (by omega)) rfl ?_
       refine Wl.on' rfl rfl g_90_ ?_
       refine Wl.y (y_fieldAddr (fa49_1LawN _) rfl) rfl ?_
       refine Wl.on' rfl rfl g_90_ ?_
       refine Wl.l (l_load one9LawN rfl (by exact (hl0c 1 (str [45]) rfl))) rfl ?_
       refine Wl.on' rfl rfl g_90_ ?_
       refine Wl.y (y_neqs rfl rfl) rfl ?_
       refine Wl.on' rfl rfl g_86_ ?_
       refine Wl.y (y_pickT rfl g_90_ rfl) rfl ?_
       refine Wl.y (y_pickF rfl g_86_ rfl) rfl ?_
       refine Wl.nil ?_
       refine Wq.next hK_74 ?_
       refine Wc.cond rfl (fun c1_98 => ?_) (fun c1_98 => ?_)
       ·
        have c1_98_ := c1_98
        try simp only [decide_eq_true_eq, decide_eq_false_iff_not, beq_iff_eq, beq_eq_false_iff_ne, bne_iff_ne, bne_eq_false_iff_eq, Bool.not_eq_true', Bool.not_eq_false', Bool.not_eq_eq_eq_not, Bool.not_true, Bool.not_false, ne_eq, Int.not_lt, Int.not_le] at c1_98
        exact absurd c1_98_ (by simp)
       ·
        have c1_98_ := c1_98
        try simp only [decide_eq_true_eq, decide_eq_false_iff_not, beq_iff_eq, beq_eq_false_iff_ne, bne_iff_ne, bne_eq_false_iff_eq, Bool.not_eq_true', Bool.not_eq_false', Bool.not_eq_eq_eq_not, Bool.not_true, Bool.not_false, ne_eq, Int.not_lt, Int.not_le] at c1_98
        refine Wc.skip ?_
        refine Wq.next hK_73 ?_
        refine Wc.seq fun _ hK_99 => ?_
        obtain ⟨p', hp', hd1_⟩ := Rd.tokq hR hk1_
        cases hp'
        obtain ⟨p', hp', hd2_⟩ := Rd.tokq hR hk2_
        cases hp'
        obtain ⟨p', hp', hd3_⟩ := Rd.tokq hR hk3_
        cases hp'
        have hb2 := Below.refl w_k5.heap.size w_k5
        have hR_hb2 := hR
        refine Wc.any (n := 58) (fun w' => Below w_k5.heap.size w_k5 w') #[false, false, false, false, false, false, false, false, false, false, false, false, false, false, false, false, false, false, false, false, false, false, false, false, false, false, false, false, false, false, false, false, false, false, false, false, false, false, false, false, false, false, false, false, false, false, false, false, false, false, false, false, false, false, false, false, false, false] (by kernel_rfl) rfl (by kernel_rfl) ?_
        refine Wa.drew ?_
        rintro w_g12 hs_g12
        have hz_g12 := hs_g12.size
        have hb := hb.trans (hs_g12.mono hb.size)
        have hX := hX_hb.below hb
        have hb2 := hb2.trans (hs_g12.mono hb2.size)
        have hR := hR_hb2.below hb2
        refine Wa.take (i := 0) #[true, false, false, false, false, false, false, false, false, false, false, false, false, false, false, false, false, false, false, false, false, false, false, false, false, false, false, false, false, false, false, false, false, false, false, false, false, false, false, false, false, false, false, false, false, false, false, false, false, false, false, false, false, false, false, false, false, false] rfl (by kernel_rfl) (fun _ _ _ h => h) rfl (fun wq hq => Yl.ld (y_move rfl)) hb2 ?_
        refine Wa.take (i := 1) #[true, true, false, false, false, false, false, false, false, false, false, false, false, false, false, false, false, false, false, false, false, false, false, false, false, false, false, false, false, false, false, false, false, false, false, false, false, false, false, false, false, false, false, false, false, false, false, false, false, false, false, false, false, false, false, false, false, false] rfl (by kernel_rfl) (fun _ _ _ h => h) rfl (fun wq hq => Yl.ld (y_move rfl)) hb2 ?_
        refine Wa.split (s := 86) rfl (fun g_102 => ?_) (fun g_102 => ?_)
        ·
         have g_102_ := g_102
         try simp only [decide_eq_true_eq, decide_eq_false_iff_not, beq_iff_eq, beq_eq_false_iff_ne, bne_iff_ne, bne_eq_false_iff_eq, Bool.not_eq_true', Bool.not_eq_false', Bool.not_eq_eq_eq_not, Bool.not_true, Bool.not_false, ne_eq, Int.not_lt, Int.not_le] at g_102
         refine Wa.takeOn (i := 2) #[true, true, true, false, false, false, false, false, false, false, false, false, false, false, false, false, false, false, false, false, false, false, false, false, false, false, false, false, false, false, false, false, false, false, false, false, false, false, false, false, false, false, false, false, false, false, false, false, false, false, false, false, false, false, false, false, false, false] rfl rfl rfl g_102_ (by kernel_rfl) (fun _ _ _ h => h) rfl (fun wq hq => Yl.ld (y_move rfl)) hb2 ?_
         refine Wa.takeOn (i := 3) #[true, true, true, true, false, false, false, false, false, false, false, false, false, false, false, false, false, false, false, false, false, false, false, false, false, false, false, false, false, false, false, false, false, false, false, false, false, false, false, false, false, false, false, false, false, false, false, false, false, false, false, false, false, false, false, false, false, false] rfl rfl rfl g_102_ (by kernel_rfl) (fun _ _ _ h => h) rfl (fun wq hq => Yl.ld (y_move rfl)) hb2 ?_
         refine Wa.takeOn (i := 4) #[true, true, true, true, true, false, false, false, false, false, false, false, false, false, false, false, false, false, false, false, false, false, false, false, false, false, false, false, false, false, false, false, false, false, false, false, false, false, false, false, false, false, false, false, false, false, false, false, false, false, false, false, false, false, false, false, false, false] rfl rfl rfl g_102_ (by kernel_rfl) (fun _ _ _ h => h) rfl (fun wq hq => Yl.ld (y_indexAddr Tryz.underlying39 sz49LawN rfl rfl (by omega) (by omega))) hb2 ?_
         refine Wa.takeOn (i := 5) #[true, true, true, true, true, true, false, false, false, false, false, false, false, false, false, false, false, false, false, false, false, false, false, false, false, false, false, false, false, false, false, false, false, false, false, false, false, false, false, false, false, false, false, false, false, false, false, false, false, false, false, false, false, false, false, false, false, false] rfl rfl rfl g_102_ (by kernel_rfl) (fun _ _ _ h => h) rfl (fun wq hq => Yl.ld (y_fieldAddr (fa49_0LawN _) rfl)) hb2 ?_
         refine Wa.takeOn (i := 6) #[true, true, true, true, true, true, true, false, false, false, false, false, false, false, false, false, false, false, false, false, false, false, false, false, false, false, false, false, false, false, false, false, false, false, false, false, false, false, false, false, false, false, false, false, false, false, false, false, false, false, false, false, false, false, false, false, false, false] rfl rfl rfl g_102_ (by kernel_rfl) (fun _ _ _ h => h) rfl (fun wq hq => l_load one3LawN rfl (by have hR := hR_hb2.below hq; exact at3 (cell_below hq (hd0_ 0 (.int .i64 3) rfl)))) hb2 ?_
         refine Wa.takeOn (i := 7) #[true, true, true, true, true, true, true, true, false, false, false, false, false, false, false, false, false, false, false, false, false, false, false, false, false, false, false, false, false, false, false, false, false, false, false, false, false, false, false, false, false, false, false, false, false, false, false, false, false, false, false, false, false, false, false, false, false, false] rfl rfl rfl g_102_ (by kernel_rfl) (fun _ _ _ h => h) rfl (fun wq hq => Yl.ld (y_eqli rfl rfl)) hb2 ?_
         refine Wa.take (i := 8) #[true, true, true, true, true, true, true, true, true, false, false, false, false, false, false, false, false, false, false, false, false, false, false, false, false, false, false, false, false, false, false, false, false, false, false, false, false, false, false, false, false, false, false, false, false, false, false, false, false, false, false, false, false, false, false, false, false, false] rfl (by kernel_rfl) (fun _ _ _ h => h) rfl (fun wq hq => Yl.ld (y_pickT rfl g_102_ rfl)) hb2 ?_
         refine Wa.take (i := 9) #[true, true, true, true, true, true, true, true, true, true, false, false, false, false, false, false, false, false, false, false, false, false, false, false, false, false, false, false, false, false, false, false, false, false, false, false, false, false, false, false, false, false, false, false, false, false, false, false, false, false, false, false, false, false, false, false, false, false] rfl (by kernel_rfl) (fun _ _ _ h => h) rfl (fun wq hq => Yl.ld (y_move rfl)) hb2 ?_
         refine Wa.split (s := 94) rfl (fun g_111 => ?_) (fun g_111 => ?_)
         ·
          have g_111_ := g_111
          try simp only [decide_eq_true_eq, decide_eq_false_iff_not, beq_iff_eq, beq_eq_false_iff_ne, bne_iff_ne, bne_eq_false_iff_eq, Bool.not_eq_true', Bool.not_eq_false', Bool.not_eq_eq_eq_not, Bool.not_true, Bool.not_false, ne_eq, Int.not_lt, Int.not_le] at g_111
          refine Wa.takeOn (i := 10) #[true, true, true, true, true, true, true, true, true, true, true, false, false, false, false, false, false, false, false, false, false, false, false, false, false, false, false, false, false, false, false, false, false, false, false, false, false, false, false, false, false, false, false, false, false, false, false, false, false, false, false, false, false, false, false, false, false, false] rfl rfl rfl g_111_ (by kernel_rfl) (fun _ _ _ h => h) rfl (fun wq hq => Yl.ld (y_move rfl)) hb2 ?_
          refine Wa.takeOn (i := 11) #[true, true, true, true, true, true, true, true, true, true, true, true, false, false, false, false, false, false, false, false, false, false, false, false, false, false, false, false, false, false, false, false, false, false, false, false, false, false, false, false, false, false, false, false, false, false, false, false, false, false, false, false, false, false, false, false, false, false] rfl rfl rfl g_111_ (by kernel_rfl) (fun _ _ _ h => h) rfl (fun wq hq => Yl.ld (y_move rfl)) hb2 ?_
          refine Wa.takeOn (i := 12) #[true, true, true, true, true, true, true, true, true, true, true, true, true, false, false, false, false, false, false, false, false, false, false, false, false, false, false, false, false, false, false, false, false, false, false, false, false, false, false, false, false, false, false, false, false, false, false, false, false, false, false, false, false, false, false, false, false, false] rfl rfl rfl g_111_ (by kernel_rfl) (fun _ _ _ h => h) rfl (fun wq hq => Yl.ld (y_indexAddr Tryz.underlying39 sz49LawN rfl rfl (by omega) (by omega))) hb2 ?_
          refine Wa.takeOn (i := 13) #[true, true, true, true, true, true, true, true, true, true, true, true, true, true, false, false, false, false, false, false, false, false, false, false, false, false, false, false, false, false, false, false, false, false, false, false, false, false, false, false, false, false, false, false, false, false, false, false, false, false, false, false, false, false, false, false, false, false] rfl rfl rfl g_111_ (by kernel_rfl) (fun _ _ _ h => h) rfl (fun wq hq => Yl.ld (y_fieldAddr (fa49_1LawN _) rfl)) hb2 ?_
          refine Wa.takeOn (i := 14) #[true, true, true, true, true, true, true, true, true, true, true, true, true, true, true, false, false, false, false, false, false, false, false, false, false, false, false, false, false, false, false, false, false, false, false, false, false, false, false, false, false, false, false, false, false, false, false, false, false, false, false, false, false, false, false, false, false, false] rfl rfl rfl g_111_ (by kernel_rfl) (fun _ _ _ h => h) rfl (fun wq hq => l_load one9LawN rfl (by have hR := hR_hb2.below hq; exact at3 (cell_below hq (hd0_ 1 (str ((Lib.itoa n).drop k)) rfl)))) hb2 ?_
          refine Wa.takeOn (i := 15) #[true, true, true, true, true, true, true, true, true, true, true, true, true, true, true, true, false, false, false, false, false, false, false, false, false, false, false, false, false, false, false, false, false, false, false, false, false, false, false, false, false, false, false, false, false, false, false, false, false, false, false, false, false, false, false, false, false, false] rfl rfl rfl g_111_ (by kernel_rfl) (fun _ _ _ h => h) rfl (fun wq hq => Yl.ld (y_move rfl)) hb2 ?_
          refine Wa.takeOn (i := 16) #[true, true, true, true, true, true, true, true, true, true, true, true, true, true, true, true, true, false, false, false, false, false, false, false, false, false, false, false, false, false, false, false, false, false, false, false, false, false, false, false, false, false, false, false, false, false, false, false, false, false, false, false, false, false, false, false, false, false] rfl rfl rfl g_111_ (by kernel_rfl) (fun _ _ _ h => h) rfl (fun wq hq => Yl.ld (y_move rfl)) hb2 ?_
          refine Wa.takeOn (i := 17) #[true, true, true, true, true, true, true, true, true, true, true, true, true, true, true, true, true, true, false, false, false, false, false, false, false, false, false, false, false, false, false, false, false, false, false, false, false, false, false, false, false, false, false, false, false, false, false, false, false, false, false, false, false, false, false, false, false, false] rfl rfl rfl g_111_ (by kernel_rfl) (fun _ _ _ h => h) rfl (fun wq hq => Yl.ld (y_eq (y_slicesL Tryz.underlying9 rfl rfl (by omega) (by omega)) (str_eq (show _ = (Lib.itoa n).drop k by rw [Int.toNat_natCast])))) hb2 ?_
          refine Wa.takeOn (i := 18) #[true, true, true, true, true, true, true, true, true, true, true, true, true, true, true, true, true, true, true, false, false, false, false, false, false, false, false, false, false, false, false, false, false, false, false, false, false, false, false, false, false, false, false, false, false, false, false, false, false, false, false, false, false, false, false, false, false, false] rfl rfl rfl g_111_ (by kernel_rfl) (fun _ _ _ h => h) rfl (fun wq hq => Yl.ld (y_eqls rfl rfl)) hb2 ?_
          refine Wa.take (i := 19) #[true, true, true, true, true, true, true, true, true, true, true, true, true, true, true, true, true, true, true, true, false, false, false, false, false, false, false, false, false, false, false, false, false, false, false, false, false, false, false, false, false, false, false, false, false, false, false, false, false, false, false, false, false, false, false, false, false, false] rfl (by kernel_rfl) (fun _ _ _ h => h) rfl (fun wq hq => Yl.ld (y_pickT rfl g_111_ rfl)) hb2 ?_
          refine Wa.take (i := 20) #[true, true, true, true, true, true, true, true, true, true, true, true, true, true, true, true, true, true, true, true, true, false, false, false, false, false, false, false, false, false, false, false, false, false, false, false, false, false, false, false, false, false, false, false, false, false, false, false, false, false, false, false, false, false, false, false, false, false] rfl (by kernel_rfl) (fun _ _ _ h => h) rfl (fun wq hq => Yl.ld (y_move rfl)) hb2 ?_
          refine Wa.split (s := 105) rfl (fun g_123 => ?_) (fun g_123 => ?_)
          ·
           have g_123_ := g_123
           try simp only [decide_eq_true_eq, decide_eq_false_iff_not, beq_iff_eq, beq_eq_false_iff_ne, bne_iff_ne, bne_eq_false_iff_eq, Bool.not_eq_true', Bool.not_eq_false', Bool.not_eq_eq_eq_not, Bool.not_true, Bool.not_false, ne_eq, Int.not_lt, Int.not_le] at g_123
           refine Wa.takeOn (i := 21) #[true, true, true, true, true, true, true, true, true, true, true, true, true, true, true, true, true, true, true, true, true, true, false, false, false, false, false, false, false, false, false, false, false, false, false, false, false, false, false, false, false, false, false, false, false, false, false, false, false, false, false, false, false, false, false, false, false, false] rfl rfl rfl g_123_ (by kernel_rfl) (fun _ _ _ h => h) rfl (fun wq hq => Yl.ld (y_move rfl)) hb2 ?_
           refine Wa.takeOn (i := 22) #[true, true, true, true, true, true, true, true, true, true, true, true, true, true, true, true, true, true, true, true, true, true, true, false, false, false, false, false, false, false, false, false, false, false, false, false, false, false, false, false, false, false, false, false, false, false, false, false, false, false, false, false, false, false, false, false, false, false] rfl rfl rfl g_123_ (by kernel_rfl) (fun _ _ _ h => h) rfl (fun wq hq => Yl.ld (y_move rfl)) hb2 ?_
           refine Wa.takeOn (i := 23) #[true, true, true, true, true, true, true, true, true, true, true, true, true, true, true, true, true, true, true, true, true, true, true, true, false, false, false, false, false, false, false, false, false, false, false, false, false, false, false, false, false, false, false, false, false, false, false, false, false, false, false, false, false, false, false, false, false, false] rfl rfl rfl g_123_ (by kernel_rfl) (fun _ _ _ h => h) rfl (fun wq hq => Yl.ld (y_eq (y_addI rfl rfl (by first | omega | (simp; done) | (simp; omega)) (by first | omega | (simp; done) | (simp; omega))) (int_eq (show _ = ((k + 1 : Nat) : Int) by omega)))) hb2 ?_
           refine Wa.takeOn (i := 24) #[true, true, true, true, true, true, true, true, true, true, true, true, true, true, true, true, true, true, true, true, true, true, true, true, true, false, false, false, false, false, false, false, false, false, false, false, false, false, false, false, false, false, false, false, false, false, false, false, false, false, false, false, false, false, false, false, false, false] rfl rfl rfl g_123_ (by kernel_rfl) (fun _ _ _ h => h) rfl (fun wq hq => Yl.ld (y_indexAddr Tryz.underlying39 sz49LawN rfl rfl (by omega) (by omega))) hb2 ?_
           refine Wa.takeOn (i := 25) #[true, true, true, true, true, true, true, true, true, true, true, true, true, true, true, true, true, true, true, true, true, true, true, true, true, true, false, false, false, false, false, false, false, false, false, false, false, false, false, false, false, false, false, false, false, false, false, false, false, false, false, false, false, false, false, false, false, false] rfl rfl rfl g_123_ (by kernel_rfl) (fun _ _ _ h => h) rfl (fun wq hq => Yl.ld (y_fieldAddr (fa49_0LawN _) rfl)) hb2 ?_
           refine Wa.takeOn (i := 26) #[true, true, true, true, true, true, true, true, true, true, true, true, true, true, true, true, true, true, true, true, true, true, true, true, true, true, true, false, false, false, false, false, false, false, false, false, false, false, false, false, false, false, false, false, false, false, false, false, false, false, false, false, false, false, false, false, false, false] rfl rfl rfl g_123_ (by kernel_rfl) (fun _ _ _ h => h) rfl (fun wq hq => l_load one3LawN rfl (by have hR := hR_hb2.below hq; exact at3 (cell_below hq (hd1_ 0 (.int .i64 4) rfl)))) hb2 ?_
           refine Wa.takeOn (i := 27) #[true, true, true, true, true, true, true, true, true, true, true, true, true, true, true, true, true, true, true, true, true, true, true, true, true, true, true, true, false, false, false, false, false, false, false, false, false, false, false, false, false, false, false, false, false, false, false, false, false, false, false, false, false, false, false, false, false, false] rfl rfl rfl g_123_ (by kernel_rfl) (fun _ _ _ h => h) rfl (fun wq hq => Yl.ld (y_eqli rfl rfl)) hb2 ?_
           refine Wa.take (i := 28) #[true, true, true, true, true, true, true, true, true, true, true, true, true, true, true, true, true, true, true, true, true, true, true, true, true, true, true, true, true, false, false, false, false, false, false, false, false, false, false, false, false, false, false, false, false, false, false, false, false, false, false, false, false, false, false, false, false, false] rfl (by kernel_rfl) (fun _ _ _ h => h) rfl (fun wq hq => Yl.ld (y_pickT rfl g_123_ rfl)) hb2 ?_
           refine Wa.take (i := 29) #[true, true, true, true, true, true, true, true, true, true, true, true, true, true, true, true, true, true, true, true, true, true, true, true, true, true, true, true, true, true, false, false, false, false, false, false, false, false, false, false, false, false, false, false, false, false, false, false, false, false, false, false, false, false, false, false, false, false] rfl (by kernel_rfl) (fun _ _ _ h => h) rfl (fun wq hq => Yl.ld (y_move rfl)) hb2 ?_
           refine Wa.split (s := 114) rfl (fun g_133 => ?_) (fun g_133 => ?_)
           ·
            have g_133_ := g_133
            try simp only [decide_eq_true_eq, decide_eq_false_iff_not, beq_iff_eq, beq_eq_false_iff_ne, bne_iff_ne, bne_eq_false_iff_eq, Bool.not_eq_true', Bool.not_eq_false', Bool.not_eq_eq_eq_not, Bool.not_true, Bool.not_false, ne_eq, Int.not_lt, Int.not_le] at g_133
            refine Wa.takeOn (i := 30) #[true, true, true, true, true, true, true, true, true, true, true, true, true, true, true, true, true, true, true, true, true, true, true, true, true, true, true, true, true, true, true, false, false, false, false, false, false, false, false, false, false, false, false, false, false, false, false, false, false, false, false, false, false, false, false, false, false, false] rfl rfl rfl g_133_ (by kernel_rfl) (fun _ _ _ h => h) rfl (fun wq hq => Yl.ld (y_move rfl)) hb2 ?_
            refine Wa.takeOn (i := 31) #[true, true, true, true, true, true, true, true, true, true, true, true, true, true, true, true, true, true, true, true, true, true, true, true, true, true, true, true, true, true, true, true, false, false, false, false, false, false, false, false, false, false, false, false, false, false, false, false, false, false, false, false, false, false, false, false, false, false] rfl rfl rfl g_133_ (by kernel_rfl) (fun _ _ _ h => h) rfl (fun wq hq => Yl.ld (y_move rfl)) hb2 ?_
            refine Wa.takeOn (i := 32) #[true, true, true, true, true, true, true, true, true, true, true, true, true, true, true, true, true, true, true, true, true, true, true, true, true, true, true, true, true, true, true, true, true, false, false, false, false, false, false, false, false, false, false, false, false, false, false, false, false, false, false, false, false, false, false, false, false, false] rfl rfl rfl g_133_ (by kernel_rfl) (fun _ _ _ h => h) rfl (fun wq hq => Yl.ld (y_eq (y_addI rfl rfl (by first | omega | (simp; done) | (simp; omega)) (by first | omega | (simp; done) | (simp; omega))) (int_eq (show _ = ((k + 1 : Nat) : Int) by omega)))) hb2 ?_
            refine Wa.takeOn (i := 33) #[true, true, true, true, true, true, true, true, true, true, true, true, true, true, true, true, true, true, true, true, true, true, true, true, true, true, true, true, true, true, true, true, true, true, false, false, false, false, false, false, false, false, false, false, false, false, false, false, false, false, false, false, false, false, false, false, false, false] rfl rfl rfl g_133_ (by kernel_rfl) (fun _ _ _ h => h) rfl (fun wq hq => Yl.ld (y_indexAddr Tryz.underlying39 sz49LawN rfl rfl (by omega) (by omega))) hb2 ?_
            refine Wa.takeOn (i := 34) #[true, true, true, true, true, true, true, true, true, true, true, true, true, true, true, true, true, true, true, true, true, true, true, true, true, true, true, true, true, true, true, true, true, true, true, false, false, false, false, false, false, false, false, false, false, false, false, false, false, false, false, false, false, false, false, false, false, false] rfl rfl rfl g_133_ (by kernel_rfl) (fun _ _ _ h => h) rfl (fun wq hq => Yl.ld (y_fieldAddr (fa49_1LawN _) rfl)) hb2 ?_
            refine Wa.takeOn (i := 35) #[true, true, true, true, true, true, true, true, true, true, true, true, true, true, true, true, true, true, true, true, true, true, true, true, true, true, true, true, true, true, true, true, true, true, true, true, false, false, false, false, false, false, false, false, false, false, false, false, false, false, false, false, false, false, false, false, false, false] rfl rfl rfl g_133_ (by kernel_rfl) (fun _ _ _ h => h) rfl (fun wq hq => l_load one9LawN rfl (by have hR := hR_hb2.below hq; exact at3 (cell_below hq (hd1_ 1 (str (quoteV x)) rfl)))) hb2 ?_
            refine Wa.takeOn (i := 36) #[true, true, true, true, true, true, true, true, true, true, true, true, true, true, true, true, true, true, true, true, true, true, true, true, true, true, true, true, true, true, true, true, true, true, true, true, true, false, false, false, false, false, false, false, false, false, false, false, false, false, false, false, false, false, false, false, false, false] rfl rfl rfl g_133_ (by kernel_rfl) (fun _ _ _ h => h) rfl (fun wq hq => Yl.ld (y_move rfl)) hb2 ?_
            refine Wa.takeOn (i := 37) #[true, true, true, true, true, true, true, true, true, true, true, true, true, true, true, true, true, true, true, true, true, true, true, true, true, true, true, true, true, true, true, true, true, true, true, true, true, true, false, false, false, false, false, false, false, false, false, false, false, false, false, false, false, false, false, false, false, false] rfl rfl rfl g_133_ (by kernel_rfl) (fun _ _ _ h => h) rfl (fun wq hq => Yl.ld (y_eqls rfl rfl)) hb2 ?_
            refine Wa.take (i := 38) #[true, true, true, true, true, true, true, true, true, true, true, true, true, true, true, true, true, true, true, true, true, true, true, true, true, true, true, true, true, true, true, true, true, true, true, true, true, true, true, false, false, false, false, false, false, false, false, false, false, false, false, false, false, false, false, false, false, false] rfl (by kernel_rfl) (fun _ _ _ h => h) rfl (fun wq hq => Yl.ld (y_pickT rfl g_133_ rfl)) hb2 ?_
            refine Wa.take (i := 39) #[true, true, true, true, true, true, true, true, true, true, true, true, true, true, true, true, true, true, true, true, true, true, true, true, true, true, true, true, true, true, true, true, true, true, true, true, true, true, true, true, false, false, false, false, false, false, false, false, false, false, false, false, false, false, false, false, false, false] rfl (by kernel_rfl) (fun _ _ _ h => h) rfl (fun wq hq => Yl.ld (y_move rfl)) hb2 ?_
            refine Wa.split (s := 124) rfl (fun g_144 => ?_) (fun g_144 => ?_)
            ·
             have g_144_ := g_144
             try simp only [decide_eq_true_eq, decide_eq_false_iff_not, beq_iff_eq, beq_eq_false_iff_ne, bne_iff_ne, bne_eq_false_iff_eq, Bool.not_eq_true', Bool.not_eq_false', Bool.not_eq_eq_eq_not, Bool.not_true, Bool.not_false, ne_eq, Int.not_lt, Int.not_le] at g_144
             refine Wa.takeOn (i := 40) #[true, true, true, true, true, true, true, true, true, true, true, true, true, true, true, true, true, true, true, true, true, true, true, true, true, true, true, true, true, true, true, true, true, true, true, true, true, true, true, true, true, false, false, false, false, false, false, false, false, false, false, false, false, false, false, false, false, false] rfl rfl rfl g_144_ (by kernel_rfl) (fun _ _ _ h => h) rfl (fun wq hq => Yl.ld (y_move rfl)) hb2 ?_
             refine Wa.takeOn (i := 41) #[true, true, true, true, true, true, true, true, true, true, true, true, true, true, true, true, true, true, true, true, true, true, true, true, true, true, true, true, true, true, true, true, true, true, true, true, true, true, true, true, true, true, false, false, false, false, false, false, false, false, false, false, false, false, false, false, false, false] rfl rfl rfl g_144_ (by kernel_rfl) (fun _ _ _ h => h) rfl (fun wq hq => Yl.ld (y_move rfl)) hb2 ?_
             refine Wa.takeOn (i := 42) #[true, true, true, true, true, true, true, true, true, true, true, true, true, true, true, true, true, true, true, true, true, true, true, true, true, true, true, true, true, true, true, true, true, true, true, true, true, true, true, true, true, true, true, false, false, false, false, false, false, false, false, false, false, false, false, false, false, false] rfl rfl rfl g_144_ (by kernel_rfl) (fun _ _ _ h => h) rfl (fun wq hq => Yl.ld (y_eq (y_addI rfl rfl (by first | omega | (simp; done) | (simp; omega)) (by first | omega | (simp; done) | (simp; omega))) (int_eq (show _ = ((k + 2 : Nat) : Int) by omega)))) hb2 ?_
             refine Wa.takeOn (i := 43) #[true, true, true, true, true, true, true, true, true, true, true, true, true, true, true, true, true, true, true, true, true, true, true, true, true, true, true, true, true, true, true, true, true, true, true, true, true, true, true, true, true, true, true, true, false, false, false, false, false, false, false, false, false, false, false, false, false, false] rfl rfl rfl g_144_ (by kernel_rfl) (fun _ _ _ h => h) rfl (fun wq hq => Yl.ld (y_indexAddr Tryz.underlying39 sz49LawN rfl rfl (by omega) (by omega))) hb2 ?_
             refine Wa.takeOn (i := 44) #[true, true, true, true, true, true, true, true, true, true, true, true, true, true, true, true, true, true, true, true, true, true, true, true, true, true, true, true, true, true, true, true, true, true, true, true, true, true, true, true, true, true, true, true, true, false, false, false, false, false, false, false, false, false, false, false, false, false] rfl rfl rfl g_144_ (by kernel_rfl) (fun _ _ _ h => h) rfl (fun wq hq => Yl.ld (y_fieldAddr (fa49_0LawN _) rfl)) hb2 ?_
             refine Wa.takeOn (i := 45) #[true, true, true, true, true, true, true, true, true, true, true, true, true, true, true, true, true, true, true, true, true, true, true, true, true, true, true, true, true, true, true, true, true, true, true, true, true, true, true, true, true, true, true, true, true, true, false, false, false, false, false, false, false, false, false, false, false, false] rfl rfl rfl g_144_ (by kernel_rfl) (fun _ _ _ h => h) rfl (fun wq hq => l_load one3LawN rfl (by have hR := hR_hb2.below hq; exact at3 (cell_below hq (hd2_ 0 (.int .i64 2) rfl)))) hb2 ?_
             refine Wa.takeOn (i := 46) #[true, true, true, true, true, true, true, true, true, true, true, true, true, true, true, true, true, true, true, true, true, true, true, true, true, true, true, true, true, true, true, true, true, true, true, true, true, true, true, true, true, true, true, true, true, true, true, false, false, false, false, false, false, false, false, false, false, false] rfl rfl rfl g_144_ (by kernel_rfl) (fun _ _ _ h => h) rfl (fun wq hq => Yl.ld (y_eqli rfl rfl)) hb2 ?_
             refine Wa.take (i := 47) #[true, true, true, true, true, true, true, true, true, true, true, true, true, true, true, true, true, true, true, true, true, true, true, true, true, true, true, true, true, true, true, true, true, true, true, true, true, true, true, true, true, true, true, true, true, true, true, true, false, false, false, false, false, false, false, false, false, false] rfl (by kernel_rfl) (fun _ _ _ h => h) rfl (fun wq hq => Yl.ld (y_pickT rfl g_144_ rfl)) hb2 ?_
             refine Wa.take (i := 48) #[true, true, true, true, true, true, true, true, true, true, true, true, true, true, true, true, true, true, true, true, true, true, true, true, true, true, true, true, true, true, true, true, true, true, true, true, true, true, true, true, true, true, true, true, true, true, true, true, true, false, false, false, false, false, false, false, false, false] rfl (by kernel_rfl) (fun _ _ _ h => h) rfl (fun wq hq => Yl.ld (y_move rfl)) hb2 ?_
             refine Wa.split (s := 133) rfl (fun g_154 => ?_) (fun g_154 => ?_)
             ·
              have g_154_ := g_154
              try simp only [decide_eq_true_eq, decide_eq_false_iff_not, beq_iff_eq, beq_eq_false_iff_ne, bne_iff_ne, bne_eq_false_iff_eq, Bool.not_eq_true', Bool.not_eq_false', Bool.not_eq_eq_eq_not, Bool.not_true, Bool.not_false, ne_eq, Int.not_lt, Int.not_le] at g_154
              refine Wa.takeOn (i := 49) #[true, true, true, true, true, true, true, true, true, true, true, true, true, true, true, true, true, true, true, true, true, true, true, true, true, true, true, true, true, true, true, true, true, true, true, true, true, true, true, true, true, true, true, true, true, true, true, true, true, true, false, false, false, false, false, false, false, false] rfl rfl rfl g_154_ (by kernel_rfl) (fun _ _ _ h => h) rfl (fun wq hq => Yl.ld (y_move rfl)) hb2 ?_
              refine Wa.takeOn (i := 50) #[true, true, true, true, true, true, true, true, true, true, true, true, true, true, true, true, true, true, true, true, true, true, true, true, true, true, true, true, true, true, true, true, true, true, true, true, true, true, true, true, true, true, true, true, true, true, true, true, true, true, true, false, false, false, false, false, false, false] rfl rfl rfl g_154_ (by kernel_rfl) (fun _ _ _ h => h) rfl (fun wq hq => Yl.ld (y_move rfl)) hb2 ?_
              refine Wa.takeOn (i := 51) #[true, true, true, true, true, true, true, true, true, true, true, true, true, true, true, true, true, true, true, true, true, true, true, true, true, true, true, true, true, true, true, true, true, true, true, true, true, true, true, true, true, true, true, true, true, true, true, true, true, true, true, true, false, false, false, false, false, false] rfl rfl rfl g_154_ (by kernel_rfl) (fun _ _ _ h => h) rfl (fun wq hq => Yl.ld (y_eq (y_addI rfl rfl (by first | omega | (simp; done) | (simp; omega)) (by first | omega | (simp; done) | (simp; omega))) (int_eq (show _ = ((k + 3 : Nat) : Int) by omega)))) hb2 ?_
              refine Wa.takeOn (i := 52) #[true, true, true, true, true, true, true, true, true, true, true, true, true, true, true, true, true, true, true, true, true, true, true, true, true, true, true, true, true, true, true, true, true, true, true, true, true, true, true, true, true, true, true, true, true, true, true, true, true, true, true, true, true, false, false, false, false, false] rfl rfl rfl g_154_ (by kernel_rfl) (fun _ _ _ h => h) rfl (fun wq hq => Yl.ld (y_indexAddr Tryz.underlying39 sz49LawN rfl rfl (by omega) (by omega))) hb2 ?_
              refine Wa.takeOn (i := 53) #[true, true, true, true, true, true, true, true, true, true, true, true, true, true, true, true, true, true, true, true, true, true, true, true, true, true, true, true, true, true, true, true, true, true, true, true, true, true, true, true, true, true, true, true, true, true, true, true, true, true, true, true, true, true, false, false, false, false] rfl rfl rfl g_154_ (by kernel_rfl) (fun _ _ _ h => h) rfl (fun wq hq => Yl.ld (y_fieldAddr (fa49_0LawN _) rfl)) hb2 ?_
              refine Wa.takeOn (i := 54) #[true, true, true, true, true, true, true, true, true, true, true, true, true, true, true, true, true, true, true, true, true, true, true, true, true, true, true, true, true, true, true, true, true, true, true, true, true, true, true, true, true, true, true, true, true, true, true, true, true, true, true, true, true, true, true, false, false, false] rfl rfl rfl g_154_ (by kernel_rfl) (fun _ _ _ h => h) rfl (fun wq hq => l_load one3LawN rfl (by have hR := hR_hb2.below hq; exact at3 (cell_below hq (hd3_ 0 (.int .i64 2) rfl)))) hb2 ?_
              refine Wa.takeOn (i := 55) #[true, true, true, true, true, true, true, true, true, true, true, true, true, true, true, true, true, true, true, true, true, true, true, true, true, true, true, true, true, true, true, true, true, true, true, true, true, true, true, true, true, true, true, true, true, true, true, true, true, true, true, true, true, true, true, true, false, false] rfl rfl rfl g_154_ (by kernel_rfl) (fun _ _ _ h => h) rfl (fun wq hq => Yl.ld (y_eqli rfl rfl)) hb2 ?_
              refine Wa.take (i := 56) #[true, true, true, true, true, true, true, true, true, true, true, true, true, true, true, true, true, true, true, true, true, true, true, true, true, true, true, true, true, true, true, true, true, true, true, true, true, true, true, true, true, true, true, true, true, true, true, true, true, true, true, true, true, true, true, true, true, false] rfl (by kernel_rfl) (fun _ _ _ h => h) rfl (fun wq hq => Yl.ld (y_pickT rfl g_154_ rfl)) hb2 ?_
              refine Wa.take (i := 57) #[true, true, true, true, true, true, true, true, true, true, true, true, true, true, true, true, true, true, true, true, true, true, true, true, true, true, true, true, true, true, true, true, true, true, true, true, true, true, true, true, true, true, true, true, true, true, true, true, true, true, true, true, true, true, true, true, true, true] rfl (by kernel_rfl) (fun _ _ _ h => h) rfl (fun wq hq => Yl.ld (y_assign rfl)) hb2 ?_
              refine Wa.done (by kernel_rfl) ?_
              refine Wq.next hK_99 ?_
              refine Wc.ret ?_
              refine ret1 rfl rfl ?_
              exact ⟨_, rfl, rfl, hb⟩
             ·
              have g_154_ := g_154
              try simp only [decide_eq_true_eq, decide_eq_false_iff_not, beq_iff_eq, beq_eq_false_iff_ne, bne_iff_ne, bne_eq_false_iff_eq, Bool.not_eq_true', Bool.not_eq_false', Bool.not_eq_eq_eq_not, Bool.not_true, Bool.not_false, ne_eq, Int.not_lt, Int.not_le] at g_154
              exact absurd g_154_ (by decide)
            ·
             have g_144_ := g_144
             try simp only [decide_eq_true_eq, decide_eq_false_iff_not, beq_iff_eq, beq_eq_false_iff_ne, bne_iff_ne, bne_eq_false_iff_eq, Bool.not_eq_true', Bool.not_eq_false', Bool.not_eq_eq_eq_not, Bool.not_true, Bool.not_false, ne_eq, Int.not_lt, Int.not_le] at g_144
             exact absurd g_144_ (by simp)
           ·
            have g_133_ := g_133
            try simp only [decide_eq_true_eq, decide_eq_false_iff_not, beq_iff_eq, beq_eq_false_iff_ne, bne_iff_ne, bne_eq_false_iff_eq, Bool.not_eq_true', Bool.not_eq_false', Bool.not_eq_eq_eq_not, Bool.not_true, Bool.not_false, ne_eq, Int.not_lt, Int.not_le] at g_133
            exact absurd g_133_ (by decide)
          ·
           have g_123_ := g_123
           try simp only [decide_eq_true_eq, decide_eq_false_iff_not, beq_iff_eq, beq_eq_false_iff_ne, bne_iff_ne, bne_eq_false_iff_eq, Bool.not_eq_true', Bool.not_eq_false', Bool.not_eq_eq_eq_not, Bool.not_true, Bool.not_false, ne_eq, Int.not_lt, Int.not_le] at g_123
           exact absurd g_123_ (by simp)
         ·
          have g_111_ := g_111
          try simp only [decide_eq_true_eq, decide_eq_false_iff_not, beq_iff_eq, beq_eq_false_iff_ne, bne_iff_ne, bne_eq_false_iff_eq, Bool.not_eq_true', Bool.not_eq_false', Bool.not_eq_eq_eq_not, Bool.not_true, Bool.not_false, ne_eq, Int.not_lt, Int.not_le] at g_111
          exact absurd g_111_ (by decide)
        ·
         have g_102_ := g_102
         try simp only [decide_eq_true_eq, decide_eq_false_iff_not, beq_iff_eq, beq_eq_false_iff_ne, bne_iff_ne, bne_eq_false_iff_eq, Bool.not_eq_true', Bool.not_eq_false', Bool.not_eq_eq_eq_not, Bool.not_true, Bool.not_false, ne_eq, Int.not_lt, Int.not_le] at g_102
         exact absurd g_102_ (by decide)
      ·
       have g_90_ := g_90
       try simp only [decide_eq_true_eq, decide_eq_false_iff_not, beq_iff_eq, beq_eq_false_iff_ne, bne_iff_ne, bne_eq_false_iff_eq, Bool.not_eq_true', Bool.not_eq_false', Bool.not_eq_eq_eq_not, Bool.not_true, Bool.not_false, ne_eq, Int.not_lt, Int.not_le] at g_90
       refine Wl.off' rfl rfl g_90_ rfl rfl ?_
       refine Wl.off' rfl rfl g_90_ rfl rfl ?_
       refine Wl.off' rfl rfl g_90_ rfl rfl ?_
       refine Wl.off' rfl rfl g_90_ rfl rfl ?_
       refine Wl.on' rfl rfl g_86_ ?_
       refine Wl.y (y_pickF rfl g_90_ rfl) rfl ?_
       refine Wl.y (y_pickF rfl g_86_ rfl) rfl ?_
       refine Wl.nil ?_
       refine Wq.next hK_74 ?_
       refine Wc.condF rfl rfl ?_
       refine Wc.skip ?_
       refine Wq.next hK_73 ?_
       refine Wc.seq fun _ hK_166 => ?_
       obtain ⟨p', hp', hd1_⟩ := Rd.tokq hR hk1_
       cases hp'
       obtain ⟨p', hp', hd2_⟩ := Rd.tokq hR hk2_
       cases hp'
       obtain ⟨p', hp', hd3_⟩ := Rd.tokq hR hk3_
       cases hp'
       have hb2 := Below.refl w_k5.heap.size w_k5
       have hR_hb2 := hR
       refine Wc.any (n := 58) (fun w' => Below w_k5.heap.size w_k5 w') #[false, false, false, false, false, false, false, false, false, false, false, false, false, false, false, false, false, false, false, false, false, false, false, false, false, false, false, false, false, false, false, false, false, false, false, false, false, false, false, false, false, false, false, false, false, false, false, false, false, false, false, false, false, false, false, false, false, false] (by kernel_rfl) rfl (by kernel_rfl) ?_
       refine Wa.drew ?_
       rintro w_g12 hs_g12
       have hz_g12 := hs_g12.size
       have hb := hb.trans (hs_g12.mono hb.size)
       have hX := hX_hb.below hb
       have hb2 := hb2.trans (hs_g12.mono hb2.size)
       have hR := hR_hb2.below hb2
       refine Wa.take (i := 0) #[true, false, false, false, false, false, false, false, false, false, false, false, false, false, false, false, false, false, false, false, false, false, false, false, false, false, false, false, false, false, false, false, false, false, false, false, false, false, false, false, false, false, false, false, false, false, false, false, false, false, false, false, false, false, false, false, false, false] rfl (by kernel_rfl) (fun _ _ _ h => h) rfl (fun wq hq => Yl.ld (y_move rfl)) hb2 ?_
       refine Wa.take (i := 1) #[true, true, false, false, false, false, false, false, false, false, false, false, false, false, false, false, false, false, false, false, false, false, false, false, false, false, false, false, false, false, false, false, false, false, false, false, false, false, false, false, false, false, false, false, false, false, false, false, false, false, false, false, false, false, false, false, false, false] rfl (by kernel_rfl) (fun _ _ _ h => h) rfl (fun wq hq => Yl.ld (y_move rfl)) hb2 ?_
       refine Wa.split (s := 86) rfl (fun g_169 => ?_) (fun g_169 => ?_)
       ·
        have g_169_ := g_169
        try simp only [decide_eq_true_eq, decide_eq_false_iff_not, beq_iff_eq, beq_eq_false_iff_ne, bne_iff_ne, bne_eq_false_iff_eq, Bool.not_eq_true', Bool.not_eq_false', Bool.not_eq_eq_eq_not, Bool.not_true, Bool.not_false, ne_eq, Int.not_lt, Int.not_le] at g_169
        refine Wa.takeOn (i := 2) #[true, true, true, false, false, false, false, false, false, false, false, false, false, false, false, false, false, false, false, false, false, false, false, false, false, false, false, false, false, false, false, false, false, false, false, false, false, false, false, false, false, false, false, false, false, false, false, false, false, false, false, false, false, false, false, false, false, false] rfl rfl rfl g_169_ (by kernel_rfl) (fun _ _ _ h => h) rfl (fun wq hq => Yl.ld (y_move rfl)) hb2 ?_
        refine Wa.takeOn (i := 3) #[true, true, true, true, false, false, false, false, false, false, false, false, false, false, false, false, false, false, false, false, false, false, false, false, false, false, false, false, false, false, false, false, false, false, false, false, false, false, false, false, false, false, false, false, false, false, false, false, false, false, false, false, false, false, false, false, false, false] rfl rfl rfl g_169_ (by kernel_rfl) (fun _ _ _ h => h) rfl (fun wq hq => Yl.ld (y_move rfl)) hb2 ?_
        refine Wa.takeOn (i := 4) #[true, true, true, true, true, false, false, false, false, false, false, false, false, false, false, false, false, false, false, false, false, false, false, false, false, false, false, false, false, false, false, false, false, false, false, false, false, false, false, false, false, false, false, false, false, false, false, false, false, false, false, false, false, false, false, false, false, false] rfl rfl rfl g_169_ (by kernel_rfl) (fun _ _ _ h => h) rfl (fun wq hq => Yl.ld (y_indexAddr Tryz.underlying39 sz49LawN rfl rfl (by omega) (by omega))) hb2 ?_
        refine Wa.takeOn (i := 5) #[true, true, true, true, true, true, false, false, false, false, false, false, false, false, false, false, false, false, false, false, false, false, false, false, false, false, false, false, false, false, false, false, false, false, false, false, false, false, false, false, false, false, false, false, false, false, false, false, false, false, false, false, false, false, false, false, false, false] rfl rfl rfl g_169_ (by kernel_rfl) (fun _ _ _ h => h) rfl (fun wq hq => Yl.ld (y_fieldAddr (fa49_0LawN _) rfl)) hb2 ?_
        refine Wa.takeOn (i := 6) #[true, true, true, true, true, true, true, false, false, false, false, false, false, false, false, false, false, false, false, false, false, false, false, false, false, false, false, false, false, false, false, false, false, false, false, false, false, false, false, false, false, false, false, false, false, false, false, false, false, false, false, false, false, false, false, false, false, false] rfl rfl rfl g_169_ (by kernel_rfl) (fun _ _ _ h => h) rfl (fun wq hq => l_load one3LawN rfl (by have hR := hR_hb2.below hq; exact at3 (cell_below hq (hd0_ 0 (.int .i64 3) rfl)))) hb2 ?_
        refine Wa.takeOn (i := 7) #[true, true, true, true, true, true, true, true, false, false, false, false, false, false, false, false, false, false, false, false, false, false, false, false, false, false, false, false, false, false, false, false, false, false, false, false, false, false, false, false, false, false, false, false, false, false, false, false, false, false, false, false, false, false, false, false, false, false] rfl rfl rfl g_169_ (by kernel_rfl) (fun _ _ _ h => h) rfl (fun wq hq => Yl.ld (y_eqli rfl rfl)) hb2 ?_
        refine Wa.take (i := 8) #[true, true, true, true, true, true, true, true, true, false, false, false, false, false, false, false, false, false, false, false, false, false, false, false, false, false, false, false, false, false, false, false, false, false, false, false, false, false, false, false, false, false, false, false, false, false, false, false, false, false, false, false, false, false, false, false, false, false] rfl (by kernel_rfl) (fun _ _ _ h => h) rfl (fun wq hq => Yl.ld (y_pickT rfl g_169_ rfl)) hb2 ?_
        refine Wa.take (i := 9) #[true, true, true, true, true, true, true, true, true, true, false, false, false, false, false, false, false, false, false, false, false, false, false, false, false, false, false, false, false, false, false, false, false, false, false, false, false, false, false, false, false, false, false, false, false, false, false, false, false, false, false, false, false, false, false, false, false, false] rfl (by kernel_rfl) (fun _ _ _ h => h) rfl (fun wq hq => Yl.ld (y_move rfl)) hb2 ?_
        refine Wa.split (s := 94) rfl (fun g_178 => ?_) (fun g_178 => ?_)
        ·
         have g_178_ := g_178
         try simp only [decide_eq_true_eq, decide_eq_false_iff_not, beq_iff_eq, beq_eq_false_iff_ne, bne_iff_ne, bne_eq_false_iff_eq, Bool.not_eq_true', Bool.not_eq_false', Bool.not_eq_eq_eq_not, Bool.not_true, Bool.not_false, ne_eq, Int.not_lt, Int.not_le] at g_178
         refine Wa.takeOn (i := 10) #[true, true, true, true, true, true, true, true, true, true, true, false, false, false, false, false, false, false, false, false, false, false, false, false, false, false, false, false, false, false, false, false, false, false, false, false, false, false, false, false, false, false, false, false, false, false, false, false, false, false, false, false, false, false, false, false, false, false] rfl rfl rfl g_178_ (by kernel_rfl) (fun _ _ _ h => h) rfl (fun wq hq => Yl.ld (y_move rfl)) hb2 ?_
         refine Wa.takeOn (i := 11) #[true, true, true, true, true, true, true, true, true, true, true, true, false, false, false, false, false, false, false, false, false, false, false, false, false, false, false, false, false, false, false, false, false, false, false, false, false, false, false, false, false, false, false, false, false, false, false, false, false, false, false, false, false, false, false, false, false, false] rfl rfl rfl g_178_ (by kernel_rfl) (fun _ _ _ h => h) rfl (fun wq hq => Yl.ld (y_move rfl)) hb2 ?_
         refine Wa.takeOn (i := 12) #[true, true, true, true, true, true, true, true, true, true, true, true, true, false, false, false, false, false, false, false, false, false, false, false, false, false, false, false, false, false, false, false, false, false, false, false, false, false, false, false, false, false, false, false, false, false, false, false, false, false, false, false, false, false, false, false, false, false] rfl rfl rfl g_178_ (by kernel_rfl) (fun _ _ _ h => h) rfl (fun wq hq => Yl.ld (y_indexAddr Tryz.underlying39 sz49LawN rfl rfl (by omega) (by omega))) hb2 ?_
         refine Wa.takeOn (i := 13) #[true, true, true, true, true, true, true, true, true, true, true, true, true, true, false, false, false, false, false, false, false, false, false, false, false, false, false, false, false, false, false, false, false, false, false, false, false, false, false, false, false, false, false, false, false, false, false, false, false, false, false, false, false, false, false, false, false, false] rfl rfl rfl g_178_ (by kernel_rfl) (fun _ _ _ h => h) rfl (fun wq hq => Yl.ld (y_fieldAddr (fa49_1LawN _) rfl)) hb2 ?_
         refine Wa.takeOn (i := 14) #[true, true, true, true, true, true, true, true, true, true, true, true, true, true, true, false, false, false, false, false, false, false, false, false, false, false, false, false, false, false, false, false, false, false, false, false, false, false, false, false, false, false, false, false, false, false, false, false, false, false, false, false, false, false, false, false, false, false] rfl rfl rfl g_178_ (by kernel_rfl) (fun _ _ _ h => h) rfl (fun wq hq => l_load one9LawN rfl (by have hR := hR_hb2.below hq; exact at3 (cell_below hq (hd0_ 1 (str ((Lib.itoa n).drop k)) rfl)))) hb2 ?_
         refine Wa.takeOn (i := 15) #[true, true, true, true, true, true, true, true, true, true, true, true, true, true, true, true, false, false, false, false, false, false, false, false, false, false, false, false, false, false, false, false, false, false, false, false, false, false, false, false, false, false, false, false, false, false, false, false, false, false, false, false, false, false, false, false, false, false] rfl rfl rfl g_178_ (by kernel_rfl) (fun _ _ _ h => h) rfl (fun wq hq => Yl.ld (y_move rfl)) hb2 ?_
         refine Wa.takeOn (i := 16) #[true, true, true, true, true, true, true, true, true, true, true, true, true, true, true, true, true, false, false, false, false, false, false, false, false, false, false, false, false, false, false, false, false, false, false, false, false, false, false, false, false, false, false, false, false, false, false, false, false, false, false, false, false, false, false, false, false, false] rfl rfl rfl g_178_ (by kernel_rfl) (fun _ _ _ h => h) rfl (fun wq hq => Yl.ld (y_move rfl)) hb2 ?_
         refine Wa.takeOn (i := 17) #[true, true, true, true, true, true, true, true, true, true, true, true, true, true, true, true, true, true, false, false, false, false, false, false, false, false, false, false, false, false, false, false, false, false, false, false, false, false, false, false, false, false, false, false, false, false, false, false, false, false, false, false, false, false, false, false, false, false] rfl rfl rfl g_178_ (by kernel_rfl) (fun _ _ _ h => h) rfl (fun wq hq => Yl.ld (y_eq (y_slicesL Tryz.underlying9 rfl rfl (by omega) (by omega)) (str_eq (show _ = (Lib.itoa n).drop k by rw [Int.toNat_natCast])))) hb2 ?_
         refine Wa.takeOn (i := 18) #[true, true, true, true, true, true, true, true, true, true, true, true, true, true, true, true, true, true, true, false, false, false, false, false, false, false, false, false, false, false, false, false, false, false, false, false, false, false, false, false, false, false, false, false, false, false, false, false, false, false, false, false, false, false, false, false, false, false] rfl rfl rfl g_178_ (by kernel_rfl) (fun _ _ _ h => h) rfl (fun wq hq => Yl.ld (y_eqls rfl rfl)) hb2 ?_
         refine Wa.take (i := 19) #[true, true, true, true, true, true, true, true, true, true, true, true, true, true, true, true, true, true, true, true, false, false, false, false, false, false, false, false, false, false, false, false, false, false, false, false, false, false, false, false, false, false, false, false, false, false, false, false, false, false, false, false, false, false, false, false, false, false] rfl (by kernel_rfl) (fun _ _ _ h => h) rfl (fun wq hq => Yl.ld (y_pickT rfl g_178_ rfl)) hb2 ?_
         refine Wa.take (i := 20) #[true, true, true, true, true, true, true, true, true, true, true, true, true, true, true, true, true, true, true, true, true, false, false, false, false, false, false, false, false, false, false, false, false, false, false, false, false, false, false, false, false, false, false, false, false, false, false, false, false, false, false, false, false, false, false, false, false, false] rfl (by kernel_rfl) (fun _ _ _ h => h) rfl (fun wq hq => Yl.ld (y_move rfl)) hb2 ?_
         refine Wa.split (s := 105) rfl (fun g_190 => ?_) (fun g_190 => ?_)
         ·
          have g_190_ := g_190
          try simp only [decide_eq_true_eq, decide_eq_false_iff_not, beq_iff_eq, beq_eq_false_iff_ne, bne_iff_ne, bne_eq_false_iff_eq, Bool.not_eq_true', Bool.not_eq_false', Bool.not_eq_eq_eq_not, Bool.not_true, Bool.not_false, ne_eq, Int.not_lt, Int.not_le] at g_190
          refine Wa.takeOn (i := 21) #[true, true, true, true, true, true, true, true, true, true, true, true, true, true, true, true, true, true, true, true, true, true, false, false, false, false, false, false, false, false, false, false, false, false, false, false, false, false, false, false, false, false, false, false, false, false, false, false, false, false, false, false, false, false, false, false, false, false] rfl rfl rfl g_190_ (by kernel_rfl) (fun _ _ _ h => h) rfl (fun wq hq => Yl.ld (y_move rfl)) hb2 ?_
          refine Wa.takeOn (i := 22) #[true, true, true, true, true, true, true, true, true, true, true, true, true, true, true, true, true, true, true, true, true, true, true, false, false, false, false, false, false, false, false, false, false, false, false, false, false, false, false, false, false, false, false, false, false, false, false, false, false, false, false, false, false, false, false, false, false, false] rfl rfl rfl g_190_ (by kernel_rfl) (fun _ _ _ h => h) rfl (fun wq hq => Yl.ld (y_move rfl)) hb2 ?_
          refine Wa.takeOn (i := 23) #[true, true, true, true, true, true, true, true, true, true, true, true, true, true, true, true, true, true, true, true, true, true, true, true, false, false, false, false, false, false, false, false, false, false, false, false, false, false, false, false, false, false, false, false, false, false, false, false, false, false, false, false, false, false, false, false, false, false] rfl rfl rfl g_190_ (by kernel_rfl) (fun _ _ _ h => h) rfl (fun wq hq => Yl.ld (y_eq (y_addI rfl rfl (by first | omega | (simp; done) | (simp; omega)) (by first | omega | (simp; done) | (simp; omega))) (int_eq (show _ = ((k + 1 : Nat) : Int) by omega)))) hb2 ?_
          refine Wa.takeOn (i := 24) #[true, true, true, true, true, true, true, true, true, true, true, true, true, true, true, true, true, true, true, true, true, true, true, true, true, false, false, false, false, false, false, false, false, false, false, false, false, false, false, false, false, false, false, false, false, false, false, false, false, false, false, false, false, false, false, false, false, false] rfl rfl rfl g_190_ (by kernel_rfl) (fun _ _ _ h => h) rfl (fun wq hq => Yl.ld (y_indexAddr Tryz.underlying39 sz49LawN rfl rfl (by omega) (by omega))) hb2 ?_
          refine Wa.takeOn (i := 25) #[true, true, true, true, true, true, true, true, true, true, true, true, true, true, true, true, true, true, true, true, true, true, true, true, true, true, false, false, false, false, false, false, false, false, false, false, false, false, false, false, false, false, false, false, false, false, false, false, false, false, false, false, false, false, false, false, false, false] rfl rfl rfl g_190_ (by kernel_rfl) (fun _ _ _ h => h) rfl (fun wq hq => Yl.ld (y_fieldAddr (fa49_0LawN _) rfl)) hb2 ?_
          refine Wa.takeOn (i := 26) #[true, true, true, true, true, true, true, true, true, true, true, true, true, true, true, true, true, true, true, true, true, true, true, true, true, true, true, false, false, false, false, false, false, false, false, false, false, false, false, false, false, false, false, false, false, false, false, false, false, false, false, false, false, false, false, false, false, false] rfl rfl rfl g_190_ (by kernel_rfl) (fun _ _ _ h => h) rfl (fun wq hq => l_load one3LawN rfl (by have hR := hR_hb2.below hq; exact at3 (cell_below hq (hd1_ 0 (.int .i64 4) rfl)))) hb2 ?_
          refine Wa.takeOn (i := 27) #[true, true, true, true, true, true, true, true, true, true, true, true, true, true, true, true, true, true, true, true, true, true, true, true, true, true, true, true, false, false, false, false, false, false, false, false, false, false, false, false, false, false, false, false, false, false, false, false, false, false, false, false, false, false, false, false, false, false] rfl rfl rfl g_190_ (by kernel_rfl) (fun _ _ _ h => h) rfl (fun wq hq => Yl.ld (y_eqli rfl rfl)) hb2 ?_
          refine Wa.take (i := 28) #[true, true, true, true, true, true, true, true, true, true, true, true, true, true, true, true, true, true, true, true, true, true, true, true, true, true, true, true, true, false, false, false, false, false, false, false, false, false, false, false, false, false, false, false, false, false, false, false, false, false, false, false, false, false, false, false, false, false] rfl (by kernel_rfl) (fun _ _ _ h => h) rfl (fun wq hq => Yl.ld (y_pickT rfl g_190_ rfl)) hb2 ?_
          refine Wa.take (i := 29) #[true, true, true, true, true, true, true, true, true, true, true, true, true, true, true, true, true, true, true, true, true, true, true, true, true, true, true, true, true, true, false, false, false, false, false, false, false, false, false, false, false, false, false, false, false, false, false, false, false, false, false, false, false, false, false, false, false, false] rfl (by kernel_rfl) (fun _ _ _ h => h) rfl (fun wq hq => Yl.ld (y_move rfl)) hb2 ?_
          refine Wa.split (s := 114) rfl (fun g_200 => ?_) (fun g_200 => ?_)
          ·
           have g_200_ := g_200
           try simp only [decide_eq_true_eq, decide_eq_false_iff_not, beq_iff_eq, beq_eq_false_iff_ne, bne_iff_ne, bne_eq_false_iff_eq, Bool.not_eq_true', Bool.not_eq_false', Bool.not_eq_eq_eq_not, Bool.not_true, Bool.not_false, ne_eq, Int.not_lt, Int.not_le] at g_200
           refine Wa.takeOn (i := 30) #[true, true, true, true, true, true, true, true, true, true, true, true, true, true, true, true, true, true, true, true, true, true, true, true, true, true, true, true, true, true, true, false, false, false, false, false, false, false, false, false, false, false, false, false, false, false, false, false, false, false, false, false, false, false, false, false, false, false] rfl rfl rfl g_200_ (by kernel_rfl) (fun _ _ _ h => h) rfl (fun wq hq => Yl.ld (y_move rfl)) hb2 ?_
           refine Wa.takeOn (i := 31) #[true, true, true, true, true, true, true, true, true, true, true, true, true, true, true, true, true, true, true, true, true, true, true, true, true, true, true, true, true, true, true, true, false, false, false, false, false, false, false, false, false, false, false, false, false, false, false, false, false, false, false, false, false, false, false, false, false, false] rfl rfl rfl g_200_ (by kernel_rfl) (fun _ _ _ h => h) rfl (fun wq hq => Yl.ld (y_move rfl)) hb2 ?_
           refine Wa.takeOn (i := 32) #[true, true, true, true, true, true, true, true, true, true, true, true, true, true, true, true, true, true, true, true, true, true, true, true, true, true, true, true, true, true, true, true, true, false, false, false, false, false, false, false, false, false, false, false, false, false, false, false, false, false, false, false, false, false, false, false, false, false] rfl rfl rfl g_200_ (by kernel_rfl) (fun _ _ _ h => h) rfl (fun wq hq => Yl.ld (y_eq (y_addI rfl rfl (by first | omega | (simp; done) | (simp; omega)) (by first | omega | (simp; done) | (simp; omega))) (int_eq (show _ = ((k + 1 : Nat) : Int) by omega)))) hb2 ?_
           refine Wa.takeOn (i := 33) #[true, true, true, true, true, true, true, true, true, true, true, true, true, true, true, true, true, true, true, true, true, true, true, true, true, true, true, true, true, true, true, true, true, true, false, false, false, false, false, false, false, false, false, false, false, false, false, false, false, false, false, false, false, false, false, false, false, false] rfl rfl rfl g_200_ (by kernel_rfl) (fun _ _ _ h => h) rfl (fun wq hq => Yl.ld (y_indexAddr Tryz.underlying39 sz49LawN rfl rfl (by omega) (by omega))) hb2 ?_
           refine Wa.takeOn (i := 34) #[true, true, true, true, true, true, true, true, true, true, true, true, true, true, true, true, true, true, true, true, true, true, true, true, true, true, true, true, true, true, true, true, true, true, true, false, false, false, false, false, false, false, false, false, false, false, false, false, false, false, false, false, false, false, false, false, false, false] rfl rfl rfl g_200_ (by kernel_rfl) (fun _ _ _ h => h) rfl (fun wq hq => Yl.ld (y_fieldAddr (fa49_1LawN _) rfl)) hb2 ?_
           refine Wa.takeOn (i := 35) #[true, true, true, true, true, true, true, true, true, true, true, true, true, true, true, true, true, true, true, true, true, true, true, true, true, true, true, true, true, true, true, true, true, true, true, true, false, false, false, false, false, false, false, false, false, false, false, false, false, false, false, false, false, false, false, false, false, false] rfl rfl rfl g_200_ (by kernel_rfl) (fun _ _ _ h => h) rfl (fun wq hq => l_load one9LawN rfl (by have hR := hR_hb2.below hq; exact at3 (cell_below hq (hd1_ 1 (str (quoteV x)) rfl)))) hb2 ?_
           refine Wa.takeOn (i := 36) #[true, true, true, true, true, true, true, true, true, true, true, true, true, true, true, true, true, true, true, true, true, true, true, true, true, true, true, true, true, true, true, true, true, true, true, true, true, false, false, false, false, false, false, false, false, false, false, false, false, false, false, false, false, false, false, false, false, false] rfl rfl rfl g_200_ (by kernel_rfl) (fun _ _ _ h => h) rfl (fun wq hq => Yl.ld (y_move rfl)) hb2 ?_
           refine Wa.takeOn (i := 37) #[true, true, true, true, true, true, true, true, true, true, true, true, true, true, true, true, true, true, true, true, true, true, true, true, true, true, true, true, true, true, true, true, true, true, true, true, true, true, false, false, false, false, false, false, false, false, false, false, false, false, false, false, false, false, false, false, false, false] rfl rfl rfl g_200_ (by kernel_rfl) (fun _ _ _ h => h) rfl (fun wq hq => Yl.ld (y_eqls rfl rfl)) hb2 ?_
           refine Wa.take (i := 38) #[true, true, true, true, true, true, true, true, true, true, true, true, true, true, true, true, true, true, true, true, true, true, true, true, true, true, true, true, true, true, true, true, true, true, true, true, true, true, true, false, false, false, false, false, false, false, false, false, false, false, false, false, false, false, false, false, false, false] rfl (by kernel_rfl) (fun _ _ _ h => h) rfl (fun wq hq => Yl.ld (y_pickT rfl g_200_ rfl)) hb2 ?_
           refine Wa.take (i := 39) #[true, true, true, true, true, true, true, true, true, true, true, true, true, true, true, true, true, true, true, true, true, true, true, true, true, true, true, true, true, true, true, true, true, true, true, true, true, true, true, true, false, false, false, false, false, false, false, false, false, false, false, false, false, false, false, false, false, false] rfl (by kernel_rfl) (fun _ _ _ h => h) rfl (fun wq hq => Yl.ld (y_move rfl)) hb2 ?_
           refine Wa.split (s := 124) rfl (fun g_211 => ?_) (fun g_211 => ?_)
           ·
            have g_211_ := g_211
            try simp only [decide_eq_true_eq, decide_eq_false_iff_not, beq_iff_eq, beq_eq_false_iff_ne, bne_iff_ne, bne_eq_false_iff_eq, Bool.not_eq_true', Bool.not_eq_false', Bool.not_eq_eq_eq_not, Bool.not_true, Bool.not_false, ne_eq, Int.not_lt, Int.not_le] at g_211
            refine Wa.takeOn (i := 40) #[true, true, true, true, true, true, true, true, true, true, true, true, true, true, true, true, true, true, true, true, true, true, true, true, true, true, true, true, true, true, true, true, true, true, true, true, true, true, true, true, true, false, false, false, false, false, false, false, false, false, false, false, false, false, false, false, false, false] rfl rfl rfl g_211_ (by kernel_rfl) (fun _ _ _ h => h) rfl (fun wq hq => Yl.ld (y_move rfl)) hb2 ?_
            refine Wa.takeOn (i := 41) #[true, true, true, true, true, true, true, true, true, true, true, true, true, true, true, true, true, true, true, true, true, true, true, true, true, true, true, true, true, true, true, true, true, true, true, true, true, true, true, true, true, true, false, false, false, false, false, false, false, false, false, false, false, false, false, false, false, false] rfl rfl rfl g_211_ (by kernel_rfl) (fun _ _ _ h => h) rfl (fun wq hq => Yl.ld (y_move rfl)) hb2 ?_
            refine Wa.takeOn (i := 42) #[true, true, true, true, true, true, true, true, true, true, true, true, true, true, true, true, true, true, true, true, true, true, true, true, true, true, true, true, true, true, true, true, true, true, true, true, true, true, true, true, true, true, true, false, false, false, false, false, false, false, false, false, false, false, false, false, false, false] rfl rfl rfl g_211_ (by kernel_rfl) (fun _ _ _ h => h) rfl (fun wq hq => Yl.ld (y_eq (y_addI rfl rfl (by first | omega | (simp; done) | (simp; omega)) (by first | omega | (simp; done) | (simp; omega))) (int_eq (show _ = ((k + 2 : Nat) : Int) by omega)))) hb2 ?_
            refine Wa.takeOn (i := 43) #[true, true, true, true, true, true, true, true, true, true, true, true, true, true, true, true, true, true, true, true, true, true, true, true, true, true, true, true, true, true, true, true, true, true, true, true, true, true, true, true, true, true, true, true, false, false, false, false, false, false, false, false, false, false, false, false, false, false] rfl rfl rfl g_211_ (by kernel_rfl) (fun _ _ _ h => h) rfl (fun wq hq => Yl.ld (y_indexAddr Tryz.underlying39 sz49LawN rfl rfl (by omega) (by omega))) hb2 ?_
            refine Wa.takeOn (i := 44) #[true, true, true, true, true, true, true, true, true, true, true, true, true, true, true, true, true, true, true, true, true, true, true, true, true, true, true, true, true, true, true, true, true, true, true, true, true, true, true, true, true, true, true, true, true, false, false, false, false, false, false, false, false, false, false, false, false, false] rfl rfl rfl g_211_ (by kernel_rfl) (fun _ _ _ h => h) rfl (fun wq hq => Yl.ld (y_fieldAddr (fa49_0LawN _) rfl)) hb2 ?_
            refine Wa.takeOn (i := 45) #[true, true, true, true, true, true, true, true, true, true, true, true, true, true, true, true, true, true, true, true, true, true, true, true, true, true, true, true, true, true, true, true, true, true, true, true, true, true, true, true, true, true, true, true, true, true, false, false, false, false, false, false, false, false, false, false, false, false] rfl rfl rfl g_211_ (by kernel_rfl) (fun _ _ _ h => h) rfl (fun wq hq => l_load one3LawN rfl (by have hR := hR_hb2.below hq; exact at3 (cell_below hq (hd2_ 0 (.int .i64 2) rfl)))) hb2 ?_
            refine Wa.takeOn (i := 46) #[true, true, true, true, true, true, true, true, true, true, true, true, true, true, true, true, true, true, true, true, true, true, true, true, true, true, true, true, true, true, true, true, true, true, true, true, true, true, true, true, true, true, true, true, true, true, true, false, false, false, false, false, false, false, false, false, false, false] rfl rfl rfl g_211_ (by kernel_rfl) (fun _ _ _ h => h) rfl (fun wq hq => Yl.ld (y_eqli rfl rfl)) hb2 ?_
            refine Wa.take (i := 47) #[true, true, true, true, true, true, true, true, true, true, true, true, true, true, true, true, true, true, true, true, true, true, true, true, true, true, true, true, true, true, true, true, true, true, true, true, true, true, true, true, true, true, true, true, true, true, true, true, false, false, false, false, false, false, false, false, false, false] rfl (by kernel_rfl) (fun _ _ _ h => h) rfl (fun wq hq => Yl.ld (y_pickT rfl g_211_ rfl)) hb2 ?_
            refine Wa.take (i := 48) #[true, true, true, true, true, true, true, true, true, true, true, true, true, true, true, true, true, true, true, true, true, true, true, true, true, true, true, true, true, true, true, true, true, true, true, true, true, true, true, true, true, true, true, true, true, true, true, true, true, false, false, false, false, false, false, false, false, false] rfl (by kernel_rfl) (fun _ _ _ h => h) rfl (fun wq hq => Yl.ld (y_move rfl)) hb2 ?_
            refine Wa.split (s := 133) rfl (fun g_221 => ?_) (fun g_221 => ?_)
            ·
             have g_221_ := g_221
             try simp only [decide_eq_true_eq, decide_eq_false_iff_not, beq_iff_eq, beq_eq_false_iff_ne, bne_iff_ne, bne_eq_false_iff_eq, Bool.not_eq_true', Bool.not_eq_false', Bool.not_eq_eq_eq_not, Bool.not_true, Bool.not_false, ne_eq, Int.not_lt, Int.not_le] at g_221
             refine Wa.takeOn (i := 49) #[true, true, true, true, true, true, true, true, true, true, true, true, true, true, true, true, true, true, true, true, true, true, true, true, true, true, true, true, true, true, true, true, true, true, true, true, true, true, true, true, true, true, true, true, true, true, true, true, true, true, false, false, false, false, false, false, false, false] rfl rfl rfl g_221_ (by kernel_rfl) (fun _ _ _ h => h) rfl (fun wq hq => Yl.ld (y_move rfl)) hb2 ?_
             refine Wa.takeOn (i := 50) #[true, true, true, true, true, true, true, true, true, true, true, true, true, true, true, true, true, true, true, true, true, true, true, true, true, true, true, true, true, true, true, true, true, true, true, true, true, true, true, true, true, true, true, true, true, true, true, true, true, true, true, false, false, false, false, false, false, false] rfl rfl rfl g_221_ (by kernel_rfl) (fun _ _ _ h => h) rfl (fun wq hq => Yl.ld (y_move rfl)) hb2 ?_
             refine Wa.takeOn (i := 51) #[true, true, true, true, true, true, true, true, true, true, true, true, true, true, true, true, true, true, true, true, true, true, true, true, true, true, true, true, true, true, true, true, true, true, true, true, true, true, true, true, true, true, true, true, true, true, true, true, true, true, true, true, false, false, false, false, false, false] rfl rfl rfl g_221_ (by kernel_rfl) (fun _ _ _ h => h) rfl (fun wq hq => Yl.ld (y_eq (y_addI rfl rfl (by first | omega | (simp; done) | (simp; omega)) (by first | omega | (simp; done) | (simp; omega))) (int_eq (show _ = ((k + 3 : Nat) : Int) by omega)))) hb2 ?_
             refine Wa.takeOn (i := 52) #[true, true, true, true, true, true, true, true, true, true, true, true, true, true, true, true, true, true, true, true, true, true, true, true, true, true, true, true, true, true, true, true, true, true, true, true, true, true, true, true, true, true, true, true, true, true, true, true, true, true, true, true, true, false, false, false, false, false] rfl rfl rfl g_221_ (by kernel_rfl) (fun _ _ _ h => h) rfl (fun wq hq => Yl.ld (y_indexAddr Tryz.underlying39 sz49LawN rfl rfl (by omega) (by omega))) hb2 ?_
             refine Wa.takeOn (i := 53) #[true, true, true, true, true, true, true, true, true, true, true, true, true, true, true, true, true, true, true, true, true, true, true, true, true, true, true, true, true, true, true, true, true, true, true, true, true, true, true, true, true, true, true, true, true, true, true, true, true, true, true, true, true, true, false, false, false, false] rfl rfl rfl g_221_ (by kernel_rfl) (fun _ _ _ h => h) rfl (fun wq hq => Yl.ld (y_fieldAddr (fa49_0LawN _) rfl)) hb2 ?_
             refine Wa.takeOn (i := 54) #[true, true, true, true, true, true, true, true, true, true, true, true, true, true, true, true, true, true, true, true, true, true, true, true, true, true, true, true, true, true, true, true, true, true, true, true, true, true, true, true, true, true, true, true, true, true, true, true, true, true, true, true, true, true, true, false, false, false] rfl rfl rfl g_221_ (by kernel_rfl) (fun _ _ _ h => h) rfl (fun wq hq => l_load one3LawN rfl (by have hR := hR_hb2.below hq; exact at3 (cell_below hq (hd3_ 0 (.int .i64 2) rfl)))) hb2 ?_
             refine Wa.takeOn (i := 55) #[true, true, true, true, true, true, true, true, true, true, true, true, true, true, true, true, true, true, true, true, true, true, true, true, true, true, true, true, true, true, true, true, true, true, true, true, true, true, true, true, true, true, true, true, true, true, true, true, true, true, true, true, true, true, true, true, false, false] rfl rfl rfl g_221_ (by kernel_rfl) (fun _ _ _ h => h) rfl (fun wq hq => Yl.ld (y_eqli rfl rfl)) hb2 ?_
             refine Wa.take (i := 56) #[true, true, true, true, true, true, true, true, true, true, true, true, true, true, true, true, true, true, true, true, true, true, true, true, true, true, true, true, true, true, true, true, true, true, true, true, true, true, true, true, true, true, true, true, true, true, true, true, true, true, true, true, true, true, true, true, true, false] rfl (by kernel_rfl) (fun _ _ _ h => h) rfl (fun wq hq => Yl.ld (y_pickT rfl g_221_ rfl)) hb2 ?_
             refine Wa.take (i := 57) #[true, true, true, true, true, true, true, true, true, true, true, true, true, true, true, true, true, true, true, true, true, true, true, true, true, true, true, true, true, true, true, true, true, true, true, true, true, true, true, true, true, true, true, true, true, true, true, true, true, true, true, true, true, true, true, true, true, true] rfl (by kernel_rfl) (fun _ _ _ h => h) rfl (fun wq hq => Yl.ld (y_assign rfl)) hb2 ?_
             refine Wa.done (by kernel_rfl) ?_
             refine Wq.next hK_166 ?_
             refine Wc.ret ?_
             refine ret1 rfl rfl ?_
             exact ⟨_, rfl, rfl, hb⟩
            ·
             have g_221_ := g_221
             try simp only [decide_eq_true_eq, decide_eq_false_iff_not, beq_iff_eq, beq_eq_false_iff_ne, bne_iff_ne, bne_eq_false_iff_eq, Bool.not_eq_true', Bool.not_eq_false', Bool.not_eq_eq_eq_not, Bool.not_true, Bool.not_false, ne_eq, Int.not_lt, Int.not_le] at g_221
             exact absurd g_221_ (by decide)
           ·
            have g_211_ := g_211
            try simp only [decide_eq_true_eq, decide_eq_false_iff_not, beq_iff_eq, beq_eq_false_iff_ne, bne_iff_ne, bne_eq_false_iff_eq, Bool.not_eq_true', Bool.not_eq_false', Bool.not_eq_eq_eq_not, Bool.not_true, Bool.not_false, ne_eq, Int.not_lt, Int.not_le] at g_211
            exact absurd g_211_ (by simp)
          ·
           have g_200_ := g_200
           try simp only [decide_eq_true_eq, decide_eq_false_iff_not, beq_iff_eq, beq_eq_false_iff_ne, bne_iff_ne, bne_eq_false_iff_eq, Bool.not_eq_true', Bool.not_eq_false', Bool.not_eq_eq_eq_not, Bool.not_true, Bool.not_false, ne_eq, Int.not_lt, Int.not_le] at g_200
           exact absurd g_200_ (by decide)
         ·
          have g_190_ := g_190
          try simp only [decide_eq_true_eq, decide_eq_false_iff_not, beq_iff_eq, beq_eq_false_iff_ne, bne_iff_ne, bne_eq_false_iff_eq, Bool.not_eq_true', Bool.not_eq_false', Bool.not_eq_eq_eq_not, Bool.not_true, Bool.not_false, ne_eq, Int.not_lt, Int.not_le] at g_190
          exact absurd g_190_ (by simp)
        ·
         have g_178_ := g_178
         try simp only [decide_eq_true_eq, decide_eq_false_iff_not, beq_iff_eq, beq_eq_false_iff_ne, bne_iff_ne, bne_eq_false_iff_eq, Bool.not_eq_true', Bool.not_eq_false', Bool.not_eq_eq_eq_not, Bool.not_true, Bool.not_false, ne_eq, Int.not_lt, Int.not_le] at g_178
         exact absurd g_178_ (by decide)
       ·
        have g_169_ := g_169
        try simp only [decide_eq_true_eq, decide_eq_false_iff_not, beq_iff_eq, beq_eq_false_iff_ne, bne_iff_ne, bne_eq_false_iff_eq, Bool.not_eq_true', Bool.not_eq_false', Bool.not_eq_eq_eq_not, Bool.not_true, Bool.not_false, ne_eq, Int.not_lt, Int.not_le] at g_169
        exact absurd g_169_ (by decide)
end Go.Proofs.YtcljmclolpgdmaaGreatDoor
