/- The statement ValueRead, by the calculus. -/
import Derived.Test.YtcljmclolpgdmaaGreatDoorShown
import Derived.Test.YtcljmclolpgdmaaGreatDoorReadL
namespace Go.Proofs.YtcljmclolpgdmaaGreatDoor
open Go.RowKit Go.Bw Go.Bw.Fl
set_option linter.unusedVariables false
set_option linter.unusedSimpArgs false
theorem txt12LawR : Txt Tryz.prog 12 := ⟨_, Tryz.func12, by kernel_rfl, rfl⟩   -- bridleway/bridlewaylaw02.shown
theorem txt16LawR : Txt Tryz.prog 16 := ⟨_, Tryz.func16, by kernel_rfl, rfl⟩   -- bridleway/value.Read
theorem txt20LawR : Txt Tryz.prog 20 := ⟨_, Tryz.func20, by kernel_rfl, rfl⟩   -- bridleway/value.Same
def RdIs (r : Option (Val × Nat)) (u : Val) (n : Nat) (ok : Bool) : Prop := (ok = true ∧ r = some (u, n)) ∨ (ok = false ∧ r = none ∧ u = nullV ∧ n = 0)
theorem Read_x (s : List UInt8) (hs : s.length ≤ 140737488355328) (w : World) (hL : Lb w) : Ret Tryz.prog 16 [str s] w fun v w' => (∃ u n ok, v = .tuple #[Val.enc u, .int .i64 (n : Nat), .bool ok] ∧ RdIs (readV pf uqV s) u n ok) ∧ Below w.heap.size w w' :=
  (Read_w s hs w hL).mono fun v w' ⟨h1, h2⟩ => ⟨by
    subst h1
    cases h : readV pf uqV s with
    | none => exact ⟨nullV, 0, false, rfl, .inr ⟨rfl, rfl, rfl, rfl⟩⟩
    | some r => exact ⟨r.1, r.2, true, rfl, .inl ⟨rfl, rfl⟩⟩, h2⟩
theorem readV_more {s : List UInt8} {v : Val} {n : Nat} (y : List UInt8) {c : UInt8} (hc : Stop c) (h : readV pf uqV s = some (v, n)) : readV pf uqV (s ++ c :: y) = some (v, n) := by
  by_cases h0 : Lib.hasPrefix s [39] = true
  · have hz : (uqV s).2 ≠ 0 := fun hz => by unfold readV at h; rw [if_pos h0, if_pos hz] at h; cases h
    have h1 : Lib.hasPrefix (s ++ c :: y) [39] = true := by rw [pre_iff] at h0 ⊢; exact h0.trans (List.prefix_append _ _)
    unfold readV at h ⊢
    rw [if_pos h0] at h
    rw [if_pos h1, uqV_app (c :: y) hz]; exact h
  · rw [readV_app pf uqV s y hc (by simpa using h0)]; exact h
theorem RdIs.hit {r : Option (Val × Nat)} {u u' : Val} {n n' : Nat} {ok : Bool} (h : RdIs r u n ok) (hr : r = some (u', n')) : ok = true ∧ u = u' ∧ n = n' := by
  rcases h with ⟨h1, h2⟩ | ⟨_, h2, _⟩
  · rw [h2] at hr; cases hr; exact ⟨h1, rfl, rfl⟩
  · rw [h2] at hr; cases hr
theorem sameV_self (x : Val) : sameV x x = true := by unfold sameV; simp
theorem ReadLaw_r (s m : List UInt8) (hs : s.length ≤ 140737488355328) (hm : m.length ≤ 140737488355328) (w : World) (hL : Lb w) : Ret Tryz.prog 5 [str s, str m] w fun v w' => v = .bool true ∧ Below w.heap.size w w' := by
  obtain ⟨x, hx⟩ : ∃ x, x = s.take 100 := ⟨_, rfl⟩
  have hxl : x.length ≤ 100 := by rw [hx]; exact List.length_take_le _ _
  obtain ⟨y, hy⟩ : ∃ y, y = m.take 50 := ⟨_, rfl⟩
  have hyl : y.length ≤ 50 := by rw [hy]; exact List.length_take_le _ _
  have hb := Below.refl w.heap.size w
  have hL_hb := hL
  refine enter Tryz.func5 rfl rfl rfl ?_
  refine Wc.seq fun _ hK_1 => ?_
  refine Wc.region ?_
  refine Wl.y (y_assign rfl) rfl ?_
  refine Wl.nil ?_
  refine Wq.next hK_1 ?_
  refine Wc.seq fun _ hK_3 => ?_
  refine Wc.region ?_
  refine Wl.call txt12LawR rfl rfl (shown_r _ hL) rfl ?_
  rintro _ w_k0 ⟨rfl, hs_k0⟩
  have hz_k0 := hs_k0.size
  have hb := hb.trans (hs_k0.mono hb.size)
  have hL := hL_hb.below hb
  refine Wl.y (y_assign rfl) rfl ?_
  refine Wl.nil ?_
  refine Wq.next hK_3 ?_
  refine Wc.seq fun _ hK_6 => ?_
  refine Wc.region ?_
  refine Wl.y (y_move rfl) rfl ?_
  refine Wl.y (y_move rfl) rfl ?_
  refine Wl.y (y_lens Tryz.underlying9 (by omega) rfl) rfl ?_
  refine Wl.y (y_eq (y_min rfl rfl) (int_eq (show min (s.length : Int) 100 = ((min s.length 100 : Nat) : Int) by omega))) rfl ?_
  refine Wl.y (y_eq (y_slicesH Tryz.underlying9 rfl rfl (by omega) (by omega)) (str_eq (show _ = x by rw [hx, Int.toNat_natCast]; exact List.take_eq_take_iff.2 (by omega)))) rfl ?_
  refine Wl.y (y_assign rfl) rfl ?_
  refine Wl.nil ?_
  refine Wq.next hK_6 ?_
  refine Wc.seq fun _ hK_13 => ?_
  refine Wc.region ?_
  refine Wl.y (y_move rfl) rfl ?_
  refine Wl.call txt16LawR rfl rfl (Read_x x (by omega) _ hL) rfl ?_
  rintro _ w_k1 ⟨⟨u, n, ok, rfl, hr⟩, hs_k1⟩
  have hz_k1 := hs_k1.size
  have hb := hb.trans (hs_k1.mono hb.size)
  have hL := hL_hb.below hb
  refine Wl.y (y_move rfl) rfl ?_
  refine Wl.y (y_extract rfl rfl) rfl ?_
  refine Wl.y (y_extract rfl rfl) rfl ?_
  refine Wl.y (y_extract rfl rfl) rfl ?_
  refine Wl.allocN (z := (.agg #[(.int .i64 0), (.int .i64 0), (.float .f64 0), (str [])])) (by kernel_rfl) rfl ?_
  rintro g_o10 w_o10 hg_o10 hn_o10 hs_o10
  have hz_o10 := hs_o10.size
  have hb := hb.trans (hs_o10.mono hb.size)
  have hL := hL_hb.below hb
  have hB_o10 := hn_o10
  have hl_o10 := hB_o10.lt
  refine Wl.storeS (by kernel_rfl) rfl rfl hB_o10 rfl rfl ?_
  rintro w_s0 hn_s0 hg_s0
  have hz_s0 := hg_s0.size
  have hb := below_blk hb hg_s0 hb.size (by omega)
  have hL := hL_hb.below hb
  have hB_o10 := hn_s0
  refine Wl.y (y_assign rfl) rfl ?_
  refine Wl.y (y_assign rfl) rfl ?_
  refine Wl.nil ?_
  refine Wq.next hK_13 ?_
  refine Wc.seq fun _ hK_23 => ?_
  refine Wc.seq fun _ hK_24 => ?_
  refine Wc.region ?_
  refine Wl.y (y_move rfl) rfl ?_
  refine Wl.y (y_not rfl) rfl ?_
  refine Wl.nil ?_
  refine Wq.next hK_24 ?_
  refine Wc.cond rfl (fun c0_27 => ?_) (fun c0_27 => ?_)
  ·
   have c0_27_ := c0_27
   try simp only [decide_eq_true_eq, decide_eq_false_iff_not, beq_iff_eq, beq_eq_false_iff_ne, bne_iff_ne, bne_eq_false_iff_eq, Bool.not_eq_true', Bool.not_eq_false', Bool.not_eq_eq_eq_not, Bool.not_true, Bool.not_false, ne_eq, Int.not_lt, Int.not_le] at c0_27
   refine Wc.seq fun _ hK_28 => ?_
   refine Wc.region ?_
   refine Wl.y (y_move rfl) rfl ?_
   refine Wl.y (y_move rfl) rfl ?_
   refine Wl.guardT rfl rfl rfl (fun g_31 => ?_) (fun g_31 => ?_)
   ·
    have g_31_ := g_31
    try simp only [decide_eq_true_eq, decide_eq_false_iff_not, beq_iff_eq, beq_eq_false_iff_ne, bne_iff_ne, bne_eq_false_iff_eq, Bool.not_eq_true', Bool.not_eq_false', Bool.not_eq_eq_eq_not, Bool.not_true, Bool.not_false, ne_eq, Int.not_lt, Int.not_le] at g_31
    refine Wl.y (y_move rfl) rfl ?_
    refine Wl.on' rfl rfl g_31_ ?_
    refine Wl.y (y_eqli rfl rfl) rfl ?_
    refine Wl.y (y_pickT rfl g_31_ rfl) rfl ?_
    refine Wl.y (y_assign rfl) rfl ?_
    refine Wl.nil ?_
    refine Wq.next hK_28 ?_
    refine Wc.ret ?_
    refine Wq.then_ret ?_
    refine ret1 rfl rfl ?_
    exact ⟨_, rfl, bool_eq (by
  rcases hr with h | h
  · have := c0_27_; rw [h.1] at this; cases this
  · rw [h.2.2.2]; rfl), hb⟩
   ·
    have g_31_ := g_31
    try simp only [decide_eq_true_eq, decide_eq_false_iff_not, beq_iff_eq, beq_eq_false_iff_ne, bne_iff_ne, bne_eq_false_iff_eq, Bool.not_eq_true', Bool.not_eq_false', Bool.not_eq_eq_eq_not, Bool.not_true, Bool.not_false, ne_eq, Int.not_lt, Int.not_le] at g_31
    exact absurd g_31_ (by decide)
  ·
   have c0_27_ := c0_27
   try simp only [decide_eq_true_eq, decide_eq_false_iff_not, beq_iff_eq, beq_eq_false_iff_ne, bne_iff_ne, bne_eq_false_iff_eq, Bool.not_eq_true', Bool.not_eq_false', Bool.not_eq_eq_eq_not, Bool.not_true, Bool.not_false, ne_eq, Int.not_lt, Int.not_le] at c0_27
   obtain ⟨rfl, hrx⟩ : ok = true ∧ readV pf uqV x = some (u, n) := by
     rcases hr with h | h
     · exact h
     · have := c0_27_; rw [h.1] at this; cases this
   have hnl := readV_len hrx
   have ou := readV_ok hrx
   refine Wc.skip ?_
   refine Wq.next hK_23 ?_
   refine Wc.seq fun _ hK_36 => ?_
   refine Wc.region ?_
   refine Wl.y (y_move rfl) rfl ?_
   refine Wl.y (y_adds rfl rfl (by first | omega | (simp; done) | (simp; omega))) rfl ?_
   refine Wl.y (y_move rfl) rfl ?_
   refine Wl.y (y_move rfl) rfl ?_
   refine Wl.y (y_lens Tryz.underlying9 (by omega) rfl) rfl ?_
   refine Wl.y (y_eq (y_min rfl rfl) (int_eq (show min (m.length : Int) 50 = ((min m.length 50 : Nat) : Int) by omega))) rfl ?_
   refine Wl.y (y_eq (y_slicesH Tryz.underlying9 rfl rfl (by omega) (by omega)) (str_eq (show _ = y by rw [hy, Int.toNat_natCast]; exact List.take_eq_take_iff.2 (by omega)))) rfl ?_
   refine Wl.y (y_eq (y_adds rfl rfl (by first | omega | (simp; done) | (simp; omega))) (str_eq (show _ = x ++ 32 :: y by simp))) rfl ?_
   refine Wl.call txt16LawR rfl rfl (Read_x _ (by simp; omega) _ hL) rfl ?_
   rintro _ w_k2 ⟨⟨u2, n2, ok2, rfl, hr2⟩, hs_k2⟩
   have hz_k2 := hs_k2.size
   have hb := hb.trans (hs_k2.mono hb.size)
   have hL := hL_hb.below hb
   try have hB_o10 := Blk.below hB_o10 hs_k2
   refine Wl.y (y_move rfl) rfl ?_
   refine Wl.y (y_extract rfl rfl) rfl ?_
   refine Wl.y (y_extract rfl rfl) rfl ?_
   refine Wl.y (y_extract rfl rfl) rfl ?_
   refine Wl.allocN (z := (.agg #[(.int .i64 0), (.int .i64 0), (.float .f64 0), (str [])])) (by kernel_rfl) rfl ?_
   rintro g_o30 w_o30 hg_o30 hn_o30 hs_o30
   have hz_o30 := hs_o30.size
   have hb := hb.trans (hs_o30.mono hb.size)
   have hL := hL_hb.below hb
   try have hB_o10 := Blk.below hB_o10 hs_o30
   have hB_o30 := hn_o30
   have hl_o30 := hB_o30.lt
   refine Wl.storeS (by kernel_rfl) rfl rfl hB_o30 rfl rfl ?_
   rintro w_s1 hn_s1 hg_s1
   have hz_s1 := hg_s1.size
   have hb := below_blk hb hg_s1 hb.size (by omega)
   have hL := hL_hb.below hb
   try have hB_o10 := hB_o10.over hg_s1 (by omega)
   have hB_o30 := hn_s1
   refine Wl.y (y_assign rfl) rfl ?_
   refine Wl.y (y_assign rfl) rfl ?_
   refine Wl.nil ?_
   refine Wq.next hK_36 ?_
   refine Wc.seq fun _ hK_53 => ?_
   obtain ⟨rfl, rfl, rfl⟩ := hr2.hit (readV_more y stop32 hrx)
   refine Wc.region ?_
   refine Wl.y (y_move rfl) rfl ?_
   refine Wl.y (y_move rfl) rfl ?_
   refine Wl.y (y_slicesH Tryz.underlying9 rfl rfl (by omega) (by omega)) rfl ?_
   refine Wl.call txt16LawR rfl rfl (Read_x _ (by simp; omega) _ hL) rfl ?_
   rintro _ w_k3 ⟨⟨u3, n3, ok3, rfl, hr3⟩, hs_k3⟩
   have hz_k3 := hs_k3.size
   have hb := hb.trans (hs_k3.mono hb.size)
   have hL := hL_hb.below hb
   try have hB_o10 := Blk.below hB_o10 hs_k3
   try have hB_o30 := Blk.below hB_o30 hs_k3
   refine Wl.y (y_move rfl) rfl ?_
   refine Wl.y (y_extract rfl rfl) rfl ?_
   refine Wl.y (y_extract rfl rfl) rfl ?_
   refine Wl.y (y_extract rfl rfl) rfl ?_
   refine Wl.allocN (z := (.agg #[(.int .i64 0), (.int .i64 0), (.float .f64 0), (str [])])) (by kernel_rfl) rfl ?_
   rintro g_o39 w_o39 hg_o39 hn_o39 hs_o39
   have hz_o39 := hs_o39.size
   have hb := hb.trans (hs_o39.mono hb.size)
   have hL := hL_hb.below hb
   try have hB_o10 := Blk.below hB_o10 hs_o39
   try have hB_o30 := Blk.below hB_o30 hs_o39
   have hB_o39 := hn_o39
   have hl_o39 := hB_o39.lt
   refine Wl.storeS (by kernel_rfl) rfl rfl hB_o39 rfl rfl ?_
   rintro w_s2 hn_s2 hg_s2
   have hz_s2 := hg_s2.size
   have hb := below_blk hb hg_s2 hb.size (by omega)
   have hL := hL_hb.below hb
   try have hB_o10 := hB_o10.over hg_s2 (by omega)
   try have hB_o30 := hB_o30.over hg_s2 (by omega)
   have hB_o39 := hn_s2
   refine Wl.y (y_assign rfl) rfl ?_
   refine Wl.y (y_assign rfl) rfl ?_
   refine Wl.nil ?_
   refine Wq.next hK_53 ?_
   refine Wc.seq fun _ hK_65 => ?_
   obtain ⟨rfl, rfl, rfl⟩ := hr3.hit (readV_take hrx (Nat.le_refl _))
   refine Wc.region ?_
   refine Wl.y (y_move rfl) rfl ?_
   refine Wl.y (y_move rfl) rfl ?_
   refine Wl.guardT rfl rfl rfl (fun g_68 => ?_) (fun g_68 => ?_)
   ·
    have g_68_ := g_68
    try simp only [decide_eq_true_eq, decide_eq_false_iff_not, beq_iff_eq, beq_eq_false_iff_ne, bne_iff_ne, bne_eq_false_iff_eq, Bool.not_eq_true', Bool.not_eq_false', Bool.not_eq_eq_eq_not, Bool.not_true, Bool.not_false, ne_eq, Int.not_lt, Int.not_le] at g_68
    refine Wl.y (y_move rfl) rfl ?_
    refine Wl.y (y_pickT rfl g_68_ rfl) rfl ?_
    refine Wl.y (y_move rfl) rfl ?_
    refine Wl.guardT rfl rfl rfl (fun g_72 => ?_) (fun g_72 => ?_)
    ·
     have g_72_ := g_72
     try simp only [decide_eq_true_eq, decide_eq_false_iff_not, beq_iff_eq, beq_eq_false_iff_ne, bne_iff_ne, bne_eq_false_iff_eq, Bool.not_eq_true', Bool.not_eq_false', Bool.not_eq_eq_eq_not, Bool.not_true, Bool.not_false, ne_eq, Int.not_lt, Int.not_le] at g_72
     refine Wl.y (y_move rfl) rfl ?_
     refine Wl.on' rfl rfl g_72_ ?_
     refine Wl.y (y_move rfl) rfl ?_
     refine Wl.on' rfl rfl g_72_ ?_
     refine Wl.y (y_eqli rfl rfl) rfl ?_
     refine Wl.y (y_pickT rfl g_72_ rfl) rfl ?_
     refine Wl.y (y_move rfl) rfl ?_
     refine Wl.guardT rfl rfl rfl (fun g_78 => ?_) (fun g_78 => ?_)
     ·
      have g_78_ := g_78
      try simp only [decide_eq_true_eq, decide_eq_false_iff_not, beq_iff_eq, beq_eq_false_iff_ne, bne_iff_ne, bne_eq_false_iff_eq, Bool.not_eq_true', Bool.not_eq_false', Bool.not_eq_eq_eq_not, Bool.not_true, Bool.not_false, ne_eq, Int.not_lt, Int.not_le] at g_78
      refine Wl.l (l_loadS Tryz.underlying28 (by kernel_rfl) rfl (by first | exact fun j u hu => hB_o10.at hu | exact fun j u hu => hB_o30.at hu | exact fun j u hu => hB_o39.at hu | assumption)) rfl ?_
      refine Wl.on' rfl rfl g_78_ ?_
      refine Wl.l (l_loadS Tryz.underlying28 (by kernel_rfl) rfl (by first | exact fun j u hu => hB_o10.at hu | exact fun j u hu => hB_o30.at hu | exact fun j u hu => hB_o39.at hu | assumption)) rfl ?_
      refine Wl.on' rfl rfl g_78_ ?_
      refine Wl.call txt20LawR rfl rfl (Same_r _ _ ou ou _) rfl ?_
      rintro _ w_k4 ⟨rfl, hs_k4⟩
      have hz_k4 := hs_k4.size
      have hb := hb.trans (hs_k4.mono hb.size)
      have hL := hL_hb.below hb
      try have hB_o10 := Blk.below hB_o10 hs_k4
      try have hB_o30 := Blk.below hB_o30 hs_k4
      try have hB_o39 := Blk.below hB_o39 hs_k4
      refine Wl.y (y_pickT rfl g_78_ rfl) rfl ?_
      refine Wl.y (y_move rfl) rfl ?_
      refine Wl.guardT rfl rfl rfl (fun g_84 => ?_) (fun g_84 => ?_)
      ·
       have g_84_ := g_84
       try simp only [decide_eq_true_eq, decide_eq_false_iff_not, beq_iff_eq, beq_eq_false_iff_ne, bne_iff_ne, bne_eq_false_iff_eq, Bool.not_eq_true', Bool.not_eq_false', Bool.not_eq_eq_eq_not, Bool.not_true, Bool.not_false, ne_eq, Int.not_lt, Int.not_le] at g_84
       refine Wl.y (y_move rfl) rfl ?_
       refine Wl.y (y_pickT rfl g_84_ rfl) rfl ?_
       refine Wl.y (y_move rfl) rfl ?_
       refine Wl.guardT rfl rfl rfl (fun g_88 => ?_) (fun g_88 => ?_)
       ·
        have g_88_ := g_88
        try simp only [decide_eq_true_eq, decide_eq_false_iff_not, beq_iff_eq, beq_eq_false_iff_ne, bne_iff_ne, bne_eq_false_iff_eq, Bool.not_eq_true', Bool.not_eq_false', Bool.not_eq_eq_eq_not, Bool.not_true, Bool.not_false, ne_eq, Int.not_lt, Int.not_le] at g_88
        refine Wl.y (y_move rfl) rfl ?_
        refine Wl.on' rfl rfl g_88_ ?_
        refine Wl.y (y_move rfl) rfl ?_
        refine Wl.on' rfl rfl g_88_ ?_
        refine Wl.y (y_eqli rfl rfl) rfl ?_
        refine Wl.y (y_pickT rfl g_88_ rfl) rfl ?_
        refine Wl.y (y_move rfl) rfl ?_
        refine Wl.guardT rfl rfl rfl (fun g_94 => ?_) (fun g_94 => ?_)
        ·
         have g_94_ := g_94
         try simp only [decide_eq_true_eq, decide_eq_false_iff_not, beq_iff_eq, beq_eq_false_iff_ne, bne_iff_ne, bne_eq_false_iff_eq, Bool.not_eq_true', Bool.not_eq_false', Bool.not_eq_eq_eq_not, Bool.not_true, Bool.not_false, ne_eq, Int.not_lt, Int.not_le] at g_94
         refine Wl.l (l_loadS Tryz.underlying28 (by kernel_rfl) rfl (by first | exact fun j u hu => hB_o10.at hu | exact fun j u hu => hB_o30.at hu | exact fun j u hu => hB_o39.at hu | assumption)) rfl ?_
         refine Wl.on' rfl rfl g_94_ ?_
         refine Wl.l (l_loadS Tryz.underlying28 (by kernel_rfl) rfl (by first | exact fun j u hu => hB_o10.at hu | exact fun j u hu => hB_o30.at hu | exact fun j u hu => hB_o39.at hu | assumption)) rfl ?_
         refine Wl.on' rfl rfl g_94_ ?_
         refine Wl.call txt20LawR rfl rfl (Same_r _ _ ou ou _) rfl ?_
         rintro _ w_k5 ⟨rfl, hs_k5⟩
         have hz_k5 := hs_k5.size
         have hb := hb.trans (hs_k5.mono hb.size)
         have hL := hL_hb.below hb
         refine Wl.y (y_pickT rfl g_94_ rfl) rfl ?_
         refine Wl.y (y_assign rfl) rfl ?_
         refine Wl.nil ?_
         refine Wq.next hK_65 ?_
         refine Wc.ret ?_
         refine ret1 rfl rfl ?_
         exact ⟨_, rfl, bool_eq (sameV_self _), hb⟩
        ·
         have g_94_ := g_94
         try simp only [decide_eq_true_eq, decide_eq_false_iff_not, beq_iff_eq, beq_eq_false_iff_ne, bne_iff_ne, bne_eq_false_iff_eq, Bool.not_eq_true', Bool.not_eq_false', Bool.not_eq_eq_eq_not, Bool.not_true, Bool.not_false, ne_eq, Int.not_lt, Int.not_le] at g_94
         exact absurd g_94_ (by simp)
       ·
        have g_88_ := g_88
        try simp only [decide_eq_true_eq, decide_eq_false_iff_not, beq_iff_eq, beq_eq_false_iff_ne, bne_iff_ne, bne_eq_false_iff_eq, Bool.not_eq_true', Bool.not_eq_false', Bool.not_eq_eq_eq_not, Bool.not_true, Bool.not_false, ne_eq, Int.not_lt, Int.not_le] at g_88
        exact absurd g_88_ (by decide)
      ·
       have g_84_ := g_84
       try simp only [decide_eq_true_eq, decide_eq_false_iff_not, beq_iff_eq, beq_eq_false_iff_ne, bne_iff_ne, bne_eq_false_iff_eq, Bool.not_eq_true', Bool.not_eq_false', Bool.not_eq_eq_eq_not, Bool.not_true, Bool.not_false, ne_eq, Int.not_lt, Int.not_le] at g_84
       exact absurd g_84_ (by rw [sameV_self]; decide)
     ·
      have g_78_ := g_78
      try simp only [decide_eq_true_eq, decide_eq_false_iff_not, beq_iff_eq, beq_eq_false_iff_ne, bne_iff_ne, bne_eq_false_iff_eq, Bool.not_eq_true', Bool.not_eq_false', Bool.not_eq_eq_eq_not, Bool.not_true, Bool.not_false, ne_eq, Int.not_lt, Int.not_le] at g_78
      exact absurd g_78_ (by simp)
    ·
     have g_72_ := g_72
     try simp only [decide_eq_true_eq, decide_eq_false_iff_not, beq_iff_eq, beq_eq_false_iff_ne, bne_iff_ne, bne_eq_false_iff_eq, Bool.not_eq_true', Bool.not_eq_false', Bool.not_eq_eq_eq_not, Bool.not_true, Bool.not_false, ne_eq, Int.not_lt, Int.not_le] at g_72
     exact absurd g_72_ (by decide)
   ·
    have g_68_ := g_68
    try simp only [decide_eq_true_eq, decide_eq_false_iff_not, beq_iff_eq, beq_eq_false_iff_ne, bne_iff_ne, bne_eq_false_iff_eq, Bool.not_eq_true', Bool.not_eq_false', Bool.not_eq_eq_eq_not, Bool.not_true, Bool.not_false, ne_eq, Int.not_lt, Int.not_le] at g_68
    exact absurd g_68_ (by decide)
end Go.Proofs.YtcljmclolpgdmaaGreatDoor
