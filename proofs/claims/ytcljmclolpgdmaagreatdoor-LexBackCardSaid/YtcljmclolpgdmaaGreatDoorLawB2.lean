/- The statement LexBack, by the calculus. -/
import Derived.Test.YtcljmclolpgdmaaGreatDoorLexY
namespace Go.Proofs.YtcljmclolpgdmaaGreatDoor
open Go.RowKit Go.Bw Go.Bw.Fl
set_option linter.unusedVariables false
set_option linter.unusedSimpArgs false
theorem fa49_0LawB2 (p : Addr) (w : World) : (Instr.fieldAt 49 (.pointer (some p)) 0).run Tryz.prog w = .ok (.pointer (some (p.add 0))) w := run_fieldAt (i := 0) (sz := 0) Tryz.underlying49 rfl (by kernel_rfl) p w
theorem fa49_1LawB2 (p : Addr) (w : World) : (Instr.fieldAt 49 (.pointer (some p)) 1).run Tryz.prog w = .ok (.pointer (some (p.add 1))) w := run_fieldAt (i := 1) (sz := 0) Tryz.underlying49 rfl (by kernel_rfl) p w
theorem fa49_2LawB2 (p : Addr) (w : World) : (Instr.fieldAt 49 (.pointer (some p)) 2).run Tryz.prog w = .ok (.pointer (some (p.add 2))) w := run_fieldAt (i := 2) (sz := 0) Tryz.underlying49 rfl (by kernel_rfl) p w
theorem one3LawB2 : One Tryz.prog 3 := ⟨_, Tryz.underlying3, rfl, by kernel_rfl⟩
theorem one9LawB2 : One Tryz.prog 9 := ⟨_, Tryz.underlying9, rfl, by kernel_rfl⟩
theorem sz49LawB2 : (Tryz.prog.info? 49).map (·.size) = some 3 := by kernel_rfl
theorem txt21LawB2 : Txt Tryz.prog 21 := ⟨_, Tryz.func21, by kernel_rfl, rfl⟩   -- bridleway/bridlewaylaw10.shown
theorem txt22LawB2 : Txt Tryz.prog 22 := ⟨_, Tryz.func22, by kernel_rfl, rfl⟩   -- bridleway/lex.Lex
theorem txt25LawB2 : Txt Tryz.prog 25 := ⟨_, Tryz.func25, by kernel_rfl, rfl⟩   -- bridleway/lex.Text
/-- a token that is one by itself -/
structure Good (t : Tok) : Prop where
  k0 : 1 ≤ t.k
  k5 : t.k ≤ 5
  ne : t.t ≠ []
  tok : tokV t.t = (t.k, t.t.length)
  bl : blank (t.t.getD 0 0) = false
/-- each stands where it says, behind the one ahead -/
def Ch (s : List UInt8) : Nat → List Tok → Prop
  | _, [] => True
  | e, t :: r => e ≤ t.a ∧ t.a + t.t.length ≤ s.length ∧ (s.drop t.a).take t.t.length = t.t ∧ Good t ∧ Ch s (t.a + t.t.length) r
theorem Ch.mono {s : List UInt8} {e e' : Nat} (h : e' ≤ e) : ∀ {l : List Tok}, Ch s e l → Ch s e' l
  | [], _ => trivial
  | t :: r, hc => ⟨Nat.le_trans h hc.1, hc.2⟩
theorem lexV_chain (s : List UInt8) : ∀ (f i : Nat) (l : List Tok), s.length - i ≤ f → i ≤ s.length → lexV (s.drop i) i = .ok l → Ch s i l
  | f, i, l, hf, hi, h => by
    rcases Nat.lt_or_ge i s.length with hlt | hge
    · cases f with
      | zero => omega
      | succ f =>
        have hd := drop_at hlt
        generalize hcq : s.getD i 0 = c at hd
        rw [hd] at h
        cases hb : blank c with
        | true =>
          rw [lexV_blank i hb] at h
          exact (lexV_chain s f (i + 1) l (by omega) (by omega) h).mono (by omega)
        | false =>
          have hl := tokV_len (c :: s.drop (i + 1)) (by simp)
          by_cases h0 : (tokV (c :: s.drop (i + 1))).1 = 0
          · rw [lexV_bad i hb h0] at h; cases h
          · obtain ⟨tk, tn, ht⟩ : ∃ tk tn, tokV (c :: s.drop (i + 1)) = (tk, tn) := ⟨_, _, rfl⟩
            rw [ht] at hl h0
            rw [lexV_tok i hb (by rw [ht]; exact h0), ht] at h
            simp only [List.length_cons, List.length_drop] at hl h0 h
            rw [← hd, List.drop_drop] at h
            rw [← hd] at ht
            cases hr : lexV (s.drop (i + tn)) (i + tn) with
            | error e => rw [hr] at h; cases h
            | ok l' =>
              rw [hr] at h
              have e : l = ⟨tk, (s.drop i).take tn, i⟩ :: l' := by cases h; rfl
              subst e
              have htl : ((s.drop i).take tn).length = tn := by rw [List.length_take, List.length_drop]; omega
              have htt := tokV_take (q := tn) ht h0 (by omega) (Nat.le_refl _)
              have hne : (s.drop i).take tn ≠ [] := fun e => by rw [e] at htl; simp at htl; omega
              refine ⟨Nat.le_refl _, ?_, ?_, ⟨?_, hl.2.2, hne, ?_, ?_⟩, ?_⟩
              · show i + ((s.drop i).take tn).length ≤ s.length; omega
              · show (s.drop i).take ((s.drop i).take tn).length = (s.drop i).take tn; rw [htl]
              · show 1 ≤ tk; omega
              · show tokV ((s.drop i).take tn) = (tk, ((s.drop i).take tn).length); rw [htl]; exact htt
              · show blank (((s.drop i).take tn).getD 0 0) = false
                rw [getD_take (by omega), hd]; exact hb
              · show Ch s (i + ((s.drop i).take tn).length) l'
                rw [htl]; exact lexV_chain s f (i + tn) l' (by omega) (by omega) hr
    · rw [List.drop_eq_nil_of_le hge, lexV_nil] at h
      cases h; trivial
theorem Ch.sum {s : List UInt8} : ∀ {l : List Tok} {e : Nat}, e ≤ s.length → Ch s e l → e + tot (txts l) ≤ s.length ∧ e + l.length ≤ s.length
  | [], e, h, _ => ⟨h, h⟩
  | t :: r, e, h, hc => by
    obtain ⟨h1, h2, _, hg, h4⟩ := hc
    have ih := Ch.sum (l := r) h2 h4
    have hp := List.length_pos_iff.2 hg.ne
    have e1 : tot (txts (t :: r)) = t.t.length + tot (txts r) := rfl
    rw [e1, List.length_cons]; omega
theorem Ch.good {s : List UInt8} : ∀ {l : List Tok} {e : Nat}, Ch s e l → ∀ t, t ∈ l → Good t
  | [], _, _, t, h => by cases h
  | u :: r, e, hc, t, h => by
    rcases List.mem_cons.1 h with rfl | h
    · exact hc.2.2.2.1
    · exact Ch.good hc.2.2.2.2 t h
def kt (t : Tok) : Nat × List UInt8 := (t.k, t.t)
theorem lexV_text : ∀ (l : List Tok) (i : Nat), (∀ t, t ∈ l → Good t) → ∃ l', lexV (joinV (txts l)) i = .ok l' ∧ l'.map kt = l.map kt
  | [], i, _ => ⟨[], rfl, rfl⟩
  | [t], i, h => by
    have g := h t (List.mem_cons_self ..)
    have e : joinV (txts [t]) = t.t := by show t.t ++ [] = t.t; simp
    refine ⟨[⟨t.k, t.t, i⟩], ?_, rfl⟩
    have hk := g.k0
    rw [e, lexV_step g.tok ⟨g.ne, g.bl⟩ (by omega), List.drop_length, List.take_length, lexV_nil]; rfl
  | t :: u :: r, i, h => by
    have g := h t (List.mem_cons_self ..)
    have hk := g.k0
    obtain ⟨l', h1, h2⟩ := lexV_text (u :: r) (i + t.t.length + 1) (fun x hx => h x (List.mem_cons_of_mem _ hx))
    have e : joinV (txts (t :: u :: r)) = t.t ++ 32 :: joinV (txts (u :: r)) := by
      show t.t ++ ((32 :: u.t) ++ (txts r).flatMap (fun y => 32 :: y)) = t.t ++ 32 :: (u.t ++ (txts r).flatMap (fun y => 32 :: y)); simp
    refine ⟨⟨t.k, t.t, i⟩ :: l', ?_, by rw [List.map_cons, List.map_cons, h2]; rfl⟩
    rw [e, lexV_step (tokV_blank _ g.tok (by omega) g.ne) ⟨by simp [g.ne], by rw [getD_app g.ne]; exact g.bl⟩ (by omega), List.drop_left, List.take_left, lexV_blank _ (by decide), h1]; rfl
theorem join_len (l : List (List UInt8)) : (joinV l).length ≤ tot l + l.length := by
  cases l with
  | nil => simp [joinV]
  | cons x r =>
    have h := flat_len r
    have e : tot (x :: r) = x.length + tot r := rfl
    rw [joinV, List.length_append, h, e, List.length_cons]; omega
theorem Ch.at {s : List UInt8} {l : List Tok} {e i : Nat} (hi : i < l.length) (h : Ch s e (l.drop i)) : e ≤ (l[i]).a ∧ (l[i]).a + (l[i]).t.length ≤ s.length ∧ (s.drop (l[i]).a).take (l[i]).t.length = (l[i]).t ∧ Good l[i] ∧ Ch s ((l[i]).a + (l[i]).t.length) (l.drop (i + 1)) := by
  rw [List.drop_eq_getElem_cons hi] at h; exact h
theorem LBack_r (s : List UInt8) (w : World) (hX : Lx w) (hs : s.length ≤ 140737488355328) : Ret Tryz.prog 7 [str s] w fun v w' => v = .bool true ∧ Below w.heap.size w w' := by
  obtain ⟨a, ha⟩ : ∃ a, a = s.take 2000 := ⟨_, rfl⟩
  have hal : a.length ≤ 2000 := by rw [ha]; exact List.length_take_le _ _
  have hb := Below.refl w.heap.size w
  have hX_hb := hX
  refine enter Tryz.func7 rfl rfl rfl ?_
  refine Wc.seq fun _ hK_1 => ?_
  refine Wc.region ?_
  refine Wl.y (y_assign rfl) rfl ?_
  refine Wl.nil ?_
  refine Wq.next hK_1 ?_
  refine Wc.seq fun _ hK_3 => ?_
  refine Wc.region ?_
  refine Wl.call txt21LawB2 rfl rfl (lshown_r _ hX) rfl ?_
  rintro _ w_k0 ⟨rfl, hs_k0⟩
  have hz_k0 := hs_k0.size
  have hb := hb.trans (hs_k0.mono hb.size)
  have hX := hX_hb.below hb
  refine Wl.y (y_assign rfl) rfl ?_
  refine Wl.nil ?_
  refine Wq.next hK_3 ?_
  refine Wc.seq fun _ hK_6 => ?_
  refine Wc.region ?_
  refine Wl.y (y_move rfl) rfl ?_
  refine Wl.y (y_move rfl) rfl ?_
  refine Wl.y (y_lens Tryz.underlying9 (by omega) rfl) rfl ?_
  refine Wl.y (y_eq (y_min rfl rfl) (int_eq (show min (s.length : Int) 2000 = ((min s.length 2000 : Nat) : Int) by omega))) rfl ?_
  refine Wl.y (y_eq (y_slicesH Tryz.underlying9 rfl rfl (by omega) (by omega)) (str_eq (show _ = a by rw [ha, Int.toNat_natCast]; exact List.take_eq_take_iff.2 (by omega)))) rfl ?_
  refine Wl.y (y_assign rfl) rfl ?_
  refine Wl.nil ?_
  refine Wq.next hK_6 ?_
  refine Wc.seq fun _ hK_13 => ?_
  refine Wc.region ?_
  refine Wl.y (y_move rfl) rfl ?_
  refine Wl.call txt22LawB2 rfl rfl (Lex_y a (by omega) _ hX) rfl ?_
  rintro _ w_k1 ⟨⟨A1, c1, l1, i1, e1, rfl, hR1, hl1, hc1, hx1⟩, hs_k1⟩
  have hz_k1 := hs_k1.size
  have hb := hb.trans (hs_k1.mono hb.size)
  have hX := hX_hb.below hb
  refine Wl.y (y_move rfl) rfl ?_
  refine Wl.y (y_extract rfl rfl) rfl ?_
  refine Wl.y (y_extract rfl rfl) rfl ?_
  refine Wl.y (y_extract rfl rfl) rfl ?_
  refine Wl.y (y_assign rfl) rfl ?_
  refine Wl.y (y_assign rfl) rfl ?_
  refine Wl.y (y_assign rfl) rfl ?_
  refine Wl.nil ?_
  refine Wq.next hK_13 ?_
  refine Wc.seq fun _ hK_23 => ?_
  refine Wc.seq fun _ hK_24 => ?_
  refine Wc.region ?_
  refine Wl.y (y_move rfl) rfl ?_
  refine Wl.y (y_neqi rfl rfl) rfl ?_
  refine Wl.nil ?_
  refine Wq.next hK_24 ?_
  refine Wc.cond rfl (fun c0_27 => ?_) (fun c0_27 => ?_)
  ·
   have c0_27_ := c0_27
   try simp only [decide_eq_true_eq, decide_eq_false_iff_not, beq_iff_eq, beq_eq_false_iff_ne, bne_iff_ne, bne_eq_false_iff_eq, Bool.not_eq_true', Bool.not_eq_false', Bool.not_eq_eq_eq_not, Bool.not_true, Bool.not_false, ne_eq, Int.not_lt, Int.not_le] at c0_27
   obtain ⟨rfl, hl1e, k_, hk_, herr⟩ := hx1.bad c0_27
   have hkl := lexV_err _ a 0 k_ (Nat.le_refl _) herr
   refine Wc.seq fun _ hK_28 => ?_
   refine Wc.region ?_
   refine Wl.y (y_move rfl) rfl ?_
   refine Wl.y (y_move rfl) rfl ?_
   refine Wl.guardT rfl rfl rfl (fun g_31 => ?_) (fun g_31 => ?_)
   ·
    have g_31_ := g_31
    try simp only [decide_eq_true_eq, decide_eq_false_iff_not, beq_iff_eq, beq_eq_false_iff_ne, bne_iff_ne, bne_eq_false_iff_eq, Bool.not_eq_true', Bool.not_eq_false', Bool.not_eq_eq_eq_not, Bool.not_true, Bool.not_false, ne_eq, Int.not_lt, Int.not_le] at g_31
    refine Wl.y (y_move rfl) rfl ?_
    refine Wl.on' rfl rfl g_31_ ?_
    refine Wl.y (y_eqli rfl rfl) rfl ?_
    refine Wl.y (y_pickT rfl g_31_ rfl) rfl ?_
    refine Wl.y (y_move rfl) rfl ?_
    refine Wl.guardT rfl rfl rfl (fun g_36 => ?_) (fun g_36 => ?_)
    ·
     have g_36_ := g_36
     try simp only [decide_eq_true_eq, decide_eq_false_iff_not, beq_iff_eq, beq_eq_false_iff_ne, bne_iff_ne, bne_eq_false_iff_eq, Bool.not_eq_true', Bool.not_eq_false', Bool.not_eq_eq_eq_not, Bool.not_true, Bool.not_false, ne_eq, Int.not_lt, Int.not_le] at g_36
     refine Wl.y (y_move rfl) rfl ?_
     refine Wl.on' rfl rfl g_36_ ?_
     refine Wl.y (y_geqi rfl rfl) rfl ?_
     refine Wl.y (y_pickT rfl g_36_ rfl) rfl ?_
     refine Wl.y (y_move rfl) rfl ?_
     refine Wl.guardT rfl rfl rfl (fun g_41 => ?_) (fun g_41 => ?_)
     ·
      have g_41_ := g_41
      try simp only [decide_eq_true_eq, decide_eq_false_iff_not, beq_iff_eq, beq_eq_false_iff_ne, bne_iff_ne, bne_eq_false_iff_eq, Bool.not_eq_true', Bool.not_eq_false', Bool.not_eq_eq_eq_not, Bool.not_true, Bool.not_false, ne_eq, Int.not_lt, Int.not_le] at g_41
      refine Wl.y (y_move rfl) rfl ?_
      refine Wl.on' rfl rfl g_41_ ?_
      refine Wl.y (y_move rfl) rfl ?_
      refine Wl.on' rfl rfl g_41_ ?_
      refine Wl.y (y_lens Tryz.underlying9 (by omega) rfl) rfl ?_
      refine Wl.on' rfl rfl g_41_ ?_
      refine Wl.y (y_lssi rfl rfl) rfl ?_
      refine Wl.y (y_pickT rfl g_41_ rfl) rfl ?_
      refine Wl.y (y_move rfl) rfl ?_
      refine Wl.guardT rfl rfl rfl (fun g_48 => ?_) (fun g_48 => ?_)
      ·
       have g_48_ := g_48
       try simp only [decide_eq_true_eq, decide_eq_false_iff_not, beq_iff_eq, beq_eq_false_iff_ne, bne_iff_ne, bne_eq_false_iff_eq, Bool.not_eq_true', Bool.not_eq_false', Bool.not_eq_eq_eq_not, Bool.not_true, Bool.not_false, ne_eq, Int.not_lt, Int.not_le] at g_48
       refine Wl.y (y_move rfl) rfl ?_
       refine Wl.on' rfl rfl g_48_ ?_
       refine Wl.y (y_lenl Tryz.underlying39 (by omega) rfl) rfl ?_
       refine Wl.on' rfl rfl g_48_ ?_
       refine Wl.y (y_eqli rfl rfl) rfl ?_
       refine Wl.y (y_pickT rfl g_48_ rfl) rfl ?_
       refine Wl.y (y_assign rfl) rfl ?_
       refine Wl.nil ?_
       refine Wq.next hK_28 ?_
       refine Wc.ret ?_
       refine Wq.then_ret ?_
       refine ret1 rfl rfl ?_
       exact ⟨_, rfl, bool_eq (by rw [hl1e]; rfl), hb⟩
      ·
       have g_48_ := g_48
       try simp only [decide_eq_true_eq, decide_eq_false_iff_not, beq_iff_eq, beq_eq_false_iff_ne, bne_iff_ne, bne_eq_false_iff_eq, Bool.not_eq_true', Bool.not_eq_false', Bool.not_eq_eq_eq_not, Bool.not_true, Bool.not_false, ne_eq, Int.not_lt, Int.not_le] at g_48
       (have h := g_48; omega)
     ·
      have g_41_ := g_41
      try simp only [decide_eq_true_eq, decide_eq_false_iff_not, beq_iff_eq, beq_eq_false_iff_ne, bne_iff_ne, bne_eq_false_iff_eq, Bool.not_eq_true', Bool.not_eq_false', Bool.not_eq_eq_eq_not, Bool.not_true, Bool.not_false, ne_eq, Int.not_lt, Int.not_le] at g_41
      (have h := g_41; omega)
    ·
     have g_36_ := g_36
     try simp only [decide_eq_true_eq, decide_eq_false_iff_not, beq_iff_eq, beq_eq_false_iff_ne, bne_iff_ne, bne_eq_false_iff_eq, Bool.not_eq_true', Bool.not_eq_false', Bool.not_eq_eq_eq_not, Bool.not_true, Bool.not_false, ne_eq, Int.not_lt, Int.not_le] at g_36
     exact absurd g_36_ (by decide)
   ·
    have g_31_ := g_31
    try simp only [decide_eq_true_eq, decide_eq_false_iff_not, beq_iff_eq, beq_eq_false_iff_ne, bne_iff_ne, bne_eq_false_iff_eq, Bool.not_eq_true', Bool.not_eq_false', Bool.not_eq_eq_eq_not, Bool.not_true, Bool.not_false, ne_eq, Int.not_lt, Int.not_le] at g_31
    exact absurd g_31_ (by decide)
  ·
   have c0_27_ := c0_27
   try simp only [decide_eq_true_eq, decide_eq_false_iff_not, beq_iff_eq, beq_eq_false_iff_ne, bne_iff_ne, bne_eq_false_iff_eq, Bool.not_eq_true', Bool.not_eq_false', Bool.not_eq_eq_eq_not, Bool.not_true, Bool.not_false, ne_eq, Int.not_lt, Int.not_le] at c0_27
   obtain ⟨h1_, hok1⟩ := hx1.good (by have := c0_27; omega)
   have hch := lexV_chain a _ 0 l1 (Nat.le_refl _) (by omega) (by rw [List.drop_zero]; exact hok1)
   have hsum := hch.sum (by omega)
   obtain ⟨l2', hok2, hkt⟩ := lexV_text l1 0 hch.good
   have hjl := join_len (txts l1)
   have htx : (txts l1).length = l1.length := by simp [txts]
   refine Wc.skip ?_
   refine Wq.next hK_23 ?_
   refine Wc.seq fun _ hK_54 => ?_
   refine Wc.region ?_
   refine Wl.y (y_move rfl) rfl ?_
   refine Wl.call txt25LawB2 rfl rfl (LText_r A1 c1 l1 hl1 (by omega) _ hR1) rfl ?_
   rintro _ w_k2 ⟨rfl, hs_k2⟩
   have hz_k2 := hs_k2.size
   have hb := hb.trans (hs_k2.mono hb.size)
   have hX := hX_hb.below hb
   try have hR1 := Rd.below hR1 hs_k2
   refine Wl.call txt22LawB2 rfl rfl (Lex_y (joinV (txts l1)) (by omega) _ hX) rfl ?_
   rintro _ w_k3 ⟨⟨A2, c2, l2, i2, e2, rfl, hR2, hl2, hc2, hx2⟩, hs_k3⟩
   have hz_k3 := hs_k3.size
   have hb := hb.trans (hs_k3.mono hb.size)
   have hX := hX_hb.below hb
   try have hR1 := Rd.below hR1 hs_k3
   refine Wl.y (y_move rfl) rfl ?_
   refine Wl.y (y_extract rfl rfl) rfl ?_
   refine Wl.y (y_extract rfl rfl) rfl ?_
   refine Wl.y (y_extract rfl rfl) rfl ?_
   refine Wl.y (y_assign rfl) rfl ?_
   refine Wl.y (y_assign rfl) rfl ?_
   refine Wl.y (y_assign rfl) rfl ?_
   refine Wl.nil ?_
   refine Wq.next hK_54 ?_
   refine Wc.seq fun _ hK_65 => ?_
   refine Wc.seq fun _ hK_66 => ?_
   obtain ⟨rfl, _, hl2e⟩ := hx2.fine hok2
   subst hl2e
   have hl2n : l2.length = l1.length := by have h := congrArg List.length hkt; simpa using h
   refine Wc.region ?_
   refine Wl.y (y_move rfl) rfl ?_
   refine Wl.y (y_neqi rfl rfl) rfl ?_
   refine Wl.y (y_move rfl) rfl ?_
   refine Wl.guardF rfl rfl rfl (fun g_70 => ?_) (fun g_70 => ?_)
   ·
    have g_70_ := g_70
    try simp only [decide_eq_true_eq, decide_eq_false_iff_not, beq_iff_eq, beq_eq_false_iff_ne, bne_iff_ne, bne_eq_false_iff_eq, Bool.not_eq_true', Bool.not_eq_false', Bool.not_eq_eq_eq_not, Bool.not_true, Bool.not_false, ne_eq, Int.not_lt, Int.not_le] at g_70
    exact absurd g_70_ (by decide)
   ·
    have g_70_ := g_70
    try simp only [decide_eq_true_eq, decide_eq_false_iff_not, beq_iff_eq, beq_eq_false_iff_ne, bne_iff_ne, bne_eq_false_iff_eq, Bool.not_eq_true', Bool.not_eq_false', Bool.not_eq_eq_eq_not, Bool.not_true, Bool.not_false, ne_eq, Int.not_lt, Int.not_le] at g_70
    refine Wl.y (y_move rfl) rfl ?_
    refine Wl.on' rfl rfl g_70_ ?_
    refine Wl.y (y_lenl Tryz.underlying39 (by omega) rfl) rfl ?_
    refine Wl.on' rfl rfl g_70_ ?_
    refine Wl.y (y_move rfl) rfl ?_
    refine Wl.on' rfl rfl g_70_ ?_
    refine Wl.y (y_lenl Tryz.underlying39 (by omega) rfl) rfl ?_
    refine Wl.on' rfl rfl g_70_ ?_
    refine Wl.y (y_neqi rfl rfl) rfl ?_
    refine Wl.y (y_pickF rfl g_70_ rfl) rfl ?_
    refine Wl.nil ?_
    refine Wq.next hK_66 ?_
    refine Wc.cond rfl (fun c1_77 => ?_) (fun c1_77 => ?_)
    ·
     have c1_77_ := c1_77
     try simp only [decide_eq_true_eq, decide_eq_false_iff_not, beq_iff_eq, beq_eq_false_iff_ne, bne_iff_ne, bne_eq_false_iff_eq, Bool.not_eq_true', Bool.not_eq_false', Bool.not_eq_eq_eq_not, Bool.not_true, Bool.not_false, ne_eq, Int.not_lt, Int.not_le] at c1_77
     (have h := c1_77; omega)
    ·
     have c1_77_ := c1_77
     try simp only [decide_eq_true_eq, decide_eq_false_iff_not, beq_iff_eq, beq_eq_false_iff_ne, bne_iff_ne, bne_eq_false_iff_eq, Bool.not_eq_true', Bool.not_eq_false', Bool.not_eq_eq_eq_not, Bool.not_true, Bool.not_false, ne_eq, Int.not_lt, Int.not_le] at c1_77
     refine Wc.skip ?_
     refine Wq.next hK_65 ?_
     refine Wc.seq fun _ hK_78 => ?_
     refine Wc.region ?_
     refine Wl.y (y_assign rfl) rfl ?_
     refine Wl.nil ?_
     refine Wq.next hK_78 ?_
     refine Wc.seq fun _ hK_80 => ?_
     refine Wc.seq fun _ hK_81 => ?_
     refine Wc.region ?_
     refine Wl.y (y_assign rfl) rfl ?_
     refine Wl.nil ?_
     refine Wq.next hK_81 ?_
     refine Wc.block ?_
     refine Wc.loop (X := Nat × Nat) (fun (i, en) => [(0, str a), (3, .bool true), (4, .slice A1 l1.length c1), (7, .slice A2 l2.length c2), (10, .int .i64 (en : Int)), (11, .int .i64 (i : Int))]) (fun (i, en) wr => i ≤ l1.length ∧ en ≤ a.length ∧ Ch a en (l1.drop i) ∧ Below w.heap.size w wr ∧ Rd wr 3 A1 l1.length (l1.flatMap Tok.cells) ∧ Rd wr 3 A2 l2.length (l2.flatMap Tok.cells)) (fun (i, en) => l1.length - i) (⟨0, 0⟩) ?_ ?_ ?_
     · exact Sub.cons' rfl (by first | rfl | exact int_eq (by omega)) (Sub.cons' rfl (by first | rfl | exact int_eq (by omega)) (Sub.cons' rfl (by first | rfl | exact int_eq (by omega)) (Sub.cons' rfl (by first | rfl | exact int_eq (by omega)) (Sub.cons' rfl (by first | rfl | exact int_eq (by omega)) (Sub.cons' rfl (by first | rfl | exact int_eq (by omega)) (Sub.nil))))))
     · exact ⟨by omega, by omega, hch, hb, hR1, hR2⟩
     ·
      rintro ⟨i, en⟩ wr hI_84 _ hL_83
      replace hI_84 : i ≤ l1.length ∧ en ≤ a.length ∧ Ch a en (l1.drop i) ∧ Below w.heap.size w wr ∧ Rd wr 3 A1 l1.length (l1.flatMap Tok.cells) ∧ Rd wr 3 A2 l2.length (l2.flatMap Tok.cells) := hI_84
      obtain ⟨hi, hen, hchi, hb, hR1, hR2⟩ := hI_84
      show Wc _ _ _ _ _ [(0, str a), (3, .bool true), (4, .slice A1 l1.length c1), (7, .slice A2 l2.length c2), (10, .int .i64 (en : Int)), (11, .int .i64 (i : Int))] _
      have hX := hX_hb.below hb
      try have hzhb_L0 := hb.size
      refine Wc.seq fun _ hK_85 => ?_
      refine Wc.seq fun _ hK_86 => ?_
      refine Wc.region ?_
      refine Wl.y (y_move rfl) rfl ?_
      refine Wl.y (y_move rfl) rfl ?_
      refine Wl.y (y_lenl Tryz.underlying39 (by omega) rfl) rfl ?_
      refine Wl.y (y_lssi rfl rfl) rfl ?_
      refine Wl.nil ?_
      refine Wq.next hK_86 ?_
      refine Wc.cond rfl (fun c2_91 => ?_) (fun c2_91 => ?_)
      ·
       have c2_91_ := c2_91
       try simp only [decide_eq_true_eq, decide_eq_false_iff_not, beq_iff_eq, beq_eq_false_iff_ne, bne_iff_ne, bne_eq_false_iff_eq, Bool.not_eq_true', Bool.not_eq_false', Bool.not_eq_eq_eq_not, Bool.not_true, Bool.not_false, ne_eq, Int.not_lt, Int.not_le] at c2_91
       have hil1 : i < l1.length := by have := c2_91; omega
       have hil2 : i < l2.length := by omega
       obtain ⟨h1, h2, h3, hg, h5⟩ := hchi.at hil1
       have hg0 := hg.k0
       have hg5 := hg.k5
       have hktk : (l2[i]).k = (l1[i]).k ∧ (l2[i]).t = (l1[i]).t := by
         have h := congrArg (fun l => l[i]?) hkt
         simp only [List.getElem?_map, List.getElem?_eq_getElem hil1, List.getElem?_eq_getElem hil2, Option.map_some, Option.some.injEq] at h
         exact ⟨congrArg Prod.fst h, congrArg Prod.snd h⟩
       obtain ⟨p1, hp1, hd1_⟩ := Rd.tok hR1 hil1
       subst hp1
       obtain ⟨p2, hp2, hd2_⟩ := Rd.tok hR2 hil2
       subst hp2
       refine Wc.skip ?_
       refine Wq.next hK_85 ?_
       refine Wc.seq fun _ hK_92 => ?_
       refine Wc.block ?_
       refine Wc.seq fun _ hK_93 => ?_
       have hb2 := Below.refl wr.heap.size wr
       have hR1_hb2 := hR1
       have hR2_hb2 := hR2
       refine Wc.region ?_
       refine Wl.y (y_move rfl) rfl ?_
       refine Wl.y (y_move rfl) rfl ?_
       refine Wl.y (y_indexAddr Tryz.underlying39 sz49LawB2 rfl rfl (by omega) (by omega)) rfl ?_
       refine Wl.l (l_loadS Tryz.underlying49 (by kernel_rfl) rfl (by exact fun j u hu => hd1_ j u hu)) rfl ?_
       refine Wl.allocN (z := (.agg #[(.int .i64 0), (str []), (.int .i64 0)])) (by kernel_rfl) rfl ?_
       rintro g_o57 w_o57 hg_o57 hn_o57 hs_o57
       have hz_o57 := hs_o57.size
       have hb := hb.trans (hs_o57.mono hb.size)
       have hX := hX_hb.below hb
       have hb2 := hb2.trans (hs_o57.mono hb2.size)
       have hR1 := hR1_hb2.below hb2
       have hR2 := hR2_hb2.below hb2
       have hB_o57 := hn_o57
       have hl_o57 := hB_o57.lt
       refine Wl.storeS (by kernel_rfl) rfl rfl hB_o57 rfl rfl ?_
       rintro w_s0 hn_s0 hg_s0
       have hz_s0 := hg_s0.size
       have hb := below_blk hb hg_s0 hb.size (by omega)
       have hX := hX_hb.below hb
       have hb2 := below_blk hb2 hg_s0 hb2.size (by omega)
       have hR1 := hR1_hb2.below hb2
       have hR2 := hR2_hb2.below hb2
       have hB_o57 := hn_s0
       refine Wl.nil ?_
       refine Wq.next hK_93 ?_
       refine Wc.seq fun _ hK_99 => ?_
       refine Wc.seq fun _ hK_100 => ?_
       have hd2x : ∀ (j : Nat) (u : Value), (l2[i]).cells[j]? = some u → w_s0.cell? ((p2.add (i * 3)).add j) = some u := fun j u hu => by
         obtain ⟨q_, hq_, hh⟩ := Rd.tok hR2 hil2
         cases hq_; exact hh j u hu
       have hb3 := Below.refl w_s0.heap.size w_s0
       have hB_o57_hb3 := hB_o57
       refine Wc.any (n := 65) (fun w' => Below w_s0.heap.size w_s0 w') #[false, false, false, false, false, false, false, false, false, false, false, false, false, false, false, false, false, false, false, false, false, false, false, false, false, false, false, false, false, false, false, false, false, false, false, false, false, false, false, false, false, false, false, false, false, false, false, false, false, false, false, false, false, false, false, false, false, false, false, false, false, false, false, false, false] (by kernel_rfl) rfl (by kernel_rfl) ?_
       refine Wa.drew ?_
       rintro w_g13 hs_g13
       have hz_g13 := hs_g13.size
       have hb := hb.trans (hs_g13.mono hb.size)
       have hX := hX_hb.below hb
       have hb2 := hb2.trans (hs_g13.mono hb2.size)
       have hR1 := hR1_hb2.below hb2
       have hR2 := hR2_hb2.below hb2
       have hb3 := hb3.trans (hs_g13.mono hb3.size)
       have hB_o57 := hB_o57_hb3.below hb3
       refine Wa.take (i := 0) #[true, false, false, false, false, false, false, false, false, false, false, false, false, false, false, false, false, false, false, false, false, false, false, false, false, false, false, false, false, false, false, false, false, false, false, false, false, false, false, false, false, false, false, false, false, false, false, false, false, false, false, false, false, false, false, false, false, false, false, false, false, false, false, false, false] rfl (by kernel_rfl) (fun _ _ _ h => h) rfl (fun wq hq => Yl.ld (y_fieldAddr (fa49_2LawB2 _) rfl)) hb3 ?_
       refine Wa.take (i := 1) #[true, true, false, false, false, false, false, false, false, false, false, false, false, false, false, false, false, false, false, false, false, false, false, false, false, false, false, false, false, false, false, false, false, false, false, false, false, false, false, false, false, false, false, false, false, false, false, false, false, false, false, false, false, false, false, false, false, false, false, false, false, false, false, false, false] rfl (by kernel_rfl) (fun _ _ _ h => h) rfl (fun wq hq => l_load one3LawB2 rfl (by have hB_o57 := hB_o57_hb3.below hq; exact (hB_o57_hb3.below hq).at (j := 2) rfl)) hb3 ?_
       refine Wa.take (i := 2) #[true, true, true, false, false, false, false, false, false, false, false, false, false, false, false, false, false, false, false, false, false, false, false, false, false, false, false, false, false, false, false, false, false, false, false, false, false, false, false, false, false, false, false, false, false, false, false, false, false, false, false, false, false, false, false, false, false, false, false, false, false, false, false, false, false] rfl (by kernel_rfl) (fun _ _ _ h => h) rfl (fun wq hq => Yl.ld (y_move rfl)) hb3 ?_
       refine Wa.take (i := 3) #[true, true, true, true, false, false, false, false, false, false, false, false, false, false, false, false, false, false, false, false, false, false, false, false, false, false, false, false, false, false, false, false, false, false, false, false, false, false, false, false, false, false, false, false, false, false, false, false, false, false, false, false, false, false, false, false, false, false, false, false, false, false, false, false, false] rfl (by kernel_rfl) (fun _ _ _ h => h) rfl (fun wq hq => Yl.ld (y_lssi rfl rfl)) hb3 ?_
       refine Wa.take (i := 4) #[true, true, true, true, true, false, false, false, false, false, false, false, false, false, false, false, false, false, false, false, false, false, false, false, false, false, false, false, false, false, false, false, false, false, false, false, false, false, false, false, false, false, false, false, false, false, false, false, false, false, false, false, false, false, false, false, false, false, false, false, false, false, false, false, false] rfl (by kernel_rfl) (fun _ _ _ h => h) rfl (fun wq hq => Yl.ld (y_move rfl)) hb3 ?_
       refine Wa.split (s := 77) rfl (fun g_106 => ?_) (fun g_106 => ?_)
       ·
        have g_106_ := g_106
        try simp only [decide_eq_true_eq, decide_eq_false_iff_not, beq_iff_eq, beq_eq_false_iff_ne, bne_iff_ne, bne_eq_false_iff_eq, Bool.not_eq_true', Bool.not_eq_false', Bool.not_eq_eq_eq_not, Bool.not_true, Bool.not_false, ne_eq, Int.not_lt, Int.not_le] at g_106
        (have h := g_106; omega)
       ·
        have g_106_ := g_106
        try simp only [decide_eq_true_eq, decide_eq_false_iff_not, beq_iff_eq, beq_eq_false_iff_ne, bne_iff_ne, bne_eq_false_iff_eq, Bool.not_eq_true', Bool.not_eq_false', Bool.not_eq_eq_eq_not, Bool.not_true, Bool.not_false, ne_eq, Int.not_lt, Int.not_le] at g_106
        refine Wa.takeOn (i := 5) #[true, true, true, true, true, true, false, false, false, false, false, false, false, false, false, false, false, false, false, false, false, false, false, false, false, false, false, false, false, false, false, false, false, false, false, false, false, false, false, false, false, false, false, false, false, false, false, false, false, false, false, false, false, false, false, false, false, false, false, false, false, false, false, false, false] rfl rfl rfl g_106_ (by kernel_rfl) (fun _ _ _ h => h) rfl (fun wq hq => Yl.ld (y_fieldAddr (fa49_1LawB2 _) rfl)) hb3 ?_
        refine Wa.takeOn (i := 6) #[true, true, true, true, true, true, true, false, false, false, false, false, false, false, false, false, false, false, false, false, false, false, false, false, false, false, false, false, false, false, false, false, false, false, false, false, false, false, false, false, false, false, false, false, false, false, false, false, false, false, false, false, false, false, false, false, false, false, false, false, false, false, false, false, false] rfl rfl rfl g_106_ (by kernel_rfl) (fun _ _ _ h => h) rfl (fun wq hq => l_load one9LawB2 rfl (by have hB_o57 := hB_o57_hb3.below hq; exact (hB_o57_hb3.below hq).at (j := 1) rfl)) hb3 ?_
        refine Wa.takeOn (i := 7) #[true, true, true, true, true, true, true, true, false, false, false, false, false, false, false, false, false, false, false, false, false, false, false, false, false, false, false, false, false, false, false, false, false, false, false, false, false, false, false, false, false, false, false, false, false, false, false, false, false, false, false, false, false, false, false, false, false, false, false, false, false, false, false, false, false] rfl rfl rfl g_106_ (by kernel_rfl) (fun _ _ _ h => h) rfl (fun wq hq => Yl.ld (y_eqls rfl rfl)) hb3 ?_
        refine Wa.take (i := 8) #[true, true, true, true, true, true, true, true, true, false, false, false, false, false, false, false, false, false, false, false, false, false, false, false, false, false, false, false, false, false, false, false, false, false, false, false, false, false, false, false, false, false, false, false, false, false, false, false, false, false, false, false, false, false, false, false, false, false, false, false, false, false, false, false, false] rfl (by kernel_rfl) (fun _ _ _ h => h) rfl (fun wq hq => Yl.ld (y_pickF rfl g_106_ rfl)) hb3 ?_
        refine Wa.take (i := 9) #[true, true, true, true, true, true, true, true, true, true, false, false, false, false, false, false, false, false, false, false, false, false, false, false, false, false, false, false, false, false, false, false, false, false, false, false, false, false, false, false, false, false, false, false, false, false, false, false, false, false, false, false, false, false, false, false, false, false, false, false, false, false, false, false, false] rfl (by kernel_rfl) (fun _ _ _ h => h) rfl (fun wq hq => Yl.ld (y_move rfl)) hb3 ?_
        refine Wa.split (s := 82) rfl (fun g_112 => ?_) (fun g_112 => ?_)
        ·
         have g_112_ := g_112
         try simp only [decide_eq_true_eq, decide_eq_false_iff_not, beq_iff_eq, beq_eq_false_iff_ne, bne_iff_ne, bne_eq_false_iff_eq, Bool.not_eq_true', Bool.not_eq_false', Bool.not_eq_eq_eq_not, Bool.not_true, Bool.not_false, ne_eq, Int.not_lt, Int.not_le] at g_112
         exact absurd g_112_ (by have := hg.ne; simpa using this)
        ·
         have g_112_ := g_112
         try simp only [decide_eq_true_eq, decide_eq_false_iff_not, beq_iff_eq, beq_eq_false_iff_ne, bne_iff_ne, bne_eq_false_iff_eq, Bool.not_eq_true', Bool.not_eq_false', Bool.not_eq_eq_eq_not, Bool.not_true, Bool.not_false, ne_eq, Int.not_lt, Int.not_le] at g_112
         refine Wa.takeOn (i := 10) #[true, true, true, true, true, true, true, true, true, true, true, false, false, false, false, false, false, false, false, false, false, false, false, false, false, false, false, false, false, false, false, false, false, false, false, false, false, false, false, false, false, false, false, false, false, false, false, false, false, false, false, false, false, false, false, false, false, false, false, false, false, false, false, false, false] rfl rfl rfl g_112_ (by kernel_rfl) (fun _ _ _ h => h) rfl (fun wq hq => Yl.ld (y_fieldAddr (fa49_2LawB2 _) rfl)) hb3 ?_
         refine Wa.takeOn (i := 11) #[true, true, true, true, true, true, true, true, true, true, true, true, false, false, false, false, false, false, false, false, false, false, false, false, false, false, false, false, false, false, false, false, false, false, false, false, false, false, false, false, false, false, false, false, false, false, false, false, false, false, false, false, false, false, false, false, false, false, false, false, false, false, false, false, false] rfl rfl rfl g_112_ (by kernel_rfl) (fun _ _ _ h => h) rfl (fun wq hq => l_load one3LawB2 rfl (by have hB_o57 := hB_o57_hb3.below hq; exact (hB_o57_hb3.below hq).at (j := 2) rfl)) hb3 ?_
         refine Wa.takeOn (i := 12) #[true, true, true, true, true, true, true, true, true, true, true, true, true, false, false, false, false, false, false, false, false, false, false, false, false, false, false, false, false, false, false, false, false, false, false, false, false, false, false, false, false, false, false, false, false, false, false, false, false, false, false, false, false, false, false, false, false, false, false, false, false, false, false, false, false] rfl rfl rfl g_112_ (by kernel_rfl) (fun _ _ _ h => h) rfl (fun wq hq => Yl.ld (y_fieldAddr (fa49_1LawB2 _) rfl)) hb3 ?_
         refine Wa.takeOn (i := 13) #[true, true, true, true, true, true, true, true, true, true, true, true, true, true, false, false, false, false, false, false, false, false, false, false, false, false, false, false, false, false, false, false, false, false, false, false, false, false, false, false, false, false, false, false, false, false, false, false, false, false, false, false, false, false, false, false, false, false, false, false, false, false, false, false, false] rfl rfl rfl g_112_ (by kernel_rfl) (fun _ _ _ h => h) rfl (fun wq hq => l_load one9LawB2 rfl (by have hB_o57 := hB_o57_hb3.below hq; exact (hB_o57_hb3.below hq).at (j := 1) rfl)) hb3 ?_
         refine Wa.takeOn (i := 14) #[true, true, true, true, true, true, true, true, true, true, true, true, true, true, true, false, false, false, false, false, false, false, false, false, false, false, false, false, false, false, false, false, false, false, false, false, false, false, false, false, false, false, false, false, false, false, false, false, false, false, false, false, false, false, false, false, false, false, false, false, false, false, false, false, false] rfl rfl rfl g_112_ (by kernel_rfl) (fun _ _ _ h => h) rfl (fun wq hq => Yl.ld (y_lens Tryz.underlying9 (by omega) rfl)) hb3 ?_
         refine Wa.takeOn (i := 15) #[true, true, true, true, true, true, true, true, true, true, true, true, true, true, true, true, false, false, false, false, false, false, false, false, false, false, false, false, false, false, false, false, false, false, false, false, false, false, false, false, false, false, false, false, false, false, false, false, false, false, false, false, false, false, false, false, false, false, false, false, false, false, false, false, false] rfl rfl rfl g_112_ (by kernel_rfl) (fun _ _ _ h => h) rfl (fun wq hq => Yl.ld (y_addI rfl rfl (by first | omega | (simp; done) | (simp; omega)) (by first | omega | (simp; done) | (simp; omega)))) hb3 ?_
         refine Wa.takeOn (i := 16) #[true, true, true, true, true, true, true, true, true, true, true, true, true, true, true, true, true, false, false, false, false, false, false, false, false, false, false, false, false, false, false, false, false, false, false, false, false, false, false, false, false, false, false, false, false, false, false, false, false, false, false, false, false, false, false, false, false, false, false, false, false, false, false, false, false] rfl rfl rfl g_112_ (by kernel_rfl) (fun _ _ _ h => h) rfl (fun wq hq => Yl.ld (y_move rfl)) hb3 ?_
         refine Wa.takeOn (i := 17) #[true, true, true, true, true, true, true, true, true, true, true, true, true, true, true, true, true, true, false, false, false, false, false, false, false, false, false, false, false, false, false, false, false, false, false, false, false, false, false, false, false, false, false, false, false, false, false, false, false, false, false, false, false, false, false, false, false, false, false, false, false, false, false, false, false] rfl rfl rfl g_112_ (by kernel_rfl) (fun _ _ _ h => h) rfl (fun wq hq => Yl.ld (y_lens Tryz.underlying9 (by omega) rfl)) hb3 ?_
         refine Wa.takeOn (i := 18) #[true, true, true, true, true, true, true, true, true, true, true, true, true, true, true, true, true, true, true, false, false, false, false, false, false, false, false, false, false, false, false, false, false, false, false, false, false, false, false, false, false, false, false, false, false, false, false, false, false, false, false, false, false, false, false, false, false, false, false, false, false, false, false, false, false] rfl rfl rfl g_112_ (by kernel_rfl) (fun _ _ _ h => h) rfl (fun wq hq => Yl.ld (y_gtri rfl rfl)) hb3 ?_
         refine Wa.take (i := 19) #[true, true, true, true, true, true, true, true, true, true, true, true, true, true, true, true, true, true, true, true, false, false, false, false, false, false, false, false, false, false, false, false, false, false, false, false, false, false, false, false, false, false, false, false, false, false, false, false, false, false, false, false, false, false, false, false, false, false, false, false, false, false, false, false, false] rfl (by kernel_rfl) (fun _ _ _ h => h) rfl (fun wq hq => Yl.ld (y_pickF rfl g_112_ rfl)) hb3 ?_
         refine Wa.take (i := 20) #[true, true, true, true, true, true, true, true, true, true, true, true, true, true, true, true, true, true, true, true, true, false, false, false, false, false, false, false, false, false, false, false, false, false, false, false, false, false, false, false, false, false, false, false, false, false, false, false, false, false, false, false, false, false, false, false, false, false, false, false, false, false, false, false, false] rfl (by kernel_rfl) (fun _ _ _ h => h) rfl (fun wq hq => Yl.ld (y_move rfl)) hb3 ?_
         refine Wa.split (s := 93) rfl (fun g_124 => ?_) (fun g_124 => ?_)
         ·
          have g_124_ := g_124
          try simp only [decide_eq_true_eq, decide_eq_false_iff_not, beq_iff_eq, beq_eq_false_iff_ne, bne_iff_ne, bne_eq_false_iff_eq, Bool.not_eq_true', Bool.not_eq_false', Bool.not_eq_eq_eq_not, Bool.not_true, Bool.not_false, ne_eq, Int.not_lt, Int.not_le] at g_124
          (have h := g_124; omega)
         ·
          have g_124_ := g_124
          try simp only [decide_eq_true_eq, decide_eq_false_iff_not, beq_iff_eq, beq_eq_false_iff_ne, bne_iff_ne, bne_eq_false_iff_eq, Bool.not_eq_true', Bool.not_eq_false', Bool.not_eq_eq_eq_not, Bool.not_true, Bool.not_false, ne_eq, Int.not_lt, Int.not_le] at g_124
          refine Wa.takeOn (i := 21) #[true, true, true, true, true, true, true, true, true, true, true, true, true, true, true, true, true, true, true, true, true, true, false, false, false, false, false, false, false, false, false, false, false, false, false, false, false, false, false, false, false, false, false, false, false, false, false, false, false, false, false, false, false, false, false, false, false, false, false, false, false, false, false, false, false] rfl rfl rfl g_124_ (by kernel_rfl) (fun _ _ _ h => h) rfl (fun wq hq => Yl.ld (y_move rfl)) hb3 ?_
          refine Wa.takeOn (i := 22) #[true, true, true, true, true, true, true, true, true, true, true, true, true, true, true, true, true, true, true, true, true, true, true, false, false, false, false, false, false, false, false, false, false, false, false, false, false, false, false, false, false, false, false, false, false, false, false, false, false, false, false, false, false, false, false, false, false, false, false, false, false, false, false, false, false] rfl rfl rfl g_124_ (by kernel_rfl) (fun _ _ _ h => h) rfl (fun wq hq => Yl.ld (y_fieldAddr (fa49_2LawB2 _) rfl)) hb3 ?_
          refine Wa.takeOn (i := 23) #[true, true, true, true, true, true, true, true, true, true, true, true, true, true, true, true, true, true, true, true, true, true, true, true, false, false, false, false, false, false, false, false, false, false, false, false, false, false, false, false, false, false, false, false, false, false, false, false, false, false, false, false, false, false, false, false, false, false, false, false, false, false, false, false, false] rfl rfl rfl g_124_ (by kernel_rfl) (fun _ _ _ h => h) rfl (fun wq hq => l_load one3LawB2 rfl (by have hB_o57 := hB_o57_hb3.below hq; exact (hB_o57_hb3.below hq).at (j := 2) rfl)) hb3 ?_
          refine Wa.takeOn (i := 24) #[true, true, true, true, true, true, true, true, true, true, true, true, true, true, true, true, true, true, true, true, true, true, true, true, true, false, false, false, false, false, false, false, false, false, false, false, false, false, false, false, false, false, false, false, false, false, false, false, false, false, false, false, false, false, false, false, false, false, false, false, false, false, false, false, false] rfl rfl rfl g_124_ (by kernel_rfl) (fun _ _ _ h => h) rfl (fun wq hq => Yl.ld (y_fieldAddr (fa49_2LawB2 _) rfl)) hb3 ?_
          refine Wa.takeOn (i := 25) #[true, true, true, true, true, true, true, true, true, true, true, true, true, true, true, true, true, true, true, true, true, true, true, true, true, true, false, false, false, false, false, false, false, false, false, false, false, false, false, false, false, false, false, false, false, false, false, false, false, false, false, false, false, false, false, false, false, false, false, false, false, false, false, false, false] rfl rfl rfl g_124_ (by kernel_rfl) (fun _ _ _ h => h) rfl (fun wq hq => l_load one3LawB2 rfl (by have hB_o57 := hB_o57_hb3.below hq; exact (hB_o57_hb3.below hq).at (j := 2) rfl)) hb3 ?_
          refine Wa.takeOn (i := 26) #[true, true, true, true, true, true, true, true, true, true, true, true, true, true, true, true, true, true, true, true, true, true, true, true, true, true, true, false, false, false, false, false, false, false, false, false, false, false, false, false, false, false, false, false, false, false, false, false, false, false, false, false, false, false, false, false, false, false, false, false, false, false, false, false, false] rfl rfl rfl g_124_ (by kernel_rfl) (fun _ _ _ h => h) rfl (fun wq hq => Yl.ld (y_fieldAddr (fa49_1LawB2 _) rfl)) hb3 ?_
          refine Wa.takeOn (i := 27) #[true, true, true, true, true, true, true, true, true, true, true, true, true, true, true, true, true, true, true, true, true, true, true, true, true, true, true, true, false, false, false, false, false, false, false, false, false, false, false, false, false, false, false, false, false, false, false, false, false, false, false, false, false, false, false, false, false, false, false, false, false, false, false, false, false] rfl rfl rfl g_124_ (by kernel_rfl) (fun _ _ _ h => h) rfl (fun wq hq => l_load one9LawB2 rfl (by have hB_o57 := hB_o57_hb3.below hq; exact (hB_o57_hb3.below hq).at (j := 1) rfl)) hb3 ?_
          refine Wa.takeOn (i := 28) #[true, true, true, true, true, true, true, true, true, true, true, true, true, true, true, true, true, true, true, true, true, true, true, true, true, true, true, true, true, false, false, false, false, false, false, false, false, false, false, false, false, false, false, false, false, false, false, false, false, false, false, false, false, false, false, false, false, false, false, false, false, false, false, false, false] rfl rfl rfl g_124_ (by kernel_rfl) (fun _ _ _ h => h) rfl (fun wq hq => Yl.ld (y_lens Tryz.underlying9 (by omega) rfl)) hb3 ?_
          refine Wa.takeOn (i := 29) #[true, true, true, true, true, true, true, true, true, true, true, true, true, true, true, true, true, true, true, true, true, true, true, true, true, true, true, true, true, true, false, false, false, false, false, false, false, false, false, false, false, false, false, false, false, false, false, false, false, false, false, false, false, false, false, false, false, false, false, false, false, false, false, false, false] rfl rfl rfl g_124_ (by kernel_rfl) (fun _ _ _ h => h) rfl (fun wq hq => Yl.ld (y_addI rfl rfl (by first | omega | (simp; done) | (simp; omega)) (by first | omega | (simp; done) | (simp; omega)))) hb3 ?_
          refine Wa.takeOn (i := 30) #[true, true, true, true, true, true, true, true, true, true, true, true, true, true, true, true, true, true, true, true, true, true, true, true, true, true, true, true, true, true, true, false, false, false, false, false, false, false, false, false, false, false, false, false, false, false, false, false, false, false, false, false, false, false, false, false, false, false, false, false, false, false, false, false, false] rfl rfl rfl g_124_ (by kernel_rfl) (fun _ _ _ h => h) rfl (fun wq hq => Yl.ld (y_eq (y_slices Tryz.underlying9 rfl rfl rfl (by omega) (by omega) (by omega)) (str_eq (show (a.take (((l1[i]).a : Int) + ((l1[i]).t.length : Int)).toNat).drop ((l1[i]).a : Int).toNat = (l1[i]).t by rw [Int.toNat_natCast, show (((l1[i]).a : Int) + ((l1[i]).t.length : Int)).toNat = (l1[i]).a + (l1[i]).t.length by omega, List.drop_take, show (l1[i]).a + (l1[i]).t.length - (l1[i]).a = (l1[i]).t.length by omega]; exact h3)))) hb3 ?_
          refine Wa.takeOn (i := 31) #[true, true, true, true, true, true, true, true, true, true, true, true, true, true, true, true, true, true, true, true, true, true, true, true, true, true, true, true, true, true, true, true, false, false, false, false, false, false, false, false, false, false, false, false, false, false, false, false, false, false, false, false, false, false, false, false, false, false, false, false, false, false, false, false, false] rfl rfl rfl g_124_ (by kernel_rfl) (fun _ _ _ h => h) rfl (fun wq hq => Yl.ld (y_fieldAddr (fa49_1LawB2 _) rfl)) hb3 ?_
          refine Wa.takeOn (i := 32) #[true, true, true, true, true, true, true, true, true, true, true, true, true, true, true, true, true, true, true, true, true, true, true, true, true, true, true, true, true, true, true, true, true, false, false, false, false, false, false, false, false, false, false, false, false, false, false, false, false, false, false, false, false, false, false, false, false, false, false, false, false, false, false, false, false] rfl rfl rfl g_124_ (by kernel_rfl) (fun _ _ _ h => h) rfl (fun wq hq => l_load one9LawB2 rfl (by have hB_o57 := hB_o57_hb3.below hq; exact (hB_o57_hb3.below hq).at (j := 1) rfl)) hb3 ?_
          refine Wa.takeOn (i := 33) #[true, true, true, true, true, true, true, true, true, true, true, true, true, true, true, true, true, true, true, true, true, true, true, true, true, true, true, true, true, true, true, true, true, true, false, false, false, false, false, false, false, false, false, false, false, false, false, false, false, false, false, false, false, false, false, false, false, false, false, false, false, false, false, false, false] rfl rfl rfl g_124_ (by kernel_rfl) (fun _ _ _ h => h) rfl (fun wq hq => Yl.ld (y_neqs rfl rfl)) hb3 ?_
          refine Wa.take (i := 34) #[true, true, true, true, true, true, true, true, true, true, true, true, true, true, true, true, true, true, true, true, true, true, true, true, true, true, true, true, true, true, true, true, true, true, true, false, false, false, false, false, false, false, false, false, false, false, false, false, false, false, false, false, false, false, false, false, false, false, false, false, false, false, false, false, false] rfl (by kernel_rfl) (fun _ _ _ h => h) rfl (fun wq hq => Yl.ld (y_pickF rfl g_124_ rfl)) hb3 ?_
          refine Wa.take (i := 35) #[true, true, true, true, true, true, true, true, true, true, true, true, true, true, true, true, true, true, true, true, true, true, true, true, true, true, true, true, true, true, true, true, true, true, true, true, false, false, false, false, false, false, false, false, false, false, false, false, false, false, false, false, false, false, false, false, false, false, false, false, false, false, false, false, false] rfl (by kernel_rfl) (fun _ _ _ h => h) rfl (fun wq hq => Yl.ld (y_move rfl)) hb3 ?_
          refine Wa.split (s := 108) rfl (fun g_140 => ?_) (fun g_140 => ?_)
          ·
           have g_140_ := g_140
           try simp only [decide_eq_true_eq, decide_eq_false_iff_not, beq_iff_eq, beq_eq_false_iff_ne, bne_iff_ne, bne_eq_false_iff_eq, Bool.not_eq_true', Bool.not_eq_false', Bool.not_eq_eq_eq_not, Bool.not_true, Bool.not_false, ne_eq, Int.not_lt, Int.not_le] at g_140
           exact absurd g_140_ (by simp)
          ·
           have g_140_ := g_140
           try simp only [decide_eq_true_eq, decide_eq_false_iff_not, beq_iff_eq, beq_eq_false_iff_ne, bne_iff_ne, bne_eq_false_iff_eq, Bool.not_eq_true', Bool.not_eq_false', Bool.not_eq_eq_eq_not, Bool.not_true, Bool.not_false, ne_eq, Int.not_lt, Int.not_le] at g_140
           refine Wa.takeOn (i := 36) #[true, true, true, true, true, true, true, true, true, true, true, true, true, true, true, true, true, true, true, true, true, true, true, true, true, true, true, true, true, true, true, true, true, true, true, true, true, false, false, false, false, false, false, false, false, false, false, false, false, false, false, false, false, false, false, false, false, false, false, false, false, false, false, false, false] rfl rfl rfl g_140_ (by kernel_rfl) (fun _ _ _ h => h) rfl (fun wq hq => Yl.ld (y_fieldAddr (fa49_0LawB2 _) rfl)) hb3 ?_
           refine Wa.takeOn (i := 37) #[true, true, true, true, true, true, true, true, true, true, true, true, true, true, true, true, true, true, true, true, true, true, true, true, true, true, true, true, true, true, true, true, true, true, true, true, true, true, false, false, false, false, false, false, false, false, false, false, false, false, false, false, false, false, false, false, false, false, false, false, false, false, false, false, false] rfl rfl rfl g_140_ (by kernel_rfl) (fun _ _ _ h => h) rfl (fun wq hq => l_load one3LawB2 rfl (by have hB_o57 := hB_o57_hb3.below hq; exact (hB_o57_hb3.below hq).at (j := 0) rfl)) hb3 ?_
           refine Wa.takeOn (i := 38) #[true, true, true, true, true, true, true, true, true, true, true, true, true, true, true, true, true, true, true, true, true, true, true, true, true, true, true, true, true, true, true, true, true, true, true, true, true, true, true, false, false, false, false, false, false, false, false, false, false, false, false, false, false, false, false, false, false, false, false, false, false, false, false, false, false] rfl rfl rfl g_140_ (by kernel_rfl) (fun _ _ _ h => h) rfl (fun wq hq => Yl.ld (y_lssi rfl rfl)) hb3 ?_
           refine Wa.take (i := 39) #[true, true, true, true, true, true, true, true, true, true, true, true, true, true, true, true, true, true, true, true, true, true, true, true, true, true, true, true, true, true, true, true, true, true, true, true, true, true, true, true, false, false, false, false, false, false, false, false, false, false, false, false, false, false, false, false, false, false, false, false, false, false, false, false, false] rfl (by kernel_rfl) (fun _ _ _ h => h) rfl (fun wq hq => Yl.ld (y_pickF rfl g_140_ rfl)) hb3 ?_
           refine Wa.take (i := 40) #[true, true, true, true, true, true, true, true, true, true, true, true, true, true, true, true, true, true, true, true, true, true, true, true, true, true, true, true, true, true, true, true, true, true, true, true, true, true, true, true, true, false, false, false, false, false, false, false, false, false, false, false, false, false, false, false, false, false, false, false, false, false, false, false, false] rfl (by kernel_rfl) (fun _ _ _ h => h) rfl (fun wq hq => Yl.ld (y_move rfl)) hb3 ?_
           refine Wa.split (s := 113) rfl (fun g_146 => ?_) (fun g_146 => ?_)
           ·
            have g_146_ := g_146
            try simp only [decide_eq_true_eq, decide_eq_false_iff_not, beq_iff_eq, beq_eq_false_iff_ne, bne_iff_ne, bne_eq_false_iff_eq, Bool.not_eq_true', Bool.not_eq_false', Bool.not_eq_eq_eq_not, Bool.not_true, Bool.not_false, ne_eq, Int.not_lt, Int.not_le] at g_146
            (have h := g_146; omega)
           ·
            have g_146_ := g_146
            try simp only [decide_eq_true_eq, decide_eq_false_iff_not, beq_iff_eq, beq_eq_false_iff_ne, bne_iff_ne, bne_eq_false_iff_eq, Bool.not_eq_true', Bool.not_eq_false', Bool.not_eq_eq_eq_not, Bool.not_true, Bool.not_false, ne_eq, Int.not_lt, Int.not_le] at g_146
            refine Wa.takeOn (i := 41) #[true, true, true, true, true, true, true, true, true, true, true, true, true, true, true, true, true, true, true, true, true, true, true, true, true, true, true, true, true, true, true, true, true, true, true, true, true, true, true, true, true, true, false, false, false, false, false, false, false, false, false, false, false, false, false, false, false, false, false, false, false, false, false, false, false] rfl rfl rfl g_146_ (by kernel_rfl) (fun _ _ _ h => h) rfl (fun wq hq => Yl.ld (y_fieldAddr (fa49_0LawB2 _) rfl)) hb3 ?_
            refine Wa.takeOn (i := 42) #[true, true, true, true, true, true, true, true, true, true, true, true, true, true, true, true, true, true, true, true, true, true, true, true, true, true, true, true, true, true, true, true, true, true, true, true, true, true, true, true, true, true, true, false, false, false, false, false, false, false, false, false, false, false, false, false, false, false, false, false, false, false, false, false, false] rfl rfl rfl g_146_ (by kernel_rfl) (fun _ _ _ h => h) rfl (fun wq hq => l_load one3LawB2 rfl (by have hB_o57 := hB_o57_hb3.below hq; exact (hB_o57_hb3.below hq).at (j := 0) rfl)) hb3 ?_
            refine Wa.takeOn (i := 43) #[true, true, true, true, true, true, true, true, true, true, true, true, true, true, true, true, true, true, true, true, true, true, true, true, true, true, true, true, true, true, true, true, true, true, true, true, true, true, true, true, true, true, true, true, false, false, false, false, false, false, false, false, false, false, false, false, false, false, false, false, false, false, false, false, false] rfl rfl rfl g_146_ (by kernel_rfl) (fun _ _ _ h => h) rfl (fun wq hq => Yl.ld (y_gtri rfl rfl)) hb3 ?_
            refine Wa.take (i := 44) #[true, true, true, true, true, true, true, true, true, true, true, true, true, true, true, true, true, true, true, true, true, true, true, true, true, true, true, true, true, true, true, true, true, true, true, true, true, true, true, true, true, true, true, true, true, false, false, false, false, false, false, false, false, false, false, false, false, false, false, false, false, false, false, false, false] rfl (by kernel_rfl) (fun _ _ _ h => h) rfl (fun wq hq => Yl.ld (y_pickF rfl g_146_ rfl)) hb3 ?_
            refine Wa.take (i := 45) #[true, true, true, true, true, true, true, true, true, true, true, true, true, true, true, true, true, true, true, true, true, true, true, true, true, true, true, true, true, true, true, true, true, true, true, true, true, true, true, true, true, true, true, true, true, true, false, false, false, false, false, false, false, false, false, false, false, false, false, false, false, false, false, false, false] rfl (by kernel_rfl) (fun _ _ _ h => h) rfl (fun wq hq => Yl.ld (y_move rfl)) hb3 ?_
            refine Wa.split (s := 118) rfl (fun g_152 => ?_) (fun g_152 => ?_)
            ·
             have g_152_ := g_152
             try simp only [decide_eq_true_eq, decide_eq_false_iff_not, beq_iff_eq, beq_eq_false_iff_ne, bne_iff_ne, bne_eq_false_iff_eq, Bool.not_eq_true', Bool.not_eq_false', Bool.not_eq_eq_eq_not, Bool.not_true, Bool.not_false, ne_eq, Int.not_lt, Int.not_le] at g_152
             (have h := g_152; omega)
            ·
             have g_152_ := g_152
             try simp only [decide_eq_true_eq, decide_eq_false_iff_not, beq_iff_eq, beq_eq_false_iff_ne, bne_iff_ne, bne_eq_false_iff_eq, Bool.not_eq_true', Bool.not_eq_false', Bool.not_eq_eq_eq_not, Bool.not_true, Bool.not_false, ne_eq, Int.not_lt, Int.not_le] at g_152
             refine Wa.takeOn (i := 46) #[true, true, true, true, true, true, true, true, true, true, true, true, true, true, true, true, true, true, true, true, true, true, true, true, true, true, true, true, true, true, true, true, true, true, true, true, true, true, true, true, true, true, true, true, true, true, true, false, false, false, false, false, false, false, false, false, false, false, false, false, false, false, false, false, false] rfl rfl rfl g_152_ (by kernel_rfl) (fun _ _ _ h => h) rfl (fun wq hq => Yl.ld (y_move rfl)) hb3 ?_
             refine Wa.takeOn (i := 47) #[true, true, true, true, true, true, true, true, true, true, true, true, true, true, true, true, true, true, true, true, true, true, true, true, true, true, true, true, true, true, true, true, true, true, true, true, true, true, true, true, true, true, true, true, true, true, true, true, false, false, false, false, false, false, false, false, false, false, false, false, false, false, false, false, false] rfl rfl rfl g_152_ (by kernel_rfl) (fun _ _ _ h => h) rfl (fun wq hq => Yl.ld (y_move rfl)) hb3 ?_
             refine Wa.takeOn (i := 48) #[true, true, true, true, true, true, true, true, true, true, true, true, true, true, true, true, true, true, true, true, true, true, true, true, true, true, true, true, true, true, true, true, true, true, true, true, true, true, true, true, true, true, true, true, true, true, true, true, true, false, false, false, false, false, false, false, false, false, false, false, false, false, false, false, false] rfl rfl rfl g_152_ (by kernel_rfl) (fun _ _ _ h => h) rfl (fun wq hq => Yl.ld (y_indexAddr Tryz.underlying39 sz49LawB2 rfl rfl (by omega) (by omega))) hb3 ?_
             refine Wa.takeOn (i := 49) #[true, true, true, true, true, true, true, true, true, true, true, true, true, true, true, true, true, true, true, true, true, true, true, true, true, true, true, true, true, true, true, true, true, true, true, true, true, true, true, true, true, true, true, true, true, true, true, true, true, true, false, false, false, false, false, false, false, false, false, false, false, false, false, false, false] rfl rfl rfl g_152_ (by kernel_rfl) (fun _ _ _ h => h) rfl (fun wq hq => Yl.ld (y_fieldAddr (fa49_0LawB2 _) rfl)) hb3 ?_
             refine Wa.takeOn (i := 50) #[true, true, true, true, true, true, true, true, true, true, true, true, true, true, true, true, true, true, true, true, true, true, true, true, true, true, true, true, true, true, true, true, true, true, true, true, true, true, true, true, true, true, true, true, true, true, true, true, true, true, true, false, false, false, false, false, false, false, false, false, false, false, false, false, false] rfl rfl rfl g_152_ (by kernel_rfl) (fun _ _ _ h => h) rfl (fun wq hq => l_load one3LawB2 rfl (by have hB_o57 := hB_o57_hb3.below hq; exact at3 (cell_below hq (hd2x 0 (.int .i64 ((l2[i]).k : Int)) rfl)))) hb3 ?_
             refine Wa.takeOn (i := 51) #[true, true, true, true, true, true, true, true, true, true, true, true, true, true, true, true, true, true, true, true, true, true, true, true, true, true, true, true, true, true, true, true, true, true, true, true, true, true, true, true, true, true, true, true, true, true, true, true, true, true, true, true, false, false, false, false, false, false, false, false, false, false, false, false, false] rfl rfl rfl g_152_ (by kernel_rfl) (fun _ _ _ h => h) rfl (fun wq hq => Yl.ld (y_fieldAddr (fa49_0LawB2 _) rfl)) hb3 ?_
             refine Wa.takeOn (i := 52) #[true, true, true, true, true, true, true, true, true, true, true, true, true, true, true, true, true, true, true, true, true, true, true, true, true, true, true, true, true, true, true, true, true, true, true, true, true, true, true, true, true, true, true, true, true, true, true, true, true, true, true, true, true, false, false, false, false, false, false, false, false, false, false, false, false] rfl rfl rfl g_152_ (by kernel_rfl) (fun _ _ _ h => h) rfl (fun wq hq => l_load one3LawB2 rfl (by have hB_o57 := hB_o57_hb3.below hq; exact (hB_o57_hb3.below hq).at (j := 0) rfl)) hb3 ?_
             refine Wa.takeOn (i := 53) #[true, true, true, true, true, true, true, true, true, true, true, true, true, true, true, true, true, true, true, true, true, true, true, true, true, true, true, true, true, true, true, true, true, true, true, true, true, true, true, true, true, true, true, true, true, true, true, true, true, true, true, true, true, true, false, false, false, false, false, false, false, false, false, false, false] rfl rfl rfl g_152_ (by kernel_rfl) (fun _ _ _ h => h) rfl (fun wq hq => Yl.ld (y_neqi rfl rfl)) hb3 ?_
             refine Wa.take (i := 54) #[true, true, true, true, true, true, true, true, true, true, true, true, true, true, true, true, true, true, true, true, true, true, true, true, true, true, true, true, true, true, true, true, true, true, true, true, true, true, true, true, true, true, true, true, true, true, true, true, true, true, true, true, true, true, true, false, false, false, false, false, false, false, false, false, false] rfl (by kernel_rfl) (fun _ _ _ h => h) rfl (fun wq hq => Yl.ld (y_pickF rfl g_152_ rfl)) hb3 ?_
             refine Wa.take (i := 55) #[true, true, true, true, true, true, true, true, true, true, true, true, true, true, true, true, true, true, true, true, true, true, true, true, true, true, true, true, true, true, true, true, true, true, true, true, true, true, true, true, true, true, true, true, true, true, true, true, true, true, true, true, true, true, true, true, false, false, false, false, false, false, false, false, false] rfl (by kernel_rfl) (fun _ _ _ h => h) rfl (fun wq hq => Yl.ld (y_move rfl)) hb3 ?_
             refine Wa.split (s := 128) rfl (fun g_163 => ?_) (fun g_163 => ?_)
             ·
              have g_163_ := g_163
              try simp only [decide_eq_true_eq, decide_eq_false_iff_not, beq_iff_eq, beq_eq_false_iff_ne, bne_iff_ne, bne_eq_false_iff_eq, Bool.not_eq_true', Bool.not_eq_false', Bool.not_eq_eq_eq_not, Bool.not_true, Bool.not_false, ne_eq, Int.not_lt, Int.not_le] at g_163
              exact absurd g_163_ (by rw [hktk.1]; simp)
             ·
              have g_163_ := g_163
              try simp only [decide_eq_true_eq, decide_eq_false_iff_not, beq_iff_eq, beq_eq_false_iff_ne, bne_iff_ne, bne_eq_false_iff_eq, Bool.not_eq_true', Bool.not_eq_false', Bool.not_eq_eq_eq_not, Bool.not_true, Bool.not_false, ne_eq, Int.not_lt, Int.not_le] at g_163
              refine Wa.takeOn (i := 56) #[true, true, true, true, true, true, true, true, true, true, true, true, true, true, true, true, true, true, true, true, true, true, true, true, true, true, true, true, true, true, true, true, true, true, true, true, true, true, true, true, true, true, true, true, true, true, true, true, true, true, true, true, true, true, true, true, true, false, false, false, false, false, false, false, false] rfl rfl rfl g_163_ (by kernel_rfl) (fun _ _ _ h => h) rfl (fun wq hq => Yl.ld (y_move rfl)) hb3 ?_
              refine Wa.takeOn (i := 57) #[true, true, true, true, true, true, true, true, true, true, true, true, true, true, true, true, true, true, true, true, true, true, true, true, true, true, true, true, true, true, true, true, true, true, true, true, true, true, true, true, true, true, true, true, true, true, true, true, true, true, true, true, true, true, true, true, true, true, false, false, false, false, false, false, false] rfl rfl rfl g_163_ (by kernel_rfl) (fun _ _ _ h => h) rfl (fun wq hq => Yl.ld (y_move rfl)) hb3 ?_
              refine Wa.takeOn (i := 58) #[true, true, true, true, true, true, true, true, true, true, true, true, true, true, true, true, true, true, true, true, true, true, true, true, true, true, true, true, true, true, true, true, true, true, true, true, true, true, true, true, true, true, true, true, true, true, true, true, true, true, true, true, true, true, true, true, true, true, true, false, false, false, false, false, false] rfl rfl rfl g_163_ (by kernel_rfl) (fun _ _ _ h => h) rfl (fun wq hq => Yl.ld (y_indexAddr Tryz.underlying39 sz49LawB2 rfl rfl (by omega) (by omega))) hb3 ?_
              refine Wa.takeOn (i := 59) #[true, true, true, true, true, true, true, true, true, true, true, true, true, true, true, true, true, true, true, true, true, true, true, true, true, true, true, true, true, true, true, true, true, true, true, true, true, true, true, true, true, true, true, true, true, true, true, true, true, true, true, true, true, true, true, true, true, true, true, true, false, false, false, false, false] rfl rfl rfl g_163_ (by kernel_rfl) (fun _ _ _ h => h) rfl (fun wq hq => Yl.ld (y_fieldAddr (fa49_1LawB2 _) rfl)) hb3 ?_
              refine Wa.takeOn (i := 60) #[true, true, true, true, true, true, true, true, true, true, true, true, true, true, true, true, true, true, true, true, true, true, true, true, true, true, true, true, true, true, true, true, true, true, true, true, true, true, true, true, true, true, true, true, true, true, true, true, true, true, true, true, true, true, true, true, true, true, true, true, true, false, false, false, false] rfl rfl rfl g_163_ (by kernel_rfl) (fun _ _ _ h => h) rfl (fun wq hq => l_load one9LawB2 rfl (by have hB_o57 := hB_o57_hb3.below hq; exact at3 (cell_below hq (hd2x 1 (str (l2[i]).t) rfl)))) hb3 ?_
              refine Wa.takeOn (i := 61) #[true, true, true, true, true, true, true, true, true, true, true, true, true, true, true, true, true, true, true, true, true, true, true, true, true, true, true, true, true, true, true, true, true, true, true, true, true, true, true, true, true, true, true, true, true, true, true, true, true, true, true, true, true, true, true, true, true, true, true, true, true, true, false, false, false] rfl rfl rfl g_163_ (by kernel_rfl) (fun _ _ _ h => h) rfl (fun wq hq => Yl.ld (y_fieldAddr (fa49_1LawB2 _) rfl)) hb3 ?_
              refine Wa.takeOn (i := 62) #[true, true, true, true, true, true, true, true, true, true, true, true, true, true, true, true, true, true, true, true, true, true, true, true, true, true, true, true, true, true, true, true, true, true, true, true, true, true, true, true, true, true, true, true, true, true, true, true, true, true, true, true, true, true, true, true, true, true, true, true, true, true, true, false, false] rfl rfl rfl g_163_ (by kernel_rfl) (fun _ _ _ h => h) rfl (fun wq hq => l_load one9LawB2 rfl (by have hB_o57 := hB_o57_hb3.below hq; exact (hB_o57_hb3.below hq).at (j := 1) rfl)) hb3 ?_
              refine Wa.takeOn (i := 63) #[true, true, true, true, true, true, true, true, true, true, true, true, true, true, true, true, true, true, true, true, true, true, true, true, true, true, true, true, true, true, true, true, true, true, true, true, true, true, true, true, true, true, true, true, true, true, true, true, true, true, true, true, true, true, true, true, true, true, true, true, true, true, true, true, false] rfl rfl rfl g_163_ (by kernel_rfl) (fun _ _ _ h => h) rfl (fun wq hq => Yl.ld (y_neqs rfl rfl)) hb3 ?_
              refine Wa.take (i := 64) #[true, true, true, true, true, true, true, true, true, true, true, true, true, true, true, true, true, true, true, true, true, true, true, true, true, true, true, true, true, true, true, true, true, true, true, true, true, true, true, true, true, true, true, true, true, true, true, true, true, true, true, true, true, true, true, true, true, true, true, true, true, true, true, true, true] rfl (by kernel_rfl) (fun _ _ _ h => h) rfl (fun wq hq => Yl.ld (y_pickF rfl g_163_ rfl)) hb3 ?_
              refine Wa.done (by kernel_rfl) ?_
              refine Wq.next hK_100 ?_
              refine Wc.cond rfl (fun c3_173 => ?_) (fun c3_173 => ?_)
              ·
               have c3_173_ := c3_173
               try simp only [decide_eq_true_eq, decide_eq_false_iff_not, beq_iff_eq, beq_eq_false_iff_ne, bne_iff_ne, bne_eq_false_iff_eq, Bool.not_eq_true', Bool.not_eq_false', Bool.not_eq_eq_eq_not, Bool.not_true, Bool.not_false, ne_eq, Int.not_lt, Int.not_le] at c3_173
               exact absurd c3_173_ (by rw [hktk.2]; simp)
              ·
               have c3_173_ := c3_173
               try simp only [decide_eq_true_eq, decide_eq_false_iff_not, beq_iff_eq, beq_eq_false_iff_ne, bne_iff_ne, bne_eq_false_iff_eq, Bool.not_eq_true', Bool.not_eq_false', Bool.not_eq_eq_eq_not, Bool.not_true, Bool.not_false, ne_eq, Int.not_lt, Int.not_le] at c3_173
               refine Wc.skip ?_
               refine Wq.next hK_99 ?_
               refine Wc.region ?_
               refine Wl.y (y_fieldAddr (fa49_2LawB2 _) rfl) rfl ?_
               refine Wl.l (l_load one3LawB2 rfl (by exact hB_o57.at (j := 2) rfl)) rfl ?_
               refine Wl.y (y_fieldAddr (fa49_1LawB2 _) rfl) rfl ?_
               refine Wl.l (l_load one9LawB2 rfl (by exact hB_o57.at (j := 1) rfl)) rfl ?_
               refine Wl.y (y_lens Tryz.underlying9 (by omega) rfl) rfl ?_
               refine Wl.y (y_addI rfl rfl (by first | omega | (simp; done) | (simp; omega)) (by first | omega | (simp; done) | (simp; omega))) rfl ?_
               refine Wl.y (y_assign rfl) rfl ?_
               refine Wl.nil ?_
               refine Wq.block_normal ?_
               refine Wq.next hK_92 ?_
               refine Wc.region ?_
               refine Wl.y (y_move rfl) rfl ?_
               refine Wl.y (y_addI rfl rfl (by first | omega | (simp; done) | (simp; omega)) (by first | omega | (simp; done) | (simp; omega))) rfl ?_
               refine Wl.y (y_assign rfl) rfl ?_
               refine Wl.nil ?_
               refine fun a_ ha_ => hL_83 _ _ (⟨i + 1, (l1[i]).a + (l1[i]).t.length⟩) (by show l1.length - (i + 1) < l1.length - i; omega) (Sub.cons' rfl (by first | rfl | exact int_eq (by omega)) (Sub.cons' rfl (by first | rfl | exact int_eq (by omega)) (Sub.cons' rfl (by first | rfl | exact int_eq (by omega)) (Sub.cons' rfl (by first | rfl | exact int_eq (by omega)) (Sub.cons' rfl (by first | rfl | exact int_eq (by omega)) (Sub.cons' rfl (by first | rfl | exact int_eq (by omega)) (Sub.nil))))))) ?_ a_ ha_
               exact ⟨by omega, h2, h5, hb, hR1, hR2⟩
      ·
       have c2_91_ := c2_91
       try simp only [decide_eq_true_eq, decide_eq_false_iff_not, beq_iff_eq, beq_eq_false_iff_ne, bne_iff_ne, bne_eq_false_iff_eq, Bool.not_eq_true', Bool.not_eq_false', Bool.not_eq_eq_eq_not, Bool.not_true, Bool.not_false, ne_eq, Int.not_lt, Int.not_le] at c2_91
       refine Wc.exit ?_
       refine Wq.then_exit ?_
       refine Wq.then_exit ?_
       refine Wq.block_exit ?_
       refine Wq.next hK_80 ?_
       refine Wc.seq fun _ hK_184 => ?_
       refine Wc.region ?_
       refine Wl.y (y_move rfl) rfl ?_
       refine Wl.y (y_assign rfl) rfl ?_
       refine Wl.nil ?_
       refine Wq.next hK_184 ?_
       refine Wc.ret ?_
       refine ret1 rfl rfl ?_
       exact ⟨_, rfl, rfl, hb⟩
end Go.Proofs.YtcljmclolpgdmaaGreatDoor
