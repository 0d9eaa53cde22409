/- The statement LexJoins, by the calculus. -/
import Derived.Test.YtcljmclolpgdmaaGreatDoorLexP
namespace Go.Proofs.YtcljmclolpgdmaaGreatDoor
open Go.RowKit Go.Bw Go.Bw.Fl
set_option linter.unusedVariables false
set_option linter.unusedSimpArgs false
theorem fa49_0LawJ (p : Addr) (w : World) : (Instr.fieldAt 49 (.pointer (some p)) 0).run Tryz.prog w = .ok (.pointer (some (p.add 0))) w := run_fieldAt (i := 0) (sz := 0) Tryz.underlying49 rfl (by kernel_rfl) p w
theorem fa49_1LawJ (p : Addr) (w : World) : (Instr.fieldAt 49 (.pointer (some p)) 1).run Tryz.prog w = .ok (.pointer (some (p.add 1))) w := run_fieldAt (i := 1) (sz := 0) Tryz.underlying49 rfl (by kernel_rfl) p w
theorem fa49_2LawJ (p : Addr) (w : World) : (Instr.fieldAt 49 (.pointer (some p)) 2).run Tryz.prog w = .ok (.pointer (some (p.add 2))) w := run_fieldAt (i := 2) (sz := 0) Tryz.underlying49 rfl (by kernel_rfl) p w
theorem one3LawJ : One Tryz.prog 3 := ⟨_, Tryz.underlying3, rfl, by kernel_rfl⟩
theorem one9LawJ : One Tryz.prog 9 := ⟨_, Tryz.underlying9, rfl, by kernel_rfl⟩
theorem sz49LawJ : (Tryz.prog.info? 49).map (·.size) = some 3 := by kernel_rfl
theorem txt21LawJ : Txt Tryz.prog 21 := ⟨_, Tryz.func21, by kernel_rfl, rfl⟩   -- bridleway/bridlewaylaw10.shown
theorem txt22LawJ : Txt Tryz.prog 22 := ⟨_, Tryz.func22, by kernel_rfl, rfl⟩   -- bridleway/lex.Lex
/-- what Lex tells, of a text that is not too long -/
def LxIs (s : List UInt8) (l : List Tok) (i e : Int) : Prop := (e = 2 ∧ l = [] ∧ ∃ k : Nat, i = k ∧ lexV s 0 = .error k) ∨ (e = 0 ∧ i = 0 ∧ lexV s 0 = .ok l)
theorem Lex_y (s : List UInt8) (hs : s.length ≤ 65536) (w : World) (hX : Lx w) : Ret Tryz.prog 22 [str s] w fun v w' => (∃ A c l i e, v = .tuple #[.slice A l.length c, .int .i64 i, .int .i64 e] ∧ Rd w' 3 A l.length (l.flatMap Tok.cells) ∧ l.length ≤ 65536 ∧ l.length ≤ c ∧ LxIs s l i e) ∧ Below w.heap.size w w' :=
  (Lex_r s (by omega) w hX).mono fun v w' ⟨h1, h2⟩ => by
    rcases h1 with ⟨h3, _⟩ | ⟨_, i, h3, h4⟩ | ⟨_, l', A, c, h3, h4, h5, h6, h7⟩
    · omega
    · exact ⟨⟨none, 0, [], i, 2, h4, Rd.nil _ _ _, by simp, by simp, .inl ⟨rfl, rfl, i, rfl, h3⟩⟩, h2⟩
    · exact ⟨⟨A, c, l', 0, 0, h4, h7, h5, h6, .inr ⟨rfl, rfl, h3⟩⟩, h2⟩
theorem LxIs.bad {s : List UInt8} {l : List Tok} {i e : Int} (h : LxIs s l i e) (he : e ≠ 0) : e = 2 ∧ l = [] ∧ ∃ k : Nat, i = k ∧ lexV s 0 = .error k := by
  rcases h with h | h
  · exact h
  · exact absurd h.1 he
theorem LxIs.good {s : List UInt8} {l : List Tok} {i e : Int} (h : LxIs s l i e) (he : e = 0) : i = 0 ∧ lexV s 0 = .ok l := by
  rcases h with h | h
  · have := h.1; omega
  · exact h.2
theorem LxIs.err {s : List UInt8} {l : List Tok} {i e : Int} {k : Nat} (h : LxIs s l i e) (hk : lexV s 0 = .error k) : e = 2 ∧ i = k := by
  rcases h with ⟨h1, _, k', h2, h3⟩ | ⟨_, _, h3⟩
  · rw [hk] at h3; cases h3; exact ⟨h1, h2⟩
  · rw [hk] at h3; cases h3
theorem LxIs.fine {s : List UInt8} {l l' : List Tok} {i e : Int} (h : LxIs s l i e) (hk : lexV s 0 = .ok l') : e = 0 ∧ i = 0 ∧ l = l' := by
  rcases h with ⟨h1, _, k', h2, h3⟩ | ⟨h1, h2, h3⟩
  · rw [hk] at h3; cases h3
  · rw [hk] at h3; cases h3; exact ⟨h1, h2, rfl⟩
theorem at3 {w : World} {p : Addr} {i j : Nat} {v : Value} (h : w.cell? ((p.add (i * 3)).add j) = some v) : w.cell? ((p.add ((i : Int).toNat * 3)).add j) = some v := by rw [Int.toNat_natCast]; exact h
theorem lexV_err : ∀ (f : Nat) (s : List UInt8) (i k : Nat), s.length ≤ f → lexV s i = .error k → i ≤ k ∧ k < i + s.length
  | f, [], i, k, _, h => by rw [lexV_nil] at h; cases h
  | 0, c :: r, i, k, h, _ => by simp at h
  | f + 1, c :: r, i, k, h, he => by
    simp only [List.length_cons] at h ⊢
    cases hb : blank c with
    | true =>
      rw [lexV_blank i hb] at he
      have := lexV_err f r (i + 1) k (by omega) he
      omega
    | false =>
      have hl := tokV_len (c :: r) (by simp)
      by_cases h0 : (tokV (c :: r)).1 = 0
      · rw [lexV_bad i hb h0] at he; cases he; omega
      · rw [lexV_tok i hb h0] at he
        cases hr : lexV ((c :: r).drop (tokV (c :: r)).2) (i + (tokV (c :: r)).2) with
        | error e =>
          rw [hr] at he
          have e2 : e = k := by cases he; rfl
          have := lexV_err f _ _ e (by rw [List.length_drop]; simp only [List.length_cons]; omega) hr
          rw [List.length_drop] at this
          simp only [List.length_cons] at this hl; omega
        | ok l => rw [hr] at he; cases he
theorem join_err {a : List UInt8} (b : List UInt8) {k : Nat} (h : lexV a 0 = .error k) : lexV (a ++ 10 :: b) 0 = .error k := by rw [lexV_join b _ a 0 (Nat.le_refl _), h]
theorem join_bad {a b : List UInt8} {l : List Tok} {k : Nat} (h : lexV a 0 = .ok l) (h2 : lexV b 0 = .error k) : lexV (a ++ 10 :: b) 0 = .error (a.length + 1 + k) := by
  rw [lexV_join b _ a 0 (Nat.le_refl _), h]
  show Except.map _ (lexV b (0 + a.length + 1)) = _
  rw [show 0 + a.length + 1 = 0 + (a.length + 1) by omega, lexV_shift (a.length + 1) _ b 0 (Nat.le_refl _), h2]
  show Except.error _ = Except.error _
  congr 1; omega
theorem join_ok {a b : List UInt8} {l m : List Tok} (h : lexV a 0 = .ok l) (h2 : lexV b 0 = .ok m) : lexV (a ++ 10 :: b) 0 = .ok (l ++ m.map (Tok.up (a.length + 1))) := by
  rw [lexV_join b _ a 0 (Nat.le_refl _), h]
  show Except.map _ (lexV b (0 + a.length + 1)) = _
  rw [show 0 + a.length + 1 = 0 + (a.length + 1) by omega, lexV_shift (a.length + 1) _ b 0 (Nat.le_refl _), h2]; rfl
theorem Joins_r (s m : List UInt8) (w : World) (hX : Lx w) (hs : s.length ≤ 140737488355328) (hm : m.length ≤ 140737488355328) : Ret Tryz.prog 8 [str s, str m] w fun v w' => v = .bool true ∧ Below w.heap.size w w' := by
  obtain ⟨a, ha⟩ : ∃ a, a = s.take 1000 := ⟨_, rfl⟩
  have hal : a.length ≤ 1000 := by rw [ha]; exact List.length_take_le _ _
  obtain ⟨b, hb_⟩ : ∃ b, b = m.take 1000 := ⟨_, rfl⟩
  have hbl : b.length ≤ 1000 := by rw [hb_]; exact List.length_take_le _ _
  have hcat : (a ++ 10 :: b).length = a.length + b.length + 1 := by simp; omega
  have hb := Below.refl w.heap.size w
  have hX_hb := hX
  refine enter Tryz.func8 rfl rfl rfl ?_
  refine Wc.seq fun _ hK_1 => ?_
  refine Wc.region ?_
  refine Wl.y (y_assign rfl) rfl ?_
  refine Wl.nil ?_
  refine Wq.next hK_1 ?_
  refine Wc.seq fun _ hK_3 => ?_
  refine Wc.region ?_
  refine Wl.call txt21LawJ rfl rfl (lshown_r _ hX) rfl ?_
  rintro _ w_k0 ⟨rfl, hs_k0⟩
  have hz_k0 := hs_k0.size
  have hb := hb.trans (hs_k0.mono hb.size)
  have hX := hX_hb.below hb
  refine Wl.y (y_assign rfl) rfl ?_
  refine Wl.nil ?_
  refine Wq.next hK_3 ?_
  refine Wc.seq fun _ hK_6 => ?_
  refine Wc.region ?_
  refine Wl.y (y_move rfl) rfl ?_
  refine Wl.y (y_move rfl) rfl ?_
  refine Wl.y (y_lens Tryz.underlying9 (by omega) rfl) rfl ?_
  refine Wl.y (y_eq (y_min rfl rfl) (int_eq (show min (s.length : Int) 1000 = ((min s.length 1000 : Nat) : Int) by omega))) rfl ?_
  refine Wl.y (y_eq (y_slicesH Tryz.underlying9 rfl rfl (by omega) (by omega)) (str_eq (show _ = a by rw [ha, Int.toNat_natCast]; exact List.take_eq_take_iff.2 (by omega)))) rfl ?_
  refine Wl.y (y_assign rfl) rfl ?_
  refine Wl.nil ?_
  refine Wq.next hK_6 ?_
  refine Wc.seq fun _ hK_13 => ?_
  refine Wc.region ?_
  refine Wl.y (y_move rfl) rfl ?_
  refine Wl.y (y_move rfl) rfl ?_
  refine Wl.y (y_lens Tryz.underlying9 (by omega) rfl) rfl ?_
  refine Wl.y (y_eq (y_min rfl rfl) (int_eq (show min (m.length : Int) 1000 = ((min m.length 1000 : Nat) : Int) by omega))) rfl ?_
  refine Wl.y (y_eq (y_slicesH Tryz.underlying9 rfl rfl (by omega) (by omega)) (str_eq (show _ = b by rw [hb_, Int.toNat_natCast]; exact List.take_eq_take_iff.2 (by omega)))) rfl ?_
  refine Wl.y (y_assign rfl) rfl ?_
  refine Wl.nil ?_
  refine Wq.next hK_13 ?_
  refine Wc.seq fun _ hK_20 => ?_
  refine Wc.region ?_
  refine Wl.y (y_move rfl) rfl ?_
  refine Wl.call txt22LawJ rfl rfl (Lex_y a (by omega) _ hX) rfl ?_
  rintro _ w_k1 ⟨⟨A1, c1, l1, i1, e1, rfl, hR1, hl1, hc1, hx1⟩, hs_k1⟩
  have hz_k1 := hs_k1.size
  have hb := hb.trans (hs_k1.mono hb.size)
  have hX := hX_hb.below hb
  refine Wl.y (y_move rfl) rfl ?_
  refine Wl.y (y_extract rfl rfl) rfl ?_
  refine Wl.y (y_extract rfl rfl) rfl ?_
  refine Wl.y (y_extract rfl rfl) rfl ?_
  refine Wl.y (y_assign rfl) rfl ?_
  refine Wl.y (y_assign rfl) rfl ?_
  refine Wl.y (y_assign rfl) rfl ?_
  refine Wl.nil ?_
  refine Wq.next hK_20 ?_
  refine Wc.seq fun _ hK_30 => ?_
  refine Wc.region ?_
  refine Wl.y (y_move rfl) rfl ?_
  refine Wl.call txt22LawJ rfl rfl (Lex_y b (by omega) _ hX) rfl ?_
  rintro _ w_k2 ⟨⟨A2, c2, l2, i2, e2, rfl, hR2, hl2, hc2, hx2⟩, hs_k2⟩
  have hz_k2 := hs_k2.size
  have hb := hb.trans (hs_k2.mono hb.size)
  have hX := hX_hb.below hb
  try have hR1 := Rd.below hR1 hs_k2
  refine Wl.y (y_move rfl) rfl ?_
  refine Wl.y (y_extract rfl rfl) rfl ?_
  refine Wl.y (y_extract rfl rfl) rfl ?_
  refine Wl.y (y_extract rfl rfl) rfl ?_
  refine Wl.y (y_assign rfl) rfl ?_
  refine Wl.y (y_assign rfl) rfl ?_
  refine Wl.y (y_assign rfl) rfl ?_
  refine Wl.nil ?_
  refine Wq.next hK_30 ?_
  refine Wc.seq fun _ hK_40 => ?_
  refine Wc.region ?_
  refine Wl.y (y_move rfl) rfl ?_
  refine Wl.y (y_adds rfl rfl (by first | omega | (simp; done) | (simp; omega))) rfl ?_
  refine Wl.y (y_move rfl) rfl ?_
  refine Wl.y (y_eq (y_adds rfl rfl (by first | omega | (simp; done) | (simp; omega))) (str_eq (show _ = a ++ 10 :: b by simp))) rfl ?_
  refine Wl.call txt22LawJ rfl rfl (Lex_y _ (by omega) _ hX) rfl ?_
  rintro _ w_k3 ⟨⟨A3, c3, l3, i3, e3, rfl, hR3, hl3, hc3, hx3⟩, hs_k3⟩
  have hz_k3 := hs_k3.size
  have hb := hb.trans (hs_k3.mono hb.size)
  have hX := hX_hb.below hb
  try have hR1 := Rd.below hR1 hs_k3
  try have hR2 := Rd.below hR2 hs_k3
  refine Wl.y (y_move rfl) rfl ?_
  refine Wl.y (y_extract rfl rfl) rfl ?_
  refine Wl.y (y_extract rfl rfl) rfl ?_
  refine Wl.y (y_extract rfl rfl) rfl ?_
  refine Wl.y (y_assign rfl) rfl ?_
  refine Wl.y (y_assign rfl) rfl ?_
  refine Wl.y (y_assign rfl) rfl ?_
  refine Wl.nil ?_
  refine Wq.next hK_40 ?_
  refine Wc.seq fun _ hK_53 => ?_
  refine Wc.seq fun _ hK_54 => ?_
  refine Wc.region ?_
  refine Wl.y (y_move rfl) rfl ?_
  refine Wl.y (y_neqi rfl rfl) rfl ?_
  refine Wl.nil ?_
  refine Wq.next hK_54 ?_
  refine Wc.cond rfl (fun c0_57 => ?_) (fun c0_57 => ?_)
  ·
   try simp only [decide_eq_true_eq, decide_eq_false_iff_not, beq_iff_eq, beq_eq_false_iff_ne, bne_iff_ne, bne_eq_false_iff_eq, Bool.not_eq_true', Bool.not_eq_false', Bool.not_eq_eq_eq_not, Bool.not_true, Bool.not_false, ne_eq, Int.not_lt, Int.not_le] at c0_57
   obtain ⟨_, _, k_, hk_, herr⟩ := hx1.bad c0_57
   obtain ⟨rfl, h3_⟩ := hx3.err (join_err b herr)
   refine Wc.seq fun _ hK_58 => ?_
   refine Wc.region ?_
   refine Wl.y (y_move rfl) rfl ?_
   refine Wl.y (y_move rfl) rfl ?_
   refine Wl.guardT rfl rfl rfl (fun g_61 => ?_) (fun g_61 => ?_)
   ·
    have g_61_ := g_61
    refine Wl.y (y_move rfl) rfl ?_
    refine Wl.on' rfl rfl g_61_ ?_
    refine Wl.y (y_eqli rfl rfl) rfl ?_
    refine Wl.y (y_pickT rfl g_61_ rfl) rfl ?_
    refine Wl.y (y_move rfl) rfl ?_
    refine Wl.guardT rfl rfl rfl (fun g_66 => ?_) (fun g_66 => ?_)
    ·
     have g_66_ := g_66
     refine Wl.y (y_move rfl) rfl ?_
     refine Wl.on' rfl rfl g_66_ ?_
     refine Wl.y (y_move rfl) rfl ?_
     refine Wl.on' rfl rfl g_66_ ?_
     refine Wl.y (y_eqli rfl rfl) rfl ?_
     refine Wl.y (y_pickT rfl g_66_ rfl) rfl ?_
     refine Wl.y (y_assign rfl) rfl ?_
     refine Wl.nil ?_
     refine Wq.next hK_58 ?_
     refine Wc.ret ?_
     refine Wq.then_ret ?_
     refine ret1 rfl rfl ?_
     exact ⟨_, rfl, bool_eq (by rw [h3_, hk_]; simp), hb⟩
    ·
     have g_66_ := g_66
     exact absurd g_66_ (by decide)
   ·
    have g_61_ := g_61
    exact absurd g_61_ (by decide)
  ·
   try simp only [decide_eq_true_eq, decide_eq_false_iff_not, beq_iff_eq, beq_eq_false_iff_ne, bne_iff_ne, bne_eq_false_iff_eq, Bool.not_eq_true', Bool.not_eq_false', Bool.not_eq_eq_eq_not, Bool.not_true, Bool.not_false, ne_eq, Int.not_lt, Int.not_le] at c0_57
   obtain ⟨h1_, hok1⟩ := hx1.good c0_57
   refine Wc.skip ?_
   refine Wq.next hK_53 ?_
   refine Wc.seq fun _ hK_72 => ?_
   refine Wc.seq fun _ hK_73 => ?_
   refine Wc.region ?_
   refine Wl.y (y_move rfl) rfl ?_
   refine Wl.y (y_neqi rfl rfl) rfl ?_
   refine Wl.nil ?_
   refine Wq.next hK_73 ?_
   refine Wc.cond rfl (fun c1_76 => ?_) (fun c1_76 => ?_)
   ·
    try simp only [decide_eq_true_eq, decide_eq_false_iff_not, beq_iff_eq, beq_eq_false_iff_ne, bne_iff_ne, bne_eq_false_iff_eq, Bool.not_eq_true', Bool.not_eq_false', Bool.not_eq_eq_eq_not, Bool.not_true, Bool.not_false, ne_eq, Int.not_lt, Int.not_le] at c1_76
    obtain ⟨_, _, k_, hk_, herr⟩ := hx2.bad c1_76
    have hkl := lexV_err _ b 0 k_ (Nat.le_refl _) herr
    obtain ⟨rfl, h3_⟩ := hx3.err (join_bad hok1 herr)
    refine Wc.seq fun _ hK_77 => ?_
    refine Wc.region ?_
    refine Wl.y (y_move rfl) rfl ?_
    refine Wl.y (y_move rfl) rfl ?_
    refine Wl.guardT rfl rfl rfl (fun g_80 => ?_) (fun g_80 => ?_)
    ·
     have g_80_ := g_80
     refine Wl.y (y_move rfl) rfl ?_
     refine Wl.on' rfl rfl g_80_ ?_
     refine Wl.y (y_eqli rfl rfl) rfl ?_
     refine Wl.y (y_pickT rfl g_80_ rfl) rfl ?_
     refine Wl.y (y_move rfl) rfl ?_
     refine Wl.guardT rfl rfl rfl (fun g_85 => ?_) (fun g_85 => ?_)
     ·
      have g_85_ := g_85
      refine Wl.y (y_move rfl) rfl ?_
      refine Wl.on' rfl rfl g_85_ ?_
      refine Wl.y (y_move rfl) rfl ?_
      refine Wl.on' rfl rfl g_85_ ?_
      refine Wl.y (y_lens Tryz.underlying9 (by omega) rfl) rfl ?_
      refine Wl.on' rfl rfl g_85_ ?_
      refine Wl.y (y_addI rfl rfl (by first | omega | (simp; done) | (simp; omega)) (by first | omega | (simp; done) | (simp; omega))) rfl ?_
      refine Wl.on' rfl rfl g_85_ ?_
      refine Wl.y (y_move rfl) rfl ?_
      refine Wl.on' rfl rfl g_85_ ?_
      refine Wl.y (y_addI rfl rfl (by first | omega | (simp; done) | (simp; omega)) (by first | omega | (simp; done) | (simp; omega))) rfl ?_
      refine Wl.on' rfl rfl g_85_ ?_
      refine Wl.y (y_eqli rfl rfl) rfl ?_
      refine Wl.y (y_pickT rfl g_85_ rfl) rfl ?_
      refine Wl.y (y_assign rfl) rfl ?_
      refine Wl.nil ?_
      refine Wq.next hK_77 ?_
      refine Wc.ret ?_
      refine Wq.then_ret ?_
      refine ret1 rfl rfl ?_
      exact ⟨_, rfl, bool_eq (by rw [h3_, hk_]; simp), hb⟩
     ·
      have g_85_ := g_85
      exact absurd g_85_ (by decide)
    ·
     have g_80_ := g_80
     exact absurd g_80_ (by decide)
   ·
    try simp only [decide_eq_true_eq, decide_eq_false_iff_not, beq_iff_eq, beq_eq_false_iff_ne, bne_iff_ne, bne_eq_false_iff_eq, Bool.not_eq_true', Bool.not_eq_false', Bool.not_eq_eq_eq_not, Bool.not_true, Bool.not_false, ne_eq, Int.not_lt, Int.not_le] at c1_76
    obtain ⟨h2_, hok2⟩ := hx2.good c1_76
    obtain ⟨rfl, h3_, hl3e⟩ := hx3.fine (join_ok hok1 hok2)
    have hl3n : l3.length = l1.length + l2.length := by rw [hl3e]; simp
    refine Wc.skip ?_
    refine Wq.next hK_72 ?_
    refine Wc.seq fun _ hK_95 => ?_
    refine Wc.seq fun _ hK_96 => ?_
    refine Wc.region ?_
    refine Wl.y (y_move rfl) rfl ?_
    refine Wl.y (y_neqi rfl rfl) rfl ?_
    refine Wl.y (y_move rfl) rfl ?_
    refine Wl.guardF rfl rfl rfl (fun g_100 => ?_) (fun g_100 => ?_)
    ·
     have g_100_ := g_100
     exact absurd g_100_ (by decide)
    ·
     have g_100_ := g_100
     refine Wl.y (y_move rfl) rfl ?_
     refine Wl.on' rfl rfl g_100_ ?_
     refine Wl.y (y_lenl Tryz.underlying39 (by omega) rfl) rfl ?_
     refine Wl.on' rfl rfl g_100_ ?_
     refine Wl.y (y_move rfl) rfl ?_
     refine Wl.on' rfl rfl g_100_ ?_
     refine Wl.y (y_lenl Tryz.underlying39 (by omega) rfl) rfl ?_
     refine Wl.on' rfl rfl g_100_ ?_
     refine Wl.y (y_move rfl) rfl ?_
     refine Wl.on' rfl rfl g_100_ ?_
     refine Wl.y (y_lenl Tryz.underlying39 (by omega) rfl) rfl ?_
     refine Wl.on' rfl rfl g_100_ ?_
     refine Wl.y (y_addI rfl rfl (by first | omega | (simp; done) | (simp; omega)) (by first | omega | (simp; done) | (simp; omega))) rfl ?_
     refine Wl.on' rfl rfl g_100_ ?_
     refine Wl.y (y_neqi rfl rfl) rfl ?_
     refine Wl.y (y_pickF rfl g_100_ rfl) rfl ?_
     refine Wl.nil ?_
     refine Wq.next hK_96 ?_
     refine Wc.cond rfl (fun c2_110 => ?_) (fun c2_110 => ?_)
     ·
      try simp only [decide_eq_true_eq, decide_eq_false_iff_not, beq_iff_eq, beq_eq_false_iff_ne, bne_iff_ne, bne_eq_false_iff_eq, Bool.not_eq_true', Bool.not_eq_false', Bool.not_eq_eq_eq_not, Bool.not_true, Bool.not_false, ne_eq, Int.not_lt, Int.not_le] at c2_110
      (have h := c2_110; omega)
     ·
      refine Wc.skip ?_
      refine Wq.next hK_95 ?_
      refine Wc.seq fun _ hK_111 => ?_
      refine Wc.seq fun _ hK_112 => ?_
      refine Wc.region ?_
      refine Wl.y (y_assign rfl) rfl ?_
      refine Wl.nil ?_
      refine Wq.next hK_112 ?_
      refine Wc.block ?_
      refine Wc.loop (X := Nat) (fun i => [(5, .bool true), (0, str a), (6, .slice A1 l1.length c1), (9, .slice A2 l2.length c2), (12, .slice A3 l3.length c3), (15, .int .i64 (i : Int))]) (fun i wr => i ≤ l3.length ∧ Below w.heap.size w wr ∧ Rd wr 3 A1 l1.length (l1.flatMap Tok.cells) ∧ Rd wr 3 A2 l2.length (l2.flatMap Tok.cells) ∧ Rd wr 3 A3 l3.length (l3.flatMap Tok.cells)) (fun i => l3.length - i) (0) ?_ ?_ ?_
      · exact Sub.cons' rfl (by first | rfl | exact int_eq (by omega)) (Sub.cons' rfl (by first | rfl | exact int_eq (by omega)) (Sub.cons' rfl (by first | rfl | exact int_eq (by omega)) (Sub.cons' rfl (by first | rfl | exact int_eq (by omega)) (Sub.cons' rfl (by first | rfl | exact int_eq (by omega)) (Sub.cons' rfl (by first | rfl | exact int_eq (by omega)) (Sub.nil))))))
      · exact ⟨by omega, hb, hR1, hR2, hR3⟩
      ·
       rintro i wr hI_115 _ hL_114
       replace hI_115 : i ≤ l3.length ∧ Below w.heap.size w wr ∧ Rd wr 3 A1 l1.length (l1.flatMap Tok.cells) ∧ Rd wr 3 A2 l2.length (l2.flatMap Tok.cells) ∧ Rd wr 3 A3 l3.length (l3.flatMap Tok.cells) := hI_115
       obtain ⟨hi, hb, hR1, hR2, hR3⟩ := hI_115
       show Wc _ _ _ _ _ [(5, .bool true), (0, str a), (6, .slice A1 l1.length c1), (9, .slice A2 l2.length c2), (12, .slice A3 l3.length c3), (15, .int .i64 (i : Int))] _
       have hX := hX_hb.below hb
       try have hzhb_L0 := hb.size
       refine Wc.seq fun _ hK_116 => ?_
       refine Wc.seq fun _ hK_117 => ?_
       refine Wc.region ?_
       refine Wl.y (y_move rfl) rfl ?_
       refine Wl.y (y_move rfl) rfl ?_
       refine Wl.y (y_lenl Tryz.underlying39 (by omega) rfl) rfl ?_
       refine Wl.y (y_lssi rfl rfl) rfl ?_
       refine Wl.nil ?_
       refine Wq.next hK_117 ?_
       refine Wc.cond rfl (fun c3_122 => ?_) (fun c3_122 => ?_)
       ·
        try simp only [decide_eq_true_eq, decide_eq_false_iff_not, beq_iff_eq, beq_eq_false_iff_ne, bne_iff_ne, bne_eq_false_iff_eq, Bool.not_eq_true', Bool.not_eq_false', Bool.not_eq_eq_eq_not, Bool.not_true, Bool.not_false, ne_eq, Int.not_lt, Int.not_le] at c3_122
        have hil : i < l3.length := by have := c3_122; omega
        obtain ⟨p3, hp3, hc3_⟩ := Rd.tok hR3 hil
        subst hp3
        refine Wc.skip ?_
        refine Wq.next hK_116 ?_
        refine Wc.seq fun _ hK_123 => ?_
        refine Wc.block ?_
        refine Wc.seq fun _ hK_124 => ?_
        refine Wc.seq fun _ hK_125 => ?_
        have hb2 := Below.refl wr.heap.size wr
        have hR1_hb2 := hR1
        have hR2_hb2 := hR2
        have hR3_hb2 := hR3
        refine Wc.meet (X := Unit) (fun u_ => [(5, .bool true), (0, str a), (6, .slice A1 l1.length c1), (9, .slice A2 l2.length c2), (12, .slice (some p3) l3.length c3), (15, .int .i64 (i : Int)), (108, .bool false)]) (fun u_ wr => Below w.heap.size w wr ∧ Rd wr 3 A1 l1.length (l1.flatMap Tok.cells) ∧ Rd wr 3 A2 l2.length (l2.flatMap Tok.cells) ∧ Rd wr 3 (some p3) l3.length (l3.flatMap Tok.cells)) (fun _ hM_126 => ?_) ?_
        ·
         refine Wc.any (n := 15) (fun w' => Below wr.heap.size wr w') #[false, false, false, false, false, false, false, false, false, false, false, false, false, false, false] (by kernel_rfl) rfl (by kernel_rfl) ?_
         refine Wa.drew ?_
         rintro w_g15 hs_g15
         have hz_g15 := hs_g15.size
         have hb := hb.trans (hs_g15.mono hb.size)
         have hX := hX_hb.below hb
         have hb2 := hb2.trans (hs_g15.mono hb2.size)
         have hR1 := hR1_hb2.below hb2
         have hR2 := hR2_hb2.below hb2
         have hR3 := hR3_hb2.below hb2
         refine Wa.take (i := 0) #[true, false, false, false, false, false, false, false, false, false, false, false, false, false, false] rfl (by kernel_rfl) (fun _ _ _ h => h) rfl (fun wq hq => Yl.ld (y_move rfl)) hb2 ?_
         refine Wa.take (i := 1) #[true, true, false, false, false, false, false, false, false, false, false, false, false, false, false] rfl (by kernel_rfl) (fun _ _ _ h => h) rfl (fun wq hq => Yl.ld (y_move rfl)) hb2 ?_
         refine Wa.take (i := 2) #[true, true, true, false, false, false, false, false, false, false, false, false, false, false, false] rfl (by kernel_rfl) (fun _ _ _ h => h) rfl (fun wq hq => Yl.ld (y_lenl Tryz.underlying39 (by omega) rfl)) hb2 ?_
         refine Wa.take (i := 3) #[true, true, true, true, false, false, false, false, false, false, false, false, false, false, false] rfl (by kernel_rfl) (fun _ _ _ h => h) rfl (fun wq hq => Yl.ld (y_lssi rfl rfl)) hb2 ?_
         refine Wa.take (i := 4) #[true, true, true, true, true, false, false, false, false, false, false, false, false, false, false] rfl (by kernel_rfl) (fun _ _ _ h => h) rfl (fun wq hq => Yl.ld (y_move rfl)) hb2 ?_
         refine Wa.split (s := 98) rfl (fun g_132 => ?_) (fun g_132 => ?_)
         ·
          have g_132_ := g_132
          try simp only [decide_eq_true_eq, decide_eq_false_iff_not, beq_iff_eq, beq_eq_false_iff_ne, bne_iff_ne, bne_eq_false_iff_eq, Bool.not_eq_true', Bool.not_eq_false', Bool.not_eq_eq_eq_not, Bool.not_true, Bool.not_false, ne_eq, Int.not_lt, Int.not_le] at g_132
          have hil1 : i < l1.length := by have := g_132; omega
          obtain ⟨p1, hp1, hc1_⟩ := Rd.tok hR1_hb2 hil1
          subst hp1
          have heq1 : l3[i] = l1[i] := by subst hl3e; exact List.getElem_append_left hil1
          refine Wa.takeOn (i := 5) #[true, true, true, true, true, true, false, false, false, false, false, false, false, false, false] rfl rfl rfl g_132_ (by kernel_rfl) (fun _ _ _ h => h) rfl (fun wq hq => Yl.ld (y_move rfl)) hb2 ?_
          refine Wa.takeOn (i := 6) #[true, true, true, true, true, true, true, false, false, false, false, false, false, false, false] rfl rfl rfl g_132_ (by kernel_rfl) (fun _ _ _ h => h) rfl (fun wq hq => Yl.ld (y_move rfl)) hb2 ?_
          refine Wa.takeOn (i := 7) #[true, true, true, true, true, true, true, true, false, false, false, false, false, false, false] rfl rfl rfl g_132_ (by kernel_rfl) (fun _ _ _ h => h) rfl (fun wq hq => Yl.ld (y_indexAddr Tryz.underlying39 sz49LawJ rfl rfl (by omega) (by omega))) hb2 ?_
          refine Wa.takeOn (i := 8) #[true, true, true, true, true, true, true, true, true, false, false, false, false, false, false] rfl rfl rfl g_132_ (by kernel_rfl) (fun _ _ _ h => h) rfl (fun wq hq => l_loadS Tryz.underlying49 (by kernel_rfl) rfl (by have hR1 := hR1_hb2.below hq; have hR2 := hR2_hb2.below hq; have hR3 := hR3_hb2.below hq; exact fun j u hu => cell_below hq (hc3_ j u hu))) hb2 ?_
          refine Wa.takeOn (i := 9) #[true, true, true, true, true, true, true, true, true, true, false, false, false, false, false] rfl rfl rfl g_132_ (by kernel_rfl) (fun _ _ _ h => h) rfl (fun wq hq => Yl.ld (y_move rfl)) hb2 ?_
          refine Wa.takeOn (i := 10) #[true, true, true, true, true, true, true, true, true, true, true, false, false, false, false] rfl rfl rfl g_132_ (by kernel_rfl) (fun _ _ _ h => h) rfl (fun wq hq => Yl.ld (y_move rfl)) hb2 ?_
          refine Wa.takeOn (i := 11) #[true, true, true, true, true, true, true, true, true, true, true, true, false, false, false] rfl rfl rfl g_132_ (by kernel_rfl) (fun _ _ _ h => h) rfl (fun wq hq => Yl.ld (y_indexAddr Tryz.underlying39 sz49LawJ rfl rfl (by omega) (by omega))) hb2 ?_
          refine Wa.takeOn (i := 12) #[true, true, true, true, true, true, true, true, true, true, true, true, true, false, false] rfl rfl rfl g_132_ (by kernel_rfl) (fun _ _ _ h => h) rfl (fun wq hq => l_loadS Tryz.underlying49 (by kernel_rfl) rfl (by have hR1 := hR1_hb2.below hq; have hR2 := hR2_hb2.below hq; have hR3 := hR3_hb2.below hq; exact fun j u hu => cell_below hq (hc1_ j u hu))) hb2 ?_
          refine Wa.takeOn (i := 13) #[true, true, true, true, true, true, true, true, true, true, true, true, true, true, false] rfl rfl rfl g_132_ (by kernel_rfl) (fun _ _ _ h => h) rfl (fun wq hq => Yl.ld (y_neqS (by kernel_rfl) rfl rfl (EqIs.struct Tryz.underlying49 (by kernel_rfl) (FieldsIs.one rfl one3LawJ rfl rfl (EqIs.int Tryz.underlying3) (FieldsIs.one rfl one9LawJ rfl rfl (EqIs.str Tryz.underlying9) (FieldsIs.one rfl one3LawJ rfl rfl (EqIs.int Tryz.underlying3) FieldsIs.nil)))))) hb2 ?_
          refine Wa.take (i := 14) #[true, true, true, true, true, true, true, true, true, true, true, true, true, true, true] rfl (by kernel_rfl) (fun _ _ _ h => h) rfl (fun wq hq => Yl.ld (y_pickT rfl g_132_ rfl)) hb2 ?_
          refine Wa.done (by kernel_rfl) ?_
          refine Wq.meet hM_126 (()) (Sub.cons' rfl (by first | rfl | exact bool_eq (by simp [heq1])) (Sub.cons' rfl (by first | rfl | exact bool_eq (by simp [heq1])) (Sub.cons' rfl (by first | rfl | exact bool_eq (by simp [heq1])) (Sub.cons' rfl (by first | rfl | exact bool_eq (by simp [heq1])) (Sub.cons' rfl (by first | rfl | exact bool_eq (by simp [heq1])) (Sub.cons' rfl (by first | rfl | exact bool_eq (by simp [heq1])) (Sub.cons' rfl (by first | rfl | exact bool_eq (by simp [heq1])) (Sub.nil)))))))) ?_
          exact ⟨hb, hR1, hR2, hR3⟩
         ·
          have g_132_ := g_132
          refine Wa.takeOff (i := 5) #[true, true, true, true, true, true, false, false, false, false, false, false, false, false, false] rfl rfl rfl g_132_ (by kernel_rfl) (fun _ _ _ h => h) rfl hb2 ?_
          refine Wa.takeOff (i := 6) #[true, true, true, true, true, true, true, false, false, false, false, false, false, false, false] rfl rfl rfl g_132_ (by kernel_rfl) (fun _ _ _ h => h) rfl hb2 ?_
          refine Wa.takeOff (i := 7) #[true, true, true, true, true, true, true, true, false, false, false, false, false, false, false] rfl rfl rfl g_132_ (by kernel_rfl) (fun _ _ _ h => h) rfl hb2 ?_
          refine Wa.takeOff (i := 8) #[true, true, true, true, true, true, true, true, true, false, false, false, false, false, false] rfl rfl rfl g_132_ (by kernel_rfl) (fun _ _ _ h => h) rfl hb2 ?_
          refine Wa.takeOff (i := 9) #[true, true, true, true, true, true, true, true, true, true, false, false, false, false, false] rfl rfl rfl g_132_ (by kernel_rfl) (fun _ _ _ h => h) rfl hb2 ?_
          refine Wa.takeOff (i := 10) #[true, true, true, true, true, true, true, true, true, true, true, false, false, false, false] rfl rfl rfl g_132_ (by kernel_rfl) (fun _ _ _ h => h) rfl hb2 ?_
          refine Wa.takeOff (i := 11) #[true, true, true, true, true, true, true, true, true, true, true, true, false, false, false] rfl rfl rfl g_132_ (by kernel_rfl) (fun _ _ _ h => h) rfl hb2 ?_
          refine Wa.takeOff (i := 12) #[true, true, true, true, true, true, true, true, true, true, true, true, true, false, false] rfl rfl rfl g_132_ (by kernel_rfl) (fun _ _ _ h => h) rfl hb2 ?_
          refine Wa.takeOff (i := 13) #[true, true, true, true, true, true, true, true, true, true, true, true, true, true, false] rfl rfl rfl g_132_ (by kernel_rfl) (fun _ _ _ h => h) rfl hb2 ?_
          refine Wa.take (i := 14) #[true, true, true, true, true, true, true, true, true, true, true, true, true, true, true] rfl (by kernel_rfl) (fun _ _ _ h => h) rfl (fun wq hq => Yl.ld (y_pickF rfl g_132_ rfl)) hb2 ?_
          refine Wa.done (by kernel_rfl) ?_
          refine Wq.meet hM_126 (()) (Sub.cons' rfl (by first | rfl | exact bool_eq (by simp [heq1])) (Sub.cons' rfl (by first | rfl | exact bool_eq (by simp [heq1])) (Sub.cons' rfl (by first | rfl | exact bool_eq (by simp [heq1])) (Sub.cons' rfl (by first | rfl | exact bool_eq (by simp [heq1])) (Sub.cons' rfl (by first | rfl | exact bool_eq (by simp [heq1])) (Sub.cons' rfl (by first | rfl | exact bool_eq (by simp [heq1])) (Sub.cons' rfl (by first | rfl | exact bool_eq (by simp [heq1])) (Sub.nil)))))))) ?_
          exact ⟨hb, hR1, hR2, hR3⟩
        ·
         rintro u_ wr hI_144
         replace hI_144 : Below w.heap.size w wr ∧ Rd wr 3 A1 l1.length (l1.flatMap Tok.cells) ∧ Rd wr 3 A2 l2.length (l2.flatMap Tok.cells) ∧ Rd wr 3 (some p3) l3.length (l3.flatMap Tok.cells) := hI_144
         obtain ⟨hb, hR1, hR2, hR3⟩ := hI_144
         show Wq _ _ _ _ [(5, .bool true), (0, str a), (6, .slice A1 l1.length c1), (9, .slice A2 l2.length c2), (12, .slice (some p3) l3.length c3), (15, .int .i64 (i : Int)), (108, .bool false)] _
         have hX := hX_hb.below hb
         try have hzhb_g15 := hb.size
         refine Wq.next hK_125 ?_
         refine Wc.cond rfl (fun c4_145 => ?_) (fun c4_145 => ?_)
         ·
          have c4_145_ := c4_145
          cases c4_145_
         ·
          refine Wc.skip ?_
          refine Wq.next hK_124 ?_
          refine Wc.seq fun _ hK_146 => ?_
          have hb3 := Below.refl wr.heap.size wr
          have hR1_hb3 := hR1
          have hR2_hb3 := hR2
          have hR3_hb3 := hR3
          refine Wc.meet (X := Unit) (fun u_ => [(5, .bool true), (0, str a), (6, .slice A1 l1.length c1), (9, .slice A2 l2.length c2), (12, .slice (some p3) l3.length c3), (15, .int .i64 (i : Int)), (164, .bool false)]) (fun u_ wr => Below w.heap.size w wr ∧ Rd wr 3 A1 l1.length (l1.flatMap Tok.cells) ∧ Rd wr 3 A2 l2.length (l2.flatMap Tok.cells) ∧ Rd wr 3 (some p3) l3.length (l3.flatMap Tok.cells)) (fun _ hM_147 => ?_) ?_
          ·
           refine Wc.any (n := 56) (fun w' => Below wr.heap.size wr w') #[false, false, false, false, false, false, false, false, false, false, false, false, false, false, false, false, false, false, false, false, false, false, false, false, false, false, false, false, false, false, false, false, false, false, false, false, false, false, false, false, false, false, false, false, false, false, false, false, false, false, false, false, false, false, false, false] (by kernel_rfl) rfl (by kernel_rfl) ?_
           refine Wa.drew ?_
           rintro w_g17 hs_g17
           have hz_g17 := hs_g17.size
           have hb := hb.trans (hs_g17.mono hb.size)
           have hX := hX_hb.below hb
           have hb3 := hb3.trans (hs_g17.mono hb3.size)
           have hR1 := hR1_hb3.below hb3
           have hR2 := hR2_hb3.below hb3
           have hR3 := hR3_hb3.below hb3
           refine Wa.take (i := 0) #[true, false, false, false, false, false, false, false, false, false, false, false, false, false, false, false, false, false, false, false, false, false, false, false, false, false, false, false, false, false, false, false, false, false, false, false, false, false, false, false, false, false, false, false, false, false, false, false, false, false, false, false, false, false, false, false] rfl (by kernel_rfl) (fun _ _ _ h => h) rfl (fun wq hq => Yl.ld (y_move rfl)) hb3 ?_
           refine Wa.take (i := 1) #[true, true, false, false, false, false, false, false, false, false, false, false, false, false, false, false, false, false, false, false, false, false, false, false, false, false, false, false, false, false, false, false, false, false, false, false, false, false, false, false, false, false, false, false, false, false, false, false, false, false, false, false, false, false, false, false] rfl (by kernel_rfl) (fun _ _ _ h => h) rfl (fun wq hq => Yl.ld (y_move rfl)) hb3 ?_
           refine Wa.take (i := 2) #[true, true, true, false, false, false, false, false, false, false, false, false, false, false, false, false, false, false, false, false, false, false, false, false, false, false, false, false, false, false, false, false, false, false, false, false, false, false, false, false, false, false, false, false, false, false, false, false, false, false, false, false, false, false, false, false] rfl (by kernel_rfl) (fun _ _ _ h => h) rfl (fun wq hq => Yl.ld (y_lenl Tryz.underlying39 (by omega) rfl)) hb3 ?_
           refine Wa.take (i := 3) #[true, true, true, true, false, false, false, false, false, false, false, false, false, false, false, false, false, false, false, false, false, false, false, false, false, false, false, false, false, false, false, false, false, false, false, false, false, false, false, false, false, false, false, false, false, false, false, false, false, false, false, false, false, false, false, false] rfl (by kernel_rfl) (fun _ _ _ h => h) rfl (fun wq hq => Yl.ld (y_geqi rfl rfl)) hb3 ?_
           refine Wa.take (i := 4) #[true, true, true, true, true, false, false, false, false, false, false, false, false, false, false, false, false, false, false, false, false, false, false, false, false, false, false, false, false, false, false, false, false, false, false, false, false, false, false, false, false, false, false, false, false, false, false, false, false, false, false, false, false, false, false, false] rfl (by kernel_rfl) (fun _ _ _ h => h) rfl (fun wq hq => Yl.ld (y_move rfl)) hb3 ?_
           refine Wa.split (s := 113) rfl (fun g_153 => ?_) (fun g_153 => ?_)
           ·
            have g_153_ := g_153
            try simp only [decide_eq_true_eq, decide_eq_false_iff_not, beq_iff_eq, beq_eq_false_iff_ne, bne_iff_ne, bne_eq_false_iff_eq, Bool.not_eq_true', Bool.not_eq_false', Bool.not_eq_eq_eq_not, Bool.not_true, Bool.not_false, ne_eq, Int.not_lt, Int.not_le] at g_153
            have hge : l1.length ≤ i := by have := g_153; omega
            obtain ⟨n, hn⟩ : ∃ n, n = i - l1.length := ⟨_, rfl⟩
            have hin2 : n < l2.length := by omega
            have hat := (lexV_cut _ b 0 l2 n hin2 (Nat.le_refl _) hok2).2.1
            obtain ⟨p2, hp2, hc2_⟩ := Rd.tok hR2_hb3 hin2
            subst hp2
            obtain ⟨p3', hp3', hc3_⟩ := Rd.tok hR3_hb3 hil
            cases hp3'
            have heq2 : l3[i] = (l2[n]).up (a.length + 1) := by subst hl3e; subst hn; rw [List.getElem_append_right hge, List.getElem_map]
            refine Wa.takeOn (i := 5) #[true, true, true, true, true, true, false, false, false, false, false, false, false, false, false, false, false, false, false, false, false, false, false, false, false, false, false, false, false, false, false, false, false, false, false, false, false, false, false, false, false, false, false, false, false, false, false, false, false, false, false, false, false, false, false, false] rfl rfl rfl g_153_ (by kernel_rfl) (fun _ _ _ h => h) rfl (fun wq hq => Yl.ld (y_move rfl)) hb3 ?_
            refine Wa.takeOn (i := 6) #[true, true, true, true, true, true, true, false, false, false, false, false, false, false, false, false, false, false, false, false, false, false, false, false, false, false, false, false, false, false, false, false, false, false, false, false, false, false, false, false, false, false, false, false, false, false, false, false, false, false, false, false, false, false, false, false] rfl rfl rfl g_153_ (by kernel_rfl) (fun _ _ _ h => h) rfl (fun wq hq => Yl.ld (y_move rfl)) hb3 ?_
            refine Wa.takeOn (i := 7) #[true, true, true, true, true, true, true, true, false, false, false, false, false, false, false, false, false, false, false, false, false, false, false, false, false, false, false, false, false, false, false, false, false, false, false, false, false, false, false, false, false, false, false, false, false, false, false, false, false, false, false, false, false, false, false, false] rfl rfl rfl g_153_ (by kernel_rfl) (fun _ _ _ h => h) rfl (fun wq hq => Yl.ld (y_indexAddr Tryz.underlying39 sz49LawJ rfl rfl (by omega) (by omega))) hb3 ?_
            refine Wa.takeOn (i := 8) #[true, true, true, true, true, true, true, true, true, false, false, false, false, false, false, false, false, false, false, false, false, false, false, false, false, false, false, false, false, false, false, false, false, false, false, false, false, false, false, false, false, false, false, false, false, false, false, false, false, false, false, false, false, false, false, false] rfl rfl rfl g_153_ (by kernel_rfl) (fun _ _ _ h => h) rfl (fun wq hq => Yl.ld (y_fieldAddr (fa49_1LawJ _) rfl)) hb3 ?_
            refine Wa.takeOn (i := 9) #[true, true, true, true, true, true, true, true, true, true, false, false, false, false, false, false, false, false, false, false, false, false, false, false, false, false, false, false, false, false, false, false, false, false, false, false, false, false, false, false, false, false, false, false, false, false, false, false, false, false, false, false, false, false, false, false] rfl rfl rfl g_153_ (by kernel_rfl) (fun _ _ _ h => h) rfl (fun wq hq => l_load one9LawJ rfl (by have hR1 := hR1_hb3.below hq; have hR2 := hR2_hb3.below hq; have hR3 := hR3_hb3.below hq; exact at3 (cell_below hq (hc3_ 1 (str (l3[i]).t) rfl)))) hb3 ?_
            refine Wa.takeOn (i := 10) #[true, true, true, true, true, true, true, true, true, true, true, false, false, false, false, false, false, false, false, false, false, false, false, false, false, false, false, false, false, false, false, false, false, false, false, false, false, false, false, false, false, false, false, false, false, false, false, false, false, false, false, false, false, false, false, false] rfl rfl rfl g_153_ (by kernel_rfl) (fun _ _ _ h => h) rfl (fun wq hq => Yl.ld (y_move rfl)) hb3 ?_
            refine Wa.takeOn (i := 11) #[true, true, true, true, true, true, true, true, true, true, true, true, false, false, false, false, false, false, false, false, false, false, false, false, false, false, false, false, false, false, false, false, false, false, false, false, false, false, false, false, false, false, false, false, false, false, false, false, false, false, false, false, false, false, false, false] rfl rfl rfl g_153_ (by kernel_rfl) (fun _ _ _ h => h) rfl (fun wq hq => Yl.ld (y_move rfl)) hb3 ?_
            refine Wa.takeOn (i := 12) #[true, true, true, true, true, true, true, true, true, true, true, true, true, false, false, false, false, false, false, false, false, false, false, false, false, false, false, false, false, false, false, false, false, false, false, false, false, false, false, false, false, false, false, false, false, false, false, false, false, false, false, false, false, false, false, false] rfl rfl rfl g_153_ (by kernel_rfl) (fun _ _ _ h => h) rfl (fun wq hq => Yl.ld (y_move rfl)) hb3 ?_
            refine Wa.takeOn (i := 13) #[true, true, true, true, true, true, true, true, true, true, true, true, true, true, false, false, false, false, false, false, false, false, false, false, false, false, false, false, false, false, false, false, false, false, false, false, false, false, false, false, false, false, false, false, false, false, false, false, false, false, false, false, false, false, false, false] rfl rfl rfl g_153_ (by kernel_rfl) (fun _ _ _ h => h) rfl (fun wq hq => Yl.ld (y_lenl Tryz.underlying39 (by omega) rfl)) hb3 ?_
            refine Wa.takeOn (i := 14) #[true, true, true, true, true, true, true, true, true, true, true, true, true, true, true, false, false, false, false, false, false, false, false, false, false, false, false, false, false, false, false, false, false, false, false, false, false, false, false, false, false, false, false, false, false, false, false, false, false, false, false, false, false, false, false, false] rfl rfl rfl g_153_ (by kernel_rfl) (fun _ _ _ h => h) rfl (fun wq hq => Yl.ld (y_eq (y_subI rfl rfl (by first | omega | (simp; done) | (simp; omega)) (by first | omega | (simp; done) | (simp; omega))) (int_eq (show _ = (n : Int) by omega)))) hb3 ?_
            refine Wa.takeOn (i := 15) #[true, true, true, true, true, true, true, true, true, true, true, true, true, true, true, true, false, false, false, false, false, false, false, false, false, false, false, false, false, false, false, false, false, false, false, false, false, false, false, false, false, false, false, false, false, false, false, false, false, false, false, false, false, false, false, false] rfl rfl rfl g_153_ (by kernel_rfl) (fun _ _ _ h => h) rfl (fun wq hq => Yl.ld (y_indexAddr Tryz.underlying39 sz49LawJ rfl rfl (by omega) (by omega))) hb3 ?_
            refine Wa.takeOn (i := 16) #[true, true, true, true, true, true, true, true, true, true, true, true, true, true, true, true, true, false, false, false, false, false, false, false, false, false, false, false, false, false, false, false, false, false, false, false, false, false, false, false, false, false, false, false, false, false, false, false, false, false, false, false, false, false, false, false] rfl rfl rfl g_153_ (by kernel_rfl) (fun _ _ _ h => h) rfl (fun wq hq => Yl.ld (y_fieldAddr (fa49_1LawJ _) rfl)) hb3 ?_
            refine Wa.takeOn (i := 17) #[true, true, true, true, true, true, true, true, true, true, true, true, true, true, true, true, true, true, false, false, false, false, false, false, false, false, false, false, false, false, false, false, false, false, false, false, false, false, false, false, false, false, false, false, false, false, false, false, false, false, false, false, false, false, false, false] rfl rfl rfl g_153_ (by kernel_rfl) (fun _ _ _ h => h) rfl (fun wq hq => l_load one9LawJ rfl (by have hR1 := hR1_hb3.below hq; have hR2 := hR2_hb3.below hq; have hR3 := hR3_hb3.below hq; exact at3 (cell_below hq (hc2_ 1 (str (l2[n]).t) rfl)))) hb3 ?_
            refine Wa.takeOn (i := 18) #[true, true, true, true, true, true, true, true, true, true, true, true, true, true, true, true, true, true, true, false, false, false, false, false, false, false, false, false, false, false, false, false, false, false, false, false, false, false, false, false, false, false, false, false, false, false, false, false, false, false, false, false, false, false, false, false] rfl rfl rfl g_153_ (by kernel_rfl) (fun _ _ _ h => h) rfl (fun wq hq => Yl.ld (y_neqs rfl rfl)) hb3 ?_
            refine Wa.takeOn (i := 19) #[true, true, true, true, true, true, true, true, true, true, true, true, true, true, true, true, true, true, true, true, false, false, false, false, false, false, false, false, false, false, false, false, false, false, false, false, false, false, false, false, false, false, false, false, false, false, false, false, false, false, false, false, false, false, false, false] rfl rfl rfl g_153_ (by kernel_rfl) (fun _ _ _ h => h) rfl (fun wq hq => Yl.ld (y_move rfl)) hb3 ?_
            refine Wa.split (s := 128) rfl (fun g_169 => ?_) (fun g_169 => ?_)
            ·
             have g_169_ := g_169
             exact absurd g_169_ (by rw [heq2]; simp [Tok.up])
            ·
             have g_169_ := g_169
             refine Wa.takeOn (i := 20) #[true, true, true, true, true, true, true, true, true, true, true, true, true, true, true, true, true, true, true, true, true, false, false, false, false, false, false, false, false, false, false, false, false, false, false, false, false, false, false, false, false, false, false, false, false, false, false, false, false, false, false, false, false, false, false, false] rfl rfl rfl g_169_ (by kernel_rfl) (fun _ _ _ h => h) rfl (fun wq hq => Yl.ld (y_move rfl)) hb3 ?_
             refine Wa.takeOn (i := 21) #[true, true, true, true, true, true, true, true, true, true, true, true, true, true, true, true, true, true, true, true, true, true, false, false, false, false, false, false, false, false, false, false, false, false, false, false, false, false, false, false, false, false, false, false, false, false, false, false, false, false, false, false, false, false, false, false] rfl rfl rfl g_169_ (by kernel_rfl) (fun _ _ _ h => h) rfl (fun wq hq => Yl.ld (y_move rfl)) hb3 ?_
             refine Wa.takeOn (i := 22) #[true, true, true, true, true, true, true, true, true, true, true, true, true, true, true, true, true, true, true, true, true, true, true, false, false, false, false, false, false, false, false, false, false, false, false, false, false, false, false, false, false, false, false, false, false, false, false, false, false, false, false, false, false, false, false, false] rfl rfl rfl g_169_ (by kernel_rfl) (fun _ _ _ h => h) rfl (fun wq hq => Yl.ld (y_indexAddr Tryz.underlying39 sz49LawJ rfl rfl (by omega) (by omega))) hb3 ?_
             refine Wa.takeOn (i := 23) #[true, true, true, true, true, true, true, true, true, true, true, true, true, true, true, true, true, true, true, true, true, true, true, true, false, false, false, false, false, false, false, false, false, false, false, false, false, false, false, false, false, false, false, false, false, false, false, false, false, false, false, false, false, false, false, false] rfl rfl rfl g_169_ (by kernel_rfl) (fun _ _ _ h => h) rfl (fun wq hq => Yl.ld (y_fieldAddr (fa49_0LawJ _) rfl)) hb3 ?_
             refine Wa.takeOn (i := 24) #[true, true, true, true, true, true, true, true, true, true, true, true, true, true, true, true, true, true, true, true, true, true, true, true, true, false, false, false, false, false, false, false, false, false, false, false, false, false, false, false, false, false, false, false, false, false, false, false, false, false, false, false, false, false, false, false] rfl rfl rfl g_169_ (by kernel_rfl) (fun _ _ _ h => h) rfl (fun wq hq => l_load one3LawJ rfl (by have hR1 := hR1_hb3.below hq; have hR2 := hR2_hb3.below hq; have hR3 := hR3_hb3.below hq; exact at3 (cell_below hq (hc3_ 0 (.int .i64 ((l3[i]).k : Int)) rfl)))) hb3 ?_
             refine Wa.takeOn (i := 25) #[true, true, true, true, true, true, true, true, true, true, true, true, true, true, true, true, true, true, true, true, true, true, true, true, true, true, false, false, false, false, false, false, false, false, false, false, false, false, false, false, false, false, false, false, false, false, false, false, false, false, false, false, false, false, false, false] rfl rfl rfl g_169_ (by kernel_rfl) (fun _ _ _ h => h) rfl (fun wq hq => Yl.ld (y_move rfl)) hb3 ?_
             refine Wa.takeOn (i := 26) #[true, true, true, true, true, true, true, true, true, true, true, true, true, true, true, true, true, true, true, true, true, true, true, true, true, true, true, false, false, false, false, false, false, false, false, false, false, false, false, false, false, false, false, false, false, false, false, false, false, false, false, false, false, false, false, false] rfl rfl rfl g_169_ (by kernel_rfl) (fun _ _ _ h => h) rfl (fun wq hq => Yl.ld (y_move rfl)) hb3 ?_
             refine Wa.takeOn (i := 27) #[true, true, true, true, true, true, true, true, true, true, true, true, true, true, true, true, true, true, true, true, true, true, true, true, true, true, true, true, false, false, false, false, false, false, false, false, false, false, false, false, false, false, false, false, false, false, false, false, false, false, false, false, false, false, false, false] rfl rfl rfl g_169_ (by kernel_rfl) (fun _ _ _ h => h) rfl (fun wq hq => Yl.ld (y_move rfl)) hb3 ?_
             refine Wa.takeOn (i := 28) #[true, true, true, true, true, true, true, true, true, true, true, true, true, true, true, true, true, true, true, true, true, true, true, true, true, true, true, true, true, false, false, false, false, false, false, false, false, false, false, false, false, false, false, false, false, false, false, false, false, false, false, false, false, false, false, false] rfl rfl rfl g_169_ (by kernel_rfl) (fun _ _ _ h => h) rfl (fun wq hq => Yl.ld (y_lenl Tryz.underlying39 (by omega) rfl)) hb3 ?_
             refine Wa.takeOn (i := 29) #[true, true, true, true, true, true, true, true, true, true, true, true, true, true, true, true, true, true, true, true, true, true, true, true, true, true, true, true, true, true, false, false, false, false, false, false, false, false, false, false, false, false, false, false, false, false, false, false, false, false, false, false, false, false, false, false] rfl rfl rfl g_169_ (by kernel_rfl) (fun _ _ _ h => h) rfl (fun wq hq => Yl.ld (y_eq (y_subI rfl rfl (by first | omega | (simp; done) | (simp; omega)) (by first | omega | (simp; done) | (simp; omega))) (int_eq (show _ = (n : Int) by omega)))) hb3 ?_
             refine Wa.takeOn (i := 30) #[true, true, true, true, true, true, true, true, true, true, true, true, true, true, true, true, true, true, true, true, true, true, true, true, true, true, true, true, true, true, true, false, false, false, false, false, false, false, false, false, false, false, false, false, false, false, false, false, false, false, false, false, false, false, false, false] rfl rfl rfl g_169_ (by kernel_rfl) (fun _ _ _ h => h) rfl (fun wq hq => Yl.ld (y_indexAddr Tryz.underlying39 sz49LawJ rfl rfl (by omega) (by omega))) hb3 ?_
             refine Wa.takeOn (i := 31) #[true, true, true, true, true, true, true, true, true, true, true, true, true, true, true, true, true, true, true, true, true, true, true, true, true, true, true, true, true, true, true, true, false, false, false, false, false, false, false, false, false, false, false, false, false, false, false, false, false, false, false, false, false, false, false, false] rfl rfl rfl g_169_ (by kernel_rfl) (fun _ _ _ h => h) rfl (fun wq hq => Yl.ld (y_fieldAddr (fa49_0LawJ _) rfl)) hb3 ?_
             refine Wa.takeOn (i := 32) #[true, true, true, true, true, true, true, true, true, true, true, true, true, true, true, true, true, true, true, true, true, true, true, true, true, true, true, true, true, true, true, true, true, false, false, false, false, false, false, false, false, false, false, false, false, false, false, false, false, false, false, false, false, false, false, false] rfl rfl rfl g_169_ (by kernel_rfl) (fun _ _ _ h => h) rfl (fun wq hq => l_load one3LawJ rfl (by have hR1 := hR1_hb3.below hq; have hR2 := hR2_hb3.below hq; have hR3 := hR3_hb3.below hq; exact at3 (cell_below hq (hc2_ 0 (.int .i64 ((l2[n]).k : Int)) rfl)))) hb3 ?_
             refine Wa.takeOn (i := 33) #[true, true, true, true, true, true, true, true, true, true, true, true, true, true, true, true, true, true, true, true, true, true, true, true, true, true, true, true, true, true, true, true, true, true, false, false, false, false, false, false, false, false, false, false, false, false, false, false, false, false, false, false, false, false, false, false] rfl rfl rfl g_169_ (by kernel_rfl) (fun _ _ _ h => h) rfl (fun wq hq => Yl.ld (y_neqi rfl rfl)) hb3 ?_
             refine Wa.takeOn (i := 34) #[true, true, true, true, true, true, true, true, true, true, true, true, true, true, true, true, true, true, true, true, true, true, true, true, true, true, true, true, true, true, true, true, true, true, true, false, false, false, false, false, false, false, false, false, false, false, false, false, false, false, false, false, false, false, false, false] rfl rfl rfl g_153_ (by kernel_rfl) (fun _ _ _ h => h) rfl (fun wq hq => Yl.ld (y_pickF rfl g_169_ rfl)) hb3 ?_
             refine Wa.takeOn (i := 35) #[true, true, true, true, true, true, true, true, true, true, true, true, true, true, true, true, true, true, true, true, true, true, true, true, true, true, true, true, true, true, true, true, true, true, true, true, false, false, false, false, false, false, false, false, false, false, false, false, false, false, false, false, false, false, false, false] rfl rfl rfl g_153_ (by kernel_rfl) (fun _ _ _ h => h) rfl (fun wq hq => Yl.ld (y_move rfl)) hb3 ?_
             refine Wa.split (s := 144) rfl (fun g_186 => ?_) (fun g_186 => ?_)
             ·
              have g_186_ := g_186
              exact absurd g_186_ (by rw [heq2]; simp [Tok.up])
             ·
              have g_186_ := g_186
              refine Wa.takeOn (i := 36) #[true, true, true, true, true, true, true, true, true, true, true, true, true, true, true, true, true, true, true, true, true, true, true, true, true, true, true, true, true, true, true, true, true, true, true, true, true, false, false, false, false, false, false, false, false, false, false, false, false, false, false, false, false, false, false, false] rfl rfl rfl g_186_ (by kernel_rfl) (fun _ _ _ h => h) rfl (fun wq hq => Yl.ld (y_move rfl)) hb3 ?_
              refine Wa.takeOn (i := 37) #[true, true, true, true, true, true, true, true, true, true, true, true, true, true, true, true, true, true, true, true, true, true, true, true, true, true, true, true, true, true, true, true, true, true, true, true, true, true, false, false, false, false, false, false, false, false, false, false, false, false, false, false, false, false, false, false] rfl rfl rfl g_186_ (by kernel_rfl) (fun _ _ _ h => h) rfl (fun wq hq => Yl.ld (y_move rfl)) hb3 ?_
              refine Wa.takeOn (i := 38) #[true, true, true, true, true, true, true, true, true, true, true, true, true, true, true, true, true, true, true, true, true, true, true, true, true, true, true, true, true, true, true, true, true, true, true, true, true, true, true, false, false, false, false, false, false, false, false, false, false, false, false, false, false, false, false, false] rfl rfl rfl g_186_ (by kernel_rfl) (fun _ _ _ h => h) rfl (fun wq hq => Yl.ld (y_indexAddr Tryz.underlying39 sz49LawJ rfl rfl (by omega) (by omega))) hb3 ?_
              refine Wa.takeOn (i := 39) #[true, true, true, true, true, true, true, true, true, true, true, true, true, true, true, true, true, true, true, true, true, true, true, true, true, true, true, true, true, true, true, true, true, true, true, true, true, true, true, true, false, false, false, false, false, false, false, false, false, false, false, false, false, false, false, false] rfl rfl rfl g_186_ (by kernel_rfl) (fun _ _ _ h => h) rfl (fun wq hq => Yl.ld (y_fieldAddr (fa49_2LawJ _) rfl)) hb3 ?_
              refine Wa.takeOn (i := 40) #[true, true, true, true, true, true, true, true, true, true, true, true, true, true, true, true, true, true, true, true, true, true, true, true, true, true, true, true, true, true, true, true, true, true, true, true, true, true, true, true, true, false, false, false, false, false, false, false, false, false, false, false, false, false, false, false] rfl rfl rfl g_186_ (by kernel_rfl) (fun _ _ _ h => h) rfl (fun wq hq => l_load one3LawJ rfl (by have hR1 := hR1_hb3.below hq; have hR2 := hR2_hb3.below hq; have hR3 := hR3_hb3.below hq; exact at3 (cell_below hq (hc3_ 2 (.int .i64 ((l3[i]).a : Int)) rfl)))) hb3 ?_
              refine Wa.takeOn (i := 41) #[true, true, true, true, true, true, true, true, true, true, true, true, true, true, true, true, true, true, true, true, true, true, true, true, true, true, true, true, true, true, true, true, true, true, true, true, true, true, true, true, true, true, false, false, false, false, false, false, false, false, false, false, false, false, false, false] rfl rfl rfl g_186_ (by kernel_rfl) (fun _ _ _ h => h) rfl (fun wq hq => Yl.ld (y_move rfl)) hb3 ?_
              refine Wa.takeOn (i := 42) #[true, true, true, true, true, true, true, true, true, true, true, true, true, true, true, true, true, true, true, true, true, true, true, true, true, true, true, true, true, true, true, true, true, true, true, true, true, true, true, true, true, true, true, false, false, false, false, false, false, false, false, false, false, false, false, false] rfl rfl rfl g_186_ (by kernel_rfl) (fun _ _ _ h => h) rfl (fun wq hq => Yl.ld (y_move rfl)) hb3 ?_
              refine Wa.takeOn (i := 43) #[true, true, true, true, true, true, true, true, true, true, true, true, true, true, true, true, true, true, true, true, true, true, true, true, true, true, true, true, true, true, true, true, true, true, true, true, true, true, true, true, true, true, true, true, false, false, false, false, false, false, false, false, false, false, false, false] rfl rfl rfl g_186_ (by kernel_rfl) (fun _ _ _ h => h) rfl (fun wq hq => Yl.ld (y_move rfl)) hb3 ?_
              refine Wa.takeOn (i := 44) #[true, true, true, true, true, true, true, true, true, true, true, true, true, true, true, true, true, true, true, true, true, true, true, true, true, true, true, true, true, true, true, true, true, true, true, true, true, true, true, true, true, true, true, true, true, false, false, false, false, false, false, false, false, false, false, false] rfl rfl rfl g_186_ (by kernel_rfl) (fun _ _ _ h => h) rfl (fun wq hq => Yl.ld (y_lenl Tryz.underlying39 (by omega) rfl)) hb3 ?_
              refine Wa.takeOn (i := 45) #[true, true, true, true, true, true, true, true, true, true, true, true, true, true, true, true, true, true, true, true, true, true, true, true, true, true, true, true, true, true, true, true, true, true, true, true, true, true, true, true, true, true, true, true, true, true, false, false, false, false, false, false, false, false, false, false] rfl rfl rfl g_186_ (by kernel_rfl) (fun _ _ _ h => h) rfl (fun wq hq => Yl.ld (y_eq (y_subI rfl rfl (by first | omega | (simp; done) | (simp; omega)) (by first | omega | (simp; done) | (simp; omega))) (int_eq (show _ = (n : Int) by omega)))) hb3 ?_
              refine Wa.takeOn (i := 46) #[true, true, true, true, true, true, true, true, true, true, true, true, true, true, true, true, true, true, true, true, true, true, true, true, true, true, true, true, true, true, true, true, true, true, true, true, true, true, true, true, true, true, true, true, true, true, true, false, false, false, false, false, false, false, false, false] rfl rfl rfl g_186_ (by kernel_rfl) (fun _ _ _ h => h) rfl (fun wq hq => Yl.ld (y_indexAddr Tryz.underlying39 sz49LawJ rfl rfl (by omega) (by omega))) hb3 ?_
              refine Wa.takeOn (i := 47) #[true, true, true, true, true, true, true, true, true, true, true, true, true, true, true, true, true, true, true, true, true, true, true, true, true, true, true, true, true, true, true, true, true, true, true, true, true, true, true, true, true, true, true, true, true, true, true, true, false, false, false, false, false, false, false, false] rfl rfl rfl g_186_ (by kernel_rfl) (fun _ _ _ h => h) rfl (fun wq hq => Yl.ld (y_fieldAddr (fa49_2LawJ _) rfl)) hb3 ?_
              refine Wa.takeOn (i := 48) #[true, true, true, true, true, true, true, true, true, true, true, true, true, true, true, true, true, true, true, true, true, true, true, true, true, true, true, true, true, true, true, true, true, true, true, true, true, true, true, true, true, true, true, true, true, true, true, true, true, false, false, false, false, false, false, false] rfl rfl rfl g_186_ (by kernel_rfl) (fun _ _ _ h => h) rfl (fun wq hq => l_load one3LawJ rfl (by have hR1 := hR1_hb3.below hq; have hR2 := hR2_hb3.below hq; have hR3 := hR3_hb3.below hq; exact at3 (cell_below hq (hc2_ 2 (.int .i64 ((l2[n]).a : Int)) rfl)))) hb3 ?_
              refine Wa.takeOn (i := 49) #[true, true, true, true, true, true, true, true, true, true, true, true, true, true, true, true, true, true, true, true, true, true, true, true, true, true, true, true, true, true, true, true, true, true, true, true, true, true, true, true, true, true, true, true, true, true, true, true, true, true, false, false, false, false, false, false] rfl rfl rfl g_186_ (by kernel_rfl) (fun _ _ _ h => h) rfl (fun wq hq => Yl.ld (y_move rfl)) hb3 ?_
              refine Wa.takeOn (i := 50) #[true, true, true, true, true, true, true, true, true, true, true, true, true, true, true, true, true, true, true, true, true, true, true, true, true, true, true, true, true, true, true, true, true, true, true, true, true, true, true, true, true, true, true, true, true, true, true, true, true, true, true, false, false, false, false, false] rfl rfl rfl g_186_ (by kernel_rfl) (fun _ _ _ h => h) rfl (fun wq hq => Yl.ld (y_lens Tryz.underlying9 (by omega) rfl)) hb3 ?_
              refine Wa.takeOn (i := 51) #[true, true, true, true, true, true, true, true, true, true, true, true, true, true, true, true, true, true, true, true, true, true, true, true, true, true, true, true, true, true, true, true, true, true, true, true, true, true, true, true, true, true, true, true, true, true, true, true, true, true, true, true, false, false, false, false] rfl rfl rfl g_186_ (by kernel_rfl) (fun _ _ _ h => h) rfl (fun wq hq => Yl.ld (y_addI rfl rfl (by first | omega | (simp; done) | (simp; omega)) (by first | omega | (simp; done) | (simp; omega)))) hb3 ?_
              refine Wa.takeOn (i := 52) #[true, true, true, true, true, true, true, true, true, true, true, true, true, true, true, true, true, true, true, true, true, true, true, true, true, true, true, true, true, true, true, true, true, true, true, true, true, true, true, true, true, true, true, true, true, true, true, true, true, true, true, true, true, false, false, false] rfl rfl rfl g_186_ (by kernel_rfl) (fun _ _ _ h => h) rfl (fun wq hq => Yl.ld (y_addI rfl rfl (by first | omega | (simp; done) | (simp; omega)) (by first | omega | (simp; done) | (simp; omega)))) hb3 ?_
              refine Wa.takeOn (i := 53) #[true, true, true, true, true, true, true, true, true, true, true, true, true, true, true, true, true, true, true, true, true, true, true, true, true, true, true, true, true, true, true, true, true, true, true, true, true, true, true, true, true, true, true, true, true, true, true, true, true, true, true, true, true, true, false, false] rfl rfl rfl g_186_ (by kernel_rfl) (fun _ _ _ h => h) rfl (fun wq hq => Yl.ld (y_neqi rfl rfl)) hb3 ?_
              refine Wa.takeOn (i := 54) #[true, true, true, true, true, true, true, true, true, true, true, true, true, true, true, true, true, true, true, true, true, true, true, true, true, true, true, true, true, true, true, true, true, true, true, true, true, true, true, true, true, true, true, true, true, true, true, true, true, true, true, true, true, true, true, false] rfl rfl rfl g_153_ (by kernel_rfl) (fun _ _ _ h => h) rfl (fun wq hq => Yl.ld (y_pickF rfl g_186_ rfl)) hb3 ?_
              refine Wa.take (i := 55) #[true, true, true, true, true, true, true, true, true, true, true, true, true, true, true, true, true, true, true, true, true, true, true, true, true, true, true, true, true, true, true, true, true, true, true, true, true, true, true, true, true, true, true, true, true, true, true, true, true, true, true, true, true, true, true, true] rfl (by kernel_rfl) (fun _ _ _ h => h) rfl (fun wq hq => Yl.ld (y_pickT rfl g_153_ rfl)) hb3 ?_
              refine Wa.done (by kernel_rfl) ?_
              refine Wq.meet hM_147 (()) (Sub.cons' rfl (by first | rfl | exact bool_eq (by rw [heq2]; simp [Tok.up]; omega)) (Sub.cons' rfl (by first | rfl | exact bool_eq (by rw [heq2]; simp [Tok.up]; omega)) (Sub.cons' rfl (by first | rfl | exact bool_eq (by rw [heq2]; simp [Tok.up]; omega)) (Sub.cons' rfl (by first | rfl | exact bool_eq (by rw [heq2]; simp [Tok.up]; omega)) (Sub.cons' rfl (by first | rfl | exact bool_eq (by rw [heq2]; simp [Tok.up]; omega)) (Sub.cons' rfl (by first | rfl | exact bool_eq (by rw [heq2]; simp [Tok.up]; omega)) (Sub.cons' rfl (by first | rfl | exact bool_eq (by rw [heq2]; simp [Tok.up]; omega)) (Sub.nil)))))))) ?_
              exact ⟨hb, hR1, hR2, hR3⟩
           ·
            have g_153_ := g_153
            refine Wa.takeOff (i := 5) #[true, true, true, true, true, true, false, false, false, false, false, false, false, false, false, false, false, false, false, false, false, false, false, false, false, false, false, false, false, false, false, false, false, false, false, false, false, false, false, false, false, false, false, false, false, false, false, false, false, false, false, false, false, false, false, false] rfl rfl rfl g_153_ (by kernel_rfl) (fun _ _ _ h => h) rfl hb3 ?_
            refine Wa.takeOff (i := 6) #[true, true, true, true, true, true, true, false, false, false, false, false, false, false, false, false, false, false, false, false, false, false, false, false, false, false, false, false, false, false, false, false, false, false, false, false, false, false, false, false, false, false, false, false, false, false, false, false, false, false, false, false, false, false, false, false] rfl rfl rfl g_153_ (by kernel_rfl) (fun _ _ _ h => h) rfl hb3 ?_
            refine Wa.takeOff (i := 7) #[true, true, true, true, true, true, true, true, false, false, false, false, false, false, false, false, false, false, false, false, false, false, false, false, false, false, false, false, false, false, false, false, false, false, false, false, false, false, false, false, false, false, false, false, false, false, false, false, false, false, false, false, false, false, false, false] rfl rfl rfl g_153_ (by kernel_rfl) (fun _ _ _ h => h) rfl hb3 ?_
            refine Wa.takeOff (i := 8) #[true, true, true, true, true, true, true, true, true, false, false, false, false, false, false, false, false, false, false, false, false, false, false, false, false, false, false, false, false, false, false, false, false, false, false, false, false, false, false, false, false, false, false, false, false, false, false, false, false, false, false, false, false, false, false, false] rfl rfl rfl g_153_ (by kernel_rfl) (fun _ _ _ h => h) rfl hb3 ?_
            refine Wa.takeOff (i := 9) #[true, true, true, true, true, true, true, true, true, true, false, false, false, false, false, false, false, false, false, false, false, false, false, false, false, false, false, false, false, false, false, false, false, false, false, false, false, false, false, false, false, false, false, false, false, false, false, false, false, false, false, false, false, false, false, false] rfl rfl rfl g_153_ (by kernel_rfl) (fun _ _ _ h => h) rfl hb3 ?_
            refine Wa.takeOff (i := 10) #[true, true, true, true, true, true, true, true, true, true, true, false, false, false, false, false, false, false, false, false, false, false, false, false, false, false, false, false, false, false, false, false, false, false, false, false, false, false, false, false, false, false, false, false, false, false, false, false, false, false, false, false, false, false, false, false] rfl rfl rfl g_153_ (by kernel_rfl) (fun _ _ _ h => h) rfl hb3 ?_
            refine Wa.takeOff (i := 11) #[true, true, true, true, true, true, true, true, true, true, true, true, false, false, false, false, false, false, false, false, false, false, false, false, false, false, false, false, false, false, false, false, false, false, false, false, false, false, false, false, false, false, false, false, false, false, false, false, false, false, false, false, false, false, false, false] rfl rfl rfl g_153_ (by kernel_rfl) (fun _ _ _ h => h) rfl hb3 ?_
            refine Wa.takeOff (i := 12) #[true, true, true, true, true, true, true, true, true, true, true, true, true, false, false, false, false, false, false, false, false, false, false, false, false, false, false, false, false, false, false, false, false, false, false, false, false, false, false, false, false, false, false, false, false, false, false, false, false, false, false, false, false, false, false, false] rfl rfl rfl g_153_ (by kernel_rfl) (fun _ _ _ h => h) rfl hb3 ?_
            refine Wa.takeOff (i := 13) #[true, true, true, true, true, true, true, true, true, true, true, true, true, true, false, false, false, false, false, false, false, false, false, false, false, false, false, false, false, false, false, false, false, false, false, false, false, false, false, false, false, false, false, false, false, false, false, false, false, false, false, false, false, false, false, false] rfl rfl rfl g_153_ (by kernel_rfl) (fun _ _ _ h => h) rfl hb3 ?_
            refine Wa.takeOff (i := 14) #[true, true, true, true, true, true, true, true, true, true, true, true, true, true, true, false, false, false, false, false, false, false, false, false, false, false, false, false, false, false, false, false, false, false, false, false, false, false, false, false, false, false, false, false, false, false, false, false, false, false, false, false, false, false, false, false] rfl rfl rfl g_153_ (by kernel_rfl) (fun _ _ _ h => h) rfl hb3 ?_
            refine Wa.takeOff (i := 15) #[true, true, true, true, true, true, true, true, true, true, true, true, true, true, true, true, false, false, false, false, false, false, false, false, false, false, false, false, false, false, false, false, false, false, false, false, false, false, false, false, false, false, false, false, false, false, false, false, false, false, false, false, false, false, false, false] rfl rfl rfl g_153_ (by kernel_rfl) (fun _ _ _ h => h) rfl hb3 ?_
            refine Wa.takeOff (i := 16) #[true, true, true, true, true, true, true, true, true, true, true, true, true, true, true, true, true, false, false, false, false, false, false, false, false, false, false, false, false, false, false, false, false, false, false, false, false, false, false, false, false, false, false, false, false, false, false, false, false, false, false, false, false, false, false, false] rfl rfl rfl g_153_ (by kernel_rfl) (fun _ _ _ h => h) rfl hb3 ?_
            refine Wa.takeOff (i := 17) #[true, true, true, true, true, true, true, true, true, true, true, true, true, true, true, true, true, true, false, false, false, false, false, false, false, false, false, false, false, false, false, false, false, false, false, false, false, false, false, false, false, false, false, false, false, false, false, false, false, false, false, false, false, false, false, false] rfl rfl rfl g_153_ (by kernel_rfl) (fun _ _ _ h => h) rfl hb3 ?_
            refine Wa.takeOff (i := 18) #[true, true, true, true, true, true, true, true, true, true, true, true, true, true, true, true, true, true, true, false, false, false, false, false, false, false, false, false, false, false, false, false, false, false, false, false, false, false, false, false, false, false, false, false, false, false, false, false, false, false, false, false, false, false, false, false] rfl rfl rfl g_153_ (by kernel_rfl) (fun _ _ _ h => h) rfl hb3 ?_
            refine Wa.takeOff (i := 19) #[true, true, true, true, true, true, true, true, true, true, true, true, true, true, true, true, true, true, true, true, false, false, false, false, false, false, false, false, false, false, false, false, false, false, false, false, false, false, false, false, false, false, false, false, false, false, false, false, false, false, false, false, false, false, false, false] rfl rfl rfl g_153_ (by kernel_rfl) (fun _ _ _ h => h) rfl hb3 ?_
            refine Wa.takeUn (i := 20) #[true, true, true, true, true, true, true, true, true, true, true, true, true, true, true, true, true, true, true, true, true, false, false, false, false, false, false, false, false, false, false, false, false, false, false, false, false, false, false, false, false, false, false, false, false, false, false, false, false, false, false, false, false, false, false, false] rfl rfl rfl (by kernel_rfl) (fun _ _ _ h => h) rfl hb3 ?_
            refine Wa.takeUn (i := 21) #[true, true, true, true, true, true, true, true, true, true, true, true, true, true, true, true, true, true, true, true, true, true, false, false, false, false, false, false, false, false, false, false, false, false, false, false, false, false, false, false, false, false, false, false, false, false, false, false, false, false, false, false, false, false, false, false] rfl rfl rfl (by kernel_rfl) (fun _ _ _ h => h) rfl hb3 ?_
            refine Wa.takeUn (i := 22) #[true, true, true, true, true, true, true, true, true, true, true, true, true, true, true, true, true, true, true, true, true, true, true, false, false, false, false, false, false, false, false, false, false, false, false, false, false, false, false, false, false, false, false, false, false, false, false, false, false, false, false, false, false, false, false, false] rfl rfl rfl (by kernel_rfl) (fun _ _ _ h => h) rfl hb3 ?_
            refine Wa.takeUn (i := 23) #[true, true, true, true, true, true, true, true, true, true, true, true, true, true, true, true, true, true, true, true, true, true, true, true, false, false, false, false, false, false, false, false, false, false, false, false, false, false, false, false, false, false, false, false, false, false, false, false, false, false, false, false, false, false, false, false] rfl rfl rfl (by kernel_rfl) (fun _ _ _ h => h) rfl hb3 ?_
            refine Wa.takeUn (i := 24) #[true, true, true, true, true, true, true, true, true, true, true, true, true, true, true, true, true, true, true, true, true, true, true, true, true, false, false, false, false, false, false, false, false, false, false, false, false, false, false, false, false, false, false, false, false, false, false, false, false, false, false, false, false, false, false, false] rfl rfl rfl (by kernel_rfl) (fun _ _ _ h => h) rfl hb3 ?_
            refine Wa.takeUn (i := 25) #[true, true, true, true, true, true, true, true, true, true, true, true, true, true, true, true, true, true, true, true, true, true, true, true, true, true, false, false, false, false, false, false, false, false, false, false, false, false, false, false, false, false, false, false, false, false, false, false, false, false, false, false, false, false, false, false] rfl rfl rfl (by kernel_rfl) (fun _ _ _ h => h) rfl hb3 ?_
            refine Wa.takeUn (i := 26) #[true, true, true, true, true, true, true, true, true, true, true, true, true, true, true, true, true, true, true, true, true, true, true, true, true, true, true, false, false, false, false, false, false, false, false, false, false, false, false, false, false, false, false, false, false, false, false, false, false, false, false, false, false, false, false, false] rfl rfl rfl (by kernel_rfl) (fun _ _ _ h => h) rfl hb3 ?_
            refine Wa.takeUn (i := 27) #[true, true, true, true, true, true, true, true, true, true, true, true, true, true, true, true, true, true, true, true, true, true, true, true, true, true, true, true, false, false, false, false, false, false, false, false, false, false, false, false, false, false, false, false, false, false, false, false, false, false, false, false, false, false, false, false] rfl rfl rfl (by kernel_rfl) (fun _ _ _ h => h) rfl hb3 ?_
            refine Wa.takeUn (i := 28) #[true, true, true, true, true, true, true, true, true, true, true, true, true, true, true, true, true, true, true, true, true, true, true, true, true, true, true, true, true, false, false, false, false, false, false, false, false, false, false, false, false, false, false, false, false, false, false, false, false, false, false, false, false, false, false, false] rfl rfl rfl (by kernel_rfl) (fun _ _ _ h => h) rfl hb3 ?_
            refine Wa.takeUn (i := 29) #[true, true, true, true, true, true, true, true, true, true, true, true, true, true, true, true, true, true, true, true, true, true, true, true, true, true, true, true, true, true, false, false, false, false, false, false, false, false, false, false, false, false, false, false, false, false, false, false, false, false, false, false, false, false, false, false] rfl rfl rfl (by kernel_rfl) (fun _ _ _ h => h) rfl hb3 ?_
            refine Wa.takeUn (i := 30) #[true, true, true, true, true, true, true, true, true, true, true, true, true, true, true, true, true, true, true, true, true, true, true, true, true, true, true, true, true, true, true, false, false, false, false, false, false, false, false, false, false, false, false, false, false, false, false, false, false, false, false, false, false, false, false, false] rfl rfl rfl (by kernel_rfl) (fun _ _ _ h => h) rfl hb3 ?_
            refine Wa.takeUn (i := 31) #[true, true, true, true, true, true, true, true, true, true, true, true, true, true, true, true, true, true, true, true, true, true, true, true, true, true, true, true, true, true, true, true, false, false, false, false, false, false, false, false, false, false, false, false, false, false, false, false, false, false, false, false, false, false, false, false] rfl rfl rfl (by kernel_rfl) (fun _ _ _ h => h) rfl hb3 ?_
            refine Wa.takeUn (i := 32) #[true, true, true, true, true, true, true, true, true, true, true, true, true, true, true, true, true, true, true, true, true, true, true, true, true, true, true, true, true, true, true, true, true, false, false, false, false, false, false, false, false, false, false, false, false, false, false, false, false, false, false, false, false, false, false, false] rfl rfl rfl (by kernel_rfl) (fun _ _ _ h => h) rfl hb3 ?_
            refine Wa.takeUn (i := 33) #[true, true, true, true, true, true, true, true, true, true, true, true, true, true, true, true, true, true, true, true, true, true, true, true, true, true, true, true, true, true, true, true, true, true, false, false, false, false, false, false, false, false, false, false, false, false, false, false, false, false, false, false, false, false, false, false] rfl rfl rfl (by kernel_rfl) (fun _ _ _ h => h) rfl hb3 ?_
            refine Wa.takeOff (i := 34) #[true, true, true, true, true, true, true, true, true, true, true, true, true, true, true, true, true, true, true, true, true, true, true, true, true, true, true, true, true, true, true, true, true, true, true, false, false, false, false, false, false, false, false, false, false, false, false, false, false, false, false, false, false, false, false, false] rfl rfl rfl g_153_ (by kernel_rfl) (fun _ _ _ h => h) rfl hb3 ?_
            refine Wa.takeOff (i := 35) #[true, true, true, true, true, true, true, true, true, true, true, true, true, true, true, true, true, true, true, true, true, true, true, true, true, true, true, true, true, true, true, true, true, true, true, true, false, false, false, false, false, false, false, false, false, false, false, false, false, false, false, false, false, false, false, false] rfl rfl rfl g_153_ (by kernel_rfl) (fun _ _ _ h => h) rfl hb3 ?_
            refine Wa.takeUn (i := 36) #[true, true, true, true, true, true, true, true, true, true, true, true, true, true, true, true, true, true, true, true, true, true, true, true, true, true, true, true, true, true, true, true, true, true, true, true, true, false, false, false, false, false, false, false, false, false, false, false, false, false, false, false, false, false, false, false] rfl rfl rfl (by kernel_rfl) (fun _ _ _ h => h) rfl hb3 ?_
            refine Wa.takeUn (i := 37) #[true, true, true, true, true, true, true, true, true, true, true, true, true, true, true, true, true, true, true, true, true, true, true, true, true, true, true, true, true, true, true, true, true, true, true, true, true, true, false, false, false, false, false, false, false, false, false, false, false, false, false, false, false, false, false, false] rfl rfl rfl (by kernel_rfl) (fun _ _ _ h => h) rfl hb3 ?_
            refine Wa.takeUn (i := 38) #[true, true, true, true, true, true, true, true, true, true, true, true, true, true, true, true, true, true, true, true, true, true, true, true, true, true, true, true, true, true, true, true, true, true, true, true, true, true, true, false, false, false, false, false, false, false, false, false, false, false, false, false, false, false, false, false] rfl rfl rfl (by kernel_rfl) (fun _ _ _ h => h) rfl hb3 ?_
            refine Wa.takeUn (i := 39) #[true, true, true, true, true, true, true, true, true, true, true, true, true, true, true, true, true, true, true, true, true, true, true, true, true, true, true, true, true, true, true, true, true, true, true, true, true, true, true, true, false, false, false, false, false, false, false, false, false, false, false, false, false, false, false, false] rfl rfl rfl (by kernel_rfl) (fun _ _ _ h => h) rfl hb3 ?_
            refine Wa.takeUn (i := 40) #[true, true, true, true, true, true, true, true, true, true, true, true, true, true, true, true, true, true, true, true, true, true, true, true, true, true, true, true, true, true, true, true, true, true, true, true, true, true, true, true, true, false, false, false, false, false, false, false, false, false, false, false, false, false, false, false] rfl rfl rfl (by kernel_rfl) (fun _ _ _ h => h) rfl hb3 ?_
            refine Wa.takeUn (i := 41) #[true, true, true, true, true, true, true, true, true, true, true, true, true, true, true, true, true, true, true, true, true, true, true, true, true, true, true, true, true, true, true, true, true, true, true, true, true, true, true, true, true, true, false, false, false, false, false, false, false, false, false, false, false, false, false, false] rfl rfl rfl (by kernel_rfl) (fun _ _ _ h => h) rfl hb3 ?_
            refine Wa.takeUn (i := 42) #[true, true, true, true, true, true, true, true, true, true, true, true, true, true, true, true, true, true, true, true, true, true, true, true, true, true, true, true, true, true, true, true, true, true, true, true, true, true, true, true, true, true, true, false, false, false, false, false, false, false, false, false, false, false, false, false] rfl rfl rfl (by kernel_rfl) (fun _ _ _ h => h) rfl hb3 ?_
            refine Wa.takeUn (i := 43) #[true, true, true, true, true, true, true, true, true, true, true, true, true, true, true, true, true, true, true, true, true, true, true, true, true, true, true, true, true, true, true, true, true, true, true, true, true, true, true, true, true, true, true, true, false, false, false, false, false, false, false, false, false, false, false, false] rfl rfl rfl (by kernel_rfl) (fun _ _ _ h => h) rfl hb3 ?_
            refine Wa.takeUn (i := 44) #[true, true, true, true, true, true, true, true, true, true, true, true, true, true, true, true, true, true, true, true, true, true, true, true, true, true, true, true, true, true, true, true, true, true, true, true, true, true, true, true, true, true, true, true, true, false, false, false, false, false, false, false, false, false, false, false] rfl rfl rfl (by kernel_rfl) (fun _ _ _ h => h) rfl hb3 ?_
            refine Wa.takeUn (i := 45) #[true, true, true, true, true, true, true, true, true, true, true, true, true, true, true, true, true, true, true, true, true, true, true, true, true, true, true, true, true, true, true, true, true, true, true, true, true, true, true, true, true, true, true, true, true, true, false, false, false, false, false, false, false, false, false, false] rfl rfl rfl (by kernel_rfl) (fun _ _ _ h => h) rfl hb3 ?_
            refine Wa.takeUn (i := 46) #[true, true, true, true, true, true, true, true, true, true, true, true, true, true, true, true, true, true, true, true, true, true, true, true, true, true, true, true, true, true, true, true, true, true, true, true, true, true, true, true, true, true, true, true, true, true, true, false, false, false, false, false, false, false, false, false] rfl rfl rfl (by kernel_rfl) (fun _ _ _ h => h) rfl hb3 ?_
            refine Wa.takeUn (i := 47) #[true, true, true, true, true, true, true, true, true, true, true, true, true, true, true, true, true, true, true, true, true, true, true, true, true, true, true, true, true, true, true, true, true, true, true, true, true, true, true, true, true, true, true, true, true, true, true, true, false, false, false, false, false, false, false, false] rfl rfl rfl (by kernel_rfl) (fun _ _ _ h => h) rfl hb3 ?_
            refine Wa.takeUn (i := 48) #[true, true, true, true, true, true, true, true, true, true, true, true, true, true, true, true, true, true, true, true, true, true, true, true, true, true, true, true, true, true, true, true, true, true, true, true, true, true, true, true, true, true, true, true, true, true, true, true, true, false, false, false, false, false, false, false] rfl rfl rfl (by kernel_rfl) (fun _ _ _ h => h) rfl hb3 ?_
            refine Wa.takeUn (i := 49) #[true, true, true, true, true, true, true, true, true, true, true, true, true, true, true, true, true, true, true, true, true, true, true, true, true, true, true, true, true, true, true, true, true, true, true, true, true, true, true, true, true, true, true, true, true, true, true, true, true, true, false, false, false, false, false, false] rfl rfl rfl (by kernel_rfl) (fun _ _ _ h => h) rfl hb3 ?_
            refine Wa.takeUn (i := 50) #[true, true, true, true, true, true, true, true, true, true, true, true, true, true, true, true, true, true, true, true, true, true, true, true, true, true, true, true, true, true, true, true, true, true, true, true, true, true, true, true, true, true, true, true, true, true, true, true, true, true, true, false, false, false, false, false] rfl rfl rfl (by kernel_rfl) (fun _ _ _ h => h) rfl hb3 ?_
            refine Wa.takeUn (i := 51) #[true, true, true, true, true, true, true, true, true, true, true, true, true, true, true, true, true, true, true, true, true, true, true, true, true, true, true, true, true, true, true, true, true, true, true, true, true, true, true, true, true, true, true, true, true, true, true, true, true, true, true, true, false, false, false, false] rfl rfl rfl (by kernel_rfl) (fun _ _ _ h => h) rfl hb3 ?_
            refine Wa.takeUn (i := 52) #[true, true, true, true, true, true, true, true, true, true, true, true, true, true, true, true, true, true, true, true, true, true, true, true, true, true, true, true, true, true, true, true, true, true, true, true, true, true, true, true, true, true, true, true, true, true, true, true, true, true, true, true, true, false, false, false] rfl rfl rfl (by kernel_rfl) (fun _ _ _ h => h) rfl hb3 ?_
            refine Wa.takeUn (i := 53) #[true, true, true, true, true, true, true, true, true, true, true, true, true, true, true, true, true, true, true, true, true, true, true, true, true, true, true, true, true, true, true, true, true, true, true, true, true, true, true, true, true, true, true, true, true, true, true, true, true, true, true, true, true, true, false, false] rfl rfl rfl (by kernel_rfl) (fun _ _ _ h => h) rfl hb3 ?_
            refine Wa.takeOff (i := 54) #[true, true, true, true, true, true, true, true, true, true, true, true, true, true, true, true, true, true, true, true, true, true, true, true, true, true, true, true, true, true, true, true, true, true, true, true, true, true, true, true, true, true, true, true, true, true, true, true, true, true, true, true, true, true, true, false] rfl rfl rfl g_153_ (by kernel_rfl) (fun _ _ _ h => h) rfl hb3 ?_
            refine Wa.take (i := 55) #[true, true, true, true, true, true, true, true, true, true, true, true, true, true, true, true, true, true, true, true, true, true, true, true, true, true, true, true, true, true, true, true, true, true, true, true, true, true, true, true, true, true, true, true, true, true, true, true, true, true, true, true, true, true, true, true] rfl (by kernel_rfl) (fun _ _ _ h => h) rfl (fun wq hq => Yl.ld (y_pickF rfl g_153_ rfl)) hb3 ?_
            refine Wa.done (by kernel_rfl) ?_
            refine Wq.meet hM_147 (()) (Sub.cons' rfl (by first | rfl | exact bool_eq (by rw [heq2]; simp [Tok.up]; omega)) (Sub.cons' rfl (by first | rfl | exact bool_eq (by rw [heq2]; simp [Tok.up]; omega)) (Sub.cons' rfl (by first | rfl | exact bool_eq (by rw [heq2]; simp [Tok.up]; omega)) (Sub.cons' rfl (by first | rfl | exact bool_eq (by rw [heq2]; simp [Tok.up]; omega)) (Sub.cons' rfl (by first | rfl | exact bool_eq (by rw [heq2]; simp [Tok.up]; omega)) (Sub.cons' rfl (by first | rfl | exact bool_eq (by rw [heq2]; simp [Tok.up]; omega)) (Sub.cons' rfl (by first | rfl | exact bool_eq (by rw [heq2]; simp [Tok.up]; omega)) (Sub.nil)))))))) ?_
            exact ⟨hb, hR1, hR2, hR3⟩
          ·
           rintro u_ wr hI_208
           replace hI_208 : Below w.heap.size w wr ∧ Rd wr 3 A1 l1.length (l1.flatMap Tok.cells) ∧ Rd wr 3 A2 l2.length (l2.flatMap Tok.cells) ∧ Rd wr 3 (some p3) l3.length (l3.flatMap Tok.cells) := hI_208
           obtain ⟨hb, hR1, hR2, hR3⟩ := hI_208
           show Wq _ _ _ _ [(5, .bool true), (0, str a), (6, .slice A1 l1.length c1), (9, .slice A2 l2.length c2), (12, .slice (some p3) l3.length c3), (15, .int .i64 (i : Int)), (164, .bool false)] _
           have hX := hX_hb.below hb
           try have hzhb_g17 := hb.size
           refine Wq.next hK_146 ?_
           refine Wc.cond rfl (fun c5_209 => ?_) (fun c5_209 => ?_)
           ·
            have c5_209_ := c5_209
            cases c5_209_
           ·
            refine Wc.skip ?_
            refine Wq.block_normal ?_
            refine Wq.next hK_123 ?_
            refine Wc.region ?_
            refine Wl.y (y_move rfl) rfl ?_
            refine Wl.y (y_addI rfl rfl (by first | omega | (simp; done) | (simp; omega)) (by first | omega | (simp; done) | (simp; omega))) rfl ?_
            refine Wl.y (y_assign rfl) rfl ?_
            refine Wl.nil ?_
            refine fun a_ ha_ => hL_114 _ _ (i + 1) (by first | omega | (simp; omega)) (Sub.cons' rfl (by first | rfl | exact int_eq (by omega)) (Sub.cons' rfl (by first | rfl | exact int_eq (by omega)) (Sub.cons' rfl (by first | rfl | exact int_eq (by omega)) (Sub.cons' rfl (by first | rfl | exact int_eq (by omega)) (Sub.cons' rfl (by first | rfl | exact int_eq (by omega)) (Sub.cons' rfl (by first | rfl | exact int_eq (by omega)) (Sub.nil))))))) ?_ a_ ha_
            exact ⟨by omega, hb, hR1, hR2, hR3⟩
       ·
        refine Wc.exit ?_
        refine Wq.then_exit ?_
        refine Wq.then_exit ?_
        refine Wq.block_exit ?_
        refine Wq.next hK_111 ?_
        refine Wc.seq fun _ hK_213 => ?_
        refine Wc.region ?_
        refine Wl.y (y_move rfl) rfl ?_
        refine Wl.y (y_assign rfl) rfl ?_
        refine Wl.nil ?_
        refine Wq.next hK_213 ?_
        refine Wc.ret ?_
        refine ret1 rfl rfl ?_
        exact ⟨_, rfl, rfl, hb⟩
end Go.Proofs.YtcljmclolpgdmaaGreatDoor
