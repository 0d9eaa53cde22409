/- lex.Lex, by the calculus. -/
import Derived.Test.YtcljmclolpgdmaaGreatDoorLexB
namespace Go.Proofs.YtcljmclolpgdmaaGreatDoor
open Go.RowKit Go.Bw Go.Bw.Fl
set_option linter.unusedVariables false
set_option linter.unusedSimpArgs false
theorem fa49_0LexC (p : Addr) (w : World) : (Instr.fieldAt 49 (.pointer (some p)) 0).run Tryz.prog w = .ok (.pointer (some (p.add 0))) w := run_fieldAt (i := 0) (sz := 0) Tryz.underlying49 rfl (by kernel_rfl) p w
theorem fa49_1LexC (p : Addr) (w : World) : (Instr.fieldAt 49 (.pointer (some p)) 1).run Tryz.prog w = .ok (.pointer (some (p.add 1))) w := run_fieldAt (i := 1) (sz := 0) Tryz.underlying49 rfl (by kernel_rfl) p w
theorem fa49_2LexC (p : Addr) (w : World) : (Instr.fieldAt 49 (.pointer (some p)) 2).run Tryz.prog w = .ok (.pointer (some (p.add 2))) w := run_fieldAt (i := 2) (sz := 0) Tryz.underlying49 rfl (by kernel_rfl) p w
theorem one3LexC : One Tryz.prog 3 := ⟨_, Tryz.underlying3, rfl, by kernel_rfl⟩
theorem one9LexC : One Tryz.prog 9 := ⟨_, Tryz.underlying9, rfl, by kernel_rfl⟩
theorem txt55LexC : Txt Tryz.prog 55 := ⟨_, Tryz.func55, by kernel_rfl, rfl⟩   -- strings.IndexByte
theorem txt56LexC : Txt Tryz.prog 56 := ⟨_, Tryz.func56, by kernel_rfl, rfl⟩   -- bridleway/lex.token
theorem idx_mem (c : UInt8) : ∀ l : List UInt8, (0 ≤ Lib.indexByte l c ↔ c ∈ l) ∧ -1 ≤ Lib.indexByte l c
  | [] => by simp [Lib.indexByte]
  | b :: r => by
    have ih := idx_mem c r
    rw [Lib.indexByte]
    by_cases h : b = c
    · subst h; simp
    · have h1 : (b == c) = false := by simpa using h
      rw [h1, if_neg (by simp)]
      by_cases h2 : Lib.indexByte r c = -1
      · rw [h2, if_pos (by simp)]
        rw [h2] at ih
        refine ⟨⟨fun h => by omega, fun hm => ?_⟩, by omega⟩
        rcases List.mem_cons.1 hm with e | e
        · exact absurd e.symm h
        · exact ih.1.2 e
      · rw [if_neg (by simpa using h2)]
        refine ⟨⟨fun _ => List.mem_cons_of_mem _ (ih.1.1 (by omega)), fun _ => by omega⟩, by omega⟩
theorem token_x (s : List UInt8) (hne : s ≠ []) (hs : s.length ≤ 70368744177664) (w : World) (hX : Lx w) : Ret Tryz.prog 56 [str s] w fun v w' => (∃ k n : Nat, v = .agg #[.int .i64 (k : Int), str (s.take n), .int .i64 0] ∧ tokV s = (k, n)) ∧ Below w.heap.size w w' :=
  (token_r s hne hs w hX).mono fun v w' ⟨h1, h2⟩ => ⟨⟨(tokV s).1, (tokV s).2, h1, rfl⟩, h2⟩
/-- what Lex tells -/
def LexIs (s : List UInt8) (v : Value) (w' : World) : Prop :=
  (65536 < s.length ∧ v = .tuple #[.slice none 0 0, .int .i64 0, .int .i64 6]) ∨
  (s.length ≤ 65536 ∧ ∃ i : Nat, lexV s 0 = .error i ∧ v = .tuple #[.slice none 0 0, .int .i64 (i : Int), .int .i64 2]) ∨
  (s.length ≤ 65536 ∧ ∃ l A c, lexV s 0 = .ok l ∧ v = .tuple #[.slice A l.length c, .int .i64 0, .int .i64 0] ∧ l.length ≤ 65536 ∧ l.length ≤ c ∧ Rd w' 3 A l.length (l.flatMap Tok.cells))
theorem lx_start {s : List UInt8} : lexV s 0 = (lexV (s.drop 0) 0).map ([] ++ ·) := by
  rw [List.drop_zero]
  cases lexV s 0 <;> rfl
theorem lx_blank {s : List UInt8} {i : Nat} {l : List Tok} (h : lexV s 0 = (lexV (s.drop i) i).map (l ++ ·)) (hi : i < s.length) (hb : blank (s.getD i 0) = true) : lexV s 0 = (lexV (s.drop (i + 1)) (i + 1)).map (l ++ ·) := by
  rw [h, drop_at hi, lexV_blank i hb]
theorem lx_bad {s : List UInt8} {i : Nat} {l : List Tok} (h : lexV s 0 = (lexV (s.drop i) i).map (l ++ ·)) (hi : i < s.length) (hb : blank (s.getD i 0) = false) (h0 : (tokV (s.drop i)).1 = 0) : lexV s 0 = .error i := by
  rw [drop_at hi] at h0
  rw [h, drop_at hi, lexV_bad i hb h0]; rfl
theorem lx_tok {s : List UInt8} {i k n : Nat} {l : List Tok} (h : lexV s 0 = (lexV (s.drop i) i).map (l ++ ·)) (hi : i < s.length) (hb : blank (s.getD i 0) = false) (h1 : tokV (s.drop i) = (k, n)) (h0 : k ≠ 0) : lexV s 0 = (lexV (s.drop (i + n)) (i + n)).map ((l ++ [⟨k, (s.drop i).take n, i⟩]) ++ ·) := by
  have h2 := h1
  rw [drop_at hi] at h2
  rw [h]
  conv => lhs; rw [drop_at hi]
  rw [lexV_tok i hb (by rw [h2]; exact h0), h2, ← drop_at hi, List.drop_drop]
  cases lexV (s.drop (i + n)) (i + n) with
  | error e => rfl
  | ok r => simp [Except.map]
theorem lx_end {s : List UInt8} {i : Nat} {l : List Tok} (h : lexV s 0 = (lexV (s.drop i) i).map (l ++ ·)) (hi : ¬ i < s.length) : lexV s 0 = .ok l := by
  rw [h, List.drop_eq_nil_of_le (by omega), lexV_nil]; simp [Except.map]
theorem lexIs_long {s : List UInt8} {w' : World} (h : 65536 < s.length) : LexIs s (.tuple #[.slice none 0 0, .int .i64 0, .int .i64 6]) w' := .inl ⟨h, rfl⟩
theorem Lex_r (s : List UInt8) (hs : s.length ≤ 70368744177664) (w : World) (hX : Lx w) : Ret Tryz.prog 22 [str s] w fun v w' => LexIs s v w' ∧ Below w.heap.size w w' := by
  have h44 : ([32, 9, 13, 10] : List UInt8).length = 4 := rfl
  have hb := Below.refl w.heap.size w
  have hX_hb := hX
  refine enter Tryz.func22 rfl rfl rfl ?_
  refine Wc.seq fun _ hK_1 => ?_
  refine Wc.region ?_
  refine Wl.y (y_assign rfl) rfl ?_
  refine Wl.y (y_assign rfl) rfl ?_
  refine Wl.y (y_assign rfl) rfl ?_
  refine Wl.nil ?_
  refine Wq.next hK_1 ?_
  refine Wc.seq fun _ hK_5 => ?_
  refine Wc.seq fun _ hK_6 => ?_
  refine Wc.region ?_
  refine Wl.y (y_move rfl) rfl ?_
  refine Wl.y (y_lens Tryz.underlying9 (by omega) rfl) rfl ?_
  refine Wl.y (y_gtri rfl rfl) rfl ?_
  refine Wl.nil ?_
  refine Wq.next hK_6 ?_
  refine Wc.cond rfl (fun c0_10 => ?_) (fun c0_10 => ?_)
  ·
   have c0_10_ := c0_10
   try simp only [decide_eq_true_eq, decide_eq_false_iff_not, beq_iff_eq, beq_eq_false_iff_ne, bne_iff_ne, bne_eq_false_iff_eq, Bool.not_eq_true', Bool.not_eq_false', Bool.not_eq_eq_eq_not, Bool.not_true, Bool.not_false, ne_eq, Int.not_lt, Int.not_le] at c0_10
   refine Wc.seq fun _ hK_11 => ?_
   refine Wc.region ?_
   refine Wl.y (y_assign rfl) rfl ?_
   refine Wl.y (y_assign rfl) rfl ?_
   refine Wl.y (y_assign rfl) rfl ?_
   refine Wl.nil ?_
   refine Wq.next hK_11 ?_
   refine Wc.ret ?_
   refine Wq.then_ret ?_
   refine ret3 rfl rfl rfl rfl ?_
   exact ⟨_, rfl, lexIs_long (by have := c0_10; omega), hb⟩
  ·
   have c0_10_ := c0_10
   try simp only [decide_eq_true_eq, decide_eq_false_iff_not, beq_iff_eq, beq_eq_false_iff_ne, bne_iff_ne, bne_eq_false_iff_eq, Bool.not_eq_true', Bool.not_eq_false', Bool.not_eq_eq_eq_not, Bool.not_true, Bool.not_false, ne_eq, Int.not_lt, Int.not_le] at c0_10
   have hsl : s.length ≤ 65536 := by have := c0_10; omega
   refine Wc.skip ?_
   refine Wq.next hK_5 ?_
   refine Wc.seq fun _ hK_15 => ?_
   refine Wc.region ?_
   refine Wl.y (y_assign rfl) rfl ?_
   refine Wl.nil ?_
   refine Wq.next hK_15 ?_
   refine Wc.seq fun _ hK_17 => ?_
   refine Wc.seq fun _ hK_18 => ?_
   refine Wc.region ?_
   refine Wl.y (y_assign rfl) rfl ?_
   refine Wl.nil ?_
   refine Wq.next hK_18 ?_
   refine Wc.block ?_
   refine Wc.loop (X := Nat × List Tok × Value) (fun (i, l, v) => [(0, str s), (5, v), (6, .int .i64 (i : Int))]) (fun (i, l, v) wr => i ≤ s.length ∧ l.length ≤ i ∧ lexV s 0 = (lexV (s.drop i) i).map (l ++ ·) ∧ Below w.heap.size w wr ∧ wr.ownsRow w.heap.size 49 3 v l.length (l.flatMap Tok.cells)) (fun (i, l, v) => s.length - i) (⟨0, [], .slice none 0 0⟩) ?_ ?_ ?_
   · exact Sub.cons' rfl (by first | rfl | exact int_eq (by omega)) (Sub.cons' rfl (by first | rfl | exact int_eq (by omega)) (Sub.cons' rfl (by first | rfl | exact int_eq (by omega)) (Sub.nil)))
   · exact ⟨by omega, Nat.le_refl _, lx_start, hb, World.ownsRow_nil _ _ _ _⟩
   ·
    rintro ⟨i, l, v⟩ wr hI_21 _ hL_20
    replace hI_21 : i ≤ s.length ∧ l.length ≤ i ∧ lexV s 0 = (lexV (s.drop i) i).map (l ++ ·) ∧ Below w.heap.size w wr ∧ wr.ownsRow w.heap.size 49 3 v l.length (l.flatMap Tok.cells) := hI_21
    obtain ⟨hi, hll, hlx, hb, hO⟩ := hI_21
    show Wc _ _ _ _ _ [(0, str s), (5, v), (6, .int .i64 (i : Int))] _
    have hX := hX_hb.below hb
    try have hzhb_L0 := hb.size
    refine Wc.seq fun _ hK_22 => ?_
    refine Wc.seq fun _ hK_23 => ?_
    refine Wc.region ?_
    refine Wl.y (y_move rfl) rfl ?_
    refine Wl.y (y_move rfl) rfl ?_
    refine Wl.y (y_lens Tryz.underlying9 (by omega) rfl) rfl ?_
    refine Wl.y (y_lssi rfl rfl) rfl ?_
    refine Wl.nil ?_
    refine Wq.next hK_23 ?_
    refine Wc.cond rfl (fun c1_28 => ?_) (fun c1_28 => ?_)
    ·
     have c1_28_ := c1_28
     try simp only [decide_eq_true_eq, decide_eq_false_iff_not, beq_iff_eq, beq_eq_false_iff_ne, bne_iff_ne, bne_eq_false_iff_eq, Bool.not_eq_true', Bool.not_eq_false', Bool.not_eq_eq_eq_not, Bool.not_true, Bool.not_false, ne_eq, Int.not_lt, Int.not_le] at c1_28
     have hil : i < s.length := by have := c1_28; omega
     obtain ⟨c, hc⟩ : ∃ c, c = s.getD i 0 := ⟨_, rfl⟩
     refine Wc.skip ?_
     refine Wq.next hK_22 ?_
     refine Wc.block ?_
     refine Wc.seq fun _ hK_29 => ?_
     refine Wc.seq fun _ hK_30 => ?_
     refine Wc.region ?_
     refine Wl.y (y_move rfl) rfl ?_
     refine Wl.y (y_move rfl) rfl ?_
     refine Wl.y (y_eq (y_indexs Tryz.underlying9 rfl rfl (by omega) (by omega)) (int_eq (show _ = (c.toNat : Int) by rw [hc, Int.toNat_natCast]))) rfl ?_
     refine Wl.call txt55LexC rfl rfl (IndexByteU_r [32, 9, 13, 10] c _) rfl ?_
     rintro _ w_ ⟨⟨z, rfl, hz⟩, hw_⟩
     have hw_ := hw_.symm; subst hw_
     refine Wl.y (y_geqi rfl rfl) rfl ?_
     refine Wl.nil ?_
     refine Wq.next hK_30 ?_
     refine Wc.cond rfl (fun c2_36 => ?_) (fun c2_36 => ?_)
     ·
      have c2_36_ := c2_36
      try simp only [decide_eq_true_eq, decide_eq_false_iff_not, beq_iff_eq, beq_eq_false_iff_ne, bne_iff_ne, bne_eq_false_iff_eq, Bool.not_eq_true', Bool.not_eq_false', Bool.not_eq_eq_eq_not, Bool.not_true, Bool.not_false, ne_eq, Int.not_lt, Int.not_le] at c2_36
      have hbl : blank (s.getD i 0) = true := by unfold blank; rw [← hc, decide_eq_true_eq, ← (idx_mem c _).1, ← hz]; exact c2_36
      have hlx_ := lx_blank hlx hil hbl
      obtain ⟨j_, hj_⟩ : ∃ j, j = i + 1 := ⟨_, rfl⟩
      rw [← hj_] at hlx_
      have hj1_ : j_ ≤ s.length := by omega
      have hl1_ : l.length ≤ j_ := by omega
      have hO_ := hO
      obtain ⟨l_, hl_⟩ : ∃ l', l' = l := ⟨_, rfl⟩
      subst hl_
      obtain ⟨v_, hv_⟩ : ∃ v', v' = v := ⟨_, rfl⟩
      subst hv_
      refine Wc.seq fun _ hK_37 => ?_
      refine Wc.region ?_
      refine Wl.y (y_move rfl) rfl ?_
      refine Wl.y (y_addI rfl rfl (by first | omega | (simp; done) | (simp; omega)) (by first | omega | (simp; done) | (simp; omega))) rfl ?_
      refine Wl.y (y_assign rfl) rfl ?_
      refine Wl.nil ?_
      refine Wq.next hK_37 ?_
      refine Wc.exit ?_
      refine Wq.then_exit ?_
      refine Wq.block_exit ?_
      refine fun a_ ha_ => hL_20 _ _ (⟨j_, l_, v_⟩) (by show s.length - j_ < s.length - i; omega) (Sub.cons' rfl (by first | rfl | exact int_eq (by omega)) (Sub.cons' rfl (by first | rfl | exact int_eq (by omega)) (Sub.cons' rfl (by first | rfl | exact int_eq (by omega)) (Sub.nil)))) ?_ a_ ha_
      exact ⟨hj1_, hl1_, hlx_, hb, hO_⟩
     ·
      have c2_36_ := c2_36
      try simp only [decide_eq_true_eq, decide_eq_false_iff_not, beq_iff_eq, beq_eq_false_iff_ne, bne_iff_ne, bne_eq_false_iff_eq, Bool.not_eq_true', Bool.not_eq_false', Bool.not_eq_eq_eq_not, Bool.not_true, Bool.not_false, ne_eq, Int.not_lt, Int.not_le] at c2_36
      have hbl : blank (s.getD i 0) = false := by unfold blank; rw [← hc, decide_eq_false_iff_not, ← (idx_mem c _).1, ← hz]; have := c2_36; omega
      have hO0 := hO
      refine Wc.skip ?_
      refine Wq.next hK_29 ?_
      refine Wc.seq fun _ hK_41 => ?_
      refine Wc.region ?_
      refine Wl.y (y_move rfl) rfl ?_
      refine Wl.y (y_move rfl) rfl ?_
      refine Wl.y (y_eq (y_slicesL Tryz.underlying9 rfl rfl (by omega) (by omega)) (str_eq (show _ = s.drop i by rw [Int.toNat_natCast]))) rfl ?_
      refine Wl.call txt56LexC rfl rfl (token_x (s.drop i) (by rw [drop_at hil]; simp) (by rw [List.length_drop]; omega) _ hX) rfl ?_
      rintro _ w_k1 ⟨⟨k, n, rfl, htok⟩, hs_k1⟩
      have hz_k1 := hs_k1.size
      have hb := hb.trans (hs_k1.mono hb.size)
      have hX := hX_hb.below hb
      try have hO := own_below hO hs_k1
      refine Wl.allocN (z := (.agg #[(.int .i64 0), (str []), (.int .i64 0)])) (by kernel_rfl) rfl ?_
      rintro g_o21 w_o21 hg_o21 hn_o21 hs_o21
      have hz_o21 := hs_o21.size
      have hb := hb.trans (hs_o21.mono hb.size)
      have hX := hX_hb.below hb
      try have hO := own_below hO hs_o21
      have hB_o21 := hn_o21
      have hl_o21 := hB_o21.lt
      have hap_ : v.ownBlock = none ∨ v.ownBlock ≠ some g_o21 := by
        cases hv : v.ownBlock with
        | none => exact .inl rfl
        | some kk => exact .inr (fun e => by have := own_ge hO0 kk hv; cases e; omega)
      have hap3_ : some g_o21 ≠ v.ownBlock := by rcases hap_ with h | h; (· rw [h]; simp); (· exact fun e => h e.symm)
      refine Wl.storeS (by kernel_rfl) rfl rfl hB_o21 rfl rfl ?_
      rintro w_s0 hn_s0 hg_s0
      have hz_s0 := hg_s0.size
      have hb := below_blk hb hg_s0 hb.size (by omega)
      have hX := hX_hb.below hb
      try have hO := World.ownsRow.kept hO hg_s0 (by exact hap_)
      have hB_o21 := hn_s0
      refine Wl.nil ?_
      refine Wq.next hK_41 ?_
      refine Wc.seq fun _ hK_47 => ?_
      refine Wc.seq fun _ hK_48 => ?_
      refine Wc.region ?_
      refine Wl.y (y_fieldAddr (fa49_0LexC _) rfl) rfl ?_
      refine Wl.l (l_load one3LexC rfl (by exact hB_o21.at (j := 0) rfl)) rfl ?_
      refine Wl.y (y_eqli rfl rfl) rfl ?_
      refine Wl.nil ?_
      refine Wq.next hK_48 ?_
      refine Wc.cond rfl (fun c3_52 => ?_) (fun c3_52 => ?_)
      ·
       have c3_52_ := c3_52
       try simp only [decide_eq_true_eq, decide_eq_false_iff_not, beq_iff_eq, beq_eq_false_iff_ne, bne_iff_ne, bne_eq_false_iff_eq, Bool.not_eq_true', Bool.not_eq_false', Bool.not_eq_eq_eq_not, Bool.not_true, Bool.not_false, ne_eq, Int.not_lt, Int.not_le] at c3_52
       have herr := lx_bad hlx hil hbl (by rw [htok]; have := c3_52; show k = 0; omega)
       refine Wc.seq fun _ hK_53 => ?_
       refine Wc.region ?_
       refine Wl.y (y_move rfl) rfl ?_
       refine Wl.y (y_assign rfl) rfl ?_
       refine Wl.y (y_assign rfl) rfl ?_
       refine Wl.y (y_assign rfl) rfl ?_
       refine Wl.nil ?_
       refine Wq.next hK_53 ?_
       refine Wc.ret ?_
       refine Wq.then_ret (Wq.block_ret (Wq.then_ret (Wq.block_ret (Wq.then_ret ?_))))
       refine ret3 rfl rfl rfl rfl ?_
       exact ⟨_, rfl, .inr (.inl ⟨hsl, i, herr, rfl⟩), hb⟩
      ·
       have c3_52_ := c3_52
       try simp only [decide_eq_true_eq, decide_eq_false_iff_not, beq_iff_eq, beq_eq_false_iff_ne, bne_iff_ne, bne_eq_false_iff_eq, Bool.not_eq_true', Bool.not_eq_false', Bool.not_eq_eq_eq_not, Bool.not_true, Bool.not_false, ne_eq, Int.not_lt, Int.not_le] at c3_52
       have hk0 : k ≠ 0 := by have := c3_52; omega
       have htl := tokV_len (s.drop i) (by rw [drop_at hil]; simp)
       rw [htok, List.length_drop] at htl
       simp only at htl
       have hn0 : 0 < n := by have := htl.2.1; omega
       have hlx2 := lx_tok hlx hil hbl htok hk0
       refine Wc.skip ?_
       refine Wq.next hK_47 ?_
       refine Wc.seq fun _ hK_58 => ?_
       refine Wc.region ?_
       refine Wl.y (y_move rfl) rfl ?_
       refine Wl.y (y_fieldAddr (fa49_2LexC _) rfl) rfl ?_
       refine Wl.storeB one3LexC rfl rfl rfl hB_o21 (show 2 < 3 from by decide) ?_
       rintro w_s1 hn_s1 hg_s1
       have hz_s1 := hg_s1.size
       have hb := below_blk hb hg_s1 hb.size (by omega)
       have hX := hX_hb.below hb
       try have hO := World.ownsRow.kept hO hg_s1 (by exact hap_)
       have hB_o21 := hn_s1
       refine Wl.nil ?_
       refine Wq.next hK_58 ?_
       refine Wc.seq fun _ hK_61 => ?_
       refine Wc.region ?_
       refine Wl.y (y_move rfl) rfl ?_
       refine Wl.l (l_loadS Tryz.underlying49 (by kernel_rfl) rfl (by exact fun j u hu => hB_o21.at hu)) rfl ?_
       refine Wl.litN (sz := 3) (vs := [_]) Tryz.underlying39 (by kernel_rfl) rfl rfl rfl rfl rfl rfl ?_
       rintro g_b2 w_b2 hg_b2 hn_b2 hs_b2
       have hz_b2 := hs_b2.size
       have hb := hb.trans (hs_b2.mono hb.size)
       have hX := hX_hb.below hb
       try have hO := own_below hO hs_b2
       try have hB_o21 := Blk.below hB_o21 hs_b2
       have hB_b2 := hn_b2
       have hl_b2 := hB_b2.lt
       refine Wl.append (z := (.agg #[(.int .i64 0), (str []), (.int .i64 0)])) (sz := 3) (bytes := 32) Tryz.underlying39 (by kernel_rfl) rfl (by decide) _ rfl hO rfl (hB_b2.rd 1 3 rfl) (fun u hu => by have h2 : u ∈ [Value.int .i64 (k : Int), str ((s.drop i).take n), .int .i64 (i : Int)] := hu; simp only [List.mem_cons, List.not_mem_nil, or_false] at h2; rcases h2 with rfl | rfl | rfl <;> rfl) (by simp only [maxLen]; omega) (by omega) (by first | exact hb.size | omega) rfl ?_
       rintro v_b3 w_b3 hn_b3 hg_b3 ha_b3
       have hz_b3 := hg_b3.size
       have hb := hb.grown hg_b3 hb.size (fun k_ hk_ => by have := (own_ge hO k_ hk_).1; omega)
       have hX := hX_hb.below hb
       try have hB_o21 := Blk.grown hB_o21 hg_b3 (by exact hap3_)
       have hO := hn_b3
       refine Wl.y (y_assign rfl) rfl ?_
       refine Wl.nil ?_
       refine Wq.next hK_61 ?_
       refine Wc.region ?_
       refine Wl.y (y_move rfl) rfl ?_
       refine Wl.y (y_fieldAddr (fa49_1LexC _) rfl) rfl ?_
       refine Wl.l (l_load one9LexC rfl (by exact hB_o21.at (j := 1) rfl)) rfl ?_
       refine Wl.y (y_eq (y_lens Tryz.underlying9 (by rw [List.length_take, List.length_drop]; omega) rfl) (int_eq (show _ = (n : Int) by rw [List.length_take, List.length_drop]; omega))) rfl ?_
       refine Wl.y (y_addI rfl rfl (by first | omega | (simp; done) | (simp; omega)) (by first | omega | (simp; done) | (simp; omega))) rfl ?_
       have hlx_ := hlx2
       obtain ⟨j_, hj_⟩ : ∃ j, j = i + n := ⟨_, rfl⟩
       obtain ⟨l_, hl_⟩ : ∃ l', l' = l ++ [⟨k, (s.drop i).take n, i⟩] := ⟨_, rfl⟩
       rw [← hj_, ← hl_] at hlx_
       have hj1_ : j_ ≤ s.length := by omega
       have hl1_ : l_.length ≤ j_ := by rw [hl_, List.length_append]; show l.length + 1 ≤ _; omega
       obtain ⟨v_, hv_⟩ : ∃ v', v' = v_b3 := ⟨_, rfl⟩
       subst hv_
       have hO_ : World.ownsRow w_b3 w.heap.size 49 3 v_ l_.length (l_.flatMap Tok.cells) := by rw [hl_, List.length_append, List.flatMap_append]; exact hO
       refine Wl.y (y_assign rfl) rfl ?_
       refine Wl.nil ?_
       refine Wq.block_normal ?_
       refine fun a_ ha_ => hL_20 _ _ (⟨j_, l_, v_⟩) (by show s.length - j_ < s.length - i; omega) (Sub.cons' rfl (by first | rfl | exact int_eq (by omega)) (Sub.cons' rfl (by first | rfl | exact int_eq (by omega)) (Sub.cons' rfl (by first | rfl | exact int_eq (by omega)) (Sub.nil)))) ?_ a_ ha_
       exact ⟨hj1_, hl1_, hlx_, hb, hO_⟩
    ·
     have c1_28_ := c1_28
     try simp only [decide_eq_true_eq, decide_eq_false_iff_not, beq_iff_eq, beq_eq_false_iff_ne, bne_iff_ne, bne_eq_false_iff_eq, Bool.not_eq_true', Bool.not_eq_false', Bool.not_eq_eq_eq_not, Bool.not_true, Bool.not_false, ne_eq, Int.not_lt, Int.not_le] at c1_28
     refine Wc.exit ?_
     refine Wq.then_exit ?_
     refine Wq.then_exit ?_
     refine Wq.block_exit ?_
     refine Wq.next hK_17 ?_
     refine Wc.seq fun _ hK_73 => ?_
     refine Wc.region ?_
     obtain ⟨A_, c_, rfl, hn1_, _⟩ := own_form hO
     refine Wl.y (y_move rfl) rfl ?_
     refine Wl.y (y_assign rfl) rfl ?_
     refine Wl.y (y_assign rfl) rfl ?_
     refine Wl.y (y_assign rfl) rfl ?_
     refine Wl.nil ?_
     refine Wq.next hK_73 ?_
     refine Wc.ret ?_
     refine ret3 rfl rfl rfl rfl ?_
     exact ⟨_, rfl, .inr (.inr ⟨hsl, l, A_, c_, lx_end hlx (by have := c1_28; omega), rfl, by omega, hn1_, Rd.of_own hO⟩), hb⟩
end Go.Proofs.YtcljmclolpgdmaaGreatDoor
