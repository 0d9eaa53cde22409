/- lex.token, by the calculus. -/
import Derived.Test.YtcljmclolpgdmaaGreatDoorLexA
namespace Go.Proofs.YtcljmclolpgdmaaGreatDoor
open Go.RowKit Go.Bw Go.Bw.Fl
set_option linter.unusedVariables false
set_option linter.unusedSimpArgs false
theorem one53LexB : One Tryz.prog 53 := ⟨_, Tryz.underlying53, rfl, by kernel_rfl⟩
theorem one9LexB : One Tryz.prog 9 := ⟨_, Tryz.underlying9, rfl, by kernel_rfl⟩
theorem sz9LexB : (Tryz.prog.info? 9).map (·.size) = some 1 := by kernel_rfl
theorem txt100LexB : Txt Tryz.prog 100 := ⟨_, Tryz.func100, by kernel_rfl, rfl⟩   -- slices.IndexFunc[[]string,string]
theorem txt16LexB : Txt Tryz.prog 16 := ⟨_, Tryz.func16, by kernel_rfl, rfl⟩   -- bridleway/value.Read
theorem txt97LexB : Txt Tryz.prog 97 := ⟨_, Tryz.func97, by kernel_rfl, rfl⟩   -- bridleway/lex.letters
theorem txt98LexB : Txt Tryz.prog 98 := ⟨_, Tryz.func98, by kernel_rfl, rfl⟩   -- slices.Contains[[]string,string]
theorem txt99LexB : Txt Tryz.prog 99 := ⟨_, Tryz.func99, by kernel_rfl, rfl⟩   -- bridleway/label.Word
/-- a variable's one cell -/
def VarAt (w : World) (g : Nat) (v : Value) : Prop := w.cell? ⟨g, 0, none⟩ = some v
theorem VarAt.below {w w' : World} {g : Nat} {v : Value} (h : VarAt w g v) (hb : Below w.heap.size w w') : VarAt w' g v := cell_below hb h
/-- what the library's and lex's variables hold -/
structure Lx (w : World) : Prop where
  lb : Lb w
  keys : ∃ A c, VarAt w 1 (.slice A 17 c) ∧ Rd w 1 A 17 (strs keysV)
  signs : ∃ A c, VarAt w 2 (.slice A 36 c) ∧ Rd w 1 A 36 (strs signsV)
theorem Lx.below {w w' : World} (h : Lx w) (hb : Below w.heap.size w w') : Lx w' :=
  ⟨h.lb.below hb, h.keys.elim fun A h1 => h1.elim fun c h2 => ⟨A, c, h2.1.below hb, h2.2.below hb⟩, h.signs.elim fun A h1 => h1.elim fun c h2 => ⟨A, c, h2.1.below hb, h2.2.below hb⟩⟩
theorem RdIs.rdN {s : List UInt8} {u : Val} {n : Nat} {ok : Bool} (h : RdIs (readV pf uqV s) u n ok) : rdN s = n := by
  unfold Go.Proofs.YtcljmclolpgdmaaGreatDoor.rdN
  rcases h with ⟨_, h⟩ | ⟨_, h, _, h2⟩
  · rw [h]; rfl
  · rw [h, h2]; rfl
noncomputable def tokE (s : List UInt8) : Value := (Tok.mk (tokV s).1 (s.take (tokV s).2) 0).enc
theorem tok_of {s : List UInt8} {k n : Nat} (h : tokV s = (k, n)) : Value.agg #[.int .i64 (k : Int), str (s.take n), .int .i64 0] = tokE s := by unfold tokE; rw [h]; rfl
theorem tok_none {s : List UInt8} (h : tokV s = (0, 0)) : Value.agg #[.int .i64 0, str [], .int .i64 0] = tokE s := by unfold tokE; rw [h]; rfl
theorem tokV_q {s : List UInt8} (h : (s.getD 0 0).toNat = 39) (h0 : 0 < rdN s) : tokV s = (4, rdN s) := by unfold tokV; rw [if_pos (.inl h), if_pos ⟨h, h0⟩]
theorem tokV_n {s : List UInt8} (h : (s.getD 0 0).toNat = 39 ∨ (48 ≤ (s.getD 0 0).toNat ∧ (s.getD 0 0).toNat ≤ 57)) (h0 : ¬ ((s.getD 0 0).toNat = 39 ∧ 0 < rdN s)) (h1 : 0 < max (rdN s) (rdN (45 :: s) - 1) ∧ (s.getD 0 0).toNat ≠ 39) : tokV s = (3, max (rdN s) (rdN (45 :: s) - 1)) := by unfold tokV; rw [if_pos h, if_neg h0, if_pos h1]
theorem tokV_m {s : List UInt8} (h : (s.getD 0 0).toNat = 39 ∨ (48 ≤ (s.getD 0 0).toNat ∧ (s.getD 0 0).toNat ≤ 57)) (h0 : ¬ ((s.getD 0 0).toNat = 39 ∧ 0 < rdN s)) (h1 : ¬ (0 < max (rdN s) (rdN (45 :: s) - 1) ∧ (s.getD 0 0).toNat ≠ 39)) : tokV s = (0, 0) := by unfold tokV; rw [if_pos h, if_neg h0, if_neg h1]
theorem tokV_k {s : List UInt8} (h : ¬ ((s.getD 0 0).toNat = 39 ∨ (48 ≤ (s.getD 0 0).toNat ∧ (s.getD 0 0).toNat ≤ 57))) (h0 : 0 < letN s) (h1 : s.take (letN s) ∈ keysV) : tokV s = (2, letN s) := by unfold tokV; rw [if_neg h, if_pos h0, if_pos h1]
theorem tokV_w {s : List UInt8} (h : ¬ ((s.getD 0 0).toNat = 39 ∨ (48 ≤ (s.getD 0 0).toNat ∧ (s.getD 0 0).toNat ≤ 57))) (h0 : 0 < letN s) (h1 : ¬ s.take (letN s) ∈ keysV) (h2 : wordV (s.take (letN s)) = true) : tokV s = (1, letN s) := by unfold tokV; rw [if_neg h, if_pos h0, if_neg h1, if_pos h2]
theorem tokV_u {s : List UInt8} (h : ¬ ((s.getD 0 0).toNat = 39 ∨ (48 ≤ (s.getD 0 0).toNat ∧ (s.getD 0 0).toNat ≤ 57))) (h0 : 0 < letN s) (h1 : ¬ s.take (letN s) ∈ keysV) (h2 : ¬ wordV (s.take (letN s)) = true) : tokV s = (0, 0) := by unfold tokV; rw [if_neg h, if_pos h0, if_neg h1, if_neg h2]
theorem tokV_s {s x : List UInt8} (h : ¬ ((s.getD 0 0).toNat = 39 ∨ (48 ≤ (s.getD 0 0).toNat ∧ (s.getD 0 0).toNat ≤ 57))) (h0 : ¬ 0 < letN s) (h1 : signsV.find? (fun x => Lib.hasPrefix s x) = some x) : tokV s = (5, x.length) := by unfold tokV; rw [if_neg h, if_neg h0, h1]
theorem tokV_t {s : List UInt8} (h : ¬ ((s.getD 0 0).toNat = 39 ∨ (48 ≤ (s.getD 0 0).toNat ∧ (s.getD 0 0).toNat ≤ 57))) (h0 : ¬ 0 < letN s) (h1 : signsV.find? (fun x => Lib.hasPrefix s x) = none) : tokV s = (0, 0) := by unfold tokV; rw [if_neg h, if_neg h0, h1]
theorem sign_take {s x : List UInt8} (h : Lib.hasPrefix s x = true) : x = s.take x.length := List.prefix_iff_eq_take.1 ((pre_iff _ _).1 h)
theorem token_r (s : List UInt8) (hne : s ≠ []) (hs : s.length ≤ 70368744177664) (w : World) (hX : Lx w) : Ret Tryz.prog 56 [str s] w fun v w' => v = tokE s ∧ Below w.heap.size w w' := by
  have hL := hX.lb
  obtain ⟨A1, c1, hk1, hrk⟩ := hX.keys
  obtain ⟨A2, c2, hk2, hrs⟩ := hX.signs
  obtain ⟨c, hc⟩ : ∃ c, c = s.getD 0 0 := ⟨_, rfl⟩
  have hpos : 0 < s.length := List.length_pos_iff.2 hne
  have hlen := letN_le s
  have hd1 := rdN_le s
  have hd2 := rdN_le (45 :: s)
  simp only [List.length_cons] at hd2
  have hb := Below.refl w.heap.size w
  have hL_hb := hL
  have hk1_hb := hk1
  have hrk_hb := hrk
  have hk2_hb := hk2
  have hrs_hb := hrs
  refine enter Tryz.func56 rfl rfl rfl ?_
  refine Wc.seq fun _ hK_1 => ?_
  refine Wc.region ?_
  refine Wl.boxN rfl rfl ?_
  rintro g_o0 w_o0 hg_o0 hn_o0 hs_o0
  have hz_o0 := hs_o0.size
  have hb := hb.trans (hs_o0.mono hb.size)
  have hL := hL_hb.below hb
  have hk1 := hk1_hb.below hb
  have hrk := hrk_hb.below hb
  have hk2 := hk2_hb.below hb
  have hrs := hrs_hb.below hb
  have hB_o0 := hn_o0
  have hl_o0 := hB_o0.lt
  refine Wl.allocN (z := (.agg #[(.int .i64 0), (str []), (.int .i64 0)])) (by kernel_rfl) rfl ?_
  rintro g_o1 w_o1 hg_o1 hn_o1 hs_o1
  have hz_o1 := hs_o1.size
  have hb := hb.trans (hs_o1.mono hb.size)
  have hL := hL_hb.below hb
  have hk1 := hk1_hb.below hb
  have hrk := hrk_hb.below hb
  have hk2 := hk2_hb.below hb
  have hrs := hrs_hb.below hb
  try have hB_o0 := Blk.below hB_o0 hs_o1
  have hB_o1 := hn_o1
  have hl_o1 := hB_o1.lt
  refine Wl.nil ?_
  refine Wq.next hK_1 ?_
  refine Wc.seq fun _ hK_4 => ?_
  refine Wc.region ?_
  refine Wl.l (l_load one9LexB rfl (by first | exact hB_o0.at rfl | exact hB_o1.at rfl | exact hB_o0.cell 0 | exact hB_o1.cell 0 | assumption)) rfl ?_
  refine Wl.y (y_eq (y_indexs Tryz.underlying9 rfl rfl (by omega) (by omega)) (int_eq (show _ = (c.toNat : Int) by rw [hc]; rfl))) rfl ?_
  refine Wl.y (y_assign rfl) rfl ?_
  refine Wl.nil ?_
  refine Wq.next hK_4 ?_
  refine Wc.seq fun _ hK_8 => ?_
  refine Wc.seq fun _ hK_9 => ?_
  refine Wc.region ?_
  refine Wl.l (l_load one9LexB rfl (by first | exact hB_o0.at rfl | exact hB_o1.at rfl | exact hB_o0.cell 0 | exact hB_o1.cell 0 | assumption)) rfl ?_
  refine Wl.call txt97LexB rfl rfl (letters_r s (by omega) _) rfl ?_
  rintro _ w_k0 ⟨rfl, hs_k0⟩
  have hz_k0 := hs_k0.size
  have hb := hb.trans (hs_k0.mono hb.size)
  have hL := hL_hb.below hb
  have hk1 := hk1_hb.below hb
  have hrk := hrk_hb.below hb
  have hk2 := hk2_hb.below hb
  have hrs := hrs_hb.below hb
  try have hB_o0 := Blk.below hB_o0 hs_k0
  try have hB_o1 := Blk.below hB_o1 hs_k0
  refine Wl.y (y_assign rfl) rfl ?_
  refine Wl.nil ?_
  refine Wq.next hK_9 ?_
  refine Wc.block ?_
  refine Wc.seq fun _ hK_13 => ?_
  refine Wc.meet (X := Bool) (fun q => [(1, .pointer (some ⟨g_o0, 0, none⟩)), (2, .pointer (some ⟨g_o1, 0, none⟩)), (3, .int .u8 (c.toNat : Int)), (4, .int .i64 (letN s : Nat)), (16, .bool q)]) (fun q wr => q = decide (c.toNat = 39 ∨ (48 ≤ c.toNat ∧ c.toNat ≤ 57)) ∧ Below w.heap.size w wr ∧ Blk wr g_o0 9 [str s] ∧ Blk wr g_o1 49 [.int .i64 0, str [], .int .i64 0]) (fun _ hM_14 => ?_) ?_
  ·
   refine Wc.region ?_
   refine Wl.y (y_move rfl) rfl ?_
   refine Wl.y (y_eqli rfl rfl) rfl ?_
   refine Wl.y (y_move rfl) rfl ?_
   refine Wl.guardF rfl rfl rfl (fun g_18 => ?_) (fun g_18 => ?_)
   ·
    have g_18_ := g_18
    try simp only [decide_eq_true_eq, decide_eq_false_iff_not, beq_iff_eq, beq_eq_false_iff_ne, bne_iff_ne, bne_eq_false_iff_eq, Bool.not_eq_true', Bool.not_eq_false', Bool.not_eq_eq_eq_not, Bool.not_true, Bool.not_false, ne_eq, Int.not_lt, Int.not_le] at g_18
    refine Wl.off' rfl rfl g_18_ rfl rfl ?_
    refine Wl.off' rfl rfl g_18_ rfl rfl ?_
    refine Wl.offU rfl rfl rfl ?_
    refine Wl.offU rfl rfl rfl ?_
    refine Wl.off' rfl rfl g_18_ rfl rfl ?_
    refine Wl.y (y_pickT rfl g_18_ rfl) rfl ?_
    refine Wl.y (y_assign rfl) rfl ?_
    refine Wl.nil ?_
    refine Wq.meet hM_14 (decide (c.toNat = 39 ∨ (48 ≤ c.toNat ∧ c.toNat ≤ 57))) (Sub.cons' rfl (by first | rfl | exact bool_eq (by rw [Bool.eq_iff_iff]; simp; omega)) (Sub.cons' rfl (by first | rfl | exact bool_eq (by rw [Bool.eq_iff_iff]; simp; omega)) (Sub.cons' rfl (by first | rfl | exact bool_eq (by rw [Bool.eq_iff_iff]; simp; omega)) (Sub.cons' rfl (by first | rfl | exact bool_eq (by rw [Bool.eq_iff_iff]; simp; omega)) (Sub.cons' rfl (by first | rfl | exact bool_eq (by rw [Bool.eq_iff_iff]; simp; omega)) (Sub.nil)))))) ?_
    exact ⟨rfl, hb, hB_o0, hB_o1⟩
   ·
    have g_18_ := g_18
    try simp only [decide_eq_true_eq, decide_eq_false_iff_not, beq_iff_eq, beq_eq_false_iff_ne, bne_iff_ne, bne_eq_false_iff_eq, Bool.not_eq_true', Bool.not_eq_false', Bool.not_eq_eq_eq_not, Bool.not_true, Bool.not_false, ne_eq, Int.not_lt, Int.not_le] at g_18
    refine Wl.y (y_move rfl) rfl ?_
    refine Wl.on' rfl rfl g_18_ ?_
    refine Wl.y (y_geqi rfl rfl) rfl ?_
    refine Wl.on' rfl rfl g_18_ ?_
    refine Wl.y (y_move rfl) rfl ?_
    refine Wl.guardT rfl rfl rfl (fun g_24 => ?_) (fun g_24 => ?_)
    ·
     have g_24_ := g_24
     try simp only [decide_eq_true_eq, decide_eq_false_iff_not, beq_iff_eq, beq_eq_false_iff_ne, bne_iff_ne, bne_eq_false_iff_eq, Bool.not_eq_true', Bool.not_eq_false', Bool.not_eq_eq_eq_not, Bool.not_true, Bool.not_false, ne_eq, Int.not_lt, Int.not_le] at g_24
     refine Wl.y (y_move rfl) rfl ?_
     refine Wl.on' rfl rfl g_24_ ?_
     refine Wl.y (y_leqi rfl rfl) rfl ?_
     refine Wl.on' rfl rfl g_18_ ?_
     refine Wl.y (y_pickT rfl g_24_ rfl) rfl ?_
     refine Wl.y (y_pickF rfl g_18_ rfl) rfl ?_
     refine Wl.y (y_assign rfl) rfl ?_
     refine Wl.nil ?_
     refine Wq.meet hM_14 (decide (c.toNat = 39 ∨ (48 ≤ c.toNat ∧ c.toNat ≤ 57))) (Sub.cons' rfl (by first | rfl | exact bool_eq (by rw [Bool.eq_iff_iff]; simp; omega)) (Sub.cons' rfl (by first | rfl | exact bool_eq (by rw [Bool.eq_iff_iff]; simp; omega)) (Sub.cons' rfl (by first | rfl | exact bool_eq (by rw [Bool.eq_iff_iff]; simp; omega)) (Sub.cons' rfl (by first | rfl | exact bool_eq (by rw [Bool.eq_iff_iff]; simp; omega)) (Sub.cons' rfl (by first | rfl | exact bool_eq (by rw [Bool.eq_iff_iff]; simp; omega)) (Sub.nil)))))) ?_
     exact ⟨rfl, hb, hB_o0, hB_o1⟩
    ·
     have g_24_ := g_24
     try simp only [decide_eq_true_eq, decide_eq_false_iff_not, beq_iff_eq, beq_eq_false_iff_ne, bne_iff_ne, bne_eq_false_iff_eq, Bool.not_eq_true', Bool.not_eq_false', Bool.not_eq_eq_eq_not, Bool.not_true, Bool.not_false, ne_eq, Int.not_lt, Int.not_le] at g_24
     refine Wl.off' rfl rfl g_24_ rfl rfl ?_
     refine Wl.on' rfl rfl g_18_ ?_
     refine Wl.y (y_pickF rfl g_24_ rfl) rfl ?_
     refine Wl.y (y_pickF rfl g_18_ rfl) rfl ?_
     refine Wl.y (y_assign rfl) rfl ?_
     refine Wl.nil ?_
     refine Wq.meet hM_14 (decide (c.toNat = 39 ∨ (48 ≤ c.toNat ∧ c.toNat ≤ 57))) (Sub.cons' rfl (by first | rfl | exact bool_eq (by rw [Bool.eq_iff_iff]; simp; omega)) (Sub.cons' rfl (by first | rfl | exact bool_eq (by rw [Bool.eq_iff_iff]; simp; omega)) (Sub.cons' rfl (by first | rfl | exact bool_eq (by rw [Bool.eq_iff_iff]; simp; omega)) (Sub.cons' rfl (by first | rfl | exact bool_eq (by rw [Bool.eq_iff_iff]; simp; omega)) (Sub.cons' rfl (by first | rfl | exact bool_eq (by rw [Bool.eq_iff_iff]; simp; omega)) (Sub.nil)))))) ?_
     exact ⟨rfl, hb, hB_o0, hB_o1⟩
  ·
   rintro q wr hI_33
   replace hI_33 : q = decide (c.toNat = 39 ∨ (48 ≤ c.toNat ∧ c.toNat ≤ 57)) ∧ Below w.heap.size w wr ∧ Blk wr g_o0 9 [str s] ∧ Blk wr g_o1 49 [.int .i64 0, str [], .int .i64 0] := hI_33
   obtain ⟨hq, hb, hB_o0, hB_o1⟩ := hI_33
   show Wq _ _ _ _ [(1, .pointer (some ⟨g_o0, 0, none⟩)), (2, .pointer (some ⟨g_o1, 0, none⟩)), (3, .int .u8 (c.toNat : Int)), (4, .int .i64 (letN s : Nat)), (16, .bool q)] _
   have hL := hL_hb.below hb
   have hk1 := hk1_hb.below hb
   have hrk := hrk_hb.below hb
   have hk2 := hk2_hb.below hb
   have hrs := hrs_hb.below hb
   try have hzhb_g3 := hb.size
   have hlhB_o0_g3 := hB_o0.lt
   have hlhB_o1_g3 := hB_o1.lt
   refine Wq.next hK_13 ?_
   refine Wc.cond rfl (fun c0_34 => ?_) (fun c0_34 => ?_)
   ·
    have c0_34_ := c0_34
    try simp only [decide_eq_true_eq, decide_eq_false_iff_not, beq_iff_eq, beq_eq_false_iff_ne, bne_iff_ne, bne_eq_false_iff_eq, Bool.not_eq_true', Bool.not_eq_false', Bool.not_eq_eq_eq_not, Bool.not_true, Bool.not_false, ne_eq, Int.not_lt, Int.not_le] at c0_34
    have hq0 : c.toNat = 39 ∨ (48 ≤ c.toNat ∧ c.toNat ≤ 57) := by have h := c0_34_; rw [hq] at h; exact of_decide_eq_true h
    refine Wc.seq fun _ hK_35 => ?_
    refine Wc.region ?_
    refine Wl.l (l_load one9LexB rfl (by first | exact hB_o0.at rfl | exact hB_o1.at rfl | exact hB_o0.cell 0 | exact hB_o1.cell 0 | assumption)) rfl ?_
    refine Wl.call txt16LexB rfl rfl (Read_x s (by omega) _ hL) rfl ?_
    rintro _ w_k1 ⟨⟨u, n, ok, rfl, hr⟩, hs_k1⟩
    have hz_k1 := hs_k1.size
    have hb := hb.trans (hs_k1.mono hb.size)
    have hL := hL_hb.below hb
    have hk1 := hk1_hb.below hb
    have hrk := hrk_hb.below hb
    have hk2 := hk2_hb.below hb
    have hrs := hrs_hb.below hb
    try have hB_o0 := Blk.below hB_o0 hs_k1
    try have hB_o1 := Blk.below hB_o1 hs_k1
    refine Wl.y (y_move rfl) rfl ?_
    refine Wl.y (y_extract rfl rfl) rfl ?_
    refine Wl.y (y_extract rfl rfl) rfl ?_
    refine Wl.y (y_extract rfl rfl) rfl ?_
    refine Wl.allocN (z := (.agg #[(.int .i64 0), (.int .i64 0), (.float .f64 0), (str [])])) (by kernel_rfl) rfl ?_
    rintro g_o19 w_o19 hg_o19 hn_o19 hs_o19
    have hz_o19 := hs_o19.size
    have hb := hb.trans (hs_o19.mono hb.size)
    have hL := hL_hb.below hb
    have hk1 := hk1_hb.below hb
    have hrk := hrk_hb.below hb
    have hk2 := hk2_hb.below hb
    have hrs := hrs_hb.below hb
    try have hB_o0 := Blk.below hB_o0 hs_o19
    try have hB_o1 := Blk.below hB_o1 hs_o19
    have hB_o19 := hn_o19
    have hl_o19 := hB_o19.lt
    refine Wl.storeS (by kernel_rfl) rfl rfl hB_o19 rfl rfl ?_
    rintro w_s0 hn_s0 hg_s0
    have hz_s0 := hg_s0.size
    have hb := below_blk hb hg_s0 hb.size (by omega)
    have hL := hL_hb.below hb
    have hk1 := hk1_hb.below hb
    have hrk := hrk_hb.below hb
    have hk2 := hk2_hb.below hb
    have hrs := hrs_hb.below hb
    try have hB_o0 := hB_o0.over hg_s0 (by omega)
    try have hB_o1 := hB_o1.over hg_s0 (by omega)
    have hB_o19 := hn_s0
    refine Wl.y (y_assign rfl) rfl ?_
    refine Wl.y (y_assign rfl) rfl ?_
    refine Wl.nil ?_
    refine Wq.next hK_35 ?_
    refine Wc.seq fun _ hK_45 => ?_
    refine Wc.seq fun _ hK_46 => ?_
    have hn := hr.rdN
    refine Wc.meet (X := Bool) (fun q1 => [(1, .pointer (some ⟨g_o0, 0, none⟩)), (2, .pointer (some ⟨g_o1, 0, none⟩)), (3, .int .u8 (c.toNat : Int)), (4, .int .i64 (letN s : Nat)), (6, .int .i64 (rdN s : Nat)), (38, .bool q1)]) (fun q1 wr => q1 = decide (c.toNat = 39 ∧ 0 < rdN s) ∧ Below w.heap.size w wr ∧ Blk wr g_o0 9 [str s] ∧ Blk wr g_o1 49 [.int .i64 0, str [], .int .i64 0]) (fun _ hM_47 => ?_) ?_
    ·
     refine Wc.region ?_
     refine Wl.y (y_move rfl) rfl ?_
     refine Wl.y (y_eqli rfl rfl) rfl ?_
     refine Wl.y (y_move rfl) rfl ?_
     refine Wl.guardT rfl rfl rfl (fun g_51 => ?_) (fun g_51 => ?_)
     ·
      have g_51_ := g_51
      try simp only [decide_eq_true_eq, decide_eq_false_iff_not, beq_iff_eq, beq_eq_false_iff_ne, bne_iff_ne, bne_eq_false_iff_eq, Bool.not_eq_true', Bool.not_eq_false', Bool.not_eq_eq_eq_not, Bool.not_true, Bool.not_false, ne_eq, Int.not_lt, Int.not_le] at g_51
      refine Wl.y (y_move rfl) rfl ?_
      refine Wl.on' rfl rfl g_51_ ?_
      refine Wl.y (y_gtri rfl rfl) rfl ?_
      refine Wl.y (y_pickT rfl g_51_ rfl) rfl ?_
      refine Wl.nil ?_
      refine Wq.meet hM_47 (decide (c.toNat = 39 ∧ 0 < rdN s)) (Sub.cons' rfl (by first | rfl | exact int_eq (by rw [hr.rdN]) | exact bool_eq (by rw [hr.rdN, Bool.eq_iff_iff]; simp; omega)) (Sub.cons' rfl (by first | rfl | exact int_eq (by rw [hr.rdN]) | exact bool_eq (by rw [hr.rdN, Bool.eq_iff_iff]; simp; omega)) (Sub.cons' rfl (by first | rfl | exact int_eq (by rw [hr.rdN]) | exact bool_eq (by rw [hr.rdN, Bool.eq_iff_iff]; simp; omega)) (Sub.cons' rfl (by first | rfl | exact int_eq (by rw [hr.rdN]) | exact bool_eq (by rw [hr.rdN, Bool.eq_iff_iff]; simp; omega)) (Sub.cons' rfl (by first | rfl | exact int_eq (by rw [hr.rdN]) | exact bool_eq (by rw [hr.rdN, Bool.eq_iff_iff]; simp; omega)) (Sub.cons' rfl (by first | rfl | exact int_eq (by rw [hr.rdN]) | exact bool_eq (by rw [hr.rdN, Bool.eq_iff_iff]; simp; omega)) (Sub.nil))))))) ?_
      exact ⟨rfl, hb, hB_o0, hB_o1⟩
     ·
      have g_51_ := g_51
      try simp only [decide_eq_true_eq, decide_eq_false_iff_not, beq_iff_eq, beq_eq_false_iff_ne, bne_iff_ne, bne_eq_false_iff_eq, Bool.not_eq_true', Bool.not_eq_false', Bool.not_eq_eq_eq_not, Bool.not_true, Bool.not_false, ne_eq, Int.not_lt, Int.not_le] at g_51
      refine Wl.off' rfl rfl g_51_ rfl rfl ?_
      refine Wl.y (y_pickF rfl g_51_ rfl) rfl ?_
      refine Wl.nil ?_
      refine Wq.meet hM_47 (decide (c.toNat = 39 ∧ 0 < rdN s)) (Sub.cons' rfl (by first | rfl | exact int_eq (by rw [hr.rdN]) | exact bool_eq (by rw [hr.rdN, Bool.eq_iff_iff]; simp; omega)) (Sub.cons' rfl (by first | rfl | exact int_eq (by rw [hr.rdN]) | exact bool_eq (by rw [hr.rdN, Bool.eq_iff_iff]; simp; omega)) (Sub.cons' rfl (by first | rfl | exact int_eq (by rw [hr.rdN]) | exact bool_eq (by rw [hr.rdN, Bool.eq_iff_iff]; simp; omega)) (Sub.cons' rfl (by first | rfl | exact int_eq (by rw [hr.rdN]) | exact bool_eq (by rw [hr.rdN, Bool.eq_iff_iff]; simp; omega)) (Sub.cons' rfl (by first | rfl | exact int_eq (by rw [hr.rdN]) | exact bool_eq (by rw [hr.rdN, Bool.eq_iff_iff]; simp; omega)) (Sub.cons' rfl (by first | rfl | exact int_eq (by rw [hr.rdN]) | exact bool_eq (by rw [hr.rdN, Bool.eq_iff_iff]; simp; omega)) (Sub.nil))))))) ?_
      exact ⟨rfl, hb, hB_o0, hB_o1⟩
    ·
     rintro q1 wr hI_56
     replace hI_56 : q1 = decide (c.toNat = 39 ∧ 0 < rdN s) ∧ Below w.heap.size w wr ∧ Blk wr g_o0 9 [str s] ∧ Blk wr g_o1 49 [.int .i64 0, str [], .int .i64 0] := hI_56
     obtain ⟨hq1, hb, hB_o0, hB_o1⟩ := hI_56
     show Wq _ _ _ _ [(1, .pointer (some ⟨g_o0, 0, none⟩)), (2, .pointer (some ⟨g_o1, 0, none⟩)), (3, .int .u8 (c.toNat : Int)), (4, .int .i64 (letN s : Nat)), (6, .int .i64 (rdN s : Nat)), (38, .bool q1)] _
     have hL := hL_hb.below hb
     have hk1 := hk1_hb.below hb
     have hrk := hrk_hb.below hb
     have hk2 := hk2_hb.below hb
     have hrs := hrs_hb.below hb
     try have hzhb_g5 := hb.size
     have hlhB_o0_g5 := hB_o0.lt
     have hlhB_o1_g5 := hB_o1.lt
     refine Wq.next hK_46 ?_
     refine Wc.cond rfl (fun c1_57 => ?_) (fun c1_57 => ?_)
     ·
      have c1_57_ := c1_57
      try simp only [decide_eq_true_eq, decide_eq_false_iff_not, beq_iff_eq, beq_eq_false_iff_ne, bne_iff_ne, bne_eq_false_iff_eq, Bool.not_eq_true', Bool.not_eq_false', Bool.not_eq_eq_eq_not, Bool.not_true, Bool.not_false, ne_eq, Int.not_lt, Int.not_le] at c1_57
      have hq3 : c.toNat = 39 ∧ 0 < rdN s := by have h := c1_57_; rw [hq1] at h; exact of_decide_eq_true h
      refine Wc.seq fun _ hK_58 => ?_
      refine Wc.region ?_
      refine Wl.l (l_load one9LexB rfl (by first | exact hB_o0.at rfl | exact hB_o1.at rfl | exact hB_o0.cell 0 | exact hB_o1.cell 0 | assumption)) rfl ?_
      refine Wl.y (y_move rfl) rfl ?_
      refine Wl.y (y_eq (y_slicesH Tryz.underlying9 rfl rfl (by omega) (by omega)) (str_eq (show _ = s.take (rdN s) by rw [Int.toNat_natCast]))) rfl ?_
      refine Wl.y (y_buildS (z := [(.int .i64 0), (str []), (.int .i64 0)]) (pl := [(0, 1), (1, 1), (2, 1)]) (cs := [_, _, _]) Tryz.underlying49 (by kernel_rfl) (by kernel_rfl) rfl rfl rfl) rfl ?_
      refine Wl.storeS (by kernel_rfl) rfl rfl hB_o1 rfl rfl ?_
      rintro w_s1 hn_s1 hg_s1
      have hz_s1 := hg_s1.size
      have hb := below_blk hb hg_s1 hb.size (by omega)
      have hL := hL_hb.below hb
      have hk1 := hk1_hb.below hb
      have hrk := hrk_hb.below hb
      have hk2 := hk2_hb.below hb
      have hrs := hrs_hb.below hb
      have hB_o1 := hn_s1
      refine Wl.nil ?_
      refine Wq.next hK_58 ?_
      refine Wc.ret ?_
      refine Wq.then_ret (Wq.block_ret (Wq.then_ret ?_))
      refine retN (rs := [.cell 2 49]) (vs := [_]) rfl (.cell rfl (loadS Tryz.underlying49 (by kernel_rfl) (fun j u hu => hB_o1.at hu)) .nil) ?_
      exact ⟨_, rfl, tok_of (tokV_q (by rw [← hc]; exact hq3.1) hq3.2), hb⟩
     ·
      have c1_57_ := c1_57
      try simp only [decide_eq_true_eq, decide_eq_false_iff_not, beq_iff_eq, beq_eq_false_iff_ne, bne_iff_ne, bne_eq_false_iff_eq, Bool.not_eq_true', Bool.not_eq_false', Bool.not_eq_eq_eq_not, Bool.not_true, Bool.not_false, ne_eq, Int.not_lt, Int.not_le] at c1_57
      have hq3 : ¬ (c.toNat = 39 ∧ 0 < rdN s) := by have h := c1_57_; rw [hq1] at h; exact of_decide_eq_false h
      refine Wc.skip ?_
      refine Wq.next hK_45 ?_
      refine Wc.seq fun _ hK_63 => ?_
      refine Wc.region ?_
      refine Wl.l (l_load one9LexB rfl (by first | exact hB_o0.at rfl | exact hB_o1.at rfl | exact hB_o0.cell 0 | exact hB_o1.cell 0 | assumption)) rfl ?_
      refine Wl.y (y_eq (y_adds rfl rfl (by first | omega | (simp; done) | (simp; omega))) (str_eq (show _ = 45 :: s by rfl))) rfl ?_
      refine Wl.call txt16LexB rfl rfl (Read_x (45 :: s) (by show s.length + 1 ≤ _; omega) _ hL) rfl ?_
      rintro _ w_k2 ⟨⟨u2, m, ok2, rfl, hr2⟩, hs_k2⟩
      have hz_k2 := hs_k2.size
      have hb := hb.trans (hs_k2.mono hb.size)
      have hL := hL_hb.below hb
      have hk1 := hk1_hb.below hb
      have hrk := hrk_hb.below hb
      have hk2 := hk2_hb.below hb
      have hrs := hrs_hb.below hb
      try have hB_o0 := Blk.below hB_o0 hs_k2
      try have hB_o1 := Blk.below hB_o1 hs_k2
      refine Wl.y (y_move rfl) rfl ?_
      refine Wl.y (y_extract rfl rfl) rfl ?_
      refine Wl.y (y_extract rfl rfl) rfl ?_
      refine Wl.y (y_extract rfl rfl) rfl ?_
      refine Wl.allocN (z := (.agg #[(.int .i64 0), (.int .i64 0), (.float .f64 0), (str [])])) (by kernel_rfl) rfl ?_
      rintro g_o35 w_o35 hg_o35 hn_o35 hs_o35
      have hz_o35 := hs_o35.size
      have hb := hb.trans (hs_o35.mono hb.size)
      have hL := hL_hb.below hb
      have hk1 := hk1_hb.below hb
      have hrk := hrk_hb.below hb
      have hk2 := hk2_hb.below hb
      have hrs := hrs_hb.below hb
      try have hB_o0 := Blk.below hB_o0 hs_o35
      try have hB_o1 := Blk.below hB_o1 hs_o35
      have hB_o35 := hn_o35
      have hl_o35 := hB_o35.lt
      refine Wl.storeS (by kernel_rfl) rfl rfl hB_o35 rfl rfl ?_
      rintro w_s2 hn_s2 hg_s2
      have hz_s2 := hg_s2.size
      have hb := below_blk hb hg_s2 hb.size (by omega)
      have hL := hL_hb.below hb
      have hk1 := hk1_hb.below hb
      have hrk := hrk_hb.below hb
      have hk2 := hk2_hb.below hb
      have hrs := hrs_hb.below hb
      try have hB_o0 := hB_o0.over hg_s2 (by omega)
      try have hB_o1 := hB_o1.over hg_s2 (by omega)
      have hB_o35 := hn_s2
      have hm_ := hr2.rdN
      refine Wl.y (y_assign rfl) rfl ?_
      refine Wl.y (y_assign rfl) rfl ?_
      refine Wl.nil ?_
      refine Wq.next hK_63 ?_
      refine Wc.seq fun _ hK_74 => ?_
      refine Wc.meet (X := Bool) (fun q4 => [(1, .pointer (some ⟨g_o0, 0, none⟩)), (2, .pointer (some ⟨g_o1, 0, none⟩)), (3, .int .u8 (c.toNat : Int)), (4, .int .i64 (letN s : Nat)), (6, .int .i64 (rdN s : Nat)), (9, .int .i64 (rdN (45 :: s) : Nat)), (58, .bool q4)]) (fun q4 wr => q4 = decide (0 < max (rdN s) (rdN (45 :: s) - 1) ∧ c.toNat ≠ 39) ∧ Below w.heap.size w wr ∧ Blk wr g_o0 9 [str s] ∧ Blk wr g_o1 49 [.int .i64 0, str [], .int .i64 0]) (fun _ hM_75 => ?_) ?_
      ·
       refine Wc.region ?_
       refine Wl.y (y_move rfl) rfl ?_
       refine Wl.y (y_move rfl) rfl ?_
       refine Wl.y (y_subI rfl rfl (by first | omega | (simp; done) | (simp; omega)) (by first | omega | (simp; done) | (simp; omega))) rfl ?_
       refine Wl.y (y_max rfl rfl) rfl ?_
       refine Wl.y (y_gtri rfl rfl) rfl ?_
       refine Wl.y (y_move rfl) rfl ?_
       refine Wl.guardT rfl rfl rfl (fun g_82 => ?_) (fun g_82 => ?_)
       ·
        have g_82_ := g_82
        try simp only [decide_eq_true_eq, decide_eq_false_iff_not, beq_iff_eq, beq_eq_false_iff_ne, bne_iff_ne, bne_eq_false_iff_eq, Bool.not_eq_true', Bool.not_eq_false', Bool.not_eq_eq_eq_not, Bool.not_true, Bool.not_false, ne_eq, Int.not_lt, Int.not_le] at g_82
        refine Wl.y (y_move rfl) rfl ?_
        refine Wl.on' rfl rfl g_82_ ?_
        refine Wl.y (y_neqi rfl rfl) rfl ?_
        refine Wl.y (y_pickT rfl g_82_ rfl) rfl ?_
        refine Wl.nil ?_
        refine Wq.meet hM_75 (decide (0 < max (rdN s) (rdN (45 :: s) - 1) ∧ c.toNat ≠ 39)) (Sub.cons' rfl (by first | rfl | exact int_eq (by rw [hr2.rdN]) | exact bool_eq (by rw [hr2.rdN, Bool.eq_iff_iff]; simp; omega)) (Sub.cons' rfl (by first | rfl | exact int_eq (by rw [hr2.rdN]) | exact bool_eq (by rw [hr2.rdN, Bool.eq_iff_iff]; simp; omega)) (Sub.cons' rfl (by first | rfl | exact int_eq (by rw [hr2.rdN]) | exact bool_eq (by rw [hr2.rdN, Bool.eq_iff_iff]; simp; omega)) (Sub.cons' rfl (by first | rfl | exact int_eq (by rw [hr2.rdN]) | exact bool_eq (by rw [hr2.rdN, Bool.eq_iff_iff]; simp; omega)) (Sub.cons' rfl (by first | rfl | exact int_eq (by rw [hr2.rdN]) | exact bool_eq (by rw [hr2.rdN, Bool.eq_iff_iff]; simp; omega)) (Sub.cons' rfl (by first | rfl | exact int_eq (by rw [hr2.rdN]) | exact bool_eq (by rw [hr2.rdN, Bool.eq_iff_iff]; simp; omega)) (Sub.cons' rfl (by first | rfl | exact int_eq (by rw [hr2.rdN]) | exact bool_eq (by rw [hr2.rdN, Bool.eq_iff_iff]; simp; omega)) (Sub.nil)))))))) ?_
        exact ⟨rfl, hb, hB_o0, hB_o1⟩
       ·
        have g_82_ := g_82
        try simp only [decide_eq_true_eq, decide_eq_false_iff_not, beq_iff_eq, beq_eq_false_iff_ne, bne_iff_ne, bne_eq_false_iff_eq, Bool.not_eq_true', Bool.not_eq_false', Bool.not_eq_eq_eq_not, Bool.not_true, Bool.not_false, ne_eq, Int.not_lt, Int.not_le] at g_82
        refine Wl.off' rfl rfl g_82_ rfl rfl ?_
        refine Wl.y (y_pickF rfl g_82_ rfl) rfl ?_
        refine Wl.nil ?_
        refine Wq.meet hM_75 (decide (0 < max (rdN s) (rdN (45 :: s) - 1) ∧ c.toNat ≠ 39)) (Sub.cons' rfl (by first | rfl | exact int_eq (by rw [hr2.rdN]) | exact bool_eq (by rw [hr2.rdN, Bool.eq_iff_iff]; simp; omega)) (Sub.cons' rfl (by first | rfl | exact int_eq (by rw [hr2.rdN]) | exact bool_eq (by rw [hr2.rdN, Bool.eq_iff_iff]; simp; omega)) (Sub.cons' rfl (by first | rfl | exact int_eq (by rw [hr2.rdN]) | exact bool_eq (by rw [hr2.rdN, Bool.eq_iff_iff]; simp; omega)) (Sub.cons' rfl (by first | rfl | exact int_eq (by rw [hr2.rdN]) | exact bool_eq (by rw [hr2.rdN, Bool.eq_iff_iff]; simp; omega)) (Sub.cons' rfl (by first | rfl | exact int_eq (by rw [hr2.rdN]) | exact bool_eq (by rw [hr2.rdN, Bool.eq_iff_iff]; simp; omega)) (Sub.cons' rfl (by first | rfl | exact int_eq (by rw [hr2.rdN]) | exact bool_eq (by rw [hr2.rdN, Bool.eq_iff_iff]; simp; omega)) (Sub.cons' rfl (by first | rfl | exact int_eq (by rw [hr2.rdN]) | exact bool_eq (by rw [hr2.rdN, Bool.eq_iff_iff]; simp; omega)) (Sub.nil)))))))) ?_
        exact ⟨rfl, hb, hB_o0, hB_o1⟩
      ·
       rintro q4 wr hI_87
       replace hI_87 : q4 = decide (0 < max (rdN s) (rdN (45 :: s) - 1) ∧ c.toNat ≠ 39) ∧ Below w.heap.size w wr ∧ Blk wr g_o0 9 [str s] ∧ Blk wr g_o1 49 [.int .i64 0, str [], .int .i64 0] := hI_87
       obtain ⟨hq4, hb, hB_o0, hB_o1⟩ := hI_87
       show Wq _ _ _ _ [(1, .pointer (some ⟨g_o0, 0, none⟩)), (2, .pointer (some ⟨g_o1, 0, none⟩)), (3, .int .u8 (c.toNat : Int)), (4, .int .i64 (letN s : Nat)), (6, .int .i64 (rdN s : Nat)), (9, .int .i64 (rdN (45 :: s) : Nat)), (58, .bool q4)] _
       have hL := hL_hb.below hb
       have hk1 := hk1_hb.below hb
       have hrk := hrk_hb.below hb
       have hk2 := hk2_hb.below hb
       have hrs := hrs_hb.below hb
       try have hzhb_g8 := hb.size
       have hlhB_o0_g8 := hB_o0.lt
       have hlhB_o1_g8 := hB_o1.lt
       refine Wq.next hK_74 ?_
       refine Wc.cond rfl (fun c2_88 => ?_) (fun c2_88 => ?_)
       ·
        have c2_88_ := c2_88
        try simp only [decide_eq_true_eq, decide_eq_false_iff_not, beq_iff_eq, beq_eq_false_iff_ne, bne_iff_ne, bne_eq_false_iff_eq, Bool.not_eq_true', Bool.not_eq_false', Bool.not_eq_eq_eq_not, Bool.not_true, Bool.not_false, ne_eq, Int.not_lt, Int.not_le] at c2_88
        have hq5 : 0 < max (rdN s) (rdN (45 :: s) - 1) ∧ c.toNat ≠ 39 := by have h := c2_88_; rw [hq4] at h; exact of_decide_eq_true h
        refine Wc.seq fun _ hK_89 => ?_
        refine Wc.region ?_
        refine Wl.l (l_load one9LexB rfl (by first | exact hB_o0.at rfl | exact hB_o1.at rfl | exact hB_o0.cell 0 | exact hB_o1.cell 0 | assumption)) rfl ?_
        refine Wl.y (y_move rfl) rfl ?_
        refine Wl.y (y_move rfl) rfl ?_
        refine Wl.y (y_subI rfl rfl (by first | omega | (simp; done) | (simp; omega)) (by first | omega | (simp; done) | (simp; omega))) rfl ?_
        refine Wl.y (y_eq (y_max rfl rfl) (int_eq (show _ = ((max (rdN s) (rdN (45 :: s) - 1) : Nat) : Int) by omega))) rfl ?_
        refine Wl.y (y_eq (y_slicesH Tryz.underlying9 rfl rfl (by omega) (by omega)) (str_eq (show _ = s.take (max (rdN s) (rdN (45 :: s) - 1)) by rw [Int.toNat_natCast]))) rfl ?_
        refine Wl.y (y_buildS (z := [(.int .i64 0), (str []), (.int .i64 0)]) (pl := [(0, 1), (1, 1), (2, 1)]) (cs := [_, _, _]) Tryz.underlying49 (by kernel_rfl) (by kernel_rfl) rfl rfl rfl) rfl ?_
        refine Wl.storeS (by kernel_rfl) rfl rfl hB_o1 rfl rfl ?_
        rintro w_s3 hn_s3 hg_s3
        have hz_s3 := hg_s3.size
        have hb := below_blk hb hg_s3 hb.size (by omega)
        have hL := hL_hb.below hb
        have hk1 := hk1_hb.below hb
        have hrk := hrk_hb.below hb
        have hk2 := hk2_hb.below hb
        have hrs := hrs_hb.below hb
        have hB_o1 := hn_s3
        refine Wl.nil ?_
        refine Wq.next hK_89 ?_
        refine Wc.ret ?_
        refine Wq.block_ret (Wq.then_ret ?_)
        refine retN (rs := [.cell 2 49]) (vs := [_]) rfl (.cell rfl (loadS Tryz.underlying49 (by kernel_rfl) (fun j u hu => hB_o1.at hu)) .nil) ?_
        exact ⟨_, rfl, tok_of (tokV_n (by rw [← hc]; exact hq0) (by rw [← hc]; exact hq3) (by rw [← hc]; exact hq5)), hb⟩
       ·
        have c2_88_ := c2_88
        try simp only [decide_eq_true_eq, decide_eq_false_iff_not, beq_iff_eq, beq_eq_false_iff_ne, bne_iff_ne, bne_eq_false_iff_eq, Bool.not_eq_true', Bool.not_eq_false', Bool.not_eq_eq_eq_not, Bool.not_true, Bool.not_false, ne_eq, Int.not_lt, Int.not_le] at c2_88
        have hq5 : ¬ (0 < max (rdN s) (rdN (45 :: s) - 1) ∧ c.toNat ≠ 39) := by have h := c2_88_; rw [hq4] at h; exact of_decide_eq_false h
        refine Wc.skip ?_
        refine Wq.block_normal ?_
        refine Wq.next hK_8 ?_
        refine Wc.seq fun _ hK_97 => ?_
        refine Wc.region ?_
        refine Wl.y (y_buildS (z := [(.int .i64 0), (str []), (.int .i64 0)]) (pl := [(0, 1), (1, 1), (2, 1)]) (cs := [_, _, _]) Tryz.underlying49 (by kernel_rfl) (by kernel_rfl) rfl rfl rfl) rfl ?_
        refine Wl.storeS (by kernel_rfl) rfl rfl hB_o1 rfl rfl ?_
        rintro w_s7 hn_s7 hg_s7
        have hz_s7 := hg_s7.size
        have hb := below_blk hb hg_s7 hb.size (by omega)
        have hL := hL_hb.below hb
        have hk1 := hk1_hb.below hb
        have hrk := hrk_hb.below hb
        have hk2 := hk2_hb.below hb
        have hrs := hrs_hb.below hb
        have hB_o1 := hn_s7
        refine Wl.nil ?_
        refine Wq.next hK_97 ?_
        refine Wc.ret ?_
        refine retN (rs := [.cell 2 49]) (vs := [_]) rfl (.cell rfl (loadS Tryz.underlying49 (by kernel_rfl) (fun j u hu => hB_o1.at hu)) .nil) ?_
        exact ⟨_, rfl, tok_none (tokV_m (by rw [← hc]; exact hq0) (by rw [← hc]; exact hq3) (by rw [← hc]; exact hq5)), hb⟩
   ·
    have c0_34_ := c0_34
    try simp only [decide_eq_true_eq, decide_eq_false_iff_not, beq_iff_eq, beq_eq_false_iff_ne, bne_iff_ne, bne_eq_false_iff_eq, Bool.not_eq_true', Bool.not_eq_false', Bool.not_eq_eq_eq_not, Bool.not_true, Bool.not_false, ne_eq, Int.not_lt, Int.not_le] at c0_34
    have hq0 : ¬ (c.toNat = 39 ∨ (48 ≤ c.toNat ∧ c.toNat ≤ 57)) := by have h := c0_34_; rw [hq] at h; exact of_decide_eq_false h
    refine Wc.seq fun _ hK_99 => ?_
    refine Wc.meet (X := Bool) (fun q6 => [(1, .pointer (some ⟨g_o0, 0, none⟩)), (2, .pointer (some ⟨g_o1, 0, none⟩)), (3, .int .u8 (c.toNat : Int)), (4, .int .i64 (letN s : Nat)), (66, .bool q6)]) (fun q6 wr => q6 = decide (0 < letN s ∧ s.take (letN s) ∈ keysV) ∧ Below w.heap.size w wr ∧ Blk wr g_o0 9 [str s] ∧ Blk wr g_o1 49 [.int .i64 0, str [], .int .i64 0]) (fun _ hM_100 => ?_) ?_
    ·
     refine Wc.any (n := 10) (fun w' => Below w.heap.size w w' ∧ Blk w' g_o0 9 [str s] ∧ Blk w' g_o1 49 [.int .i64 0, str [], .int .i64 0]) #[false, false, false, false, false, false, false, false, false, false] (by kernel_rfl) rfl (by kernel_rfl) ?_
     refine Wa.drew ?_
     rintro w_g10 hs_g10
     have hz_g10 := hs_g10.size
     have hb := hb.trans (hs_g10.mono hb.size)
     have hL := hL_hb.below hb
     have hk1 := hk1_hb.below hb
     have hrk := hrk_hb.below hb
     have hk2 := hk2_hb.below hb
     have hrs := hrs_hb.below hb
     try have hB_o0 := Blk.below hB_o0 hs_g10
     try have hB_o1 := Blk.below hB_o1 hs_g10
     refine Wa.take (i := 0) #[true, false, false, false, false, false, false, false, false, false] rfl (by kernel_rfl) (fun _ _ _ h => h) rfl (fun wq hq => Yl.ld (y_move rfl)) ⟨hb, hB_o0, hB_o1⟩ ?_
     refine Wa.take (i := 1) #[true, true, false, false, false, false, false, false, false, false] rfl (by kernel_rfl) (fun _ _ _ h => h) rfl (fun wq hq => Yl.ld (y_gtri rfl rfl)) ⟨hb, hB_o0, hB_o1⟩ ?_
     refine Wa.take (i := 2) #[true, true, true, false, false, false, false, false, false, false] rfl (by kernel_rfl) (fun _ _ _ h => h) rfl (fun wq hq => Yl.ld (y_move rfl)) ⟨hb, hB_o0, hB_o1⟩ ?_
     refine Wa.split (s := 69) rfl (fun g_104 => ?_) (fun g_104 => ?_)
     ·
      have g_104_ := g_104
      try simp only [decide_eq_true_eq, decide_eq_false_iff_not, beq_iff_eq, beq_eq_false_iff_ne, bne_iff_ne, bne_eq_false_iff_eq, Bool.not_eq_true', Bool.not_eq_false', Bool.not_eq_eq_eq_not, Bool.not_true, Bool.not_false, ne_eq, Int.not_lt, Int.not_le] at g_104
      refine Wa.takeOn (i := 3) #[true, true, true, true, false, false, false, false, false, false] rfl rfl rfl g_104_ (by kernel_rfl) (fun _ _ _ h => h) rfl (fun wq hq => l_load one53LexB rfl (by obtain ⟨hq, hB_o0, hB_o1⟩ := hq; exact hk1_hb.below hq)) ⟨hb, hB_o0, hB_o1⟩ ?_
      refine Wa.takeOn (i := 4) #[true, true, true, true, true, false, false, false, false, false] rfl rfl rfl g_104_ (by kernel_rfl) (fun _ _ _ h => h) rfl (fun wq hq => l_load one9LexB rfl (by obtain ⟨hq, hB_o0, hB_o1⟩ := hq; first | exact hB_o0.at rfl | exact hB_o1.at rfl | exact hB_o0.cell 0 | exact hB_o1.cell 0 | assumption)) ⟨hb, hB_o0, hB_o1⟩ ?_
      refine Wa.takeOn (i := 5) #[true, true, true, true, true, true, false, false, false, false] rfl rfl rfl g_104_ (by kernel_rfl) (fun _ _ _ h => h) rfl (fun wq hq => Yl.ld (y_move rfl)) ⟨hb, hB_o0, hB_o1⟩ ?_
      refine Wa.takeOn (i := 6) #[true, true, true, true, true, true, true, false, false, false] rfl rfl rfl g_104_ (by kernel_rfl) (fun _ _ _ h => h) rfl (fun wq hq => Yl.ld (y_eq (y_slicesH Tryz.underlying9 rfl rfl (by omega) (by omega)) (str_eq (show _ = s.take (letN s) by rw [Int.toNat_natCast])))) ⟨hb, hB_o0, hB_o1⟩ ?_
      refine Wa.some (rs := [7]) (by kernel_rfl) rfl ?_
      refine Ws.cons #[true, true, true, true, true, true, true, true, false, false] rfl rfl (fun _ hK_109 => ?_) ?_
      ·
       refine Wl.on' rfl rfl g_104_ ?_
       refine Wl.call txt98LexB rfl rfl (SContains_r A1 c1 keysV (s.take (letN s)) (by decide) _ hrk) rfl ?_
       rintro _ w_k3 ⟨rfl, hs_k3⟩
       have hz_k3 := hs_k3.size
       have hb := hb.trans (hs_k3.mono hb.size)
       have hL := hL_hb.below hb
       have hk1 := hk1_hb.below hb
       have hrk := hrk_hb.below hb
       have hk2 := hk2_hb.below hb
       have hrs := hrs_hb.below hb
       try have hB_o0 := Blk.below hB_o0 hs_k3
       try have hB_o1 := Blk.below hB_o1 hs_k3
       refine Wl.nil ?_
       refine Wq.back hK_109 ⟨hb, hB_o0, hB_o1⟩ ?_
       refine Wa.take (i := 8) #[true, true, true, true, true, true, true, true, true, false] rfl (by kernel_rfl) (fun _ _ _ h => h) rfl (fun wq hq => Yl.ld (y_pickT rfl g_104_ rfl)) ⟨hb, hB_o0, hB_o1⟩ ?_
       refine Wa.take (i := 9) #[true, true, true, true, true, true, true, true, true, true] rfl (by kernel_rfl) (fun _ _ _ h => h) rfl (fun wq hq => Yl.ld (y_assign rfl)) ⟨hb, hB_o0, hB_o1⟩ ?_
       refine Wa.done (by kernel_rfl) ?_
       refine Wq.meet hM_100 (decide (0 < letN s ∧ s.take (letN s) ∈ keysV)) (Sub.cons' rfl (by first | rfl | exact bool_eq (by rw [Bool.eq_iff_iff]; simp_all)) (Sub.cons' rfl (by first | rfl | exact bool_eq (by rw [Bool.eq_iff_iff]; simp_all)) (Sub.cons' rfl (by first | rfl | exact bool_eq (by rw [Bool.eq_iff_iff]; simp_all)) (Sub.cons' rfl (by first | rfl | exact bool_eq (by rw [Bool.eq_iff_iff]; simp_all)) (Sub.cons' rfl (by first | rfl | exact bool_eq (by rw [Bool.eq_iff_iff]; simp_all)) (Sub.nil)))))) ?_
       exact ⟨rfl, hb, hB_o0, hB_o1⟩
      exact Ws.nil
     ·
      have g_104_ := g_104
      try simp only [decide_eq_true_eq, decide_eq_false_iff_not, beq_iff_eq, beq_eq_false_iff_ne, bne_iff_ne, bne_eq_false_iff_eq, Bool.not_eq_true', Bool.not_eq_false', Bool.not_eq_eq_eq_not, Bool.not_true, Bool.not_false, ne_eq, Int.not_lt, Int.not_le] at g_104
      refine Wa.takeOff (i := 3) #[true, true, true, true, false, false, false, false, false, false] rfl rfl rfl g_104_ (by kernel_rfl) (fun _ _ _ h => h) rfl ⟨hb, hB_o0, hB_o1⟩ ?_
      refine Wa.takeOff (i := 4) #[true, true, true, true, true, false, false, false, false, false] rfl rfl rfl g_104_ (by kernel_rfl) (fun _ _ _ h => h) rfl ⟨hb, hB_o0, hB_o1⟩ ?_
      refine Wa.takeOff (i := 5) #[true, true, true, true, true, true, false, false, false, false] rfl rfl rfl g_104_ (by kernel_rfl) (fun _ _ _ h => h) rfl ⟨hb, hB_o0, hB_o1⟩ ?_
      refine Wa.takeOff (i := 6) #[true, true, true, true, true, true, true, false, false, false] rfl rfl rfl g_104_ (by kernel_rfl) (fun _ _ _ h => h) rfl ⟨hb, hB_o0, hB_o1⟩ ?_
      refine Wa.takeOff (i := 7) #[true, true, true, true, true, true, true, true, false, false] rfl rfl rfl g_104_ (by kernel_rfl) (fun _ _ _ h => h) rfl ⟨hb, hB_o0, hB_o1⟩ ?_
      refine Wa.take (i := 8) #[true, true, true, true, true, true, true, true, true, false] rfl (by kernel_rfl) (fun _ _ _ h => h) rfl (fun wq hq => Yl.ld (y_pickF rfl g_104_ rfl)) ⟨hb, hB_o0, hB_o1⟩ ?_
      refine Wa.take (i := 9) #[true, true, true, true, true, true, true, true, true, true] rfl (by kernel_rfl) (fun _ _ _ h => h) rfl (fun wq hq => Yl.ld (y_assign rfl)) ⟨hb, hB_o0, hB_o1⟩ ?_
      refine Wa.done (by kernel_rfl) ?_
      refine Wq.meet hM_100 (decide (0 < letN s ∧ s.take (letN s) ∈ keysV)) (Sub.cons' rfl (by first | rfl | exact bool_eq (by rw [Bool.eq_iff_iff]; simp_all)) (Sub.cons' rfl (by first | rfl | exact bool_eq (by rw [Bool.eq_iff_iff]; simp_all)) (Sub.cons' rfl (by first | rfl | exact bool_eq (by rw [Bool.eq_iff_iff]; simp_all)) (Sub.cons' rfl (by first | rfl | exact bool_eq (by rw [Bool.eq_iff_iff]; simp_all)) (Sub.cons' rfl (by first | rfl | exact bool_eq (by rw [Bool.eq_iff_iff]; simp_all)) (Sub.nil)))))) ?_
      exact ⟨rfl, hb, hB_o0, hB_o1⟩
    ·
     rintro q6 wr hI_115
     replace hI_115 : q6 = decide (0 < letN s ∧ s.take (letN s) ∈ keysV) ∧ Below w.heap.size w wr ∧ Blk wr g_o0 9 [str s] ∧ Blk wr g_o1 49 [.int .i64 0, str [], .int .i64 0] := hI_115
     obtain ⟨hq6, hb, hB_o0, hB_o1⟩ := hI_115
     show Wq _ _ _ _ [(1, .pointer (some ⟨g_o0, 0, none⟩)), (2, .pointer (some ⟨g_o1, 0, none⟩)), (3, .int .u8 (c.toNat : Int)), (4, .int .i64 (letN s : Nat)), (66, .bool q6)] _
     have hL := hL_hb.below hb
     have hk1 := hk1_hb.below hb
     have hrk := hrk_hb.below hb
     have hk2 := hk2_hb.below hb
     have hrs := hrs_hb.below hb
     try have hzhb_g10 := hb.size
     have hlhB_o0_g10 := hB_o0.lt
     have hlhB_o1_g10 := hB_o1.lt
     refine Wq.next hK_99 ?_
     refine Wc.cond rfl (fun c3_116 => ?_) (fun c3_116 => ?_)
     ·
      have c3_116_ := c3_116
      try simp only [decide_eq_true_eq, decide_eq_false_iff_not, beq_iff_eq, beq_eq_false_iff_ne, bne_iff_ne, bne_eq_false_iff_eq, Bool.not_eq_true', Bool.not_eq_false', Bool.not_eq_eq_eq_not, Bool.not_true, Bool.not_false, ne_eq, Int.not_lt, Int.not_le] at c3_116
      have hq7 : 0 < letN s ∧ s.take (letN s) ∈ keysV := by have h := c3_116_; rw [hq6] at h; exact of_decide_eq_true h
      refine Wc.seq fun _ hK_117 => ?_
      refine Wc.region ?_
      refine Wl.l (l_load one9LexB rfl (by first | exact hB_o0.at rfl | exact hB_o1.at rfl | exact hB_o0.cell 0 | exact hB_o1.cell 0 | assumption)) rfl ?_
      refine Wl.y (y_move rfl) rfl ?_
      refine Wl.y (y_eq (y_slicesH Tryz.underlying9 rfl rfl (by omega) (by omega)) (str_eq (show _ = s.take (letN s) by rw [Int.toNat_natCast]))) rfl ?_
      refine Wl.y (y_buildS (z := [(.int .i64 0), (str []), (.int .i64 0)]) (pl := [(0, 1), (1, 1), (2, 1)]) (cs := [_, _, _]) Tryz.underlying49 (by kernel_rfl) (by kernel_rfl) rfl rfl rfl) rfl ?_
      refine Wl.storeS (by kernel_rfl) rfl rfl hB_o1 rfl rfl ?_
      rintro w_s4 hn_s4 hg_s4
      have hz_s4 := hg_s4.size
      have hb := below_blk hb hg_s4 hb.size (by omega)
      have hL := hL_hb.below hb
      have hk1 := hk1_hb.below hb
      have hrk := hrk_hb.below hb
      have hk2 := hk2_hb.below hb
      have hrs := hrs_hb.below hb
      have hB_o1 := hn_s4
      refine Wl.nil ?_
      refine Wq.next hK_117 ?_
      refine Wc.ret ?_
      refine Wq.block_ret (Wq.then_ret ?_)
      refine retN (rs := [.cell 2 49]) (vs := [_]) rfl (.cell rfl (loadS Tryz.underlying49 (by kernel_rfl) (fun j u hu => hB_o1.at hu)) .nil) ?_
      exact ⟨_, rfl, tok_of (tokV_k (by rw [← hc]; exact hq0) hq7.1 hq7.2), hb⟩
     ·
      have c3_116_ := c3_116
      try simp only [decide_eq_true_eq, decide_eq_false_iff_not, beq_iff_eq, beq_eq_false_iff_ne, bne_iff_ne, bne_eq_false_iff_eq, Bool.not_eq_true', Bool.not_eq_false', Bool.not_eq_eq_eq_not, Bool.not_true, Bool.not_false, ne_eq, Int.not_lt, Int.not_le] at c3_116
      have hq7 : ¬ (0 < letN s ∧ s.take (letN s) ∈ keysV) := by have h := c3_116_; rw [hq6] at h; exact of_decide_eq_false h
      refine Wc.seq fun _ hK_122 => ?_
      refine Wc.meet (X := Bool) (fun q8 => [(1, .pointer (some ⟨g_o0, 0, none⟩)), (2, .pointer (some ⟨g_o1, 0, none⟩)), (3, .int .u8 (c.toNat : Int)), (4, .int .i64 (letN s : Nat)), (80, .bool q8)]) (fun q8 wr => q8 = decide (0 < letN s ∧ wordV (s.take (letN s)) = true) ∧ Below w.heap.size w wr ∧ Blk wr g_o0 9 [str s] ∧ Blk wr g_o1 49 [.int .i64 0, str [], .int .i64 0]) (fun _ hM_123 => ?_) ?_
      ·
       refine Wc.region ?_
       refine Wl.y (y_move rfl) rfl ?_
       refine Wl.y (y_gtri rfl rfl) rfl ?_
       refine Wl.y (y_move rfl) rfl ?_
       refine Wl.guardT rfl rfl rfl (fun g_127 => ?_) (fun g_127 => ?_)
       ·
        have g_127_ := g_127
        try simp only [decide_eq_true_eq, decide_eq_false_iff_not, beq_iff_eq, beq_eq_false_iff_ne, bne_iff_ne, bne_eq_false_iff_eq, Bool.not_eq_true', Bool.not_eq_false', Bool.not_eq_eq_eq_not, Bool.not_true, Bool.not_false, ne_eq, Int.not_lt, Int.not_le] at g_127
        refine Wl.l (l_load one9LexB rfl (by first | exact hB_o0.at rfl | exact hB_o1.at rfl | exact hB_o0.cell 0 | exact hB_o1.cell 0 | assumption)) rfl ?_
        refine Wl.on' rfl rfl g_127_ ?_
        refine Wl.y (y_move rfl) rfl ?_
        refine Wl.on' rfl rfl g_127_ ?_
        refine Wl.y (y_eq (y_slicesH Tryz.underlying9 rfl rfl (by omega) (by omega)) (str_eq (show _ = s.take (letN s) by rw [Int.toNat_natCast]))) rfl ?_
        refine Wl.on' rfl rfl g_127_ ?_
        refine Wl.call txt99LexB rfl rfl (Word_r (s.take (letN s)) (letN_all s) (Nat.le_trans (List.length_take_le _ _) (by omega)) _) rfl ?_
        rintro _ w_k4 ⟨rfl, hs_k4⟩
        have hz_k4 := hs_k4.size
        have hb := hb.trans (hs_k4.mono hb.size)
        have hL := hL_hb.below hb
        have hk1 := hk1_hb.below hb
        have hrk := hrk_hb.below hb
        have hk2 := hk2_hb.below hb
        have hrs := hrs_hb.below hb
        try have hB_o0 := Blk.below hB_o0 hs_k4
        try have hB_o1 := Blk.below hB_o1 hs_k4
        refine Wl.y (y_pickT rfl g_127_ rfl) rfl ?_
        refine Wl.y (y_assign rfl) rfl ?_
        refine Wl.nil ?_
        refine Wq.meet hM_123 (decide (0 < letN s ∧ wordV (s.take (letN s)) = true)) (Sub.cons' rfl (by first | rfl | exact bool_eq (by rw [Bool.eq_iff_iff]; simp_all)) (Sub.cons' rfl (by first | rfl | exact bool_eq (by rw [Bool.eq_iff_iff]; simp_all)) (Sub.cons' rfl (by first | rfl | exact bool_eq (by rw [Bool.eq_iff_iff]; simp_all)) (Sub.cons' rfl (by first | rfl | exact bool_eq (by rw [Bool.eq_iff_iff]; simp_all)) (Sub.cons' rfl (by first | rfl | exact bool_eq (by rw [Bool.eq_iff_iff]; simp_all)) (Sub.nil)))))) ?_
        exact ⟨rfl, hb, hB_o0, hB_o1⟩
       ·
        have g_127_ := g_127
        try simp only [decide_eq_true_eq, decide_eq_false_iff_not, beq_iff_eq, beq_eq_false_iff_ne, bne_iff_ne, bne_eq_false_iff_eq, Bool.not_eq_true', Bool.not_eq_false', Bool.not_eq_eq_eq_not, Bool.not_true, Bool.not_false, ne_eq, Int.not_lt, Int.not_le] at g_127
        refine Wl.off' rfl rfl g_127_ rfl rfl ?_
        refine Wl.off' rfl rfl g_127_ rfl rfl ?_
        refine Wl.off' rfl rfl g_127_ rfl rfl ?_
        refine Wl.y (y_pickF rfl g_127_ rfl) rfl ?_
        refine Wl.y (y_assign rfl) rfl ?_
        refine Wl.nil ?_
        refine Wq.meet hM_123 (decide (0 < letN s ∧ wordV (s.take (letN s)) = true)) (Sub.cons' rfl (by first | rfl | exact bool_eq (by rw [Bool.eq_iff_iff]; simp_all)) (Sub.cons' rfl (by first | rfl | exact bool_eq (by rw [Bool.eq_iff_iff]; simp_all)) (Sub.cons' rfl (by first | rfl | exact bool_eq (by rw [Bool.eq_iff_iff]; simp_all)) (Sub.cons' rfl (by first | rfl | exact bool_eq (by rw [Bool.eq_iff_iff]; simp_all)) (Sub.cons' rfl (by first | rfl | exact bool_eq (by rw [Bool.eq_iff_iff]; simp_all)) (Sub.nil)))))) ?_
        exact ⟨rfl, hb, hB_o0, hB_o1⟩
      ·
       rintro q8 wr hI_136
       replace hI_136 : q8 = decide (0 < letN s ∧ wordV (s.take (letN s)) = true) ∧ Below w.heap.size w wr ∧ Blk wr g_o0 9 [str s] ∧ Blk wr g_o1 49 [.int .i64 0, str [], .int .i64 0] := hI_136
       obtain ⟨hq8, hb, hB_o0, hB_o1⟩ := hI_136
       show Wq _ _ _ _ [(1, .pointer (some ⟨g_o0, 0, none⟩)), (2, .pointer (some ⟨g_o1, 0, none⟩)), (3, .int .u8 (c.toNat : Int)), (4, .int .i64 (letN s : Nat)), (80, .bool q8)] _
       have hL := hL_hb.below hb
       have hk1 := hk1_hb.below hb
       have hrk := hrk_hb.below hb
       have hk2 := hk2_hb.below hb
       have hrs := hrs_hb.below hb
       try have hzhb_g12 := hb.size
       have hlhB_o0_g12 := hB_o0.lt
       have hlhB_o1_g12 := hB_o1.lt
       refine Wq.next hK_122 ?_
       refine Wc.cond rfl (fun c4_137 => ?_) (fun c4_137 => ?_)
       ·
        have c4_137_ := c4_137
        try simp only [decide_eq_true_eq, decide_eq_false_iff_not, beq_iff_eq, beq_eq_false_iff_ne, bne_iff_ne, bne_eq_false_iff_eq, Bool.not_eq_true', Bool.not_eq_false', Bool.not_eq_eq_eq_not, Bool.not_true, Bool.not_false, ne_eq, Int.not_lt, Int.not_le] at c4_137
        have hq9 : 0 < letN s ∧ wordV (s.take (letN s)) = true := by have h := c4_137_; rw [hq8] at h; exact of_decide_eq_true h
        refine Wc.seq fun _ hK_138 => ?_
        refine Wc.region ?_
        refine Wl.l (l_load one9LexB rfl (by first | exact hB_o0.at rfl | exact hB_o1.at rfl | exact hB_o0.cell 0 | exact hB_o1.cell 0 | assumption)) rfl ?_
        refine Wl.y (y_move rfl) rfl ?_
        refine Wl.y (y_eq (y_slicesH Tryz.underlying9 rfl rfl (by omega) (by omega)) (str_eq (show _ = s.take (letN s) by rw [Int.toNat_natCast]))) rfl ?_
        refine Wl.y (y_buildS (z := [(.int .i64 0), (str []), (.int .i64 0)]) (pl := [(0, 1), (1, 1), (2, 1)]) (cs := [_, _, _]) Tryz.underlying49 (by kernel_rfl) (by kernel_rfl) rfl rfl rfl) rfl ?_
        refine Wl.storeS (by kernel_rfl) rfl rfl hB_o1 rfl rfl ?_
        rintro w_s5 hn_s5 hg_s5
        have hz_s5 := hg_s5.size
        have hb := below_blk hb hg_s5 hb.size (by omega)
        have hL := hL_hb.below hb
        have hk1 := hk1_hb.below hb
        have hrk := hrk_hb.below hb
        have hk2 := hk2_hb.below hb
        have hrs := hrs_hb.below hb
        have hB_o1 := hn_s5
        refine Wl.nil ?_
        refine Wq.next hK_138 ?_
        refine Wc.ret ?_
        refine Wq.block_ret (Wq.then_ret ?_)
        refine retN (rs := [.cell 2 49]) (vs := [_]) rfl (.cell rfl (loadS Tryz.underlying49 (by kernel_rfl) (fun j u hu => hB_o1.at hu)) .nil) ?_
        exact ⟨_, rfl, tok_of (tokV_w (by rw [← hc]; exact hq0) hq9.1 (fun h => hq7 ⟨hq9.1, h⟩) hq9.2), hb⟩
       ·
        have c4_137_ := c4_137
        try simp only [decide_eq_true_eq, decide_eq_false_iff_not, beq_iff_eq, beq_eq_false_iff_ne, bne_iff_ne, bne_eq_false_iff_eq, Bool.not_eq_true', Bool.not_eq_false', Bool.not_eq_eq_eq_not, Bool.not_true, Bool.not_false, ne_eq, Int.not_lt, Int.not_le] at c4_137
        have hq9 : ¬ (0 < letN s ∧ wordV (s.take (letN s)) = true) := by have h := c4_137_; rw [hq8] at h; exact of_decide_eq_false h
        refine Wc.seq fun _ hK_143 => ?_
        refine Wc.region ?_
        refine Wl.y (y_move rfl) rfl ?_
        refine Wl.y (y_eqli rfl rfl) rfl ?_
        refine Wl.y (y_assign rfl) rfl ?_
        refine Wl.nil ?_
        refine Wq.next hK_143 ?_
        refine Wc.cond rfl (fun c5_147 => ?_) (fun c5_147 => ?_)
        ·
         have c5_147_ := c5_147
         try simp only [decide_eq_true_eq, decide_eq_false_iff_not, beq_iff_eq, beq_eq_false_iff_ne, bne_iff_ne, bne_eq_false_iff_eq, Bool.not_eq_true', Bool.not_eq_false', Bool.not_eq_eq_eq_not, Bool.not_true, Bool.not_false, ne_eq, Int.not_lt, Int.not_le] at c5_147
         refine Wc.seq fun _ hK_148 => ?_
         refine Wc.region ?_
         refine Wl.l (l_load one53LexB rfl (by exact hk2)) rfl ?_
         refine Wl.y (y_makeFunc rfl rfl) rfl ?_
         refine Wl.call txt100LexB rfl rfl (SIndexFunc_r A2 c2 signsV g_o0 s (by decide) _ hrs hB_o0) rfl ?_
         rintro _ w_k5 ⟨⟨z, rfl, hz⟩, hs_k5⟩
         have hz_k5 := hs_k5.size
         have hb := hb.trans (hs_k5.mono hb.size)
         have hL := hL_hb.below hb
         have hk1 := hk1_hb.below hb
         have hrk := hrk_hb.below hb
         have hk2 := hk2_hb.below hb
         have hrs := hrs_hb.below hb
         try have hB_o1 := Blk.below hB_o1 hs_k5
         refine Wl.y (y_assign rfl) rfl ?_
         refine Wl.nil ?_
         refine Wq.next hK_148 ?_
         refine Wc.seq fun _ hK_153 => ?_
         refine Wc.region ?_
         refine Wl.y (y_move rfl) rfl ?_
         refine Wl.y (y_geqi rfl rfl) rfl ?_
         refine Wl.nil ?_
         refine Wq.next hK_153 ?_
         refine Wc.cond rfl (fun c6_156 => ?_) (fun c6_156 => ?_)
         ·
          have c6_156_ := c6_156
          try simp only [decide_eq_true_eq, decide_eq_false_iff_not, beq_iff_eq, beq_eq_false_iff_ne, bne_iff_ne, bne_eq_false_iff_eq, Bool.not_eq_true', Bool.not_eq_false', Bool.not_eq_eq_eq_not, Bool.not_true, Bool.not_false, ne_eq, Int.not_lt, Int.not_le] at c6_156
          obtain ⟨k, rfl, hk36, hfind⟩ : ∃ k : Nat, z = k ∧ k < 36 ∧ signsV.find? (fun x => Lib.hasPrefix s x) = some (signsV.getD k []) := by
            rcases hz with ⟨h, _⟩ | h
            · have := c6_156; omega
            · exact h
          obtain ⟨p_, v_, hpe, hve, hcell⟩ := hrs.one (i := k) hk36
          subst hpe
          obtain rfl := strs_val (l := signsV) hk36 hve
          refine Wc.seq fun _ hK_157 => ?_
          refine Wc.region ?_
          refine Wl.l (l_load one53LexB rfl (by exact hk2)) rfl ?_
          refine Wl.y (y_move rfl) rfl ?_
          refine Wl.y (y_indexAddr Tryz.underlying53 sz9LexB rfl rfl (by omega) (by omega)) rfl ?_
          refine Wl.l (l_load one9LexB rfl (by exact at1 hcell)) rfl ?_
          refine Wl.y (y_buildS (z := [(.int .i64 0), (str []), (.int .i64 0)]) (pl := [(0, 1), (1, 1), (2, 1)]) (cs := [_, _, _]) Tryz.underlying49 (by kernel_rfl) (by kernel_rfl) rfl rfl rfl) rfl ?_
          refine Wl.storeS (by kernel_rfl) rfl rfl hB_o1 rfl rfl ?_
          rintro w_s6 hn_s6 hg_s6
          have hz_s6 := hg_s6.size
          have hb := below_blk hb hg_s6 hb.size (by omega)
          have hL := hL_hb.below hb
          have hk1 := hk1_hb.below hb
          have hrk := hrk_hb.below hb
          have hk2 := hk2_hb.below hb
          have hrs := hrs_hb.below hb
          have hB_o1 := hn_s6
          refine Wl.nil ?_
          refine Wq.next hK_157 ?_
          refine Wc.ret ?_
          refine Wq.block_ret (Wq.then_ret ?_)
          refine retN (rs := [.cell 2 49]) (vs := [_]) rfl (.cell rfl (loadS Tryz.underlying49 (by kernel_rfl) (fun j u hu => hB_o1.at hu)) .nil) ?_
          exact ⟨_, rfl, by rw [← tok_of (tokV_s (by rw [← hc]; exact hq0) (by have := c5_147; omega) hfind), ← sign_take (find_sign hfind).1]; rfl, hb⟩
         ·
          have c6_156_ := c6_156
          try simp only [decide_eq_true_eq, decide_eq_false_iff_not, beq_iff_eq, beq_eq_false_iff_ne, bne_iff_ne, bne_eq_false_iff_eq, Bool.not_eq_true', Bool.not_eq_false', Bool.not_eq_eq_eq_not, Bool.not_true, Bool.not_false, ne_eq, Int.not_lt, Int.not_le] at c6_156
          refine Wc.skip ?_
          refine Wq.block_normal ?_
          refine Wq.next hK_8 ?_
          refine Wc.seq fun _ hK_163 => ?_
          refine Wc.region ?_
          refine Wl.y (y_buildS (z := [(.int .i64 0), (str []), (.int .i64 0)]) (pl := [(0, 1), (1, 1), (2, 1)]) (cs := [_, _, _]) Tryz.underlying49 (by kernel_rfl) (by kernel_rfl) rfl rfl rfl) rfl ?_
          refine Wl.storeS (by kernel_rfl) rfl rfl hB_o1 rfl rfl ?_
          rintro w_s7 hn_s7 hg_s7
          have hz_s7 := hg_s7.size
          have hb := below_blk hb hg_s7 hb.size (by omega)
          have hL := hL_hb.below hb
          have hk1 := hk1_hb.below hb
          have hrk := hrk_hb.below hb
          have hk2 := hk2_hb.below hb
          have hrs := hrs_hb.below hb
          have hB_o1 := hn_s7
          refine Wl.nil ?_
          refine Wq.next hK_163 ?_
          refine Wc.ret ?_
          refine retN (rs := [.cell 2 49]) (vs := [_]) rfl (.cell rfl (loadS Tryz.underlying49 (by kernel_rfl) (fun j u hu => hB_o1.at hu)) .nil) ?_
          exact ⟨_, rfl, tok_none (tokV_t (by rw [← hc]; exact hq0) (by have := c5_147; omega) (by rcases hz with h | ⟨k, h, _⟩; (· exact h.2); (· have := c6_156; omega))), hb⟩
        ·
         have c5_147_ := c5_147
         try simp only [decide_eq_true_eq, decide_eq_false_iff_not, beq_iff_eq, beq_eq_false_iff_ne, bne_iff_ne, bne_eq_false_iff_eq, Bool.not_eq_true', Bool.not_eq_false', Bool.not_eq_eq_eq_not, Bool.not_true, Bool.not_false, ne_eq, Int.not_lt, Int.not_le] at c5_147
         refine Wc.skip ?_
         refine Wq.block_normal ?_
         refine Wq.next hK_8 ?_
         refine Wc.seq fun _ hK_165 => ?_
         refine Wc.region ?_
         refine Wl.y (y_buildS (z := [(.int .i64 0), (str []), (.int .i64 0)]) (pl := [(0, 1), (1, 1), (2, 1)]) (cs := [_, _, _]) Tryz.underlying49 (by kernel_rfl) (by kernel_rfl) rfl rfl rfl) rfl ?_
         refine Wl.storeS (by kernel_rfl) rfl rfl hB_o1 rfl rfl ?_
         rintro w_s7 hn_s7 hg_s7
         have hz_s7 := hg_s7.size
         have hb := below_blk hb hg_s7 hb.size (by omega)
         have hL := hL_hb.below hb
         have hk1 := hk1_hb.below hb
         have hrk := hrk_hb.below hb
         have hk2 := hk2_hb.below hb
         have hrs := hrs_hb.below hb
         have hB_o1 := hn_s7
         refine Wl.nil ?_
         refine Wq.next hK_165 ?_
         refine Wc.ret ?_
         refine retN (rs := [.cell 2 49]) (vs := [_]) rfl (.cell rfl (loadS Tryz.underlying49 (by kernel_rfl) (fun j u hu => hB_o1.at hu)) .nil) ?_
         exact ⟨_, rfl, tok_none (tokV_u (by rw [← hc]; exact hq0) (by have := c5_147; omega) (fun h => hq7 ⟨by have := c5_147; omega, h⟩) (fun h => hq9 ⟨by have := c5_147; omega, h⟩)), hb⟩
end Go.Proofs.YtcljmclolpgdmaaGreatDoor
