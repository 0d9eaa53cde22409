/- Package value: Text and Read, by the calculus, out of what the texts of floats and quoted texts are. -/
import Derived.Test.YtcljmclolpgdmaaGreatDoorReadM
import Derived.Test.YtcljmclolpgdmaaGreatDoorNumB
import Derived.Shelf.Strings.SlTrimAscii
namespace Go.Proofs.YtcljmclolpgdmaaGreatDoor
open Go.RowKit Go.Bw Go.Bw.Fl Go.Shelf
set_option linter.unusedVariables false
set_option linter.unusedSimpArgs false
theorem one9ValD : One Tryz.prog 9 := ⟨_, Tryz.underlying9, rfl, by kernel_rfl⟩
theorem sz9ValD : (Tryz.prog.info? 9).map (·.size) = some 1 := by kernel_rfl
theorem txt34ValD : Txt Tryz.prog 34 := ⟨_, Tryz.func34, by kernel_rfl, rfl⟩   -- strconv.FormatInt
theorem txt41ValD : Txt Tryz.prog 41 := ⟨_, Tryz.func41, by kernel_rfl, rfl⟩   -- strings.HasPrefix
theorem txt42ValD : Txt Tryz.prog 42 := ⟨_, Tryz.func42, by kernel_rfl, rfl⟩   -- bridleway/value.unquoted
theorem txt43ValD : Txt Tryz.prog 43 := ⟨_, Tryz.func43, by kernel_rfl, rfl⟩   -- bridleway/value.truth
theorem txt44ValD : Txt Tryz.prog 44 := ⟨_, Tryz.func44, by kernel_rfl, rfl⟩   -- bridleway/num.Parse
theorem txt45ValD : Txt Tryz.prog 45 := ⟨_, Tryz.func45, by kernel_rfl, rfl⟩   -- bridleway/value.digits
theorem txt46ValD : Txt Tryz.prog 46 := ⟨_, Tryz.func46, by kernel_rfl, rfl⟩   -- strings.TrimPrefix
theorem txt47ValD : Txt Tryz.prog 47 := ⟨_, Tryz.func47, by kernel_rfl, rfl⟩   -- strconv.ParseInt
theorem txt88ValD : Txt Tryz.prog 88 := ⟨_, Tryz.func88, by kernel_rfl, rfl⟩   -- strings.TrimLeft
theorem TrimLeft_r (s : List UInt8) (w : World) : Ret Tryz.prog 88 [str s, str digs] w fun v w' => v = str (Lib.trimLeftS s digs) ∧ Below w.heap.size w w' :=
  Calls.mono (Any.strings_TrimLeft_laid Tryz.lays161 (by kernel_rfl) ⟨s.toArray⟩ ⟨digs.toArray⟩ w (by decide) (ascii_of_all (by decide))) fun e w' ⟨h1, h2⟩ => ⟨_, h1, rfl, h2⟩
theorem digits_r (s : List UInt8) (hs : s.length ≤ 281474976710656) (w : World) : Ret Tryz.prog 45 [str s] w fun v w' => v = .int .i64 (nDig s : Nat) ∧ Below w.heap.size w w' := by
  have hl := trimL_le s digs
  have hb := Below.refl w.heap.size w
  refine enter Tryz.func45 rfl rfl rfl ?_
  refine Wc.seq fun _ hK_1 => ?_
  refine Wc.region ?_
  refine Wl.y (y_assign rfl) rfl ?_
  refine Wl.nil ?_
  refine Wq.next hK_1 ?_
  refine Wc.seq fun _ hK_3 => ?_
  refine Wc.region ?_
  refine Wl.y (y_move rfl) rfl ?_
  refine Wl.y (y_lens Tryz.underlying9 (by omega) rfl) rfl ?_
  refine Wl.y (y_move rfl) rfl ?_
  refine Wl.call txt88ValD rfl rfl (TrimLeft_r s _) rfl ?_
  rintro _ w_k0 ⟨rfl, hs_k0⟩
  have hz_k0 := hs_k0.size
  have hb := hb.trans (hs_k0.mono hb.size)
  refine Wl.y (y_lens Tryz.underlying9 (by omega) rfl) rfl ?_
  refine Wl.y (y_subI rfl rfl (by first | omega | (simp; done) | (simp; omega)) (by first | omega | (simp; done) | (simp; omega))) rfl ?_
  refine Wl.y (y_assign rfl) rfl ?_
  refine Wl.nil ?_
  refine Wq.next hK_3 ?_
  refine Wc.ret ?_
  refine ret1 rfl rfl ?_
  exact ⟨_, rfl, int_eq (by unfold nDig; omega), hb⟩
theorem below_bytes (w : World) (t : ByteArray) : Below w.heap.size w (Lib.bytesWorld w 5 t) := by
  refine ((Below.refl _ _).drew.alloc (Nat.le_refl _) (.cells (Lib.bytesCells w 5 t) 5)).trans ?_
  unfold Lib.bytesWorld World.freeze
  rw [if_neg (by decide)]
  refine ⟨rfl, rfl, rfl, by simp, fun k hk => ?_⟩
  show ((w.drew.alloc _).heap.modify _ _)[k]? = _
  rw [Array.getElem?_modify, if_neg (by have hk' : k < w.heap.size := hk; show w.heap.size ≠ k; omega)]
def IntEnd (s : List UInt8) (v : Value) : Prop := ∃ n e, v = .tuple #[.int .i64 n, e] ∧ IsErr e ∧ ((parseI s = some n ∧ isNilI e = true) ∨ (parseI s = none ∧ isNilI e = false))
theorem ParseInt_r (s : List UInt8) (hs : s.length ≤ 281474976710656) (w : World) (hL : Lb w) : Ret Tryz.prog 47 [str s, .int .i64 10, .int .i64 64] w fun v w' => IntEnd s v ∧ Below w.heap.size w w' := by
  have hs' : (⟨s.toArray⟩ : ByteArray).size ≤ 281474976710656 := by rw [size_str]; exact hs
  rcases h : Lib.parseIntB 64 s with v | _ | _
  · exact Calls.mono (Tryz.strconv_ParseInt_10_at64_ok ⟨s.toArray⟩ (by omega) v h w) fun e w' ⟨h1, h2⟩ => ⟨_, h1, ⟨v, _, rfl, .inl rfl, .inl ⟨by unfold parseI; rw [h], rfl⟩⟩, by
      rcases h2 with rfl | ⟨t, rfl⟩
      · exact Below.refl _ _
      · exact below_bytes w t⟩
  · obtain ⟨tp, p, hv⟩ := hL.syn
    exact Calls.mono (Any.strconv_ParseInt_10_at64_syntax_var Tryz.laysC174 ⟨s.toArray⟩ hs' h tp p w hv) fun e w' ⟨N, h1, _, _, h2⟩ => ⟨_, h1, ⟨0, _, rfl, .inr ⟨_, _, rfl⟩, .inr ⟨by unfold parseI; rw [h], rfl⟩⟩, h2⟩
  · obtain ⟨tp, p, hv⟩ := hL.rng
    exact Calls.mono (Any.strconv_ParseInt_10_at64_range_var Tryz.laysC174 ⟨s.toArray⟩ hs' h tp p w hv) fun e w' ⟨N, h1, _, _, h2⟩ => ⟨_, h1, ⟨_, _, rfl, .inr ⟨_, _, rfl⟩, .inr ⟨by unfold parseI; rw [h], rfl⟩⟩, h2⟩
theorem parseI_bd {s : List UInt8} {v : Int} (h : parseI s = some v) : -9223372036854775808 ≤ v ∧ v ≤ 9223372036854775807 := by
  unfold parseI at h
  split at h
  · rename_i u hu; cases h; have := Lib.parseIntB_bounds hu; have e : (2 : Nat) ^ (64 - 1) = 9223372036854775808 := by decide
    rw [e] at this; omega
  · cases h
theorem nilT {s : List UInt8} {n : Int} {e : Value} (h : (parseI s = some n ∧ isNilI e = true) ∨ (parseI s = none ∧ isNilI e = false)) (he : isNilI e = true) : parseI s = some n := by
  rcases h with h | h
  · exact h.1
  · rw [h.2] at he; cases he
theorem nilF {s : List UInt8} {n : Int} {e : Value} (h : (parseI s = some n ∧ isNilI e = true) ∨ (parseI s = none ∧ isNilI e = false)) (he : isNilI e = false) : parseI s = none := by
  rcases h with h | h
  · rw [h.2] at he; cases he
  · exact h.1
/-- what Read may call, at a text -/
structure Callees (pf : List UInt8 → Option Nat) (uq : List UInt8 → List UInt8 × Nat) (s : List UInt8) : Prop where
  unq : Lib.hasPrefix s [39] = true → ∀ w, Lb w → Ret Tryz.prog 42 [str s] w fun v w' => v = .tuple #[str (uq s).1, .int .i64 ((uq s).2 : Nat)] ∧ Below w.heap.size w w'
  word : ∀ x, x ∈ words3 → Lib.hasPrefix s x = true → ∀ w, Lb w → Ret Tryz.prog 44 [str x] w fun v w' => v = .tuple #[.float .f64 ((pf x).getD 0), .int .i64 (if (pf x).isSome = true then 0 else 2)] ∧ Below w.heap.size w w'
  prs : ∀ e, (112 : UInt8) ∈ s.take e → ∀ w, Lb w → Ret Tryz.prog 44 [str (s.take e)] w fun v w' => v = .tuple #[.float .f64 ((pf (s.take e)).getD 0), .int .i64 (if (pf (s.take e)).isSome = true then 0 else 2)] ∧ Below w.heap.size w w'
theorem lead_sum (s : List UInt8) : ((nDig (Lib.trimPrefix s [45]) : Nat) : Int) + (s.length : Int) - ((Lib.trimPrefix s [45]).length : Int) = (lead s : Nat) := by
  have := trimP_le s [45]; unfold lead; omega
theorem at_p {s : List UInt8} {n : Nat} (h : n < s.length) {x : Int} (hx : x = ((s.getD n 0).toNat : Int)) (c : UInt8) : (x == (c.toNat : Int)) = decide (s[n]? = some c) := by
  rw [Bool.eq_iff_iff, beq_iff_eq, decide_eq_true_eq, hx, List.getElem?_eq_getElem h]
  simp only [List.getD, List.getElem?_eq_getElem h, Option.getD_some, Option.some.injEq]
  constructor
  · intro e; exact UInt8.toNat_inj.1 (by omega)
  · intro e; rw [e]
set_option maxHeartbeats 2000000 in
theorem Read_r (pf : List UInt8 → Option Nat) (uq : List UInt8 → List UInt8 × Nat) (s : List UInt8) (hs : s.length ≤ 281474976710656) (hC : Callees pf uq s) (w : World) (hL : Lb w) : Ret Tryz.prog 16 [str s] w fun v w' => v = rdV (readV pf uq s) ∧ Below w.heap.size w w' := by
  have hld := lead_le s
  have htp := trimP_le s [45]
  have hnd := nDig_le (Lib.trimPrefix s [45])
  have hb := Below.refl w.heap.size w
  have hL_hb := hL
  refine enter Tryz.func16 rfl rfl rfl ?_
  refine Wc.seq fun _ hK_1 => ?_
  refine Wc.region ?_
  refine Wl.allocN (z := (.agg #[(.int .i64 0), (.int .i64 0), (.float .f64 0), (str [])])) (by kernel_rfl) rfl ?_
  rintro g_o0 w_o0 hg_o0 hn_o0 hs_o0
  have hz_o0 := hs_o0.size
  have hb := hb.trans (hs_o0.mono hb.size)
  have hL := hL_hb.below hb
  have hB_o0 := hn_o0
  have hl_o0 := hB_o0.lt
  refine Wl.y (y_assign rfl) rfl ?_
  refine Wl.y (y_assign rfl) rfl ?_
  refine Wl.nil ?_
  refine Wq.next hK_1 ?_
  refine Wc.seq fun _ hK_5 => ?_
  refine Wc.seq fun _ hK_6 => ?_
  refine Wc.region ?_
  refine Wl.y (y_move rfl) rfl ?_
  refine Wl.call txt41ValD rfl rfl (HasPrefix_r s _ _) rfl ?_
  rintro _ w_ ⟨rfl, hw_⟩
  have hw_ := hw_.symm; subst hw_
  refine Wl.nil ?_
  refine Wq.next hK_6 ?_
  refine Wc.cond rfl (fun c0_9 => ?_) (fun c0_9 => ?_)
  ·
   have c0_9_ := c0_9
   try simp only [decide_eq_true_eq, decide_eq_false_iff_not, beq_iff_eq, beq_eq_false_iff_ne, bne_iff_ne, bne_eq_false_iff_eq, Bool.not_eq_true', Bool.not_eq_false', Bool.not_eq_eq_eq_not, Bool.not_true, Bool.not_false, ne_eq, Int.not_lt, Int.not_le] at c0_9
   refine Wc.seq fun _ hK_10 => ?_
   refine Wc.region ?_
   refine Wl.y (y_move rfl) rfl ?_
   refine Wl.call txt42ValD rfl rfl (hC.unq c0_9_ _ hL) rfl ?_
   rintro _ w_k1 ⟨rfl, hs_k1⟩
   have hz_k1 := hs_k1.size
   have hb := hb.trans (hs_k1.mono hb.size)
   have hL := hL_hb.below hb
   try have hB_o0 := Blk.below hB_o0 hs_k1
   refine Wl.y (y_move rfl) rfl ?_
   refine Wl.y (y_extract rfl rfl) rfl ?_
   refine Wl.y (y_extract rfl rfl) rfl ?_
   refine Wl.y (y_assign rfl) rfl ?_
   refine Wl.y (y_assign rfl) rfl ?_
   refine Wl.nil ?_
   refine Wq.next hK_10 ?_
   refine Wc.seq fun _ hK_18 => ?_
   refine Wc.seq fun _ hK_19 => ?_
   refine Wc.region ?_
   refine Wl.y (y_move rfl) rfl ?_
   refine Wl.y (y_eqli rfl rfl) rfl ?_
   refine Wl.nil ?_
   refine Wq.next hK_19 ?_
   refine Wc.cond rfl (fun c1_22 => ?_) (fun c1_22 => ?_)
   ·
    have c1_22_ := c1_22
    try simp only [decide_eq_true_eq, decide_eq_false_iff_not, beq_iff_eq, beq_eq_false_iff_ne, bne_iff_ne, bne_eq_false_iff_eq, Bool.not_eq_true', Bool.not_eq_false', Bool.not_eq_eq_eq_not, Bool.not_true, Bool.not_false, ne_eq, Int.not_lt, Int.not_le] at c1_22
    refine Wc.seq fun _ hK_23 => ?_
    refine Wc.region ?_
    refine Wl.y (y_buildS (z := [(.int .i64 0), (.int .i64 0), (.float .f64 0), (str [])]) (pl := [(0, 1), (1, 1), (2, 1), (3, 1)]) (cs := [_, _, _, _]) Tryz.underlying28 (by kernel_rfl) (by kernel_rfl) rfl rfl rfl) rfl ?_
    refine Wl.storeS (by kernel_rfl) rfl rfl hB_o0 rfl rfl ?_
    rintro w_s0 hn_s0 hg_s0
    have hz_s0 := hg_s0.size
    have hb := below_blk hb hg_s0 hb.size (by omega)
    have hL := hL_hb.below hb
    have hB_o0 := hn_s0
    refine Wl.y (y_assign rfl) rfl ?_
    refine Wl.y (y_assign rfl) rfl ?_
    refine Wl.nil ?_
    refine Wq.next hK_23 ?_
    refine Wc.ret ?_
    refine Wq.then_ret (Wq.then_ret ?_)
    refine retN (rs := [.cell 2 28, .tmp 3, .tmp 4]) (vs := [_, _, _]) rfl (.cell rfl (loadS Tryz.underlying28 (by kernel_rfl) (fun j u hu => hB_o0.at hu)) (.tmp rfl (.tmp rfl .nil))) ?_
    exact ⟨_, rfl, by unfold readV; rw [if_pos c0_9_, if_pos (by have := c1_22; omega)]; rfl, hb⟩
   ·
    have c1_22_ := c1_22
    try simp only [decide_eq_true_eq, decide_eq_false_iff_not, beq_iff_eq, beq_eq_false_iff_ne, bne_iff_ne, bne_eq_false_iff_eq, Bool.not_eq_true', Bool.not_eq_false', Bool.not_eq_eq_eq_not, Bool.not_true, Bool.not_false, ne_eq, Int.not_lt, Int.not_le] at c1_22
    refine Wc.skip ?_
    refine Wq.next hK_18 ?_
    refine Wc.seq fun _ hK_27 => ?_
    refine Wc.region ?_
    refine Wl.y (y_move rfl) rfl ?_
    refine Wl.y (y_buildS (z := [(.int .i64 0), (.int .i64 0), (.float .f64 0), (str [])]) (pl := [(0, 1), (1, 1), (2, 1), (3, 1)]) (cs := [_, _, _, _]) Tryz.underlying28 (by kernel_rfl) (by kernel_rfl) rfl rfl rfl) rfl ?_
    refine Wl.y (y_move rfl) rfl ?_
    refine Wl.storeS (by kernel_rfl) rfl rfl hB_o0 rfl rfl ?_
    rintro w_s1 hn_s1 hg_s1
    have hz_s1 := hg_s1.size
    have hb := below_blk hb hg_s1 hb.size (by omega)
    have hL := hL_hb.below hb
    have hB_o0 := hn_s1
    refine Wl.y (y_assign rfl) rfl ?_
    refine Wl.y (y_assign rfl) rfl ?_
    refine Wl.nil ?_
    refine Wq.next hK_27 ?_
    refine Wc.ret ?_
    refine Wq.then_ret ?_
    refine retN (rs := [.cell 2 28, .tmp 3, .tmp 4]) (vs := [_, _, _]) rfl (.cell rfl (loadS Tryz.underlying28 (by kernel_rfl) (fun j u hu => hB_o0.at hu)) (.tmp rfl (.tmp rfl .nil))) ?_
    exact ⟨_, rfl, by unfold readV; rw [if_pos c0_9_, if_neg (by have := c1_22; omega)]; rfl, hb⟩
  ·
   have c0_9_ := c0_9
   try simp only [decide_eq_true_eq, decide_eq_false_iff_not, beq_iff_eq, beq_eq_false_iff_ne, bne_iff_ne, bne_eq_false_iff_eq, Bool.not_eq_true', Bool.not_eq_false', Bool.not_eq_eq_eq_not, Bool.not_true, Bool.not_false, ne_eq, Int.not_lt, Int.not_le] at c0_9
   have hq39 : Lib.hasPrefix s [39] = false := c0_9_
   refine Wc.skip ?_
   refine Wq.next hK_5 ?_
   refine Wc.seq fun _ hK_33 => ?_
   refine Wc.seq fun _ hK_34 => ?_
   refine Wc.region ?_
   refine Wl.makeMap rfl ?_
   rintro g_o20 w_o20 hg_o20 hn_o20 hs_o20
   have hz_o20 := hs_o20.size
   have hb := hb.trans (hs_o20.mono hb.size)
   have hL := hL_hb.below hb
   try have hB_o0 := Blk.below hB_o0 hs_o20
   have hM_o20 := hn_o20
   have hl_o20 := hM_o20.lt
   refine Wl.y (y_buildS (z := [(.int .i64 0), (.int .i64 0), (.float .f64 0), (str [])]) (pl := [(0, 1), (1, 1), (2, 1), (3, 1)]) (cs := [_, _, _, _]) Tryz.underlying28 (by kernel_rfl) (by kernel_rfl) rfl rfl rfl) rfl ?_
   refine Wl.insert Tryz.underlying68 Tryz.underlying9 rfl rfl rfl hM_o20 (by rfl) ?_
   rintro w_o22 hn_o22 hg_o22
   have hz_o22 := hg_o22.size
   have hb := below_blk hb hg_o22 hb.size (by omega)
   have hL := hL_hb.below hb
   try have hB_o0 := hB_o0.over hg_o22 (by omega)
   have hM_o20 := hn_o22
   refine Wl.call txt43ValD rfl rfl (truth_r _ _) rfl ?_
   rintro _ w_k2 ⟨rfl, hs_k2⟩
   have hz_k2 := hs_k2.size
   have hb := hb.trans (hs_k2.mono hb.size)
   have hL := hL_hb.below hb
   try have hB_o0 := Blk.below hB_o0 hs_k2
   try have hM_o20 := Mp.below hM_o20 hs_k2
   refine Wl.insert Tryz.underlying68 Tryz.underlying9 rfl rfl rfl hM_o20 (by rfl) ?_
   rintro w_o23 hn_o23 hg_o23
   have hz_o23 := hg_o23.size
   have hb := below_blk hb hg_o23 hb.size (by omega)
   have hL := hL_hb.below hb
   try have hB_o0 := hB_o0.over hg_o23 (by omega)
   have hM_o20 := hn_o23
   refine Wl.call txt43ValD rfl rfl (truth_r _ _) rfl ?_
   rintro _ w_k3 ⟨rfl, hs_k3⟩
   have hz_k3 := hs_k3.size
   have hb := hb.trans (hs_k3.mono hb.size)
   have hL := hL_hb.below hb
   try have hB_o0 := Blk.below hB_o0 hs_k3
   try have hM_o20 := Mp.below hM_o20 hs_k3
   refine Wl.insert Tryz.underlying68 Tryz.underlying9 rfl rfl rfl hM_o20 (by rfl) ?_
   rintro w_o24 hn_o24 hg_o24
   have hz_o24 := hg_o24.size
   have hb := below_blk hb hg_o24 hb.size (by omega)
   have hL := hL_hb.below hb
   try have hB_o0 := hB_o0.over hg_o24 (by omega)
   have hM_o20 := hn_o24
   refine Wl.y (y_move rfl) rfl ?_
   refine Wl.range Tryz.underlying68 rfl hM_o20 rfl ?_
   rintro g_o26 w_o26 hg_o26 hn_o26 hs_o26
   have hz_o26 := hs_o26.size
   have hb := hb.trans (hs_o26.mono hb.size)
   have hL := hL_hb.below hb
   try have hB_o0 := Blk.below hB_o0 hs_o26
   try have hM_o20 := Mp.below hM_o20 hs_o26
   have hI_o26 := hn_o26
   have hl_o26 := hI_o26.lt
   refine Wl.nil ?_
   refine Wq.next hK_34 ?_
   refine Wc.block ?_
   refine Wc.loop (X := List Nat) (fun seen => [(0, str s), (2, .pointer (some ⟨g_o0, 0, none⟩)), (3, .int .i64 0), (4, .bool false), (38, .pointer (some ⟨g_o26, 0, none⟩))]) (fun seen wr => Below w.heap.size w wr ∧ Blk wr g_o0 28 nullV.cells ∧ Mp wr g_o20 wordsKV ∧ It wr g_o26 g_o20 wordsKV.length seen ∧ (∀ (i : Nat) (p : List UInt8 × Value), i ∈ seen → wordsKV[i]? = some p → Lib.hasPrefix s p.1 = false)) (fun seen => leftN 3 seen) ([]) ?_ ?_ ?_
   · exact Sub.cons' rfl (by first | rfl | exact int_eq (by omega) | exact int_eq (by simp) | (simp; done)) (Sub.cons' rfl (by first | rfl | exact int_eq (by omega) | exact int_eq (by simp) | (simp; done)) (Sub.cons' rfl (by first | rfl | exact int_eq (by omega) | exact int_eq (by simp) | (simp; done)) (Sub.cons' rfl (by first | rfl | exact int_eq (by omega) | exact int_eq (by simp) | (simp; done)) (Sub.cons' rfl (by first | rfl | exact int_eq (by omega) | exact int_eq (by simp) | (simp; done)) (Sub.nil)))))
   · exact ⟨hb, hB_o0, hM_o20, hI_o26, fun _ _ h => by cases h⟩
   ·
    rintro seen wr hI_42 _ hL_41
    replace hI_42 : Below w.heap.size w wr ∧ Blk wr g_o0 28 nullV.cells ∧ Mp wr g_o20 wordsKV ∧ It wr g_o26 g_o20 wordsKV.length seen ∧ (∀ (i : Nat) (p : List UInt8 × Value), i ∈ seen → wordsKV[i]? = some p → Lib.hasPrefix s p.1 = false) := hI_42
    obtain ⟨hb, hB_o0, hM_o20, hI_o26, hsn⟩ := hI_42
    show Wc _ _ _ _ _ [(0, str s), (2, .pointer (some ⟨g_o0, 0, none⟩)), (3, .int .i64 0), (4, .bool false), (38, .pointer (some ⟨g_o26, 0, none⟩))] _
    have hL := hL_hb.below hb
    try have hzhb_L0 := hb.size
    have hlhB_o0_L0 := hB_o0.lt
    have hlhM_o20_L0 := hM_o20.lt
    have hlhI_o26_L0 := hI_o26.lt
    have hll1 := hI_o26.lt
    have hll2 := hM_o20.lt
    have hll3 := hB_o0.lt
    refine Wc.seq fun _ hK_43 => ?_
    refine Wc.region ?_
    refine Wl.next rfl hI_o26 hM_o20 rfl (fun hall_o27 => ?_) ?_
    ·
     refine Wl.y (y_extract rfl rfl) rfl ?_
     refine Wl.nil ?_
     refine Wq.next hK_43 ?_
     refine Wc.seq fun _ hK_46 => ?_
     refine Wc.condF rfl rfl ?_
     refine Wc.exit ?_
     refine Wq.then_exit ?_
     refine Wq.then_exit ?_
     refine Wq.block_exit ?_
     refine Wq.next hK_33 ?_
     refine Wc.seq fun _ hK_47 => ?_
     refine Wc.seq fun _ hK_48 => ?_
     refine Wc.region ?_
     have hrd : readV pf uq s = match words3.find? (fun x => Lib.hasPrefix s x) with
       | some x => some (⟨3, 0, (pf x).getD 0, []⟩, x.length)
       | none => match floatAt pf s with
         | some r => some r
         | none => downI s (min (lead s) 20) := word_miss hq39 (fun i p hp => hsn i p (hall_o27 i (List.getElem?_eq_some_iff.1 hp).1) hp)
     refine Wl.litN (sz := 1) (vs := [_, _, _]) Tryz.underlying53 (by kernel_rfl) rfl rfl rfl rfl rfl rfl ?_
     rintro g_b1 w_b1 hg_b1 hn_b1 hs_b1
     have hz_b1 := hs_b1.size
     have hb := hb.trans (hs_b1.mono hb.size)
     have hL := hL_hb.below hb
     try have hB_o0 := Blk.below hB_o0 hs_b1
     have hB_b1 := hn_b1
     have hl_b1 := hB_b1.lt
     refine Wl.y (y_lenl Tryz.underlying53 (by omega) rfl) rfl ?_
     refine Wl.y (y_move rfl) rfl ?_
     refine Wl.nil ?_
     refine Wq.next hK_48 ?_
     refine Wc.block ?_
     refine Wc.loop (X := Nat) (fun k => [(0, str s), (2, .pointer (some ⟨g_o0, 0, none⟩)), (3, .int .i64 0), (4, .bool false), (50, .slice (some ⟨g_b1, 0, none⟩) 3 3), (51, .int .i64 3), (52, .int .i64 (k : Int))]) (fun k wr => k ≤ 3 ∧ Below w.heap.size w wr ∧ Blk wr g_o0 28 nullV.cells ∧ Blk wr g_b1 9 [str [110, 97, 110], str [105, 110, 102], str [45, 105, 110, 102]] ∧ (∀ j, j < k → Lib.hasPrefix s (words3.getD j []) = false)) (fun k => 3 - k) (0) ?_ ?_ ?_
     · exact Sub.cons' rfl (by first | rfl | exact int_eq (by omega) | exact int_eq (by simp) | (simp; done)) (Sub.cons' rfl (by first | rfl | exact int_eq (by omega) | exact int_eq (by simp) | (simp; done)) (Sub.cons' rfl (by first | rfl | exact int_eq (by omega) | exact int_eq (by simp) | (simp; done)) (Sub.cons' rfl (by first | rfl | exact int_eq (by omega) | exact int_eq (by simp) | (simp; done)) (Sub.cons' rfl (by first | rfl | exact int_eq (by omega) | exact int_eq (by simp) | (simp; done)) (Sub.cons' rfl (by first | rfl | exact int_eq (by omega) | exact int_eq (by simp) | (simp; done)) (Sub.cons' rfl (by first | rfl | exact int_eq (by omega) | exact int_eq (by simp) | (simp; done)) (Sub.nil)))))))
     · exact ⟨by omega, hb, hB_o0, hB_b1, fun j hj => by omega⟩
     ·
      rintro k wr hI_53 _ hL_52
      replace hI_53 : k ≤ 3 ∧ Below w.heap.size w wr ∧ Blk wr g_o0 28 nullV.cells ∧ Blk wr g_b1 9 [str [110, 97, 110], str [105, 110, 102], str [45, 105, 110, 102]] ∧ (∀ j, j < k → Lib.hasPrefix s (words3.getD j []) = false) := hI_53
      obtain ⟨hk, hb, hB_o0, hB_b1, hsw⟩ := hI_53
      show Wc _ _ _ _ _ [(0, str s), (2, .pointer (some ⟨g_o0, 0, none⟩)), (3, .int .i64 0), (4, .bool false), (50, .slice (some ⟨g_b1, 0, none⟩) 3 3), (51, .int .i64 3), (52, .int .i64 (k : Int))] _
      have hL := hL_hb.below hb
      try have hzhb_L1 := hb.size
      have hlhB_o0_L1 := hB_o0.lt
      have hlhB_b1_L1 := hB_b1.lt
      refine Wc.seq fun _ hK_54 => ?_
      refine Wc.region ?_
      refine Wl.y (y_lssi rfl rfl) rfl ?_
      refine Wl.nil ?_
      refine Wq.next hK_54 ?_
      refine Wc.seq fun _ hK_56 => ?_
      refine Wc.cond rfl (fun c4_57 => ?_) (fun c4_57 => ?_)
      ·
       have c4_57_ := c4_57
       try simp only [decide_eq_true_eq, decide_eq_false_iff_not, beq_iff_eq, beq_eq_false_iff_ne, bne_iff_ne, bne_eq_false_iff_eq, Bool.not_eq_true', Bool.not_eq_false', Bool.not_eq_eq_eq_not, Bool.not_true, Bool.not_false, ne_eq, Int.not_lt, Int.not_le] at c4_57
       refine Wc.skip ?_
       refine Wq.next hK_56 ?_
       refine Wc.seq fun _ hK_58 => ?_
       refine Wc.block ?_
       refine Wc.seq fun _ hK_59 => ?_
       obtain ⟨p, v, hpe, hv, hcell⟩ := (hB_b1.rd 3 1 rfl).one (i := k) (by omega)
       cases hpe
       obtain ⟨hve, hwl, hwm⟩ := w3_at (by omega) hv
       subst hve
       refine Wc.region ?_
       refine Wl.y (y_indexAddr Tryz.underlying53 sz9ValD rfl rfl (by omega) (by omega)) rfl ?_
       refine Wl.l (l_load one9ValD rfl (by exact at1 hcell)) rfl ?_
       refine Wl.y (y_assign rfl) rfl ?_
       refine Wl.nil ?_
       refine Wq.next hK_59 ?_
       refine Wc.seq fun _ hK_63 => ?_
       refine Wc.region ?_
       refine Wl.y (y_move rfl) rfl ?_
       refine Wl.y (y_move rfl) rfl ?_
       refine Wl.call txt41ValD rfl rfl (HasPrefix_r s _ _) rfl ?_
       rintro _ w_ ⟨rfl, hw_⟩
       have hw_ := hw_.symm; subst hw_
       refine Wl.nil ?_
       refine Wq.next hK_63 ?_
       refine Wc.cond rfl (fun c5_67 => ?_) (fun c5_67 => ?_)
       ·
        have c5_67_ := c5_67
        try simp only [decide_eq_true_eq, decide_eq_false_iff_not, beq_iff_eq, beq_eq_false_iff_ne, bne_iff_ne, bne_eq_false_iff_eq, Bool.not_eq_true', Bool.not_eq_false', Bool.not_eq_eq_eq_not, Bool.not_true, Bool.not_false, ne_eq, Int.not_lt, Int.not_le] at c5_67
        refine Wc.seq fun _ hK_68 => ?_
        refine Wc.region ?_
        refine Wl.y (y_move rfl) rfl ?_
        refine Wl.call txt44ValD rfl rfl (hC.word _ hwm c5_67_ _ hL) rfl ?_
        rintro _ w_k6 ⟨rfl, hs_k6⟩
        have hz_k6 := hs_k6.size
        have hb := hb.trans (hs_k6.mono hb.size)
        have hL := hL_hb.below hb
        try have hB_o0 := Blk.below hB_o0 hs_k6
        refine Wl.y (y_move rfl) rfl ?_
        refine Wl.y (y_extract rfl rfl) rfl ?_
        refine Wl.y (y_extract rfl rfl) rfl ?_
        refine Wl.y (y_assign rfl) rfl ?_
        refine Wl.y (y_assign rfl) rfl ?_
        refine Wl.nil ?_
        refine Wq.next hK_68 ?_
        refine Wc.seq fun _ hK_76 => ?_
        refine Wc.region ?_
        refine Wl.y (y_move rfl) rfl ?_
        refine Wl.y (y_buildS (z := [(.int .i64 0), (.int .i64 0), (.float .f64 0), (str [])]) (pl := [(0, 1), (1, 1), (2, 1), (3, 1)]) (cs := [_, _, _, _]) Tryz.underlying28 (by kernel_rfl) (by kernel_rfl) rfl rfl rfl) rfl ?_
        refine Wl.y (y_move rfl) rfl ?_
        refine Wl.y (y_lens Tryz.underlying9 (by omega) rfl) rfl ?_
        refine Wl.storeS (by kernel_rfl) rfl rfl hB_o0 rfl rfl ?_
        rintro w_s4 hn_s4 hg_s4
        have hz_s4 := hg_s4.size
        have hb := below_blk hb hg_s4 hb.size (by omega)
        have hL := hL_hb.below hb
        have hB_o0 := hn_s4
        refine Wl.y (y_assign rfl) rfl ?_
        refine Wl.y (y_assign rfl) rfl ?_
        refine Wl.nil ?_
        refine Wq.next hK_76 ?_
        refine Wc.ret ?_
        refine Wq.block_ret (Wq.then_ret (Wq.then_ret (Wq.block_ret (Wq.then_ret ?_))))
        refine retN (rs := [.cell 2 28, .tmp 3, .tmp 4]) (vs := [_, _, _]) rfl (.cell rfl (loadS Tryz.underlying28 (by kernel_rfl) (fun j u hu => hB_o0.at hu)) (.tmp rfl (.tmp rfl .nil))) ?_
        exact ⟨_, rfl, by rw [hrd, w3_find (pr := fun x => Lib.hasPrefix s x) (by omega) hsw c5_67_]; rfl, hb⟩
       ·
        have c5_67_ := c5_67
        try simp only [decide_eq_true_eq, decide_eq_false_iff_not, beq_iff_eq, beq_eq_false_iff_ne, bne_iff_ne, bne_eq_false_iff_eq, Bool.not_eq_true', Bool.not_eq_false', Bool.not_eq_eq_eq_not, Bool.not_true, Bool.not_false, ne_eq, Int.not_lt, Int.not_le] at c5_67
        refine Wc.skip ?_
        refine Wq.block_normal ?_
        refine Wq.next hK_58 ?_
        refine Wc.region ?_
        refine Wl.y (y_addI rfl rfl (by first | omega | (simp; done) | (simp; omega)) (by first | omega | (simp; done) | (simp; omega))) rfl ?_
        refine Wl.y (y_move rfl) rfl ?_
        refine Wl.nil ?_
        refine fun a_ ha_ => hL_52 _ _ (k + 1) (by first | omega | (simp; omega)) (Sub.cons' rfl (by first | rfl | exact int_eq (by omega) | exact int_eq (by simp) | (simp; done)) (Sub.cons' rfl (by first | rfl | exact int_eq (by omega) | exact int_eq (by simp) | (simp; done)) (Sub.cons' rfl (by first | rfl | exact int_eq (by omega) | exact int_eq (by simp) | (simp; done)) (Sub.cons' rfl (by first | rfl | exact int_eq (by omega) | exact int_eq (by simp) | (simp; done)) (Sub.cons' rfl (by first | rfl | exact int_eq (by omega) | exact int_eq (by simp) | (simp; done)) (Sub.cons' rfl (by first | rfl | exact int_eq (by omega) | exact int_eq (by simp) | (simp; done)) (Sub.cons' rfl (by first | rfl | exact int_eq (by omega) | exact int_eq (by simp) | (simp; done)) (Sub.nil)))))))) ?_ a_ ha_
        exact ⟨by omega, hb, hB_o0, hB_b1, sw_snoc hsw c5_67_⟩
      ·
       have c4_57_ := c4_57
       try simp only [decide_eq_true_eq, decide_eq_false_iff_not, beq_iff_eq, beq_eq_false_iff_ne, bne_iff_ne, bne_eq_false_iff_eq, Bool.not_eq_true', Bool.not_eq_false', Bool.not_eq_eq_eq_not, Bool.not_true, Bool.not_false, ne_eq, Int.not_lt, Int.not_le] at c4_57
       refine Wc.exit ?_
       refine Wq.then_exit ?_
       refine Wq.then_exit ?_
       refine Wq.block_exit ?_
       refine Wq.next hK_47 ?_
       refine Wc.seq fun _ hK_85 => ?_
       have hrd2 : readV pf uq s = match floatAt pf s with
         | some r => some r
         | none => downI s (min (lead s) 20) := by rw [hrd, w3_none (pr := fun x => Lib.hasPrefix s x) (fun j hj => hsw j (by omega))]
       refine Wc.region ?_
       refine Wl.y (y_move rfl) rfl ?_
       refine Wl.call txt46ValD rfl rfl (TrimPrefix_r s _ _) rfl ?_
       rintro _ w_ ⟨rfl, hw_⟩
       have hw_ := hw_.symm; subst hw_
       refine Wl.call txt45ValD rfl rfl (digits_r _ (by omega) _) rfl ?_
       rintro _ w_k8 ⟨rfl, hs_k8⟩
       have hz_k8 := hs_k8.size
       have hb := hb.trans (hs_k8.mono hb.size)
       have hL := hL_hb.below hb
       try have hB_o0 := Blk.below hB_o0 hs_k8
       refine Wl.y (y_move rfl) rfl ?_
       refine Wl.y (y_lens Tryz.underlying9 (by omega) rfl) rfl ?_
       refine Wl.y (y_addI rfl rfl (by first | omega | (simp; done) | (simp; omega)) (by first | omega | (simp; done) | (simp; omega))) rfl ?_
       refine Wl.y (y_move rfl) rfl ?_
       refine Wl.call txt46ValD rfl rfl (TrimPrefix_r s _ _) rfl ?_
       rintro _ w_ ⟨rfl, hw_⟩
       have hw_ := hw_.symm; subst hw_
       refine Wl.y (y_lens Tryz.underlying9 (by omega) rfl) rfl ?_
       refine Wl.y (y_eq (y_subI rfl rfl (by first | omega | (simp; done) | (simp; omega)) (by first | omega | (simp; done) | (simp; omega))) (int_eq (lead_sum s))) rfl ?_
       refine Wl.y (y_assign rfl) rfl ?_
       refine Wl.nil ?_
       refine Wq.next hK_85 ?_
       refine Wc.seq fun _ hK_97 => ?_
       refine Wc.seq fun _ hK_98 => ?_
       refine Wc.meet (X := Unit) (fun u_ => [(0, str s), (2, .pointer (some ⟨g_o0, 0, none⟩)), (3, .int .i64 0), (4, .bool false), (13, .int .i64 (lead s : Nat)), (88, .bool (decide (s[lead s]? = some 112)))]) (fun u_ wr => Below w.heap.size w wr ∧ Blk wr g_o0 28 nullV.cells) (fun _ hM_99 => ?_) ?_
       ·
        refine Wc.region ?_
        refine Wl.y (y_move rfl) rfl ?_
        refine Wl.y (y_move rfl) rfl ?_
        refine Wl.y (y_lens Tryz.underlying9 (by omega) rfl) rfl ?_
        refine Wl.y (y_lssi rfl rfl) rfl ?_
        refine Wl.y (y_move rfl) rfl ?_
        refine Wl.guardT rfl rfl rfl (fun g_105 => ?_) (fun g_105 => ?_)
        ·
         have g_105_ := g_105
         try simp only [decide_eq_true_eq, decide_eq_false_iff_not, beq_iff_eq, beq_eq_false_iff_ne, bne_iff_ne, bne_eq_false_iff_eq, Bool.not_eq_true', Bool.not_eq_false', Bool.not_eq_eq_eq_not, Bool.not_true, Bool.not_false, ne_eq, Int.not_lt, Int.not_le] at g_105
         refine Wl.y (y_move rfl) rfl ?_
         refine Wl.on' rfl rfl g_105_ ?_
         refine Wl.y (y_move rfl) rfl ?_
         refine Wl.on' rfl rfl g_105_ ?_
         refine Wl.y (y_indexs Tryz.underlying9 rfl rfl (by omega) (by omega)) rfl ?_
         refine Wl.on' rfl rfl g_105_ ?_
         refine Wl.y (y_eqli rfl rfl) rfl ?_
         refine Wl.y (y_pickT rfl g_105_ rfl) rfl ?_
         refine Wl.nil ?_
         refine Wq.meet hM_99 (()) (Sub.cons' rfl (by first | rfl | exact bool_eq (at_p (by have := g_105; omega) rfl 112) | (refine bool_eq (decide_eq_false ?_).symm; rw [List.getElem?_eq_none (by have := g_105; omega)]; simp)) (Sub.cons' rfl (by first | rfl | exact bool_eq (at_p (by have := g_105; omega) rfl 112) | (refine bool_eq (decide_eq_false ?_).symm; rw [List.getElem?_eq_none (by have := g_105; omega)]; simp)) (Sub.cons' rfl (by first | rfl | exact bool_eq (at_p (by have := g_105; omega) rfl 112) | (refine bool_eq (decide_eq_false ?_).symm; rw [List.getElem?_eq_none (by have := g_105; omega)]; simp)) (Sub.cons' rfl (by first | rfl | exact bool_eq (at_p (by have := g_105; omega) rfl 112) | (refine bool_eq (decide_eq_false ?_).symm; rw [List.getElem?_eq_none (by have := g_105; omega)]; simp)) (Sub.cons' rfl (by first | rfl | exact bool_eq (at_p (by have := g_105; omega) rfl 112) | (refine bool_eq (decide_eq_false ?_).symm; rw [List.getElem?_eq_none (by have := g_105; omega)]; simp)) (Sub.cons' rfl (by first | rfl | exact bool_eq (at_p (by have := g_105; omega) rfl 112) | (refine bool_eq (decide_eq_false ?_).symm; rw [List.getElem?_eq_none (by have := g_105; omega)]; simp)) (Sub.nil))))))) ?_
         exact ⟨hb, hB_o0⟩
        ·
         have g_105_ := g_105
         try simp only [decide_eq_true_eq, decide_eq_false_iff_not, beq_iff_eq, beq_eq_false_iff_ne, bne_iff_ne, bne_eq_false_iff_eq, Bool.not_eq_true', Bool.not_eq_false', Bool.not_eq_eq_eq_not, Bool.not_true, Bool.not_false, ne_eq, Int.not_lt, Int.not_le] at g_105
         refine Wl.off' rfl rfl g_105_ rfl rfl ?_
         refine Wl.off' rfl rfl g_105_ rfl rfl ?_
         refine Wl.off' rfl rfl g_105_ rfl rfl ?_
         refine Wl.y (y_pickF rfl g_105_ rfl) rfl ?_
         refine Wl.nil ?_
         refine Wq.meet hM_99 (()) (Sub.cons' rfl (by first | rfl | exact bool_eq (at_p (by have := g_105; omega) rfl 112) | (refine bool_eq (decide_eq_false ?_).symm; rw [List.getElem?_eq_none (by have := g_105; omega)]; simp)) (Sub.cons' rfl (by first | rfl | exact bool_eq (at_p (by have := g_105; omega) rfl 112) | (refine bool_eq (decide_eq_false ?_).symm; rw [List.getElem?_eq_none (by have := g_105; omega)]; simp)) (Sub.cons' rfl (by first | rfl | exact bool_eq (at_p (by have := g_105; omega) rfl 112) | (refine bool_eq (decide_eq_false ?_).symm; rw [List.getElem?_eq_none (by have := g_105; omega)]; simp)) (Sub.cons' rfl (by first | rfl | exact bool_eq (at_p (by have := g_105; omega) rfl 112) | (refine bool_eq (decide_eq_false ?_).symm; rw [List.getElem?_eq_none (by have := g_105; omega)]; simp)) (Sub.cons' rfl (by first | rfl | exact bool_eq (at_p (by have := g_105; omega) rfl 112) | (refine bool_eq (decide_eq_false ?_).symm; rw [List.getElem?_eq_none (by have := g_105; omega)]; simp)) (Sub.cons' rfl (by first | rfl | exact bool_eq (at_p (by have := g_105; omega) rfl 112) | (refine bool_eq (decide_eq_false ?_).symm; rw [List.getElem?_eq_none (by have := g_105; omega)]; simp)) (Sub.nil))))))) ?_
         exact ⟨hb, hB_o0⟩
       ·
        rintro u_ wr hI_112
        replace hI_112 : Below w.heap.size w wr ∧ Blk wr g_o0 28 nullV.cells := hI_112
        obtain ⟨hb, hB_o0⟩ := hI_112
        show Wq _ _ _ _ [(0, str s), (2, .pointer (some ⟨g_o0, 0, none⟩)), (3, .int .i64 0), (4, .bool false), (13, .int .i64 (lead s : Nat)), (88, .bool (decide (s[lead s]? = some 112)))] _
        have hL := hL_hb.below hb
        try have hzhb_g19 := hb.size
        have hlhB_o0_g19 := hB_o0.lt
        refine Wq.next hK_98 ?_
        refine Wc.meet (X := Unit) (fun u_ => [(0, str s), (2, .pointer (some ⟨g_o0, 0, none⟩)), (3, .int .i64 0), (4, .bool false), (13, .int .i64 (lead s : Nat))]) (fun u_ wr => Below w.heap.size w wr ∧ Blk wr g_o0 28 nullV.cells ∧ floatAt pf s = none) (fun _ hM_113 => ?_) ?_
        ·
         refine Wc.cond rfl (fun c6_114 => ?_) (fun c6_114 => ?_)
         ·
          have c6_114_ := c6_114
          try simp only [decide_eq_true_eq, decide_eq_false_iff_not, beq_iff_eq, beq_eq_false_iff_ne, bne_iff_ne, bne_eq_false_iff_eq, Bool.not_eq_true', Bool.not_eq_false', Bool.not_eq_eq_eq_not, Bool.not_true, Bool.not_false, ne_eq, Int.not_lt, Int.not_le] at c6_114
          have h112 : s[lead s]? = some 112 := c6_114
          obtain ⟨hK1, hK2, hK3⟩ := floatK_bd s h112
          obtain ⟨hM1, hM2⟩ := floatM_bd s h112
          refine Wc.seq fun _ hK_115 => ?_
          refine Wc.region ?_
          refine Wl.y (y_move rfl) rfl ?_
          refine Wl.y (y_addI rfl rfl (by first | omega | (simp; done) | (simp; omega)) (by first | omega | (simp; done) | (simp; omega))) rfl ?_
          refine Wl.y (y_assign rfl) rfl ?_
          refine Wl.nil ?_
          refine Wq.next hK_115 ?_
          refine Wc.seq fun _ hK_119 => ?_
          refine Wc.seq fun _ hK_120 => ?_
          refine Wc.meet (X := Unit) (fun u_ => [(0, str s), (2, .pointer (some ⟨g_o0, 0, none⟩)), (3, .int .i64 0), (4, .bool false), (13, .int .i64 (lead s : Nat)), (14, .int .i64 ((lead s + 1 : Nat) : Int)), (100, .bool (decide (s[lead s + 1]? = some 45)))]) (fun u_ wr => Below w.heap.size w wr ∧ Blk wr g_o0 28 nullV.cells) (fun _ hM_121 => ?_) ?_
          ·
           refine Wc.region ?_
           refine Wl.y (y_move rfl) rfl ?_
           refine Wl.y (y_move rfl) rfl ?_
           refine Wl.y (y_lens Tryz.underlying9 (by omega) rfl) rfl ?_
           refine Wl.y (y_lssi rfl rfl) rfl ?_
           refine Wl.y (y_move rfl) rfl ?_
           refine Wl.guardT rfl rfl rfl (fun g_127 => ?_) (fun g_127 => ?_)
           ·
            have g_127_ := g_127
            try simp only [decide_eq_true_eq, decide_eq_false_iff_not, beq_iff_eq, beq_eq_false_iff_ne, bne_iff_ne, bne_eq_false_iff_eq, Bool.not_eq_true', Bool.not_eq_false', Bool.not_eq_eq_eq_not, Bool.not_true, Bool.not_false, ne_eq, Int.not_lt, Int.not_le] at g_127
            refine Wl.y (y_move rfl) rfl ?_
            refine Wl.on' rfl rfl g_127_ ?_
            refine Wl.y (y_move rfl) rfl ?_
            refine Wl.on' rfl rfl g_127_ ?_
            refine Wl.y (y_indexs Tryz.underlying9 rfl rfl (by omega) (by omega)) rfl ?_
            refine Wl.on' rfl rfl g_127_ ?_
            refine Wl.y (y_eqli rfl rfl) rfl ?_
            refine Wl.y (y_pickT rfl g_127_ rfl) rfl ?_
            refine Wl.nil ?_
            refine Wq.meet hM_121 (()) (Sub.cons' rfl (by first | rfl | exact int_eq (by omega) | exact bool_eq (at_p (by have := g_127; omega) (by rw [show ((lead s : Nat) : Int) + 1 = ((lead s + 1 : Nat) : Int) by omega, Int.toNat_natCast]) 45) | (refine bool_eq (decide_eq_false ?_).symm; rw [List.getElem?_eq_none (by have := g_127; omega)]; simp)) (Sub.cons' rfl (by first | rfl | exact int_eq (by omega) | exact bool_eq (at_p (by have := g_127; omega) (by rw [show ((lead s : Nat) : Int) + 1 = ((lead s + 1 : Nat) : Int) by omega, Int.toNat_natCast]) 45) | (refine bool_eq (decide_eq_false ?_).symm; rw [List.getElem?_eq_none (by have := g_127; omega)]; simp)) (Sub.cons' rfl (by first | rfl | exact int_eq (by omega) | exact bool_eq (at_p (by have := g_127; omega) (by rw [show ((lead s : Nat) : Int) + 1 = ((lead s + 1 : Nat) : Int) by omega, Int.toNat_natCast]) 45) | (refine bool_eq (decide_eq_false ?_).symm; rw [List.getElem?_eq_none (by have := g_127; omega)]; simp)) (Sub.cons' rfl (by first | rfl | exact int_eq (by omega) | exact bool_eq (at_p (by have := g_127; omega) (by rw [show ((lead s : Nat) : Int) + 1 = ((lead s + 1 : Nat) : Int) by omega, Int.toNat_natCast]) 45) | (refine bool_eq (decide_eq_false ?_).symm; rw [List.getElem?_eq_none (by have := g_127; omega)]; simp)) (Sub.cons' rfl (by first | rfl | exact int_eq (by omega) | exact bool_eq (at_p (by have := g_127; omega) (by rw [show ((lead s : Nat) : Int) + 1 = ((lead s + 1 : Nat) : Int) by omega, Int.toNat_natCast]) 45) | (refine bool_eq (decide_eq_false ?_).symm; rw [List.getElem?_eq_none (by have := g_127; omega)]; simp)) (Sub.cons' rfl (by first | rfl | exact int_eq (by omega) | exact bool_eq (at_p (by have := g_127; omega) (by rw [show ((lead s : Nat) : Int) + 1 = ((lead s + 1 : Nat) : Int) by omega, Int.toNat_natCast]) 45) | (refine bool_eq (decide_eq_false ?_).symm; rw [List.getElem?_eq_none (by have := g_127; omega)]; simp)) (Sub.cons' rfl (by first | rfl | exact int_eq (by omega) | exact bool_eq (at_p (by have := g_127; omega) (by rw [show ((lead s : Nat) : Int) + 1 = ((lead s + 1 : Nat) : Int) by omega, Int.toNat_natCast]) 45) | (refine bool_eq (decide_eq_false ?_).symm; rw [List.getElem?_eq_none (by have := g_127; omega)]; simp)) (Sub.nil)))))))) ?_
            exact ⟨hb, hB_o0⟩
           ·
            have g_127_ := g_127
            try simp only [decide_eq_true_eq, decide_eq_false_iff_not, beq_iff_eq, beq_eq_false_iff_ne, bne_iff_ne, bne_eq_false_iff_eq, Bool.not_eq_true', Bool.not_eq_false', Bool.not_eq_eq_eq_not, Bool.not_true, Bool.not_false, ne_eq, Int.not_lt, Int.not_le] at g_127
            refine Wl.off' rfl rfl g_127_ rfl rfl ?_
            refine Wl.off' rfl rfl g_127_ rfl rfl ?_
            refine Wl.off' rfl rfl g_127_ rfl rfl ?_
            refine Wl.y (y_pickF rfl g_127_ rfl) rfl ?_
            refine Wl.nil ?_
            refine Wq.meet hM_121 (()) (Sub.cons' rfl (by first | rfl | exact int_eq (by omega) | exact bool_eq (at_p (by have := g_127; omega) (by rw [show ((lead s : Nat) : Int) + 1 = ((lead s + 1 : Nat) : Int) by omega, Int.toNat_natCast]) 45) | (refine bool_eq (decide_eq_false ?_).symm; rw [List.getElem?_eq_none (by have := g_127; omega)]; simp)) (Sub.cons' rfl (by first | rfl | exact int_eq (by omega) | exact bool_eq (at_p (by have := g_127; omega) (by rw [show ((lead s : Nat) : Int) + 1 = ((lead s + 1 : Nat) : Int) by omega, Int.toNat_natCast]) 45) | (refine bool_eq (decide_eq_false ?_).symm; rw [List.getElem?_eq_none (by have := g_127; omega)]; simp)) (Sub.cons' rfl (by first | rfl | exact int_eq (by omega) | exact bool_eq (at_p (by have := g_127; omega) (by rw [show ((lead s : Nat) : Int) + 1 = ((lead s + 1 : Nat) : Int) by omega, Int.toNat_natCast]) 45) | (refine bool_eq (decide_eq_false ?_).symm; rw [List.getElem?_eq_none (by have := g_127; omega)]; simp)) (Sub.cons' rfl (by first | rfl | exact int_eq (by omega) | exact bool_eq (at_p (by have := g_127; omega) (by rw [show ((lead s : Nat) : Int) + 1 = ((lead s + 1 : Nat) : Int) by omega, Int.toNat_natCast]) 45) | (refine bool_eq (decide_eq_false ?_).symm; rw [List.getElem?_eq_none (by have := g_127; omega)]; simp)) (Sub.cons' rfl (by first | rfl | exact int_eq (by omega) | exact bool_eq (at_p (by have := g_127; omega) (by rw [show ((lead s : Nat) : Int) + 1 = ((lead s + 1 : Nat) : Int) by omega, Int.toNat_natCast]) 45) | (refine bool_eq (decide_eq_false ?_).symm; rw [List.getElem?_eq_none (by have := g_127; omega)]; simp)) (Sub.cons' rfl (by first | rfl | exact int_eq (by omega) | exact bool_eq (at_p (by have := g_127; omega) (by rw [show ((lead s : Nat) : Int) + 1 = ((lead s + 1 : Nat) : Int) by omega, Int.toNat_natCast]) 45) | (refine bool_eq (decide_eq_false ?_).symm; rw [List.getElem?_eq_none (by have := g_127; omega)]; simp)) (Sub.cons' rfl (by first | rfl | exact int_eq (by omega) | exact bool_eq (at_p (by have := g_127; omega) (by rw [show ((lead s : Nat) : Int) + 1 = ((lead s + 1 : Nat) : Int) by omega, Int.toNat_natCast]) 45) | (refine bool_eq (decide_eq_false ?_).symm; rw [List.getElem?_eq_none (by have := g_127; omega)]; simp)) (Sub.nil)))))))) ?_
            exact ⟨hb, hB_o0⟩
          ·
           rintro u_ wr hI_134
           replace hI_134 : Below w.heap.size w wr ∧ Blk wr g_o0 28 nullV.cells := hI_134
           obtain ⟨hb, hB_o0⟩ := hI_134
           show Wq _ _ _ _ [(0, str s), (2, .pointer (some ⟨g_o0, 0, none⟩)), (3, .int .i64 0), (4, .bool false), (13, .int .i64 (lead s : Nat)), (14, .int .i64 ((lead s + 1 : Nat) : Int)), (100, .bool (decide (s[lead s + 1]? = some 45)))] _
           have hL := hL_hb.below hb
           try have hzhb_g21 := hb.size
           have hlhB_o0_g21 := hB_o0.lt
           refine Wq.next hK_120 ?_
           refine Wc.meet (X := Unit) (fun u_ => [(0, str s), (2, .pointer (some ⟨g_o0, 0, none⟩)), (3, .int .i64 0), (4, .bool false), (13, .int .i64 (lead s : Nat)), (14, .int .i64 (floatK s : Nat))]) (fun u_ wr => Below w.heap.size w wr ∧ Blk wr g_o0 28 nullV.cells) (fun _ hM_135 => ?_) ?_
           ·
            refine Wc.cond rfl (fun c7_136 => ?_) (fun c7_136 => ?_)
            ·
             have c7_136_ := c7_136
             try simp only [decide_eq_true_eq, decide_eq_false_iff_not, beq_iff_eq, beq_eq_false_iff_ne, bne_iff_ne, bne_eq_false_iff_eq, Bool.not_eq_true', Bool.not_eq_false', Bool.not_eq_eq_eq_not, Bool.not_true, Bool.not_false, ne_eq, Int.not_lt, Int.not_le] at c7_136
             refine Wc.region ?_
             refine Wl.y (y_move rfl) rfl ?_
             refine Wl.y (y_addI rfl rfl (by first | omega | (simp; done) | (simp; omega)) (by first | omega | (simp; done) | (simp; omega))) rfl ?_
             refine Wl.y (y_assign rfl) rfl ?_
             refine Wl.nil ?_
             refine Wq.meet hM_135 (()) (Sub.cons' rfl (by first | rfl | exact int_eq (by unfold floatK; rw [if_pos c7_136]; omega) | exact int_eq (by unfold floatK; rw [if_neg c7_136])) (Sub.cons' rfl (by first | rfl | exact int_eq (by unfold floatK; rw [if_pos c7_136]; omega) | exact int_eq (by unfold floatK; rw [if_neg c7_136])) (Sub.cons' rfl (by first | rfl | exact int_eq (by unfold floatK; rw [if_pos c7_136]; omega) | exact int_eq (by unfold floatK; rw [if_neg c7_136])) (Sub.cons' rfl (by first | rfl | exact int_eq (by unfold floatK; rw [if_pos c7_136]; omega) | exact int_eq (by unfold floatK; rw [if_neg c7_136])) (Sub.cons' rfl (by first | rfl | exact int_eq (by unfold floatK; rw [if_pos c7_136]; omega) | exact int_eq (by unfold floatK; rw [if_neg c7_136])) (Sub.cons' rfl (by first | rfl | exact int_eq (by unfold floatK; rw [if_pos c7_136]; omega) | exact int_eq (by unfold floatK; rw [if_neg c7_136])) (Sub.nil))))))) ?_
             exact ⟨hb, hB_o0⟩
            ·
             have c7_136_ := c7_136
             try simp only [decide_eq_true_eq, decide_eq_false_iff_not, beq_iff_eq, beq_eq_false_iff_ne, bne_iff_ne, bne_eq_false_iff_eq, Bool.not_eq_true', Bool.not_eq_false', Bool.not_eq_eq_eq_not, Bool.not_true, Bool.not_false, ne_eq, Int.not_lt, Int.not_le] at c7_136
             refine Wc.skip ?_
             refine Wq.meet hM_135 (()) (Sub.cons' rfl (by first | rfl | exact int_eq (by unfold floatK; rw [if_pos c7_136]; omega) | exact int_eq (by unfold floatK; rw [if_neg c7_136])) (Sub.cons' rfl (by first | rfl | exact int_eq (by unfold floatK; rw [if_pos c7_136]; omega) | exact int_eq (by unfold floatK; rw [if_neg c7_136])) (Sub.cons' rfl (by first | rfl | exact int_eq (by unfold floatK; rw [if_pos c7_136]; omega) | exact int_eq (by unfold floatK; rw [if_neg c7_136])) (Sub.cons' rfl (by first | rfl | exact int_eq (by unfold floatK; rw [if_pos c7_136]; omega) | exact int_eq (by unfold floatK; rw [if_neg c7_136])) (Sub.cons' rfl (by first | rfl | exact int_eq (by unfold floatK; rw [if_pos c7_136]; omega) | exact int_eq (by unfold floatK; rw [if_neg c7_136])) (Sub.cons' rfl (by first | rfl | exact int_eq (by unfold floatK; rw [if_pos c7_136]; omega) | exact int_eq (by unfold floatK; rw [if_neg c7_136])) (Sub.nil))))))) ?_
             exact ⟨hb, hB_o0⟩
           ·
            rintro u_ wr hI_140
            replace hI_140 : Below w.heap.size w wr ∧ Blk wr g_o0 28 nullV.cells := hI_140
            obtain ⟨hb, hB_o0⟩ := hI_140
            show Wq _ _ _ _ [(0, str s), (2, .pointer (some ⟨g_o0, 0, none⟩)), (3, .int .i64 0), (4, .bool false), (13, .int .i64 (lead s : Nat)), (14, .int .i64 (floatK s : Nat))] _
            have hL := hL_hb.below hb
            try have hzhb_c7 := hb.size
            have hlhB_o0_c7 := hB_o0.lt
            refine Wq.next hK_119 ?_
            refine Wc.seq fun _ hK_141 => ?_
            refine Wc.region ?_
            refine Wl.y (y_move rfl) rfl ?_
            refine Wl.y (y_move rfl) rfl ?_
            refine Wl.y (y_move rfl) rfl ?_
            refine Wl.y (y_move rfl) rfl ?_
            refine Wl.y (y_lens Tryz.underlying9 (by omega) rfl) rfl ?_
            refine Wl.y (y_eq (y_min rfl rfl) (int_eq (show min ((floatK s : Nat) : Int) (s.length : Int) = (floatK s : Nat) by omega))) rfl ?_
            refine Wl.y (y_slicesL Tryz.underlying9 rfl rfl (by omega) (by omega)) rfl ?_
            refine Wl.call txt45ValD rfl rfl (digits_r _ (by simp; omega) _) rfl ?_
            rintro _ w_k10 ⟨rfl, hs_k10⟩
            have hz_k10 := hs_k10.size
            have hb := hb.trans (hs_k10.mono hb.size)
            have hL := hL_hb.below hb
            try have hB_o0 := Blk.below hB_o0 hs_k10
            refine Wl.y (y_eq (y_min rfl rfl) (int_eq (show min ((nDig (s.drop (floatK s)) : Nat) : Int) 4 = (floatM s : Nat) by unfold floatM; omega))) rfl ?_
            refine Wl.y (y_addI rfl rfl (by first | omega | (simp; done) | (simp; omega)) (by first | omega | (simp; done) | (simp; omega))) rfl ?_
            refine Wl.y (y_assign rfl) rfl ?_
            refine Wl.nil ?_
            refine Wq.next hK_141 ?_
            refine Wc.block ?_
            refine Wc.loop (X := Nat) (fun j => [(0, str s), (2, .pointer (some ⟨g_o0, 0, none⟩)), (3, .int .i64 0), (4, .bool false), (13, .int .i64 (lead s : Nat)), (14, .int .i64 (floatK s : Nat)), (15, .int .i64 ((floatK s + j : Nat) : Int))]) (fun j wr => j ≤ floatM s ∧ Below w.heap.size w wr ∧ Blk wr g_o0 28 nullV.cells ∧ floatAt pf s = downF pf s (floatK s) j) (fun j => j) (floatM s) ?_ ?_ ?_
            · exact Sub.cons' rfl (by first | rfl | exact int_eq (by omega) | exact int_eq (by simp) | (simp; done)) (Sub.cons' rfl (by first | rfl | exact int_eq (by omega) | exact int_eq (by simp) | (simp; done)) (Sub.cons' rfl (by first | rfl | exact int_eq (by omega) | exact int_eq (by simp) | (simp; done)) (Sub.cons' rfl (by first | rfl | exact int_eq (by omega) | exact int_eq (by simp) | (simp; done)) (Sub.cons' rfl (by first | rfl | exact int_eq (by omega) | exact int_eq (by simp) | (simp; done)) (Sub.cons' rfl (by first | rfl | exact int_eq (by omega) | exact int_eq (by simp) | (simp; done)) (Sub.cons' rfl (by first | rfl | exact int_eq (by omega) | exact int_eq (by simp) | (simp; done)) (Sub.nil)))))))
            · exact ⟨by omega, hb, hB_o0, if_pos h112⟩
            ·
             rintro j wr hI_154 _ hL_153
             replace hI_154 : j ≤ floatM s ∧ Below w.heap.size w wr ∧ Blk wr g_o0 28 nullV.cells ∧ floatAt pf s = downF pf s (floatK s) j := hI_154
             obtain ⟨hj, hb, hB_o0, hfd⟩ := hI_154
             show Wc _ _ _ _ _ [(0, str s), (2, .pointer (some ⟨g_o0, 0, none⟩)), (3, .int .i64 0), (4, .bool false), (13, .int .i64 (lead s : Nat)), (14, .int .i64 (floatK s : Nat)), (15, .int .i64 ((floatK s + j : Nat) : Int))] _
             have hL := hL_hb.below hb
             try have hzhb_L2 := hb.size
             have hlhB_o0_L2 := hB_o0.lt
             refine Wc.seq fun _ hK_155 => ?_
             refine Wc.seq fun _ hK_156 => ?_
             refine Wc.region ?_
             refine Wl.y (y_move rfl) rfl ?_
             refine Wl.y (y_move rfl) rfl ?_
             refine Wl.y (y_gtri rfl rfl) rfl ?_
             refine Wl.nil ?_
             refine Wq.next hK_156 ?_
             refine Wc.cond rfl (fun c8_160 => ?_) (fun c8_160 => ?_)
             ·
              have c8_160_ := c8_160
              try simp only [decide_eq_true_eq, decide_eq_false_iff_not, beq_iff_eq, beq_eq_false_iff_ne, bne_iff_ne, bne_eq_false_iff_eq, Bool.not_eq_true', Bool.not_eq_false', Bool.not_eq_eq_eq_not, Bool.not_true, Bool.not_false, ne_eq, Int.not_lt, Int.not_le] at c8_160
              have hj0 : 0 < j := by have := c8_160; omega
              refine Wc.skip ?_
              refine Wq.next hK_155 ?_
              refine Wc.seq fun _ hK_161 => ?_
              refine Wc.block ?_
              refine Wc.seq fun _ hK_162 => ?_
              refine Wc.region ?_
              refine Wl.y (y_move rfl) rfl ?_
              refine Wl.y (y_move rfl) rfl ?_
              refine Wl.y (y_slicesH Tryz.underlying9 rfl rfl (by omega) (by omega)) rfl ?_
              refine Wl.call txt44ValD rfl rfl (hC.prs _ (has_p h112 (by omega)) _ hL) rfl ?_
              rintro _ w_k11 ⟨rfl, hs_k11⟩
              have hz_k11 := hs_k11.size
              have hb := hb.trans (hs_k11.mono hb.size)
              have hL := hL_hb.below hb
              try have hB_o0 := Blk.below hB_o0 hs_k11
              refine Wl.y (y_move rfl) rfl ?_
              refine Wl.y (y_extract rfl rfl) rfl ?_
              refine Wl.y (y_extract rfl rfl) rfl ?_
              refine Wl.y (y_assign rfl) rfl ?_
              refine Wl.y (y_assign rfl) rfl ?_
              refine Wl.nil ?_
              refine Wq.next hK_162 ?_
              refine Wc.seq fun _ hK_172 => ?_
              refine Wc.region ?_
              refine Wl.y (y_move rfl) rfl ?_
              refine Wl.y (y_eqli rfl rfl) rfl ?_
              refine Wl.nil ?_
              refine Wq.next hK_172 ?_
              refine Wc.cond rfl (fun c9_175 => ?_) (fun c9_175 => ?_)
              ·
               have c9_175_ := c9_175
               try simp only [decide_eq_true_eq, decide_eq_false_iff_not, beq_iff_eq, beq_eq_false_iff_ne, bne_iff_ne, bne_eq_false_iff_eq, Bool.not_eq_true', Bool.not_eq_false', Bool.not_eq_eq_eq_not, Bool.not_true, Bool.not_false, ne_eq, Int.not_lt, Int.not_le] at c9_175
               have hpf : (pf (s.take (floatK s + j))).isSome = true := some0 c9_175
               refine Wc.seq fun _ hK_176 => ?_
               refine Wc.region ?_
               refine Wl.y (y_move rfl) rfl ?_
               refine Wl.y (y_buildS (z := [(.int .i64 0), (.int .i64 0), (.float .f64 0), (str [])]) (pl := [(0, 1), (1, 1), (2, 1), (3, 1)]) (cs := [_, _, _, _]) Tryz.underlying28 (by kernel_rfl) (by kernel_rfl) rfl rfl rfl) rfl ?_
               refine Wl.y (y_move rfl) rfl ?_
               refine Wl.storeS (by kernel_rfl) rfl rfl hB_o0 rfl rfl ?_
               rintro w_s5 hn_s5 hg_s5
               have hz_s5 := hg_s5.size
               have hb := below_blk hb hg_s5 hb.size (by omega)
               have hL := hL_hb.below hb
               have hB_o0 := hn_s5
               refine Wl.y (y_assign rfl) rfl ?_
               refine Wl.y (y_assign rfl) rfl ?_
               refine Wl.nil ?_
               refine Wq.next hK_176 ?_
               refine Wc.ret ?_
               refine Wq.block_ret (Wq.then_ret (Wq.then_ret (Wq.block_ret (Wq.then_ret (Wq.then_ret ?_)))))
               refine retN (rs := [.cell 2 28, .tmp 3, .tmp 4]) (vs := [_, _, _]) rfl (.cell rfl (loadS Tryz.underlying28 (by kernel_rfl) (fun j u hu => hB_o0.at hu)) (.tmp rfl (.tmp rfl .nil))) ?_
               exact ⟨_, rfl, by rw [hrd2, hfd, downF_hit hpf hj0]; rfl, hb⟩
              ·
               have c9_175_ := c9_175
               try simp only [decide_eq_true_eq, decide_eq_false_iff_not, beq_iff_eq, beq_eq_false_iff_ne, bne_iff_ne, bne_eq_false_iff_eq, Bool.not_eq_true', Bool.not_eq_false', Bool.not_eq_eq_eq_not, Bool.not_true, Bool.not_false, ne_eq, Int.not_lt, Int.not_le] at c9_175
               have hpf : pf (s.take (floatK s + j)) = none := none0 c9_175
               refine Wc.skip ?_
               refine Wq.block_normal ?_
               refine Wq.next hK_161 ?_
               refine Wc.region ?_
               refine Wl.y (y_move rfl) rfl ?_
               refine Wl.y (y_subI rfl rfl (by first | omega | (simp; done) | (simp; omega)) (by first | omega | (simp; done) | (simp; omega))) rfl ?_
               refine Wl.y (y_assign rfl) rfl ?_
               refine Wl.nil ?_
               refine fun a_ ha_ => hL_153 _ _ (j - 1) (by first | omega | (simp; omega)) (Sub.cons' rfl (by first | rfl | exact int_eq (by omega) | exact int_eq (by simp) | (simp; done)) (Sub.cons' rfl (by first | rfl | exact int_eq (by omega) | exact int_eq (by simp) | (simp; done)) (Sub.cons' rfl (by first | rfl | exact int_eq (by omega) | exact int_eq (by simp) | (simp; done)) (Sub.cons' rfl (by first | rfl | exact int_eq (by omega) | exact int_eq (by simp) | (simp; done)) (Sub.cons' rfl (by first | rfl | exact int_eq (by omega) | exact int_eq (by simp) | (simp; done)) (Sub.cons' rfl (by first | rfl | exact int_eq (by omega) | exact int_eq (by simp) | (simp; done)) (Sub.cons' rfl (by first | rfl | exact int_eq (by omega) | exact int_eq (by simp) | (simp; done)) (Sub.nil)))))))) ?_ a_ ha_
               exact ⟨by omega, hb, hB_o0, by rw [hfd]; exact downF_no hpf hj0⟩
             ·
              have c8_160_ := c8_160
              try simp only [decide_eq_true_eq, decide_eq_false_iff_not, beq_iff_eq, beq_eq_false_iff_ne, bne_iff_ne, bne_eq_false_iff_eq, Bool.not_eq_true', Bool.not_eq_false', Bool.not_eq_eq_eq_not, Bool.not_true, Bool.not_false, ne_eq, Int.not_lt, Int.not_le] at c8_160
              refine Wc.exit ?_
              refine Wq.then_exit ?_
              refine Wq.then_exit ?_
              refine Wq.block_exit ?_
              refine Wq.meet hM_113 (()) (Sub.cons' rfl (by first | rfl | exact int_eq (by omega) | exact int_eq (by simp) | (simp; done)) (Sub.cons' rfl (by first | rfl | exact int_eq (by omega) | exact int_eq (by simp) | (simp; done)) (Sub.cons' rfl (by first | rfl | exact int_eq (by omega) | exact int_eq (by simp) | (simp; done)) (Sub.cons' rfl (by first | rfl | exact int_eq (by omega) | exact int_eq (by simp) | (simp; done)) (Sub.cons' rfl (by first | rfl | exact int_eq (by omega) | exact int_eq (by simp) | (simp; done)) (Sub.nil)))))) ?_
              first | exact ⟨hb, hB_o0, if_neg c6_114⟩ | exact ⟨hb, hB_o0, by rw [hfd, show j = 0 by omega]; rfl⟩
         ·
          have c6_114_ := c6_114
          try simp only [decide_eq_true_eq, decide_eq_false_iff_not, beq_iff_eq, beq_eq_false_iff_ne, bne_iff_ne, bne_eq_false_iff_eq, Bool.not_eq_true', Bool.not_eq_false', Bool.not_eq_eq_eq_not, Bool.not_true, Bool.not_false, ne_eq, Int.not_lt, Int.not_le] at c6_114
          refine Wc.skip ?_
          refine Wq.meet hM_113 (()) (Sub.cons' rfl (by first | rfl | exact int_eq (by omega) | exact int_eq (by simp) | (simp; done)) (Sub.cons' rfl (by first | rfl | exact int_eq (by omega) | exact int_eq (by simp) | (simp; done)) (Sub.cons' rfl (by first | rfl | exact int_eq (by omega) | exact int_eq (by simp) | (simp; done)) (Sub.cons' rfl (by first | rfl | exact int_eq (by omega) | exact int_eq (by simp) | (simp; done)) (Sub.cons' rfl (by first | rfl | exact int_eq (by omega) | exact int_eq (by simp) | (simp; done)) (Sub.nil)))))) ?_
          first | exact ⟨hb, hB_o0, if_neg c6_114⟩ | exact ⟨hb, hB_o0, by rw [hfd, show j = 0 by omega]; rfl⟩
        ·
         rintro u_ wr hI_185
         replace hI_185 : Below w.heap.size w wr ∧ Blk wr g_o0 28 nullV.cells ∧ floatAt pf s = none := hI_185
         obtain ⟨hb, hB_o0, hfa⟩ := hI_185
         show Wq _ _ _ _ [(0, str s), (2, .pointer (some ⟨g_o0, 0, none⟩)), (3, .int .i64 0), (4, .bool false), (13, .int .i64 (lead s : Nat))] _
         have hL := hL_hb.below hb
         try have hzhb_c6 := hb.size
         have hlhB_o0_c6 := hB_o0.lt
         refine Wq.next hK_97 ?_
         refine Wc.seq fun _ hK_186 => ?_
         refine Wc.seq fun _ hK_187 => ?_
         have hrd3 : readV pf uq s = downI s (min (lead s) 20) := by rw [hrd2, hfa]
         refine Wc.region ?_
         refine Wl.y (y_move rfl) rfl ?_
         refine Wl.y (y_eq (y_min rfl rfl) (int_eq (show min ((lead s : Nat) : Int) 20 = (min (lead s) 20 : Nat) by omega))) rfl ?_
         refine Wl.y (y_assign rfl) rfl ?_
         refine Wl.nil ?_
         refine Wq.next hK_187 ?_
         refine Wc.block ?_
         refine Wc.loop (X := Nat) (fun j => [(0, str s), (2, .pointer (some ⟨g_o0, 0, none⟩)), (3, .int .i64 0), (4, .bool false), (13, .int .i64 (j : Int))]) (fun j wr => j ≤ min (lead s) 20 ∧ Below w.heap.size w wr ∧ Blk wr g_o0 28 nullV.cells ∧ readV pf uq s = downI s j) (fun j => j) (min (lead s) 20) ?_ ?_ ?_
         · exact Sub.cons' rfl (by first | rfl | exact int_eq (by omega) | exact int_eq (by simp) | (simp; done)) (Sub.cons' rfl (by first | rfl | exact int_eq (by omega) | exact int_eq (by simp) | (simp; done)) (Sub.cons' rfl (by first | rfl | exact int_eq (by omega) | exact int_eq (by simp) | (simp; done)) (Sub.cons' rfl (by first | rfl | exact int_eq (by omega) | exact int_eq (by simp) | (simp; done)) (Sub.cons' rfl (by first | rfl | exact int_eq (by omega) | exact int_eq (by simp) | (simp; done)) (Sub.nil)))))
         · exact ⟨by omega, hb, hB_o0, hrd3⟩
         ·
          rintro j wr hI_192 _ hL_191
          replace hI_192 : j ≤ min (lead s) 20 ∧ Below w.heap.size w wr ∧ Blk wr g_o0 28 nullV.cells ∧ readV pf uq s = downI s j := hI_192
          obtain ⟨hj, hb, hB_o0, hri⟩ := hI_192
          show Wc _ _ _ _ _ [(0, str s), (2, .pointer (some ⟨g_o0, 0, none⟩)), (3, .int .i64 0), (4, .bool false), (13, .int .i64 (j : Int))] _
          have hL := hL_hb.below hb
          try have hzhb_L3 := hb.size
          have hlhB_o0_L3 := hB_o0.lt
          refine Wc.seq fun _ hK_193 => ?_
          refine Wc.seq fun _ hK_194 => ?_
          refine Wc.region ?_
          refine Wl.y (y_move rfl) rfl ?_
          refine Wl.y (y_gtri rfl rfl) rfl ?_
          refine Wl.nil ?_
          refine Wq.next hK_194 ?_
          refine Wc.cond rfl (fun c10_197 => ?_) (fun c10_197 => ?_)
          ·
           have c10_197_ := c10_197
           try simp only [decide_eq_true_eq, decide_eq_false_iff_not, beq_iff_eq, beq_eq_false_iff_ne, bne_iff_ne, bne_eq_false_iff_eq, Bool.not_eq_true', Bool.not_eq_false', Bool.not_eq_eq_eq_not, Bool.not_true, Bool.not_false, ne_eq, Int.not_lt, Int.not_le] at c10_197
           have hj0 : 0 < j := by have := c10_197; omega
           refine Wc.skip ?_
           refine Wq.next hK_193 ?_
           refine Wc.seq fun _ hK_198 => ?_
           refine Wc.block ?_
           refine Wc.seq fun _ hK_199 => ?_
           refine Wc.region ?_
           refine Wl.y (y_move rfl) rfl ?_
           refine Wl.y (y_move rfl) rfl ?_
           refine Wl.y (y_slicesH Tryz.underlying9 rfl rfl (by omega) (by omega)) rfl ?_
           refine Wl.call txt47ValD rfl rfl (ParseInt_r _ (by simp; omega) _ hL) rfl ?_
           rintro _ w_k12 ⟨⟨n, e, rfl, hie, hpi⟩, hs_k12⟩
           have hz_k12 := hs_k12.size
           have hb := hb.trans (hs_k12.mono hb.size)
           have hL := hL_hb.below hb
           try have hB_o0 := Blk.below hB_o0 hs_k12
           refine Wl.y (y_move rfl) rfl ?_
           refine Wl.y (y_extract rfl rfl) rfl ?_
           refine Wl.y (y_extract rfl rfl) rfl ?_
           refine Wl.y (y_assign rfl) rfl ?_
           refine Wl.y (y_assign rfl) rfl ?_
           refine Wl.nil ?_
           refine Wq.next hK_199 ?_
           refine Wc.seq fun _ hK_209 => ?_
           refine Wc.quiet (by kernel_rfl) (by kernel_rfl) ?_
           refine Wy.y (y_move rfl) rfl ?_
           refine Wy.y (y_eqlN (by kernel_rfl) rfl (hie)) rfl ?_
           refine Wy.y (y_move rfl) rfl ?_
           refine Wy.guardT rfl rfl rfl (fun g_213 => ?_) (fun g_213 => ?_)
           ·
            have g_213_ := g_213
            try simp only [decide_eq_true_eq, decide_eq_false_iff_not, beq_iff_eq, beq_eq_false_iff_ne, bne_iff_ne, bne_eq_false_iff_eq, Bool.not_eq_true', Bool.not_eq_false', Bool.not_eq_eq_eq_not, Bool.not_true, Bool.not_false, ne_eq, Int.not_lt, Int.not_le] at g_213
            have hpn := nilT hpi g_213_
            obtain ⟨hn0, hn1⟩ := parseI_bd hpn
            refine Wy.y (y_move rfl) rfl ?_
            refine Wy.on' rfl rfl g_213_ ?_
            refine Wy.call txt34ValD rfl rfl (fun wq hq => by have hL := hL.below hq; have hB_o0 := Blk.below hB_o0 hq; exact FormatInt_r _ hn0 hn1 _ hL) rfl ?_
            refine Wy.on' rfl rfl g_213_ ?_
            refine Wy.y (y_move rfl) rfl ?_
            refine Wy.on' rfl rfl g_213_ ?_
            refine Wy.y (y_move rfl) rfl ?_
            refine Wy.on' rfl rfl g_213_ ?_
            refine Wy.y (y_slicesH Tryz.underlying9 rfl rfl (by omega) (by omega)) rfl ?_
            refine Wy.on' rfl rfl g_213_ ?_
            refine Wy.y (y_eqls rfl rfl) rfl ?_
            refine Wy.y (y_pickT rfl g_213_ rfl) rfl ?_
            refine Wy.nil fun w_g32 hs_g32 => ?_
            have hz_g32 := hs_g32.size
            have hb := hb.trans (hs_g32.mono hb.size)
            have hL := hL_hb.below hb
            try have hB_o0 := Blk.below hB_o0 hs_g32
            refine Wq.next hK_209 ?_
            refine Wc.cond rfl (fun c11_221 => ?_) (fun c11_221 => ?_)
            ·
             have c11_221_ := c11_221
             try simp only [decide_eq_true_eq, decide_eq_false_iff_not, beq_iff_eq, beq_eq_false_iff_ne, bne_iff_ne, bne_eq_false_iff_eq, Bool.not_eq_true', Bool.not_eq_false', Bool.not_eq_eq_eq_not, Bool.not_true, Bool.not_false, ne_eq, Int.not_lt, Int.not_le] at c11_221
             refine Wc.seq fun _ hK_222 => ?_
             refine Wc.region ?_
             refine Wl.y (y_move rfl) rfl ?_
             refine Wl.y (y_buildS (z := [(.int .i64 0), (.int .i64 0), (.float .f64 0), (str [])]) (pl := [(0, 1), (1, 1), (2, 1), (3, 1)]) (cs := [_, _, _, _]) Tryz.underlying28 (by kernel_rfl) (by kernel_rfl) rfl rfl rfl) rfl ?_
             refine Wl.y (y_move rfl) rfl ?_
             refine Wl.storeS (by kernel_rfl) rfl rfl hB_o0 rfl rfl ?_
             rintro w_s6 hn_s6 hg_s6
             have hz_s6 := hg_s6.size
             have hb := below_blk hb hg_s6 hb.size (by omega)
             have hL := hL_hb.below hb
             have hB_o0 := hn_s6
             refine Wl.y (y_assign rfl) rfl ?_
             refine Wl.y (y_assign rfl) rfl ?_
             refine Wl.nil ?_
             refine Wq.next hK_222 ?_
             refine Wc.ret ?_
             refine Wq.block_ret (Wq.then_ret (Wq.then_ret (Wq.block_ret (Wq.then_ret ?_))))
             refine retN (rs := [.cell 2 28, .tmp 3, .tmp 4]) (vs := [_, _, _]) rfl (.cell rfl (loadS Tryz.underlying28 (by kernel_rfl) (fun j u hu => hB_o0.at hu)) (.tmp rfl (.tmp rfl .nil))) ?_
             exact ⟨_, rfl, by rw [hri, downI_hit (j := j) hpn c11_221_ hj0]; rfl, hb⟩
            ·
             have c11_221_ := c11_221
             try simp only [decide_eq_true_eq, decide_eq_false_iff_not, beq_iff_eq, beq_eq_false_iff_ne, bne_iff_ne, bne_eq_false_iff_eq, Bool.not_eq_true', Bool.not_eq_false', Bool.not_eq_eq_eq_not, Bool.not_true, Bool.not_false, ne_eq, Int.not_lt, Int.not_le] at c11_221
             refine Wc.skip ?_
             refine Wq.block_normal ?_
             refine Wq.next hK_198 ?_
             refine Wc.region ?_
             refine Wl.y (y_move rfl) rfl ?_
             refine Wl.y (y_subI rfl rfl (by first | omega | (simp; done) | (simp; omega)) (by first | omega | (simp; done) | (simp; omega))) rfl ?_
             refine Wl.y (y_assign rfl) rfl ?_
             refine Wl.nil ?_
             refine fun a_ ha_ => hL_191 _ _ (j - 1) (by first | omega | (simp; omega)) (Sub.cons' rfl (by first | rfl | exact int_eq (by omega) | exact int_eq (by simp) | (simp; done)) (Sub.cons' rfl (by first | rfl | exact int_eq (by omega) | exact int_eq (by simp) | (simp; done)) (Sub.cons' rfl (by first | rfl | exact int_eq (by omega) | exact int_eq (by simp) | (simp; done)) (Sub.cons' rfl (by first | rfl | exact int_eq (by omega) | exact int_eq (by simp) | (simp; done)) (Sub.cons' rfl (by first | rfl | exact int_eq (by omega) | exact int_eq (by simp) | (simp; done)) (Sub.nil)))))) ?_ a_ ha_
             first | exact ⟨by omega, hb, hB_o0, by rw [hri]; exact downI_no (nilF hpi g_213_) hj0⟩ | exact ⟨by omega, hb, hB_o0, by rw [hri]; exact downI_no2 hpn c11_221_ hj0⟩
           ·
            have g_213_ := g_213
            try simp only [decide_eq_true_eq, decide_eq_false_iff_not, beq_iff_eq, beq_eq_false_iff_ne, bne_iff_ne, bne_eq_false_iff_eq, Bool.not_eq_true', Bool.not_eq_false', Bool.not_eq_eq_eq_not, Bool.not_true, Bool.not_false, ne_eq, Int.not_lt, Int.not_le] at g_213
            refine Wy.off' rfl rfl g_213_ rfl rfl ?_
            refine Wy.off' rfl rfl g_213_ rfl rfl ?_
            refine Wy.off' rfl rfl g_213_ rfl rfl ?_
            refine Wy.off' rfl rfl g_213_ rfl rfl ?_
            refine Wy.off' rfl rfl g_213_ rfl rfl ?_
            refine Wy.y (y_pickF rfl g_213_ rfl) rfl ?_
            refine Wy.nil fun w_g32 hs_g32 => ?_
            have hz_g32 := hs_g32.size
            have hb := hb.trans (hs_g32.mono hb.size)
            have hL := hL_hb.below hb
            try have hB_o0 := Blk.below hB_o0 hs_g32
            refine Wq.next hK_209 ?_
            refine Wc.condF rfl rfl ?_
            refine Wc.skip ?_
            refine Wq.block_normal ?_
            refine Wq.next hK_198 ?_
            refine Wc.region ?_
            refine Wl.y (y_move rfl) rfl ?_
            refine Wl.y (y_subI rfl rfl (by first | omega | (simp; done) | (simp; omega)) (by first | omega | (simp; done) | (simp; omega))) rfl ?_
            refine Wl.y (y_assign rfl) rfl ?_
            refine Wl.nil ?_
            refine fun a_ ha_ => hL_191 _ _ (j - 1) (by first | omega | (simp; omega)) (Sub.cons' rfl (by first | rfl | exact int_eq (by omega) | exact int_eq (by simp) | (simp; done)) (Sub.cons' rfl (by first | rfl | exact int_eq (by omega) | exact int_eq (by simp) | (simp; done)) (Sub.cons' rfl (by first | rfl | exact int_eq (by omega) | exact int_eq (by simp) | (simp; done)) (Sub.cons' rfl (by first | rfl | exact int_eq (by omega) | exact int_eq (by simp) | (simp; done)) (Sub.cons' rfl (by first | rfl | exact int_eq (by omega) | exact int_eq (by simp) | (simp; done)) (Sub.nil)))))) ?_ a_ ha_
            first | exact ⟨by omega, hb, hB_o0, by rw [hri]; exact downI_no (nilF hpi g_213_) hj0⟩ | exact ⟨by omega, hb, hB_o0, by rw [hri]; exact downI_no2 hpn MISSING_c11_ hj0⟩
          ·
           have c10_197_ := c10_197
           try simp only [decide_eq_true_eq, decide_eq_false_iff_not, beq_iff_eq, beq_eq_false_iff_ne, bne_iff_ne, bne_eq_false_iff_eq, Bool.not_eq_true', Bool.not_eq_false', Bool.not_eq_eq_eq_not, Bool.not_true, Bool.not_false, ne_eq, Int.not_lt, Int.not_le] at c10_197
           refine Wc.exit ?_
           refine Wq.then_exit ?_
           refine Wq.then_exit ?_
           refine Wq.block_exit ?_
           refine Wq.next hK_186 ?_
           refine Wc.seq fun _ hK_235 => ?_
           refine Wc.region ?_
           refine Wl.y (y_buildS (z := [(.int .i64 0), (.int .i64 0), (.float .f64 0), (str [])]) (pl := [(0, 1), (1, 1), (2, 1), (3, 1)]) (cs := [_, _, _, _]) Tryz.underlying28 (by kernel_rfl) (by kernel_rfl) rfl rfl rfl) rfl ?_
           refine Wl.storeS (by kernel_rfl) rfl rfl hB_o0 rfl rfl ?_
           rintro w_s7 hn_s7 hg_s7
           have hz_s7 := hg_s7.size
           have hb := below_blk hb hg_s7 hb.size (by omega)
           have hL := hL_hb.below hb
           have hB_o0 := hn_s7
           refine Wl.y (y_assign rfl) rfl ?_
           refine Wl.y (y_assign rfl) rfl ?_
           refine Wl.nil ?_
           refine Wq.next hK_235 ?_
           refine Wc.ret ?_
           refine retN (rs := [.cell 2 28, .tmp 3, .tmp 4]) (vs := [_, _, _]) rfl (.cell rfl (loadS Tryz.underlying28 (by kernel_rfl) (fun j u hu => hB_o0.at hu)) (.tmp rfl (.tmp rfl .nil))) ?_
           exact ⟨_, rfl, by rw [hri, show j = 0 by have := c10_197; omega]; rfl, hb⟩
    ·
     rintro i_o27 p_o27 w_o27 hp_o27 hi_o27 hns_o27 hn_o27 hg_o27
     have hz_o27 := hg_o27.size
     have hb := below_blk hb hg_o27 hb.size (by omega)
     have hL := hL_hb.below hb
     try have hB_o0 := hB_o0.over hg_o27 (by omega)
     try have hM_o20 := hM_o20.over hg_o27 (by omega)
     have hI_o26 := hn_o27
     refine Wl.y (y_extract rfl rfl) rfl ?_
     refine Wl.nil ?_
     refine Wq.next hK_43 ?_
     refine Wc.seq fun _ hK_240 => ?_
     refine Wc.condT rfl rfl ?_
     refine Wc.skip ?_
     refine Wq.next hK_240 ?_
     refine Wc.block ?_
     refine Wc.seq fun _ hK_241 => ?_
     refine Wc.region ?_
     obtain ⟨pk, pv⟩ := p_o27
     obtain ⟨v, hv, hpl⟩ := words_val hp_o27
     replace hv : pv = v.enc := hv
     replace hpl : pk.length ≤ 5 := hpl
     subst hv
     refine Wl.l (l_entry rfl hI_o26 hM_o20 (by exact hp_o27)) rfl ?_
     refine Wl.y (y_extract rfl rfl) rfl ?_
     refine Wl.y (y_extract rfl rfl) rfl ?_
     refine Wl.allocN (z := (.agg #[(.int .i64 0), (.int .i64 0), (.float .f64 0), (str [])])) (by kernel_rfl) rfl ?_
     rintro g_o32 w_o32 hg_o32 hn_o32 hs_o32
     have hz_o32 := hs_o32.size
     have hb := hb.trans (hs_o32.mono hb.size)
     have hL := hL_hb.below hb
     try have hB_o0 := Blk.below hB_o0 hs_o32
     try have hM_o20 := Mp.below hM_o20 hs_o32
     try have hI_o26 := It.below hI_o26 hs_o32
     have hB_o32 := hn_o32
     have hl_o32 := hB_o32.lt
     refine Wl.y (y_assign rfl) rfl ?_
     refine Wl.storeS (by kernel_rfl) rfl rfl hB_o32 rfl rfl ?_
     rintro w_s2 hn_s2 hg_s2
     have hz_s2 := hg_s2.size
     have hb := below_blk hb hg_s2 hb.size (by omega)
     have hL := hL_hb.below hb
     try have hB_o0 := hB_o0.over hg_s2 (by omega)
     try have hM_o20 := hM_o20.over hg_s2 (by omega)
     try have hI_o26 := hI_o26.over hg_s2 (by omega)
     have hB_o32 := hn_s2
     refine Wl.nil ?_
     refine Wq.next hK_241 ?_
     refine Wc.seq fun _ hK_247 => ?_
     refine Wc.region ?_
     refine Wl.y (y_move rfl) rfl ?_
     refine Wl.y (y_move rfl) rfl ?_
     refine Wl.call txt41ValD rfl rfl (HasPrefix_r s pk _) rfl ?_
     rintro _ w_ ⟨rfl, hw_⟩
     have hw_ := hw_.symm; subst hw_
     refine Wl.nil ?_
     refine Wq.next hK_247 ?_
     refine Wc.cond rfl (fun c3_251 => ?_) (fun c3_251 => ?_)
     ·
      have c3_251_ := c3_251
      try simp only [decide_eq_true_eq, decide_eq_false_iff_not, beq_iff_eq, beq_eq_false_iff_ne, bne_iff_ne, bne_eq_false_iff_eq, Bool.not_eq_true', Bool.not_eq_false', Bool.not_eq_eq_eq_not, Bool.not_true, Bool.not_false, ne_eq, Int.not_lt, Int.not_le] at c3_251
      refine Wc.seq fun _ hK_252 => ?_
      refine Wc.region ?_
      refine Wl.l (l_loadS Tryz.underlying28 (by kernel_rfl) rfl (by first | exact fun j u hu => hB_o0.at hu | exact fun j u hu => hB_o32.at hu | assumption)) rfl ?_
      refine Wl.y (y_move rfl) rfl ?_
      refine Wl.y (y_lens Tryz.underlying9 (Nat.le_trans hpl (by decide)) rfl) rfl ?_
      refine Wl.storeS (by kernel_rfl) rfl rfl hB_o0 rfl rfl ?_
      rintro w_s3 hn_s3 hg_s3
      have hz_s3 := hg_s3.size
      have hb := below_blk hb hg_s3 hb.size (by omega)
      have hL := hL_hb.below hb
      have hB_o0 := hn_s3
      refine Wl.y (y_assign rfl) rfl ?_
      refine Wl.y (y_assign rfl) rfl ?_
      refine Wl.nil ?_
      refine Wq.next hK_252 ?_
      refine Wc.ret ?_
      refine Wq.block_ret (Wq.then_ret (Wq.block_ret (Wq.then_ret ?_)))
      refine retN (rs := [.cell 2 28, .tmp 3, .tmp 4]) (vs := [_, _, _]) rfl (.cell rfl (loadS Tryz.underlying28 (by kernel_rfl) (fun j u hu => hB_o0.at hu)) (.tmp rfl (.tmp rfl .nil))) ?_
      exact ⟨_, rfl, by obtain ⟨v', hv', hr'⟩ := word_hit (pf := pf) (uq := uq) hq39 hp_o27 c3_251_; rw [hr']; show _ = Value.tuple #[v'.enc, _, _]; rw [← hv']; rfl, hb⟩
     ·
      have c3_251_ := c3_251
      try simp only [decide_eq_true_eq, decide_eq_false_iff_not, beq_iff_eq, beq_eq_false_iff_ne, bne_iff_ne, bne_eq_false_iff_eq, Bool.not_eq_true', Bool.not_eq_false', Bool.not_eq_eq_eq_not, Bool.not_true, Bool.not_false, ne_eq, Int.not_lt, Int.not_le] at c3_251
      refine Wc.skip ?_
      refine Wq.block_normal ?_
      refine fun a_ ha_ => hL_41 _ _ (seen ++ [i_o27]) (leftN_lt hi_o27 hns_o27) (Sub.cons' rfl (by first | rfl | exact int_eq (by omega) | exact int_eq (by simp) | (simp; done)) (Sub.cons' rfl (by first | rfl | exact int_eq (by omega) | exact int_eq (by simp) | (simp; done)) (Sub.cons' rfl (by first | rfl | exact int_eq (by omega) | exact int_eq (by simp) | (simp; done)) (Sub.cons' rfl (by first | rfl | exact int_eq (by omega) | exact int_eq (by simp) | (simp; done)) (Sub.cons' rfl (by first | rfl | exact int_eq (by omega) | exact int_eq (by simp) | (simp; done)) (Sub.nil)))))) ?_ a_ ha_
      exact ⟨hb, hB_o0, hM_o20, hI_o26, word_snoc hsn hp_o27 c3_251_⟩
end Go.Proofs.YtcljmclolpgdmaaGreatDoor
