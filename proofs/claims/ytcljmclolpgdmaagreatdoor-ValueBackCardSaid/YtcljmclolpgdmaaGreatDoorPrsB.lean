/- strconv.ParseUint at 53 bits, strings.Cut at p, strconv.Atoi, math.Ldexp. -/
import Derived.Test.YtcljmclolpgdmaaGreatDoorPrsA
namespace Go.Proofs.YtcljmclolpgdmaaGreatDoor
open Go.RowKit Go.Bw Go.Bw.Fl
set_option linter.unusedVariables false
set_option linter.unusedSimpArgs false
theorem exn32PrsB : Extn Tryz.prog 32 Extern.MathFloatBits.float64frombits := fun args w => run_callFunc_extern Tryz.func32 (by kernel_rfl) (by kernel_rfl) (by kernel_rfl) (by kernel_rfl) args w
theorem exn53PrsB : Extn Tryz.prog 53 Extern.MathFloatBits.float64bits := fun args w => run_callFunc_extern Tryz.func53 (by kernel_rfl) (by kernel_rfl) (by kernel_rfl) (by kernel_rfl) args w
theorem txt134PrsB : Txt Tryz.prog 134 := ⟨_, Tryz.func134, by kernel_rfl, rfl⟩   -- internal/stringslite.Cut
theorem txt135PrsB : Txt Tryz.prog 135 := ⟨_, Tryz.func135, by kernel_rfl, rfl⟩   -- internal/strconv.ParseUint
theorem txt138PrsB : Txt Tryz.prog 138 := ⟨_, Tryz.func138, by kernel_rfl, rfl⟩   -- math.ldexp
theorem txt160PrsB : Txt Tryz.prog 160 := ⟨_, Tryz.func160, by kernel_rfl, rfl⟩   -- math.IsNaN
theorem txt161PrsB : Txt Tryz.prog 161 := ⟨_, Tryz.func161, by kernel_rfl, rfl⟩   -- math.normalize
theorem txt167PrsB : Txt Tryz.prog 167 := ⟨_, Tryz.func167, by kernel_rfl, rfl⟩   -- internal/stringslite.Index
theorem txt170PrsB : Txt Tryz.prog 170 := ⟨_, Tryz.func170, by kernel_rfl, rfl⟩   -- math.Copysign
theorem txt68PrsB : Txt Tryz.prog 68 := ⟨_, Tryz.func68, by kernel_rfl, rfl⟩   -- math.IsInf
theorem txt83PrsB : Txt Tryz.prog 83 := ⟨_, Tryz.func83, by kernel_rfl, rfl⟩   -- math.Inf
theorem txt91PrsB : Txt Tryz.prog 91 := ⟨_, Tryz.func91, by kernel_rfl, rfl⟩   -- strconv.toError
theorem ErrEnd.iface {t : TypeId} {v : Value} : IsErr (.iface t v) := .inr ⟨_, _, rfl⟩
theorem cell_of {w : World} {nm : String} {g : Nat} {v : Value} (hg : Tryz.prog.globalNamed nm = some g) (h : World.var? Tryz.prog w nm = some #[v]) : w.cell? ⟨g, 0, none⟩ = some v := by
  have h0 := World.var?_cell hg h 0; simpa using h0
theorem toError_r (fn s : List UInt8) (base bs : Int) (c : Int) (hc : c = 1 ∨ c = 2) (hs : s.length ≤ 281474976710656) (w : World) (hL : Lb w) : Ret Tryz.prog 91 [str fn, str s, .int .i64 base, .int .i64 bs, .iface 167 (.int .i64 c)] w fun v w' => (∃ t p, v = .iface t p) ∧ Below w.heap.size w w' := by
  have hs' : (⟨s.toArray⟩ : ByteArray).size ≤ 281474976710656 := by rw [size_str]; exact hs
  rcases hc with rfl | rfl
  · obtain ⟨tp, p, hv⟩ := hL.rng
    exact Calls.mono (Tryz.strconv_toError_range ⟨fn.toArray⟩ ⟨s.toArray⟩ base bs _ w hs' (cell_of (by kernel_rfl) hv) (.inr ⟨_, _, rfl⟩)) fun e w' ⟨N, h1, _, _, h2⟩ => ⟨_, h1, ⟨_, _, rfl⟩, h2⟩
  · obtain ⟨tp, p, hv⟩ := hL.syn
    exact Calls.mono (Tryz.strconv_toError_syntax ⟨fn.toArray⟩ ⟨s.toArray⟩ base bs _ w hs' (cell_of (by kernel_rfl) hv) (.inr ⟨_, _, rfl⟩)) fun e w' ⟨N, h1, _, _, h2⟩ => ⟨_, h1, ⟨_, _, rfl⟩, h2⟩
/-- what ParseUint at 53 bits tells -/
def PEnd (s : List UInt8) (n : Nat) (e : Value) : Prop := IsErr e ∧ (isNilI e = true → n < 9007199254740992 ∧ (Gd s → n = dval 0 s)) ∧ (isNilI e = false → ¬ Gd s) ∧ n < 18446744073709551616
theorem PEnd.of {s : List UInt8} {n : Nat} {e : Value} (h : UEnd s n e) : PEnd s n e := by
  rcases h with ⟨rfl, h1, h2⟩ | ⟨h1, h2, c, hc, rfl⟩
  · exact ⟨.inl rfl, fun _ => ⟨h1, h2⟩, fun h => (by cases h), by omega⟩
  · exact ⟨.inr ⟨_, _, rfl⟩, fun h => (by cases h), fun _ => h1, h2⟩
theorem UEnd.bad {s : List UInt8} {n : Nat} {e : Value} (h : UEnd s n e) (he : isNilI e = false) : ∃ c : Int, (c = 1 ∨ c = 2) ∧ e = .iface 167 (.int .i64 c) := by
  rcases h with ⟨rfl, h1, h2⟩ | ⟨h1, h2, c, hc, rfl⟩
  · cases he
  · exact ⟨c, hc, rfl⟩
theorem UEnd.good {s : List UInt8} {n : Nat} {e : Value} (h : UEnd s n e) (he : isNilI e = true) : n < 9007199254740992 ∧ (Gd s → n = dval 0 s) := by
  rcases h with ⟨rfl, h1, h2⟩ | ⟨h1, h2, c, hc, rfl⟩
  · exact ⟨h1, h2⟩
  · cases he
theorem ParseUint_r (s : List UInt8) (hs : s.length ≤ 281474976710656) (w : World) (hL : Lb w) : Ret Tryz.prog 85 [str s, .int .i64 10, .int .i64 53] w fun v w' => (∃ n e, v = .tuple #[.int .u64 (n : Nat), e] ∧ PEnd s n e) ∧ Below w.heap.size w w' := by
  have hb := Below.refl w.heap.size w
  have hL_hb := hL
  refine enter Tryz.func85 rfl rfl rfl ?_
  refine Wc.seq fun _ hK_1 => ?_
  refine Wc.region ?_
  refine Wl.y (y_assign rfl) rfl ?_
  refine Wl.y (y_assign rfl) rfl ?_
  refine Wl.nil ?_
  refine Wq.next hK_1 ?_
  refine Wc.seq fun _ hK_4 => ?_
  refine Wc.region ?_
  refine Wl.y (y_move rfl) rfl ?_
  refine Wl.y (y_move rfl) rfl ?_
  refine Wl.y (y_move rfl) rfl ?_
  refine Wl.call txt135PrsB rfl rfl (iParseUint_r s hs _) rfl ?_
  rintro _ w_k0 ⟨⟨n, e, rfl, hU⟩, hs_k0⟩
  have hz_k0 := hs_k0.size
  have hb := hb.trans (hs_k0.mono hb.size)
  have hL := hL_hb.below hb
  refine Wl.y (y_move rfl) rfl ?_
  refine Wl.y (y_extract rfl rfl) rfl ?_
  refine Wl.y (y_extract rfl rfl) rfl ?_
  refine Wl.y (y_assign rfl) rfl ?_
  refine Wl.y (y_assign rfl) rfl ?_
  refine Wl.nil ?_
  refine Wq.next hK_4 ?_
  refine Wc.seq fun _ hK_14 => ?_
  refine Wc.seq fun _ hK_15 => ?_
  refine Wc.region ?_
  refine Wl.y (y_move rfl) rfl ?_
  refine Wl.y (y_neqN (by kernel_rfl) rfl ((PEnd.of hU).1)) rfl ?_
  refine Wl.nil ?_
  refine Wq.next hK_15 ?_
  refine Wc.cond rfl (fun c0_18 => ?_) (fun c0_18 => ?_)
  ·
   have c0_18_ := c0_18
   try simp only [decide_eq_true_eq, decide_eq_false_iff_not, beq_iff_eq, beq_eq_false_iff_ne, bne_iff_ne, bne_eq_false_iff_eq, Bool.not_eq_true', Bool.not_eq_false', Bool.not_eq_eq_eq_not, Bool.not_true, Bool.not_false, ne_eq, Int.not_lt, Int.not_le] at c0_18
   obtain ⟨c, hc, rfl⟩ := hU.bad (by have h := c0_18_; simpa using h)
   refine Wc.seq fun _ hK_19 => ?_
   refine Wc.region ?_
   refine Wl.y (y_move rfl) rfl ?_
   refine Wl.y (y_move rfl) rfl ?_
   refine Wl.y (y_move rfl) rfl ?_
   refine Wl.y (y_move rfl) rfl ?_
   refine Wl.y (y_move rfl) rfl ?_
   refine Wl.call txt91PrsB rfl rfl (toError_r _ s _ _ c hc hs _ hL) rfl ?_
   rintro _ w_k1 ⟨⟨t, p, rfl⟩, hs_k1⟩
   have hz_k1 := hs_k1.size
   have hb := hb.trans (hs_k1.mono hb.size)
   have hL := hL_hb.below hb
   refine Wl.y (y_assign rfl) rfl ?_
   refine Wl.y (y_assign rfl) rfl ?_
   refine Wl.nil ?_
   refine Wq.next hK_19 ?_
   refine Wc.ret ?_
   refine Wq.then_ret ?_
   refine ret2 rfl rfl rfl ?_
   exact ⟨_, rfl, ⟨n, _, rfl, .inr ⟨_, _, rfl⟩, fun h => (by cases h), fun _ => (PEnd.of hU).2.2.1 rfl, (PEnd.of hU).2.2.2⟩, hb⟩
  ·
   have c0_18_ := c0_18
   try simp only [decide_eq_true_eq, decide_eq_false_iff_not, beq_iff_eq, beq_eq_false_iff_ne, bne_iff_ne, bne_eq_false_iff_eq, Bool.not_eq_true', Bool.not_eq_false', Bool.not_eq_eq_eq_not, Bool.not_true, Bool.not_false, ne_eq, Int.not_lt, Int.not_le] at c0_18
   refine Wc.skip ?_
   refine Wq.next hK_14 ?_
   refine Wc.seq fun _ hK_28 => ?_
   refine Wc.region ?_
   refine Wl.y (y_move rfl) rfl ?_
   refine Wl.y (y_assign rfl) rfl ?_
   refine Wl.y (y_assign rfl) rfl ?_
   refine Wl.nil ?_
   refine Wq.next hK_28 ?_
   refine Wc.ret ?_
   refine ret2 rfl rfl rfl ?_
   exact ⟨_, rfl, ⟨n, _, rfl, .inl rfl, fun _ => hU.good (by have h := c0_18_; simpa using h), fun h => (by cases h), (PEnd.of hU).2.2.2⟩, hb⟩
theorem Index_r (s : List UInt8) (w : World) : Ret Tryz.prog 167 [str s, str [112]] w fun v w' => (∃ z, v = .int .i64 z ∧ z = Lib.indexByte s 112) ∧ w' = w :=
  Calls.mono (Tryz.stringslite_Index_one ⟨s.toArray⟩ 112 w) fun e w' ⟨h1, h2⟩ => ⟨_, h1, ⟨_, rfl, rfl⟩, h2⟩
def cutP (s : List UInt8) : List UInt8 × List UInt8 := if 0 ≤ Lib.indexByte s 112 then (s.take (Lib.indexByte s 112).toNat, s.drop ((Lib.indexByte s 112).toNat + 1)) else (s, [])
theorem cutP_num (M : Nat) (e : Int) : cutP (numT M e) = (Lib.decDigits M, Lib.itoa e) := by
  have h := index_mid (a := Lib.decDigits M) (b := Lib.itoa e) (noP (u := M))
  unfold cutP numT
  rw [h, if_pos (by omega), Int.toNat_natCast]; simp
theorem cutP_len (s : List UInt8) : (cutP s).1.length ≤ s.length ∧ (cutP s).2.length ≤ s.length := by
  unfold cutP; split <;> simp <;> omega
theorem idx_lt {s : List UInt8} {o : Nat} (h : Lib.indexByte s 112 = (o : Int)) : o < s.length := by
  have := (Lib.indexByte_some h).1
  exact (List.getElem?_eq_some_iff.1 this).1
theorem iCut_r (s : List UInt8) (hs : s.length ≤ 281474976710656) (w : World) : Ret Tryz.prog 134 [str s, str [112]] w fun v w' => (∃ b, v = .tuple #[str (cutP s).1, str (cutP s).2, .bool b]) ∧ Below w.heap.size w w' := by
  have h11 : ([112] : List UInt8).length = 1 := rfl
  have hb := Below.refl w.heap.size w
  refine enter Tryz.func134 rfl rfl rfl ?_
  refine Wc.seq fun _ hK_1 => ?_
  refine Wc.region ?_
  refine Wl.y (y_assign rfl) rfl ?_
  refine Wl.y (y_assign rfl) rfl ?_
  refine Wl.y (y_assign rfl) rfl ?_
  refine Wl.nil ?_
  refine Wq.next hK_1 ?_
  refine Wc.seq fun _ hK_5 => ?_
  refine Wc.seq fun _ hK_6 => ?_
  refine Wc.region ?_
  refine Wl.y (y_move rfl) rfl ?_
  refine Wl.y (y_move rfl) rfl ?_
  refine Wl.call txt167PrsB rfl rfl (Index_r s _) rfl ?_
  rintro _ w_ ⟨⟨z, rfl, hz⟩, hw_⟩
  have hw_ := hw_.symm; subst hw_
  refine Wl.y (y_assign rfl) rfl ?_
  refine Wl.nil ?_
  refine Wq.next hK_6 ?_
  refine Wc.seq fun _ hK_11 => ?_
  refine Wc.region ?_
  refine Wl.y (y_move rfl) rfl ?_
  refine Wl.y (y_geqi rfl rfl) rfl ?_
  refine Wl.nil ?_
  refine Wq.next hK_11 ?_
  refine Wc.cond rfl (fun c0_14 => ?_) (fun c0_14 => ?_)
  ·
   have c0_14_ := c0_14
   try simp only [decide_eq_true_eq, decide_eq_false_iff_not, beq_iff_eq, beq_eq_false_iff_ne, bne_iff_ne, bne_eq_false_iff_eq, Bool.not_eq_true', Bool.not_eq_false', Bool.not_eq_eq_eq_not, Bool.not_true, Bool.not_false, ne_eq, Int.not_lt, Int.not_le] at c0_14
   obtain ⟨o, rfl⟩ : ∃ o : Nat, z = o := ⟨z.toNat, by have := c0_14; omega⟩
   have ho := idx_lt hz.symm
   refine Wc.seq fun _ hK_15 => ?_
   refine Wc.quiet (by kernel_rfl) (by kernel_rfl) ?_
   refine Wy.y (y_move rfl) rfl ?_
   refine Wy.y (y_move rfl) rfl ?_
   refine Wy.y (y_slicesH Tryz.underlying9 rfl rfl (by omega) (by omega)) rfl ?_
   refine Wy.y (y_move rfl) rfl ?_
   refine Wy.y (y_move rfl) rfl ?_
   refine Wy.y (y_move rfl) rfl ?_
   refine Wy.y (y_lens Tryz.underlying9 (by omega) rfl) rfl ?_
   refine Wy.y (y_addI rfl rfl (by first | omega | (simp; done) | (simp; omega)) (by first | omega | (simp; done) | (simp; omega))) rfl ?_
   refine Wy.y (y_slicesL Tryz.underlying9 rfl rfl (by omega) (by omega)) rfl ?_
   refine Wy.y (y_assign rfl) rfl ?_
   refine Wy.y (y_assign rfl) rfl ?_
   refine Wy.y (y_assign rfl) rfl ?_
   refine Wy.nil fun w_g3 hs_g3 => ?_
   have hz_g3 := hs_g3.size
   have hb := hb.trans (hs_g3.mono hb.size)
   refine Wq.next hK_15 ?_
   refine Wc.ret ?_
   refine Wq.then_ret ?_
   refine ret3 rfl rfl rfl rfl ?_
   exact ⟨_, rfl, ⟨true, by unfold cutP; rw [← hz, if_pos (by omega), Int.toNat_natCast]; rfl⟩, hb⟩
  ·
   have c0_14_ := c0_14
   try simp only [decide_eq_true_eq, decide_eq_false_iff_not, beq_iff_eq, beq_eq_false_iff_ne, bne_iff_ne, bne_eq_false_iff_eq, Bool.not_eq_true', Bool.not_eq_false', Bool.not_eq_eq_eq_not, Bool.not_true, Bool.not_false, ne_eq, Int.not_lt, Int.not_le] at c0_14
   refine Wc.skip ?_
   refine Wq.next hK_5 ?_
   refine Wc.seq fun _ hK_28 => ?_
   refine Wc.region ?_
   refine Wl.y (y_move rfl) rfl ?_
   refine Wl.y (y_assign rfl) rfl ?_
   refine Wl.y (y_assign rfl) rfl ?_
   refine Wl.y (y_assign rfl) rfl ?_
   refine Wl.nil ?_
   refine Wq.next hK_28 ?_
   refine Wc.ret ?_
   refine ret3 rfl rfl rfl rfl ?_
   exact ⟨_, rfl, ⟨false, by unfold cutP; rw [← hz, if_neg (by have := c0_14; omega)]; rfl⟩, hb⟩
theorem Cut_r (s : List UInt8) (hs : s.length ≤ 281474976710656) (w : World) : Ret Tryz.prog 84 [str s, str [112]] w fun v w' => (∃ b, v = .tuple #[str (cutP s).1, str (cutP s).2, .bool b]) ∧ Below w.heap.size w w' := by
  have hb := Below.refl w.heap.size w
  refine enter Tryz.func84 rfl rfl rfl ?_
  refine Wc.seq fun _ hK_1 => ?_
  refine Wc.region ?_
  refine Wl.y (y_assign rfl) rfl ?_
  refine Wl.y (y_assign rfl) rfl ?_
  refine Wl.y (y_assign rfl) rfl ?_
  refine Wl.nil ?_
  refine Wq.next hK_1 ?_
  refine Wc.seq fun _ hK_5 => ?_
  refine Wc.region ?_
  refine Wl.y (y_move rfl) rfl ?_
  refine Wl.y (y_move rfl) rfl ?_
  refine Wl.call txt134PrsB rfl rfl (iCut_r s hs _) rfl ?_
  rintro _ w_k0 ⟨⟨b, rfl⟩, hs_k0⟩
  have hz_k0 := hs_k0.size
  have hb := hb.trans (hs_k0.mono hb.size)
  refine Wl.y (y_extract rfl rfl) rfl ?_
  refine Wl.y (y_extract rfl rfl) rfl ?_
  refine Wl.y (y_extract rfl rfl) rfl ?_
  refine Wl.y (y_assign rfl) rfl ?_
  refine Wl.y (y_assign rfl) rfl ?_
  refine Wl.y (y_assign rfl) rfl ?_
  refine Wl.nil ?_
  refine Wq.next hK_5 ?_
  refine Wc.ret ?_
  refine ret3 rfl rfl rfl rfl ?_
  exact ⟨_, rfl, ⟨b, rfl⟩, hb⟩
/-- what Atoi tells -/
def AEnd (s : List UInt8) (v : Value) : Prop := ∃ n e, v = .tuple #[.int .i64 n, e] ∧ IsErr e ∧ ((Lib.atoiAll s = .ok n ∧ isNilI e = true) ∨ ((∀ k, Lib.atoiAll s ≠ .ok k) ∧ isNilI e = false))
theorem Atoi_r (s : List UInt8) (hs : s.length ≤ 281474976710656) (w : World) (hL : Lb w) : Ret Tryz.prog 86 [str s] w fun v w' => AEnd s v ∧ Below w.heap.size w w' := by
  have hs' : (⟨s.toArray⟩ : ByteArray).size ≤ 281474976710656 := by rw [size_str]; exact hs
  rcases h : Lib.atoiAll s with v | _ | _
  · exact Calls.mono (Tryz.strconv_Atoi_ok ⟨s.toArray⟩ (by omega) v h w) fun e w' ⟨h1, h2⟩ => ⟨_, h1, ⟨v, _, rfl, .inl rfl, .inl ⟨h, rfl⟩⟩, by
      rcases h2 with rfl | ⟨t, rfl⟩
      · exact Below.refl _ _
      · exact below_bytes w t⟩
  · obtain ⟨tp, p, hv⟩ := hL.syn
    exact Calls.mono (Any.strconv_Atoi_syntax_var Tryz.laysC172 ⟨s.toArray⟩ hs' h tp p w hv) fun e w' ⟨N, h1, _, _, h2⟩ => ⟨_, h1, ⟨_, _, rfl, .inr ⟨_, _, rfl⟩, .inr ⟨fun k hk => (by rw [h] at hk; cases hk), rfl⟩⟩, h2⟩
  · obtain ⟨tp, p, hv⟩ := hL.rng
    exact Calls.mono (Any.strconv_Atoi_range_var Tryz.laysC172 ⟨s.toArray⟩ hs' h tp p w hv) fun e w' ⟨N, h1, _, _, h2⟩ => ⟨_, h1, ⟨_, _, rfl, .inr ⟨_, _, rfl⟩, .inr ⟨fun k hk => (by rw [h] at hk; cases hk), rfl⟩⟩, h2⟩

theorem Inf_r (w : World) : Ret Tryz.prog 83 [.int .i64 1] w fun v w' => v = .float .f64 9218868437227405312 ∧ w' = w := by
  refine enter Tryz.func83 rfl rfl rfl ?_
  refine Wc.seq fun _ hK_1 => ?_
  refine Wc.region ?_
  refine Wl.y (y_assign rfl) rfl ?_
  refine Wl.nil ?_
  refine Wq.next hK_1 ?_
  refine Wc.seq fun _ hK_3 => ?_
  refine Wc.region ?_
  refine Wl.y (y_assign rfl) rfl ?_
  refine Wl.nil ?_
  refine Wq.next hK_3 ?_
  refine Wc.seq fun _ hK_5 => ?_
  refine Wc.seq fun _ hK_6 => ?_
  refine Wc.region ?_
  refine Wl.y (y_move rfl) rfl ?_
  refine Wl.y (y_geqi rfl rfl) rfl ?_
  refine Wl.nil ?_
  refine Wq.next hK_6 ?_
  refine Wc.cond rfl (fun c0_9 => ?_) (fun c0_9 => ?_)
  ·
   have c0_9_ := c0_9
   try simp only [decide_eq_true_eq, decide_eq_false_iff_not, beq_iff_eq, beq_eq_false_iff_ne, bne_iff_ne, bne_eq_false_iff_eq, Bool.not_eq_true', Bool.not_eq_false', Bool.not_eq_eq_eq_not, Bool.not_true, Bool.not_false, ne_eq, Int.not_lt, Int.not_le] at c0_9
   refine Wc.region ?_
   refine Wl.y (y_assign rfl) rfl ?_
   refine Wl.nil ?_
   refine Wq.next hK_5 ?_
   refine Wc.seq fun _ hK_11 => ?_
   refine Wc.region ?_
   refine Wl.y (y_move rfl) rfl ?_
   refine Wl.y (y_b2f exn32PrsB rfl rfl) rfl ?_
   refine Wl.y (y_assign rfl) rfl ?_
   refine Wl.nil ?_
   refine Wq.next hK_11 ?_
   refine Wc.ret ?_
   refine ret1 rfl rfl ?_
   exact ⟨_, rfl, rfl, rfl⟩
  ·
   have c0_9_ := c0_9
   try simp only [decide_eq_true_eq, decide_eq_false_iff_not, beq_iff_eq, beq_eq_false_iff_ne, bne_iff_ne, bne_eq_false_iff_eq, Bool.not_eq_true', Bool.not_eq_false', Bool.not_eq_eq_eq_not, Bool.not_true, Bool.not_false, ne_eq, Int.not_lt, Int.not_le] at c0_9
   exact absurd c0_9 (by decide)
theorem InfM_r (w : World) : Ret Tryz.prog 83 [.int .i64 (-1)] w fun v w' => v = .float .f64 18442240474082181120 ∧ w' = w := by
  refine enter Tryz.func83 rfl rfl rfl ?_
  refine Wc.seq fun _ hK_1 => ?_
  refine Wc.region ?_
  refine Wl.y (y_assign rfl) rfl ?_
  refine Wl.nil ?_
  refine Wq.next hK_1 ?_
  refine Wc.seq fun _ hK_3 => ?_
  refine Wc.region ?_
  refine Wl.y (y_assign rfl) rfl ?_
  refine Wl.nil ?_
  refine Wq.next hK_3 ?_
  refine Wc.seq fun _ hK_5 => ?_
  refine Wc.seq fun _ hK_6 => ?_
  refine Wc.region ?_
  refine Wl.y (y_move rfl) rfl ?_
  refine Wl.y (y_geqi rfl rfl) rfl ?_
  refine Wl.nil ?_
  refine Wq.next hK_6 ?_
  refine Wc.cond rfl (fun c0_9 => ?_) (fun c0_9 => ?_)
  ·
   have c0_9_ := c0_9
   try simp only [decide_eq_true_eq, decide_eq_false_iff_not, beq_iff_eq, beq_eq_false_iff_ne, bne_iff_ne, bne_eq_false_iff_eq, Bool.not_eq_true', Bool.not_eq_false', Bool.not_eq_eq_eq_not, Bool.not_true, Bool.not_false, ne_eq, Int.not_lt, Int.not_le] at c0_9
   exact absurd c0_9 (by decide)
  ·
   have c0_9_ := c0_9
   try simp only [decide_eq_true_eq, decide_eq_false_iff_not, beq_iff_eq, beq_eq_false_iff_ne, bne_iff_ne, bne_eq_false_iff_eq, Bool.not_eq_true', Bool.not_eq_false', Bool.not_eq_eq_eq_not, Bool.not_true, Bool.not_false, ne_eq, Int.not_lt, Int.not_le] at c0_9
   refine Wc.region ?_
   refine Wl.y (y_assign rfl) rfl ?_
   refine Wl.nil ?_
   refine Wq.next hK_5 ?_
   refine Wc.seq fun _ hK_11 => ?_
   refine Wc.region ?_
   refine Wl.y (y_move rfl) rfl ?_
   refine Wl.y (y_b2f exn32PrsB rfl rfl) rfl ?_
   refine Wl.y (y_assign rfl) rfl ?_
   refine Wl.nil ?_
   refine Wq.next hK_11 ?_
   refine Wc.ret ?_
   refine ret1 rfl rfl ?_
   exact ⟨_, rfl, rfl, rfl⟩
theorem and63 (b : Nat) (h : b < 9223372036854775808) : bits .and .u64 (b : Int) 9223372036854775808 = 0 := by
  have h1 := u64_and_nat b 9223372036854775808 (by omega) (by decide)
  rw [show ((9223372036854775808 : Nat) : Int) = 9223372036854775808 from rfl] at h1
  have h2 : b &&& 2 ^ 63 = 0 := by
    apply Nat.eq_of_testBit_eq; intro i
    rw [Nat.testBit_and, Nat.testBit_two_pow, Nat.zero_testBit]
    by_cases hi : 63 = i
    · subst hi; rw [Nat.testBit_lt_two_pow (by simpa using h)]; rfl
    · simp [hi]
  rw [h1, show (9223372036854775808 : Nat) = 2 ^ 63 by decide, h2]; rfl
theorem Copysign_r (b : Nat) (h : b < 9223372036854775808) (w : World) : Ret Tryz.prog 170 [.float .f64 0, .float .f64 b] w fun v w' => v = .float .f64 0 ∧ w' = w := by
  refine enter Tryz.func170 rfl rfl rfl ?_
  refine Wc.seq fun _ hK_1 => ?_
  refine Wc.region ?_
  refine Wl.y (y_assign rfl) rfl ?_
  refine Wl.nil ?_
  refine Wq.next hK_1 ?_
  refine Wc.seq fun _ hK_3 => ?_
  refine Wc.region ?_
  refine Wl.y (y_move rfl) rfl ?_
  refine Wl.y (y_f2b exn53PrsB rfl rfl) rfl ?_
  refine Wl.y (y_eq (y_andNot rfl rfl) (int_eq (show _ = (0 : Int) by rfl))) rfl ?_
  refine Wl.y (y_move rfl) rfl ?_
  refine Wl.y (y_f2b exn53PrsB rfl rfl) rfl ?_
  refine Wl.y (y_eq (y_and rfl rfl) (int_eq (and63 b h))) rfl ?_
  refine Wl.y (y_eq (y_or rfl rfl) (int_eq (show _ = (0 : Int) by rfl))) rfl ?_
  refine Wl.y (y_b2f exn32PrsB rfl rfl) rfl ?_
  refine Wl.y (y_assign rfl) rfl ?_
  refine Wl.nil ?_
  refine Wq.next hK_3 ?_
  refine Wc.ret ?_
  refine ret1 rfl rfl ?_
  exact ⟨_, rfl, rfl, rfl⟩
theorem zero_exact {k : Int} {f : Nat} (h : Exact 0 k f) : f = 0 := by
  obtain ⟨t, u, _, hv⟩ := h
  rw [show V 0 = 0 by decide, Nat.zero_mul] at hv
  rcases Nat.mul_eq_zero.1 hv.symm with h | h
  · exact V_zero.1 h
  · exact absurd h (Nat.ne_of_gt (Nat.two_pow_pos u))
theorem and2047i (b : Nat) (h : b < 4503599627370496) : bits .and .i64 (b : Int) 2047 = ((b % 2048 : Nat) : Int) := by
  have hb : (BitVec.ofInt 64 (b : Int)).toNat = b := by rw [BitVec.toNat_ofInt]; omega
  have hc : (BitVec.ofInt 64 (2047 : Int)).toNat = 2 ^ 11 - 1 := by decide
  show IntKind.i64.wrap ((BitVec.ofInt 64 (b : Int) &&& BitVec.ofInt 64 (2047 : Int)).toNat : Int) = _
  rw [BitVec.toNat_and, hb, hc, Nat.and_two_pow_sub_one_eq_mod]
  rw [wrap_i64 _ (by omega) (by omega)]
theorem normN_r (r : Nat) (h0 : 4503599627370496 ≤ r) (h1 : r < 9218868437227405312) (w : World) : Ret Tryz.prog 161 [.float .f64 r] w fun v w' => v = .tuple #[.float .f64 r, .int .i64 0] ∧ w' = w :=
  (normalize_r r (by omega) h1 w).mono fun v w' ⟨⟨r', s, hv, hN⟩, hw⟩ => by
    obtain ⟨_, _, h | ⟨_, rfl, rfl⟩⟩ := hN
    · omega
    · exact ⟨hv, hw⟩
theorem shl52 (q : Nat) (h : q ≤ 2046) : IntKind.u64.wrap ((q : Int) * 2 ^ (52 : Int).toNat) = ((q * 4503599627370496 : Nat) : Int) := by
  rw [show (2 : Int) ^ (52 : Int).toNat = 4503599627370496 by decide, wrap_u64 _ (by omega) (by omega)]; omega
theorem or52 (b q : Nat) (hb : b < 4503599627370496) (h : q ≤ 2046) : bits .or .u64 (b : Int) ((q * 4503599627370496 : Nat) : Int) = ((b + q * 4503599627370496 : Nat) : Int) := by
  rw [u64_or_nat b _ (by omega) (by omega), Nat.or_comm, show (4503599627370496 : Nat) = 2 ^ 52 by decide, or_low _ _ _ (by simpa using hb), Nat.add_comm]
theorem ldexp_r (r : Nat) (hr : r = 0 ∨ (4503599627370496 ≤ r ∧ r < 9218868437227405312)) (k : Int) (hk : -2000 ≤ k ∧ k ≤ 2000) (w : World) : Ret Tryz.prog 138 [.float .f64 r, .int .i64 k] w fun v w' => (∃ x, v = .float .f64 x ∧ x < 18446744073709551616 ∧ ∀ f, f < 9218868437227405312 → Exact r k f → x = f) ∧ Below w.heap.size w w' := by
  have hlt : r < 9218868437227405312 := by omega
  have hrr : rung r = r := rung_pos (by omega)
  have hc0 : (FloatKind.f64.format.order r 0 == some .eq) = decide (r = 0) := by
    have := eq_zero_f r
    rw [hrr, nan_pos (by omega), Bool.not_false, Bool.true_and] at this; exact this
  have hb := Below.refl w.heap.size w
  refine enter Tryz.func138 rfl rfl rfl ?_
  refine Wc.seq fun _ hK_1 => ?_
  refine Wc.region ?_
  refine Wl.y (y_assign rfl) rfl ?_
  refine Wl.nil ?_
  refine Wq.next hK_1 ?_
  refine Wc.seq fun _ hK_3 => ?_
  refine Wc.block ?_
  refine Wc.seq fun _ hK_4 => ?_
  refine Wc.region ?_
  refine Wl.y (y_move rfl) rfl ?_
  refine Wl.y (y_eqlf rfl rfl) rfl ?_
  refine Wl.y (y_assign rfl) rfl ?_
  refine Wl.nil ?_
  refine Wq.next hK_4 ?_
  rw [hc0]
  refine Wc.cond rfl (fun c0_8 => ?_) (fun c0_8 => ?_)
  ·
   have c0_8_ := c0_8
   try simp only [decide_eq_true_eq, decide_eq_false_iff_not, beq_iff_eq, beq_eq_false_iff_ne, bne_iff_ne, bne_eq_false_iff_eq, Bool.not_eq_true', Bool.not_eq_false', Bool.not_eq_eq_eq_not, Bool.not_true, Bool.not_false, ne_eq, Int.not_lt, Int.not_le] at c0_8
   have h0 : r = 0 := c0_8
   refine Wc.seq fun _ hK_9 => ?_
   refine Wc.region ?_
   refine Wl.y (y_move rfl) rfl ?_
   refine Wl.y (y_assign rfl) rfl ?_
   refine Wl.nil ?_
   refine Wq.next hK_9 ?_
   refine Wc.ret ?_
   refine Wq.block_ret (Wq.then_ret ?_)
   refine ret1 rfl rfl ?_
   exact ⟨_, rfl, ⟨r, rfl, by omega, fun f hf hX => by subst h0; exact (zero_exact hX).symm⟩, hb⟩
  ·
   have c0_8_ := c0_8
   try simp only [decide_eq_true_eq, decide_eq_false_iff_not, beq_iff_eq, beq_eq_false_iff_ne, bne_iff_ne, bne_eq_false_iff_eq, Bool.not_eq_true', Bool.not_eq_false', Bool.not_eq_eq_eq_not, Bool.not_true, Bool.not_false, ne_eq, Int.not_lt, Int.not_le] at c0_8
   have hn : 4503599627370496 ≤ r := by have := c0_8; omega
   have hq2 : r / 4503599627370496 < 2047 := by omega
   have hq4 : 1 ≤ r / 4503599627370496 := by omega
   refine Wc.seq fun _ hK_12 => ?_
   refine Wc.region ?_
   refine Wl.y (y_move rfl) rfl ?_
   refine Wl.call txt68PrsB rfl rfl (IsInf_r r (by omega) _) rfl ?_
   rintro _ w_ ⟨rfl, hw_⟩
   have hw_ := hw_.symm; subst hw_
   rw [hrr, decide_eq_false (by omega)]
   refine Wl.y (y_move rfl) rfl ?_
   refine Wl.guardF rfl rfl rfl (fun g_16 => ?_) (fun g_16 => ?_)
   ·
    have g_16_ := g_16
    try simp only [decide_eq_true_eq, decide_eq_false_iff_not, beq_iff_eq, beq_eq_false_iff_ne, bne_iff_ne, bne_eq_false_iff_eq, Bool.not_eq_true', Bool.not_eq_false', Bool.not_eq_eq_eq_not, Bool.not_true, Bool.not_false, ne_eq, Int.not_lt, Int.not_le] at g_16
    cases g_16_
   ·
    have g_16_ := g_16
    try simp only [decide_eq_true_eq, decide_eq_false_iff_not, beq_iff_eq, beq_eq_false_iff_ne, bne_iff_ne, bne_eq_false_iff_eq, Bool.not_eq_true', Bool.not_eq_false', Bool.not_eq_eq_eq_not, Bool.not_true, Bool.not_false, ne_eq, Int.not_lt, Int.not_le] at g_16
    refine Wl.y (y_move rfl) rfl ?_
    refine Wl.on' rfl rfl g_16_ ?_
    refine Wl.call txt160PrsB rfl rfl (IsNaN_r r _) rfl ?_
    rintro _ w_ ⟨rfl, hw_⟩
    have hw_ := hw_.symm; subst hw_
    rw [nan_pos (by omega)]
    refine Wl.y (y_pickF rfl g_16_ rfl) rfl ?_
    refine Wl.y (y_assign rfl) rfl ?_
    refine Wl.nil ?_
    refine Wq.next hK_12 ?_
    refine Wc.cond rfl (fun c1_21 => ?_) (fun c1_21 => ?_)
    ·
     have c1_21_ := c1_21
     try simp only [decide_eq_true_eq, decide_eq_false_iff_not, beq_iff_eq, beq_eq_false_iff_ne, bne_iff_ne, bne_eq_false_iff_eq, Bool.not_eq_true', Bool.not_eq_false', Bool.not_eq_eq_eq_not, Bool.not_true, Bool.not_false, ne_eq, Int.not_lt, Int.not_le] at c1_21
     cases c1_21_
    ·
     have c1_21_ := c1_21
     try simp only [decide_eq_true_eq, decide_eq_false_iff_not, beq_iff_eq, beq_eq_false_iff_ne, bne_iff_ne, bne_eq_false_iff_eq, Bool.not_eq_true', Bool.not_eq_false', Bool.not_eq_eq_eq_not, Bool.not_true, Bool.not_false, ne_eq, Int.not_lt, Int.not_le] at c1_21
     refine Wc.skip ?_
     refine Wq.block_normal ?_
     refine Wq.next hK_3 ?_
     refine Wc.seq fun _ hK_22 => ?_
     refine Wc.region ?_
     refine Wl.y (y_move rfl) rfl ?_
     refine Wl.call txt161PrsB rfl rfl (normN_r r hn hlt _) rfl ?_
     rintro _ w_ ⟨rfl, hw_⟩
     have hw_ := hw_.symm; subst hw_
     refine Wl.y (y_move rfl) rfl ?_
     refine Wl.y (y_extract rfl rfl) rfl ?_
     refine Wl.y (y_extract rfl rfl) rfl ?_
     refine Wl.y (y_assign rfl) rfl ?_
     refine Wl.y (y_assign rfl) rfl ?_
     refine Wl.nil ?_
     refine Wq.next hK_22 ?_
     refine Wc.seq fun _ hK_30 => ?_
     refine Wc.region ?_
     refine Wl.y (y_move rfl) rfl ?_
     refine Wl.y (y_move rfl) rfl ?_
     refine Wl.y (y_addI rfl rfl (by first | omega | (simp; done) | (simp; omega)) (by first | omega | (simp; done) | (simp; omega))) rfl ?_
     refine Wl.y (y_assign rfl) rfl ?_
     refine Wl.nil ?_
     refine Wq.next hK_30 ?_
     refine Wc.seq fun _ hK_35 => ?_
     refine Wc.region ?_
     refine Wl.y (y_move rfl) rfl ?_
     refine Wl.y (y_f2b exn53PrsB rfl rfl) rfl ?_
     refine Wl.y (y_assign rfl) rfl ?_
     refine Wl.nil ?_
     refine Wq.next hK_35 ?_
     refine Wc.seq fun _ hK_39 => ?_
     refine Wc.region ?_
     refine Wl.y (y_move rfl) rfl ?_
     refine Wl.y (y_move rfl) rfl ?_
     refine Wl.y (y_eq (y_shr rfl rfl (by first | decide | omega) (by first | decide | omega)) (int_eq (sh52 r))) rfl ?_
     refine Wl.y (y_eq (y_convi Tryz.underlying22 Tryz.underlying3 rfl) (int_eq (conv_u64_i64 _ (by omega)))) rfl ?_
     refine Wl.y (y_eq (y_and rfl rfl) (int_eq ((and2047i _ (by omega)).trans (by rw [Nat.mod_eq_of_lt (show r / 4503599627370496 < 2048 by omega)])))) rfl ?_
     refine Wl.y (y_subI rfl rfl (by first | omega | (simp; done) | (simp; omega)) (by first | omega | (simp; done) | (simp; omega))) rfl ?_
     refine Wl.y (y_addI rfl rfl (by first | omega | (simp; done) | (simp; omega)) (by first | omega | (simp; done) | (simp; omega))) rfl ?_
     refine Wl.y (y_assign rfl) rfl ?_
     refine Wl.nil ?_
     refine Wq.next hK_39 ?_
     refine Wc.seq fun _ hK_48 => ?_
     refine Wc.seq fun _ hK_49 => ?_
     refine Wc.region ?_
     refine Wl.y (y_move rfl) rfl ?_
     refine Wl.y (y_lssi rfl rfl) rfl ?_
     refine Wl.nil ?_
     refine Wq.next hK_49 ?_
     refine Wc.cond rfl (fun c2_52 => ?_) (fun c2_52 => ?_)
     ·
      have c2_52_ := c2_52
      try simp only [decide_eq_true_eq, decide_eq_false_iff_not, beq_iff_eq, beq_eq_false_iff_ne, bne_iff_ne, bne_eq_false_iff_eq, Bool.not_eq_true', Bool.not_eq_false', Bool.not_eq_eq_eq_not, Bool.not_true, Bool.not_false, ne_eq, Int.not_lt, Int.not_le] at c2_52
      refine Wc.seq fun _ hK_53 => ?_
      refine Wc.region ?_
      refine Wl.y (y_move rfl) rfl ?_
      refine Wl.call txt170PrsB rfl rfl (Copysign_r r (by omega) _) rfl ?_
      rintro _ w_ ⟨rfl, hw_⟩
      have hw_ := hw_.symm; subst hw_
      refine Wl.y (y_assign rfl) rfl ?_
      refine Wl.nil ?_
      refine Wq.next hK_53 ?_
      refine Wc.ret ?_
      refine Wq.then_ret ?_
      refine ret1 rfl rfl ?_
      exact ⟨_, rfl, ⟨_, rfl, by decide, fun f hf hX => (Decidable.byContradiction fun hc => by have := exact_low hn hlt (fun h => hc h.symm) hX; have := c2_52; omega)⟩, hb⟩
     ·
      have c2_52_ := c2_52
      try simp only [decide_eq_true_eq, decide_eq_false_iff_not, beq_iff_eq, beq_eq_false_iff_ne, bne_iff_ne, bne_eq_false_iff_eq, Bool.not_eq_true', Bool.not_eq_false', Bool.not_eq_eq_eq_not, Bool.not_true, Bool.not_false, ne_eq, Int.not_lt, Int.not_le] at c2_52
      refine Wc.skip ?_
      refine Wq.next hK_48 ?_
      refine Wc.seq fun _ hK_57 => ?_
      refine Wc.seq fun _ hK_58 => ?_
      refine Wc.region ?_
      refine Wl.y (y_move rfl) rfl ?_
      refine Wl.y (y_gtri rfl rfl) rfl ?_
      refine Wl.nil ?_
      refine Wq.next hK_58 ?_
      refine Wc.cond rfl (fun c3_61 => ?_) (fun c3_61 => ?_)
      ·
       have c3_61_ := c3_61
       try simp only [decide_eq_true_eq, decide_eq_false_iff_not, beq_iff_eq, beq_eq_false_iff_ne, bne_iff_ne, bne_eq_false_iff_eq, Bool.not_eq_true', Bool.not_eq_false', Bool.not_eq_eq_eq_not, Bool.not_true, Bool.not_false, ne_eq, Int.not_lt, Int.not_le] at c3_61
       refine Wc.seq fun _ hK_62 => ?_
       refine Wc.seq fun _ hK_63 => ?_
       refine Wc.region ?_
       refine Wl.y (y_move rfl) rfl ?_
       refine Wl.y (y_lssf rfl rfl) rfl ?_
       refine Wl.nil ?_
       refine Wq.next hK_63 ?_
       refine Wc.cond rfl (fun c4_66 => ?_) (fun c4_66 => ?_)
       ·
        have c4_66_ := c4_66
        try simp only [decide_eq_true_eq, decide_eq_false_iff_not, beq_iff_eq, beq_eq_false_iff_ne, bne_iff_ne, bne_eq_false_iff_eq, Bool.not_eq_true', Bool.not_eq_false', Bool.not_eq_eq_eq_not, Bool.not_true, Bool.not_false, ne_eq, Int.not_lt, Int.not_le] at c4_66
        refine Wc.seq fun _ hK_67 => ?_
        refine Wc.region ?_
        refine Wl.call txt83PrsB rfl rfl (InfM_r _) rfl ?_
        rintro _ w_ ⟨rfl, hw_⟩
        have hw_ := hw_.symm; subst hw_
        refine Wl.y (y_assign rfl) rfl ?_
        refine Wl.nil ?_
        refine Wq.next hK_67 ?_
        refine Wc.ret ?_
        refine Wq.then_ret (Wq.then_ret ?_)
        refine ret1 rfl rfl ?_
        exact ⟨_, rfl, ⟨_, rfl, by decide, fun f hf hX => by have := exact_high hn hlt hf hX; have := c3_61; omega⟩, hb⟩
       ·
        have c4_66_ := c4_66
        try simp only [decide_eq_true_eq, decide_eq_false_iff_not, beq_iff_eq, beq_eq_false_iff_ne, bne_iff_ne, bne_eq_false_iff_eq, Bool.not_eq_true', Bool.not_eq_false', Bool.not_eq_eq_eq_not, Bool.not_true, Bool.not_false, ne_eq, Int.not_lt, Int.not_le] at c4_66
        refine Wc.skip ?_
        refine Wq.next hK_62 ?_
        refine Wc.seq fun _ hK_70 => ?_
        refine Wc.region ?_
        refine Wl.call txt83PrsB rfl rfl (Inf_r _) rfl ?_
        rintro _ w_ ⟨rfl, hw_⟩
        have hw_ := hw_.symm; subst hw_
        refine Wl.y (y_assign rfl) rfl ?_
        refine Wl.nil ?_
        refine Wq.next hK_70 ?_
        refine Wc.ret ?_
        refine Wq.then_ret ?_
        refine ret1 rfl rfl ?_
        exact ⟨_, rfl, ⟨_, rfl, by decide, fun f hf hX => by have := exact_high hn hlt hf hX; have := c3_61; omega⟩, hb⟩
      ·
       have c3_61_ := c3_61
       try simp only [decide_eq_true_eq, decide_eq_false_iff_not, beq_iff_eq, beq_eq_false_iff_ne, bne_iff_ne, bne_eq_false_iff_eq, Bool.not_eq_true', Bool.not_eq_false', Bool.not_eq_eq_eq_not, Bool.not_true, Bool.not_false, ne_eq, Int.not_lt, Int.not_le] at c3_61
       have hE : -52 ≤ ((r / 4503599627370496 : Nat) : Int) + k ∧ ((r / 4503599627370496 : Nat) : Int) + k ≤ 2046 := by have := c2_52; have := c3_61; omega
       refine Wc.skip ?_
       refine Wq.next hK_57 ?_
       refine Wc.seq fun _ hK_73 => ?_
       refine Wc.region ?_
       refine Wl.y (y_assign rfl) rfl ?_
       refine Wl.nil ?_
       refine Wq.next hK_73 ?_
       refine Wc.seq fun _ hK_75 => ?_
       refine Wc.seq fun _ hK_76 => ?_
       refine Wc.region ?_
       refine Wl.y (y_move rfl) rfl ?_
       refine Wl.y (y_lssi rfl rfl) rfl ?_
       refine Wl.nil ?_
       refine Wq.next hK_76 ?_
       refine Wc.meet (X := Nat × Nat × Int) (fun (j, m, e) => [(0, .float .f64 r), (1, .int .i64 e), (6, .int .u64 (r : Int)), (7, .float .f64 m)]) (fun (j, m, e) wr => Below w.heap.size w wr ∧ ((m = 4607182418800017408 ∧ j = 0) ∨ (m = 4368491638549381120 ∧ j = 53)) ∧ e = ((r / 4503599627370496 : Nat) : Int) + k + j - 1023 ∧ 1 ≤ ((r / 4503599627370496 : Nat) : Int) + k + j ∧ ((r / 4503599627370496 : Nat) : Int) + k + j ≤ 2046) (fun _ hM_79 => ?_) ?_
       ·
        refine Wc.cond rfl (fun c5_80 => ?_) (fun c5_80 => ?_)
        ·
         have c5_80_ := c5_80
         try simp only [decide_eq_true_eq, decide_eq_false_iff_not, beq_iff_eq, beq_eq_false_iff_ne, bne_iff_ne, bne_eq_false_iff_eq, Bool.not_eq_true', Bool.not_eq_false', Bool.not_eq_eq_eq_not, Bool.not_true, Bool.not_false, ne_eq, Int.not_lt, Int.not_le] at c5_80
         obtain ⟨j_, m_, e_, hj_, hm_, he_⟩ : ∃ (j m : Nat) (e : Int), ((m = 4607182418800017408 ∧ j = 0) ∨ (m = 4368491638549381120 ∧ j = 53)) ∧ m = 4368491638549381120 ∧ e = ((r / 4503599627370496 : Nat) : Int) + k + j - 1023 ∧ j = 53 := ⟨53, _, _, .inr ⟨rfl, rfl⟩, rfl, rfl, rfl⟩
         refine Wc.seq fun _ hK_81 => ?_
         refine Wc.region ?_
         refine Wl.y (y_move rfl) rfl ?_
         refine Wl.y (y_addI rfl rfl (by first | omega | (simp; done) | (simp; omega)) (by first | omega | (simp; done) | (simp; omega))) rfl ?_
         refine Wl.y (y_assign rfl) rfl ?_
         refine Wl.nil ?_
         refine Wq.next hK_81 ?_
         refine Wc.region ?_
         refine Wl.y (y_assign rfl) rfl ?_
         refine Wl.nil ?_
         refine Wq.meet hM_79 (⟨j_, m_, e_⟩) (Sub.cons' rfl (by first | rfl | exact int_eq (by omega) | exact congrArg (Value.float .f64) hm_.symm) (Sub.cons' rfl (by first | rfl | exact int_eq (by omega) | exact congrArg (Value.float .f64) hm_.symm) (Sub.cons' rfl (by first | rfl | exact int_eq (by omega) | exact congrArg (Value.float .f64) hm_.symm) (Sub.cons' rfl (by first | rfl | exact int_eq (by omega) | exact congrArg (Value.float .f64) hm_.symm) (Sub.nil))))) ?_
         exact ⟨hb, hj_, by omega, by have := c5_80; omega, by have := c5_80; omega⟩
        ·
         have c5_80_ := c5_80
         try simp only [decide_eq_true_eq, decide_eq_false_iff_not, beq_iff_eq, beq_eq_false_iff_ne, bne_iff_ne, bne_eq_false_iff_eq, Bool.not_eq_true', Bool.not_eq_false', Bool.not_eq_eq_eq_not, Bool.not_true, Bool.not_false, ne_eq, Int.not_lt, Int.not_le] at c5_80
         obtain ⟨j_, m_, e_, hj_, hm_, he_⟩ : ∃ (j m : Nat) (e : Int), ((m = 4607182418800017408 ∧ j = 0) ∨ (m = 4368491638549381120 ∧ j = 53)) ∧ m = 4607182418800017408 ∧ e = ((r / 4503599627370496 : Nat) : Int) + k + j - 1023 ∧ j = 0 := ⟨0, _, _, .inl ⟨rfl, rfl⟩, rfl, rfl, rfl⟩
         refine Wc.skip ?_
         refine Wq.meet hM_79 (⟨j_, m_, e_⟩) (Sub.cons' rfl (by first | rfl | exact int_eq (by omega) | exact congrArg (Value.float .f64) hm_.symm) (Sub.cons' rfl (by first | rfl | exact int_eq (by omega) | exact congrArg (Value.float .f64) hm_.symm) (Sub.cons' rfl (by first | rfl | exact int_eq (by omega) | exact congrArg (Value.float .f64) hm_.symm) (Sub.cons' rfl (by first | rfl | exact int_eq (by omega) | exact congrArg (Value.float .f64) hm_.symm) (Sub.nil))))) ?_
         exact ⟨hb, hj_, by omega, by have := c5_80; omega, by have := c5_80; omega⟩
       ·
        rintro ⟨j, m, e⟩ wr hI_86
        replace hI_86 : Below w.heap.size w wr ∧ ((m = 4607182418800017408 ∧ j = 0) ∨ (m = 4368491638549381120 ∧ j = 53)) ∧ e = ((r / 4503599627370496 : Nat) : Int) + k + j - 1023 ∧ 1 ≤ ((r / 4503599627370496 : Nat) : Int) + k + j ∧ ((r / 4503599627370496 : Nat) : Int) + k + j ≤ 2046 := hI_86
        obtain ⟨hb, hj, he, hE1, hE2⟩ := hI_86
        show Wq _ _ _ _ [(0, .float .f64 r), (1, .int .i64 e), (6, .int .u64 (r : Int)), (7, .float .f64 m)] _
        try have hzhb_c5 := hb.size
        refine Wq.next hK_75 ?_
        refine Wc.seq fun _ hK_87 => ?_
        obtain ⟨q, hq⟩ : ∃ q : Nat, ((r / 4503599627370496 : Nat) : Int) + k + j = q := ⟨(((r / 4503599627370496 : Nat) : Int) + k + j).toNat, by omega⟩
        obtain ⟨y, hy, hyl, hyV⟩ := ldmul (x := r % 4503599627370496 + q * 4503599627370496) (by omega) (by omega) hj
        refine Wc.region ?_
        refine Wl.y (y_move rfl) rfl ?_
        refine Wl.y (y_eq (y_andNot rfl rfl) (int_eq (clearExp r (by omega)))) rfl ?_
        refine Wl.y (y_assign rfl) rfl ?_
        refine Wl.nil ?_
        refine Wq.next hK_87 ?_
        refine Wc.seq fun _ hK_91 => ?_
        refine Wc.region ?_
        refine Wl.y (y_move rfl) rfl ?_
        refine Wl.y (y_move rfl) rfl ?_
        refine Wl.y (y_addI rfl rfl (by first | omega | (simp; done) | (simp; omega)) (by first | omega | (simp; done) | (simp; omega))) rfl ?_
        refine Wl.y (y_eq (y_convi Tryz.underlying3 Tryz.underlying22 rfl) (int_eq (show _ = (q : Int) by rw [wrap_u64 _ (by omega) (by omega)]; omega))) rfl ?_
        refine Wl.y (y_eq (y_shl rfl rfl (by first | decide | omega) (by first | decide | omega)) (int_eq (shl52 q (by omega)))) rfl ?_
        refine Wl.y (y_eq (y_or rfl rfl) (int_eq (or52 _ q (Nat.mod_lt _ (by decide)) (by omega)))) rfl ?_
        refine Wl.y (y_assign rfl) rfl ?_
        refine Wl.nil ?_
        refine Wq.next hK_91 ?_
        refine Wc.seq fun _ hK_99 => ?_
        refine Wc.region ?_
        refine Wl.y (y_move rfl) rfl ?_
        refine Wl.y (y_move rfl) rfl ?_
        refine Wl.y (y_b2f exn32PrsB rfl rfl) rfl ?_
        rw [Int.toNat_natCast]
        refine Wl.y (y_mulf rfl rfl (hy)) rfl ?_
        refine Wl.y (y_assign rfl) rfl ?_
        refine Wl.nil ?_
        refine Wq.next hK_99 ?_
        refine Wc.ret ?_
        refine ret1 rfl rfl ?_
        exact ⟨_, rfl, ⟨y, rfl, hyl, fun f hf hX => hyV f (fun h => by have := exact_zero hX h; omega) hf (by rw [exact_mid (j := j) hn hlt hX (by omega), hq, Int.toNat_natCast])⟩, hb⟩
theorem Ldexp_r (r : Nat) (hr : r = 0 ∨ (4503599627370496 ≤ r ∧ r < 9218868437227405312)) (k : Int) (hk : -2000 ≤ k ∧ k ≤ 2000) (w : World) : Ret Tryz.prog 87 [.float .f64 r, .int .i64 k] w fun v w' => (∃ x, v = .float .f64 x ∧ x < 18446744073709551616 ∧ ∀ f, f < 9218868437227405312 → Exact r k f → x = f) ∧ Below w.heap.size w w' := by
  have hb := Below.refl w.heap.size w
  refine enter Tryz.func87 rfl rfl rfl ?_
  refine Wc.seq fun _ hK_1 => ?_
  refine Wc.region ?_
  refine Wl.y (y_assign rfl) rfl ?_
  refine Wl.nil ?_
  refine Wq.next hK_1 ?_
  refine Wc.seq fun _ hK_3 => ?_
  refine Wc.condF rfl rfl ?_
  refine Wc.skip ?_
  refine Wq.next hK_3 ?_
  refine Wc.seq fun _ hK_4 => ?_
  refine Wc.region ?_
  refine Wl.y (y_move rfl) rfl ?_
  refine Wl.y (y_move rfl) rfl ?_
  refine Wl.call txt138PrsB rfl rfl (ldexp_r r hr k hk _) rfl ?_
  rintro _ w_k1 ⟨⟨x, rfl, hx, hX⟩, hs_k1⟩
  have hz_k1 := hs_k1.size
  have hb := hb.trans (hs_k1.mono hb.size)
  refine Wl.y (y_assign rfl) rfl ?_
  refine Wl.nil ?_
  refine Wq.next hK_4 ?_
  refine Wc.ret ?_
  refine ret1 rfl rfl ?_
  exact ⟨_, rfl, ⟨x, rfl, hx, hX⟩, hb⟩
end Go.Proofs.YtcljmclolpgdmaaGreatDoor
