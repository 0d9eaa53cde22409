/- The library's contracts in the calculus's words: numerals. -/
import Derived.Test.YtcljmclolpgdmaaGreatDoorNumA
import Derived.Test.YtcljmclolpgdmaaGreatDoorShelf
import Derived.Lib.ItoaMem
import Derived.Laws.Slices
import Derived.Laws.IdiomStrings
namespace Go.Proofs.YtcljmclolpgdmaaGreatDoor
open Go.RowKit Go.Bw Go.Bw.Fl
set_option linter.unusedVariables false
set_option linter.unusedSimpArgs false
theorem sz5LibA : (Tryz.prog.info? 5).map (·.size) = some 1 := by kernel_rfl
theorem txt120LibA : Txt Tryz.prog 120 := ⟨_, Tryz.func120, by kernel_rfl, rfl⟩   -- internal/strconv.small
theorem txt121LibA : Txt Tryz.prog 121 := ⟨_, Tryz.func121, by kernel_rfl, rfl⟩   -- internal/strconv.numDigits
theorem txt122LibA : Txt Tryz.prog 122 := ⟨_, Tryz.func122, by kernel_rfl, rfl⟩   -- internal/strconv.formatBase10
theorem txt128LibA : Txt Tryz.prog 128 := ⟨_, Tryz.func128, by kernel_rfl, rfl⟩   -- internal/strconv.FormatUint
theorem var_below {P : Program} {w w' : World} {name : String} {cs : Array Value} (h : World.var? P w name = some cs) (hb : Below w.heap.size w w') : World.var? P w' name = some cs := by
  unfold World.var? at h ⊢
  cases hg : P.globalNamed name with
  | none => rw [hg] at h; cases h
  | some g =>
    rw [hg] at h
    have hlt : g < w.heap.size := by
      rcases Nat.lt_or_ge g w.heap.size with h1 | h1
      · exact h1
      · simp [Array.getElem?_eq_none h1] at h
    simp only [Option.bind_some] at h ⊢
    rw [hb.block g hlt]; exact h
/-- what the library's variables hold -/
structure Lb (w : World) : Prop where
  tab : Lib.TabIs Tryz.prog w "internal/strconv.uint64pow10" .u64 Lib.pow10Tab
  syn : ∃ tp p, World.var? Tryz.prog w "strconv.ErrSyntax" = some #[.iface tp p]
  rng : ∃ tp p, World.var? Tryz.prog w "strconv.ErrRange" = some #[.iface tp p]
theorem Lb.below {w w' : World} (h : Lb w) (hb : Below w.heap.size w w') : Lb w' :=
  ⟨var_below h.tab hb, h.syn.elim fun tp h1 => h1.elim fun p h2 => ⟨tp, p, var_below h2 hb⟩, h.rng.elim fun tp h1 => h1.elim fun p h2 => ⟨tp, p, var_below h2 hb⟩⟩
theorem below_drewN (w : World) (k : Nat) : Below w.heap.size w (w.drewN k) := ⟨rfl, rfl, rfl, Nat.le_refl _, fun _ _ => rfl⟩
theorem below_grow (w : World) (k : Nat) (os : Array Obj) : Below w.heap.size w (Sort.grow (w.drewN k) os) :=
  ⟨rfl, rfl, rfl, by show w.heap.size ≤ (w.heap ++ os).size; simp, fun i hi => by show (w.heap ++ os)[i]? = _; rw [Array.getElem?_append, if_pos hi]⟩
theorem Ret.calls {f : FuncId} {args : List Value} {w : World} {v : Value} {R : World → Prop} (h : Calls Tryz.prog f args.toArray w fun e w' => e = .returned v ∧ R w') (hR : ∀ w', R w' → Below w.heap.size w w') : Ret Tryz.prog f args w fun u w' => u = v ∧ Below w.heap.size w w' :=
  h.mono fun e w' ⟨he, hw⟩ => ⟨v, he, rfl, hR w' hw⟩
theorem Ret.pure {f : FuncId} {args : List Value} {w : World} {v : Value} (h : Calls Tryz.prog f args.toArray w fun e w' => e = .returned v ∧ w' = w) : Ret Tryz.prog f args w fun u w' => u = v ∧ w' = w :=
  h.mono fun e w' ⟨he, hw⟩ => ⟨v, he, rfl, hw⟩
theorem Itoa_r (n : Int) (h0 : -9223372036854775808 ≤ n) (h1 : n ≤ 9223372036854775807) (w : World) (hL : Lb w) : Ret Tryz.prog 73 [.int .i64 n] w fun v w' => v = str (Lib.itoa n) ∧ Below w.heap.size w w' :=
  Ret.calls (Tryz.strconv_Itoa n h0 h1 w hL.tab) fun w' ⟨k, os, e⟩ => e ▸ below_grow w k os
theorem FormatInt_r (n : Int) (h0 : -9223372036854775808 ≤ n) (h1 : n ≤ 9223372036854775807) (w : World) (hL : Lb w) : Ret Tryz.prog 34 [.int .i64 n, .int .i64 10] w fun v w' => v = str (Lib.itoa n) ∧ Below w.heap.size w w' :=
  Ret.calls (Tryz.strconv_FormatInt_10 n h0 h1 w hL.tab) fun w' ⟨k, os, e⟩ => e ▸ below_grow w k os
theorem HasPrefix_r (s p : List UInt8) (w : World) : Ret Tryz.prog 41 [str s, str p] w fun v w' => v = .bool (Lib.hasPrefix s p) ∧ w' = w := Ret.pure (Tryz.strings_HasPrefix ⟨s.toArray⟩ ⟨p.toArray⟩ w)
theorem TrimPrefix_r (s p : List UInt8) (w : World) : Ret Tryz.prog 46 [str s, str p] w fun v w' => v = str (Lib.trimPrefix s p) ∧ w' = w := Ret.pure (Tryz.strings_TrimPrefix ⟨s.toArray⟩ ⟨p.toArray⟩ w)
theorem CutPrefix_r (s p : List UInt8) (w : World) : Ret Tryz.prog 82 [str s, str p] w fun v w' => v = .tuple #[str (Lib.trimPrefix s p), .bool (Lib.hasPrefix s p)] ∧ w' = w := Ret.pure (Tryz.strings_CutPrefix ⟨s.toArray⟩ ⟨p.toArray⟩ w)
theorem IndexByte_r (s : List UInt8) (c : Int) (w : World) : Ret Tryz.prog 55 [str s, .int .u8 c] w fun v w' => v = .int .i64 (Lib.indexByte s c.toNat.toUInt8) ∧ w' = w := Ret.pure (Tryz.strings_IndexByte ⟨s.toArray⟩ c w)
theorem FormatBool_r (b : Bool) (w : World) : Ret Tryz.prog 33 [.bool b] w fun v w' => v = str (if b then [116, 114, 117, 101] else [102, 97, 108, 115, 101]) ∧ w' = w := by
  cases b
  · exact Ret.pure (Tryz.strconv_FormatBool false w)
  · exact Ret.pure (Tryz.strconv_FormatBool true w)
theorem Mul64_r (x y : Nat) (hx : x < 18446744073709551616) (hy : y < 18446744073709551616) (w : World) : Ret Tryz.prog 119 [.int .u64 x, .int .u64 y] w fun v w' => v = .tuple #[.int .u64 (x * y / 18446744073709551616 : Nat), .int .u64 (x * y % 18446744073709551616 : Nat)] ∧ w' = w := Ret.pure (Tryz.bits_Mul64 x y hx hy w)

theorem hz_of {w : World} {g : Nat} {e : TypeId} (h : Blk w g e Lib.zeros24.toList) (nd : Nat) (hn : nd ≤ 24) : Sort.Holds (fun (b : UInt8) => Value.int .u8 (b.toNat : Int)) w g 0 (Array.replicate nd (0 : UInt8)) := fun j hj => by
  have hj' : j < nd := by simpa using hj
  refine ⟨?_, h.frozen _⟩
  rw [h.cell, Nat.zero_add, Array.getElem?_toList, Lib.zeros24_at _ (by omega), getElem!_pos _ j hj]
  simp
/-- formatBase10 on a row of zeros of one's own -/
theorem fmt_r (g cap u nd : Nat) (w : World) (hu : u < 18446744073709551616) (hnd : nd = Lib.nDigits u) (hc : nd ≤ 24) (hH : Sort.Holds (fun (b : UInt8) => Value.int .u8 (b.toNat : Int)) w g 0 (Array.replicate nd (0 : UInt8))) :
    Ret Tryz.prog 122 [.slice (some ⟨g, 0, none⟩) nd cap, .int .u64 u] w fun v w' => v = .tuple #[] ∧ (∀ j (hj : j < (Lib.decDigits u).length), w'.cell? ((⟨g, 0, none⟩ : Addr).add j) = some (.int .u8 ((Lib.decDigits u)[j].toNat : Int))) ∧ w.grownBy w' (some g) := by
  have h := Tryz.internal_strconv_formatBase10 g 0 cap u (Array.replicate nd 0) w hH (by rw [Array.size_replicate, hnd]; exact Lib.lt_pow_nDigits u) hu (by rw [Array.size_replicate]; omega)
  rw [Array.size_replicate] at h
  refine Calls.mono h fun e w' ⟨he, n, v', dk, hw, hF⟩ => ⟨_, he, rfl, fun j hj => ?_, ?_⟩
  · subst hw
    rw [Lib.row_is_numeral (hnd ▸ hF) j hj, add_zero_off, World.cell?_drewN]
    have hd : dk.size = nd := hF.size
    have := Sort.cell?_putRow (fun (b : UInt8) => Value.int .u8 (b.toNat : Int)) w g 0 _ dk hH (by rw [hd, Array.size_replicate]) j (by rw [hd, hnd]; rwa [Lib.decDigits_length] at hj)
    rwa [Nat.zero_add] at this
  · subst hw
    refine ⟨rfl, rfl, rfl, ?_, fun k hk hne => ?_⟩
    · show _ ≤ (Sort.mapBlock w g _).heap.size
      simp [Sort.mapBlock]
    · show (Sort.mapBlock w g _).heap[k]? = _
      have : g ≠ k := fun e => hne (by rw [e])
      simp only [Sort.mapBlock, Array.getElem?_modify, if_neg this]
theorem rd_cells {w : World} {p : Addr} {l : List UInt8} (h : ∀ j (hj : j < l.length), w.cell? (p.add j) = some (.int .u8 (l[j].toNat : Int))) {n : Nat} (hn : n = l.length) : Rd w 1 (some p) n (u8s l) :=
  ⟨by rw [u8s_length, Nat.mul_one, hn], fun _ => ⟨_, rfl, fun j u hu => by
    obtain ⟨hj, e⟩ := List.getElem?_eq_some_iff.1 hu
    rw [u8s_length] at hj
    rw [h j hj, ← e]
    simp [u8s]⟩⟩
theorem zeros24_cells : (Value.agg Lib.zeros24).cells.toList = Lib.zeros24.toList := rfl
theorem iFormatUint_r (u : Nat) (hu : u < 18446744073709551616) (w : World) (hL : Lb w) : Ret Tryz.prog 128 [.int .u64 u, .int .i64 10] w fun v w' => v = str (Lib.decDigits u) ∧ Below w.heap.size w w' := by
  have h20 : 1 ≤ u → Lib.nDigits u ≤ 20 := fun h1 => by have := Lib.numDigits_eq u h1 hu; split at this <;> omega
  have hb := Below.refl w.heap.size w
  have hL_hb := hL
  refine enter Tryz.func128 rfl rfl rfl ?_
  refine Wc.seq fun _ hK_1 => ?_
  refine Wc.region ?_
  refine Wl.y (y_assign rfl) rfl ?_
  refine Wl.nil ?_
  refine Wq.next hK_1 ?_
  refine Wc.seq fun _ hK_3 => ?_
  refine Wc.seq fun _ hK_4 => ?_
  refine Wc.region ?_
  refine Wl.y (y_move rfl) rfl ?_
  refine Wl.y (y_eqli rfl rfl) rfl ?_
  refine Wl.nil ?_
  refine Wq.next hK_4 ?_
  refine Wc.cond rfl (fun c0_7 => ?_) (fun c0_7 => ?_)
  ·
   have c0_7_ := c0_7
   try simp only [decide_eq_true_eq, decide_eq_false_iff_not, beq_iff_eq, beq_eq_false_iff_ne, bne_iff_ne, bne_eq_false_iff_eq, Bool.not_eq_true', Bool.not_eq_false', Bool.not_eq_eq_eq_not, Bool.not_true, Bool.not_false, ne_eq, Int.not_lt, Int.not_le] at c0_7
   refine Wc.seq fun _ hK_8 => ?_
   refine Wc.seq fun _ hK_9 => ?_
   refine Wc.region ?_
   refine Wl.y (y_move rfl) rfl ?_
   refine Wl.y (y_lssi rfl rfl) rfl ?_
   refine Wl.nil ?_
   refine Wq.next hK_9 ?_
   refine Wc.cond rfl (fun c1_12 => ?_) (fun c1_12 => ?_)
   ·
    have c1_12_ := c1_12
    try simp only [decide_eq_true_eq, decide_eq_false_iff_not, beq_iff_eq, beq_eq_false_iff_ne, bne_iff_ne, bne_eq_false_iff_eq, Bool.not_eq_true', Bool.not_eq_false', Bool.not_eq_eq_eq_not, Bool.not_true, Bool.not_false, ne_eq, Int.not_lt, Int.not_le] at c1_12
    refine Wc.seq fun _ hK_13 => ?_
    refine Wc.region ?_
    refine Wl.y (y_move rfl) rfl ?_
    refine Wl.y (y_eq (y_convi Tryz.underlying22 Tryz.underlying3 rfl) (int_eq (conv_u64_i64 u (by have := c1_12; omega)))) rfl ?_
    refine Wl.call txt120LibA rfl rfl (Ret.pure (Tryz.internal_strconv_small u (by have := c1_12; omega) _)) rfl ?_
    rintro _ w_ ⟨rfl, hw_⟩
    have hw_ := hw_.symm; subst hw_
    refine Wl.y (y_assign rfl) rfl ?_
    refine Wl.nil ?_
    refine Wq.next hK_13 ?_
    refine Wc.ret ?_
    refine Wq.then_ret (Wq.then_ret ?_)
    refine ret1 rfl rfl ?_
    exact ⟨_, rfl, rfl, hb⟩
   ·
    have c1_12_ := c1_12
    try simp only [decide_eq_true_eq, decide_eq_false_iff_not, beq_iff_eq, beq_eq_false_iff_ne, bne_iff_ne, bne_eq_false_iff_eq, Bool.not_eq_true', Bool.not_eq_false', Bool.not_eq_eq_eq_not, Bool.not_true, Bool.not_false, ne_eq, Int.not_lt, Int.not_le] at c1_12
    have hu1 : 1 ≤ u := by omega
    have hnd := h20 hu1
    refine Wc.skip ?_
    refine Wq.next hK_8 ?_
    refine Wc.seq fun _ hK_18 => ?_
    refine Wc.region ?_
    refine Wl.allocN (z := (.agg #[(.int .u8 0), (.int .u8 0), (.int .u8 0), (.int .u8 0), (.int .u8 0), (.int .u8 0), (.int .u8 0), (.int .u8 0), (.int .u8 0), (.int .u8 0), (.int .u8 0), (.int .u8 0), (.int .u8 0), (.int .u8 0), (.int .u8 0), (.int .u8 0), (.int .u8 0), (.int .u8 0), (.int .u8 0), (.int .u8 0), (.int .u8 0), (.int .u8 0), (.int .u8 0), (.int .u8 0)])) (by kernel_rfl) rfl ?_
    rintro g_o8 w_o8 hg_o8 hn_o8 hs_o8
    have hz_o8 := hs_o8.size
    have hb := hb.trans (hs_o8.mono hb.size)
    have hL := hL_hb.below hb
    have hB_o8 := hn_o8
    have hl_o8 := hB_o8.lt
    refine Wl.nil ?_
    refine Wq.next hK_18 ?_
    refine Wc.seq fun _ hK_20 => ?_
    refine Wc.region ?_
    refine Wl.y (y_move rfl) rfl ?_
    refine Wl.call txt121LibA rfl rfl (Ret.pure (Tryz.internal_strconv_numDigits u hu1 hu _ hL.tab)) rfl ?_
    rintro _ w_ ⟨rfl, hw_⟩
    have hw_ := hw_.symm; subst hw_
    refine Wl.y (y_assign rfl) rfl ?_
    refine Wl.nil ?_
    refine Wq.next hK_20 ?_
    refine Wc.seq fun _ hK_24 => ?_
    refine Wc.region ?_
    refine Wl.y (y_move rfl) rfl ?_
    refine Wl.y (y_sliceAH Tryz.underlying136 sz5LibA rfl rfl (by omega) (by omega)) rfl ?_
    refine Wl.y (y_move rfl) rfl ?_
    refine Wl.call txt122LibA rfl rfl (fmt_r g_o8 24 u (Lib.nDigits u) _ hu rfl (by omega) (hz_of hB_o8 (Lib.nDigits u) (by omega))) rfl ?_
    rintro _ w3 ⟨rfl, hfm, hg3⟩
    refine Wl.nil ?_
    refine Wq.next hK_24 ?_
    refine Wc.seq fun _ hK_29 => ?_
    refine Wc.region ?_
    refine Wl.y (y_move rfl) rfl ?_
    refine Wl.y (y_sliceAH Tryz.underlying136 sz5LibA rfl rfl (by omega) (by omega)) rfl ?_
    refine Wl.l (l_str Tryz.underlying106 Tryz.underlying5 Tryz.underlying9 rfl (by exact rd_cells hfm (by rw [Lib.decDigits_length]; simp))) rfl ?_
    refine Wl.y (y_assign rfl) rfl ?_
    refine Wl.nil ?_
    refine Wq.next hK_29 ?_
    refine Wc.ret ?_
    refine Wq.then_ret ?_
    refine ret1 rfl rfl ?_
    exact ⟨_, rfl, rfl, below_blk hb hg3 hb.size (by omega)⟩
  ·
   have c0_7_ := c0_7
   try simp only [decide_eq_true_eq, decide_eq_false_iff_not, beq_iff_eq, beq_eq_false_iff_ne, bne_iff_ne, bne_eq_false_iff_eq, Bool.not_eq_true', Bool.not_eq_false', Bool.not_eq_eq_eq_not, Bool.not_true, Bool.not_false, ne_eq, Int.not_lt, Int.not_le] at c0_7
   cases c0_7_
theorem FormatUint_r (u : Nat) (hu : u < 18446744073709551616) (w : World) (hL : Lb w) : Ret Tryz.prog 72 [.int .u64 u, .int .i64 10] w fun v w' => v = str (Lib.decDigits u) ∧ Below w.heap.size w w' := by
  have hb := Below.refl w.heap.size w
  refine enter Tryz.func72 rfl rfl rfl ?_
  refine Wc.seq fun _ hK_1 => ?_
  refine Wc.region ?_
  refine Wl.y (y_assign rfl) rfl ?_
  refine Wl.nil ?_
  refine Wq.next hK_1 ?_
  refine Wc.seq fun _ hK_3 => ?_
  refine Wc.region ?_
  refine Wl.y (y_move rfl) rfl ?_
  refine Wl.y (y_move rfl) rfl ?_
  refine Wl.call txt128LibA rfl rfl (iFormatUint_r u hu _ hL) rfl ?_
  rintro _ w_k0 ⟨rfl, hs_k0⟩
  have hz_k0 := hs_k0.size
  have hb := hb.trans (hs_k0.mono hb.size)
  refine Wl.y (y_assign rfl) rfl ?_
  refine Wl.nil ?_
  refine Wq.next hK_3 ?_
  refine Wc.ret ?_
  refine ret1 rfl rfl ?_
  exact ⟨_, rfl, rfl, hb⟩
theorem decDigits_le (u : Nat) (hu : u < 18446744073709551616) : (Lib.decDigits u).length ≤ 20 := by
  rw [Lib.decDigits_length]
  rcases Nat.eq_zero_or_pos u with h | h
  · subst h; rw [Lib.nDigits_small (by decide)]; decide
  · have := Lib.numDigits_eq u h hu; split at this <;> omega
theorem itoa_le (n : Int) (h0 : -9223372036854775808 ≤ n) (h1 : n ≤ 9223372036854775807) : (Lib.itoa n).length ≤ 21 := by
  unfold Lib.itoa; split
  · have := decDigits_le n.natAbs (by omega); simp; omega
  · have := decDigits_le n.toNat (by omega); omega
end Go.Proofs.YtcljmclolpgdmaaGreatDoor
