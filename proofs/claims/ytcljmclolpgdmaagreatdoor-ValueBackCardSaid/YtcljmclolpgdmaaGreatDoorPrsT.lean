/- Plain: the float whose text this is: one at most. -/
import Derived.Test.YtcljmclolpgdmaaGreatDoorPrsM
import Derived.Test.YtcljmclolpgdmaaGreatDoorReadM
namespace Go.Proofs.YtcljmclolpgdmaaGreatDoor
open Go.RowKit Go.Bw Go.Bw.Fl
set_option linter.unusedVariables false
set_option linter.unusedSimpArgs false
theorem xor_sign {r : Nat} (h : r < 9223372036854775808) : r ^^^ 9223372036854775808 = 9223372036854775808 + r := by
  have e : (9223372036854775808 : Nat) = 2 ^ 63 := by decide
  rw [e] at h ⊢
  apply Nat.eq_of_testBit_eq; intro i
  rw [Nat.testBit_xor, Nat.testBit_two_pow]
  rcases Nat.lt_trichotomy i 63 with hi | hi | hi
  · rw [Nat.testBit_two_pow_add_gt hi, decide_eq_false (by omega), Bool.xor_false]
  · subst hi; rw [Nat.testBit_two_pow_add_eq, Nat.testBit_lt_two_pow h]; rfl
  · have h1 : 2 ^ 64 ≤ 2 ^ i := Nat.pow_le_pow_right (by decide) hi
    rw [Nat.testBit_lt_two_pow (Nat.lt_of_lt_of_le h (Nat.pow_le_pow_right (by decide) (by omega))), Nat.testBit_lt_two_pow (x := 2 ^ 63 + r) (by omega), decide_eq_false (by omega)]
    rfl
theorem xor_lt {r : Nat} (h : r < 18446744073709551616) : r ^^^ 9223372036854775808 < 18446744073709551616 := Nat.xor_lt_two_pow (n := 64) h (by decide)
/-- a canonical float -/
structure Cn (f : Nat) : Prop where
  lt : f < 18446744073709551616
  one : canon f = f
theorem Cn.of {f : Nat} (h : f < 18446744073709551616) : Cn (canon f) := by
  unfold canon; split
  · exact ⟨by decide, by decide⟩
  · rename_i hn; exact ⟨h, if_neg hn⟩
theorem text_canon (f : Nat) : textF (canon f) = textF f := by
  unfold canon; split
  · rename_i hn; unfold textF; rw [if_pos hn]; rfl
  · rfl
def app (neg : Bool) (f : Nat) : Nat := if neg = true then f ^^^ 9223372036854775808 else f
theorem app_lt {neg : Bool} {f : Nat} (h : f < 18446744073709551616) : app neg f < 18446744073709551616 := by
  unfold app; split
  · exact xor_lt h
  · exact h
theorem app_word {f : Nat} (h : f < 18446744073709551616) : app (isNeg f) (rung f) = f := by
  have hr : rung f < 9223372036854775808 := Nat.mod_lt _ (by decide)
  unfold app
  have e := word_of h
  rw [word_eq] at e
  split
  · rename_i hn; rw [xor_sign hr]; rw [if_pos hn] at e; exact e
  · rename_i hn; rw [if_neg hn] at e; exact e
def sgnB (n : Bool) : List UInt8 := if n = true then [45] else []
theorem sgn_eq (f : Nat) : sgn f = sgnB (isNeg f) := rfl
theorem trim_sgn {n : Bool} {x : List UInt8} (hx : x.head? ≠ some 45) : Lib.hasPrefix (sgnB n ++ x) [45] = n ∧ Lib.trimPrefix (sgnB n ++ x) [45] = x := by
  cases n
  · have h0 : Lib.hasPrefix (sgnB false ++ x) [45] = false := by
      cases x with
      | nil => rfl
      | cons c r =>
        have hc : c ≠ 45 := fun e => hx (by rw [e]; rfl)
        show List.isPrefixOf [45] (c :: r) = false
        simp [List.isPrefixOf]; exact fun e => hc e.symm
    refine ⟨h0, ?_⟩
    unfold Lib.trimPrefix; rw [if_neg (by rw [h0]; simp)]; rfl
  · have h0 : Lib.hasPrefix (sgnB true ++ x) [45] = true := by
      show List.isPrefixOf [45] (45 :: x) = true
      simp [List.isPrefixOf]
    refine ⟨h0, ?_⟩
    unfold Lib.trimPrefix; rw [if_pos h0]; rfl
def numT (M : Nat) (e : Int) : List UInt8 := Lib.decDigits M ++ 112 :: Lib.itoa e
theorem numT_head (M : Nat) (e : Int) : ∃ c r, numT M e = c :: r ∧ 48 ≤ c.toNat ∧ c.toNat ≤ 57 := by
  obtain ⟨h1, _, h3⟩ := decDigits_spec M
  unfold numT
  cases hd : Lib.decDigits M with
  | nil => exact absurd hd h3
  | cons c r => exact ⟨c, _, rfl, h1 c (by rw [hd]; exact List.mem_cons_self ..)⟩
theorem head_ne {x : List UInt8} {k : UInt8} (h : ∃ c r, x = c :: r ∧ 48 ≤ c.toNat ∧ c.toNat ≤ 57) (hk : k.toNat < 48 ∨ 57 < k.toNat) : x.head? ≠ some k := by
  obtain ⟨c, r, rfl, h1, h2⟩ := h
  intro e; cases e; omega
theorem text_nan2 {b : Nat} (h : isNan b = true) : textF b = [110, 97, 110] := by unfold textF; rw [if_pos h]
/-- what a text of a float looks like -/
inductive Hit (s : List UInt8) (f : Nat) : Prop
  | nan (h : f = 9221120237041090561) (hs : s = [110, 97, 110]) (hw : Lib.trimPrefix s [45] = [110, 97, 110])
  | inf (h : rung f = 9218868437227405312) (hn : Lib.hasPrefix s [45] = isNeg f) (hw : Lib.trimPrefix s [45] = [105, 110, 102])
  | num (M : Nat) (e : Int) (h : rung f < 9218868437227405312) (hn : Lib.hasPrefix s [45] = isNeg f) (hw : Lib.trimPrefix s [45] = numT M e) (hM : M < 9007199254740992) (h0 : -1074 ≤ e) (h1 : e ≤ 1024) (hv : V (rung f) = M * 2 ^ (e + 1074).toNat)
theorem Hit.of {s : List UInt8} {f : Nat} (hf : Cn f) (hs : textF f = s) : Hit s f := by
  subst hs
  by_cases h1 : isNan f = true
  · have e : f = 9221120237041090561 := by have := hf.one; unfold canon at this; rw [if_pos h1] at this; exact this.symm
    exact .nan e (text_nan2 h1) (by rw [text_nan2 h1]; rfl)
  · have h1' : isNan f = false := by simpa using h1
    by_cases h2 : rung f = 9218868437227405312
    · have ht : textF f = sgnB (isNeg f) ++ [105, 110, 102] := text_inf h1' h2
      obtain ⟨a, b⟩ := trim_sgn (n := isNeg f) (x := [105, 110, 102]) (by decide)
      rw [← ht] at a b
      exact .inf h2 a b
    · have h6 : rung f ≤ 9218868437227405312 := by simpa [isNan, rung] using h1'
      have hr : rung f < 9218868437227405312 := by omega
      by_cases h3 : rung f = 0
      · have ht : textF f = sgnB (isNeg f) ++ numT 0 0 := by
          rw [text_zero h1' h2 h3]
          have : numT 0 0 = [48, 112, 48] := by
            have e0 : Lib.decDigits 0 = [48] := Lib.decDigits_one (by decide)
            have e1 : Lib.itoa 0 = Lib.decDigits 0 := rfl
            unfold numT; rw [e1, e0]; rfl
          rw [this]; rfl
        obtain ⟨a, b⟩ := trim_sgn (n := isNeg f) (x := numT 0 0) (head_ne (numT_head 0 0) (.inl (by decide)))
        rw [← ht] at a b
        exact .num 0 0 hr a b (by decide) (by decide) (by decide) (by rw [h3, Nat.zero_mul]; decide)
      · obtain ⟨o1, o2⟩ := od_spec _ (mant0_ne h3)
        have ht : textF f = sgnB (isNeg f) ++ numT (od (mant0 (rung f))) (exp0 (rung f) + v2 (mant0 (rung f))) := by
          rw [text_num h1' h2 h3]; unfold numT; rw [sgn_eq]; simp
        obtain ⟨a, b⟩ := trim_sgn (n := isNeg f) (x := numT (od (mant0 (rung f))) (exp0 (rung f) + v2 (mant0 (rung f)))) (head_ne (numT_head _ _) (.inl (by decide)))
        rw [← ht] at a b
        have e1 := exp0_bd hr
        have e2 := v2_le hr h3
        refine .num _ _ hr a b ?_ (by omega) (by omega) ?_
        · have := mant0_lt hr
          exact Nat.lt_of_le_of_lt (Nat.div_le_self _ _) this
        · rw [V_mant0]
          conv => lhs; rw [o1]
          rw [Nat.mul_assoc, ← Nat.pow_add]
          congr 2; omega
theorem numT_inj {M M' : Nat} {e e' : Int} (h : numT M e = numT M' e') (h0 : -9223372036854775808 ≤ e) (h1 : e ≤ 9223372036854775807) (h0' : -9223372036854775808 ≤ e') (h1' : e' ≤ 9223372036854775807) : M = M' ∧ e = e' := by
  have i1 := index_mid (a := Lib.decDigits M) (b := Lib.itoa e) (noP (u := M))
  have i2 := index_mid (a := Lib.decDigits M') (b := Lib.itoa e') (noP (u := M'))
  unfold numT at h
  rw [h, i2] at i1
  have hl : (Lib.decDigits M).length = (Lib.decDigits M').length := by omega
  obtain ⟨a, b⟩ := List.append_inj h hl
  have hM : M = M' := by rw [← (decDigits_spec M).2.1, a, (decDigits_spec M').2.1]
  have he : Lib.itoa e = Lib.itoa e' := by injection b
  have a1 := atoi_itoa h0 h1
  rw [he, atoi_itoa h0' h1'] at a1
  injection a1 with a1
  exact ⟨hM, a1.symm⟩
theorem text_inj {a b : Nat} (ha : Cn a) (hb : Cn b) (h : textF a = textF b) : a = b := by
  have w {f g : Nat} (hf : Cn f) (hg : Cn g) (h1 : isNeg f = isNeg g) (h2 : rung f = rung g) : f = g := by rw [← app_word hf.lt, ← app_word hg.lt, h1, h2]
  cases Hit.of ha h with
  | nan h1 hs hw =>
    cases Hit.of hb rfl with
    | nan h2 _ _ => rw [h1, h2]
    | inf _ _ hw' => rw [hw] at hw'; exact absurd hw' (by decide)
    | num M e _ _ hw' => exact absurd (by rw [← hw', hw]; rfl) (head_ne (k := 110) (numT_head M e) (.inr (by decide)))
  | inf h1 hn hw =>
    cases Hit.of hb rfl with
    | nan _ _ hw' => rw [hw] at hw'; exact absurd hw' (by decide)
    | inf h2 hn' _ => exact w ha hb (hn.symm.trans hn') (h1.trans h2.symm)
    | num M e _ _ hw' => exact absurd (by rw [← hw', hw]; rfl) (head_ne (k := 105) (numT_head M e) (.inr (by decide)))
  | num M e h1 hn hw hM he0 he1 hv =>
    cases Hit.of hb rfl with
    | nan _ _ hw' => exact absurd (by rw [← hw, hw']; rfl) (head_ne (k := 110) (numT_head M e) (.inr (by decide)))
    | inf _ _ hw' => exact absurd (by rw [← hw, hw']; rfl) (head_ne (k := 105) (numT_head M e) (.inr (by decide)))
    | num M' e' h2 hn' hw' hM' he0' he1' hv' =>
      obtain ⟨rfl, rfl⟩ := numT_inj (hw.symm.trans hw') (by omega) (by omega) (by omega) (by omega)
      exact w ha hb (hn.symm.trans hn') (V_inj.1 (hv.trans hv'.symm))
open Classical in
/-- the float whose text this is -/
noncomputable def pf (s : List UInt8) : Option Nat := if h : ∃ f, Cn f ∧ textF f = s then some (Classical.choose h) else none
theorem pf_hit {s : List UInt8} {f : Nat} (hf : Cn f) (h : textF f = s) : pf s = some f := by
  have he : ∃ f, Cn f ∧ textF f = s := ⟨f, hf, h⟩
  unfold pf; rw [dif_pos he]
  obtain ⟨c1, c2⟩ := Classical.choose_spec he
  rw [text_inj c1 hf (c2.trans h.symm)]
theorem pf_none {s : List UInt8} (h : ∀ f, Cn f → textF f ≠ s) : pf s = none := by
  unfold pf; rw [dif_neg (fun ⟨f, a, b⟩ => h f a b)]
theorem pf_some {s : List UInt8} {f : Nat} (h : pf s = some f) : Cn f ∧ textF f = s := by
  by_cases he : ∃ f, Cn f ∧ textF f = s
  · obtain ⟨g, a, b⟩ := he
    rw [pf_hit a b] at h; cases h; exact ⟨a, b⟩
  · unfold pf at h; rw [dif_neg he] at h; cases h
/-- what stands behind the first half of Parse: the float of the word, for whoever has this text -/
def Meets (s : List UInt8) (x : Nat) : Prop := ∀ f, Cn f → textF f = s → textF (app (Lib.hasPrefix s [45]) x) = s
theorem meets_nan {s : List UInt8} (h : Lib.trimPrefix s [45] = [110, 97, 110]) : Meets s 9221120237041090561 := fun f hf ht => by
  have hn : ∀ b, textF (app b 9221120237041090561) = [110, 97, 110] := fun b => by cases b <;> (unfold textF; rw [if_pos (by decide)])
  rw [hn]
  cases Hit.of hf ht with
  | nan _ hs _ => exact hs.symm
  | inf _ _ hw => rw [h] at hw; exact absurd hw (by decide)
  | num M e _ _ hw => exact absurd (by rw [← hw, h]; rfl) (head_ne (k := 110) (numT_head M e) (.inr (by decide)))
theorem meets_inf {s : List UInt8} (h : Lib.trimPrefix s [45] = [105, 110, 102]) : Meets s 9218868437227405312 := fun f hf ht => by
  cases Hit.of hf ht with
  | nan _ _ hw => rw [h] at hw; exact absurd hw (by decide)
  | inf hr hn _ =>
    have e : app (Lib.hasPrefix s [45]) 9218868437227405312 = f := by rw [hn, ← hr, app_word hf.lt]
    rw [e, ht]
  | num M e _ _ hw => exact absurd (by rw [← hw, h]; rfl) (head_ne (k := 105) (numT_head M e) (.inr (by decide)))
theorem exact_num0 {M r p : Nat} {e : Int} {f : Nat} (hp : p = 1074) (h0 : -1074 ≤ e) (hr : V r = M * 2 ^ p) (hv : V f = M * 2 ^ (e + 1074).toNat) : Exact r e f :=
  ⟨(e + 1074).toNat, p, by omega, by rw [hr, hv, Nat.mul_assoc, Nat.mul_assoc, Nat.mul_comm (2 ^ p)]⟩
theorem exact_num {M r : Nat} {e : Int} {f : Nat} (h0 : -1074 ≤ e) (hr : V r = M * 2 ^ 1074) (hv : V f = M * 2 ^ (e + 1074).toNat) : Exact r e f := exact_num0 rfl h0 hr hv
end Go.Proofs.YtcljmclolpgdmaaGreatDoor
