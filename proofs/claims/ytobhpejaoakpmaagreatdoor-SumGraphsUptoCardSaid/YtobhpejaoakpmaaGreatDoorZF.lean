/- Plain: what Read tells, out of what the texts of floats and quoted texts are. · Package value: Text and Read, by the calculus, out of what the texts of floats and quoted texts are. · A text's bytes, as a row of one's own reading. · Plain: numerals and floats' texts read back. · Plain: the float whose text this is: one at most. · strconv.ParseUint at 53 bits, strings.Cut, strconv.Atoi, math.Ldexp, by the calculus. · strconv.ParseUint at 53 bits, strings.Cut at p, strconv.Atoi, math.Ldexp. · num.Parse: the float whose text this is. -/
import Derived.Test.YtobhpejaoakpmaaGreatDoorZE
import Derived.Test.YtobhpejaoakpmaaGreatDoorZD
import Derived.Lib.SlTrimSet
import Derived.Lib.ParseIntBTie
import Derived.Shelf.Strings.SlTrimAscii
import Derived.Lib.ConvBytes
import Derived.Lib.IndexLaws
import Derived.Lib.AtoiAllCases
namespace Go.Proofs.YtobhpejaoakpmaaGreatDoor
open Go.RowKit Go.Bw Go.Bw.Fl
set_option linter.unusedVariables false
set_option linter.unusedSimpArgs false
def digs : List UInt8 := [48, 49, 50, 51, 52, 53, 54, 55, 56, 57]
def nDig (s : List UInt8) : Nat := s.length - (Lib.trimLeftS s digs).length
def lead (s : List UInt8) : Nat := nDig (Lib.trimPrefix s [45]) + (s.length - (Lib.trimPrefix s [45]).length)
def parseI (s : List UInt8) : Option Int := match Lib.parseIntB 64 s with | .ok v => some v | _ => none
def wNull : List UInt8 := [110, 117, 108, 108]
def wFalse : List UInt8 := [102, 97, 108, 115, 101]
def wTrue : List UInt8 := [116, 114, 117, 101]
def words3 : List (List UInt8) := [[110, 97, 110], [105, 110, 102], [45, 105, 110, 102]]
def downF (pf : List UInt8 → Option Nat) (s : List UInt8) (k : Nat) : Nat → Option (Val × Nat)
  | 0 => none
  | j + 1 => match pf (s.take (k + j + 1)) with
    | some f => some (⟨3, 0, f, []⟩, k + j + 1)
    | none => downF pf s k j
def floatK (s : List UInt8) : Nat := if s[lead s + 1]? = some 45 then lead s + 2 else lead s + 1
def floatM (s : List UInt8) : Nat := min (nDig (s.drop (floatK s))) 4
def floatAt (pf : List UInt8 → Option Nat) (s : List UInt8) : Option (Val × Nat) := if s[lead s]? = some 112 then downF pf s (floatK s) (floatM s) else none
def downI (s : List UInt8) : Nat → Option (Val × Nat)
  | 0 => none
  | j + 1 => match parseI (s.take (j + 1)) with
    | some v => if Lib.itoa v = s.take (j + 1) then some (⟨2, v, 0, []⟩, j + 1) else downI s j
    | none => downI s j
def readV (pf : List UInt8 → Option Nat) (uq : List UInt8 → List UInt8 × Nat) (s : List UInt8) : Option (Val × Nat) :=
  if Lib.hasPrefix s [39] = true then (if (uq s).2 = 0 then none else some (⟨4, 0, 0, (uq s).1⟩, (uq s).2))
  else if Lib.hasPrefix s wNull = true then some (nullV, 4)
  else if Lib.hasPrefix s wFalse = true then some (truthV false, 5)
  else if Lib.hasPrefix s wTrue = true then some (truthV true, 4)
  else match words3.find? (fun x => Lib.hasPrefix s x) with
    | some x => some (⟨3, 0, (pf x).getD 0, []⟩, x.length)
    | none => match floatAt pf s with
      | some r => some r
      | none => downI s (min (lead s) 20)
theorem nDig_le (s : List UInt8) : nDig s ≤ s.length := Nat.sub_le _ _
theorem trimP_le (s c : List UInt8) : (Lib.trimPrefix s c).length ≤ s.length := by unfold Lib.trimPrefix; split <;> simp
theorem lead_le (s : List UInt8) : lead s ≤ s.length := by unfold lead; have := nDig_le (Lib.trimPrefix s [45]); have := trimP_le s [45]; omega
theorem downF_hit {pf : List UInt8 → Option Nat} {s : List UInt8} {K j : Nat} (h : (pf (s.take (K + j))).isSome = true) (hj : 0 < j) : downF pf s K j = some (⟨3, 0, (pf (s.take (K + j))).getD 0, []⟩, K + j) := by
  obtain ⟨j', rfl⟩ : ∃ j', j = j' + 1 := ⟨j - 1, by omega⟩
  obtain ⟨f, hf⟩ := Option.isSome_iff_exists.1 h
  rw [hf]
  show (match pf (s.take (K + j' + 1)) with | some f => some ((⟨3, 0, f, []⟩ : Val), K + j' + 1) | none => downF pf s K j') = _
  rw [show pf (s.take (K + j' + 1)) = some f from hf]; rfl
end Go.Proofs.YtobhpejaoakpmaaGreatDoor
namespace Go.Proofs.YtobhpejaoakpmaaGreatDoor
open Go.RowKit Go.Bw Go.Bw.Fl Go.Shelf
set_option linter.unusedVariables false
set_option linter.unusedSimpArgs false
end Go.Proofs.YtobhpejaoakpmaaGreatDoor
namespace Go.Bw
open Go.RowKit
set_option linter.unusedVariables false
set_option linter.unusedSimpArgs false
section
variable {P : Program} {N : Nat} {D : List Deferred} {env env' : Env} {a : Act} {w w' : World} {Q : Exit → Act → World → Prop}
variable {ops : Array Oper} {rest : List Oper} {d : Nat} {op : Op} {ty : TypeId} {pos : String} {af : Array Edge}
theorem below_bytes' (w : World) (e : TypeId) (t : ByteArray) : Below w.heap.size w (Lib.bytesWorld w e t) := by
  refine ((Below.refl _ _).drew.alloc (Nat.le_refl _) (.cells (Lib.bytesCells w e t) e)).trans ?_
  unfold Lib.bytesWorld World.freeze
  split
  · exact Below.refl _ _
  · refine ⟨rfl, rfl, rfl, by simp, fun k hk => ?_⟩
    show ((w.drew.alloc _).heap.modify _ _)[k]? = _
    rw [Array.getElem?_modify, if_neg (by have hk' : k < w.heap.size := hk; show w.heap.size ≠ k; omega)]
theorem rd_bytes (w : World) (e : TypeId) (l : List UInt8) : Rd (Lib.bytesWorld w e ⟨l.toArray⟩) 1 (some ⟨w.heap.size, 0, none⟩) l.length (u8s l) :=
  ⟨by rw [u8s_length, Nat.mul_one], fun _ => ⟨_, rfl, fun j u hu => by
    obtain ⟨hj, e'⟩ := List.getElem?_eq_some_iff.1 hu
    rw [u8s_length] at hj
    have := Lib.bytesWorld_cell w e ⟨l.toArray⟩ j (by rw [size_str]; exact hj)
    rw [add_zero_off, this, ← e']
    simp [u8s, List.getD, List.getElem?_eq_getElem hj]⟩⟩
theorem Wl.bytesN {x : Operand} {s t e : TypeId} {ud : TypeDesc} {l : List UInt8} (hs : P.underlying s = some ud) (ht : P.underlying t = some (.slice e)) (he : P.underlying e = some (.int .u8)) (hx : ev env x = some (str l)) (hd : Nat.blt d N = true)
    (h : ∀ g c w', w.heap.size ≤ g → g < w'.heap.size → Rd w' 1 (some ⟨g, 0, none⟩) l.length (u8s l) → Below w.heap.size w w' → Wl P ops Q rest N D ((d, .slice (some ⟨g, 0, none⟩) l.length c) :: env) w') :
    Wl P ops Q (⟨some d, .convert s t x, ty, pos, af, none⟩ :: rest) N D env w := by
  refine Wl.m (v := .slice (some ⟨w.heap.size, 0, none⟩) l.length (grownCap w l.length 0 e)) (w' := Lib.bytesWorld w e ⟨l.toArray⟩) (fun a ha dst pos af g => ?_) hd (h _ _ _ (Nat.le_refl _) (by rw [Lib.bytesWorld_size]; omega) (rd_bytes w e l) (below_bytes' w e _))
  have h0 := Lib.run_convert_string_bytes w s t e ⟨l.toArray⟩ hs ht he
  rw [size_str] at h0
  have h1 : (convert s t (str l)).run P w = _ := h0
  simp [execOp, ha.eval hx, h1]
theorem y_iface {x : Operand} {t : TypeId} {u : TypeDesc} {v : Value} (hu : P.underlying t = some u) (hn : ∀ ms, u ≠ .interface ms) (hx : ev env x = some v) : Yl P N D env (.makeInterface t x) ty (.iface t v) := fun a ha w dst pos af g => by
  have h1 : (Instr.makeInterface t v).run P w = .ok (.iface t v) w := by
    cases u <;> first | exact absurd rfl (hn _) | simp [Instr.makeInterface, run_underlying hu]
  simp [execOp, ha.eval hx, h1]
end
end Go.Bw
namespace Go.Bw.Fl
open Ieee Go
set_option linter.unusedVariables false
set_option linter.unusedSimpArgs false
/-! ### numerals -/
def dval (n : Nat) : List UInt8 → Nat
  | [] => n
  | c :: r => dval (n * 10 + (c.toNat - 48)) r
def AllDig (l : List UInt8) : Prop := ∀ c, c ∈ l → 48 ≤ c.toNat ∧ c.toNat ≤ 57
theorem dval_append (b : List UInt8) : ∀ (a : List UInt8) (n : Nat), dval n (a ++ b) = dval (dval n a) b
  | [], _ => rfl
  | c :: r, n => dval_append b r _
theorem dval_ge : ∀ (l : List UInt8) (n : Nat), n ≤ dval n l
  | [], n => Nat.le_refl n
  | c :: r, n => Nat.le_trans (by omega) (dval_ge r (n * 10 + (c.toNat - 48)))
theorem dig_toNat {k : Nat} (h : k < 10) : (UInt8.ofNat (48 + k)).toNat = 48 + k := by
  rw [UInt8.toNat_ofNat']; exact Nat.mod_eq_of_lt (by omega)
theorem decDigits_spec (u : Nat) : AllDig (Lib.decDigits u) ∧ dval 0 (Lib.decDigits u) = u ∧ Lib.decDigits u ≠ [] := by
  induction u using Nat.strongRecOn with
  | ind u ih =>
    by_cases h : u < 10
    · rw [Lib.decDigits_one h]
      refine ⟨fun c hc => ?_, ?_, by simp⟩
      · rw [List.mem_singleton.1 hc, dig_toNat h]; omega
      · show 0 * 10 + ((UInt8.ofNat (48 + u)).toNat - 48) = u
        rw [dig_toNat h]; omega
    · obtain ⟨h1, h2, h3⟩ := ih (u / 10) (by omega)
      rw [Lib.decDigits, dif_neg h]
      refine ⟨fun c hc => ?_, ?_, by simp⟩
      · rcases List.mem_append.1 hc with hc | hc
        · exact h1 c hc
        · rw [List.mem_singleton.1 hc, dig_toNat (by omega)]; omega
      · rw [dval_append, h2]
        show u / 10 * 10 + ((UInt8.ofNat (48 + u % 10)).toNat - 48) = u
        rw [dig_toNat (by omega)]; omega
theorem parse10 : ∀ (l : List UInt8) (n : Nat), AllDig l → dval n l < 18446744073709551616 → Lib.parseUint10 n l = .ok (dval n l)
  | [], _, _, _ => rfl
  | c :: r, n, ha, hl => by
    have hc := ha c (List.mem_cons_self ..)
    have hg := dval_ge r (n * 10 + (c.toNat - 48))
    have hl' : dval (n * 10 + (c.toNat - 48)) r < 18446744073709551616 := hl
    rw [Lib.parseUint10, if_pos hc, if_neg (by omega), if_neg (by omega)]
    exact parse10 r _ (fun x hx => ha x (List.mem_cons_of_mem _ hx)) hl'
theorem parseMag_dec {u : Nat} (h : u < 18446744073709551616) : Lib.parseMag (Lib.decDigits u) = .ok u := by
  obtain ⟨h1, h2, h3⟩ := decDigits_spec u
  rw [Lib.parseMag, if_neg h3, parse10 _ _ h1 (by rw [h2]; exact h), h2]
theorem atoi_itoa {e : Int} (h0 : -9223372036854775808 ≤ e) (h1 : e ≤ 9223372036854775807) : Lib.atoiAll (Lib.itoa e) = .ok e := by
  unfold Lib.itoa
  by_cases h : e < 0
  · rw [if_pos h, Lib.atoiAll_minus, parseMag_dec (by omega)]
    show (if 9223372036854775808 < e.natAbs then Lib.NumEnd.range else Lib.NumEnd.ok (-(e.natAbs : Int))) = _
    rw [if_neg (by omega)]; congr 1; omega
  · rw [if_neg h]
    obtain ⟨a, b, c⟩ := decDigits_spec e.toNat
    cases hd : Lib.decDigits e.toNat with
    | nil => exact absurd hd c
    | cons x r =>
      have hx := a x (by rw [hd]; exact List.mem_cons_self ..)
      rw [Lib.atoiAll_plain x r (by omega) (by omega), ← hd, parseMag_dec (by omega)]
      show (if 9223372036854775808 ≤ e.toNat then Lib.NumEnd.range else Lib.NumEnd.ok (e.toNat : Int)) = _
      rw [if_neg (by omega)]; congr 1; omega
theorem index_mid {a b : List UInt8} {c : UInt8} (h : c ∉ a) : Lib.indexByte (a ++ c :: b) c = (a.length : Nat) := by
  induction a with
  | nil => show (if (c == c) = true then (0 : Int) else _) = _; simp
  | cons x r ih =>
    have hx : x ≠ c := fun e => h (by rw [e]; exact List.mem_cons_self ..)
    have ih' := ih (fun m => h (List.mem_cons_of_mem _ m))
    show (if (x == c) = true then (0 : Int) else if (Lib.indexByte (r ++ c :: b) c == -1) = true then -1 else Lib.indexByte (r ++ c :: b) c + 1) = _
    rw [if_neg (by simpa using hx), ih', if_neg (by simp)]
    simp
theorem noP {u : Nat} : (112 : UInt8) ∉ Lib.decDigits u := fun h => by
  have := (decDigits_spec u).1 _ h
  have e : (112 : UInt8).toNat = 112 := rfl
  omega

/-! ### powers -/
theorem V_mant0 {r : Nat} : V r = mant0 r * 2 ^ (exp0 r + 1074).toNat := by
  unfold V mant0 exp0
  split
  · simp
  · congr 2; omega

/-! ### Ldexp -/
end Go.Bw.Fl
namespace Go.Proofs.YtobhpejaoakpmaaGreatDoor
open Go.RowKit Go.Bw Go.Bw.Fl
set_option linter.unusedVariables false
set_option linter.unusedSimpArgs false
theorem xor_sign {r : Nat} (h : r < 9223372036854775808) : r ^^^ 9223372036854775808 = 9223372036854775808 + r := by
  have e : (9223372036854775808 : Nat) = 2 ^ 63 := by decide
  rw [e] at h ⊢
  apply Nat.eq_of_testBit_eq; intro i
  rw [Nat.testBit_xor, Nat.testBit_two_pow]
  rcases Nat.lt_trichotomy i 63 with hi | hi | hi
  · rw [Nat.testBit_two_pow_add_gt hi, decide_eq_false (by omega), Bool.xor_false]
  · subst hi; rw [Nat.testBit_two_pow_add_eq, Nat.testBit_lt_two_pow h]; rfl
  · have h1 : 2 ^ 64 ≤ 2 ^ i := Nat.pow_le_pow_right (by decide) hi
    rw [Nat.testBit_lt_two_pow (Nat.lt_of_lt_of_le h (Nat.pow_le_pow_right (by decide) (by omega))), Nat.testBit_lt_two_pow (x := 2 ^ 63 + r) (by omega), decide_eq_false (by omega)]
    rfl
/-- a canonical float -/
structure Cn (f : Nat) : Prop where
  lt : f < 18446744073709551616
  one : canon f = f
theorem Cn.of {f : Nat} (h : f < 18446744073709551616) : Cn (canon f) := by
  unfold canon; split
  · exact ⟨by decide, by decide⟩
  · rename_i hn; exact ⟨h, if_neg hn⟩
def app (neg : Bool) (f : Nat) : Nat := if neg = true then f ^^^ 9223372036854775808 else f
theorem app_word {f : Nat} (h : f < 18446744073709551616) : app (isNeg f) (rung f) = f := by
  have hr : rung f < 9223372036854775808 := Nat.mod_lt _ (by decide)
  unfold app
  have e := word_of h
  rw [word_eq] at e
  split
  · rename_i hn; rw [xor_sign hr]; rw [if_pos hn] at e; exact e
  · rename_i hn; rw [if_neg hn] at e; exact e
def sgnB (n : Bool) : List UInt8 := if n = true then [45] else []
theorem sgn_eq (f : Nat) : sgn f = sgnB (isNeg f) := rfl
theorem trim_sgn {n : Bool} {x : List UInt8} (hx : x.head? ≠ some 45) : Lib.hasPrefix (sgnB n ++ x) [45] = n ∧ Lib.trimPrefix (sgnB n ++ x) [45] = x := by
  cases n
  · have h0 : Lib.hasPrefix (sgnB false ++ x) [45] = false := by
      cases x with
      | nil => rfl
      | cons c r =>
        have hc : c ≠ 45 := fun e => hx (by rw [e]; rfl)
        show List.isPrefixOf [45] (c :: r) = false
        simp [List.isPrefixOf]; exact fun e => hc e.symm
    refine ⟨h0, ?_⟩
    unfold Lib.trimPrefix; rw [if_neg (by rw [h0]; simp)]; rfl
  · have h0 : Lib.hasPrefix (sgnB true ++ x) [45] = true := by
      show List.isPrefixOf [45] (45 :: x) = true
      simp [List.isPrefixOf]
    refine ⟨h0, ?_⟩
    unfold Lib.trimPrefix; rw [if_pos h0]; rfl
def numT (M : Nat) (e : Int) : List UInt8 := Lib.decDigits M ++ 112 :: Lib.itoa e
theorem numT_head (M : Nat) (e : Int) : ∃ c r, numT M e = c :: r ∧ 48 ≤ c.toNat ∧ c.toNat ≤ 57 := by
  obtain ⟨h1, _, h3⟩ := decDigits_spec M
  unfold numT
  cases hd : Lib.decDigits M with
  | nil => exact absurd hd h3
  | cons c r => exact ⟨c, _, rfl, h1 c (by rw [hd]; exact List.mem_cons_self ..)⟩
theorem head_ne {x : List UInt8} {k : UInt8} (h : ∃ c r, x = c :: r ∧ 48 ≤ c.toNat ∧ c.toNat ≤ 57) (hk : k.toNat < 48 ∨ 57 < k.toNat) : x.head? ≠ some k := by
  obtain ⟨c, r, rfl, h1, h2⟩ := h
  intro e; cases e; omega
theorem text_nan2 {b : Nat} (h : isNan b = true) : textF b = [110, 97, 110] := by unfold textF; rw [if_pos h]
/-- what a text of a float looks like -/
inductive Hit (s : List UInt8) (f : Nat) : Prop
  | nan (h : f = 9221120237041090561) (hs : s = [110, 97, 110]) (hw : Lib.trimPrefix s [45] = [110, 97, 110])
  | inf (h : rung f = 9218868437227405312) (hn : Lib.hasPrefix s [45] = isNeg f) (hw : Lib.trimPrefix s [45] = [105, 110, 102])
  | num (M : Nat) (e : Int) (h : rung f < 9218868437227405312) (hn : Lib.hasPrefix s [45] = isNeg f) (hw : Lib.trimPrefix s [45] = numT M e) (hM : M < 9007199254740992) (h0 : -1074 ≤ e) (h1 : e ≤ 1024) (hv : V (rung f) = M * 2 ^ (e + 1074).toNat)
theorem Hit.of {s : List UInt8} {f : Nat} (hf : Cn f) (hs : textF f = s) : Hit s f := by
  subst hs
  by_cases h1 : isNan f = true
  · have e : f = 9221120237041090561 := by have := hf.one; unfold canon at this; rw [if_pos h1] at this; exact this.symm
    exact .nan e (text_nan2 h1) (by rw [text_nan2 h1]; rfl)
  · have h1' : isNan f = false := by simpa using h1
    by_cases h2 : rung f = 9218868437227405312
    · have ht : textF f = sgnB (isNeg f) ++ [105, 110, 102] := text_inf h1' h2
      obtain ⟨a, b⟩ := trim_sgn (n := isNeg f) (x := [105, 110, 102]) (by decide)
      rw [← ht] at a b
      exact .inf h2 a b
    · have h6 : rung f ≤ 9218868437227405312 := by simpa [isNan, rung] using h1'
      have hr : rung f < 9218868437227405312 := by omega
      by_cases h3 : rung f = 0
      · have ht : textF f = sgnB (isNeg f) ++ numT 0 0 := by
          rw [text_zero h1' h2 h3]
          have : numT 0 0 = [48, 112, 48] := by
            have e0 : Lib.decDigits 0 = [48] := Lib.decDigits_one (by decide)
            have e1 : Lib.itoa 0 = Lib.decDigits 0 := rfl
            unfold numT; rw [e1, e0]; rfl
          rw [this]; rfl
        obtain ⟨a, b⟩ := trim_sgn (n := isNeg f) (x := numT 0 0) (head_ne (numT_head 0 0) (.inl (by decide)))
        rw [← ht] at a b
        exact .num 0 0 hr a b (by decide) (by decide) (by decide) (by rw [h3, Nat.zero_mul]; decide)
      · obtain ⟨o1, o2⟩ := od_spec _ (mant0_ne h3)
        have ht : textF f = sgnB (isNeg f) ++ numT (od (mant0 (rung f))) (exp0 (rung f) + v2 (mant0 (rung f))) := by
          rw [text_num h1' h2 h3]; unfold numT; rw [sgn_eq]; simp
        obtain ⟨a, b⟩ := trim_sgn (n := isNeg f) (x := numT (od (mant0 (rung f))) (exp0 (rung f) + v2 (mant0 (rung f)))) (head_ne (numT_head _ _) (.inl (by decide)))
        rw [← ht] at a b
        have e1 := exp0_bd hr
        have e2 := v2_le hr h3
        refine .num _ _ hr a b ?_ (by omega) (by omega) ?_
        · have := mant0_lt hr
          exact Nat.lt_of_le_of_lt (Nat.div_le_self _ _) this
        · rw [V_mant0]
          conv => lhs; rw [o1]
          rw [Nat.mul_assoc, ← Nat.pow_add]
          congr 2; omega
theorem numT_inj {M M' : Nat} {e e' : Int} (h : numT M e = numT M' e') (h0 : -9223372036854775808 ≤ e) (h1 : e ≤ 9223372036854775807) (h0' : -9223372036854775808 ≤ e') (h1' : e' ≤ 9223372036854775807) : M = M' ∧ e = e' := by
  have i1 := index_mid (a := Lib.decDigits M) (b := Lib.itoa e) (noP (u := M))
  have i2 := index_mid (a := Lib.decDigits M') (b := Lib.itoa e') (noP (u := M'))
  unfold numT at h
  rw [h, i2] at i1
  have hl : (Lib.decDigits M).length = (Lib.decDigits M').length := by omega
  obtain ⟨a, b⟩ := List.append_inj h hl
  have hM : M = M' := by rw [← (decDigits_spec M).2.1, a, (decDigits_spec M').2.1]
  have he : Lib.itoa e = Lib.itoa e' := by injection b
  have a1 := atoi_itoa h0 h1
  rw [he, atoi_itoa h0' h1'] at a1
  injection a1 with a1
  exact ⟨hM, a1.symm⟩
theorem text_inj {a b : Nat} (ha : Cn a) (hb : Cn b) (h : textF a = textF b) : a = b := by
  have w {f g : Nat} (hf : Cn f) (hg : Cn g) (h1 : isNeg f = isNeg g) (h2 : rung f = rung g) : f = g := by rw [← app_word hf.lt, ← app_word hg.lt, h1, h2]
  cases Hit.of ha h with
  | nan h1 hs hw =>
    cases Hit.of hb rfl with
    | nan h2 _ _ => rw [h1, h2]
    | inf _ _ hw' => rw [hw] at hw'; exact absurd hw' (by decide)
    | num M e _ _ hw' => exact absurd (by rw [← hw', hw]; rfl) (head_ne (k := 110) (numT_head M e) (.inr (by decide)))
  | inf h1 hn hw =>
    cases Hit.of hb rfl with
    | nan _ _ hw' => rw [hw] at hw'; exact absurd hw' (by decide)
    | inf h2 hn' _ => exact w ha hb (hn.symm.trans hn') (h1.trans h2.symm)
    | num M e _ _ hw' => exact absurd (by rw [← hw', hw]; rfl) (head_ne (k := 105) (numT_head M e) (.inr (by decide)))
  | num M e h1 hn hw hM he0 he1 hv =>
    cases Hit.of hb rfl with
    | nan _ _ hw' => exact absurd (by rw [← hw, hw']; rfl) (head_ne (k := 110) (numT_head M e) (.inr (by decide)))
    | inf _ _ hw' => exact absurd (by rw [← hw, hw']; rfl) (head_ne (k := 105) (numT_head M e) (.inr (by decide)))
    | num M' e' h2 hn' hw' hM' he0' he1' hv' =>
      obtain ⟨rfl, rfl⟩ := numT_inj (hw.symm.trans hw') (by omega) (by omega) (by omega) (by omega)
      exact w ha hb (hn.symm.trans hn') (V_inj.1 (hv.trans hv'.symm))
open Classical in
/-- the float whose text this is -/
noncomputable def pf (s : List UInt8) : Option Nat := if h : ∃ f, Cn f ∧ textF f = s then some (Classical.choose h) else none
theorem pf_hit {s : List UInt8} {f : Nat} (hf : Cn f) (h : textF f = s) : pf s = some f := by
  have he : ∃ f, Cn f ∧ textF f = s := ⟨f, hf, h⟩
  unfold pf; rw [dif_pos he]
  obtain ⟨c1, c2⟩ := Classical.choose_spec he
  rw [text_inj c1 hf (c2.trans h.symm)]
end Go.Proofs.YtobhpejaoakpmaaGreatDoor
namespace Go.Proofs.YtobhpejaoakpmaaGreatDoor
open Go.RowKit Go.Bw Go.Bw.Fl
set_option linter.unusedVariables false
set_option linter.unusedSimpArgs false
/-- digits that spell a number below 2 to the power of 53 -/
structure Gd (s : List UInt8) : Prop where
  ne : s ≠ []
  all : AllDig s
  lt : dval 0 s < 9007199254740992
def UEnd (s : List UInt8) (n : Nat) (e : Value) : Prop := (e = .nilIface ∧ n < 9007199254740992 ∧ (Gd s → n = dval 0 s)) ∨ (¬ Gd s ∧ n < 18446744073709551616 ∧ ∃ c : Int, (c = 1 ∨ c = 2) ∧ e = .iface 250 (.int .i64 c))
theorem Gd.at {s : List UInt8} (h : Gd s) {i : Nat} (hi : i < s.length) : 48 ≤ (s.getD i 0).toNat ∧ (s.getD i 0).toNat ≤ 57 := by
  have e : s.getD i 0 = s[i] := by simp [List.getD, List.getElem?_eq_getElem hi]
  rw [e]; exact h.all _ (List.getElem_mem hi)
end Go.Proofs.YtobhpejaoakpmaaGreatDoor
namespace Go.Proofs.YtobhpejaoakpmaaGreatDoor
open Go.RowKit Go.Bw Go.Bw.Fl
set_option linter.unusedVariables false
set_option linter.unusedSimpArgs false
theorem ErrEnd.iface {t : TypeId} {v : Value} : IsErr (.iface t v) := .inr ⟨_, _, rfl⟩
/-- what ParseUint at 53 bits tells -/
def PEnd (s : List UInt8) (n : Nat) (e : Value) : Prop := IsErr e ∧ (isNilI e = true → n < 9007199254740992 ∧ (Gd s → n = dval 0 s)) ∧ (isNilI e = false → ¬ Gd s) ∧ n < 18446744073709551616
theorem PEnd.of {s : List UInt8} {n : Nat} {e : Value} (h : UEnd s n e) : PEnd s n e := by
  rcases h with ⟨rfl, h1, h2⟩ | ⟨h1, h2, c, hc, rfl⟩
  · exact ⟨.inl rfl, fun _ => ⟨h1, h2⟩, fun h => (by cases h), by omega⟩
  · exact ⟨.inr ⟨_, _, rfl⟩, fun h => (by cases h), fun _ => h1, h2⟩
end Go.Proofs.YtobhpejaoakpmaaGreatDoor
namespace Go.Proofs.YtobhpejaoakpmaaGreatDoor
open Go.RowKit Go.Bw Go.Bw.Fl
set_option linter.unusedVariables false
set_option linter.unusedSimpArgs false
end Go.Proofs.YtobhpejaoakpmaaGreatDoor
