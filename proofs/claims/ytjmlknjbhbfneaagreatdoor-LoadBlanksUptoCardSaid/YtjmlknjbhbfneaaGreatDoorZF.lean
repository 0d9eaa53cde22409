/- Plain: what Read tells, out of what the texts of floats and quoted texts are. · Package value: Text and Read, by the calculus, out of what the texts of floats and quoted texts are. · A text's bytes, as a row of one's own reading. · Plain: numerals and floats' texts read back. · Plain: the float whose text this is: one at most. · strconv.ParseUint at 53 bits, strings.Cut, strconv.Atoi, math.Ldexp, by the calculus. · strconv.ParseUint at 53 bits, strings.Cut at p, strconv.Atoi, math.Ldexp. · num.Parse: the float whose text this is. -/
import Derived.Test.YtjmlknjbhbfneaaGreatDoorZE
import Derived.Test.YtjmlknjbhbfneaaGreatDoorZD
import Derived.Lib.SlTrimSet
import Derived.Lib.ParseIntBTie
import Derived.Shelf.Strings.SlTrimAscii
import Derived.Lib.ConvBytes
import Derived.Lib.IndexLaws
import Derived.Lib.AtoiAllCases
namespace Go.Proofs.YtjmlknjbhbfneaaGreatDoor
open Go.RowKit Go.Bw Go.Bw.Fl
set_option linter.unusedVariables false
set_option linter.unusedSimpArgs false
def digs : List UInt8 := [48, 49, 50, 51, 52, 53, 54, 55, 56, 57]
def nDig (s : List UInt8) : Nat := s.length - (Lib.trimLeftS s digs).length
def lead (s : List UInt8) : Nat := nDig (Lib.trimPrefix s [45]) + (s.length - (Lib.trimPrefix s [45]).length)
def parseI (s : List UInt8) : Option Int := match Lib.parseIntB 64 s with | .ok v => some v | _ => none
def wNull : List UInt8 := [110, 117, 108, 108]
def wFalse : List UInt8 := [102, 97, 108, 115, 101]
def wTrue : List UInt8 := [116, 114, 117, 101]
def words3 : List (List UInt8) := [[110, 97, 110], [105, 110, 102], [45, 105, 110, 102]]
def downF (pf : List UInt8 → Option Nat) (s : List UInt8) (k : Nat) : Nat → Option (Val × Nat)
  | 0 => none
  | j + 1 => match pf (s.take (k + j + 1)) with
    | some f => some (⟨3, 0, f, []⟩, k + j + 1)
    | none => downF pf s k j
def floatK (s : List UInt8) : Nat := if s[lead s + 1]? = some 45 then lead s + 2 else lead s + 1
def floatM (s : List UInt8) : Nat := min (nDig (s.drop (floatK s))) 4
def floatAt (pf : List UInt8 → Option Nat) (s : List UInt8) : Option (Val × Nat) := if s[lead s]? = some 112 then downF pf s (floatK s) (floatM s) else none
def downI (s : List UInt8) : Nat → Option (Val × Nat)
  | 0 => none
  | j + 1 => match parseI (s.take (j + 1)) with
    | some v => if Lib.itoa v = s.take (j + 1) then some (⟨2, v, 0, []⟩, j + 1) else downI s j
    | none => downI s j
def readV (pf : List UInt8 → Option Nat) (uq : List UInt8 → List UInt8 × Nat) (s : List UInt8) : Option (Val × Nat) :=
  if Lib.hasPrefix s [39] = true then (if (uq s).2 = 0 then none else some (⟨4, 0, 0, (uq s).1⟩, (uq s).2))
  else if Lib.hasPrefix s wNull = true then some (nullV, 4)
  else if Lib.hasPrefix s wFalse = true then some (truthV false, 5)
  else if Lib.hasPrefix s wTrue = true then some (truthV true, 4)
  else match words3.find? (fun x => Lib.hasPrefix s x) with
    | some x => some (⟨3, 0, (pf x).getD 0, []⟩, x.length)
    | none => match floatAt pf s with
      | some r => some r
      | none => downI s (min (lead s) 20)
def rdV (r : Option (Val × Nat)) : Value := .tuple #[((r.map (·.1)).getD nullV).enc, .int .i64 (((r.map (·.2)).getD 0 : Nat) : Int), .bool r.isSome]
theorem nDig_le (s : List UInt8) : nDig s ≤ s.length := Nat.sub_le _ _
theorem trimL_le (s c : List UInt8) : (Lib.trimLeftS s c).length ≤ s.length := (List.dropWhile_suffix _).sublist.length_le
theorem trimP_le (s c : List UInt8) : (Lib.trimPrefix s c).length ≤ s.length := by unfold Lib.trimPrefix; split <;> simp
theorem lead_le (s : List UInt8) : lead s ≤ s.length := by unfold lead; have := nDig_le (Lib.trimPrefix s [45]); have := trimP_le s [45]; omega
theorem pre_false {s : List UInt8} (h : Lib.hasPrefix s wFalse = true) : Lib.hasPrefix s wNull = false ∧ Lib.hasPrefix s wTrue = false := by
  cases s with
  | nil => exact absurd h (by decide)
  | cons c r => simp [Lib.hasPrefix, wNull, wFalse, wTrue, List.isPrefixOf] at h ⊢; obtain ⟨h1, _⟩ := h; subst h1; simp
theorem pre_true {s : List UInt8} (h : Lib.hasPrefix s wTrue = true) : Lib.hasPrefix s wNull = false ∧ Lib.hasPrefix s wFalse = false := by
  cases s with
  | nil => exact absurd h (by decide)
  | cons c r => simp [Lib.hasPrefix, wNull, wFalse, wTrue, List.isPrefixOf] at h ⊢; obtain ⟨h1, _⟩ := h; subst h1; simp
/-- the map's words, with what they are -/
def wordsKV : List (List UInt8 × Value) := [(wNull, nullV.enc), (wFalse, (truthV false).enc), (wTrue, (truthV true).enc)]
theorem word_hit {pf uq} {s : List UInt8} (hq : Lib.hasPrefix s [39] = false) {i : Nat} {p : List UInt8 × Value} (hp : wordsKV[i]? = some p) (h : Lib.hasPrefix s p.1 = true) : ∃ v, p.2 = Val.enc v ∧ readV pf uq s = some (v, p.1.length) := by
  have hq' : ¬ Lib.hasPrefix s [39] = true := by rw [hq]; simp
  match i, hp with
  | 0, hp => cases hp; exact ⟨_, rfl, by unfold readV; rw [if_neg hq', if_pos h]; rfl⟩
  | 1, hp => cases hp; exact ⟨_, rfl, by unfold readV; rw [if_neg hq', if_neg (by rw [(pre_false h).1]; simp), if_pos h]; rfl⟩
  | 2, hp => cases hp; exact ⟨_, rfl, by unfold readV; rw [if_neg hq', if_neg (by rw [(pre_true h).1]; simp), if_neg (by rw [(pre_true h).2]; simp), if_pos h]; rfl⟩
theorem word_miss {pf uq} {s : List UInt8} (hq : Lib.hasPrefix s [39] = false) (h : ∀ (i : Nat) (p : List UInt8 × Value), wordsKV[i]? = some p → Lib.hasPrefix s p.1 = false) :
    readV pf uq s = match words3.find? (fun x => Lib.hasPrefix s x) with
    | some x => some (⟨3, 0, (pf x).getD 0, []⟩, x.length)
    | none => match floatAt pf s with
      | some r => some r
      | none => downI s (min (lead s) 20) := by
  have h0 := h 0 _ rfl; have h1 := h 1 _ rfl; have h2 := h 2 _ rfl
  unfold readV
  rw [if_neg (by rw [hq]; simp), if_neg (by rw [h0]; simp), if_neg (by rw [h1]; simp), if_neg (by rw [h2]; simp)]
theorem words_val {i : Nat} {p : List UInt8 × Value} (hp : wordsKV[i]? = some p) : ∃ v : Val, p.2 = v.enc ∧ p.1.length ≤ 5 := by
  match i, hp with
  | 0, hp => cases hp; exact ⟨_, rfl, by decide⟩
  | 1, hp => cases hp; exact ⟨_, rfl, by decide⟩
  | 2, hp => cases hp; exact ⟨_, rfl, by decide⟩
theorem word_snoc {s : List UInt8} {seen : List Nat} {i : Nat} {q : List UInt8 × Value} (h : ∀ (i : Nat) (p : List UInt8 × Value), i ∈ seen → wordsKV[i]? = some p → Lib.hasPrefix s p.1 = false) (hq : wordsKV[i]? = some q) (hn : Lib.hasPrefix s q.1 = false) :
    ∀ (j : Nat) (p : List UInt8 × Value), j ∈ seen ++ [i] → wordsKV[j]? = some p → Lib.hasPrefix s p.1 = false := by
  intro j p hj hp
  rcases List.mem_append.1 hj with hj | hj
  · exact h j p hj hp
  · cases List.mem_singleton.1 hj; rw [hq] at hp; cases hp; exact hn
theorem sw_snoc {s : List UInt8} {k : Nat} (h : ∀ j, j < k → Lib.hasPrefix s (words3.getD j []) = false) (hn : Lib.hasPrefix s (words3.getD k []) = false) : ∀ j, j < k + 1 → Lib.hasPrefix s (words3.getD j []) = false := fun j hj => by
  by_cases e : j < k
  · exact h j e
  · rw [show j = k by omega]; exact hn
theorem w3_find {pr : List UInt8 → Bool} {k : Nat} (hk : k < 3) (h0 : ∀ j, j < k → pr (words3.getD j []) = false) (h : pr (words3.getD k []) = true) : words3.find? pr = some (words3.getD k []) := by
  match k, hk with
  | 0, _ => show List.find? pr [_, _, _] = _; rw [List.find?_cons, show pr [110, 97, 110] = true from h]; rfl
  | 1, _ => show List.find? pr [_, _, _] = _; rw [List.find?_cons, show pr [110, 97, 110] = false from h0 0 (by omega), List.find?_cons, show pr [105, 110, 102] = true from h]; rfl
  | 2, _ => show List.find? pr [_, _, _] = _; rw [List.find?_cons, show pr [110, 97, 110] = false from h0 0 (by omega), List.find?_cons, show pr [105, 110, 102] = false from h0 1 (by omega), List.find?_cons, show pr [45, 105, 110, 102] = true from h]; rfl
theorem w3_none {pr : List UInt8 → Bool} (h0 : ∀ j, j < 3 → pr (words3.getD j []) = false) : words3.find? pr = none := by
  show List.find? pr [_, _, _] = _
  rw [List.find?_cons, show pr [110, 97, 110] = false from h0 0 (by omega), List.find?_cons, show pr [105, 110, 102] = false from h0 1 (by omega), List.find?_cons, show pr [45, 105, 110, 102] = false from h0 2 (by omega)]; rfl
theorem w3_at {k : Nat} {v : Value} (hk : k < 3) (h : [str [110, 97, 110], str [105, 110, 102], str [45, 105, 110, 102]][k]? = some v) : v = str (words3.getD k []) ∧ (words3.getD k []).length ≤ 4 ∧ words3.getD k [] ∈ words3 := by
  match k, hk with
  | 0, _ => cases h; exact ⟨rfl, by decide, by decide⟩
  | 1, _ => cases h; exact ⟨rfl, by decide, by decide⟩
  | 2, _ => cases h; exact ⟨rfl, by decide, by decide⟩
theorem floatK_bd (s : List UInt8) (h : s[lead s]? = some 112) : lead s < floatK s ∧ floatK s ≤ s.length ∧ lead s < s.length := by
  have h1 : lead s < s.length := (List.getElem?_eq_some_iff.1 h).1
  unfold floatK; split
  · rename_i h2; have := (List.getElem?_eq_some_iff.1 h2).1; omega
  · omega
theorem floatM_bd (s : List UInt8) (h : s[lead s]? = some 112) : floatM s ≤ 4 ∧ floatK s + floatM s ≤ s.length := by
  have h1 := floatK_bd s h
  have h2 := nDig_le (s.drop (floatK s))
  rw [List.length_drop] at h2
  unfold floatM; omega
theorem downF_hit {pf : List UInt8 → Option Nat} {s : List UInt8} {K j : Nat} (h : (pf (s.take (K + j))).isSome = true) (hj : 0 < j) : downF pf s K j = some (⟨3, 0, (pf (s.take (K + j))).getD 0, []⟩, K + j) := by
  obtain ⟨j', rfl⟩ : ∃ j', j = j' + 1 := ⟨j - 1, by omega⟩
  obtain ⟨f, hf⟩ := Option.isSome_iff_exists.1 h
  rw [hf]
  show (match pf (s.take (K + j' + 1)) with | some f => some ((⟨3, 0, f, []⟩ : Val), K + j' + 1) | none => downF pf s K j') = _
  rw [show pf (s.take (K + j' + 1)) = some f from hf]; rfl
theorem downF_no {pf : List UInt8 → Option Nat} {s : List UInt8} {K j : Nat} (h : pf (s.take (K + j)) = none) (hj : 0 < j) : downF pf s K j = downF pf s K (j - 1) := by
  obtain ⟨j', rfl⟩ : ∃ j', j = j' + 1 := ⟨j - 1, by omega⟩
  show (match pf (s.take (K + j' + 1)) with | some f => some ((⟨3, 0, f, []⟩ : Val), K + j' + 1) | none => downF pf s K j') = _
  rw [show pf (s.take (K + j' + 1)) = none from h]; rfl
theorem downI_hit {s : List UInt8} {j : Nat} {v : Int} (h : parseI (s.take j) = some v) (h2 : (Lib.itoa v == s.take j) = true) (hj : 0 < j) : downI s j = some (⟨2, v, 0, []⟩, j) := by
  obtain ⟨j', rfl⟩ : ∃ j', j = j' + 1 := ⟨j - 1, by omega⟩
  unfold downI; rw [h]; exact if_pos (by simpa using h2)
theorem downI_no {s : List UInt8} {j : Nat} (h : parseI (s.take j) = none) (hj : 0 < j) : downI s j = downI s (j - 1) := by
  obtain ⟨j', rfl⟩ : ∃ j', j = j' + 1 := ⟨j - 1, by omega⟩
  conv => lhs; unfold downI
  rw [h]; rfl
theorem downI_no2 {s : List UInt8} {j : Nat} {v : Int} (h : parseI (s.take j) = some v) (h2 : (Lib.itoa v == s.take j) = false) (hj : 0 < j) : downI s j = downI s (j - 1) := by
  obtain ⟨j', rfl⟩ : ∃ j', j = j' + 1 := ⟨j - 1, by omega⟩
  conv => lhs; unfold downI
  rw [h]; exact if_neg (by simpa using h2)
theorem some0 {o : Option Nat} (h : (if o.isSome = true then (0 : Int) else 2) = 0) : o.isSome = true := by
  cases o
  · simp at h
  · rfl
theorem none0 {o : Option Nat} (h : ¬ (if o.isSome = true then (0 : Int) else 2) = 0) : o = none := by
  cases o
  · rfl
  · simp at h
theorem has_p {s : List UInt8} {e : Nat} (h : s[lead s]? = some 112) (he : lead s < e) : (112 : UInt8) ∈ s.take e := by
  refine List.mem_iff_getElem?.2 ⟨lead s, ?_⟩
  rw [List.getElem?_take, if_pos he, h]
end Go.Proofs.YtjmlknjbhbfneaaGreatDoor
namespace Go.Proofs.YtjmlknjbhbfneaaGreatDoor
open Go.RowKit Go.Bw Go.Bw.Fl Go.Shelf
set_option linter.unusedVariables false
set_option linter.unusedSimpArgs false
theorem one9ValD : One Tryz.prog 9 := ⟨_, Tryz.underlying9, rfl, by kernel_rfl⟩
theorem sz9ValD : (Tryz.prog.info? 9).map (·.size) = some 1 := by kernel_rfl
theorem txt137ValD : Txt Tryz.prog 137 := ⟨_, Tryz.func137, by kernel_rfl, rfl⟩   -- bridleway/value.unquoted
theorem txt138ValD : Txt Tryz.prog 138 := ⟨_, Tryz.func138, by kernel_rfl, rfl⟩   -- bridleway/num.Parse
theorem txt139ValD : Txt Tryz.prog 139 := ⟨_, Tryz.func139, by kernel_rfl, rfl⟩   -- bridleway/value.digits
theorem txt140ValD : Txt Tryz.prog 140 := ⟨_, Tryz.func140, by kernel_rfl, rfl⟩   -- strings.TrimPrefix
theorem txt141ValD : Txt Tryz.prog 141 := ⟨_, Tryz.func141, by kernel_rfl, rfl⟩   -- strconv.ParseInt
theorem txt40ValD : Txt Tryz.prog 40 := ⟨_, Tryz.func40, by kernel_rfl, rfl⟩   -- strings.TrimLeft
theorem txt41ValD : Txt Tryz.prog 41 := ⟨_, Tryz.func41, by kernel_rfl, rfl⟩   -- strings.HasPrefix
theorem txt86ValD : Txt Tryz.prog 86 := ⟨_, Tryz.func86, by kernel_rfl, rfl⟩   -- strconv.FormatInt
theorem txt89ValD : Txt Tryz.prog 89 := ⟨_, Tryz.func89, by kernel_rfl, rfl⟩   -- bridleway/value.truth
theorem TrimLeft_r (s : List UInt8) (w : World) : Ret Tryz.prog 40 [str s, str digs] w fun v w' => v = str (Lib.trimLeftS s digs) ∧ Below w.heap.size w w' :=
  Calls.mono (Any.strings_TrimLeft_laid Tryz.lays161 (by kernel_rfl) ⟨s.toArray⟩ ⟨digs.toArray⟩ w (by decide) (ascii_of_all (by decide))) fun e w' ⟨h1, h2⟩ => ⟨_, h1, rfl, h2⟩
theorem digits_r (s : List UInt8) (hs : s.length ≤ 281474976710656) (w : World) : Ret Tryz.prog 139 [str s] w fun v w' => v = .int .i64 (nDig s : Nat) ∧ Below w.heap.size w w' := by
  have hl := trimL_le s digs
  have hb := Below.refl w.heap.size w
  refine enter Tryz.func139 rfl rfl rfl <| Wc.seq fun _ hK_1 => Wc.region <| Wl.sg rfl rfl <| Wl.nil <| Wq.next hK_1 <| Wc.seq fun _ hK_3 => Wc.region <| Wl.mv rfl rfl <| Wl.y (y_lens Tryz.underlying9 (by omega) rfl) rfl <| Wl.mv rfl rfl <| Wl.call txt40ValD rfl rfl (TrimLeft_r s _) rfl ?_
  rintro _ w_k0 ⟨rfl, hs_k0⟩
  have hz_k0 := hs_k0.size
  have hb := hb.trans (hs_k0.mono hb.size)
  refine Wl.y (y_lens Tryz.underlying9 (by omega) rfl) rfl <| Wl.y (y_subI rfl rfl (by omega) (by omega)) rfl <| Wl.sg rfl rfl <| Wl.nil <| Wq.next hK_3 <| Wc.ret <| ret1 rfl rfl ?_
  exact ⟨_, rfl, int_eq (by unfold nDig; omega), hb⟩
theorem below_bytes (w : World) (t : ByteArray) : Below w.heap.size w (Lib.bytesWorld w 5 t) := by
  refine ((Below.refl _ _).drew.alloc (Nat.le_refl _) (.cells (Lib.bytesCells w 5 t) 5)).trans ?_
  unfold Lib.bytesWorld World.freeze
  rw [if_neg (by decide)]
  refine ⟨rfl, rfl, rfl, by simp, fun k hk => ?_⟩
  show ((w.drew.alloc _).heap.modify _ _)[k]? = _
  rw [Array.getElem?_modify, if_neg (by have hk' : k < w.heap.size := hk; show w.heap.size ≠ k; omega)]
def IntEnd (s : List UInt8) (v : Value) : Prop := ∃ n e, v = .tuple #[.int .i64 n, e] ∧ IsErr e ∧ ((parseI s = some n ∧ isNilI e = true) ∨ (parseI s = none ∧ isNilI e = false))
theorem ParseInt_r (s : List UInt8) (hs : s.length ≤ 281474976710656) (w : World) (hL : Lb w) : Ret Tryz.prog 141 [str s, .int .i64 10, .int .i64 64] w fun v w' => IntEnd s v ∧ Below w.heap.size w w' := by
  have hs' : (⟨s.toArray⟩ : ByteArray).size ≤ 281474976710656 := by rw [size_str]; exact hs
  rcases h : Lib.parseIntB 64 s with v | _ | _
  · exact Calls.mono (Tryz.strconv_ParseInt_10_at64_ok ⟨s.toArray⟩ (by omega) v h w) fun e w' ⟨h1, h2⟩ => ⟨_, h1, ⟨v, _, rfl, .inl rfl, .inl ⟨by unfold parseI; rw [h], rfl⟩⟩, by
      rcases h2 with rfl | ⟨t, rfl⟩
      · exact Below.refl _ _
      · exact below_bytes w t⟩
  · obtain ⟨tp, p, hv⟩ := hL.syn
    exact Calls.mono (Any.strconv_ParseInt_10_at64_syntax_var Tryz.laysC174 ⟨s.toArray⟩ hs' h tp p w hv) fun e w' ⟨N, h1, _, _, h2⟩ => ⟨_, h1, ⟨0, _, rfl, .inr ⟨_, _, rfl⟩, .inr ⟨by unfold parseI; rw [h], rfl⟩⟩, h2⟩
  · obtain ⟨tp, p, hv⟩ := hL.rng
    exact Calls.mono (Any.strconv_ParseInt_10_at64_range_var Tryz.laysC174 ⟨s.toArray⟩ hs' h tp p w hv) fun e w' ⟨N, h1, _, _, h2⟩ => ⟨_, h1, ⟨_, _, rfl, .inr ⟨_, _, rfl⟩, .inr ⟨by unfold parseI; rw [h], rfl⟩⟩, h2⟩
theorem parseI_bd {s : List UInt8} {v : Int} (h : parseI s = some v) : -9223372036854775808 ≤ v ∧ v ≤ 9223372036854775807 := by
  unfold parseI at h
  split at h
  · rename_i u hu; cases h; have := Lib.parseIntB_bounds hu; have e : (2 : Nat) ^ (64 - 1) = 9223372036854775808 := by decide
    rw [e] at this; omega
  · cases h
theorem nilT {s : List UInt8} {n : Int} {e : Value} (h : (parseI s = some n ∧ isNilI e = true) ∨ (parseI s = none ∧ isNilI e = false)) (he : isNilI e = true) : parseI s = some n := by
  rcases h with h | h
  · exact h.1
  · rw [h.2] at he; cases he
theorem nilF {s : List UInt8} {n : Int} {e : Value} (h : (parseI s = some n ∧ isNilI e = true) ∨ (parseI s = none ∧ isNilI e = false)) (he : isNilI e = false) : parseI s = none := by
  rcases h with h | h
  · rw [h.2] at he; cases he
  · exact h.1
/-- what Read may call, at a text -/
structure Callees (pf : List UInt8 → Option Nat) (uq : List UInt8 → List UInt8 × Nat) (s : List UInt8) : Prop where
  unq : Lib.hasPrefix s [39] = true → ∀ w, Lb w → Ret Tryz.prog 137 [str s] w fun v w' => v = .tuple #[str (uq s).1, .int .i64 ((uq s).2 : Nat)] ∧ Below w.heap.size w w'
  word : ∀ x, x ∈ words3 → Lib.hasPrefix s x = true → ∀ w, Lb w → Ret Tryz.prog 138 [str x] w fun v w' => v = .tuple #[.float .f64 ((pf x).getD 0), .int .i64 (if (pf x).isSome = true then 0 else 2)] ∧ Below w.heap.size w w'
  prs : ∀ e, (112 : UInt8) ∈ s.take e → ∀ w, Lb w → Ret Tryz.prog 138 [str (s.take e)] w fun v w' => v = .tuple #[.float .f64 ((pf (s.take e)).getD 0), .int .i64 (if (pf (s.take e)).isSome = true then 0 else 2)] ∧ Below w.heap.size w w'
theorem lead_sum (s : List UInt8) : ((nDig (Lib.trimPrefix s [45]) : Nat) : Int) + (s.length : Int) - ((Lib.trimPrefix s [45]).length : Int) = (lead s : Nat) := by
  have := trimP_le s [45]; unfold lead; omega
theorem at_p {s : List UInt8} {n : Nat} (h : n < s.length) {x : Int} (hx : x = ((s.getD n 0).toNat : Int)) (c : UInt8) : (x == (c.toNat : Int)) = decide (s[n]? = some c) := by
  rw [Bool.eq_iff_iff, beq_iff_eq, decide_eq_true_eq, hx, List.getElem?_eq_getElem h]
  simp only [List.getD, List.getElem?_eq_getElem h, Option.getD_some, Option.some.injEq]
  constructor
  · intro e; exact UInt8.toNat_inj.1 (by omega)
  · intro e; rw [e]
set_option maxHeartbeats 2000000 in
theorem Read_r (pf : List UInt8 → Option Nat) (uq : List UInt8 → List UInt8 × Nat) (s : List UInt8) (hs : s.length ≤ 281474976710656) (hC : Callees pf uq s) (w : World) (hL : Lb w) : Ret Tryz.prog 96 [str s] w fun v w' => v = rdV (readV pf uq s) ∧ Below w.heap.size w w' := by
  have hld := lead_le s
  have htp := trimP_le s [45]
  have hnd := nDig_le (Lib.trimPrefix s [45])
  have hb := Below.refl w.heap.size w
  have hL_hb := hL
  refine enter Tryz.func96 rfl rfl rfl <| Wc.seq fun _ hK_1 => Wc.region <| Wl.allocN (z := (.agg #[(.int .i64 0), (.int .i64 0), (.float .f64 0), (str [])])) (by kernel_rfl) rfl ?_
  rintro g_o0 w_o0 hg_o0 hn_o0 hs_o0
  have hz_o0 := hs_o0.size
  have hb := hb.trans (hs_o0.mono hb.size)
  have hL := hL_hb.below hb
  have hB_o0 := hn_o0
  have hl_o0 := hB_o0.lt
  refine Wl.sg rfl rfl <| Wl.sg rfl rfl <| Wl.nil <| Wq.next hK_1 <| Wc.seq fun _ hK_5 => Wc.seq fun _ hK_6 => Wc.region <| Wl.mv rfl rfl <| Wl.call txt41ValD rfl rfl (HasPrefix_r s _ _) rfl ?_
  rintro _ w_ ⟨rfl, hw_⟩
  have hw_ := hw_.symm; subst hw_
  refine Wl.nil <| Wq.next hK_6 <| Wc.cond rfl (fun c0_9 => ?_) (fun c0_9 => ?_)
  ·
   have c0_9_ := c0_9
   refine Wc.seq fun _ hK_10 => Wc.region <| Wl.mv rfl rfl <| Wl.call txt137ValD rfl rfl (hC.unq c0_9_ _ hL) rfl ?_
   rintro _ w_k1 ⟨rfl, hs_k1⟩
   have hz_k1 := hs_k1.size
   have hb := hb.trans (hs_k1.mono hb.size)
   have hL := hL_hb.below hb
   have hB_o0 := Blk.below hB_o0 hs_k1
   refine Wl.mv rfl rfl <| Wl.y (y_extract rfl rfl) rfl <| Wl.y (y_extract rfl rfl) rfl <| Wl.sg rfl rfl <| Wl.sg rfl rfl <| Wl.nil <| Wq.next hK_10 <| Wc.seq fun _ hK_18 => Wc.seq fun _ hK_19 => Wc.region <| Wl.mv rfl rfl <| Wl.y (y_eqli rfl rfl) rfl <| Wl.nil <| Wq.next hK_19 <| Wc.cond rfl (fun c1_22 => ?_) (fun c1_22 => ?_)
   ·
    have c1_22_ := c1_22
    simp only [DZ] at c1_22
    refine Wc.seq fun _ hK_23 => Wc.region <| Wl.y (y_buildS (z := [(.int .i64 0), (.int .i64 0), (.float .f64 0), (str [])]) (pl := [(0, 1), (1, 1), (2, 1), (3, 1)]) (cs := [_, _, _, _]) Tryz.underlying96 (by kernel_rfl) (by kernel_rfl) rfl rfl rfl) rfl <| Wl.storeS (by kernel_rfl) rfl rfl hB_o0 rfl rfl ?_
    rintro w_s0 hn_s0 hg_s0
    have hz_s0 := hg_s0.size
    have hb := below_blk hb hg_s0 hb.size (by omega)
    have hL := hL_hb.below hb
    have hB_o0 := hn_s0
    refine Wl.sg rfl rfl <| Wl.sg rfl rfl <| Wl.nil <| Wq.next hK_23 <| Wc.ret <| Wq.then_ret (Wq.then_ret ?_)
    refine retN (rs := [.cell 2 96, .tmp 3, .tmp 4]) (vs := [_, _, _]) rfl (.cell rfl (loadS Tryz.underlying96 (by kernel_rfl) (fun j u hu => hB_o0.at hu)) (.tmp rfl (.tmp rfl .nil))) ?_
    exact ⟨_, rfl, by unfold readV; rw [if_pos c0_9_, if_pos (by have := c1_22; omega)]; rfl, hb⟩
   have c1_22_ := c1_22
   simp only [DZ] at c1_22
   refine Wc.skip <| Wq.next hK_18 <| Wc.seq fun _ hK_27 => Wc.region <| Wl.mv rfl rfl <| Wl.y (y_buildS (z := [(.int .i64 0), (.int .i64 0), (.float .f64 0), (str [])]) (pl := [(0, 1), (1, 1), (2, 1), (3, 1)]) (cs := [_, _, _, _]) Tryz.underlying96 (by kernel_rfl) (by kernel_rfl) rfl rfl rfl) rfl <| Wl.mv rfl rfl <| Wl.storeS (by kernel_rfl) rfl rfl hB_o0 rfl rfl ?_
   rintro w_s1 hn_s1 hg_s1
   have hz_s1 := hg_s1.size
   have hb := below_blk hb hg_s1 hb.size (by omega)
   have hL := hL_hb.below hb
   have hB_o0 := hn_s1
   refine Wl.sg rfl rfl <| Wl.sg rfl rfl <| Wl.nil <| Wq.next hK_27 <| Wc.ret <| Wq.then_ret <| retN (rs := [.cell 2 96, .tmp 3, .tmp 4]) (vs := [_, _, _]) rfl (.cell rfl (loadS Tryz.underlying96 (by kernel_rfl) (fun j u hu => hB_o0.at hu)) (.tmp rfl (.tmp rfl .nil))) ?_
   exact ⟨_, rfl, by unfold readV; rw [if_pos c0_9_, if_neg (by have := c1_22; omega)]; rfl, hb⟩
  have c0_9_ := c0_9
  have hq39 : Lib.hasPrefix s [39] = false := c0_9_
  refine Wc.skip <| Wq.next hK_5 <| Wc.seq fun _ hK_33 => Wc.seq fun _ hK_34 => Wc.region <| Wl.makeMap rfl ?_
  rintro g_o20 w_o20 hg_o20 hn_o20 hs_o20
  have hz_o20 := hs_o20.size
  have hb := hb.trans (hs_o20.mono hb.size)
  have hL := hL_hb.below hb
  have hB_o0 := Blk.below hB_o0 hs_o20
  have hM_o20 := hn_o20
  have hl_o20 := hM_o20.lt
  refine Wl.y (y_buildS (z := [(.int .i64 0), (.int .i64 0), (.float .f64 0), (str [])]) (pl := [(0, 1), (1, 1), (2, 1), (3, 1)]) (cs := [_, _, _, _]) Tryz.underlying96 (by kernel_rfl) (by kernel_rfl) rfl rfl rfl) rfl <| Wl.insert Tryz.underlying178 Tryz.underlying9 rfl rfl rfl hM_o20 (by rfl) ?_
  rintro w_o22 hn_o22 hg_o22
  have hz_o22 := hg_o22.size
  have hb := below_blk hb hg_o22 hb.size (by omega)
  have hL := hL_hb.below hb
  have hB_o0 := hB_o0.over hg_o22 (by omega)
  have hM_o20 := hn_o22
  refine Wl.call txt89ValD rfl rfl (truth_r _ _) rfl ?_
  rintro _ w_k2 ⟨rfl, hs_k2⟩
  have hz_k2 := hs_k2.size
  have hb := hb.trans (hs_k2.mono hb.size)
  have hL := hL_hb.below hb
  have hB_o0 := Blk.below hB_o0 hs_k2
  have hM_o20 := Mp.below hM_o20 hs_k2
  refine Wl.insert Tryz.underlying178 Tryz.underlying9 rfl rfl rfl hM_o20 (by rfl) ?_
  rintro w_o23 hn_o23 hg_o23
  have hz_o23 := hg_o23.size
  have hb := below_blk hb hg_o23 hb.size (by omega)
  have hL := hL_hb.below hb
  have hB_o0 := hB_o0.over hg_o23 (by omega)
  have hM_o20 := hn_o23
  refine Wl.call txt89ValD rfl rfl (truth_r _ _) rfl ?_
  rintro _ w_k3 ⟨rfl, hs_k3⟩
  have hz_k3 := hs_k3.size
  have hb := hb.trans (hs_k3.mono hb.size)
  have hL := hL_hb.below hb
  have hB_o0 := Blk.below hB_o0 hs_k3
  have hM_o20 := Mp.below hM_o20 hs_k3
  refine Wl.insert Tryz.underlying178 Tryz.underlying9 rfl rfl rfl hM_o20 (by rfl) ?_
  rintro w_o24 hn_o24 hg_o24
  have hz_o24 := hg_o24.size
  have hb := below_blk hb hg_o24 hb.size (by omega)
  have hL := hL_hb.below hb
  have hB_o0 := hB_o0.over hg_o24 (by omega)
  have hM_o20 := hn_o24
  refine Wl.mv rfl rfl <| Wl.range Tryz.underlying178 rfl hM_o20 rfl ?_
  rintro g_o26 w_o26 hg_o26 hn_o26 hs_o26
  have hz_o26 := hs_o26.size
  have hb := hb.trans (hs_o26.mono hb.size)
  have hL := hL_hb.below hb
  have hB_o0 := Blk.below hB_o0 hs_o26
  have hM_o20 := Mp.below hM_o20 hs_o26
  have hI_o26 := hn_o26
  have hl_o26 := hI_o26.lt
  refine Wl.nil <| Wq.next hK_34 <| Wc.block <| Wc.loop (X := List Nat) (fun seen => [(0, str s), (2, .pointer (some ⟨g_o0, 0, none⟩)), (3, .int .i64 0), (4, .bool false), (38, .pointer (some ⟨g_o26, 0, none⟩))]) (fun seen wr => Below w.heap.size w wr ∧ Blk wr g_o0 96 nullV.cells ∧ Mp wr g_o20 wordsKV ∧ It wr g_o26 g_o20 wordsKV.length seen ∧ (∀ (i : Nat) (p : List UInt8 × Value), i ∈ seen → wordsKV[i]? = some p → Lib.hasPrefix s p.1 = false)) (fun seen => leftN 3 seen) ([]) ?_ ?_ ?_
  · exact by repeat first | exact Sub.nil | refine Sub.cons' rfl (by first | rfl | exact int_eq (by omega) | exact int_eq (by simp) | (simp; done)) ?_
  · exact ⟨hb, hB_o0, hM_o20, hI_o26, fun _ _ h => by cases h⟩
  rintro seen wr hI_42 _ hL_41
  replace hI_42 : Below w.heap.size w wr ∧ Blk wr g_o0 96 nullV.cells ∧ Mp wr g_o20 wordsKV ∧ It wr g_o26 g_o20 wordsKV.length seen ∧ (∀ (i : Nat) (p : List UInt8 × Value), i ∈ seen → wordsKV[i]? = some p → Lib.hasPrefix s p.1 = false) := hI_42
  obtain ⟨hb, hB_o0, hM_o20, hI_o26, hsn⟩ := hI_42
  show Wc _ _ _ _ _ [(0, str s), (2, .pointer (some ⟨g_o0, 0, none⟩)), (3, .int .i64 0), (4, .bool false), (38, .pointer (some ⟨g_o26, 0, none⟩))] _
  have hL := hL_hb.below hb
  have hzhb_L0 := hb.size
  have hlhB_o0_L0 := hB_o0.lt
  have hlhM_o20_L0 := hM_o20.lt
  have hlhI_o26_L0 := hI_o26.lt
  have hll1 := hI_o26.lt
  have hll2 := hM_o20.lt
  have hll3 := hB_o0.lt
  refine Wc.seq fun _ hK_43 => Wc.region <| Wl.next rfl hI_o26 hM_o20 rfl (fun hall_o27 => ?_) ?_
  ·
   refine Wl.y (y_extract rfl rfl) rfl <| Wl.nil <| Wq.next hK_43 <| Wc.seq fun _ hK_46 => Wc.condF rfl rfl <| Wc.exit <| Wq.then_exit <| Wq.then_exit <| Wq.block_exit <| Wq.next hK_33 <| Wc.seq fun _ hK_47 => Wc.seq fun _ hK_48 => Wc.region ?_
   have hrd : readV pf uq s = match words3.find? (fun x => Lib.hasPrefix s x) with
     | some x => some (⟨3, 0, (pf x).getD 0, []⟩, x.length)
     | none => match floatAt pf s with
       | some r => some r
       | none => downI s (min (lead s) 20) := word_miss hq39 (fun i p hp => hsn i p (hall_o27 i (List.getElem?_eq_some_iff.1 hp).1) hp)
   refine Wl.litN (sz := 1) (vs := [_, _, _]) Tryz.underlying40 (by kernel_rfl) rfl rfl rfl rfl rfl rfl ?_
   rintro g_b1 w_b1 hg_b1 hn_b1 hs_b1
   have hz_b1 := hs_b1.size
   have hb := hb.trans (hs_b1.mono hb.size)
   have hL := hL_hb.below hb
   have hB_o0 := Blk.below hB_o0 hs_b1
   have hB_b1 := hn_b1
   have hl_b1 := hB_b1.lt
   refine Wl.y (y_lenl Tryz.underlying40 (by omega) rfl) rfl <| Wl.mv rfl rfl <| Wl.nil <| Wq.next hK_48 <| Wc.block <| Wc.loop (X := Nat) (fun k => [(0, str s), (2, .pointer (some ⟨g_o0, 0, none⟩)), (3, .int .i64 0), (4, .bool false), (50, .slice (some ⟨g_b1, 0, none⟩) 3 3), (51, .int .i64 3), (52, .int .i64 (k : Int))]) (fun k wr => k ≤ 3 ∧ Below w.heap.size w wr ∧ Blk wr g_o0 96 nullV.cells ∧ Blk wr g_b1 9 [str [110, 97, 110], str [105, 110, 102], str [45, 105, 110, 102]] ∧ (∀ j, j < k → Lib.hasPrefix s (words3.getD j []) = false)) (fun k => 3 - k) (0) ?_ ?_ ?_
   · exact by repeat first | exact Sub.nil | refine Sub.cons' rfl (by first | rfl | exact int_eq (by omega) | exact int_eq (by simp) | (simp; done)) ?_
   · exact ⟨by omega, hb, hB_o0, hB_b1, fun j hj => by omega⟩
   rintro k wr hI_53 _ hL_52
   replace hI_53 : k ≤ 3 ∧ Below w.heap.size w wr ∧ Blk wr g_o0 96 nullV.cells ∧ Blk wr g_b1 9 [str [110, 97, 110], str [105, 110, 102], str [45, 105, 110, 102]] ∧ (∀ j, j < k → Lib.hasPrefix s (words3.getD j []) = false) := hI_53
   obtain ⟨hk, hb, hB_o0, hB_b1, hsw⟩ := hI_53
   show Wc _ _ _ _ _ [(0, str s), (2, .pointer (some ⟨g_o0, 0, none⟩)), (3, .int .i64 0), (4, .bool false), (50, .slice (some ⟨g_b1, 0, none⟩) 3 3), (51, .int .i64 3), (52, .int .i64 (k : Int))] _
   have hL := hL_hb.below hb
   have hzhb_L1 := hb.size
   have hlhB_o0_L1 := hB_o0.lt
   have hlhB_b1_L1 := hB_b1.lt
   refine Wc.seq fun _ hK_54 => Wc.region <| Wl.y (y_lssi rfl rfl) rfl <| Wl.nil <| Wq.next hK_54 <| Wc.seq fun _ hK_56 => Wc.cond rfl (fun c4_57 => ?_) (fun c4_57 => ?_)
   ·
    have c4_57_ := c4_57
    simp only [DZ] at c4_57
    refine Wc.skip <| Wq.next hK_56 <| Wc.seq fun _ hK_58 => Wc.block <| Wc.seq fun _ hK_59 => ?_
    obtain ⟨p, v, hpe, hv, hcell⟩ := (hB_b1.rd 3 1 rfl).one (i := k) (by omega)
    cases hpe
    obtain ⟨hve, hwl, hwm⟩ := w3_at (by omega) hv
    subst hve
    refine Wc.region <| Wl.y (y_indexAddr Tryz.underlying40 sz9ValD rfl rfl (by omega) (by omega)) rfl <| Wl.l (l_load one9ValD rfl (by exact at1 hcell)) rfl <| Wl.sg rfl rfl <| Wl.nil <| Wq.next hK_59 <| Wc.seq fun _ hK_63 => Wc.region <| Wl.mv rfl rfl <| Wl.mv rfl rfl <| Wl.call txt41ValD rfl rfl (HasPrefix_r s _ _) rfl ?_
    rintro _ w_ ⟨rfl, hw_⟩
    have hw_ := hw_.symm; subst hw_
    refine Wl.nil <| Wq.next hK_63 <| Wc.cond rfl (fun c5_67 => ?_) (fun c5_67 => ?_)
    ·
     have c5_67_ := c5_67
     refine Wc.seq fun _ hK_68 => Wc.region <| Wl.mv rfl rfl <| Wl.call txt138ValD rfl rfl (hC.word _ hwm c5_67_ _ hL) rfl ?_
     rintro _ w_k6 ⟨rfl, hs_k6⟩
     have hz_k6 := hs_k6.size
     have hb := hb.trans (hs_k6.mono hb.size)
     have hL := hL_hb.below hb
     have hB_o0 := Blk.below hB_o0 hs_k6
     refine Wl.mv rfl rfl <| Wl.y (y_extract rfl rfl) rfl <| Wl.y (y_extract rfl rfl) rfl <| Wl.sg rfl rfl <| Wl.sg rfl rfl <| Wl.nil <| Wq.next hK_68 <| Wc.seq fun _ hK_76 => Wc.region <| Wl.mv rfl rfl <| Wl.y (y_buildS (z := [(.int .i64 0), (.int .i64 0), (.float .f64 0), (str [])]) (pl := [(0, 1), (1, 1), (2, 1), (3, 1)]) (cs := [_, _, _, _]) Tryz.underlying96 (by kernel_rfl) (by kernel_rfl) rfl rfl rfl) rfl <| Wl.mv rfl rfl <| Wl.y (y_lens Tryz.underlying9 (by omega) rfl) rfl <| Wl.storeS (by kernel_rfl) rfl rfl hB_o0 rfl rfl ?_
     rintro w_s4 hn_s4 hg_s4
     have hz_s4 := hg_s4.size
     have hb := below_blk hb hg_s4 hb.size (by omega)
     have hL := hL_hb.below hb
     have hB_o0 := hn_s4
     refine Wl.sg rfl rfl <| Wl.sg rfl rfl <| Wl.nil <| Wq.next hK_76 <| Wc.ret <| Wq.block_ret (Wq.then_ret (Wq.then_ret (Wq.block_ret (Wq.then_ret ?_))))
     refine retN (rs := [.cell 2 96, .tmp 3, .tmp 4]) (vs := [_, _, _]) rfl (.cell rfl (loadS Tryz.underlying96 (by kernel_rfl) (fun j u hu => hB_o0.at hu)) (.tmp rfl (.tmp rfl .nil))) ?_
     exact ⟨_, rfl, by rw [hrd, w3_find (pr := fun x => Lib.hasPrefix s x) (by omega) hsw c5_67_]; rfl, hb⟩
    have c5_67_ := c5_67
    refine Wc.skip <| Wq.block_normal <| Wq.next hK_58 <| Wc.region <| Wl.y (y_addI rfl rfl (by omega) (by omega)) rfl <| Wl.mv rfl rfl <| Wl.nil <| fun a_ ha_ => hL_52 _ _ (k + 1) (by omega) (by repeat first | exact Sub.nil | refine Sub.cons' rfl (by first | rfl | exact int_eq (by omega) | exact int_eq (by simp) | (simp; done)) ?_) ?_ a_ ha_
    exact ⟨by omega, hb, hB_o0, hB_b1, sw_snoc hsw c5_67_⟩
   have c4_57_ := c4_57
   simp only [DZ] at c4_57
   refine Wc.exit <| Wq.then_exit <| Wq.then_exit <| Wq.block_exit <| Wq.next hK_47 <| Wc.seq fun _ hK_85 => ?_
   have hrd2 : readV pf uq s = match floatAt pf s with
     | some r => some r
     | none => downI s (min (lead s) 20) := by rw [hrd, w3_none (pr := fun x => Lib.hasPrefix s x) (fun j hj => hsw j (by omega))]
   refine Wc.region <| Wl.mv rfl rfl <| Wl.call txt140ValD rfl rfl (TrimPrefix_r s _ _) rfl ?_
   rintro _ w_ ⟨rfl, hw_⟩
   have hw_ := hw_.symm; subst hw_
   refine Wl.call txt139ValD rfl rfl (digits_r _ (by omega) _) rfl ?_
   rintro _ w_k8 ⟨rfl, hs_k8⟩
   have hz_k8 := hs_k8.size
   have hb := hb.trans (hs_k8.mono hb.size)
   have hL := hL_hb.below hb
   have hB_o0 := Blk.below hB_o0 hs_k8
   refine Wl.mv rfl rfl <| Wl.y (y_lens Tryz.underlying9 (by omega) rfl) rfl <| Wl.y (y_addI rfl rfl (by omega) (by omega)) rfl <| Wl.mv rfl rfl <| Wl.call txt140ValD rfl rfl (TrimPrefix_r s _ _) rfl ?_
   rintro _ w_ ⟨rfl, hw_⟩
   have hw_ := hw_.symm; subst hw_
   refine Wl.y (y_lens Tryz.underlying9 (by omega) rfl) rfl <| Wl.y (y_eq (y_subI rfl rfl (by omega) (by omega)) (int_eq (lead_sum s))) rfl <| Wl.sg rfl rfl <| Wl.nil <| Wq.next hK_85 <| Wc.seq fun _ hK_97 => Wc.seq fun _ hK_98 => Wc.meet (X := Unit) (fun u_ => [(0, str s), (2, .pointer (some ⟨g_o0, 0, none⟩)), (3, .int .i64 0), (4, .bool false), (13, .int .i64 (lead s : Nat)), (88, .bool (decide (s[lead s]? = some 112)))]) (fun u_ wr => Below w.heap.size w wr ∧ Blk wr g_o0 96 nullV.cells) (fun _ hM_99 => ?_) ?_
   ·
    refine Wc.region <| Wl.mv rfl rfl <| Wl.mv rfl rfl <| Wl.y (y_lens Tryz.underlying9 (by omega) rfl) rfl <| Wl.y (y_lssi rfl rfl) rfl <| Wl.mv rfl rfl <| Wl.guardT rfl rfl rfl (fun g_105 => ?_) (fun g_105 => ?_)
    ·
     have g_105_ := g_105
     simp only [DZ] at g_105
     refine Wl.mv rfl rfl <| Wl.on' rfl rfl g_105_ <| Wl.mv rfl rfl <| Wl.on' rfl rfl g_105_ <| Wl.y (y_indexs Tryz.underlying9 rfl rfl (by omega) (by omega)) rfl <| Wl.on' rfl rfl g_105_ <| Wl.y (y_eqli rfl rfl) rfl <| Wl.y (y_pickT rfl g_105_ rfl) rfl <| Wl.nil <| Wq.meet hM_99 (()) (by repeat first | exact Sub.nil | refine Sub.cons' rfl (by first | rfl | exact bool_eq (at_p (by have := g_105; omega) rfl 112) | (refine bool_eq (decide_eq_false ?_).symm; rw [List.getElem?_eq_none (by have := g_105; omega)]; simp)) ?_) ?_
     exact ⟨hb, hB_o0⟩
    have g_105_ := g_105
    simp only [DZ] at g_105
    refine Wl.off' rfl rfl g_105_ rfl rfl <| Wl.off' rfl rfl g_105_ rfl rfl <| Wl.off' rfl rfl g_105_ rfl rfl <| Wl.y (y_pickF rfl g_105_ rfl) rfl <| Wl.nil <| Wq.meet hM_99 (()) (by repeat first | exact Sub.nil | refine Sub.cons' rfl (by first | rfl | exact bool_eq (at_p (by have := g_105; omega) rfl 112) | (refine bool_eq (decide_eq_false ?_).symm; rw [List.getElem?_eq_none (by have := g_105; omega)]; simp)) ?_) ?_
    exact ⟨hb, hB_o0⟩
   rintro u_ wr hI_112
   replace hI_112 : Below w.heap.size w wr ∧ Blk wr g_o0 96 nullV.cells := hI_112
   obtain ⟨hb, hB_o0⟩ := hI_112
   show Wq _ _ _ _ [(0, str s), (2, .pointer (some ⟨g_o0, 0, none⟩)), (3, .int .i64 0), (4, .bool false), (13, .int .i64 (lead s : Nat)), (88, .bool (decide (s[lead s]? = some 112)))] _
   have hL := hL_hb.below hb
   have hzhb_g19 := hb.size
   have hlhB_o0_g19 := hB_o0.lt
   refine Wq.next hK_98 <| Wc.meet (X := Unit) (fun u_ => [(0, str s), (2, .pointer (some ⟨g_o0, 0, none⟩)), (3, .int .i64 0), (4, .bool false), (13, .int .i64 (lead s : Nat))]) (fun u_ wr => Below w.heap.size w wr ∧ Blk wr g_o0 96 nullV.cells ∧ floatAt pf s = none) (fun _ hM_113 => ?_) ?_
   ·
    refine Wc.cond rfl (fun c6_114 => ?_) (fun c6_114 => ?_)
    ·
     have c6_114_ := c6_114
     simp only [DZ] at c6_114
     have h112 : s[lead s]? = some 112 := c6_114
     obtain ⟨hK1, hK2, hK3⟩ := floatK_bd s h112
     obtain ⟨hM1, hM2⟩ := floatM_bd s h112
     refine Wc.seq fun _ hK_115 => Wc.region <| Wl.mv rfl rfl <| Wl.y (y_addI rfl rfl (by omega) (by omega)) rfl <| Wl.sg rfl rfl <| Wl.nil <| Wq.next hK_115 <| Wc.seq fun _ hK_119 => Wc.seq fun _ hK_120 => Wc.meet (X := Unit) (fun u_ => [(0, str s), (2, .pointer (some ⟨g_o0, 0, none⟩)), (3, .int .i64 0), (4, .bool false), (13, .int .i64 (lead s : Nat)), (14, .int .i64 ((lead s + 1 : Nat) : Int)), (100, .bool (decide (s[lead s + 1]? = some 45)))]) (fun u_ wr => Below w.heap.size w wr ∧ Blk wr g_o0 96 nullV.cells) (fun _ hM_121 => ?_) ?_
     ·
      refine Wc.region <| Wl.mv rfl rfl <| Wl.mv rfl rfl <| Wl.y (y_lens Tryz.underlying9 (by omega) rfl) rfl <| Wl.y (y_lssi rfl rfl) rfl <| Wl.mv rfl rfl <| Wl.guardT rfl rfl rfl (fun g_127 => ?_) (fun g_127 => ?_)
      ·
       have g_127_ := g_127
       simp only [DZ] at g_127
       refine Wl.mv rfl rfl <| Wl.on' rfl rfl g_127_ <| Wl.mv rfl rfl <| Wl.on' rfl rfl g_127_ <| Wl.y (y_indexs Tryz.underlying9 rfl rfl (by omega) (by omega)) rfl <| Wl.on' rfl rfl g_127_ <| Wl.y (y_eqli rfl rfl) rfl <| Wl.y (y_pickT rfl g_127_ rfl) rfl <| Wl.nil <| Wq.meet hM_121 (()) (by repeat first | exact Sub.nil | refine Sub.cons' rfl (by first | rfl | exact int_eq (by omega) | exact bool_eq (at_p (by have := g_127; omega) (by rw [show ((lead s : Nat) : Int) + 1 = ((lead s + 1 : Nat) : Int) by omega, Int.toNat_natCast]) 45) | (refine bool_eq (decide_eq_false ?_).symm; rw [List.getElem?_eq_none (by have := g_127; omega)]; simp)) ?_) ?_
       exact ⟨hb, hB_o0⟩
      have g_127_ := g_127
      simp only [DZ] at g_127
      refine Wl.off' rfl rfl g_127_ rfl rfl <| Wl.off' rfl rfl g_127_ rfl rfl <| Wl.off' rfl rfl g_127_ rfl rfl <| Wl.y (y_pickF rfl g_127_ rfl) rfl <| Wl.nil <| Wq.meet hM_121 (()) (by repeat first | exact Sub.nil | refine Sub.cons' rfl (by first | rfl | exact int_eq (by omega) | exact bool_eq (at_p (by have := g_127; omega) (by rw [show ((lead s : Nat) : Int) + 1 = ((lead s + 1 : Nat) : Int) by omega, Int.toNat_natCast]) 45) | (refine bool_eq (decide_eq_false ?_).symm; rw [List.getElem?_eq_none (by have := g_127; omega)]; simp)) ?_) ?_
      exact ⟨hb, hB_o0⟩
     rintro u_ wr hI_134
     replace hI_134 : Below w.heap.size w wr ∧ Blk wr g_o0 96 nullV.cells := hI_134
     obtain ⟨hb, hB_o0⟩ := hI_134
     show Wq _ _ _ _ [(0, str s), (2, .pointer (some ⟨g_o0, 0, none⟩)), (3, .int .i64 0), (4, .bool false), (13, .int .i64 (lead s : Nat)), (14, .int .i64 ((lead s + 1 : Nat) : Int)), (100, .bool (decide (s[lead s + 1]? = some 45)))] _
     have hL := hL_hb.below hb
     have hzhb_g21 := hb.size
     have hlhB_o0_g21 := hB_o0.lt
     refine Wq.next hK_120 <| Wc.meet (X := Unit) (fun u_ => [(0, str s), (2, .pointer (some ⟨g_o0, 0, none⟩)), (3, .int .i64 0), (4, .bool false), (13, .int .i64 (lead s : Nat)), (14, .int .i64 (floatK s : Nat))]) (fun u_ wr => Below w.heap.size w wr ∧ Blk wr g_o0 96 nullV.cells) (fun _ hM_135 => ?_) ?_
     ·
      refine Wc.cond rfl (fun c7_136 => ?_) (fun c7_136 => ?_)
      ·
       have c7_136_ := c7_136
       simp only [DZ] at c7_136
       refine Wc.region <| Wl.mv rfl rfl <| Wl.y (y_addI rfl rfl (by omega) (by omega)) rfl <| Wl.sg rfl rfl <| Wl.nil <| Wq.meet hM_135 (()) (by repeat first | exact Sub.nil | refine Sub.cons' rfl (by first | rfl | exact int_eq (by unfold floatK; rw [if_pos c7_136]; omega) | exact int_eq (by unfold floatK; rw [if_neg c7_136])) ?_) ?_
       exact ⟨hb, hB_o0⟩
      have c7_136_ := c7_136
      simp only [DZ] at c7_136
      refine Wc.skip <| Wq.meet hM_135 (()) (by repeat first | exact Sub.nil | refine Sub.cons' rfl (by first | rfl | exact int_eq (by unfold floatK; rw [if_pos c7_136]; omega) | exact int_eq (by unfold floatK; rw [if_neg c7_136])) ?_) ?_
      exact ⟨hb, hB_o0⟩
     rintro u_ wr hI_140
     replace hI_140 : Below w.heap.size w wr ∧ Blk wr g_o0 96 nullV.cells := hI_140
     obtain ⟨hb, hB_o0⟩ := hI_140
     show Wq _ _ _ _ [(0, str s), (2, .pointer (some ⟨g_o0, 0, none⟩)), (3, .int .i64 0), (4, .bool false), (13, .int .i64 (lead s : Nat)), (14, .int .i64 (floatK s : Nat))] _
     have hL := hL_hb.below hb
     have hzhb_c7 := hb.size
     have hlhB_o0_c7 := hB_o0.lt
     refine Wq.next hK_119 <| Wc.seq fun _ hK_141 => Wc.region <| Wl.mv rfl rfl <| Wl.mv rfl rfl <| Wl.mv rfl rfl <| Wl.mv rfl rfl <| Wl.y (y_lens Tryz.underlying9 (by omega) rfl) rfl <| Wl.y (y_eq (y_min rfl rfl) (int_eq (show min ((floatK s : Nat) : Int) (s.length : Int) = (floatK s : Nat) by omega))) rfl <| Wl.y (y_slicesL Tryz.underlying9 rfl rfl (by omega) (by omega)) rfl <| Wl.call txt139ValD rfl rfl (digits_r _ (by simp; omega) _) rfl ?_
     rintro _ w_k10 ⟨rfl, hs_k10⟩
     have hz_k10 := hs_k10.size
     have hb := hb.trans (hs_k10.mono hb.size)
     have hL := hL_hb.below hb
     have hB_o0 := Blk.below hB_o0 hs_k10
     refine Wl.y (y_eq (y_min rfl rfl) (int_eq (show min ((nDig (s.drop (floatK s)) : Nat) : Int) 4 = (floatM s : Nat) by unfold floatM; omega))) rfl <| Wl.y (y_addI rfl rfl (by omega) (by omega)) rfl <| Wl.sg rfl rfl <| Wl.nil <| Wq.next hK_141 <| Wc.block <| Wc.loop (X := Nat) (fun j => [(0, str s), (2, .pointer (some ⟨g_o0, 0, none⟩)), (3, .int .i64 0), (4, .bool false), (13, .int .i64 (lead s : Nat)), (14, .int .i64 (floatK s : Nat)), (15, .int .i64 ((floatK s + j : Nat) : Int))]) (fun j wr => j ≤ floatM s ∧ Below w.heap.size w wr ∧ Blk wr g_o0 96 nullV.cells ∧ floatAt pf s = downF pf s (floatK s) j) (fun j => j) (floatM s) ?_ ?_ ?_
     · exact by repeat first | exact Sub.nil | refine Sub.cons' rfl (by first | rfl | exact int_eq (by omega) | exact int_eq (by simp) | (simp; done)) ?_
     · exact ⟨by omega, hb, hB_o0, if_pos h112⟩
     rintro j wr hI_154 _ hL_153
     replace hI_154 : j ≤ floatM s ∧ Below w.heap.size w wr ∧ Blk wr g_o0 96 nullV.cells ∧ floatAt pf s = downF pf s (floatK s) j := hI_154
     obtain ⟨hj, hb, hB_o0, hfd⟩ := hI_154
     show Wc _ _ _ _ _ [(0, str s), (2, .pointer (some ⟨g_o0, 0, none⟩)), (3, .int .i64 0), (4, .bool false), (13, .int .i64 (lead s : Nat)), (14, .int .i64 (floatK s : Nat)), (15, .int .i64 ((floatK s + j : Nat) : Int))] _
     have hL := hL_hb.below hb
     have hzhb_L2 := hb.size
     have hlhB_o0_L2 := hB_o0.lt
     refine Wc.seq fun _ hK_155 => Wc.seq fun _ hK_156 => Wc.region <| Wl.mv rfl rfl <| Wl.mv rfl rfl <| Wl.y (y_gtri rfl rfl) rfl <| Wl.nil <| Wq.next hK_156 <| Wc.cond rfl (fun c8_160 => ?_) (fun c8_160 => ?_)
     ·
      have c8_160_ := c8_160
      simp only [DZ] at c8_160
      have hj0 : 0 < j := by have := c8_160; omega
      refine Wc.skip <| Wq.next hK_155 <| Wc.seq fun _ hK_161 => Wc.block <| Wc.seq fun _ hK_162 => Wc.region <| Wl.mv rfl rfl <| Wl.mv rfl rfl <| Wl.y (y_slicesH Tryz.underlying9 rfl rfl (by omega) (by omega)) rfl <| Wl.call txt138ValD rfl rfl (hC.prs _ (has_p h112 (by omega)) _ hL) rfl ?_
      rintro _ w_k11 ⟨rfl, hs_k11⟩
      have hz_k11 := hs_k11.size
      have hb := hb.trans (hs_k11.mono hb.size)
      have hL := hL_hb.below hb
      have hB_o0 := Blk.below hB_o0 hs_k11
      refine Wl.mv rfl rfl <| Wl.y (y_extract rfl rfl) rfl <| Wl.y (y_extract rfl rfl) rfl <| Wl.sg rfl rfl <| Wl.sg rfl rfl <| Wl.nil <| Wq.next hK_162 <| Wc.seq fun _ hK_172 => Wc.region <| Wl.mv rfl rfl <| Wl.y (y_eqli rfl rfl) rfl <| Wl.nil <| Wq.next hK_172 <| Wc.cond rfl (fun c9_175 => ?_) (fun c9_175 => ?_)
      ·
       have c9_175_ := c9_175
       simp only [DZ] at c9_175
       have hpf : (pf (s.take (floatK s + j))).isSome = true := some0 c9_175
       refine Wc.seq fun _ hK_176 => Wc.region <| Wl.mv rfl rfl <| Wl.y (y_buildS (z := [(.int .i64 0), (.int .i64 0), (.float .f64 0), (str [])]) (pl := [(0, 1), (1, 1), (2, 1), (3, 1)]) (cs := [_, _, _, _]) Tryz.underlying96 (by kernel_rfl) (by kernel_rfl) rfl rfl rfl) rfl <| Wl.mv rfl rfl <| Wl.storeS (by kernel_rfl) rfl rfl hB_o0 rfl rfl ?_
       rintro w_s5 hn_s5 hg_s5
       have hz_s5 := hg_s5.size
       have hb := below_blk hb hg_s5 hb.size (by omega)
       have hL := hL_hb.below hb
       have hB_o0 := hn_s5
       refine Wl.sg rfl rfl <| Wl.sg rfl rfl <| Wl.nil <| Wq.next hK_176 <| Wc.ret <| Wq.block_ret (Wq.then_ret (Wq.then_ret (Wq.block_ret (Wq.then_ret (Wq.then_ret ?_)))))
       refine retN (rs := [.cell 2 96, .tmp 3, .tmp 4]) (vs := [_, _, _]) rfl (.cell rfl (loadS Tryz.underlying96 (by kernel_rfl) (fun j u hu => hB_o0.at hu)) (.tmp rfl (.tmp rfl .nil))) ?_
       exact ⟨_, rfl, by rw [hrd2, hfd, downF_hit hpf hj0]; rfl, hb⟩
      have c9_175_ := c9_175
      simp only [DZ] at c9_175
      have hpf : pf (s.take (floatK s + j)) = none := none0 c9_175
      refine Wc.skip <| Wq.block_normal <| Wq.next hK_161 <| Wc.region <| Wl.mv rfl rfl <| Wl.y (y_subI rfl rfl (by omega) (by omega)) rfl <| Wl.sg rfl rfl <| Wl.nil <| fun a_ ha_ => hL_153 _ _ (j - 1) (by omega) (by repeat first | exact Sub.nil | refine Sub.cons' rfl (by first | rfl | exact int_eq (by omega) | exact int_eq (by simp) | (simp; done)) ?_) ?_ a_ ha_
      exact ⟨by omega, hb, hB_o0, by rw [hfd]; exact downF_no hpf hj0⟩
     have c8_160_ := c8_160
     simp only [DZ] at c8_160
     refine Wc.exit <| Wq.then_exit <| Wq.then_exit <| Wq.block_exit <| Wq.meet hM_113 (()) (by repeat first | exact Sub.nil | refine Sub.cons' rfl (by first | rfl | exact int_eq (by omega) | exact int_eq (by simp) | (simp; done)) ?_) ?_
     exact ⟨hb, hB_o0, by rw [hfd, show j = 0 by omega]; rfl⟩
    have c6_114_ := c6_114
    simp only [DZ] at c6_114
    refine Wc.skip <| Wq.meet hM_113 (()) (by repeat first | exact Sub.nil | refine Sub.cons' rfl (by first | rfl | exact int_eq (by omega) | exact int_eq (by simp) | (simp; done)) ?_) ?_
    exact ⟨hb, hB_o0, if_neg c6_114⟩
   rintro u_ wr hI_185
   replace hI_185 : Below w.heap.size w wr ∧ Blk wr g_o0 96 nullV.cells ∧ floatAt pf s = none := hI_185
   obtain ⟨hb, hB_o0, hfa⟩ := hI_185
   show Wq _ _ _ _ [(0, str s), (2, .pointer (some ⟨g_o0, 0, none⟩)), (3, .int .i64 0), (4, .bool false), (13, .int .i64 (lead s : Nat))] _
   have hL := hL_hb.below hb
   have hzhb_c6 := hb.size
   have hlhB_o0_c6 := hB_o0.lt
   refine Wq.next hK_97 <| Wc.seq fun _ hK_186 => Wc.seq fun _ hK_187 => ?_
   have hrd3 : readV pf uq s = downI s (min (lead s) 20) := by rw [hrd2, hfa]
   refine Wc.region <| Wl.mv rfl rfl <| Wl.y (y_eq (y_min rfl rfl) (int_eq (show min ((lead s : Nat) : Int) 20 = (min (lead s) 20 : Nat) by omega))) rfl <| Wl.sg rfl rfl <| Wl.nil <| Wq.next hK_187 <| Wc.block <| Wc.loop (X := Nat) (fun j => [(0, str s), (2, .pointer (some ⟨g_o0, 0, none⟩)), (3, .int .i64 0), (4, .bool false), (13, .int .i64 (j : Int))]) (fun j wr => j ≤ min (lead s) 20 ∧ Below w.heap.size w wr ∧ Blk wr g_o0 96 nullV.cells ∧ readV pf uq s = downI s j) (fun j => j) (min (lead s) 20) ?_ ?_ ?_
   · exact by repeat first | exact Sub.nil | refine Sub.cons' rfl (by first | rfl | exact int_eq (by omega) | exact int_eq (by simp) | (simp; done)) ?_
   · exact ⟨by omega, hb, hB_o0, hrd3⟩
   rintro j wr hI_192 _ hL_191
   replace hI_192 : j ≤ min (lead s) 20 ∧ Below w.heap.size w wr ∧ Blk wr g_o0 96 nullV.cells ∧ readV pf uq s = downI s j := hI_192
   obtain ⟨hj, hb, hB_o0, hri⟩ := hI_192
   show Wc _ _ _ _ _ [(0, str s), (2, .pointer (some ⟨g_o0, 0, none⟩)), (3, .int .i64 0), (4, .bool false), (13, .int .i64 (j : Int))] _
   have hL := hL_hb.below hb
   have hzhb_L3 := hb.size
   have hlhB_o0_L3 := hB_o0.lt
   refine Wc.seq fun _ hK_193 => Wc.seq fun _ hK_194 => Wc.region <| Wl.mv rfl rfl <| Wl.y (y_gtri rfl rfl) rfl <| Wl.nil <| Wq.next hK_194 <| Wc.cond rfl (fun c10_197 => ?_) (fun c10_197 => ?_)
   ·
    have c10_197_ := c10_197
    simp only [DZ] at c10_197
    have hj0 : 0 < j := by have := c10_197; omega
    refine Wc.skip <| Wq.next hK_193 <| Wc.seq fun _ hK_198 => Wc.block <| Wc.seq fun _ hK_199 => Wc.region <| Wl.mv rfl rfl <| Wl.mv rfl rfl <| Wl.y (y_slicesH Tryz.underlying9 rfl rfl (by omega) (by omega)) rfl <| Wl.call txt141ValD rfl rfl (ParseInt_r _ (by simp; omega) _ hL) rfl ?_
    rintro _ w_k12 ⟨⟨n, e, rfl, hie, hpi⟩, hs_k12⟩
    have hz_k12 := hs_k12.size
    have hb := hb.trans (hs_k12.mono hb.size)
    have hL := hL_hb.below hb
    have hB_o0 := Blk.below hB_o0 hs_k12
    refine Wl.mv rfl rfl <| Wl.y (y_extract rfl rfl) rfl <| Wl.y (y_extract rfl rfl) rfl <| Wl.sg rfl rfl <| Wl.sg rfl rfl <| Wl.nil <| Wq.next hK_199 <| Wc.seq fun _ hK_209 => Wc.quiet (by kernel_rfl) (by kernel_rfl) <| Wy.y (y_move rfl) rfl <| Wy.y (y_eqlN (by kernel_rfl) rfl (hie)) rfl <| Wy.y (y_move rfl) rfl <| Wy.guardT rfl rfl rfl (fun g_213 => ?_) (fun g_213 => ?_)
    ·
     have g_213_ := g_213
     have hpn := nilT hpi g_213_
     obtain ⟨hn0, hn1⟩ := parseI_bd hpn
     refine Wy.y (y_move rfl) rfl <| Wy.on' rfl rfl g_213_ <| Wy.call txt86ValD rfl rfl (fun wq hq => by have hL := hL.below hq; have hB_o0 := Blk.below hB_o0 hq; exact FormatInt_r _ hn0 hn1 _ hL) rfl <| Wy.on' rfl rfl g_213_ <| Wy.y (y_move rfl) rfl <| Wy.on' rfl rfl g_213_ <| Wy.y (y_move rfl) rfl <| Wy.on' rfl rfl g_213_ <| Wy.y (y_slicesH Tryz.underlying9 rfl rfl (by omega) (by omega)) rfl <| Wy.on' rfl rfl g_213_ <| Wy.y (y_eqls rfl rfl) rfl <| Wy.y (y_pickT rfl g_213_ rfl) rfl <| Wy.nil fun w_g32 hs_g32 => ?_
     have hz_g32 := hs_g32.size
     have hb := hb.trans (hs_g32.mono hb.size)
     have hL := hL_hb.below hb
     have hB_o0 := Blk.below hB_o0 hs_g32
     refine Wq.next hK_209 <| Wc.cond rfl (fun c11_221 => ?_) (fun c11_221 => ?_)
     ·
      have c11_221_ := c11_221
      simp only [DZ] at c11_221
      refine Wc.seq fun _ hK_222 => Wc.region <| Wl.mv rfl rfl <| Wl.y (y_buildS (z := [(.int .i64 0), (.int .i64 0), (.float .f64 0), (str [])]) (pl := [(0, 1), (1, 1), (2, 1), (3, 1)]) (cs := [_, _, _, _]) Tryz.underlying96 (by kernel_rfl) (by kernel_rfl) rfl rfl rfl) rfl <| Wl.mv rfl rfl <| Wl.storeS (by kernel_rfl) rfl rfl hB_o0 rfl rfl ?_
      rintro w_s6 hn_s6 hg_s6
      have hz_s6 := hg_s6.size
      have hb := below_blk hb hg_s6 hb.size (by omega)
      have hL := hL_hb.below hb
      have hB_o0 := hn_s6
      refine Wl.sg rfl rfl <| Wl.sg rfl rfl <| Wl.nil <| Wq.next hK_222 <| Wc.ret <| Wq.block_ret (Wq.then_ret (Wq.then_ret (Wq.block_ret (Wq.then_ret ?_))))
      refine retN (rs := [.cell 2 96, .tmp 3, .tmp 4]) (vs := [_, _, _]) rfl (.cell rfl (loadS Tryz.underlying96 (by kernel_rfl) (fun j u hu => hB_o0.at hu)) (.tmp rfl (.tmp rfl .nil))) ?_
      exact ⟨_, rfl, by rw [hri, downI_hit (j := j) hpn c11_221_ hj0]; rfl, hb⟩
     have c11_221_ := c11_221
     simp only [DZ] at c11_221
     refine Wc.skip <| Wq.block_normal <| Wq.next hK_198 <| Wc.region <| Wl.mv rfl rfl <| Wl.y (y_subI rfl rfl (by omega) (by omega)) rfl <| Wl.sg rfl rfl <| Wl.nil <| fun a_ ha_ => hL_191 _ _ (j - 1) (by omega) (by repeat first | exact Sub.nil | refine Sub.cons' rfl (by first | rfl | exact int_eq (by omega) | exact int_eq (by simp) | (simp; done)) ?_) ?_ a_ ha_
     exact ⟨by omega, hb, hB_o0, by rw [hri]; exact downI_no2 hpn c11_221_ hj0⟩
    have g_213_ := g_213
    refine Wy.off' rfl rfl g_213_ rfl rfl <| Wy.off' rfl rfl g_213_ rfl rfl <| Wy.off' rfl rfl g_213_ rfl rfl <| Wy.off' rfl rfl g_213_ rfl rfl <| Wy.off' rfl rfl g_213_ rfl rfl <| Wy.y (y_pickF rfl g_213_ rfl) rfl <| Wy.nil fun w_g32 hs_g32 => ?_
    have hz_g32 := hs_g32.size
    have hb := hb.trans (hs_g32.mono hb.size)
    have hL := hL_hb.below hb
    have hB_o0 := Blk.below hB_o0 hs_g32
    refine Wq.next hK_209 <| Wc.condF rfl rfl <| Wc.skip <| Wq.block_normal <| Wq.next hK_198 <| Wc.region <| Wl.mv rfl rfl <| Wl.y (y_subI rfl rfl (by omega) (by omega)) rfl <| Wl.sg rfl rfl <| Wl.nil <| fun a_ ha_ => hL_191 _ _ (j - 1) (by omega) (by repeat first | exact Sub.nil | refine Sub.cons' rfl (by first | rfl | exact int_eq (by omega) | exact int_eq (by simp) | (simp; done)) ?_) ?_ a_ ha_
    exact ⟨by omega, hb, hB_o0, by rw [hri]; exact downI_no (nilF hpi g_213_) hj0⟩
   have c10_197_ := c10_197
   simp only [DZ] at c10_197
   refine Wc.exit <| Wq.then_exit <| Wq.then_exit <| Wq.block_exit <| Wq.next hK_186 <| Wc.seq fun _ hK_235 => Wc.region <| Wl.y (y_buildS (z := [(.int .i64 0), (.int .i64 0), (.float .f64 0), (str [])]) (pl := [(0, 1), (1, 1), (2, 1), (3, 1)]) (cs := [_, _, _, _]) Tryz.underlying96 (by kernel_rfl) (by kernel_rfl) rfl rfl rfl) rfl <| Wl.storeS (by kernel_rfl) rfl rfl hB_o0 rfl rfl ?_
   rintro w_s7 hn_s7 hg_s7
   have hz_s7 := hg_s7.size
   have hb := below_blk hb hg_s7 hb.size (by omega)
   have hL := hL_hb.below hb
   have hB_o0 := hn_s7
   refine Wl.sg rfl rfl <| Wl.sg rfl rfl <| Wl.nil <| Wq.next hK_235 <| Wc.ret <| retN (rs := [.cell 2 96, .tmp 3, .tmp 4]) (vs := [_, _, _]) rfl (.cell rfl (loadS Tryz.underlying96 (by kernel_rfl) (fun j u hu => hB_o0.at hu)) (.tmp rfl (.tmp rfl .nil))) ?_
   exact ⟨_, rfl, by rw [hri, show j = 0 by have := c10_197; omega]; rfl, hb⟩
  rintro i_o27 p_o27 w_o27 hp_o27 hi_o27 hns_o27 hn_o27 hg_o27
  have hz_o27 := hg_o27.size
  have hb := below_blk hb hg_o27 hb.size (by omega)
  have hL := hL_hb.below hb
  have hB_o0 := hB_o0.over hg_o27 (by omega)
  have hM_o20 := hM_o20.over hg_o27 (by omega)
  have hI_o26 := hn_o27
  refine Wl.y (y_extract rfl rfl) rfl <| Wl.nil <| Wq.next hK_43 <| Wc.seq fun _ hK_240 => Wc.condT rfl rfl <| Wc.skip <| Wq.next hK_240 <| Wc.block <| Wc.seq fun _ hK_241 => Wc.region ?_
  obtain ⟨pk, pv⟩ := p_o27
  obtain ⟨v, hv, hpl⟩ := words_val hp_o27
  replace hv : pv = v.enc := hv
  replace hpl : pk.length ≤ 5 := hpl
  subst hv
  refine Wl.l (l_entry rfl hI_o26 hM_o20 (by exact hp_o27)) rfl <| Wl.y (y_extract rfl rfl) rfl <| Wl.y (y_extract rfl rfl) rfl <| Wl.allocN (z := (.agg #[(.int .i64 0), (.int .i64 0), (.float .f64 0), (str [])])) (by kernel_rfl) rfl ?_
  rintro g_o32 w_o32 hg_o32 hn_o32 hs_o32
  have hz_o32 := hs_o32.size
  have hb := hb.trans (hs_o32.mono hb.size)
  have hL := hL_hb.below hb
  have hB_o0 := Blk.below hB_o0 hs_o32
  have hM_o20 := Mp.below hM_o20 hs_o32
  have hI_o26 := It.below hI_o26 hs_o32
  have hB_o32 := hn_o32
  have hl_o32 := hB_o32.lt
  refine Wl.sg rfl rfl <| Wl.storeS (by kernel_rfl) rfl rfl hB_o32 rfl rfl ?_
  rintro w_s2 hn_s2 hg_s2
  have hz_s2 := hg_s2.size
  have hb := below_blk hb hg_s2 hb.size (by omega)
  have hL := hL_hb.below hb
  have hB_o0 := hB_o0.over hg_s2 (by omega)
  have hM_o20 := hM_o20.over hg_s2 (by omega)
  have hI_o26 := hI_o26.over hg_s2 (by omega)
  have hB_o32 := hn_s2
  refine Wl.nil <| Wq.next hK_241 <| Wc.seq fun _ hK_247 => Wc.region <| Wl.mv rfl rfl <| Wl.mv rfl rfl <| Wl.call txt41ValD rfl rfl (HasPrefix_r s pk _) rfl ?_
  rintro _ w_ ⟨rfl, hw_⟩
  have hw_ := hw_.symm; subst hw_
  refine Wl.nil <| Wq.next hK_247 <| Wc.cond rfl (fun c3_251 => ?_) (fun c3_251 => ?_)
  ·
   have c3_251_ := c3_251
   refine Wc.seq fun _ hK_252 => Wc.region <| Wl.l (l_loadS Tryz.underlying96 (by kernel_rfl) rfl (by exact fun j u hu => hB_o32.at hu)) rfl <| Wl.mv rfl rfl ?_
   refine Wl.y (y_lens Tryz.underlying9 (Nat.le_trans hpl (by decide)) rfl) rfl <| Wl.storeS (by kernel_rfl) rfl rfl hB_o0 rfl rfl ?_
   rintro w_s3 hn_s3 hg_s3
   have hz_s3 := hg_s3.size
   have hb := below_blk hb hg_s3 hb.size (by omega)
   have hL := hL_hb.below hb
   have hB_o0 := hn_s3
   refine Wl.sg rfl rfl <| Wl.sg rfl rfl <| Wl.nil <| Wq.next hK_252 <| Wc.ret <| Wq.block_ret (Wq.then_ret (Wq.block_ret (Wq.then_ret ?_)))
   refine retN (rs := [.cell 2 96, .tmp 3, .tmp 4]) (vs := [_, _, _]) rfl (.cell rfl (loadS Tryz.underlying96 (by kernel_rfl) (fun j u hu => hB_o0.at hu)) (.tmp rfl (.tmp rfl .nil))) ?_
   exact ⟨_, rfl, by obtain ⟨v', hv', hr'⟩ := word_hit (pf := pf) (uq := uq) hq39 hp_o27 c3_251_; rw [hr']; show _ = Value.tuple #[v'.enc, _, _]; rw [← hv']; rfl, hb⟩
  have c3_251_ := c3_251
  refine Wc.skip <| Wq.block_normal <| fun a_ ha_ => hL_41 _ _ (seen ++ [i_o27]) (leftN_lt hi_o27 hns_o27) (by repeat first | exact Sub.nil | refine Sub.cons' rfl (by first | rfl | exact int_eq (by omega) | exact int_eq (by simp) | (simp; done)) ?_) ?_ a_ ha_
  exact ⟨hb, hB_o0, hM_o20, hI_o26, word_snoc hsn hp_o27 c3_251_⟩
end Go.Proofs.YtjmlknjbhbfneaaGreatDoor
namespace Go.Bw
open Go.RowKit
set_option linter.unusedVariables false
set_option linter.unusedSimpArgs false
section
variable {P : Program} {N : Nat} {D : List Deferred} {env env' : Env} {a : Act} {w w' : World} {Q : Exit → Act → World → Prop}
variable {ops : Array Oper} {rest : List Oper} {d : Nat} {op : Op} {ty : TypeId} {pos : String} {af : Array Edge}
theorem below_bytes' (w : World) (e : TypeId) (t : ByteArray) : Below w.heap.size w (Lib.bytesWorld w e t) := by
  refine ((Below.refl _ _).drew.alloc (Nat.le_refl _) (.cells (Lib.bytesCells w e t) e)).trans ?_
  unfold Lib.bytesWorld World.freeze
  split
  · exact Below.refl _ _
  · refine ⟨rfl, rfl, rfl, by simp, fun k hk => ?_⟩
    show ((w.drew.alloc _).heap.modify _ _)[k]? = _
    rw [Array.getElem?_modify, if_neg (by have hk' : k < w.heap.size := hk; show w.heap.size ≠ k; omega)]
theorem rd_bytes (w : World) (e : TypeId) (l : List UInt8) : Rd (Lib.bytesWorld w e ⟨l.toArray⟩) 1 (some ⟨w.heap.size, 0, none⟩) l.length (u8s l) :=
  ⟨by rw [u8s_length, Nat.mul_one], fun _ => ⟨_, rfl, fun j u hu => by
    obtain ⟨hj, e'⟩ := List.getElem?_eq_some_iff.1 hu
    rw [u8s_length] at hj
    have := Lib.bytesWorld_cell w e ⟨l.toArray⟩ j (by rw [size_str]; exact hj)
    rw [add_zero_off, this, ← e']
    simp [u8s, List.getD, List.getElem?_eq_getElem hj]⟩⟩
theorem Wl.bytesN {x : Operand} {s t e : TypeId} {ud : TypeDesc} {l : List UInt8} (hs : P.underlying s = some ud) (ht : P.underlying t = some (.slice e)) (he : P.underlying e = some (.int .u8)) (hx : ev env x = some (str l)) (hd : Nat.blt d N = true)
    (h : ∀ g c w', w.heap.size ≤ g → g < w'.heap.size → Rd w' 1 (some ⟨g, 0, none⟩) l.length (u8s l) → Below w.heap.size w w' → Wl P ops Q rest N D ((d, .slice (some ⟨g, 0, none⟩) l.length c) :: env) w') :
    Wl P ops Q (⟨some d, .convert s t x, ty, pos, af, none⟩ :: rest) N D env w := by
  refine Wl.m (v := .slice (some ⟨w.heap.size, 0, none⟩) l.length (grownCap w l.length 0 e)) (w' := Lib.bytesWorld w e ⟨l.toArray⟩) (fun a ha dst pos af g => ?_) hd (h _ _ _ (Nat.le_refl _) (by rw [Lib.bytesWorld_size]; omega) (rd_bytes w e l) (below_bytes' w e _))
  have h0 := Lib.run_convert_string_bytes w s t e ⟨l.toArray⟩ hs ht he
  rw [size_str] at h0
  have h1 : (convert s t (str l)).run P w = _ := h0
  simp [execOp, ha.eval hx, h1]
theorem y_iface {x : Operand} {t : TypeId} {u : TypeDesc} {v : Value} (hu : P.underlying t = some u) (hn : ∀ ms, u ≠ .interface ms) (hx : ev env x = some v) : Yl P N D env (.makeInterface t x) ty (.iface t v) := fun a ha w dst pos af g => by
  have h1 : (Instr.makeInterface t v).run P w = .ok (.iface t v) w := by
    cases u <;> first | exact absurd rfl (hn _) | simp [Instr.makeInterface, run_underlying hu]
  simp [execOp, ha.eval hx, h1]
end
end Go.Bw
namespace Go.Bw.Fl
open Ieee Go
set_option linter.unusedVariables false
set_option linter.unusedSimpArgs false
/-! ### numerals -/
def dval (n : Nat) : List UInt8 → Nat
  | [] => n
  | c :: r => dval (n * 10 + (c.toNat - 48)) r
def AllDig (l : List UInt8) : Prop := ∀ c, c ∈ l → 48 ≤ c.toNat ∧ c.toNat ≤ 57
theorem dval_append (b : List UInt8) : ∀ (a : List UInt8) (n : Nat), dval n (a ++ b) = dval (dval n a) b
  | [], _ => rfl
  | c :: r, n => dval_append b r _
theorem dval_ge : ∀ (l : List UInt8) (n : Nat), n ≤ dval n l
  | [], n => Nat.le_refl n
  | c :: r, n => Nat.le_trans (by omega) (dval_ge r (n * 10 + (c.toNat - 48)))
theorem dig_toNat {k : Nat} (h : k < 10) : (UInt8.ofNat (48 + k)).toNat = 48 + k := by
  rw [UInt8.toNat_ofNat']; exact Nat.mod_eq_of_lt (by omega)
theorem decDigits_spec (u : Nat) : AllDig (Lib.decDigits u) ∧ dval 0 (Lib.decDigits u) = u ∧ Lib.decDigits u ≠ [] := by
  induction u using Nat.strongRecOn with
  | ind u ih =>
    by_cases h : u < 10
    · rw [Lib.decDigits_one h]
      refine ⟨fun c hc => ?_, ?_, by simp⟩
      · rw [List.mem_singleton.1 hc, dig_toNat h]; omega
      · show 0 * 10 + ((UInt8.ofNat (48 + u)).toNat - 48) = u
        rw [dig_toNat h]; omega
    · obtain ⟨h1, h2, h3⟩ := ih (u / 10) (by omega)
      rw [Lib.decDigits, dif_neg h]
      refine ⟨fun c hc => ?_, ?_, by simp⟩
      · rcases List.mem_append.1 hc with hc | hc
        · exact h1 c hc
        · rw [List.mem_singleton.1 hc, dig_toNat (by omega)]; omega
      · rw [dval_append, h2]
        show u / 10 * 10 + ((UInt8.ofNat (48 + u % 10)).toNat - 48) = u
        rw [dig_toNat (by omega)]; omega
theorem dval_take {l : List UInt8} {i : Nat} (h : i < l.length) : dval 0 (l.take (i + 1)) = dval 0 (l.take i) * 10 + ((l.getD i 0).toNat - 48) := by
  have e : l.take (i + 1) = l.take i ++ [l.getD i 0] := by rw [List.take_add_one, List.getElem?_eq_getElem h]; simp [List.getD, List.getElem?_eq_getElem h]
  rw [e, dval_append]; rfl
theorem dval_take_le (l : List UInt8) (i : Nat) : dval 0 (l.take i) ≤ dval 0 l := by
  have := dval_append (l.drop i) (l.take i) 0
  rw [List.take_append_drop] at this
  rw [this]; exact dval_ge _ _
theorem parse10 : ∀ (l : List UInt8) (n : Nat), AllDig l → dval n l < 18446744073709551616 → Lib.parseUint10 n l = .ok (dval n l)
  | [], _, _, _ => rfl
  | c :: r, n, ha, hl => by
    have hc := ha c (List.mem_cons_self ..)
    have hg := dval_ge r (n * 10 + (c.toNat - 48))
    have hl' : dval (n * 10 + (c.toNat - 48)) r < 18446744073709551616 := hl
    rw [Lib.parseUint10, if_pos hc, if_neg (by omega), if_neg (by omega)]
    exact parse10 r _ (fun x hx => ha x (List.mem_cons_of_mem _ hx)) hl'
theorem parseMag_dec {u : Nat} (h : u < 18446744073709551616) : Lib.parseMag (Lib.decDigits u) = .ok u := by
  obtain ⟨h1, h2, h3⟩ := decDigits_spec u
  rw [Lib.parseMag, if_neg h3, parse10 _ _ h1 (by rw [h2]; exact h), h2]
theorem atoi_itoa {e : Int} (h0 : -9223372036854775808 ≤ e) (h1 : e ≤ 9223372036854775807) : Lib.atoiAll (Lib.itoa e) = .ok e := by
  unfold Lib.itoa
  by_cases h : e < 0
  · rw [if_pos h, Lib.atoiAll_minus, parseMag_dec (by omega)]
    show (if 9223372036854775808 < e.natAbs then Lib.NumEnd.range else Lib.NumEnd.ok (-(e.natAbs : Int))) = _
    rw [if_neg (by omega)]; congr 1; omega
  · rw [if_neg h]
    obtain ⟨a, b, c⟩ := decDigits_spec e.toNat
    cases hd : Lib.decDigits e.toNat with
    | nil => exact absurd hd c
    | cons x r =>
      have hx := a x (by rw [hd]; exact List.mem_cons_self ..)
      rw [Lib.atoiAll_plain x r (by omega) (by omega), ← hd, parseMag_dec (by omega)]
      show (if 9223372036854775808 ≤ e.toNat then Lib.NumEnd.range else Lib.NumEnd.ok (e.toNat : Int)) = _
      rw [if_neg (by omega)]; congr 1; omega
theorem index_mid {a b : List UInt8} {c : UInt8} (h : c ∉ a) : Lib.indexByte (a ++ c :: b) c = (a.length : Nat) := by
  induction a with
  | nil => show (if (c == c) = true then (0 : Int) else _) = _; simp
  | cons x r ih =>
    have hx : x ≠ c := fun e => h (by rw [e]; exact List.mem_cons_self ..)
    have ih' := ih (fun m => h (List.mem_cons_of_mem _ m))
    show (if (x == c) = true then (0 : Int) else if (Lib.indexByte (r ++ c :: b) c == -1) = true then -1 else Lib.indexByte (r ++ c :: b) c + 1) = _
    rw [if_neg (by simpa using hx), ih', if_neg (by simp)]
    simp
theorem noP {u : Nat} : (112 : UInt8) ∉ Lib.decDigits u := fun h => by
  have := (decDigits_spec u).1 _ h
  have e : (112 : UInt8).toNat = 112 := rfl
  omega

/-! ### powers -/
theorem pow_cancel {a b k : Nat} (h : a * 2 ^ k = b * 2 ^ k) : a = b := Nat.eq_of_mul_eq_mul_right (Nat.two_pow_pos k) h
theorem pow_cmp {a b p q : Nat} (h : a * 2 ^ p = b * 2 ^ q) (ha : 4503599627370496 ≤ a) (hb : b < 9007199254740992) : p ≤ q := by
  rcases Nat.lt_or_ge q p with hlt | hge
  · exfalso
    have e : a * 2 ^ p = a * 2 * 2 ^ (p - q - 1) * 2 ^ q := by
      rw [Nat.mul_assoc (a * 2), ← Nat.pow_add, Nat.mul_assoc a 2, ← Nat.pow_succ']; congr 2; omega
    rw [e] at h
    have h2 := pow_cancel h
    have h3 : 1 ≤ 2 ^ (p - q - 1) := Nat.one_le_two_pow
    have h4 : a * 2 * 1 ≤ a * 2 * 2 ^ (p - q - 1) := Nat.mul_le_mul_left _ h3
    omega
  · exact hge
theorem pow_small {a b p q : Nat} (h : a * 2 ^ p = b * 2 ^ q) (ha : a < 9007199254740992) (hb : b ≠ 0) : q < p + 53 := by
  rcases Nat.lt_or_ge q (p + 53) with hlt | hge
  · exact hlt
  · exfalso
    have e : b * 2 ^ q = b * 2 ^ (q - p) * 2 ^ p := by rw [Nat.mul_assoc, ← Nat.pow_add]; congr 2; omega
    rw [e] at h
    have h2 := pow_cancel h
    have h3 : 2 ^ 53 ≤ 2 ^ (q - p) := Nat.pow_le_pow_right (by decide) (by omega)
    have h4 : 1 * 2 ^ (q - p) ≤ b * 2 ^ (q - p) := Nat.mul_le_mul_right _ (by omega)
    have h5 : (2 : Nat) ^ 53 = 9007199254740992 := by decide
    omega
theorem V_form {r : Nat} (h : r < 9218868437227405312) : ∃ m e, V r = m * 2 ^ e ∧ m < 9007199254740992 ∧ e ≤ 2045 ∧ (4503599627370496 ≤ r → 4503599627370496 ≤ m ∧ e = r / 4503599627370496 - 1 ∧ m = 4503599627370496 + r % 4503599627370496) := by
  by_cases hs : r < 4503599627370496
  · exact ⟨r, 0, by rw [V, if_pos hs]; simp, by omega, by omega, fun h => by omega⟩
  · exact ⟨4503599627370496 + r % 4503599627370496, r / 4503599627370496 - 1, by rw [V, if_neg hs], by omega, by omega, fun _ => ⟨by omega, rfl, rfl⟩⟩
theorem V_mant0 {r : Nat} : V r = mant0 r * 2 ^ (exp0 r + 1074).toNat := by
  unfold V mant0 exp0
  split
  · simp
  · congr 2; omega

/-! ### Ldexp -/
/-- f is r times 2 to the power of k -/
def Exact (r : Nat) (k : Int) (f : Nat) : Prop := ∃ t u : Nat, k = (t : Int) - (u : Int) ∧ V r * 2 ^ t = V f * 2 ^ u
theorem ldmul {x m j : Nat} (h0 : 4503599627370496 ≤ x) (h1 : x < 9218868437227405312) (hm : (m = 4607182418800017408 ∧ j = 0) ∨ (m = 4368491638549381120 ∧ j = 53)) :
    ∃ r, floatBits .mul .f64 m x = some r ∧ r < 18446744073709551616 ∧ ∀ f, f ≠ 0 → f < 9218868437227405312 → V f * 2 ^ j = V x → r = f := by
  have hrm : Ieee.double.read m = .number false 4503599627370496 (-52 - (j : Int)) := by
    rcases hm with ⟨rfl, rfl⟩ | ⟨rfl, rfl⟩
    · rw [read_normal (by decide) (by decide)]; rfl
    · rw [read_normal (by decide) (by decide)]; rfl
  have hx : rung x = x := Nat.mod_eq_of_lt (by omega)
  have hn : isNeg x = false := by unfold isNeg; rw [Nat.div_eq_of_lt (by omega)]; rfl
  have hrx : Ieee.double.read x = .number false (4503599627370496 + x % 4503599627370496) (((x / 4503599627370496 : Nat) : Int) - 1075) := by
    rw [read_normal (by rw [hx]; exact h0) (by rw [hx]; exact h1), hx, hn]
    congr 1; omega
  have hmul : floatBits .mul .f64 m x = some (Ieee.double.nearest (false ^^ false) (4503599627370496 * (4503599627370496 + x % 4503599627370496)) (-52 - (j : Int) + (((x / 4503599627370496 : Nat) : Int) - 1075))) := by
    show Ieee.double.mul m x = _
    unfold Format.mul
    rw [hrm, hrx]; rfl
  refine ⟨_, hmul, by simpa [Lit.wf] using floatBits_wf hmul, fun f hf0 hf1 hV => ?_⟩
  rw [nearest_exact (r := f) _ hf1 hf0 (x / 4503599627370496 - 1) (52 + j) (by omega)]
  · rfl
  · have hvx : V x = (4503599627370496 + x % 4503599627370496) * 2 ^ (x / 4503599627370496 - 1) := by rw [V, if_neg (by omega)]
    rw [Nat.mul_assoc, ← hvx, ← hV, Nat.pow_add, show (4503599627370496 : Nat) = 2 ^ 52 by decide, Nat.mul_comm (2 ^ 52) (V f * 2 ^ j), Nat.mul_assoc, Nat.mul_comm (2 ^ j)]
/-- where the exponent is below all floats: none -/
theorem exact_low {r f : Nat} {k : Int} (h0 : 4503599627370496 ≤ r) (h1 : r < 9218868437227405312) (hf : f ≠ 0) (h : Exact r k f) : -52 ≤ ((r / 4503599627370496 : Nat) : Int) + k := by
  obtain ⟨t, u, hk, hv⟩ := h
  obtain ⟨m, e, hV, hm, he, hb⟩ := V_form h1
  obtain ⟨b1, b2, b3⟩ := hb h0
  rw [hV, Nat.mul_assoc, ← Nat.pow_add] at hv
  have := pow_small hv hm (fun h => hf (V_zero.1 h))
  omega
theorem exact_high {r f : Nat} {k : Int} (h0 : 4503599627370496 ≤ r) (h1 : r < 9218868437227405312) (hf : f < 9218868437227405312) (h : Exact r k f) : ((r / 4503599627370496 : Nat) : Int) + k ≤ 2046 := by
  obtain ⟨t, u, hk, hv⟩ := h
  obtain ⟨m, e, hV, hm, he, hb⟩ := V_form h1
  obtain ⟨b1, b2, b3⟩ := hb h0
  obtain ⟨m', e', hV', hm', he', _⟩ := V_form hf
  rw [hV, hV', Nat.mul_assoc, Nat.mul_assoc, ← Nat.pow_add, ← Nat.pow_add] at hv
  have := pow_cmp hv b1 hm'
  omega
theorem exact_mid {r f j : Nat} {k : Int} (h0 : 4503599627370496 ≤ r) (h1 : r < 9218868437227405312) (h : Exact r k f) (hE : 1 ≤ ((r / 4503599627370496 : Nat) : Int) + k + j) :
    V f * 2 ^ j = V (r % 4503599627370496 + (((r / 4503599627370496 : Nat) : Int) + k + j).toNat * 4503599627370496) := by
  obtain ⟨t, u, hk, hv⟩ := h
  obtain ⟨m, e, hV, hm, he, hb⟩ := V_form h1
  obtain ⟨b1, b2, b3⟩ := hb h0
  generalize hq : (((r / 4503599627370496 : Nat) : Int) + k + j).toNat = q
  have hlt := Nat.mod_lt r (show 0 < 4503599627370496 by decide)
  have hq1 : 1 ≤ q := by omega
  rw [show V (r % 4503599627370496 + q * 4503599627370496) = _ from if_neg (by omega), show (r % 4503599627370496 + q * 4503599627370496) % 4503599627370496 = r % 4503599627370496 by omega, show (r % 4503599627370496 + q * 4503599627370496) / 4503599627370496 = q by omega, ← b3]
  apply pow_cancel (k := u)
  rw [Nat.mul_right_comm, ← hv, hV, Nat.mul_assoc m, Nat.mul_assoc m, Nat.mul_assoc m, ← Nat.pow_add, ← Nat.pow_add, ← Nat.pow_add]
  congr 2; omega
theorem exact_zero {r f : Nat} {k : Int} (h : Exact r k f) (hf : f = 0) : r = 0 := by
  obtain ⟨t, u, _, hv⟩ := h
  subst hf
  rw [show V 0 = 0 by decide, Nat.zero_mul] at hv
  rcases Nat.mul_eq_zero.1 hv with h | h
  · exact V_zero.1 h
  · exact absurd h (Nat.ne_of_gt (Nat.two_pow_pos t))
theorem V00 (p : Nat) : V 0 = 0 * p := by rw [Nat.zero_mul]; decide
/-- a whole number as a float -/
theorem f_of0 {n : Nat} (h : n < 9007199254740992) (p : Nat) (hp : p = 1074) : ∃ r, FloatKind.f64.nearest (n : Int) = r ∧ (r = 0 ∨ (4503599627370496 ≤ r ∧ r < 9218868437227405312)) ∧ V r = n * 2 ^ p := by
  have e0 : FloatKind.f64.nearest (n : Int) = Ieee.double.nearest false n 0 := by
    show Ieee.double.write (.number (decide ((n : Int) < 0)) (n : Int).natAbs 0) = _
    rw [decide_eq_false (by omega), Int.natAbs_natCast]; rfl
  rw [e0]
  by_cases h0 : n = 0
  · subst h0; exact ⟨0, by rw [nearest_zero]; rfl, .inl rfl, V00 _⟩
  · have hl : Nat.log2 n ≤ 52 := by have := (Nat.log2_lt h0 (k := 53)).2 (by simpa using h); omega
    obtain ⟨r, r0, r1, r2⟩ := rung_of (t := p) h0 h (by omega)
    refine ⟨r, ?_, .inr ⟨?_, r1⟩, r2⟩
    · rw [nearest_exact (r := r) _ r1 r0 p 0 (by omega) (by rw [r2, Nat.pow_zero, Nat.mul_one])]; rfl
    · rcases Nat.lt_or_ge r 4503599627370496 with hlt | hge
      · exfalso
        have e : V r = r := if_pos hlt
        have h5 : 2 ^ 52 ≤ 2 ^ p := Nat.pow_le_pow_right (by decide) (by omega)
        have h6 : 1 * 2 ^ p ≤ n * 2 ^ p := Nat.mul_le_mul_right _ (by omega)
        have h7 : (2 : Nat) ^ 52 = 4503599627370496 := by decide
        rw [r2] at e
        generalize 2 ^ p = q at *
        omega
      · exact hge
theorem f_of {n : Nat} (h : n < 9007199254740992) : ∃ r, FloatKind.f64.nearest (n : Int) = r ∧ (r = 0 ∨ (4503599627370496 ≤ r ∧ r < 9218868437227405312)) ∧ V r = n * 2 ^ 1074 := f_of0 h 1074 rfl
end Go.Bw.Fl
namespace Go.Proofs.YtjmlknjbhbfneaaGreatDoor
open Go.RowKit Go.Bw Go.Bw.Fl
set_option linter.unusedVariables false
set_option linter.unusedSimpArgs false
theorem xor_sign {r : Nat} (h : r < 9223372036854775808) : r ^^^ 9223372036854775808 = 9223372036854775808 + r := by
  have e : (9223372036854775808 : Nat) = 2 ^ 63 := by decide
  rw [e] at h ⊢
  apply Nat.eq_of_testBit_eq; intro i
  rw [Nat.testBit_xor, Nat.testBit_two_pow]
  rcases Nat.lt_trichotomy i 63 with hi | hi | hi
  · rw [Nat.testBit_two_pow_add_gt hi, decide_eq_false (by omega), Bool.xor_false]
  · subst hi; rw [Nat.testBit_two_pow_add_eq, Nat.testBit_lt_two_pow h]; rfl
  · have h1 : 2 ^ 64 ≤ 2 ^ i := Nat.pow_le_pow_right (by decide) hi
    rw [Nat.testBit_lt_two_pow (Nat.lt_of_lt_of_le h (Nat.pow_le_pow_right (by decide) (by omega))), Nat.testBit_lt_two_pow (x := 2 ^ 63 + r) (by omega), decide_eq_false (by omega)]
    rfl
theorem xor_lt {r : Nat} (h : r < 18446744073709551616) : r ^^^ 9223372036854775808 < 18446744073709551616 := Nat.xor_lt_two_pow (n := 64) h (by decide)
/-- a canonical float -/
structure Cn (f : Nat) : Prop where
  lt : f < 18446744073709551616
  one : canon f = f
theorem Cn.of {f : Nat} (h : f < 18446744073709551616) : Cn (canon f) := by
  unfold canon; split
  · exact ⟨by decide, by decide⟩
  · rename_i hn; exact ⟨h, if_neg hn⟩
theorem text_canon (f : Nat) : textF (canon f) = textF f := by
  unfold canon; split
  · rename_i hn; unfold textF; rw [if_pos hn]; rfl
  · rfl
def app (neg : Bool) (f : Nat) : Nat := if neg = true then f ^^^ 9223372036854775808 else f
theorem app_lt {neg : Bool} {f : Nat} (h : f < 18446744073709551616) : app neg f < 18446744073709551616 := by
  unfold app; split
  · exact xor_lt h
  · exact h
theorem app_word {f : Nat} (h : f < 18446744073709551616) : app (isNeg f) (rung f) = f := by
  have hr : rung f < 9223372036854775808 := Nat.mod_lt _ (by decide)
  unfold app
  have e := word_of h
  rw [word_eq] at e
  split
  · rename_i hn; rw [xor_sign hr]; rw [if_pos hn] at e; exact e
  · rename_i hn; rw [if_neg hn] at e; exact e
def sgnB (n : Bool) : List UInt8 := if n = true then [45] else []
theorem sgn_eq (f : Nat) : sgn f = sgnB (isNeg f) := rfl
theorem trim_sgn {n : Bool} {x : List UInt8} (hx : x.head? ≠ some 45) : Lib.hasPrefix (sgnB n ++ x) [45] = n ∧ Lib.trimPrefix (sgnB n ++ x) [45] = x := by
  cases n
  · have h0 : Lib.hasPrefix (sgnB false ++ x) [45] = false := by
      cases x with
      | nil => rfl
      | cons c r =>
        have hc : c ≠ 45 := fun e => hx (by rw [e]; rfl)
        show List.isPrefixOf [45] (c :: r) = false
        simp [List.isPrefixOf]; exact fun e => hc e.symm
    refine ⟨h0, ?_⟩
    unfold Lib.trimPrefix; rw [if_neg (by rw [h0]; simp)]; rfl
  · have h0 : Lib.hasPrefix (sgnB true ++ x) [45] = true := by
      show List.isPrefixOf [45] (45 :: x) = true
      simp [List.isPrefixOf]
    refine ⟨h0, ?_⟩
    unfold Lib.trimPrefix; rw [if_pos h0]; rfl
def numT (M : Nat) (e : Int) : List UInt8 := Lib.decDigits M ++ 112 :: Lib.itoa e
theorem numT_head (M : Nat) (e : Int) : ∃ c r, numT M e = c :: r ∧ 48 ≤ c.toNat ∧ c.toNat ≤ 57 := by
  obtain ⟨h1, _, h3⟩ := decDigits_spec M
  unfold numT
  cases hd : Lib.decDigits M with
  | nil => exact absurd hd h3
  | cons c r => exact ⟨c, _, rfl, h1 c (by rw [hd]; exact List.mem_cons_self ..)⟩
theorem head_ne {x : List UInt8} {k : UInt8} (h : ∃ c r, x = c :: r ∧ 48 ≤ c.toNat ∧ c.toNat ≤ 57) (hk : k.toNat < 48 ∨ 57 < k.toNat) : x.head? ≠ some k := by
  obtain ⟨c, r, rfl, h1, h2⟩ := h
  intro e; cases e; omega
theorem text_nan2 {b : Nat} (h : isNan b = true) : textF b = [110, 97, 110] := by unfold textF; rw [if_pos h]
/-- what a text of a float looks like -/
inductive Hit (s : List UInt8) (f : Nat) : Prop
  | nan (h : f = 9221120237041090561) (hs : s = [110, 97, 110]) (hw : Lib.trimPrefix s [45] = [110, 97, 110])
  | inf (h : rung f = 9218868437227405312) (hn : Lib.hasPrefix s [45] = isNeg f) (hw : Lib.trimPrefix s [45] = [105, 110, 102])
  | num (M : Nat) (e : Int) (h : rung f < 9218868437227405312) (hn : Lib.hasPrefix s [45] = isNeg f) (hw : Lib.trimPrefix s [45] = numT M e) (hM : M < 9007199254740992) (h0 : -1074 ≤ e) (h1 : e ≤ 1024) (hv : V (rung f) = M * 2 ^ (e + 1074).toNat)
theorem Hit.of {s : List UInt8} {f : Nat} (hf : Cn f) (hs : textF f = s) : Hit s f := by
  subst hs
  by_cases h1 : isNan f = true
  · have e : f = 9221120237041090561 := by have := hf.one; unfold canon at this; rw [if_pos h1] at this; exact this.symm
    exact .nan e (text_nan2 h1) (by rw [text_nan2 h1]; rfl)
  · have h1' : isNan f = false := by simpa using h1
    by_cases h2 : rung f = 9218868437227405312
    · have ht : textF f = sgnB (isNeg f) ++ [105, 110, 102] := text_inf h1' h2
      obtain ⟨a, b⟩ := trim_sgn (n := isNeg f) (x := [105, 110, 102]) (by decide)
      rw [← ht] at a b
      exact .inf h2 a b
    · have h6 : rung f ≤ 9218868437227405312 := by simpa [isNan, rung] using h1'
      have hr : rung f < 9218868437227405312 := by omega
      by_cases h3 : rung f = 0
      · have ht : textF f = sgnB (isNeg f) ++ numT 0 0 := by
          rw [text_zero h1' h2 h3]
          have : numT 0 0 = [48, 112, 48] := by
            have e0 : Lib.decDigits 0 = [48] := Lib.decDigits_one (by decide)
            have e1 : Lib.itoa 0 = Lib.decDigits 0 := rfl
            unfold numT; rw [e1, e0]; rfl
          rw [this]; rfl
        obtain ⟨a, b⟩ := trim_sgn (n := isNeg f) (x := numT 0 0) (head_ne (numT_head 0 0) (.inl (by decide)))
        rw [← ht] at a b
        exact .num 0 0 hr a b (by decide) (by decide) (by decide) (by rw [h3, Nat.zero_mul]; decide)
      · obtain ⟨o1, o2⟩ := od_spec _ (mant0_ne h3)
        have ht : textF f = sgnB (isNeg f) ++ numT (od (mant0 (rung f))) (exp0 (rung f) + v2 (mant0 (rung f))) := by
          rw [text_num h1' h2 h3]; unfold numT; rw [sgn_eq]; simp
        obtain ⟨a, b⟩ := trim_sgn (n := isNeg f) (x := numT (od (mant0 (rung f))) (exp0 (rung f) + v2 (mant0 (rung f)))) (head_ne (numT_head _ _) (.inl (by decide)))
        rw [← ht] at a b
        have e1 := exp0_bd hr
        have e2 := v2_le hr h3
        refine .num _ _ hr a b ?_ (by omega) (by omega) ?_
        · have := mant0_lt hr
          exact Nat.lt_of_le_of_lt (Nat.div_le_self _ _) this
        · rw [V_mant0]
          conv => lhs; rw [o1]
          rw [Nat.mul_assoc, ← Nat.pow_add]
          congr 2; omega
theorem numT_inj {M M' : Nat} {e e' : Int} (h : numT M e = numT M' e') (h0 : -9223372036854775808 ≤ e) (h1 : e ≤ 9223372036854775807) (h0' : -9223372036854775808 ≤ e') (h1' : e' ≤ 9223372036854775807) : M = M' ∧ e = e' := by
  have i1 := index_mid (a := Lib.decDigits M) (b := Lib.itoa e) (noP (u := M))
  have i2 := index_mid (a := Lib.decDigits M') (b := Lib.itoa e') (noP (u := M'))
  unfold numT at h
  rw [h, i2] at i1
  have hl : (Lib.decDigits M).length = (Lib.decDigits M').length := by omega
  obtain ⟨a, b⟩ := List.append_inj h hl
  have hM : M = M' := by rw [← (decDigits_spec M).2.1, a, (decDigits_spec M').2.1]
  have he : Lib.itoa e = Lib.itoa e' := by injection b
  have a1 := atoi_itoa h0 h1
  rw [he, atoi_itoa h0' h1'] at a1
  injection a1 with a1
  exact ⟨hM, a1.symm⟩
theorem text_inj {a b : Nat} (ha : Cn a) (hb : Cn b) (h : textF a = textF b) : a = b := by
  have w {f g : Nat} (hf : Cn f) (hg : Cn g) (h1 : isNeg f = isNeg g) (h2 : rung f = rung g) : f = g := by rw [← app_word hf.lt, ← app_word hg.lt, h1, h2]
  cases Hit.of ha h with
  | nan h1 hs hw =>
    cases Hit.of hb rfl with
    | nan h2 _ _ => rw [h1, h2]
    | inf _ _ hw' => rw [hw] at hw'; exact absurd hw' (by decide)
    | num M e _ _ hw' => exact absurd (by rw [← hw', hw]; rfl) (head_ne (k := 110) (numT_head M e) (.inr (by decide)))
  | inf h1 hn hw =>
    cases Hit.of hb rfl with
    | nan _ _ hw' => rw [hw] at hw'; exact absurd hw' (by decide)
    | inf h2 hn' _ => exact w ha hb (hn.symm.trans hn') (h1.trans h2.symm)
    | num M e _ _ hw' => exact absurd (by rw [← hw', hw]; rfl) (head_ne (k := 105) (numT_head M e) (.inr (by decide)))
  | num M e h1 hn hw hM he0 he1 hv =>
    cases Hit.of hb rfl with
    | nan _ _ hw' => exact absurd (by rw [← hw, hw']; rfl) (head_ne (k := 110) (numT_head M e) (.inr (by decide)))
    | inf _ _ hw' => exact absurd (by rw [← hw, hw']; rfl) (head_ne (k := 105) (numT_head M e) (.inr (by decide)))
    | num M' e' h2 hn' hw' hM' he0' he1' hv' =>
      obtain ⟨rfl, rfl⟩ := numT_inj (hw.symm.trans hw') (by omega) (by omega) (by omega) (by omega)
      exact w ha hb (hn.symm.trans hn') (V_inj.1 (hv.trans hv'.symm))
open Classical in
/-- the float whose text this is -/
noncomputable def pf (s : List UInt8) : Option Nat := if h : ∃ f, Cn f ∧ textF f = s then some (Classical.choose h) else none
theorem pf_hit {s : List UInt8} {f : Nat} (hf : Cn f) (h : textF f = s) : pf s = some f := by
  have he : ∃ f, Cn f ∧ textF f = s := ⟨f, hf, h⟩
  unfold pf; rw [dif_pos he]
  obtain ⟨c1, c2⟩ := Classical.choose_spec he
  rw [text_inj c1 hf (c2.trans h.symm)]
theorem pf_none {s : List UInt8} (h : ∀ f, Cn f → textF f ≠ s) : pf s = none := by
  unfold pf; rw [dif_neg (fun ⟨f, a, b⟩ => h f a b)]
theorem pf_some {s : List UInt8} {f : Nat} (h : pf s = some f) : Cn f ∧ textF f = s := by
  by_cases he : ∃ f, Cn f ∧ textF f = s
  · obtain ⟨g, a, b⟩ := he
    rw [pf_hit a b] at h; cases h; exact ⟨a, b⟩
  · unfold pf at h; rw [dif_neg he] at h; cases h
/-- what stands behind the first half of Parse: the float of the word, for whoever has this text -/
def Meets (s : List UInt8) (x : Nat) : Prop := ∀ f, Cn f → textF f = s → textF (app (Lib.hasPrefix s [45]) x) = s
theorem meets_nan {s : List UInt8} (h : Lib.trimPrefix s [45] = [110, 97, 110]) : Meets s 9221120237041090561 := fun f hf ht => by
  have hn : ∀ b, textF (app b 9221120237041090561) = [110, 97, 110] := fun b => by cases b <;> (unfold textF; rw [if_pos (by decide)])
  rw [hn]
  cases Hit.of hf ht with
  | nan _ hs _ => exact hs.symm
  | inf _ _ hw => rw [h] at hw; exact absurd hw (by decide)
  | num M e _ _ hw => exact absurd (by rw [← hw, h]; rfl) (head_ne (k := 110) (numT_head M e) (.inr (by decide)))
theorem meets_inf {s : List UInt8} (h : Lib.trimPrefix s [45] = [105, 110, 102]) : Meets s 9218868437227405312 := fun f hf ht => by
  cases Hit.of hf ht with
  | nan _ _ hw => rw [h] at hw; exact absurd hw (by decide)
  | inf hr hn _ =>
    have e : app (Lib.hasPrefix s [45]) 9218868437227405312 = f := by rw [hn, ← hr, app_word hf.lt]
    rw [e, ht]
  | num M e _ _ hw => exact absurd (by rw [← hw, h]; rfl) (head_ne (k := 105) (numT_head M e) (.inr (by decide)))
theorem exact_num0 {M r p : Nat} {e : Int} {f : Nat} (hp : p = 1074) (h0 : -1074 ≤ e) (hr : V r = M * 2 ^ p) (hv : V f = M * 2 ^ (e + 1074).toNat) : Exact r e f :=
  ⟨(e + 1074).toNat, p, by omega, by rw [hr, hv, Nat.mul_assoc, Nat.mul_assoc, Nat.mul_comm (2 ^ p)]⟩
theorem exact_num {M r : Nat} {e : Int} {f : Nat} (h0 : -1074 ≤ e) (hr : V r = M * 2 ^ 1074) (hv : V f = M * 2 ^ (e + 1074).toNat) : Exact r e f := exact_num0 rfl h0 hr hv
end Go.Proofs.YtjmlknjbhbfneaaGreatDoor
namespace Go.Proofs.YtjmlknjbhbfneaaGreatDoor
open Go.RowKit Go.Bw Go.Bw.Fl
set_option linter.unusedVariables false
set_option linter.unusedSimpArgs false
theorem one5PrsA : One Tryz.prog 5 := ⟨_, Tryz.underlying5, rfl, by kernel_rfl⟩
theorem sz5PrsA : (Tryz.prog.info? 5).map (·.size) = some 1 := by kernel_rfl
theorem txt217PrsA : Txt Tryz.prog 217 := ⟨_, Tryz.func217, by kernel_rfl, rfl⟩   -- internal/strconv.lower
/-- digits that spell a number below 2 to the power of 53 -/
structure Gd (s : List UInt8) : Prop where
  ne : s ≠ []
  all : AllDig s
  lt : dval 0 s < 9007199254740992
theorem Gd.dec {M : Nat} (h : M < 9007199254740992) : Gd (Lib.decDigits M) := ⟨(decDigits_spec M).2.2, (decDigits_spec M).1, by rw [(decDigits_spec M).2.1]; exact h⟩
def UEnd (s : List UInt8) (n : Nat) (e : Value) : Prop := (e = .nilIface ∧ n < 9007199254740992 ∧ (Gd s → n = dval 0 s)) ∨ (¬ Gd s ∧ n < 18446744073709551616 ∧ ∃ c : Int, (c = 1 ∨ c = 2) ∧ e = .iface 238 (.int .i64 c))
theorem Gd.at {s : List UInt8} (h : Gd s) {i : Nat} (hi : i < s.length) : 48 ≤ (s.getD i 0).toNat ∧ (s.getD i 0).toNat ≤ 57 := by
  have e : s.getD i 0 = s[i] := by simp [List.getD, List.getElem?_eq_getElem hi]
  rw [e]; exact h.all _ (List.getElem_mem hi)
theorem u8s_val {s : List UInt8} {i : Nat} {v : Value} (hi : i < s.length) (h : (u8s s)[i]? = some v) : v = .int .u8 ((s.getD i 0).toNat : Int) := by
  have e : s.getD i 0 = s[i] := by simp [List.getD, List.getElem?_eq_getElem hi]
  simp [u8s, List.getElem?_eq_getElem hi] at h
  rw [e, ← h]
theorem lower_r (c : Int) (w : World) : Ret Tryz.prog 217 [.int .u8 c] w fun v w' => v = .int .u8 (bits .or .u8 c 32) ∧ w' = w := Ret.pure (Tryz.internal_strconv_lower c w)
theorem gd_next {s : List UInt8} {i n : Nat} (hi : i < s.length) (h : Gd s → n = dval 0 (s.take i)) (hg : Gd s) : n * 10 + ((s.getD i 0).toNat - 48) = dval 0 (s.take (i + 1)) ∧ n * 10 + ((s.getD i 0).toNat - 48) < 9007199254740992 := by
  have e := dval_take hi
  rw [← h hg] at e
  have := dval_take_le s (i + 1)
  have := hg.lt
  exact ⟨e.symm, by omega⟩
theorem iParseUint_r (s : List UInt8) (hs : s.length ≤ 281474976710656) (w : World) : Ret Tryz.prog 199 [str s, .int .i64 10, .int .i64 53] w fun v w' => (∃ n e, v = .tuple #[.int .u64 (n : Nat), e] ∧ UEnd s n e) ∧ Below w.heap.size w w' := by
  have hb := Below.refl w.heap.size w
  refine enter Tryz.func199 rfl rfl rfl <| Wc.seq fun _ hK_1 => Wc.region <| Wl.sg rfl rfl <| Wl.sg rfl rfl <| Wl.nil <| Wq.next hK_1 <| Wc.seq fun _ hK_4 => Wc.seq fun _ hK_5 => Wc.region <| Wl.mv rfl rfl <| Wl.y (y_eqls rfl rfl) rfl <| Wl.nil <| Wq.next hK_5 <| Wc.cond rfl (fun c0_8 => ?_) (fun c0_8 => ?_)
  ·
   have c0_8_ := c0_8
   simp only [DZ] at c0_8
   refine Wc.seq fun _ hK_9 => Wc.region <| Wl.y (y_iface Tryz.underlying238 (by intro _ h; cases h) rfl) rfl <| Wl.sg rfl rfl <| Wl.sg rfl rfl <| Wl.nil <| Wq.next hK_9 <| Wc.ret <| Wq.then_ret <| ret2 rfl rfl rfl ?_
   exact ⟨_, rfl, ⟨0, _, rfl, .inr ⟨fun h => h.ne (by simpa using c0_8_), by omega, 2, .inr rfl, rfl⟩⟩, hb⟩
  have c0_8_ := c0_8
  simp only [DZ] at c0_8
  refine Wc.skip <| Wq.next hK_4 <| Wc.seq fun _ hK_13 => Wc.region <| Wl.mv rfl rfl <| Wl.y (y_eqli rfl rfl) rfl <| Wl.sg rfl rfl <| Wl.nil <| Wq.next hK_13 <| Wc.seq fun _ hK_17 => Wc.region <| Wl.mv rfl rfl <| Wl.sg rfl rfl <| Wl.nil <| Wq.next hK_17 <| Wc.seq fun _ hK_20 => Wc.block <| Wc.seq fun _ hK_21 => Wc.region <| Wl.mv rfl rfl <| Wl.y (y_leqi rfl rfl) rfl <| Wl.mv rfl rfl <| Wl.guardT rfl rfl rfl (fun g_25 => ?_) (fun g_25 => ?_)
  ·
   have g_25_ := g_25
   simp only [DZ] at g_25
   refine Wl.mv rfl rfl <| Wl.on' rfl rfl g_25_ <| Wl.y (y_leqi rfl rfl) rfl <| Wl.y (y_pickT rfl g_25_ rfl) rfl <| Wl.sg rfl rfl <| Wl.nil <| Wq.next hK_21 <| Wc.cond rfl (fun c1_30 => ?_) (fun c1_30 => ?_)
   ·
    have c1_30_ := c1_30
    simp only [DZ] at c1_30
    refine Wc.skip <| Wq.block_normal <| Wq.next hK_20 <| Wc.seq fun _ hK_31 => Wc.seq fun _ hK_32 => Wc.region <| Wl.mv rfl rfl <| Wl.y (y_eqli rfl rfl) rfl <| Wl.nil <| Wq.next hK_32 <| Wc.cond rfl (fun c7_35 => ?_) (fun c7_35 => ?_)
    ·
     have c7_35_ := c7_35
     simp only [DZ] at c7_35
     cases c7_35_
    have c7_35_ := c7_35
    simp only [DZ] at c7_35
    refine Wc.seq fun _ hK_36 => Wc.region <| Wl.mv rfl rfl <| Wl.y (y_lssi rfl rfl) rfl <| Wl.mv rfl rfl <| Wl.guardF rfl rfl rfl (fun g_40 => ?_) (fun g_40 => ?_)
    ·
     have g_40_ := g_40
     simp only [DZ] at g_40
     cases g_40_
    have g_40_ := g_40
    simp only [DZ] at g_40
    refine Wl.mv rfl rfl <| Wl.on' rfl rfl g_40_ <| Wl.y (y_gtri rfl rfl) rfl <| Wl.y (y_pickF rfl g_40_ rfl) rfl <| Wl.nil <| Wq.next hK_36 <| Wc.cond rfl (fun c8_44 => ?_) (fun c8_44 => ?_)
    ·
     have c8_44_ := c8_44
     simp only [DZ] at c8_44
     cases c8_44_
    have c8_44_ := c8_44
    simp only [DZ] at c8_44
    refine Wc.skip <| Wq.next hK_31 <| Wc.seq fun _ hK_45 => Wc.region <| Wl.sg rfl rfl <| Wl.nil <| Wq.next hK_45 <| Wc.seq fun _ hK_47 => Wc.seq fun _ hK_48 => Wc.region <| Wl.mv rfl rfl <| Wl.nil <| Wq.next hK_48 <| Wc.block <| Wc.seq fun _ hK_50 => Wc.region <| Wl.y (y_eqli rfl rfl) rfl <| Wl.sg rfl rfl <| Wl.nil <| Wq.next hK_50 <| Wc.cond rfl (fun c9_53 => ?_) (fun c9_53 => ?_)
    ·
     have c9_53_ := c9_53
     simp only [DZ] at c9_53
     refine Wc.region <| Wl.sg rfl rfl <| Wl.nil <| Wq.block_normal <| Wq.next hK_47 <| Wc.seq fun _ hK_55 => Wc.region <| Wl.mv rfl rfl <| Wl.y (y_convi Tryz.underlying3 Tryz.underlying148 rfl) rfl <| Wl.y (y_eq (y_shl rfl rfl (by decide) (by decide)) (int_eq (show _ = (9007199254740992 : Int) by rfl))) rfl <| Wl.y (y_eq (y_sub rfl rfl) (int_eq (show _ = (9007199254740991 : Int) by rfl))) rfl <| Wl.sg rfl rfl <| Wl.nil <| Wq.next hK_55 <| Wc.seq fun _ hK_61 => Wc.region <| Wl.sg rfl rfl <| Wl.nil <| Wq.next hK_61 <| Wc.seq fun _ hK_63 => Wc.region <| Wl.sg rfl rfl <| Wl.nil <| Wq.next hK_63 <| Wc.seq fun _ hK_65 => Wc.seq fun _ hK_66 => Wc.region <| Wl.mv rfl rfl <| Wl.bytesN Tryz.underlying9 Tryz.underlying22 Tryz.underlying5 rfl rfl ?_
     rintro g_o94 c_o94 w_o94 hg_o94 hl_o94 hn_o94 hs_o94
     have hz_o94 := hs_o94.size
     have hb := hb.trans (hs_o94.mono hb.size)
     have hR_o94 := hn_o94
     refine Wl.y (y_lenl Tryz.underlying22 (by omega) rfl) rfl <| Wl.mv rfl rfl <| Wl.nil <| Wq.next hK_66 <| Wc.block <| Wc.loop (X := Nat × Nat) (fun (i, n) => [(0, str s), (1, .int .i64 10), (8, .bool false), (10, .int .u64 1844674407370955162), (11, .int .u64 9007199254740991), (12, .bool false), (13, .int .u64 (n : Int)), (99, .slice (some ⟨g_o94, 0, none⟩) s.length c_o94), (100, .int .i64 (s.length : Int)), (101, .int .i64 (i : Int))]) (fun (i, n) wr => i ≤ s.length ∧ n < 9007199254740992 ∧ Below w.heap.size w wr ∧ Rd wr 1 (some ⟨g_o94, 0, none⟩) s.length (u8s s) ∧ (Gd s → n = dval 0 (s.take i))) (fun (i, n) => s.length - i) (⟨0, 0⟩) ?_ ?_ ?_
     · exact by repeat first | exact Sub.nil | refine Sub.cons' rfl (by first | rfl | exact int_eq (by omega)) ?_
     · exact ⟨by omega, by omega, hb, hR_o94, fun _ => rfl⟩
     rintro ⟨i, n⟩ wr hI_72 _ hL_71
     replace hI_72 : i ≤ s.length ∧ n < 9007199254740992 ∧ Below w.heap.size w wr ∧ Rd wr 1 (some ⟨g_o94, 0, none⟩) s.length (u8s s) ∧ (Gd s → n = dval 0 (s.take i)) := hI_72
     obtain ⟨hi, hn, hb, hR_o94, hv⟩ := hI_72
     show Wc _ _ _ _ _ [(0, str s), (1, .int .i64 10), (8, .bool false), (10, .int .u64 1844674407370955162), (11, .int .u64 9007199254740991), (12, .bool false), (13, .int .u64 (n : Int)), (99, .slice (some ⟨g_o94, 0, none⟩) s.length c_o94), (100, .int .i64 (s.length : Int)), (101, .int .i64 (i : Int))] _
     have hzhb_L0 := hb.size
     refine Wc.seq fun _ hK_73 => Wc.region <| Wl.y (y_lssi rfl rfl) rfl <| Wl.nil <| Wq.next hK_73 <| Wc.seq fun _ hK_75 => Wc.cond rfl (fun c11_76 => ?_) (fun c11_76 => ?_)
     ·
      have c11_76_ := c11_76
      simp only [DZ] at c11_76
      have hil : i < s.length := by have := c11_76; omega
      refine Wc.skip <| Wq.next hK_75 <| Wc.seq fun _ hK_77 => Wc.block <| Wc.seq fun _ hK_78 => ?_
      obtain ⟨p_, v_, hpe, hve, hcell⟩ := hR_o94.one (i := i) hil
      cases hpe
      obtain ⟨q, hq, hq8, rfl⟩ : ∃ q : Nat, q = (s.getD i 0).toNat ∧ q < 256 ∧ v_ = .int .u8 (q : Int) := ⟨_, rfl, UInt8.toNat_lt _, u8s_val hil hve⟩
      refine Wc.region <| Wl.y (y_indexAddr Tryz.underlying22 sz5PrsA rfl rfl (by omega) (by omega)) rfl <| Wl.l (l_load one5PrsA rfl (by exact at1 hcell)) rfl <| Wl.sg rfl rfl <| Wl.nil <| Wq.next hK_78 <| Wc.seq fun _ hK_82 => Wc.region <| Wl.sg rfl rfl <| Wl.nil <| Wq.next hK_82 <| Wc.seq fun _ hK_84 => Wc.block <| Wc.seq fun _ hK_85 => Wc.meet (X := Unit) (fun u_ => [(0, str s), (1, .int .i64 10), (8, .bool false), (10, .int .u64 1844674407370955162), (11, .int .u64 9007199254740991), (12, .bool false), (13, .int .u64 (n : Int)), (99, .slice (some ⟨g_o94, 0, none⟩) s.length c_o94), (100, .int .i64 (s.length : Int)), (101, .int .i64 (i : Int)), (15, .int .u8 (q : Int)), (16, .int .u8 0), (106, .bool false)]) (fun u_ wr => Below w.heap.size w wr ∧ Rd wr 1 (some ⟨g_o94, 0, none⟩) s.length (u8s s)) (fun _ hM_86 => ?_) ?_
      ·
       refine Wc.region <| Wl.mv rfl rfl <| Wl.y (y_eqli rfl rfl) rfl <| Wl.mv rfl rfl <| Wl.guardT rfl rfl rfl (fun g_90 => ?_) (fun g_90 => ?_)
       ·
        have g_90_ := g_90
        simp only [DZ] at g_90
        refine Wl.mv rfl rfl <| Wl.y (y_pickT rfl g_90_ rfl) rfl <| Wl.sg rfl rfl <| Wl.nil <| Wq.meet hM_86 (()) (Sub.cons' rfl (by rfl) (Sub.cons' rfl (by rfl) (Sub.cons' rfl (by rfl) (Sub.cons' rfl (by rfl) (Sub.cons' rfl (by rfl) (Sub.cons' rfl (by rfl) (Sub.cons' rfl (by rfl) (Sub.cons' rfl (by rfl) (Sub.cons' rfl (by rfl) (Sub.cons' rfl (by rfl) (Sub.cons' rfl (by rfl) (Sub.cons' rfl (by rfl) (Sub.cons' rfl (by rfl) (Sub.nil)))))))))))))) ?_
        exact ⟨hb, hR_o94⟩
       have g_90_ := g_90
       simp only [DZ] at g_90
       refine Wl.y (y_pickF rfl g_90_ rfl) rfl <| Wl.sg rfl rfl <| Wl.nil <| Wq.meet hM_86 (()) (Sub.cons' rfl (by rfl) (Sub.cons' rfl (by rfl) (Sub.cons' rfl (by rfl) (Sub.cons' rfl (by rfl) (Sub.cons' rfl (by rfl) (Sub.cons' rfl (by rfl) (Sub.cons' rfl (by rfl) (Sub.cons' rfl (by rfl) (Sub.cons' rfl (by rfl) (Sub.cons' rfl (by rfl) (Sub.cons' rfl (by rfl) (Sub.cons' rfl (by rfl) (Sub.cons' rfl (by rfl) (Sub.nil)))))))))))))) ?_
       exact ⟨hb, hR_o94⟩
      rintro u_ wr hI_96
      replace hI_96 : Below w.heap.size w wr ∧ Rd wr 1 (some ⟨g_o94, 0, none⟩) s.length (u8s s) := hI_96
      obtain ⟨hb, hR_o94⟩ := hI_96
      show Wq _ _ _ _ [(0, str s), (1, .int .i64 10), (8, .bool false), (10, .int .u64 1844674407370955162), (11, .int .u64 9007199254740991), (12, .bool false), (13, .int .u64 (n : Int)), (99, .slice (some ⟨g_o94, 0, none⟩) s.length c_o94), (100, .int .i64 (s.length : Int)), (101, .int .i64 (i : Int)), (15, .int .u8 (q : Int)), (16, .int .u8 0), (106, .bool false)] _
      have hzhb_g39 := hb.size
      refine Wq.next hK_85 <| Wc.cond rfl (fun c12_97 => ?_) (fun c12_97 => ?_)
      ·
       have c12_97_ := c12_97
       cases c12_97_
      have c12_97_ := c12_97
      simp only [DZ] at c12_97
      refine Wc.seq fun _ hK_98 => Wc.meet (X := Bool) (fun g => [(0, str s), (1, .int .i64 10), (8, .bool false), (10, .int .u64 1844674407370955162), (11, .int .u64 9007199254740991), (12, .bool false), (13, .int .u64 (n : Int)), (99, .slice (some ⟨g_o94, 0, none⟩) s.length c_o94), (100, .int .i64 (s.length : Int)), (101, .int .i64 (i : Int)), (15, .int .u8 (q : Int)), (16, .int .u8 0), (112, .bool g)]) (fun g wr => Below w.heap.size w wr ∧ Rd wr 1 (some ⟨g_o94, 0, none⟩) s.length (u8s s) ∧ g = decide (48 ≤ q ∧ q ≤ 57)) (fun _ hM_99 => ?_) ?_
      ·
       refine Wc.region <| Wl.mv rfl rfl <| Wl.y (y_leqi rfl rfl) rfl <| Wl.mv rfl rfl <| Wl.guardT rfl rfl rfl (fun g_103 => ?_) (fun g_103 => ?_)
       ·
        have g_103_ := g_103
        simp only [DZ] at g_103
        refine Wl.mv rfl rfl <| Wl.on' rfl rfl g_103_ <| Wl.y (y_leqi rfl rfl) rfl <| Wl.y (y_pickT rfl g_103_ rfl) rfl <| Wl.sg rfl rfl <| Wl.nil <| Wq.meet hM_99 (decide (48 ≤ q ∧ q ≤ 57)) (by repeat first | exact Sub.nil | refine Sub.cons' rfl (by first | rfl | exact bool_eq (decide_eq_decide.2 (by have := g_103; omega)) | exact bool_eq (decide_eq_false (by have := g_103; omega)).symm) ?_) ?_
        exact ⟨hb, hR_o94, rfl⟩
       have g_103_ := g_103
       simp only [DZ] at g_103
       refine Wl.off' rfl rfl g_103_ rfl rfl <| Wl.y (y_pickF rfl g_103_ rfl) rfl <| Wl.sg rfl rfl <| Wl.nil <| Wq.meet hM_99 (decide (48 ≤ q ∧ q ≤ 57)) (by repeat first | exact Sub.nil | refine Sub.cons' rfl (by first | rfl | exact bool_eq (decide_eq_decide.2 (by have := g_103; omega)) | exact bool_eq (decide_eq_false (by have := g_103; omega)).symm) ?_) ?_
       exact ⟨hb, hR_o94, rfl⟩
      rintro g wr hI_110
      replace hI_110 : Below w.heap.size w wr ∧ Rd wr 1 (some ⟨g_o94, 0, none⟩) s.length (u8s s) ∧ g = decide (48 ≤ q ∧ q ≤ 57) := hI_110
      obtain ⟨hb, hR_o94, hg⟩ := hI_110
      show Wq _ _ _ _ [(0, str s), (1, .int .i64 10), (8, .bool false), (10, .int .u64 1844674407370955162), (11, .int .u64 9007199254740991), (12, .bool false), (13, .int .u64 (n : Int)), (99, .slice (some ⟨g_o94, 0, none⟩) s.length c_o94), (100, .int .i64 (s.length : Int)), (101, .int .i64 (i : Int)), (15, .int .u8 (q : Int)), (16, .int .u8 0), (112, .bool g)] _
      have hzhb_g41 := hb.size
      refine Wq.next hK_98 <| Wc.meet (X := Int) (fun d => [(0, str s), (1, .int .i64 10), (8, .bool false), (10, .int .u64 1844674407370955162), (11, .int .u64 9007199254740991), (12, .bool false), (13, .int .u64 (n : Int)), (99, .slice (some ⟨g_o94, 0, none⟩) s.length c_o94), (100, .int .i64 (s.length : Int)), (101, .int .i64 (i : Int)), (16, .int .u8 d)]) (fun d wr => Below w.heap.size w wr ∧ Rd wr 1 (some ⟨g_o94, 0, none⟩) s.length (u8s s) ∧ 0 ≤ d ∧ d < 256 ∧ ((d = (q : Int) - 48 ∧ 48 ≤ q ∧ q ≤ 57) ∨ (¬ Gd s ∧ 10 ≤ d))) (fun _ hM_111 => ?_) ?_
      ·
       refine Wc.cond rfl (fun c13_112 => ?_) (fun c13_112 => ?_)
       ·
        have c13_112_ := c13_112
        have hq9 : 48 ≤ q ∧ q ≤ 57 := by have h := c13_112_; rw [hg] at h; exact of_decide_eq_true h
        obtain ⟨d_, hd_⟩ : ∃ d_ : Int, d_ = IntKind.u8.wrap ((q : Int) - 48) := ⟨_, rfl⟩
        have hdd : 0 ≤ d_ ∧ d_ < 256 ∧ ((d_ = (q : Int) - 48 ∧ 48 ≤ q ∧ q ≤ 57) ∨ (¬ Gd s ∧ 10 ≤ d_)) := by rw [hd_, wrap_u8 _ (by omega) (by omega)]; omega
        refine Wc.region <| Wl.mv rfl rfl <| Wl.y (y_sub rfl rfl) rfl <| Wl.sg rfl rfl <| Wl.nil <| Wq.meet hM_111 (d_) (by repeat first | exact Sub.nil | refine Sub.cons' rfl (by first | rfl | exact int_eq hd_.symm) ?_) ?_
        exact ⟨hb, hR_o94, hdd⟩
       have c13_112_ := c13_112
       have hq9 : ¬ (48 ≤ q ∧ q ≤ 57) := by have h := c13_112_; rw [hg] at h; exact of_decide_eq_false h
       have hng : ¬ Gd s := fun h => hq9 (by have h2 := h.at hil; rw [← hq] at h2; exact h2)
       refine Wc.seq fun _ hK_116 => Wc.meet (X := Bool) (fun l => [(0, str s), (1, .int .i64 10), (8, .bool false), (10, .int .u64 1844674407370955162), (11, .int .u64 9007199254740991), (12, .bool false), (13, .int .u64 (n : Int)), (99, .slice (some ⟨g_o94, 0, none⟩) s.length c_o94), (100, .int .i64 (s.length : Int)), (101, .int .i64 (i : Int)), (15, .int .u8 (q : Int)), (16, .int .u8 0), (121, .bool l)]) (fun l wr => Below w.heap.size w wr ∧ Rd wr 1 (some ⟨g_o94, 0, none⟩) s.length (u8s s) ∧ l = decide (97 ≤ bits .or .u8 (q : Int) 32 ∧ bits .or .u8 (q : Int) 32 ≤ 122)) (fun _ hM_117 => ?_) ?_
       ·
        refine Wc.region <| Wl.mv rfl rfl <| Wl.call txt217PrsA rfl rfl (lower_r _ _) rfl ?_
        rintro _ w_ ⟨rfl, hw_⟩
        have hw_ := hw_.symm; subst hw_
        refine Wl.y (y_leqi rfl rfl) rfl <| Wl.mv rfl rfl <| Wl.guardT rfl rfl rfl (fun g_122 => ?_) (fun g_122 => ?_)
        ·
         have g_122_ := g_122
         simp only [DZ] at g_122
         refine Wl.mv rfl rfl <| Wl.on' rfl rfl g_122_ <| Wl.call txt217PrsA rfl rfl (lower_r _ _) rfl ?_
         rintro _ w_ ⟨rfl, hw_⟩
         have hw_ := hw_.symm; subst hw_
         refine Wl.on' rfl rfl g_122_ <| Wl.y (y_leqi rfl rfl) rfl <| Wl.y (y_pickT rfl g_122_ rfl) rfl <| Wl.sg rfl rfl <| Wl.nil <| Wq.meet hM_117 (decide (97 ≤ bits .or .u8 (q : Int) 32 ∧ bits .or .u8 (q : Int) 32 ≤ 122)) (by repeat first | exact Sub.nil | refine Sub.cons' rfl (by first | rfl | exact bool_eq (decide_eq_decide.2 (by have := g_122; omega)) | exact bool_eq (decide_eq_false (by have := g_122; omega)).symm) ?_) ?_
         exact ⟨hb, hR_o94, rfl⟩
        have g_122_ := g_122
        simp only [DZ] at g_122
        refine Wl.off' rfl rfl g_122_ rfl rfl <| Wl.off' rfl rfl g_122_ rfl rfl <| Wl.y (y_pickF rfl g_122_ rfl) rfl <| Wl.sg rfl rfl <| Wl.nil <| Wq.meet hM_117 (decide (97 ≤ bits .or .u8 (q : Int) 32 ∧ bits .or .u8 (q : Int) 32 ≤ 122)) (by repeat first | exact Sub.nil | refine Sub.cons' rfl (by first | rfl | exact bool_eq (decide_eq_decide.2 (by have := g_122; omega)) | exact bool_eq (decide_eq_false (by have := g_122; omega)).symm) ?_) ?_
        exact ⟨hb, hR_o94, rfl⟩
       rintro l wr hI_130
       replace hI_130 : Below w.heap.size w wr ∧ Rd wr 1 (some ⟨g_o94, 0, none⟩) s.length (u8s s) ∧ l = decide (97 ≤ bits .or .u8 (q : Int) 32 ∧ bits .or .u8 (q : Int) 32 ≤ 122) := hI_130
       obtain ⟨hb, hR_o94, hl⟩ := hI_130
       show Wq _ _ _ _ [(0, str s), (1, .int .i64 10), (8, .bool false), (10, .int .u64 1844674407370955162), (11, .int .u64 9007199254740991), (12, .bool false), (13, .int .u64 (n : Int)), (99, .slice (some ⟨g_o94, 0, none⟩) s.length c_o94), (100, .int .i64 (s.length : Int)), (101, .int .i64 (i : Int)), (15, .int .u8 (q : Int)), (16, .int .u8 0), (121, .bool l)] _
       have hzhb_g43 := hb.size
       refine Wq.next hK_116 <| Wc.cond rfl (fun c14_131 => ?_) (fun c14_131 => ?_)
       ·
        have c14_131_ := c14_131
        have hlo : 97 ≤ bits .or .u8 (q : Int) 32 ∧ bits .or .u8 (q : Int) 32 ≤ 122 := by have h := c14_131_; rw [hl] at h; exact of_decide_eq_true h
        obtain ⟨d_, hd_⟩ : ∃ d_ : Int, d_ = IntKind.u8.wrap (IntKind.u8.wrap (bits .or .u8 (q : Int) 32 - 97) + 10) := ⟨_, rfl⟩
        have hdd : 0 ≤ d_ ∧ d_ < 256 ∧ ((d_ = (q : Int) - 48 ∧ 48 ≤ q ∧ q ≤ 57) ∨ (¬ Gd s ∧ 10 ≤ d_)) := by rw [hd_, wrap_u8 (bits .or .u8 (q : Int) 32 - 97) (by omega) (by omega), wrap_u8 _ (by omega) (by omega)]; exact ⟨by omega, by omega, .inr ⟨hng, by omega⟩⟩
        refine Wc.region <| Wl.mv rfl rfl <| Wl.call txt217PrsA rfl rfl (lower_r _ _) rfl ?_
        rintro _ w_ ⟨rfl, hw_⟩
        have hw_ := hw_.symm; subst hw_
        refine Wl.y (y_sub rfl rfl) rfl <| Wl.y (y_add rfl rfl) rfl <| Wl.sg rfl rfl <| Wl.nil <| Wq.meet hM_111 (d_) (by repeat first | exact Sub.nil | refine Sub.cons' rfl (by first | rfl | exact int_eq hd_.symm) ?_) ?_
        exact ⟨hb, hR_o94, hdd⟩
       have c14_131_ := c14_131
       refine Wc.seq fun _ hK_137 => Wc.region <| Wl.y (y_iface Tryz.underlying238 (by intro _ h; cases h) rfl) rfl <| Wl.sg rfl rfl <| Wl.sg rfl rfl <| Wl.nil <| Wq.next hK_137 <| Wc.ret <| Wq.then_ret (Wq.block_ret (Wq.then_ret (Wq.block_ret (Wq.then_ret (Wq.then_ret (Wq.block_ret (Wq.then_ret ?_)))))))
       refine ret2 rfl rfl rfl ?_
       exact ⟨_, rfl, ⟨0, _, rfl, .inr ⟨hng, by omega, 2, .inr rfl, rfl⟩⟩, hb⟩
      rintro d wr hI_141
      replace hI_141 : Below w.heap.size w wr ∧ Rd wr 1 (some ⟨g_o94, 0, none⟩) s.length (u8s s) ∧ 0 ≤ d ∧ d < 256 ∧ ((d = (q : Int) - 48 ∧ 48 ≤ q ∧ q ≤ 57) ∨ (¬ Gd s ∧ 10 ≤ d)) := hI_141
      obtain ⟨hb, hR_o94, hd0, hd1, hdd⟩ := hI_141
      show Wq _ _ _ _ [(0, str s), (1, .int .i64 10), (8, .bool false), (10, .int .u64 1844674407370955162), (11, .int .u64 9007199254740991), (12, .bool false), (13, .int .u64 (n : Int)), (99, .slice (some ⟨g_o94, 0, none⟩) s.length c_o94), (100, .int .i64 (s.length : Int)), (101, .int .i64 (i : Int)), (16, .int .u8 d)] _
      have hzhb_c13 := hb.size
      refine Wq.block_normal <| Wq.next hK_84 <| Wc.seq fun _ hK_142 => Wc.seq fun _ hK_143 => Wc.region <| Wl.mv rfl rfl <| Wl.mv rfl rfl <| Wl.y (y_eq (y_convi Tryz.underlying3 Tryz.underlying5 rfl) (int_eq (show _ = (10 : Int) by rfl))) rfl <| Wl.y (y_geqi rfl rfl) rfl <| Wl.nil <| Wq.next hK_143 <| Wc.cond rfl (fun c15_148 => ?_) (fun c15_148 => ?_)
      ·
       have c15_148_ := c15_148
       simp only [DZ] at c15_148
       refine Wc.seq fun _ hK_149 => Wc.region <| Wl.y (y_iface Tryz.underlying238 (by intro _ h; cases h) rfl) rfl <| Wl.sg rfl rfl <| Wl.sg rfl rfl <| Wl.nil <| Wq.next hK_149 <| Wc.ret <| Wq.then_ret (Wq.block_ret (Wq.then_ret (Wq.then_ret (Wq.block_ret (Wq.then_ret ?_)))))
       refine ret2 rfl rfl rfl ?_
       exact ⟨_, rfl, ⟨0, _, rfl, .inr ⟨by rcases hdd with h | h; (have := c15_148; omega); exact h.1, by omega, 2, .inr rfl, rfl⟩⟩, hb⟩
      have c15_148_ := c15_148
      simp only [DZ] at c15_148
      obtain ⟨e, rfl⟩ : ∃ e : Nat, d = e := ⟨d.toNat, by omega⟩
      have he : (e : Int) = (q : Int) - 48 ∧ e < 10 := by have := c15_148; omega
      refine Wc.skip <| Wq.next hK_142 <| Wc.seq fun _ hK_153 => Wc.seq fun _ hK_154 => Wc.region <| Wl.mv rfl rfl <| Wl.mv rfl rfl <| Wl.y (y_geqi rfl rfl) rfl <| Wl.nil <| Wq.next hK_154 <| Wc.cond rfl (fun c16_158 => ?_) (fun c16_158 => ?_)
      ·
       have c16_158_ := c16_158
       simp only [DZ] at c16_158
       omega
      have c16_158_ := c16_158
      simp only [DZ] at c16_158
      refine Wc.skip <| Wq.next hK_153 <| Wc.seq fun _ hK_159 => Wc.region <| Wl.mv rfl rfl <| Wl.mv rfl rfl <| Wl.y (y_eq (y_convi Tryz.underlying3 Tryz.underlying135 rfl) (int_eq (show _ = (10 : Int) by rfl))) rfl <| Wl.y (y_eq (y_mul rfl rfl) (int_eq (show _ = ((n * 10 : Nat) : Int) by rw [wrap_u64 _ (by omega) (by omega)]; omega))) rfl <| Wl.sg rfl rfl <| Wl.nil <| Wq.next hK_159 <| Wc.seq fun _ hK_165 => Wc.region <| Wl.mv rfl rfl <| Wl.mv rfl rfl <| Wl.y (y_eq (y_convi Tryz.underlying5 Tryz.underlying135 rfl) (int_eq (show _ = (e : Int) by rw [wrap_u64 _ (by omega) (by omega)]))) rfl <| Wl.y (y_eq (y_add rfl rfl) (int_eq (show _ = ((n * 10 + e : Nat) : Int) by rw [wrap_u64 _ (by omega) (by omega)]; omega))) rfl <| Wl.sg rfl rfl <| Wl.nil <| Wq.next hK_165 <| Wc.seq fun _ hK_171 => Wc.seq fun _ hK_172 => Wc.region <| Wl.mv rfl rfl <| Wl.mv rfl rfl <| Wl.y (y_lssi rfl rfl) rfl <| Wl.mv rfl rfl <| Wl.guardF rfl rfl rfl (fun g_177 => ?_) (fun g_177 => ?_)
      ·
       have g_177_ := g_177
       simp only [DZ] at g_177
       omega
      have g_177_ := g_177
      simp only [DZ] at g_177
      refine Wl.mv rfl rfl <| Wl.on' rfl rfl g_177_ <| Wl.mv rfl rfl <| Wl.on' rfl rfl g_177_ <| Wl.y (y_gtri rfl rfl) rfl <| Wl.y (y_pickF rfl g_177_ rfl) rfl <| Wl.nil <| Wq.next hK_172 <| Wc.cond rfl (fun c17_182 => ?_) (fun c17_182 => ?_)
      ·
       have c17_182_ := c17_182
       simp only [DZ] at c17_182
       refine Wc.seq fun _ hK_183 => Wc.region <| Wl.mv rfl rfl <| Wl.y (y_iface Tryz.underlying238 (by intro _ h; cases h) rfl) rfl <| Wl.sg rfl rfl <| Wl.sg rfl rfl <| Wl.nil <| Wq.next hK_183 <| Wc.ret <| Wq.then_ret (Wq.block_ret (Wq.then_ret (Wq.then_ret (Wq.block_ret (Wq.then_ret ?_)))))
       refine ret2 rfl rfl rfl ?_
       exact ⟨_, rfl, ⟨9007199254740991, _, rfl, .inr ⟨fun hg => by have h := (gd_next hil hv hg).2; have := c17_182; rw [← hq] at h; omega, by omega, 1, .inl rfl, rfl⟩⟩, hb⟩
      have c17_182_ := c17_182
      simp only [DZ] at c17_182
      refine Wc.skip <| Wq.next hK_171 <| Wc.region <| Wl.mv rfl rfl <| Wl.sg rfl rfl <| Wl.nil <| Wq.block_normal <| Wq.next hK_77 <| Wc.region <| Wl.y (y_addI rfl rfl (by omega) (by omega)) rfl <| Wl.mv rfl rfl <| Wl.nil <| fun a_ ha_ => hL_71 _ _ (⟨i + 1, n * 10 + e⟩) (by simp; omega) (by repeat first | exact Sub.nil | refine Sub.cons' rfl (by first | rfl | exact int_eq (by omega)) ?_) ?_ a_ ha_
      exact ⟨by omega, by omega, hb, hR_o94, fun hg => by have h := (gd_next hil hv hg).1; rw [← hq] at h; rw [← h]; omega⟩
     have c11_76_ := c11_76
     simp only [DZ] at c11_76
     refine Wc.exit <| Wq.then_exit <| Wq.then_exit <| Wq.block_exit <| Wq.next hK_65 <| Wc.seq fun _ hK_192 => Wc.seq fun _ hK_193 => Wc.region <| Wl.mv rfl rfl <| Wl.mv rfl rfl <| Wl.guardT rfl rfl rfl (fun g_196 => ?_) (fun g_196 => ?_)
     ·
      have g_196_ := g_196
      cases g_196_
     have g_196_ := g_196
     simp only [DZ] at g_196
     refine Wl.off' rfl rfl g_196_ rfl rfl <| Wl.off' rfl rfl g_196_ rfl rfl <| Wl.y (y_pickF rfl g_196_ rfl) rfl <| Wl.nil <| Wq.next hK_193 <| Wc.condF rfl rfl <| Wc.skip <| Wq.next hK_192 <| Wc.seq fun _ hK_198 => Wc.region <| Wl.mv rfl rfl <| Wl.sg rfl rfl <| Wl.sg rfl rfl <| Wl.nil <| Wq.next hK_198 <| Wc.ret <| ret2 rfl rfl rfl ?_
     exact ⟨_, rfl, ⟨_, _, rfl, .inl ⟨rfl, hn, fun hg => by rw [hv hg, List.take_of_length_le (by omega)]⟩⟩, hb⟩
    have c9_53_ := c9_53
    simp only [DZ] at c9_53
    cases c9_53_
   have c1_30_ := c1_30
   simp only [DZ] at c1_30
   cases c1_30_
  have g_25_ := g_25
  simp only [DZ] at g_25
  cases g_25_
end Go.Proofs.YtjmlknjbhbfneaaGreatDoor
namespace Go.Proofs.YtjmlknjbhbfneaaGreatDoor
open Go.RowKit Go.Bw Go.Bw.Fl
set_option linter.unusedVariables false
set_option linter.unusedSimpArgs false
theorem exn150PrsB : Extn Tryz.prog 150 Extern.MathFloatBits.float64frombits := fun args w => run_callFunc_extern Tryz.func150 (by kernel_rfl) (by kernel_rfl) (by kernel_rfl) (by kernel_rfl) args w
theorem exn91PrsB : Extn Tryz.prog 91 Extern.MathFloatBits.float64bits := fun args w => run_callFunc_extern Tryz.func91 (by kernel_rfl) (by kernel_rfl) (by kernel_rfl) (by kernel_rfl) args w
theorem txt106PrsB : Txt Tryz.prog 106 := ⟨_, Tryz.func106, by kernel_rfl, rfl⟩   -- internal/stringslite.Index
theorem txt116PrsB : Txt Tryz.prog 116 := ⟨_, Tryz.func116, by kernel_rfl, rfl⟩   -- math.IsInf
theorem txt136PrsB : Txt Tryz.prog 136 := ⟨_, Tryz.func136, by kernel_rfl, rfl⟩   -- internal/stringslite.Cut
theorem txt176PrsB : Txt Tryz.prog 176 := ⟨_, Tryz.func176, by kernel_rfl, rfl⟩   -- math.Inf
theorem txt182PrsB : Txt Tryz.prog 182 := ⟨_, Tryz.func182, by kernel_rfl, rfl⟩   -- strconv.toError
theorem txt192PrsB : Txt Tryz.prog 192 := ⟨_, Tryz.func192, by kernel_rfl, rfl⟩   -- math.IsNaN
theorem txt193PrsB : Txt Tryz.prog 193 := ⟨_, Tryz.func193, by kernel_rfl, rfl⟩   -- math.normalize
theorem txt199PrsB : Txt Tryz.prog 199 := ⟨_, Tryz.func199, by kernel_rfl, rfl⟩   -- internal/strconv.ParseUint
theorem txt202PrsB : Txt Tryz.prog 202 := ⟨_, Tryz.func202, by kernel_rfl, rfl⟩   -- math.ldexp
theorem txt210PrsB : Txt Tryz.prog 210 := ⟨_, Tryz.func210, by kernel_rfl, rfl⟩   -- math.Copysign
theorem cell_of {w : World} {nm : String} {g : Nat} {v : Value} (hg : Tryz.prog.globalNamed nm = some g) (h : World.var? Tryz.prog w nm = some #[v]) : w.cell? ⟨g, 0, none⟩ = some v := by
  have h0 := World.var?_cell hg h 0; simpa using h0
theorem toError_r (fn s : List UInt8) (base bs : Int) (c : Int) (hc : c = 1 ∨ c = 2) (hs : s.length ≤ 281474976710656) (w : World) (hL : Lb w) : Ret Tryz.prog 182 [str fn, str s, .int .i64 base, .int .i64 bs, .iface 238 (.int .i64 c)] w fun v w' => (∃ t p, v = .iface t p) ∧ Below w.heap.size w w' := by
  have hs' : (⟨s.toArray⟩ : ByteArray).size ≤ 281474976710656 := by rw [size_str]; exact hs
  rcases hc with rfl | rfl
  · obtain ⟨tp, p, hv⟩ := hL.rng
    exact Calls.mono (Tryz.strconv_toError_range ⟨fn.toArray⟩ ⟨s.toArray⟩ base bs _ w hs' (cell_of (by kernel_rfl) hv) (.inr ⟨_, _, rfl⟩)) fun e w' ⟨N, h1, _, _, h2⟩ => ⟨_, h1, ⟨_, _, rfl⟩, h2⟩
  · obtain ⟨tp, p, hv⟩ := hL.syn
    exact Calls.mono (Tryz.strconv_toError_syntax ⟨fn.toArray⟩ ⟨s.toArray⟩ base bs _ w hs' (cell_of (by kernel_rfl) hv) (.inr ⟨_, _, rfl⟩)) fun e w' ⟨N, h1, _, _, h2⟩ => ⟨_, h1, ⟨_, _, rfl⟩, h2⟩
/-- what ParseUint at 53 bits tells -/
def PEnd (s : List UInt8) (n : Nat) (e : Value) : Prop := IsErr e ∧ (isNilI e = true → n < 9007199254740992 ∧ (Gd s → n = dval 0 s)) ∧ (isNilI e = false → ¬ Gd s) ∧ n < 18446744073709551616
theorem PEnd.of {s : List UInt8} {n : Nat} {e : Value} (h : UEnd s n e) : PEnd s n e := by
  rcases h with ⟨rfl, h1, h2⟩ | ⟨h1, h2, c, hc, rfl⟩
  · exact ⟨.inl rfl, fun _ => ⟨h1, h2⟩, fun h => (by cases h), by omega⟩
  · exact ⟨.inr ⟨_, _, rfl⟩, fun h => (by cases h), fun _ => h1, h2⟩
theorem UEnd.bad {s : List UInt8} {n : Nat} {e : Value} (h : UEnd s n e) (he : isNilI e = false) : ∃ c : Int, (c = 1 ∨ c = 2) ∧ e = .iface 238 (.int .i64 c) := by
  rcases h with ⟨rfl, h1, h2⟩ | ⟨h1, h2, c, hc, rfl⟩
  · cases he
  · exact ⟨c, hc, rfl⟩
theorem UEnd.good {s : List UInt8} {n : Nat} {e : Value} (h : UEnd s n e) (he : isNilI e = true) : n < 9007199254740992 ∧ (Gd s → n = dval 0 s) := by
  rcases h with ⟨rfl, h1, h2⟩ | ⟨h1, h2, c, hc, rfl⟩
  · exact ⟨h1, h2⟩
  · cases he
theorem ParseUint_r (s : List UInt8) (hs : s.length ≤ 281474976710656) (w : World) (hL : Lb w) : Ret Tryz.prog 177 [str s, .int .i64 10, .int .i64 53] w fun v w' => (∃ n e, v = .tuple #[.int .u64 (n : Nat), e] ∧ PEnd s n e) ∧ Below w.heap.size w w' := by
  have hb := Below.refl w.heap.size w
  have hL_hb := hL
  refine enter Tryz.func177 rfl rfl rfl <| Wc.seq fun _ hK_1 => Wc.region <| Wl.sg rfl rfl <| Wl.sg rfl rfl <| Wl.nil <| Wq.next hK_1 <| Wc.seq fun _ hK_4 => Wc.region <| Wl.mv rfl rfl <| Wl.mv rfl rfl <| Wl.mv rfl rfl <| Wl.call txt199PrsB rfl rfl (iParseUint_r s hs _) rfl ?_
  rintro _ w_k0 ⟨⟨n, e, rfl, hU⟩, hs_k0⟩
  have hz_k0 := hs_k0.size
  have hb := hb.trans (hs_k0.mono hb.size)
  have hL := hL_hb.below hb
  refine Wl.mv rfl rfl <| Wl.y (y_extract rfl rfl) rfl <| Wl.y (y_extract rfl rfl) rfl <| Wl.sg rfl rfl <| Wl.sg rfl rfl <| Wl.nil <| Wq.next hK_4 <| Wc.seq fun _ hK_14 => Wc.seq fun _ hK_15 => Wc.region <| Wl.mv rfl rfl <| Wl.y (y_neqN (by kernel_rfl) rfl ((PEnd.of hU).1)) rfl <| Wl.nil <| Wq.next hK_15 <| Wc.cond rfl (fun c0_18 => ?_) (fun c0_18 => ?_)
  ·
   have c0_18_ := c0_18
   simp only [DZ] at c0_18
   obtain ⟨c, hc, rfl⟩ := hU.bad (by have h := c0_18_; simpa using h)
   refine Wc.seq fun _ hK_19 => Wc.region <| Wl.mv rfl rfl <| Wl.mv rfl rfl <| Wl.mv rfl rfl <| Wl.mv rfl rfl <| Wl.mv rfl rfl <| Wl.call txt182PrsB rfl rfl (toError_r _ s _ _ c hc hs _ hL) rfl ?_
   rintro _ w_k1 ⟨⟨t, p, rfl⟩, hs_k1⟩
   have hz_k1 := hs_k1.size
   have hb := hb.trans (hs_k1.mono hb.size)
   have hL := hL_hb.below hb
   refine Wl.sg rfl rfl <| Wl.sg rfl rfl <| Wl.nil <| Wq.next hK_19 <| Wc.ret <| Wq.then_ret <| ret2 rfl rfl rfl ?_
   exact ⟨_, rfl, ⟨n, _, rfl, .inr ⟨_, _, rfl⟩, fun h => (by cases h), fun _ => (PEnd.of hU).2.2.1 rfl, (PEnd.of hU).2.2.2⟩, hb⟩
  have c0_18_ := c0_18
  simp only [DZ] at c0_18
  refine Wc.skip <| Wq.next hK_14 <| Wc.seq fun _ hK_28 => Wc.region <| Wl.mv rfl rfl <| Wl.sg rfl rfl <| Wl.sg rfl rfl <| Wl.nil <| Wq.next hK_28 <| Wc.ret <| ret2 rfl rfl rfl ?_
  exact ⟨_, rfl, ⟨n, _, rfl, .inl rfl, fun _ => hU.good (by have h := c0_18_; simpa using h), fun h => (by cases h), (PEnd.of hU).2.2.2⟩, hb⟩
theorem Index_r (s : List UInt8) (w : World) : Ret Tryz.prog 106 [str s, str [112]] w fun v w' => (∃ z, v = .int .i64 z ∧ z = Lib.indexByte s 112) ∧ w' = w :=
  Calls.mono (Tryz.stringslite_Index_one ⟨s.toArray⟩ 112 w) fun e w' ⟨h1, h2⟩ => ⟨_, h1, ⟨_, rfl, rfl⟩, h2⟩
def cutP (s : List UInt8) : List UInt8 × List UInt8 := if 0 ≤ Lib.indexByte s 112 then (s.take (Lib.indexByte s 112).toNat, s.drop ((Lib.indexByte s 112).toNat + 1)) else (s, [])
theorem cutP_num (M : Nat) (e : Int) : cutP (numT M e) = (Lib.decDigits M, Lib.itoa e) := by
  have h := index_mid (a := Lib.decDigits M) (b := Lib.itoa e) (noP (u := M))
  unfold cutP numT
  rw [h, if_pos (by omega), Int.toNat_natCast]; simp
theorem cutP_len (s : List UInt8) : (cutP s).1.length ≤ s.length ∧ (cutP s).2.length ≤ s.length := by
  unfold cutP; split <;> simp <;> omega
theorem idx_lt {s : List UInt8} {o : Nat} (h : Lib.indexByte s 112 = (o : Int)) : o < s.length := by
  have := (Lib.indexByte_some h).1
  exact (List.getElem?_eq_some_iff.1 this).1
theorem iCut_r (s : List UInt8) (hs : s.length ≤ 281474976710656) (w : World) : Ret Tryz.prog 136 [str s, str [112]] w fun v w' => (∃ b, v = .tuple #[str (cutP s).1, str (cutP s).2, .bool b]) ∧ Below w.heap.size w w' := by
  have h11 : ([112] : List UInt8).length = 1 := rfl
  have hb := Below.refl w.heap.size w
  refine enter Tryz.func136 rfl rfl rfl <| Wc.seq fun _ hK_1 => Wc.region <| Wl.sg rfl rfl <| Wl.sg rfl rfl <| Wl.sg rfl rfl <| Wl.nil <| Wq.next hK_1 <| Wc.seq fun _ hK_5 => Wc.seq fun _ hK_6 => Wc.region <| Wl.mv rfl rfl <| Wl.mv rfl rfl <| Wl.call txt106PrsB rfl rfl (Index_r s _) rfl ?_
  rintro _ w_ ⟨⟨z, rfl, hz⟩, hw_⟩
  have hw_ := hw_.symm; subst hw_
  refine Wl.sg rfl rfl <| Wl.nil <| Wq.next hK_6 <| Wc.seq fun _ hK_11 => Wc.region <| Wl.mv rfl rfl <| Wl.y (y_geqi rfl rfl) rfl <| Wl.nil <| Wq.next hK_11 <| Wc.cond rfl (fun c0_14 => ?_) (fun c0_14 => ?_)
  ·
   have c0_14_ := c0_14
   simp only [DZ] at c0_14
   obtain ⟨o, rfl⟩ : ∃ o : Nat, z = o := ⟨z.toNat, by have := c0_14; omega⟩
   have ho := idx_lt hz.symm
   refine Wc.seq fun _ hK_15 => Wc.quiet (by kernel_rfl) (by kernel_rfl) <| Wy.y (y_move rfl) rfl <| Wy.y (y_move rfl) rfl <| Wy.y (y_slicesH Tryz.underlying9 rfl rfl (by omega) (by omega)) rfl <| Wy.y (y_move rfl) rfl <| Wy.y (y_move rfl) rfl <| Wy.y (y_move rfl) rfl <| Wy.y (y_lens Tryz.underlying9 (by omega) rfl) rfl <| Wy.y (y_addI rfl rfl (by omega) (by omega)) rfl <| Wy.y (y_slicesL Tryz.underlying9 rfl rfl (by omega) (by omega)) rfl <| Wy.y (y_assign rfl) rfl <| Wy.y (y_assign rfl) rfl <| Wy.y (y_assign rfl) rfl <| Wy.nil fun w_g3 hs_g3 => ?_
   have hz_g3 := hs_g3.size
   have hb := hb.trans (hs_g3.mono hb.size)
   refine Wq.next hK_15 <| Wc.ret <| Wq.then_ret <| ret3 rfl rfl rfl rfl ?_
   exact ⟨_, rfl, ⟨true, by unfold cutP; rw [← hz, if_pos (by omega), Int.toNat_natCast]; rfl⟩, hb⟩
  have c0_14_ := c0_14
  simp only [DZ] at c0_14
  refine Wc.skip <| Wq.next hK_5 <| Wc.seq fun _ hK_28 => Wc.region <| Wl.mv rfl rfl <| Wl.sg rfl rfl <| Wl.sg rfl rfl <| Wl.sg rfl rfl <| Wl.nil <| Wq.next hK_28 <| Wc.ret <| ret3 rfl rfl rfl rfl ?_
  exact ⟨_, rfl, ⟨false, by unfold cutP; rw [← hz, if_neg (by have := c0_14; omega)]; rfl⟩, hb⟩
theorem Cut_r (s : List UInt8) (hs : s.length ≤ 281474976710656) (w : World) : Ret Tryz.prog 95 [str s, str [112]] w fun v w' => (∃ b, v = .tuple #[str (cutP s).1, str (cutP s).2, .bool b]) ∧ Below w.heap.size w w' := by
  have hb := Below.refl w.heap.size w
  refine enter Tryz.func95 rfl rfl rfl <| Wc.seq fun _ hK_1 => Wc.region <| Wl.sg rfl rfl <| Wl.sg rfl rfl <| Wl.sg rfl rfl <| Wl.nil <| Wq.next hK_1 <| Wc.seq fun _ hK_5 => Wc.region <| Wl.mv rfl rfl <| Wl.mv rfl rfl <| Wl.call txt136PrsB rfl rfl (iCut_r s hs _) rfl ?_
  rintro _ w_k0 ⟨⟨b, rfl⟩, hs_k0⟩
  have hz_k0 := hs_k0.size
  have hb := hb.trans (hs_k0.mono hb.size)
  refine Wl.y (y_extract rfl rfl) rfl <| Wl.y (y_extract rfl rfl) rfl <| Wl.y (y_extract rfl rfl) rfl <| Wl.sg rfl rfl <| Wl.sg rfl rfl <| Wl.sg rfl rfl <| Wl.nil <| Wq.next hK_5 <| Wc.ret <| ret3 rfl rfl rfl rfl ?_
  exact ⟨_, rfl, ⟨b, rfl⟩, hb⟩
/-- what Atoi tells -/
def AEnd (s : List UInt8) (v : Value) : Prop := ∃ n e, v = .tuple #[.int .i64 n, e] ∧ IsErr e ∧ ((Lib.atoiAll s = .ok n ∧ isNilI e = true) ∨ ((∀ k, Lib.atoiAll s ≠ .ok k) ∧ isNilI e = false))
theorem Atoi_r (s : List UInt8) (hs : s.length ≤ 281474976710656) (w : World) (hL : Lb w) : Ret Tryz.prog 178 [str s] w fun v w' => AEnd s v ∧ Below w.heap.size w w' := by
  have hs' : (⟨s.toArray⟩ : ByteArray).size ≤ 281474976710656 := by rw [size_str]; exact hs
  rcases h : Lib.atoiAll s with v | _ | _
  · exact Calls.mono (Tryz.strconv_Atoi_ok ⟨s.toArray⟩ (by omega) v h w) fun e w' ⟨h1, h2⟩ => ⟨_, h1, ⟨v, _, rfl, .inl rfl, .inl ⟨h, rfl⟩⟩, by
      rcases h2 with rfl | ⟨t, rfl⟩
      · exact Below.refl _ _
      · exact below_bytes w t⟩
  · obtain ⟨tp, p, hv⟩ := hL.syn
    exact Calls.mono (Any.strconv_Atoi_syntax_var Tryz.laysC172 ⟨s.toArray⟩ hs' h tp p w hv) fun e w' ⟨N, h1, _, _, h2⟩ => ⟨_, h1, ⟨_, _, rfl, .inr ⟨_, _, rfl⟩, .inr ⟨fun k hk => (by rw [h] at hk; cases hk), rfl⟩⟩, h2⟩
  · obtain ⟨tp, p, hv⟩ := hL.rng
    exact Calls.mono (Any.strconv_Atoi_range_var Tryz.laysC172 ⟨s.toArray⟩ hs' h tp p w hv) fun e w' ⟨N, h1, _, _, h2⟩ => ⟨_, h1, ⟨_, _, rfl, .inr ⟨_, _, rfl⟩, .inr ⟨fun k hk => (by rw [h] at hk; cases hk), rfl⟩⟩, h2⟩

theorem Inf_r (w : World) : Ret Tryz.prog 176 [.int .i64 1] w fun v w' => v = .float .f64 9218868437227405312 ∧ w' = w := by
  refine enter Tryz.func176 rfl rfl rfl <| Wc.seq fun _ hK_1 => Wc.region <| Wl.sg rfl rfl <| Wl.nil <| Wq.next hK_1 <| Wc.seq fun _ hK_3 => Wc.region <| Wl.sg rfl rfl <| Wl.nil <| Wq.next hK_3 <| Wc.seq fun _ hK_5 => Wc.seq fun _ hK_6 => Wc.region <| Wl.mv rfl rfl <| Wl.y (y_geqi rfl rfl) rfl <| Wl.nil <| Wq.next hK_6 <| Wc.cond rfl (fun c0_9 => ?_) (fun c0_9 => ?_)
  ·
   have c0_9_ := c0_9
   simp only [DZ] at c0_9
   refine Wc.region <| Wl.sg rfl rfl <| Wl.nil <| Wq.next hK_5 <| Wc.seq fun _ hK_11 => Wc.region <| Wl.mv rfl rfl <| Wl.y (y_b2f exn150PrsB rfl rfl) rfl <| Wl.sg rfl rfl <| Wl.nil <| Wq.next hK_11 <| Wc.ret <| ret1 rfl rfl ?_
   exact ⟨_, rfl, rfl, rfl⟩
  have c0_9_ := c0_9
  simp only [DZ] at c0_9
  exact absurd c0_9 (by decide)
theorem InfM_r (w : World) : Ret Tryz.prog 176 [.int .i64 (-1)] w fun v w' => v = .float .f64 18442240474082181120 ∧ w' = w := by
  refine enter Tryz.func176 rfl rfl rfl <| Wc.seq fun _ hK_1 => Wc.region <| Wl.sg rfl rfl <| Wl.nil <| Wq.next hK_1 <| Wc.seq fun _ hK_3 => Wc.region <| Wl.sg rfl rfl <| Wl.nil <| Wq.next hK_3 <| Wc.seq fun _ hK_5 => Wc.seq fun _ hK_6 => Wc.region <| Wl.mv rfl rfl <| Wl.y (y_geqi rfl rfl) rfl <| Wl.nil <| Wq.next hK_6 <| Wc.cond rfl (fun c0_9 => ?_) (fun c0_9 => ?_)
  ·
   have c0_9_ := c0_9
   simp only [DZ] at c0_9
   exact absurd c0_9 (by decide)
  have c0_9_ := c0_9
  simp only [DZ] at c0_9
  refine Wc.region <| Wl.sg rfl rfl <| Wl.nil <| Wq.next hK_5 <| Wc.seq fun _ hK_11 => Wc.region <| Wl.mv rfl rfl <| Wl.y (y_b2f exn150PrsB rfl rfl) rfl <| Wl.sg rfl rfl <| Wl.nil <| Wq.next hK_11 <| Wc.ret <| ret1 rfl rfl ?_
  exact ⟨_, rfl, rfl, rfl⟩
theorem and63 (b : Nat) (h : b < 9223372036854775808) : bits .and .u64 (b : Int) 9223372036854775808 = 0 := by
  have h1 := u64_and_nat b 9223372036854775808 (by omega) (by decide)
  rw [show ((9223372036854775808 : Nat) : Int) = 9223372036854775808 from rfl] at h1
  have h2 : b &&& 2 ^ 63 = 0 := by
    apply Nat.eq_of_testBit_eq; intro i
    rw [Nat.testBit_and, Nat.testBit_two_pow, Nat.zero_testBit]
    by_cases hi : 63 = i
    · subst hi; rw [Nat.testBit_lt_two_pow (by simpa using h)]; rfl
    · simp [hi]
  rw [h1, show (9223372036854775808 : Nat) = 2 ^ 63 by decide, h2]; rfl
theorem Copysign_r (b : Nat) (h : b < 9223372036854775808) (w : World) : Ret Tryz.prog 210 [.float .f64 0, .float .f64 b] w fun v w' => v = .float .f64 0 ∧ w' = w := by
  refine enter Tryz.func210 rfl rfl rfl <| Wc.seq fun _ hK_1 => Wc.region <| Wl.sg rfl rfl <| Wl.nil <| Wq.next hK_1 <| Wc.seq fun _ hK_3 => Wc.region <| Wl.mv rfl rfl <| Wl.y (y_f2b exn91PrsB rfl rfl) rfl <| Wl.y (y_eq (y_andNot rfl rfl) (int_eq (show _ = (0 : Int) by rfl))) rfl <| Wl.mv rfl rfl <| Wl.y (y_f2b exn91PrsB rfl rfl) rfl <| Wl.y (y_eq (y_and rfl rfl) (int_eq (and63 b h))) rfl <| Wl.y (y_eq (y_or rfl rfl) (int_eq (show _ = (0 : Int) by rfl))) rfl <| Wl.y (y_b2f exn150PrsB rfl rfl) rfl <| Wl.sg rfl rfl <| Wl.nil <| Wq.next hK_3 <| Wc.ret <| ret1 rfl rfl ?_
  exact ⟨_, rfl, rfl, rfl⟩
theorem zero_exact {k : Int} {f : Nat} (h : Exact 0 k f) : f = 0 := by
  obtain ⟨t, u, _, hv⟩ := h
  rw [show V 0 = 0 by decide, Nat.zero_mul] at hv
  rcases Nat.mul_eq_zero.1 hv.symm with h | h
  · exact V_zero.1 h
  · exact absurd h (Nat.ne_of_gt (Nat.two_pow_pos u))
theorem and2047i (b : Nat) (h : b < 4503599627370496) : bits .and .i64 (b : Int) 2047 = ((b % 2048 : Nat) : Int) := by
  have hb : (BitVec.ofInt 64 (b : Int)).toNat = b := by rw [BitVec.toNat_ofInt]; omega
  have hc : (BitVec.ofInt 64 (2047 : Int)).toNat = 2 ^ 11 - 1 := by decide
  show IntKind.i64.wrap ((BitVec.ofInt 64 (b : Int) &&& BitVec.ofInt 64 (2047 : Int)).toNat : Int) = _
  rw [BitVec.toNat_and, hb, hc, Nat.and_two_pow_sub_one_eq_mod]
  rw [wrap_i64 _ (by omega) (by omega)]
theorem normN_r (r : Nat) (h0 : 4503599627370496 ≤ r) (h1 : r < 9218868437227405312) (w : World) : Ret Tryz.prog 193 [.float .f64 r] w fun v w' => v = .tuple #[.float .f64 r, .int .i64 0] ∧ w' = w :=
  (normalize_r r (by omega) h1 w).mono fun v w' ⟨⟨r', s, hv, hN⟩, hw⟩ => by
    obtain ⟨_, _, h | ⟨_, rfl, rfl⟩⟩ := hN
    · omega
    · exact ⟨hv, hw⟩
theorem shl52 (q : Nat) (h : q ≤ 2046) : IntKind.u64.wrap ((q : Int) * 2 ^ (52 : Int).toNat) = ((q * 4503599627370496 : Nat) : Int) := by
  rw [show (2 : Int) ^ (52 : Int).toNat = 4503599627370496 by decide, wrap_u64 _ (by omega) (by omega)]; omega
theorem or52 (b q : Nat) (hb : b < 4503599627370496) (h : q ≤ 2046) : bits .or .u64 (b : Int) ((q * 4503599627370496 : Nat) : Int) = ((b + q * 4503599627370496 : Nat) : Int) := by
  rw [u64_or_nat b _ (by omega) (by omega), Nat.or_comm, show (4503599627370496 : Nat) = 2 ^ 52 by decide, or_low _ _ _ (by simpa using hb), Nat.add_comm]
theorem ldexp_r (r : Nat) (hr : r = 0 ∨ (4503599627370496 ≤ r ∧ r < 9218868437227405312)) (k : Int) (hk : -2000 ≤ k ∧ k ≤ 2000) (w : World) : Ret Tryz.prog 202 [.float .f64 r, .int .i64 k] w fun v w' => (∃ x, v = .float .f64 x ∧ x < 18446744073709551616 ∧ ∀ f, f < 9218868437227405312 → Exact r k f → x = f) ∧ Below w.heap.size w w' := by
  have hlt : r < 9218868437227405312 := by omega
  have hrr : rung r = r := rung_pos (by omega)
  have hc0 : (FloatKind.f64.format.order r 0 == some .eq) = decide (r = 0) := by
    have := eq_zero_f r
    rw [hrr, nan_pos (by omega), Bool.not_false, Bool.true_and] at this; exact this
  have hb := Below.refl w.heap.size w
  refine enter Tryz.func202 rfl rfl rfl <| Wc.seq fun _ hK_1 => Wc.region <| Wl.sg rfl rfl <| Wl.nil <| Wq.next hK_1 <| Wc.seq fun _ hK_3 => Wc.block <| Wc.seq fun _ hK_4 => Wc.region <| Wl.mv rfl rfl <| Wl.y (y_eqlf rfl rfl) rfl <| Wl.sg rfl rfl <| Wl.nil <| Wq.next hK_4 ?_
  rw [hc0]
  refine Wc.cond rfl (fun c0_8 => ?_) (fun c0_8 => ?_)
  ·
   have c0_8_ := c0_8
   simp only [DZ] at c0_8
   have h0 : r = 0 := c0_8
   refine Wc.seq fun _ hK_9 => Wc.region <| Wl.mv rfl rfl <| Wl.sg rfl rfl <| Wl.nil <| Wq.next hK_9 <| Wc.ret <| Wq.block_ret (Wq.then_ret ?_)
   refine ret1 rfl rfl ?_
   exact ⟨_, rfl, ⟨r, rfl, by omega, fun f hf hX => by subst h0; exact (zero_exact hX).symm⟩, hb⟩
  have c0_8_ := c0_8
  simp only [DZ] at c0_8
  have hn : 4503599627370496 ≤ r := by have := c0_8; omega
  have hq2 : r / 4503599627370496 < 2047 := by omega
  have hq4 : 1 ≤ r / 4503599627370496 := by omega
  refine Wc.seq fun _ hK_12 => Wc.region <| Wl.mv rfl rfl <| Wl.call txt116PrsB rfl rfl (IsInf_r r (by omega) _) rfl ?_
  rintro _ w_ ⟨rfl, hw_⟩
  have hw_ := hw_.symm; subst hw_
  rw [hrr, decide_eq_false (by omega)]
  refine Wl.mv rfl rfl <| Wl.guardF rfl rfl rfl (fun g_16 => ?_) (fun g_16 => ?_)
  ·
   have g_16_ := g_16
   cases g_16_
  have g_16_ := g_16
  simp only [DZ] at g_16
  refine Wl.mv rfl rfl <| Wl.on' rfl rfl g_16_ <| Wl.call txt192PrsB rfl rfl (IsNaN_r r _) rfl ?_
  rintro _ w_ ⟨rfl, hw_⟩
  have hw_ := hw_.symm; subst hw_
  rw [nan_pos (by omega)]
  refine Wl.y (y_pickF rfl g_16_ rfl) rfl <| Wl.sg rfl rfl <| Wl.nil <| Wq.next hK_12 <| Wc.cond rfl (fun c1_21 => ?_) (fun c1_21 => ?_)
  ·
   have c1_21_ := c1_21
   cases c1_21_
  have c1_21_ := c1_21
  simp only [DZ] at c1_21
  refine Wc.skip <| Wq.block_normal <| Wq.next hK_3 <| Wc.seq fun _ hK_22 => Wc.region <| Wl.mv rfl rfl <| Wl.call txt193PrsB rfl rfl (normN_r r hn hlt _) rfl ?_
  rintro _ w_ ⟨rfl, hw_⟩
  have hw_ := hw_.symm; subst hw_
  refine Wl.mv rfl rfl <| Wl.y (y_extract rfl rfl) rfl <| Wl.y (y_extract rfl rfl) rfl <| Wl.sg rfl rfl <| Wl.sg rfl rfl <| Wl.nil <| Wq.next hK_22 <| Wc.seq fun _ hK_30 => Wc.region <| Wl.mv rfl rfl <| Wl.mv rfl rfl <| Wl.y (y_addI rfl rfl (by omega) (by omega)) rfl <| Wl.sg rfl rfl <| Wl.nil <| Wq.next hK_30 <| Wc.seq fun _ hK_35 => Wc.region <| Wl.mv rfl rfl <| Wl.y (y_f2b exn91PrsB rfl rfl) rfl <| Wl.sg rfl rfl <| Wl.nil <| Wq.next hK_35 <| Wc.seq fun _ hK_39 => Wc.region <| Wl.mv rfl rfl <| Wl.mv rfl rfl <| Wl.y (y_eq (y_shr rfl rfl (by decide) (by decide)) (int_eq (sh52 r))) rfl <| Wl.y (y_eq (y_convi Tryz.underlying135 Tryz.underlying3 rfl) (int_eq (conv_u64_i64 _ (by omega)))) rfl <| Wl.y (y_eq (y_and rfl rfl) (int_eq ((and2047i _ (by omega)).trans (by rw [Nat.mod_eq_of_lt (show r / 4503599627370496 < 2048 by omega)])))) rfl <| Wl.y (y_subI rfl rfl (by omega) (by omega)) rfl <| Wl.y (y_addI rfl rfl (by omega) (by omega)) rfl <| Wl.sg rfl rfl <| Wl.nil <| Wq.next hK_39 <| Wc.seq fun _ hK_48 => Wc.seq fun _ hK_49 => Wc.region <| Wl.mv rfl rfl <| Wl.y (y_lssi rfl rfl) rfl <| Wl.nil <| Wq.next hK_49 <| Wc.cond rfl (fun c2_52 => ?_) (fun c2_52 => ?_)
  ·
   have c2_52_ := c2_52
   simp only [DZ] at c2_52
   refine Wc.seq fun _ hK_53 => Wc.region <| Wl.mv rfl rfl <| Wl.call txt210PrsB rfl rfl (Copysign_r r (by omega) _) rfl ?_
   rintro _ w_ ⟨rfl, hw_⟩
   have hw_ := hw_.symm; subst hw_
   refine Wl.sg rfl rfl <| Wl.nil <| Wq.next hK_53 <| Wc.ret <| Wq.then_ret <| ret1 rfl rfl ?_
   exact ⟨_, rfl, ⟨_, rfl, by decide, fun f hf hX => (Decidable.byContradiction fun hc => by have := exact_low hn hlt (fun h => hc h.symm) hX; have := c2_52; omega)⟩, hb⟩
  have c2_52_ := c2_52
  simp only [DZ] at c2_52
  refine Wc.skip <| Wq.next hK_48 <| Wc.seq fun _ hK_57 => Wc.seq fun _ hK_58 => Wc.region <| Wl.mv rfl rfl <| Wl.y (y_gtri rfl rfl) rfl <| Wl.nil <| Wq.next hK_58 <| Wc.cond rfl (fun c3_61 => ?_) (fun c3_61 => ?_)
  ·
   have c3_61_ := c3_61
   simp only [DZ] at c3_61
   refine Wc.seq fun _ hK_62 => Wc.seq fun _ hK_63 => Wc.region <| Wl.mv rfl rfl <| Wl.y (y_lssf rfl rfl) rfl <| Wl.nil <| Wq.next hK_63 <| Wc.cond rfl (fun c4_66 => ?_) (fun c4_66 => ?_)
   ·
    have c4_66_ := c4_66
    simp only [DZ] at c4_66
    refine Wc.seq fun _ hK_67 => Wc.region <| Wl.call txt176PrsB rfl rfl (InfM_r _) rfl ?_
    rintro _ w_ ⟨rfl, hw_⟩
    have hw_ := hw_.symm; subst hw_
    refine Wl.sg rfl rfl <| Wl.nil <| Wq.next hK_67 <| Wc.ret <| Wq.then_ret (Wq.then_ret ?_)
    refine ret1 rfl rfl ?_
    exact ⟨_, rfl, ⟨_, rfl, by decide, fun f hf hX => by have := exact_high hn hlt hf hX; have := c3_61; omega⟩, hb⟩
   have c4_66_ := c4_66
   simp only [DZ] at c4_66
   refine Wc.skip <| Wq.next hK_62 <| Wc.seq fun _ hK_70 => Wc.region <| Wl.call txt176PrsB rfl rfl (Inf_r _) rfl ?_
   rintro _ w_ ⟨rfl, hw_⟩
   have hw_ := hw_.symm; subst hw_
   refine Wl.sg rfl rfl <| Wl.nil <| Wq.next hK_70 <| Wc.ret <| Wq.then_ret <| ret1 rfl rfl ?_
   exact ⟨_, rfl, ⟨_, rfl, by decide, fun f hf hX => by have := exact_high hn hlt hf hX; have := c3_61; omega⟩, hb⟩
  have c3_61_ := c3_61
  simp only [DZ] at c3_61
  have hE : -52 ≤ ((r / 4503599627370496 : Nat) : Int) + k ∧ ((r / 4503599627370496 : Nat) : Int) + k ≤ 2046 := by have := c2_52; have := c3_61; omega
  refine Wc.skip <| Wq.next hK_57 <| Wc.seq fun _ hK_73 => Wc.region <| Wl.sg rfl rfl <| Wl.nil <| Wq.next hK_73 <| Wc.seq fun _ hK_75 => Wc.seq fun _ hK_76 => Wc.region <| Wl.mv rfl rfl <| Wl.y (y_lssi rfl rfl) rfl <| Wl.nil <| Wq.next hK_76 <| Wc.meet (X := Nat × Nat × Int) (fun (j, m, e) => [(0, .float .f64 r), (1, .int .i64 e), (6, .int .u64 (r : Int)), (7, .float .f64 m)]) (fun (j, m, e) wr => Below w.heap.size w wr ∧ ((m = 4607182418800017408 ∧ j = 0) ∨ (m = 4368491638549381120 ∧ j = 53)) ∧ e = ((r / 4503599627370496 : Nat) : Int) + k + j - 1023 ∧ 1 ≤ ((r / 4503599627370496 : Nat) : Int) + k + j ∧ ((r / 4503599627370496 : Nat) : Int) + k + j ≤ 2046) (fun _ hM_79 => ?_) ?_
  ·
   refine Wc.cond rfl (fun c5_80 => ?_) (fun c5_80 => ?_)
   ·
    have c5_80_ := c5_80
    simp only [DZ] at c5_80
    obtain ⟨j_, m_, e_, hj_, hm_, he_⟩ : ∃ (j m : Nat) (e : Int), ((m = 4607182418800017408 ∧ j = 0) ∨ (m = 4368491638549381120 ∧ j = 53)) ∧ m = 4368491638549381120 ∧ e = ((r / 4503599627370496 : Nat) : Int) + k + j - 1023 ∧ j = 53 := ⟨53, _, _, .inr ⟨rfl, rfl⟩, rfl, rfl, rfl⟩
    refine Wc.seq fun _ hK_81 => Wc.region <| Wl.mv rfl rfl <| Wl.y (y_addI rfl rfl (by omega) (by omega)) rfl <| Wl.sg rfl rfl <| Wl.nil <| Wq.next hK_81 <| Wc.region <| Wl.sg rfl rfl <| Wl.nil <| Wq.meet hM_79 (⟨j_, m_, e_⟩) (by repeat first | exact Sub.nil | refine Sub.cons' rfl (by first | rfl | exact int_eq (by omega) | exact congrArg (Value.float .f64) hm_.symm) ?_) ?_
    exact ⟨hb, hj_, by omega, by have := c5_80; omega, by have := c5_80; omega⟩
   have c5_80_ := c5_80
   simp only [DZ] at c5_80
   obtain ⟨j_, m_, e_, hj_, hm_, he_⟩ : ∃ (j m : Nat) (e : Int), ((m = 4607182418800017408 ∧ j = 0) ∨ (m = 4368491638549381120 ∧ j = 53)) ∧ m = 4607182418800017408 ∧ e = ((r / 4503599627370496 : Nat) : Int) + k + j - 1023 ∧ j = 0 := ⟨0, _, _, .inl ⟨rfl, rfl⟩, rfl, rfl, rfl⟩
   refine Wc.skip <| Wq.meet hM_79 (⟨j_, m_, e_⟩) (by repeat first | exact Sub.nil | refine Sub.cons' rfl (by first | rfl | exact int_eq (by omega) | exact congrArg (Value.float .f64) hm_.symm) ?_) ?_
   exact ⟨hb, hj_, by omega, by have := c5_80; omega, by have := c5_80; omega⟩
  rintro ⟨j, m, e⟩ wr hI_86
  replace hI_86 : Below w.heap.size w wr ∧ ((m = 4607182418800017408 ∧ j = 0) ∨ (m = 4368491638549381120 ∧ j = 53)) ∧ e = ((r / 4503599627370496 : Nat) : Int) + k + j - 1023 ∧ 1 ≤ ((r / 4503599627370496 : Nat) : Int) + k + j ∧ ((r / 4503599627370496 : Nat) : Int) + k + j ≤ 2046 := hI_86
  obtain ⟨hb, hj, he, hE1, hE2⟩ := hI_86
  show Wq _ _ _ _ [(0, .float .f64 r), (1, .int .i64 e), (6, .int .u64 (r : Int)), (7, .float .f64 m)] _
  have hzhb_c5 := hb.size
  refine Wq.next hK_75 <| Wc.seq fun _ hK_87 => ?_
  obtain ⟨q, hq⟩ : ∃ q : Nat, ((r / 4503599627370496 : Nat) : Int) + k + j = q := ⟨(((r / 4503599627370496 : Nat) : Int) + k + j).toNat, by omega⟩
  obtain ⟨y, hy, hyl, hyV⟩ := ldmul (x := r % 4503599627370496 + q * 4503599627370496) (by omega) (by omega) hj
  refine Wc.region <| Wl.mv rfl rfl <| Wl.y (y_eq (y_andNot rfl rfl) (int_eq (clearExp r (by omega)))) rfl <| Wl.sg rfl rfl <| Wl.nil <| Wq.next hK_87 <| Wc.seq fun _ hK_91 => Wc.region <| Wl.mv rfl rfl <| Wl.mv rfl rfl <| Wl.y (y_addI rfl rfl (by omega) (by omega)) rfl <| Wl.y (y_eq (y_convi Tryz.underlying3 Tryz.underlying135 rfl) (int_eq (show _ = (q : Int) by rw [wrap_u64 _ (by omega) (by omega)]; omega))) rfl <| Wl.y (y_eq (y_shl rfl rfl (by decide) (by decide)) (int_eq (shl52 q (by omega)))) rfl <| Wl.y (y_eq (y_or rfl rfl) (int_eq (or52 _ q (Nat.mod_lt _ (by decide)) (by omega)))) rfl <| Wl.sg rfl rfl <| Wl.nil <| Wq.next hK_91 <| Wc.seq fun _ hK_99 => Wc.region <| Wl.mv rfl rfl <| Wl.mv rfl rfl <| Wl.y (y_b2f exn150PrsB rfl rfl) rfl ?_
  rw [Int.toNat_natCast]
  refine Wl.y (y_mulf rfl rfl (hy)) rfl <| Wl.sg rfl rfl <| Wl.nil <| Wq.next hK_99 <| Wc.ret <| ret1 rfl rfl ?_
  exact ⟨_, rfl, ⟨y, rfl, hyl, fun f hf hX => hyV f (fun h => by have := exact_zero hX h; omega) hf (by rw [exact_mid (j := j) hn hlt hX (by omega), hq, Int.toNat_natCast])⟩, hb⟩
theorem Ldexp_r (r : Nat) (hr : r = 0 ∨ (4503599627370496 ≤ r ∧ r < 9218868437227405312)) (k : Int) (hk : -2000 ≤ k ∧ k ≤ 2000) (w : World) : Ret Tryz.prog 179 [.float .f64 r, .int .i64 k] w fun v w' => (∃ x, v = .float .f64 x ∧ x < 18446744073709551616 ∧ ∀ f, f < 9218868437227405312 → Exact r k f → x = f) ∧ Below w.heap.size w w' := by
  have hb := Below.refl w.heap.size w
  refine enter Tryz.func179 rfl rfl rfl <| Wc.seq fun _ hK_1 => Wc.region <| Wl.sg rfl rfl <| Wl.nil <| Wq.next hK_1 <| Wc.seq fun _ hK_3 => Wc.condF rfl rfl <| Wc.skip <| Wq.next hK_3 <| Wc.seq fun _ hK_4 => Wc.region <| Wl.mv rfl rfl <| Wl.mv rfl rfl <| Wl.call txt202PrsB rfl rfl (ldexp_r r hr k hk _) rfl ?_
  rintro _ w_k1 ⟨⟨x, rfl, hx, hX⟩, hs_k1⟩
  have hz_k1 := hs_k1.size
  have hb := hb.trans (hs_k1.mono hb.size)
  refine Wl.sg rfl rfl <| Wl.nil <| Wq.next hK_4 <| Wc.ret <| ret1 rfl rfl ?_
  exact ⟨_, rfl, ⟨x, rfl, hx, hX⟩, hb⟩
end Go.Proofs.YtjmlknjbhbfneaaGreatDoor
namespace Go.Proofs.YtjmlknjbhbfneaaGreatDoor
open Go.RowKit Go.Bw Go.Bw.Fl
set_option linter.unusedVariables false
set_option linter.unusedSimpArgs false
theorem txt124PrsC : Txt Tryz.prog 124 := ⟨_, Tryz.func124, by kernel_rfl, rfl⟩   -- math.NaN
theorem txt176PrsC : Txt Tryz.prog 176 := ⟨_, Tryz.func176, by kernel_rfl, rfl⟩   -- math.Inf
theorem txt177PrsC : Txt Tryz.prog 177 := ⟨_, Tryz.func177, by kernel_rfl, rfl⟩   -- strconv.ParseUint
theorem txt178PrsC : Txt Tryz.prog 178 := ⟨_, Tryz.func178, by kernel_rfl, rfl⟩   -- strconv.Atoi
theorem txt179PrsC : Txt Tryz.prog 179 := ⟨_, Tryz.func179, by kernel_rfl, rfl⟩   -- math.Ldexp
theorem txt35PrsC : Txt Tryz.prog 35 := ⟨_, Tryz.func35, by kernel_rfl, rfl⟩   -- strings.CutPrefix
theorem txt87PrsC : Txt Tryz.prog 87 := ⟨_, Tryz.func87, by kernel_rfl, rfl⟩   -- bridleway/num.Text
theorem txt90PrsC : Txt Tryz.prog 90 := ⟨_, Tryz.func90, by kernel_rfl, rfl⟩   -- bridleway/num.Canon
theorem txt95PrsC : Txt Tryz.prog 95 := ⟨_, Tryz.func95, by kernel_rfl, rfl⟩   -- strings.Cut
noncomputable def prsV (s : List UInt8) : Value := .tuple #[.float .f64 ((pf s).getD 0), .int .i64 (if (pf s).isSome = true then 0 else 2)]
theorem prs_none {s : List UInt8} (h : pf s = none) : prsV s = .tuple #[.float .f64 0, .int .i64 2] := by unfold prsV; rw [h]; rfl
theorem prs_some {s : List UInt8} {f : Nat} (h : pf s = some f) : prsV s = .tuple #[.float .f64 f, .int .i64 0] := by unfold prsV; rw [h]; rfl
theorem tail_none {s : List UInt8} {y : Nat} (hm : Meets s y) (h : textF (app (Lib.hasPrefix s [45]) y) ≠ s) : pf s = none := pf_none fun f hf ht => h (hm f hf ht)
theorem tail_some {s : List UInt8} {y : Nat} (hy : y < 18446744073709551616) (h : textF (app (Lib.hasPrefix s [45]) y) = s) : pf s = some (canon (app (Lib.hasPrefix s [45]) y)) :=
  pf_hit (Cn.of (app_lt hy)) ((text_canon _).trans h)
/-- what has such a text is a number: its parts -/
theorem num_of {s : List UInt8} {f : Nat} (hf : Cn f) (ht : textF f = s) (h0 : Lib.trimPrefix s [45] ≠ [110, 97, 110]) (h1 : Lib.trimPrefix s [45] ≠ [105, 110, 102]) :
    ∃ M e, rung f < 9218868437227405312 ∧ Lib.hasPrefix s [45] = isNeg f ∧ M < 9007199254740992 ∧ -1074 ≤ e ∧ e ≤ 1024 ∧ V (rung f) = M * 2 ^ (e + 1074).toNat ∧ cutP (Lib.trimPrefix s [45]) = (Lib.decDigits M, Lib.itoa e) := by
  cases Hit.of hf ht with
  | nan _ _ hw => exact absurd hw h0
  | inf _ _ hw => exact absurd hw h1
  | num M e h hn hw hM he0 he1 hv => exact ⟨M, e, h, hn, hM, he0, he1, hv, by rw [hw, cutP_num]⟩
theorem bad_none {s : List UInt8} (h0 : Lib.trimPrefix s [45] ≠ [110, 97, 110]) (h1 : Lib.trimPrefix s [45] ≠ [105, 110, 102]) (hb : ¬ (Gd (cutP (Lib.trimPrefix s [45])).1 ∧ ∃ k, Lib.atoiAll (cutP (Lib.trimPrefix s [45])).2 = .ok k)) : pf s = none :=
  pf_none fun f hf ht => by
    obtain ⟨M, e, _, _, hM, he0, he1, _, hc⟩ := num_of hf ht h0 h1
    rw [hc] at hb
    exact hb ⟨Gd.dec hM, e, atoi_itoa (by omega) (by omega)⟩
theorem meets_num {s : List UInt8} {n r y : Nat} {k : Int} (h0 : Lib.trimPrefix s [45] ≠ [110, 97, 110]) (h1 : Lib.trimPrefix s [45] ≠ [105, 110, 102]) (hn : Gd (cutP (Lib.trimPrefix s [45])).1 → n = dval 0 (cutP (Lib.trimPrefix s [45])).1) (hk : Lib.atoiAll (cutP (Lib.trimPrefix s [45])).2 = .ok k) (hV : V r = n * 2 ^ 1074) (hX : ∀ f, f < 9218868437227405312 → Exact r (max (-2000) (min k 2000)) f → y = f) : Meets s y := fun f hf ht => by
  obtain ⟨M, e, hr, hg, hM, he0, he1, hv, hc⟩ := num_of hf ht h0 h1
  rw [hc] at hn hk
  have e1 : n = M := by rw [hn (Gd.dec hM)]; exact (decDigits_spec M).2.1
  rw [atoi_itoa (by omega) (by omega)] at hk
  have e2 : e = k := by injection hk
  subst e1; subst e2
  rw [show max (-2000) (min e 2000) = e by omega] at hX
  rw [hX (rung f) hr (exact_num he0 hV hv), hg, app_word hf.lt, ht]
theorem Parse_r (s : List UInt8) (hs : s.length ≤ 281474976710656) (w : World) (hL : Lb w) : Ret Tryz.prog 138 [str s] w fun v w' => v = prsV s ∧ Below w.heap.size w w' := by
  have hw : (Lib.trimPrefix s [45]).length ≤ 281474976710656 := Nat.le_trans (trimP_le s [45]) hs
  have hc1 := (cutP_len (Lib.trimPrefix s [45])).1
  have hc2 := (cutP_len (Lib.trimPrefix s [45])).2
  have hb := Below.refl w.heap.size w
  have hL_hb := hL
  refine enter Tryz.func138 rfl rfl rfl <| Wc.seq fun _ hK_1 => Wc.region <| Wl.sg rfl rfl <| Wl.sg rfl rfl <| Wl.nil <| Wq.next hK_1 <| Wc.seq fun _ hK_4 => Wc.region <| Wl.mv rfl rfl <| Wl.call txt35PrsC rfl rfl (CutPrefix_r s [45] _) rfl ?_
  rintro _ w_ ⟨rfl, hw_⟩
  have hw_ := hw_.symm; subst hw_
  refine Wl.mv rfl rfl <| Wl.y (y_extract rfl rfl) rfl <| Wl.y (y_extract rfl rfl) rfl <| Wl.sg rfl rfl <| Wl.sg rfl rfl <| Wl.nil <| Wq.next hK_4 <| Wc.seq fun _ hK_12 => Wc.region <| Wl.call txt124PrsC rfl rfl (NaN_r _) rfl ?_
  rintro _ w_ ⟨rfl, hw_⟩
  have hw_ := hw_.symm; subst hw_
  refine Wl.sg rfl rfl <| Wl.nil <| Wq.next hK_12 <| Wc.seq fun _ hK_15 => Wc.seq fun _ hK_16 => Wc.region <| Wl.mv rfl rfl <| Wl.nil <| Wq.next hK_16 <| Wc.block <| Wc.seq fun _ hK_18 => Wc.region <| Wl.y (y_eqls rfl rfl) rfl <| Wl.sg rfl rfl <| Wl.nil <| Wq.next hK_18 <| Wc.meet (X := Nat) (fun y => [(0, str s), (5, .bool (Lib.hasPrefix s [45])), (6, .float .f64 y)]) (fun y wr => Below w.heap.size w wr ∧ y < 18446744073709551616 ∧ Meets s y) (fun _ hM_21 => ?_) ?_
  ·
   refine Wc.cond rfl (fun c0_22 => ?_) (fun c0_22 => ?_)
   ·
    have c0_22_ := c0_22
    simp only [DZ] at c0_22
    have hn0 : Lib.trimPrefix s [45] = [110, 97, 110] := by simpa using c0_22_
    have hy_ : (9221120237041090561 : Nat) < 18446744073709551616 ∧ Meets s 9221120237041090561 := ⟨by decide, meets_nan hn0⟩
    refine Wc.skip <| Wq.meet hM_21 (_) (Sub.cons' rfl (by rfl) (Sub.cons' rfl (by rfl) (Sub.cons' rfl (by rfl) (Sub.nil)))) ?_
    exact ⟨hb, hy_.1, hy_.2⟩
   have c0_22_ := c0_22
   simp only [DZ] at c0_22
   have hn0 : Lib.trimPrefix s [45] ≠ [110, 97, 110] := by simpa using c0_22_
   refine Wc.seq fun _ hK_23 => Wc.region <| Wl.y (y_eqls rfl rfl) rfl <| Wl.sg rfl rfl <| Wl.nil <| Wq.next hK_23 <| Wc.cond rfl (fun c1_26 => ?_) (fun c1_26 => ?_)
   ·
    have c1_26_ := c1_26
    simp only [DZ] at c1_26
    have hn1 : Lib.trimPrefix s [45] = [105, 110, 102] := by simpa using c1_26_
    have hy_ : (9218868437227405312 : Nat) < 18446744073709551616 ∧ Meets s 9218868437227405312 := ⟨by decide, meets_inf hn1⟩
    refine Wc.region <| Wl.call txt176PrsC rfl rfl (Inf_r _) rfl ?_
    rintro _ w_ ⟨rfl, hw_⟩
    have hw_ := hw_.symm; subst hw_
    refine Wl.sg rfl rfl <| Wl.nil <| Wq.meet hM_21 (_) (Sub.cons' rfl (by rfl) (Sub.cons' rfl (by rfl) (Sub.cons' rfl (by rfl) (Sub.nil)))) ?_
    exact ⟨hb, hy_.1, hy_.2⟩
   have c1_26_ := c1_26
   simp only [DZ] at c1_26
   have hn1 : Lib.trimPrefix s [45] ≠ [105, 110, 102] := by simpa using c1_26_
   refine Wc.seq fun _ hK_29 => Wc.region <| Wl.mv rfl rfl <| Wl.call txt95PrsC rfl rfl (Cut_r _ hw _) rfl ?_
   rintro _ w_k3 ⟨⟨fb, rfl⟩, hs_k3⟩
   have hz_k3 := hs_k3.size
   have hb := hb.trans (hs_k3.mono hb.size)
   have hL := hL_hb.below hb
   refine Wl.mv rfl rfl <| Wl.y (y_extract rfl rfl) rfl <| Wl.y (y_extract rfl rfl) rfl <| Wl.y (y_extract rfl rfl) rfl <| Wl.sg rfl rfl <| Wl.sg rfl rfl <| Wl.sg rfl rfl <| Wl.nil <| Wq.next hK_29 <| Wc.seq fun _ hK_39 => Wc.region <| Wl.mv rfl rfl <| Wl.call txt177PrsC rfl rfl (ParseUint_r _ (by omega) _ hL) rfl ?_
   rintro _ w_k4 ⟨⟨n, e, rfl, hU⟩, hs_k4⟩
   have hz_k4 := hs_k4.size
   have hb := hb.trans (hs_k4.mono hb.size)
   have hL := hL_hb.below hb
   refine Wl.mv rfl rfl <| Wl.y (y_extract rfl rfl) rfl <| Wl.y (y_extract rfl rfl) rfl <| Wl.sg rfl rfl <| Wl.sg rfl rfl <| Wl.nil <| Wq.next hK_39 <| Wc.seq fun _ hK_47 => Wc.region <| Wl.mv rfl rfl <| Wl.call txt178PrsC rfl rfl (Atoi_r _ (by omega) _ hL) rfl ?_
   rintro _ w_k5 ⟨⟨k, e2, rfl, hA, hB⟩, hs_k5⟩
   have hz_k5 := hs_k5.size
   have hb := hb.trans (hs_k5.mono hb.size)
   have hL := hL_hb.below hb
   refine Wl.mv rfl rfl <| Wl.y (y_extract rfl rfl) rfl <| Wl.y (y_extract rfl rfl) rfl <| Wl.sg rfl rfl <| Wl.sg rfl rfl <| Wl.nil <| Wq.next hK_47 <| Wc.seq fun _ hK_55 => Wc.seq fun _ hK_56 => Wc.meet (X := Bool) (fun q => [(0, str s), (5, .bool (Lib.hasPrefix s [45])), (10, .int .u64 (n : Int)), (12, .int .i64 k), (42, .bool q)]) (fun q wr => Below w.heap.size w wr ∧ q = (!isNilI e || !isNilI e2)) (fun _ hM_57 => ?_) ?_
   ·
    refine Wc.region <| Wl.mv rfl rfl <| Wl.y (y_neqN (by kernel_rfl) rfl (hU.1)) rfl <| Wl.mv rfl rfl <| Wl.guardF rfl rfl rfl (fun g_61 => ?_) (fun g_61 => ?_)
    ·
     have g_61_ := g_61
     simp only [DZ] at g_61
     refine Wl.off' rfl rfl g_61_ rfl rfl <| Wl.y (y_pickT rfl g_61_ rfl) rfl <| Wl.nil <| Wq.meet hM_57 ((!isNilI e || !isNilI e2)) (by repeat first | exact Sub.nil | refine Sub.cons' rfl (by first | rfl | exact bool_eq (by have h := g_61_; simp at h; simp [h])) ?_) ?_
     exact ⟨hb, rfl⟩
    have g_61_ := g_61
    simp only [DZ] at g_61
    refine Wl.mv rfl rfl <| Wl.on' rfl rfl g_61_ <| Wl.y (y_neqN (by kernel_rfl) rfl (hA)) rfl <| Wl.y (y_pickF rfl g_61_ rfl) rfl <| Wl.nil <| Wq.meet hM_57 ((!isNilI e || !isNilI e2)) (by repeat first | exact Sub.nil | refine Sub.cons' rfl (by first | rfl | exact bool_eq (by have h := g_61_; simp at h; simp [h])) ?_) ?_
    exact ⟨hb, rfl⟩
   rintro q wr hI_66
   replace hI_66 : Below w.heap.size w wr ∧ q = (!isNilI e || !isNilI e2) := hI_66
   obtain ⟨hb, hq⟩ := hI_66
   show Wq _ _ _ _ [(0, str s), (5, .bool (Lib.hasPrefix s [45])), (10, .int .u64 (n : Int)), (12, .int .i64 k), (42, .bool q)] _
   have hL := hL_hb.below hb
   have hzhb_g10 := hb.size
   refine Wq.next hK_56 <| Wc.cond rfl (fun c2_67 => ?_) (fun c2_67 => ?_)
   ·
    have c2_67_ := c2_67
    refine Wc.seq fun _ hK_68 => Wc.region <| Wl.sg rfl rfl <| Wl.sg rfl rfl <| Wl.nil <| Wq.next hK_68 <| Wc.ret <| Wq.then_ret (Wq.then_ret (Wq.block_ret (Wq.then_ret ?_)))
    refine ret2 rfl rfl rfl ?_
    exact ⟨_, rfl, (prs_none (bad_none hn0 hn1 (fun ⟨h1, k', h2⟩ => by
  have h3 := c2_67_
  rw [hq] at h3
  have h4 : isNilI e = true := by
    cases h : isNilI e
    · exact absurd h1 (hU.2.2.1 h)
    · rfl
  have h5 : isNilI e2 = true := by
    rcases hB with h | h
    · exact h.2
    · exact absurd h2 (h.1 k')
  rw [h4, h5] at h3; cases h3))).symm, hb⟩
   have c2_67_ := c2_67
   refine Wc.skip <| Wq.next hK_55 ?_
   have hok : isNilI e = true ∧ isNilI e2 = true := by have h2 := c2_67_; rw [hq] at h2; simpa using h2
   have hk : Lib.atoiAll (cutP (Lib.trimPrefix s [45])).2 = .ok k := by rcases hB with h | h; exact h.1; (have := hok.2; rw [h.2] at this; cases this)
   obtain ⟨r, hr, hr2, hV⟩ := f_of (hU.2.1 hok.1).1
   refine Wc.region <| Wl.mv rfl rfl <| Wl.y (y_eq (y_convf Tryz.underlying135 Tryz.underlying94 rfl) (congrArg (Value.float .f64) hr)) rfl <| Wl.mv rfl rfl <| Wl.y (y_min rfl rfl) rfl <| Wl.y (y_max rfl rfl) rfl <| Wl.call txt179PrsC rfl rfl (Ldexp_r r hr2 _ (by omega) _) rfl ?_
   rintro _ w_k6 ⟨⟨y, rfl, hy, hX⟩, hs_k6⟩
   have hz_k6 := hs_k6.size
   have hb := hb.trans (hs_k6.mono hb.size)
   have hL := hL_hb.below hb
   have hy_ : y < 18446744073709551616 ∧ Meets s y := ⟨hy, meets_num hn0 hn1 (hU.2.1 hok.1).2 hk hV hX⟩
   refine Wl.sg rfl rfl <| Wl.nil <| Wq.meet hM_21 (_) (Sub.cons' rfl (by rfl) (Sub.cons' rfl (by rfl) (Sub.cons' rfl (by rfl) (Sub.nil)))) ?_
   exact ⟨hb, hy_.1, hy_.2⟩
  rintro y wr hI_78
  replace hI_78 : Below w.heap.size w wr ∧ y < 18446744073709551616 ∧ Meets s y := hI_78
  obtain ⟨hb, hy, hm⟩ := hI_78
  show Wq _ _ _ _ [(0, str s), (5, .bool (Lib.hasPrefix s [45])), (6, .float .f64 y)] _
  have hL := hL_hb.below hb
  have hzhb_c0 := hb.size
  refine Wq.block_normal <| Wq.next hK_15 <| Wc.seq fun _ hK_79 => Wc.seq fun _ hK_80 => Wc.region <| Wl.mv rfl rfl <| Wl.nil <| Wq.next hK_80 <| Wc.meet (X := Unit) (fun u_ => [(0, str s), (6, .float .f64 (app (Lib.hasPrefix s [45]) y))]) (fun u_ wr => Below w.heap.size w wr) (fun _ hM_82 => ?_) ?_
  ·
   refine Wc.cond rfl (fun c3_83 => ?_) (fun c3_83 => ?_)
   ·
    have c3_83_ := c3_83
    refine Wc.region <| Wl.mv rfl rfl <| Wl.y (y_negf rfl) rfl <| Wl.sg rfl rfl <| Wl.nil <| Wq.meet hM_82 (()) (by repeat first | exact Sub.nil | refine Sub.cons' rfl (by first | rfl | (exact congrArg (Value.float .f64) (by rw [c3_83_]; rfl))) ?_) ?_
    exact hb
   have c3_83_ := c3_83
   refine Wc.skip <| Wq.meet hM_82 (()) (by repeat first | exact Sub.nil | refine Sub.cons' rfl (by first | rfl | (exact congrArg (Value.float .f64) (by rw [c3_83_]; rfl))) ?_) ?_
   exact hb
  rintro u_ wr hI_87
  replace hI_87 : Below w.heap.size w wr := hI_87
  have hb := hI_87
  show Wq _ _ _ _ [(0, str s), (6, .float .f64 (app (Lib.hasPrefix s [45]) y))] _
  have hL := hL_hb.below hb
  have hzhb_c3 := hb.size
  refine Wq.next hK_79 <| Wc.seq fun _ hK_88 => Wc.seq fun _ hK_89 => Wc.region <| Wl.mv rfl rfl <| Wl.call txt87PrsC rfl rfl (Text_r _ (app_lt hy) _ hL) rfl ?_
  rintro _ w_k7 ⟨rfl, hs_k7⟩
  have hz_k7 := hs_k7.size
  have hb := hb.trans (hs_k7.mono hb.size)
  have hL := hL_hb.below hb
  refine Wl.mv rfl rfl <| Wl.y (y_neqs rfl rfl) rfl <| Wl.nil <| Wq.next hK_89 <| Wc.cond rfl (fun c4_94 => ?_) (fun c4_94 => ?_)
  ·
   have c4_94_ := c4_94
   simp only [DZ] at c4_94
   refine Wc.seq fun _ hK_95 => Wc.region <| Wl.sg rfl rfl <| Wl.sg rfl rfl <| Wl.nil <| Wq.next hK_95 <| Wc.ret <| Wq.then_ret <| ret2 rfl rfl rfl ?_
   exact ⟨_, rfl, (prs_none (tail_none hm (by simpa using c4_94_))).symm, hb⟩
  have c4_94_ := c4_94
  simp only [DZ] at c4_94
  refine Wc.skip <| Wq.next hK_88 <| Wc.seq fun _ hK_98 => Wc.region <| Wl.mv rfl rfl <| Wl.call txt90PrsC rfl rfl (Canon_r _ _) rfl ?_
  rintro _ w_ ⟨rfl, hw_⟩
  have hw_ := hw_.symm; subst hw_
  refine Wl.sg rfl rfl <| Wl.sg rfl rfl <| Wl.nil <| Wq.next hK_98 <| Wc.ret <| ret2 rfl rfl rfl ?_
  exact ⟨_, rfl, (prs_some (tail_some hy (by simpa using c4_94_))).symm, hb⟩
end Go.Proofs.YtjmlknjbhbfneaaGreatDoor
