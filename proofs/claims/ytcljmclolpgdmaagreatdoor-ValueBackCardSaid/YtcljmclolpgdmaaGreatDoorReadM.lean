/- Plain: what Read tells, out of what the texts of floats and quoted texts are. -/
import Derived.Test.YtcljmclolpgdmaaGreatDoorTru
import Derived.Test.YtcljmclolpgdmaaGreatDoorLibA
import Derived.Lib.SlTrimSet
import Derived.Lib.ParseIntBTie
namespace Go.Proofs.YtcljmclolpgdmaaGreatDoor
open Go.RowKit Go.Bw Go.Bw.Fl
set_option linter.unusedVariables false
set_option linter.unusedSimpArgs false
def digs : List UInt8 := [48, 49, 50, 51, 52, 53, 54, 55, 56, 57]
def nDig (s : List UInt8) : Nat := s.length - (Lib.trimLeftS s digs).length
def lead (s : List UInt8) : Nat := nDig (Lib.trimPrefix s [45]) + (s.length - (Lib.trimPrefix s [45]).length)
def parseI (s : List UInt8) : Option Int := match Lib.parseIntB 64 s with | .ok v => some v | _ => none
def wNull : List UInt8 := [110, 117, 108, 108]
def wFalse : List UInt8 := [102, 97, 108, 115, 101]
def wTrue : List UInt8 := [116, 114, 117, 101]
def words3 : List (List UInt8) := [[110, 97, 110], [105, 110, 102], [45, 105, 110, 102]]
def downF (pf : List UInt8 → Option Nat) (s : List UInt8) (k : Nat) : Nat → Option (Val × Nat)
  | 0 => none
  | j + 1 => match pf (s.take (k + j + 1)) with
    | some f => some (⟨3, 0, f, []⟩, k + j + 1)
    | none => downF pf s k j
def floatK (s : List UInt8) : Nat := if s[lead s + 1]? = some 45 then lead s + 2 else lead s + 1
def floatM (s : List UInt8) : Nat := min (nDig (s.drop (floatK s))) 4
def floatAt (pf : List UInt8 → Option Nat) (s : List UInt8) : Option (Val × Nat) := if s[lead s]? = some 112 then downF pf s (floatK s) (floatM s) else none
def downI (s : List UInt8) : Nat → Option (Val × Nat)
  | 0 => none
  | j + 1 => match parseI (s.take (j + 1)) with
    | some v => if Lib.itoa v = s.take (j + 1) then some (⟨2, v, 0, []⟩, j + 1) else downI s j
    | none => downI s j
def readV (pf : List UInt8 → Option Nat) (uq : List UInt8 → List UInt8 × Nat) (s : List UInt8) : Option (Val × Nat) :=
  if Lib.hasPrefix s [39] = true then (if (uq s).2 = 0 then none else some (⟨4, 0, 0, (uq s).1⟩, (uq s).2))
  else if Lib.hasPrefix s wNull = true then some (nullV, 4)
  else if Lib.hasPrefix s wFalse = true then some (truthV false, 5)
  else if Lib.hasPrefix s wTrue = true then some (truthV true, 4)
  else match words3.find? (fun x => Lib.hasPrefix s x) with
    | some x => some (⟨3, 0, (pf x).getD 0, []⟩, x.length)
    | none => match floatAt pf s with
      | some r => some r
      | none => downI s (min (lead s) 20)
def rdV (r : Option (Val × Nat)) : Value := .tuple #[((r.map (·.1)).getD nullV).enc, .int .i64 (((r.map (·.2)).getD 0 : Nat) : Int), .bool r.isSome]
theorem nDig_le (s : List UInt8) : nDig s ≤ s.length := Nat.sub_le _ _
theorem trimL_le (s c : List UInt8) : (Lib.trimLeftS s c).length ≤ s.length := (List.dropWhile_suffix _).sublist.length_le
theorem trimP_le (s c : List UInt8) : (Lib.trimPrefix s c).length ≤ s.length := by unfold Lib.trimPrefix; split <;> simp
theorem lead_le (s : List UInt8) : lead s ≤ s.length := by unfold lead; have := nDig_le (Lib.trimPrefix s [45]); have := trimP_le s [45]; omega
/-- the words that begin a text: one at most -/
theorem pre_null {s : List UInt8} (h : Lib.hasPrefix s wNull = true) : Lib.hasPrefix s wFalse = false ∧ Lib.hasPrefix s wTrue = false := by
  cases s with
  | nil => exact absurd h (by decide)
  | cons c r => simp [Lib.hasPrefix, wNull, wFalse, wTrue, List.isPrefixOf] at h ⊢; obtain ⟨h1, _⟩ := h; subst h1; simp
theorem pre_false {s : List UInt8} (h : Lib.hasPrefix s wFalse = true) : Lib.hasPrefix s wNull = false ∧ Lib.hasPrefix s wTrue = false := by
  cases s with
  | nil => exact absurd h (by decide)
  | cons c r => simp [Lib.hasPrefix, wNull, wFalse, wTrue, List.isPrefixOf] at h ⊢; obtain ⟨h1, _⟩ := h; subst h1; simp
theorem pre_true {s : List UInt8} (h : Lib.hasPrefix s wTrue = true) : Lib.hasPrefix s wNull = false ∧ Lib.hasPrefix s wFalse = false := by
  cases s with
  | nil => exact absurd h (by decide)
  | cons c r => simp [Lib.hasPrefix, wNull, wFalse, wTrue, List.isPrefixOf] at h ⊢; obtain ⟨h1, _⟩ := h; subst h1; simp
/-- the map's words, with what they are -/
def wordsKV : List (List UInt8 × Value) := [(wNull, nullV.enc), (wFalse, (truthV false).enc), (wTrue, (truthV true).enc)]
theorem word_hit {pf uq} {s : List UInt8} (hq : Lib.hasPrefix s [39] = false) {i : Nat} {p : List UInt8 × Value} (hp : wordsKV[i]? = some p) (h : Lib.hasPrefix s p.1 = true) : ∃ v, p.2 = Val.enc v ∧ readV pf uq s = some (v, p.1.length) := by
  have hq' : ¬ Lib.hasPrefix s [39] = true := by rw [hq]; simp
  match i, hp with
  | 0, hp => cases hp; exact ⟨_, rfl, by unfold readV; rw [if_neg hq', if_pos h]; rfl⟩
  | 1, hp => cases hp; exact ⟨_, rfl, by unfold readV; rw [if_neg hq', if_neg (by rw [(pre_false h).1]; simp), if_pos h]; rfl⟩
  | 2, hp => cases hp; exact ⟨_, rfl, by unfold readV; rw [if_neg hq', if_neg (by rw [(pre_true h).1]; simp), if_neg (by rw [(pre_true h).2]; simp), if_pos h]; rfl⟩
theorem word_miss {pf uq} {s : List UInt8} (hq : Lib.hasPrefix s [39] = false) (h : ∀ (i : Nat) (p : List UInt8 × Value), wordsKV[i]? = some p → Lib.hasPrefix s p.1 = false) :
    readV pf uq s = match words3.find? (fun x => Lib.hasPrefix s x) with
    | some x => some (⟨3, 0, (pf x).getD 0, []⟩, x.length)
    | none => match floatAt pf s with
      | some r => some r
      | none => downI s (min (lead s) 20) := by
  have h0 := h 0 _ rfl; have h1 := h 1 _ rfl; have h2 := h 2 _ rfl
  unfold readV
  rw [if_neg (by rw [hq]; simp), if_neg (by rw [h0]; simp), if_neg (by rw [h1]; simp), if_neg (by rw [h2]; simp)]
theorem words_val {i : Nat} {p : List UInt8 × Value} (hp : wordsKV[i]? = some p) : ∃ v : Val, p.2 = v.enc ∧ p.1.length ≤ 5 := by
  match i, hp with
  | 0, hp => cases hp; exact ⟨_, rfl, by decide⟩
  | 1, hp => cases hp; exact ⟨_, rfl, by decide⟩
  | 2, hp => cases hp; exact ⟨_, rfl, by decide⟩
theorem word_snoc {s : List UInt8} {seen : List Nat} {i : Nat} {q : List UInt8 × Value} (h : ∀ (i : Nat) (p : List UInt8 × Value), i ∈ seen → wordsKV[i]? = some p → Lib.hasPrefix s p.1 = false) (hq : wordsKV[i]? = some q) (hn : Lib.hasPrefix s q.1 = false) :
    ∀ (j : Nat) (p : List UInt8 × Value), j ∈ seen ++ [i] → wordsKV[j]? = some p → Lib.hasPrefix s p.1 = false := by
  intro j p hj hp
  rcases List.mem_append.1 hj with hj | hj
  · exact h j p hj hp
  · cases List.mem_singleton.1 hj; rw [hq] at hp; cases hp; exact hn
theorem sw_snoc {s : List UInt8} {k : Nat} (h : ∀ j, j < k → Lib.hasPrefix s (words3.getD j []) = false) (hn : Lib.hasPrefix s (words3.getD k []) = false) : ∀ j, j < k + 1 → Lib.hasPrefix s (words3.getD j []) = false := fun j hj => by
  by_cases e : j < k
  · exact h j e
  · rw [show j = k by omega]; exact hn
theorem w3_find {pr : List UInt8 → Bool} {k : Nat} (hk : k < 3) (h0 : ∀ j, j < k → pr (words3.getD j []) = false) (h : pr (words3.getD k []) = true) : words3.find? pr = some (words3.getD k []) := by
  match k, hk with
  | 0, _ => show List.find? pr [_, _, _] = _; rw [List.find?_cons, show pr [110, 97, 110] = true from h]; rfl
  | 1, _ => show List.find? pr [_, _, _] = _; rw [List.find?_cons, show pr [110, 97, 110] = false from h0 0 (by omega), List.find?_cons, show pr [105, 110, 102] = true from h]; rfl
  | 2, _ => show List.find? pr [_, _, _] = _; rw [List.find?_cons, show pr [110, 97, 110] = false from h0 0 (by omega), List.find?_cons, show pr [105, 110, 102] = false from h0 1 (by omega), List.find?_cons, show pr [45, 105, 110, 102] = true from h]; rfl
theorem w3_none {pr : List UInt8 → Bool} (h0 : ∀ j, j < 3 → pr (words3.getD j []) = false) : words3.find? pr = none := by
  show List.find? pr [_, _, _] = _
  rw [List.find?_cons, show pr [110, 97, 110] = false from h0 0 (by omega), List.find?_cons, show pr [105, 110, 102] = false from h0 1 (by omega), List.find?_cons, show pr [45, 105, 110, 102] = false from h0 2 (by omega)]; rfl
theorem w3_at {k : Nat} {v : Value} (hk : k < 3) (h : [str [110, 97, 110], str [105, 110, 102], str [45, 105, 110, 102]][k]? = some v) : v = str (words3.getD k []) ∧ (words3.getD k []).length ≤ 4 ∧ words3.getD k [] ∈ words3 := by
  match k, hk with
  | 0, _ => cases h; exact ⟨rfl, by decide, by decide⟩
  | 1, _ => cases h; exact ⟨rfl, by decide, by decide⟩
  | 2, _ => cases h; exact ⟨rfl, by decide, by decide⟩
theorem floatK_bd (s : List UInt8) (h : s[lead s]? = some 112) : lead s < floatK s ∧ floatK s ≤ s.length ∧ lead s < s.length := by
  have h1 : lead s < s.length := (List.getElem?_eq_some_iff.1 h).1
  unfold floatK; split
  · rename_i h2; have := (List.getElem?_eq_some_iff.1 h2).1; omega
  · omega
theorem floatM_bd (s : List UInt8) (h : s[lead s]? = some 112) : floatM s ≤ 4 ∧ floatK s + floatM s ≤ s.length := by
  have h1 := floatK_bd s h
  have h2 := nDig_le (s.drop (floatK s))
  rw [List.length_drop] at h2
  unfold floatM; omega
theorem downF_hit {pf : List UInt8 → Option Nat} {s : List UInt8} {K j : Nat} (h : (pf (s.take (K + j))).isSome = true) (hj : 0 < j) : downF pf s K j = some (⟨3, 0, (pf (s.take (K + j))).getD 0, []⟩, K + j) := by
  obtain ⟨j', rfl⟩ : ∃ j', j = j' + 1 := ⟨j - 1, by omega⟩
  obtain ⟨f, hf⟩ := Option.isSome_iff_exists.1 h
  rw [hf]
  show (match pf (s.take (K + j' + 1)) with | some f => some ((⟨3, 0, f, []⟩ : Val), K + j' + 1) | none => downF pf s K j') = _
  rw [show pf (s.take (K + j' + 1)) = some f from hf]; rfl
theorem downF_no {pf : List UInt8 → Option Nat} {s : List UInt8} {K j : Nat} (h : pf (s.take (K + j)) = none) (hj : 0 < j) : downF pf s K j = downF pf s K (j - 1) := by
  obtain ⟨j', rfl⟩ : ∃ j', j = j' + 1 := ⟨j - 1, by omega⟩
  show (match pf (s.take (K + j' + 1)) with | some f => some ((⟨3, 0, f, []⟩ : Val), K + j' + 1) | none => downF pf s K j') = _
  rw [show pf (s.take (K + j' + 1)) = none from h]; rfl
theorem downI_hit {s : List UInt8} {j : Nat} {v : Int} (h : parseI (s.take j) = some v) (h2 : (Lib.itoa v == s.take j) = true) (hj : 0 < j) : downI s j = some (⟨2, v, 0, []⟩, j) := by
  obtain ⟨j', rfl⟩ : ∃ j', j = j' + 1 := ⟨j - 1, by omega⟩
  unfold downI; rw [h]; exact if_pos (by simpa using h2)
theorem downI_no {s : List UInt8} {j : Nat} (h : parseI (s.take j) = none) (hj : 0 < j) : downI s j = downI s (j - 1) := by
  obtain ⟨j', rfl⟩ : ∃ j', j = j' + 1 := ⟨j - 1, by omega⟩
  conv => lhs; unfold downI
  rw [h]; rfl
theorem downI_no2 {s : List UInt8} {j : Nat} {v : Int} (h : parseI (s.take j) = some v) (h2 : (Lib.itoa v == s.take j) = false) (hj : 0 < j) : downI s j = downI s (j - 1) := by
  obtain ⟨j', rfl⟩ : ∃ j', j = j' + 1 := ⟨j - 1, by omega⟩
  conv => lhs; unfold downI
  rw [h]; exact if_neg (by simpa using h2)
theorem some0 {o : Option Nat} (h : (if o.isSome = true then (0 : Int) else 2) = 0) : o.isSome = true := by
  cases o
  · simp at h
  · rfl
theorem none0 {o : Option Nat} (h : ¬ (if o.isSome = true then (0 : Int) else 2) = 0) : o = none := by
  cases o
  · rfl
  · simp at h
theorem has_p {s : List UInt8} {e : Nat} (h : s[lead s]? = some 112) (he : lead s < e) : (112 : UInt8) ∈ s.take e := by
  refine List.mem_iff_getElem?.2 ⟨lead s, ?_⟩
  rw [List.getElem?_take, if_pos he, h]
end Go.Proofs.YtcljmclolpgdmaaGreatDoor
