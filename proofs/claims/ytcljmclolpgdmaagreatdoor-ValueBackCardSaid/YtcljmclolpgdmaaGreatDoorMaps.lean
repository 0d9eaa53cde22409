/- One lemma an operation: maps with texts as keys; a map's range. -/
import Derived.Test.YtcljmclolpgdmaaGreatDoorAny
import Derived.Laws.IdiomRangeMap
import Derived.WideLaws
namespace Go.Bw
open Go.RowKit
set_option linter.unusedVariables false
set_option linter.unusedSimpArgs false

def ents : Nat → List (List UInt8 × Value) → List MapEntry
  | _, [] => []
  | b, (k, v) :: r => ⟨str k, v, b⟩ :: ents (b + 1) r
/-- block g is a map with just these entries, in the order in which they came -/
def Mp (w : World) (g : Nat) (kv : List (List UInt8 × Value)) : Prop := w.heap[g]? = some (.map (ents 0 kv).toArray kv.length)
def mlook (kv : List (List UInt8 × Value)) (k : List UInt8) : Option Value := (kv.find? (·.1 == k)).map (·.2)
theorem Mp.lt {w : World} {g : Nat} {kv} (h : Mp w g kv) : g < w.heap.size := by
  rcases Nat.lt_or_ge g w.heap.size with h1 | h1
  · exact h1
  · unfold Mp at h; rw [Array.getElem?_eq_none h1] at h; cases h
theorem Mp.below {w w' : World} {g : Nat} {kv} (h : Mp w g kv) (hb : Below w.heap.size w w') : Mp w' g kv := (hb.block g h.lt).trans h
theorem Mp.grown {w w' : World} {g : Nat} {kv} (h : Mp w g kv) {row : Option Nat} (hg : w.grownBy w' row) (hne : some g ≠ row) : Mp w' g kv := (hg.block g h.lt hne).trans h
theorem Mp.over {w w' : World} {g g' : Nat} {kv} (h : Mp w g kv) (hg : w.grownBy w' (some g')) (hne : g ≠ g') : Mp w' g kv := h.grown hg (fun e => hne (Option.some.inj e))
theorem ents_snoc : ∀ (b : Nat) (kv : List (List UInt8 × Value)) (k : List UInt8) (v : Value), ents b (kv ++ [(k, v)]) = ents b kv ++ [⟨str k, v, b + kv.length⟩]
  | b, [], k, v => rfl
  | b, (k', v') :: r, k, v => by
    show _ :: ents (b + 1) (r ++ [(k, v)]) = _ :: (ents (b + 1) r ++ _)
    rw [ents_snoc, List.length_cons, show b + 1 + r.length = b + (r.length + 1) by omega]
theorem ents_length : ∀ (b : Nat) (kv : List (List UInt8 × Value)), (ents b kv).length = kv.length
  | b, [] => rfl
  | b, _ :: r => by show (ents (b + 1) r).length + 1 = _; rw [ents_length]; rfl
theorem ents_get : ∀ (b : Nat) (kv : List (List UInt8 × Value)) (e : MapEntry), e ∈ ents b kv → ∃ i, i < kv.length ∧ e.born = b + i ∧ ∃ p, kv[i]? = some p ∧ e.key = str p.1 ∧ e.val = p.2
  | b, [], e, h => by cases h
  | b, (k, v) :: r, e, h => by
    rcases List.mem_cons.1 h with rfl | h
    · exact ⟨0, by simp, rfl, _, rfl, rfl, rfl⟩
    · obtain ⟨i, h1, h2, p, h3, h4, h5⟩ := ents_get (b + 1) r e h
      exact ⟨i + 1, by simp; omega, by omega, p, by simpa using h3, h4, h5⟩
theorem ents_born : ∀ (b : Nat) (kv : List (List UInt8 × Value)), (ents b kv).map (·.born) = List.range' b kv.length
  | b, [] => rfl
  | b, _ :: r => by
    show b :: (ents (b + 1) r).map (·.born) = _
    rw [ents_born (b + 1) r, List.length_cons, List.range'_succ]
theorem str_beq (k k' : List UInt8) : ((⟨k.toArray⟩ : ByteArray) == ⟨k'.toArray⟩) = (k == k') := by
  show (k.toArray == k'.toArray) = _
  rw [Bool.eq_iff_iff, beq_iff_eq, beq_iff_eq]
  exact ⟨fun h => by simpa using congrArg Array.toList h, fun h => by rw [h]⟩
theorem findNow_mlook (key : List UInt8) : ∀ (kv : List (List UInt8 × Value)) (b i : Nat), ∃ j, Instr.findNow .string (str key) (ents b kv) i = some ((mlook kv key).map fun v => (j, v))
  | [], b, i => ⟨0, rfl⟩
  | (k, v) :: r, b, i => by
    obtain ⟨j, hj⟩ := findNow_mlook key r (b + 1) (i + 1)
    have hs : Instr.sameNow .string (str key) (str k) = some (key == k) := by show some (_ == _) = _; rw [str_beq]
    by_cases hk : key = k
    · subst hk
      refine ⟨i, ?_⟩
      show Instr.findNow .string (str key) (⟨str key, v, b⟩ :: ents (b + 1) r) i = _
      unfold Instr.findNow
      simp only [hs, beq_self_eq_true]
      simp [mlook]
    · refine ⟨j, ?_⟩
      show Instr.findNow .string (str key) (⟨str k, v, b⟩ :: ents (b + 1) r) i = _
      unfold Instr.findNow
      have h1 : (key == k) = false := by simpa using hk
      have h2 : (k == key) = false := by simpa using fun e => hk e.symm
      simp only [hs, h1, hj]
      simp [mlook, h2]
theorem run_findKey {P : Program} {k : TypeId} (hk : P.underlying k = some .string) (key : List UInt8) (kv : List (List UInt8 × Value)) (w : World) : ∃ j, (Instr.findKey k (str key) (ents 0 kv)).run P w = .ok ((mlook kv key).map fun v => (j, v)) w := by
  obtain ⟨j, hj⟩ := findNow_mlook key kv 0 0
  refine ⟨j, ?_⟩
  simp only [Instr.findKey, Sem.run_bind, run_underlying hk, Result.andThen, hj]
  rfl
theorem run_checkKey {P : Program} {k : TypeId} (hk : P.underlying k = some .string) (b : Bool) (key : List UInt8) (w : World) : (Instr.checkKey b 10000 k (str key)).run P w = .ok () w := by
  unfold Instr.checkKey
  simp only [Sem.run_bind, run_underlying hk, Result.andThen, str]
  rfl

/-- block b is an iterator over the map g, that had n entries when it began; the entries that came out -/
def It (w : World) (b g n : Nat) (seen : List Nat) : Prop := w.heap[b]? = some (.mapIter (some g) n seen.toArray n)
theorem It.lt {w : World} {b g n : Nat} {seen} (h : It w b g n seen) : b < w.heap.size := by
  rcases Nat.lt_or_ge b w.heap.size with h1 | h1
  · exact h1
  · unfold It at h; rw [Array.getElem?_eq_none h1] at h; cases h
theorem It.below {w w' : World} {b g n : Nat} {seen} (h : It w b g n seen) (hb : Below w.heap.size w w') : It w' b g n seen := (hb.block b h.lt).trans h
theorem It.grown {w w' : World} {b g n : Nat} {seen} (h : It w b g n seen) {row : Option Nat} (hg : w.grownBy w' row) (hne : some b ≠ row) : It w' b g n seen := (hg.block b h.lt hne).trans h
theorem It.over {w w' : World} {b g g' n : Nat} {seen} (h : It w b g n seen) (hg : w.grownBy w' (some g')) (hne : b ≠ g') : It w' b g n seen := h.grown hg (fun e => hne (Option.some.inj e))
theorem born_lt (kv : List (List UInt8 × Value)) : ∀ x ∈ ((ents 0 kv).toArray).toList, x.born < kv.length := fun x hx => by
  obtain ⟨i, h1, h2, _⟩ := ents_get 0 kv x (by simpa using hx)
  omega
theorem ent_at {kv : List (List UInt8 × Value)} {i : Nat} (hi : i < kv.length) : ∃ e, (ents 0 kv)[i]? = some e ∧ e.born = i := by
  have hp : (ents 0 kv)[i]? ≠ none := by rw [ne_eq, List.getElem?_eq_none_iff, ents_length]; omega
  obtain ⟨e, he⟩ := Option.ne_none_iff_exists'.1 hp
  refine ⟨e, he, ?_⟩
  have h2 : ((ents 0 kv).map (·.born))[i]? = some e.born := by rw [List.getElem?_map, he]; rfl
  rw [ents_born, List.getElem?_range' hi] at h2
  have := Option.some.inj h2; omega
theorem run_next_at {P : Program} {w : World} {b g ty : Nat} {kv : List (List UInt8 × Value)} {seen : List Nat} (hi : It w b g kv.length seen) (hm : Mp w g kv) :
    ((∀ i, i < kv.length → i ∈ seen) ∧ (Instr.next (.pointer (some ⟨b, 0, none⟩)) false ty).run P w = .ok (.tuple #[.bool false]) w) ∨
    ∃ i p w', kv[i]? = some p ∧ i < kv.length ∧ i ∉ seen ∧ It w' b g kv.length (seen ++ [i]) ∧ w.grownBy w' (some b) ∧ (Instr.next (.pointer (some ⟨b, 0, none⟩)) false ty).run P w = .ok (.tuple #[.bool true, str p.1, p.2]) w' := by
  have hi' : w.heap[b]? = some (.mapIter (some g) kv.length seen.toArray kv.length) := hi
  have hm' : w.heap[g]? = some (.map (ents 0 kv).toArray kv.length) := hm
  have hlt := hi.lt
  simp only [Instr.next, getObj, Sem.run_bind, Sem.run, hi', hm', Result.andThen, next_test_false seen.toArray (ents 0 kv).toArray kv.length kv.length (born_lt kv) (Nat.le_refl _), Bool.false_eq_true, if_false]
  have hmem : ∀ x ∈ (Array.filter (fun e => !seen.toArray.contains e.born) (ents 0 kv).toArray).toList, x ∈ ents 0 kv ∧ x.born ∉ seen := fun x hx => by
    have h2 := mem_left (es := (ents 0 kv).toArray) (seen := seen.toArray) hx
    exact ⟨by simpa using h2.1, by simpa using h2.2⟩
  have hall : (Array.filter (fun e => !seen.toArray.contains e.born) (ents 0 kv).toArray).size = 0 → ∀ i, i < kv.length → i ∈ seen := fun h0 i hi => by
    obtain ⟨e, he, hb⟩ := ent_at hi
    have := all_seen _ _ h0 e (by simpa using List.mem_of_getElem? he)
    rw [hb] at this
    simpa using this
  generalize Array.filter (fun e => !seen.toArray.contains e.born) (ents 0 kv).toArray = L at hmem hall ⊢
  have e1 : L.filter (fun x => decide (x.born < kv.length)) = L := Array.filter_eq_self.2 (fun x hx => by
    have h2 := (hmem x (by simpa using hx)).1
    have := born_lt kv x (by simpa using h2)
    simpa using this)
  have e2 : L.filter (fun x => decide (x.born ≥ kv.length)) = #[] := by
    rw [Array.filter_eq_empty_iff]
    intro x hx
    have h2 := (hmem x (by simpa using hx)).1
    have := born_lt kv x (by simpa using h2)
    simp; omega
  simp only [e1, e2, Array.append_empty]
  by_cases h0 : L.size = 0
  · left
    refine ⟨hall h0, ?_⟩
    have : L = #[] := Array.eq_empty_of_size_eq_zero h0
    subst this
    simp [choose, Sem.run, Question.forced]
  · right
    have hne : L.isEmpty = false := by simp [Array.isEmpty, h0]
    simp only [hne, Bool.false_eq_true, if_false, Array.empty_append, Array.size_map]
    have hch : ∃ (j : Nat) (w1 : World), j < L.size ∧ (w1 = w ∨ w1 = w.drew) ∧ (choose (Question.mapNext L.size)).run P w = .ok j w1 := by
      by_cases hf : L.size ≤ 1
      · exact ⟨0, w, by omega, .inl rfl, by simp [choose, Sem.run, Question.forced, hf]⟩
      · exact ⟨_, w.drew, Nat.mod_lt _ (by omega), .inr rfl, by
          simp only [choose, Sem.run, Question.forced, decide_eq_true_eq, hf, if_false, Question.cut]
          rfl⟩
    obtain ⟨j, w1, hj, hw1, hrun⟩ := hch
    have hh : w1.heap = w.heap := by rcases hw1 with rfl | rfl <;> rfl
    obtain ⟨hin, hns⟩ := hmem L[j] (by simp)
    obtain ⟨i, hi2, hb2, p, hp, hk, hv⟩ := ents_get 0 kv L[j] hin
    have hbi : L[j].born = i := by omega
    refine ⟨i, p, { w1 with heap := w1.heap.setIfInBounds b (.mapIter (some g) kv.length (seen ++ [i]).toArray kv.length) }, hp, hi2, by rw [← hbi]; exact hns, ?_, ⟨?_, ?_, ?_, ?_, fun k hk hne => ?_⟩, ?_⟩
    · unfold It
      show (w1.heap.setIfInBounds b _)[b]? = _
      rw [hh]; simp [hlt]
    · rcases hw1 with rfl | rfl <;> rfl
    · rcases hw1 with rfl | rfl <;> rfl
    · rcases hw1 with rfl | rfl <;> rfl
    · show w.heap.size ≤ (w1.heap.setIfInBounds b _).size
      rw [hh]; simp
    · show (w1.heap.setIfInBounds b _)[k]? = _
      have : b ≠ k := fun e => hne (by rw [e])
      rw [hh]; simp [this]
    · have hset : (setObj b (.mapIter (some g) kv.length (seen.toArray.push L[j].born) kv.length)).run P w1 = .ok () { w1 with heap := w1.heap.setIfInBounds b (.mapIter (some g) kv.length (seen ++ [i]).toArray kv.length) } := by
        simp only [setObj, Sem.run, hh, hi', hbi, List.push_toArray]
      simp only [hrun, Array.getElem?_map, Array.getElem?_eq_getElem hj, Option.map_some, Sem.run_bind, hset, Result.andThen]
      rw [← hk, ← hv]
      rfl
section
variable {P : Program} {N : Nat} {D : List Deferred} {env env' : Env} {a : Act} {w w' : World} {Q : Exit → Act → World → Prop}
variable {ops : Array Oper} {rest : List Oper} {d : Nat} {op : Op} {ty : TypeId} {pos : String} {af : Array Edge}
theorem Mp.new (w : World) : Mp (w.alloc (.map #[] 0)) w.heap.size [] := by unfold Mp; show (w.heap.push _)[w.heap.size]? = _; simp; rfl
theorem m_makeMap {t : TypeId} : Mk P N D env w (.makeMap t none) ty (.map (some w.heap.size)) (w.alloc (.map #[] 0)) := fun a ha dst pos af g => by
  simp [execOp, Instr.makeMap, newObj, Sem.run]
/-- a map of one's own -/
theorem Wl.makeMap {t : TypeId} (hd : Nat.blt d N = true) (h : ∀ g w', w.heap.size ≤ g → Mp w' g [] → Below w.heap.size w w' → Wl P ops Q rest N D ((d, .map (some g)) :: env) w') :
    Wl P ops Q (⟨some d, .makeMap t none, ty, pos, af, none⟩ :: rest) N D env w :=
  Wl.m m_makeMap hd (h _ _ (Nat.le_refl _) (Mp.new w) ((Below.refl _ _).alloc (Nat.le_refl _) _))
theorem s_insert {m i x : Operand} {t k e : TypeId} {g : Nat} {kv : List (List UInt8 × Value)} {key : List UInt8} {v : Value} (ht : P.underlying t = some (.map k e)) (hk : P.underlying k = some .string) (hx : ev env m = some (.map (some g))) (hi : ev env i = some (str key)) (hv : ev env x = some v) (hm : Mp w g kv) (hn : mlook kv key = none) :
    ∃ w', St P N D env w (.insert t m i x) ty w' ∧ Mp w' g (kv ++ [(key, v)]) ∧ w.grownBy w' (some g) := by
  refine ⟨{ w with heap := w.heap.setIfInBounds g (.map (ents 0 (kv ++ [(key, v)])).toArray (kv ++ [(key, v)]).length) }, fun a ha dst pos af g' => ?_, ?_, ⟨rfl, rfl, rfl, by simp, fun j hj hne => ?_⟩⟩
  · obtain ⟨j, hj⟩ := run_findKey (P := P) hk key kv w
    rw [hn] at hj
    have hm' : w.heap[g]? = some (.map (ents 0 kv).toArray kv.length) := hm
    simp [execOp, ha.eval hx, ha.eval hi, ha.eval hv, Instr.mapUpdate, run_underlying ht, getObj, Sem.run, hm', run_checkKey hk, hj, setObj, ents_snoc]
  · unfold Mp
    have := hm.lt
    show (w.heap.setIfInBounds g _)[g]? = _
    simp [this]
  · show (w.heap.setIfInBounds g _)[j]? = _
    have : g ≠ j := fun e => hne (by rw [e])
    simp [this]
theorem Wl.insert {m i x : Operand} {t k e : TypeId} {g : Nat} {kv : List (List UInt8 × Value)} {key : List UInt8} {v : Value} (ht : P.underlying t = some (.map k e)) (hk : P.underlying k = some .string) (hx : ev env m = some (.map (some g))) (hi : ev env i = some (str key)) (hv : ev env x = some v) (hm : Mp w g kv) (hn : mlook kv key = none)
    (h : ∀ w', Mp w' g (kv ++ [(key, v)]) → w.grownBy w' (some g) → Wl P ops Q rest N D env w') : Wl P ops Q (⟨none, .insert t m i x, ty, pos, af, none⟩ :: rest) N D env w := by
  obtain ⟨w', h1, h2, h3⟩ := s_insert (N := N) (D := D) (ty := ty) ht hk hx hi hv hm hn
  exact Wl.s h1 (h w' h2 h3)
theorem l_lookup {x i : Operand} {t k e : TypeId} {g : Nat} {kv : List (List UInt8 × Value)} {key : List UInt8} {z : Value} (ht : P.underlying t = some (.map k e)) (hk : P.underlying k = some .string) (hz : (P.info? e).bind (·.zero) = some z) (hx : ev env x = some (.map (some g))) (hi : ev env i = some (str key)) (hm : Mp w g kv) :
    Ld P N D env w (.lookup t x i true) ty (.tuple #[(mlook kv key).getD z, .bool (mlook kv key).isSome]) := fun a ha dst pos af g' => by
  obtain ⟨j, hj⟩ := run_findKey (P := P) hk key kv w
  have hm' : w.heap[g]? = some (.map (ents 0 kv).toArray kv.length) := hm
  obtain ⟨ie, hi2, hz'⟩ := Option.bind_eq_some_iff.1 hz
  cases hl : mlook kv key with
  | none =>
    rw [hl] at hj
    simp [execOp, ha.eval hx, ha.eval hi, Instr.lookup, run_underlying ht, getObj, Sem.run, hm', run_checkKey hk, hj, zeroValue, typeInfo, hi2, hz']
  | some v =>
    rw [hl] at hj
    simp [execOp, ha.eval hx, ha.eval hi, Instr.lookup, run_underlying ht, getObj, Sem.run, hm', run_checkKey hk, hj]

theorem m_range {x : Operand} {t k e : TypeId} {g : Nat} {kv : List (List UInt8 × Value)} (ht : P.underlying t = some (.map k e)) (hx : ev env x = some (.map (some g))) (hm : Mp w g kv) :
    Mk P N D env w (.range t x) ty (.pointer (some ⟨w.heap.size, 0, none⟩)) (w.alloc (.mapIter (some g) kv.length #[] kv.length)) := fun a ha dst pos af g' => by
  have hm' : w.heap[g]? = some (.map (ents 0 kv).toArray kv.length) := hm
  simp [execOp, ha.eval hx, Instr.range, run_underlying ht, getObj, Sem.run, hm', newObj]
theorem Wl.range {x : Operand} {t k e : TypeId} {g : Nat} {kv : List (List UInt8 × Value)} (ht : P.underlying t = some (.map k e)) (hx : ev env x = some (.map (some g))) (hm : Mp w g kv) (hd : Nat.blt d N = true)
    (h : ∀ b w', w.heap.size ≤ b → It w' b g kv.length [] → Below w.heap.size w w' → Wl P ops Q rest N D ((d, .pointer (some ⟨b, 0, none⟩)) :: env) w') :
    Wl P ops Q (⟨some d, .range t x, ty, pos, af, none⟩ :: rest) N D env w :=
  Wl.m (m_range ht hx hm) hd (h _ _ (Nat.le_refl _) (by unfold It; show (w.heap.push _)[w.heap.size]? = _; simp) ((Below.refl _ _).alloc (Nat.le_refl _) _))
theorem Wl.next {x : Operand} {g : Nat} {kv : List (List UInt8 × Value)} {seen : List Nat} {b : Nat} (hx : ev env x = some (.pointer (some ⟨b, 0, none⟩))) (hi : It w b g kv.length seen) (hm : Mp w g kv) (hd : Nat.blt d N = true)
    (h0 : (∀ i, i < kv.length → i ∈ seen) → Wl P ops Q rest N D ((d, .tuple #[.bool false]) :: env) w)
    (h1 : ∀ i p w', kv[i]? = some p → i < kv.length → i ∉ seen → It w' b g kv.length (seen ++ [i]) → w.grownBy w' (some b) → Wl P ops Q rest N D ((d, .tuple #[.bool true, str p.1, p.2]) :: env) w') :
    Wl P ops Q (⟨some d, .next x false, ty, pos, af, none⟩ :: rest) N D env w := by
  rcases run_next_at (P := P) (ty := ty) hi hm with ⟨ha', hr⟩ | ⟨i, p, w', hp, hi2, hns, hI, hg, hr⟩
  · exact Wl.m (fun a ha dst pos af g' => by simp [execOp, ha.eval hx, hr]) hd (h0 ha')
  · exact Wl.m (fun a ha dst pos af g' => by simp [execOp, ha.eval hx, hr]) hd (h1 i p w' hp hi2 hns hI hg)
theorem l_entry {x : Operand} {g : Nat} {kv : List (List UInt8 × Value)} {seen : List Nat} {b i : Nat} {p : List UInt8 × Value} (hx : ev env x = some (.pointer (some ⟨b, 0, none⟩))) (hI : It w b g kv.length (seen ++ [i])) (hm : Mp w g kv) (hp : kv[i]? = some p) :
    Ld P N D env w (.entry x) ty (.tuple #[str p.1, p.2]) := fun a ha dst pos af g' => by
  have hi' : w.heap[b]? = some (.mapIter (some g) kv.length (seen ++ [i]).toArray kv.length) := hI
  have hm' : w.heap[g]? = some (.map (ents 0 kv).toArray kv.length) := hm
  have hi : i < kv.length := (List.getElem?_eq_some_iff.1 hp).1
  obtain ⟨e, he, hb⟩ := ent_at hi
  have hmem : e ∈ (ents 0 kv) := List.mem_of_getElem? he
  obtain ⟨i', _, hb2, p', hp', hk, hv⟩ := ents_get 0 kv e hmem
  have : i' = i := by omega
  subst this
  rw [hp] at hp'; cases hp'
  have hf : (ents 0 kv).toArray.find? (·.born == i') = some e := by
    rw [← hb, ← Array.find?_toList]
    exact find_born e _ (by rw [show ((ents 0 kv).toArray).toList = ents 0 kv by simp, ents_born]; exact List.nodup_range') (by simpa using hmem)
  have hbk : (seen ++ [i']).toArray.back? = some i' := by rw [← List.push_toArray, Array.back?_push]
  have hr : (Instr.entry (.pointer (some ⟨b, 0, none⟩))).run P w = .ok (.tuple #[str p.1, p.2]) w := by
    simp only [Instr.entry, getObj, Sem.run_bind, Sem.run, hi', hm', Result.andThen, hbk, bne_self_eq_false, Bool.false_eq_true, if_false, hf]
    rw [← hk, ← hv]; rfl
  simp [execOp, ha.eval hx, hr]
/-- how many are left -/
def leftN (n : Nat) (seen : List Nat) : Nat := ((List.range n).filter (fun i => !seen.contains i)).length
theorem leftN_lt {n i : Nat} {seen : List Nat} (hi : i < n) (hs : i ∉ seen) : leftN n (seen ++ [i]) < leftN n seen := by
  unfold leftN
  have hm : i ∈ List.range n := List.mem_range.2 hi
  revert hm
  generalize List.range n = l
  induction l with
  | nil => intro h; cases h
  | cons x r ih =>
    intro h
    have hle : ∀ r : List Nat, (r.filter (fun j => !(seen ++ [i]).contains j)).length ≤ (r.filter (fun j => !seen.contains j)).length := fun r => by
      induction r with
      | nil => exact Nat.le_refl _
      | cons y r ih => rw [List.filter_cons, List.filter_cons]; by_cases hy : y ∈ seen <;> by_cases hyi : y = i <;> simp_all <;> omega
    rw [List.filter_cons, List.filter_cons]
    by_cases hx : x = i
    · subst hx
      have := hle r
      simp [hs] at this ⊢; omega
    · have hr : i ∈ r := by rcases List.mem_cons.1 h with h | h; exact absurd h.symm hx; exact h
      have := ih hr
      by_cases hxs : x ∈ seen <;> simp [hxs, hx] at this ⊢ <;> omega
/-- an error against nil -/
def isNilI : Value → Bool | .nilIface => true | _ => false
def IsErr (v : Value) : Prop := v = .nilIface ∨ ∃ d p, v = .iface d p
theorem y_eqlN {x : Operand} {v : Value} {t u : TypeId} (h : P.underlying t = some (.interface (P.methodsAt t))) (hx : ev env x = some v) (hv : IsErr v) : Yl P N D env (.binOp .eql t x (.const .nilIface) u) ty (.bool (isNilI v)) := fun a ha w dst pos af g => by
  have he : a.eval (Operand.const Value.nilIface) = .nilIface := rfl
  rcases hv with rfl | ⟨d, p, rfl⟩
  · simp [execOp, ha.eval hx, he, eqGuard_nil_constR, run_eql_nil_nil w t h, isNilI]
  · simp [execOp, ha.eval hx, he, eqGuard_at_iface, run_eql_held_nil w t d p h, isNilI]
theorem y_neqN {x : Operand} {v : Value} {t u : TypeId} (h : P.underlying t = some (.interface (P.methodsAt t))) (hx : ev env x = some v) (hv : IsErr v) : Yl P N D env (.binOp .neq t x (.const .nilIface) u) ty (.bool (!isNilI v)) := fun a ha w dst pos af g => by
  have he : a.eval (Operand.const Value.nilIface) = .nilIface := rfl
  rcases hv with rfl | ⟨d, p, rfl⟩
  · simp [execOp, ha.eval hx, he, eqGuard_nil_constR, run_neq_nil_nil w t h, isNilI]
  · simp [execOp, ha.eval hx, he, eqGuard_at_iface, run_neq_held_nil w t d p h, isNilI]
end
end Go.Bw
