/- What came in, read as data: a predicate over the datum, without places and fuel; and its openings. -/
import Derived.Test.YtjmlknjbhbfneaaGreatDoorZA
import Derived.ProofKit
import Derived.OpenShut
import Derived.ShutString
import Derived.ChangeOld
import Derived.SizedLaws
namespace Go.Bw
open Go.ChangeShapes Go.WideShapes Go.ChangeAt Go.RowKit
open Go.ChangeMaps (open_string shut_string)
set_option linter.unusedVariables false
set_option linter.unusedSimpArgs false

/-- the cells cs read as the datum d of type t -/
inductive Sees {H : Type} (P : Program) (w : World) : TypeId → List Value → DataW H → Prop
  | bool {t : TypeId} {b : Bool} (ht : P.underlying t = some .bool) : Sees P w t [.bool b] (.lit (.bool b))
  | int {t : TypeId} {k : IntKind} {n : Int} (ht : P.underlying t = some (.int k)) (hw : (Lit.int k n).wf = true) : Sees P w t [.int k n] (.lit (.int k n))
  | float {t : TypeId} {k : FloatKind} {b : Nat} (ht : P.underlying t = some (.float k)) (hw : (Lit.float k b).wf = true) : Sees P w t [.float k b] (.lit (.float k b))
  | str {t : TypeId} {l : List UInt8} (ht : P.underlying t = some .string) (hl : l.length ≤ maxLen) : Sees P w t [Go.Bw.str l] (.lit (.string l))
  | nil {t e : TypeId} (ht : P.underlying t = some (.slice e)) : Sees P w t [.slice none 0 0] .nil
  | slice {t e : TypeId} {a : Addr} {len cap : Nat} {elems spare : List (DataW H)} (ecs : Nat → List Value) (ht : P.underlying t = some (.slice e)) (hl : len ≤ cap) (hc : cap ≤ maxLen) (he : elems.length = len)
      (hlen : ∀ i, i < len → (ecs i).length = P.cellsOf e) (hcell : ∀ i, i < len → ∀ (j : Nat) (u : Value), (ecs i)[j]? = some u → w.cell? ((a.add (i * P.cellsOf e)).add j) = some u)
      (hs : ∀ (i : Nat) (d : DataW H), elems[i]? = some d → Sees P w e (ecs i) d) : Sees P w t [.slice (some a) len cap] (.slice elems spare)
  | struct {t : TypeId} {fs : Array Field} {cs : List Value} {parts : List (DataW H)} (ht : P.underlying t = some (.struct fs)) (hl : cs.length = P.cellsOf t) (hp : parts.length = fs.size)
      (hs : ∀ (i : Nat) (f : Field) (d : DataW H), fs[i]? = some f → parts[i]? = some d → Sees P w f.type ((cs.drop f.offset).take (P.cellsOf f.type)) d) : Sees P w t cs (.agg parts)

/-- a set of types that Sees knows -/
def plainType (P : Program) (S : List TypeId) (t : TypeId) : Bool :=
  match P.underlying t with
  | some .bool | some (.int _) | some (.float _) | some .string => true
  | some (.slice e) => S.contains e
  | some (.struct fs) => fs.toList.all fun f => S.contains f.type
  | _ => false

section
variable {P : Program} {w : World} {H : Type} {enc : TypeId × Value → H} {base : Nat} {sp : Nat → Bool} {held : Bool}

theorem cells_get {a : Addr} {n : Nat} {cs : List Value} (h : w.cells? base a n = some cs) : cs.length = n ∧ ∀ (j : Nat) (u : Value), cs[j]? = some u → w.cell? (a.add j) = some u := by
  unfold World.cells? at h
  split at h
  · have hl := mapM_len h
    simp only [List.length_range] at hl
    refine ⟨hl, fun j u hu => ?_⟩
    have hj : j < n := by
      rcases Nat.lt_or_ge j n with h1 | h1
      · exact h1
      · rw [List.getElem?_eq_none (by omega)] at hu; cases hu
    have := mapM_get h j
    simp only [List.getElem?_range hj] at this
    rw [hu] at this
    exact this
  · cases h
where
  mapM_len {α β : Type} {f : α → Option β} : ∀ {l : List α} {r : List β}, l.mapM f = some r → r.length = l.length
    | [], r, h => by simp at h; subst h; rfl
    | x :: l, r, h => by
      simp only [List.mapM_cons, Option.bind_eq_bind, Option.bind_eq_some_iff, Option.pure_def, Option.some.injEq] at h
      obtain ⟨y, _, ys, h2, rfl⟩ := h
      simp [mapM_len h2]
  mapM_get {α β : Type} {f : α → Option β} : ∀ {l : List α} {r : List β}, l.mapM f = some r → ∀ i : Nat, l[i]?.bind f = r[i]?
    | [], r, h, i => by simp at h; subst h; simp
    | x :: l, r, h, i => by
      simp only [List.mapM_cons, Option.bind_eq_bind, Option.bind_eq_some_iff, Option.pure_def, Option.some.injEq] at h
      obtain ⟨y, h1, ys, h2, rfl⟩ := h
      cases i with
      | zero => simpa using h1
      | succ i => simpa using mapM_get h2 i

theorem sees_of_trod (S : List TypeId) (hS : (S.all (plainType P S)) = true) : ∀ (fuel : Nat) (t : TypeId) (cs : List Value) (x : DataW H × List MemPlace), t ∈ S → DataW.trod enc P w base sp held fuel t cs = some x → Sees P w t cs x.1
  | 0, t, cs, x, _, h => by simp [DataW.trod] at h
  | fuel + 1, t, cs, x, htS, h => by
    have hpl := List.all_eq_true.1 hS t htS
    unfold plainType at hpl
    cases hu : P.underlying t with
    | none => rw [hu] at hpl; cases hpl
    | some dsc =>
      rw [hu] at hpl
      cases dsc with
      | bool =>
        obtain ⟨b, h1, h2⟩ := DataW.trod_bool hu h
        subst h1 h2
        exact .bool hu
      | int k =>
        obtain ⟨n, h1, h2, h3⟩ := DataW.trod_int hu h
        subst h1 h2
        exact .int hu h3
      | float k =>
        unfold DataW.trod at h
        rw [hu] at h
        split at h <;> simp_all
        obtain ⟨⟨rfl, hw⟩, rfl⟩ := h
        exact .float hu hw
      | string =>
        obtain ⟨s, h1, h2, h3⟩ := DataW.trod_string hu h
        subst h1 h2
        have : [Value.string s] = [Go.Bw.str s.data.toList] := by rw [str_of]
        rw [this]
        exact .str hu (by rw [Lib.size_eq] at h3; exact h3)
      | slice e =>
        have heS : e ∈ S := by simpa using hpl
        rcases DataW.trod_slice hu h with ⟨rfl, rfl⟩ | ⟨a, len, cap, elems, rest, n, hf, rfl, rfl, hb, hl, hm, hlen, hel, hsp, hns⟩
        · exact .nil hu
        · cases hf
          have key : ∀ i, i < len → ∃ cs0, w.cells? base (a.add (i * P.cellsOf e)) (P.cellsOf e) = some cs0 ∧ DataW.trod enc P w base sp held fuel e cs0 = elems[i]? := fun i hi => by
            have h1 := hel i hi
            have h2 : i < elems.length := by omega
            rw [List.getElem?_eq_getElem h2] at h1 ⊢
            obtain ⟨c0, h3, h4⟩ := Option.bind_eq_some_iff.1 h1
            exact ⟨c0, h3, h4⟩
          refine .slice (fun i => (w.cells? base (a.add (i * P.cellsOf e)) (P.cellsOf e)).getD []) hu hl hm (by simpa using hlen) (fun i hi => ?_) (fun i hi j u hju => ?_) (fun i d hd => ?_)
          · obtain ⟨c0, h3, _⟩ := key i hi
            simp only [h3, Option.getD_some]
            exact (cells_get h3).1
          · obtain ⟨c0, h3, _⟩ := key i hi
            simp only [h3, Option.getD_some] at hju
            exact (cells_get h3).2 j u hju
          · simp only [List.getElem?_map, Option.map_eq_some_iff] at hd
            obtain ⟨y, hy, rfl⟩ := hd
            have hi : i < len := by
              rcases Nat.lt_or_ge i elems.length with h1 | h1
              · omega
              · rw [List.getElem?_eq_none h1] at hy; cases hy
            obtain ⟨c0, h3, h4⟩ := key i hi
            simp only [h3, Option.getD_some]
            rw [hy] at h4
            exact sees_of_trod S hS fuel e c0 y heS h4
      | struct fs =>
        unfold DataW.trod at h
        rw [hu] at h
        have h' : (if cs.length = P.cellsOf t then (fs.toList.mapM fun f => DataW.trod enc P w base sp held fuel f.type ((cs.drop f.offset).take (P.cellsOf f.type))).map fun xs => ((.agg (xs.map (·.1)), xs.flatMap (·.2)) : DataW H × List MemPlace) else none) = some x := by
          revert h
          cases cs with
          | nil => exact id
          | cons c r => cases r with
            | nil => cases c <;> exact id
            | cons c2 r2 => exact id
        split at h'
        · rename_i hcl
          obtain ⟨xs, h1, rfl⟩ := Option.map_eq_some_iff.1 h'
          refine .struct hu hcl (by simp [cells_get.mapM_len h1]) (fun i f d hf hd => ?_)
          simp only [List.getElem?_map, Option.map_eq_some_iff] at hd
          obtain ⟨y, hy, rfl⟩ := hd
          have h2 := cells_get.mapM_get h1 i
          rw [Array.getElem?_toList, hf, hy] at h2
          have hfS : f.type ∈ S := by
            have : f ∈ fs.toList := by
              have := Array.mem_of_getElem? hf
              simpa using this
            simpa using List.all_eq_true.1 hpl f this
          exact sees_of_trod S hS fuel f.type _ y hfS h2
        · cases h'
      | _ => cases hpl

/-- a datum's weights are within the reach -/
def Fits (P : Program) (t : TypeId) (d : DataW H) : Prop := ∀ n ∈ d.weights P t, n ≤ reachBytes
theorem fits_of {ts : List TypeId} {ds : List (DataW H)} (hsz : (DataW.weightsEach P ts ds).all (· ≤ reachBytes) = true) {j : Nat} {t : TypeId} {d : DataW H} (htj : ts[j]? = some t) (hdj : ds[j]? = some d) : Fits P t d :=
  fun n hn => by simpa using List.all_eq_true.1 hsz _ (DataW.weights_mem_each htj hdj n hn)
theorem weightsAll_mem {e : TypeId} : ∀ {l : List (DataW H)} {i : Nat} {d : DataW H} {n : Nat}, l[i]? = some d → n ∈ d.weights P e → n ∈ DataW.weightsAll P e l
  | [], i, d, n, h, _ => by simp at h
  | x :: l, 0, d, n, h, hn => by
    simp at h; subst h
    unfold DataW.weightsAll
    exact List.mem_append_left _ hn
  | x :: l, i + 1, d, n, h, hn => by
    unfold DataW.weightsAll
    exact List.mem_append_right _ (weightsAll_mem (by simpa using h) hn)
theorem Fits.elem {t e : TypeId} {elems spare : List (DataW H)} (ht : P.underlying t = some (.slice e)) (h : Fits P t (.slice elems spare)) {i : Nat} {d : DataW H} (hd : elems[i]? = some d) : Fits P e d :=
  fun n hn => h n (by
    unfold DataW.weights
    rw [ht]
    exact List.mem_cons_of_mem _ (List.mem_append_left _ (weightsAll_mem hd hn)))
theorem Fits.len {t e : TypeId} {elems spare : List (DataW H)} (ht : P.underlying t = some (.slice e)) (h : Fits P t (.slice elems spare)) : elems.length * P.bytesOf e ≤ 140737488351232 := by
  have := h ((elems.length + spare.length) * P.bytesOf e) (by
    unfold DataW.weights
    rw [ht]
    exact List.mem_cons_self)
  rw [Nat.add_mul] at this
  simp only [reachBytes] at this
  omega
theorem Fits.str {t : TypeId} {l : List UInt8} (h : Fits (H := H) P t (.lit (.string l))) : l.length ≤ 140737488351232 := by
  have := h l.length (by unfold DataW.weights; simp)
  simpa [reachBytes] using this
theorem Fits.part {t : TypeId} {fs : Array Field} {parts : List (DataW H)} (ht : P.underlying t = some (.struct fs)) (h : Fits P t (.agg parts)) {i : Nat} {f : Field} {d : DataW H} (hf : fs[i]? = some f) (hd : parts[i]? = some d) : Fits P f.type d :=
  fun n hn => h n (by
    unfold DataW.weights
    rw [ht]
    exact DataW.weights_mem_each (j := i) (by simp [hf]) hd n hn)

/-! ### openings -/
theorem Sees.of {t : TypeId} {v : Value} {d : DataW H} {ps : List MemPlace} (S : List TypeId) (hS : (S.all (plainType P S)) = true) (ht : t ∈ S) (h : DataW.Trod enc P w base sp held t v d ps) : Sees P w t v.cells.toList d :=
  let ⟨fuel, hf⟩ := h; sees_of_trod S hS fuel t _ _ ht hf
theorem u8_of (n : Int) (h : (Lit.int IntKind.u8 n).wf = true) : ((UInt8.ofNat n.toNat).toNat : Int) = n := by
  have := bounds_u8 h
  simp
  omega
theorem Sees.int_inv {t : TypeId} {k : IntKind} {cs : List Value} {d : DataW H} (ht : P.underlying t = some (.int k)) (h : Sees P w t cs d) : ∃ n, cs = [.int k n] ∧ d = .lit (.int k n) ∧ (Lit.int k n).wf = true := by
  cases h with
  | int h hw => rw [ht] at h; cases h; exact ⟨_, rfl, rfl, hw⟩
  | bool h => rw [ht] at h; cases h
  | float h => rw [ht] at h; cases h
  | str h => rw [ht] at h; cases h
  | nil h => rw [ht] at h; cases h
  | slice _ h => rw [ht] at h; cases h
  | struct h => rw [ht] at h; cases h
theorem Sees.bool_inv {t : TypeId} {cs : List Value} {d : DataW H} (ht : P.underlying t = some .bool) (h : Sees P w t cs d) : ∃ b, cs = [.bool b] ∧ d = .lit (.bool b) := by
  cases h with
  | bool h => exact ⟨_, rfl, rfl⟩
  | int h => rw [ht] at h; cases h
  | float h => rw [ht] at h; cases h
  | str h => rw [ht] at h; cases h
  | nil h => rw [ht] at h; cases h
  | slice _ h => rw [ht] at h; cases h
  | struct h => rw [ht] at h; cases h
theorem Sees.float_inv {t : TypeId} {k : FloatKind} {cs : List Value} {d : DataW H} (ht : P.underlying t = some (.float k)) (h : Sees P w t cs d) : ∃ b, cs = [.float k b] ∧ d = .lit (.float k b) ∧ (Lit.float k b).wf = true := by
  cases h with
  | float h hw => rw [ht] at h; cases h; exact ⟨_, rfl, rfl, hw⟩
  | bool h => rw [ht] at h; cases h
  | int h => rw [ht] at h; cases h
  | str h => rw [ht] at h; cases h
  | nil h => rw [ht] at h; cases h
  | slice _ h => rw [ht] at h; cases h
  | struct h => rw [ht] at h; cases h
theorem Sees.str_inv {t : TypeId} {cs : List Value} {d : DataW H} (ht : P.underlying t = some .string) (h : Sees P w t cs d) (hf : Fits P t d) : ∃ l, cs = [Go.Bw.str l] ∧ d = .lit (.string l) ∧ l.length ≤ 140737488351232 := by
  cases h with
  | str h hl => exact ⟨_, rfl, rfl, hf.str⟩
  | bool h => rw [ht] at h; cases h
  | int h => rw [ht] at h; cases h
  | float h => rw [ht] at h; cases h
  | nil h => rw [ht] at h; cases h
  | slice _ h => rw [ht] at h; cases h
  | struct h => rw [ht] at h; cases h
end
end Go.Bw
