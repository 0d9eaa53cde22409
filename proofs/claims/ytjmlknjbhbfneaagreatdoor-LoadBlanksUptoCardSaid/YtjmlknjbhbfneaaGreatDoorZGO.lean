/- What came in as a graph: its plain form, and how much it is. -/
import Derived.Test.YtjmlknjbhbfneaaGreatDoorZGA
import Derived.Test.YtjmlknjbhbfneaaGreatDoorZRow
import Derived.Test.YtjmlknjbhbfneaaGreatDoorRows
namespace Go.Proofs.YtjmlknjbhbfneaaGreatDoor
open Go.ChangeShapes Go.WideShapes Go.ChangeAt Go.RowKit Go.Bw Go.Bw.Fl
set_option linter.unusedVariables false
set_option linter.unusedSimpArgs false
section
variable {H : Type} {w : World}
theorem sinv {t : TypeId} {fs : Array Field} {cs : List Value} {d : DataW H} (ht : Tryz.prog.underlying t = some (.struct fs)) (h : Sees Tryz.prog w t cs d) (hf : Fits Tryz.prog t d) :
    ∃ parts : List (DataW H), d = .agg parts ∧ parts.length = fs.size ∧ cs.length = Tryz.prog.cellsOf t ∧ ∀ (i : Nat) (t' : TypeId) (off sz : Nat) (dp : DataW H), (fs[i]?).map (fun f => (f.type, f.offset)) = some (t', off) → Tryz.prog.cellsOf t' = sz → parts[i]? = some dp → Sees Tryz.prog w t' ((cs.drop off).take sz) dp ∧ Fits Tryz.prog t' dp := by
  cases h with
  | @struct _ fs' cs parts h hl hp hs =>
    rw [ht] at h; cases h
    refine ⟨parts, rfl, hp, hl, fun i t' off sz dp h1 h3 h2 => ?_⟩
    obtain ⟨f, h4, h5⟩ := Option.map_eq_some_iff.1 h1
    cases h5
    subst h3
    exact ⟨hs i f dp h4 h2, hf.part ht h4 h2⟩
  | bool h => rw [ht] at h; cases h
  | int h => rw [ht] at h; cases h
  | float h => rw [ht] at h; cases h
  | str h => rw [ht] at h; cases h
  | nil h => rw [ht] at h; cases h
  | slice _ h => rw [ht] at h; cases h
theorem bulkAll_at : ∀ {ds : List (DataW H)} {s : Nat → Nat} (h : ∀ i d, ds[i]? = some d → s i ≤ Rows.uptoBulk d), ((List.range ds.length).map s).sum ≤ Rows.uptoBulkAll ds
  | [], _, _ => by simp [Rows.uptoBulkAll]
  | d :: r, s, h => by
    have h0 := h 0 d rfl
    have h1 := bulkAll_at (ds := r) (s := fun i => s (i + 1)) (fun i e he => h (i + 1) e (by simpa using he))
    rw [List.length_cons, List.range_succ_eq_map, List.map_cons, List.map_map, List.sum_cons]
    have h2 : Rows.uptoBulkAll (d :: r) = Rows.uptoBulk d + Rows.uptoBulkAll r := by simp [Rows.uptoBulkAll]
    rw [h2]
    have h3 : (s ∘ Nat.succ) = fun i => s (i + 1) := rfl
    rw [h3]; omega
/-- a row: its elements as plain things -/
theorem rinv {α : Type} {t e : TypeId} {cs : List Value} {d : DataW H} (z : α) (Q : List Value → α → Prop) (s : α → Nat) (ht : Tryz.prog.underlying t = some (.slice e)) (h : Sees Tryz.prog w t cs d) (hf : Fits Tryz.prog t d)
    (hel : ∀ (c : List Value) (d : DataW H), Sees Tryz.prog w e c d → Fits Tryz.prog e d → ∃ x, Q c x ∧ s x ≤ Rows.uptoBulk d) :
    ∃ (A : Option Addr) (c : Nat) (l : List α), cs = [.slice A l.length c] ∧ l.length ≤ c ∧ (∀ i, i < l.length → ∃ p ecs, A = some p ∧ ecs.length = Tryz.prog.cellsOf e ∧ (∀ (j : Nat) (u : Value), ecs[j]? = some u → w.cell? ((p.add (i * Tryz.prog.cellsOf e)).add j) = some u) ∧ Q ecs (l.getD i z)) ∧ (l.map s).sum + 1 ≤ Rows.uptoBulk d := by
  cases h with
  | nil => exact ⟨none, 0, [], rfl, Nat.le_refl _, fun i hi => absurd hi (by simp), by simp [Rows.uptoBulk]⟩
  | @slice _ e' a len cap elems spare ecs ht' hl hm hlen h1 h2 h3 =>
    rw [ht] at ht'; cases ht'
    have key : ∀ i, ∃ x, ∀ d, elems[i]? = some d → Q (ecs i) x ∧ s x ≤ Rows.uptoBulk d := fun i => by
      cases he : elems[i]? with
      | none => exact ⟨z, fun d hd => by cases hd⟩
      | some d =>
        obtain ⟨x, h4, h5⟩ := hel _ _ (h3 i d he) (hf.elem ht he)
        exact ⟨x, fun d' hd => by cases hd; exact ⟨h4, h5⟩⟩
    let g : Nat → α := fun i => Classical.choose (key i)
    have hg : ∀ i d, elems[i]? = some d → Q (ecs i) (g i) ∧ s (g i) ≤ Rows.uptoBulk d := fun i => Classical.choose_spec (key i)
    have hll : ((List.range elems.length).map g).length = len := by simp [hlen]
    refine ⟨some a, cap, (List.range elems.length).map g, by rw [hll], by rw [hll]; exact hl, fun i hi => ?_, ?_⟩
    · rw [hll] at hi
      have h4 : elems[i]? = some elems[i] := List.getElem?_eq_getElem (by omega)
      have h5 : ((List.range elems.length).map g).getD i z = g i := by rw [getD_at z (by rw [hll]; exact hi)]; simp
      exact ⟨a, ecs i, rfl, h1 i hi, h2 i hi, by rw [h5]; exact (hg i _ h4).1⟩
    · have h6 := bulkAll_at (ds := elems) (s := fun i => s (g i)) (fun i d hd => (hg i d hd).2)
      have h7 : (((List.range elems.length).map g).map s) = (List.range elems.length).map (fun i => s (g i)) := by rw [List.map_map]; rfl
      have h8 : Rows.uptoBulk (.slice elems spare) = Rows.uptoBulkAll elems + Rows.uptoBulkAll spare + 1 := by simp [Rows.uptoBulk]
      rw [h7, h8]; omega
  | bool h => rw [ht] at h; cases h
  | int h => rw [ht] at h; cases h
  | float h => rw [ht] at h; cases h
  | str h => rw [ht] at h; cases h
  | struct h => rw [ht] at h; cases h
theorem rd_of {α : Type} {A : Option Addr} {l : List α} (f : α → List Value) {k : Nat} (hk : 0 < k) (hf : ∀ a, (f a).length = k) (z : α)
    (h : ∀ i, i < l.length → ∃ p ecs, A = some p ∧ ecs.length = k ∧ (∀ (j : Nat) (u : Value), ecs[j]? = some u → w.cell? ((p.add (i * k)).add j) = some u) ∧ ecs = f (l.getD i z)) : Rd w k A l.length (l.flatMap f) := by
  have hlen : (l.flatMap f).length = l.length * k := by
    clear h
    induction l with
    | nil => simp
    | cons a r ih => rw [List.flatMap_cons, List.length_append, hf, ih, List.length_cons, Nat.add_mul]; omega
  refine ⟨hlen, fun h0 => ?_⟩
  have hl0 : 0 < l.length := by
    rcases Nat.eq_zero_or_pos l.length with e | e
    · rw [hlen, e] at h0; omega
    · exact e
  obtain ⟨p, _, hp, _⟩ := h 0 hl0
  refine ⟨p, hp, fun J u hu => ?_⟩
  have hJ : J < l.length * k := by have := (List.getElem?_eq_some_iff.1 hu).1; rw [hlen] at this; exact this
  have hi : J / k < l.length := by rw [Nat.div_lt_iff_lt_mul hk]; exact hJ
  have hj : J % k < k := Nat.mod_lt _ hk
  have hJe : J = J / k * k + J % k := by rw [Nat.mul_comm]; exact (Nat.div_add_mod J k).symm
  obtain ⟨p', ecs, hp', hl', hc', he'⟩ := h (J / k) hi
  rw [hp] at hp'; cases hp'
  rw [hJe, flat_at f k hf l (J / k) (J % k) _ (List.getElem?_eq_getElem hi) hj] at hu
  have h2 := hc' (J % k) u (by rw [he', getD_at z hi]; exact hu)
  rw [addr_add_add, ← hJe] at h2; exact h2
theorem co1 : Tryz.prog.cellsOf 9 = 1 := by kernel_rfl
theorem co2 : Tryz.prog.cellsOf 40 = 1 := by kernel_rfl
theorem co3 : Tryz.prog.cellsOf 96 = 4 := by kernel_rfl
theorem co4 : Tryz.prog.cellsOf 105 = 5 := by kernel_rfl
theorem co5 : Tryz.prog.cellsOf 41 = 1 := by kernel_rfl
theorem co6 : Tryz.prog.cellsOf 43 = 3 := by kernel_rfl
theorem co7 : Tryz.prog.cellsOf 24 = 1 := by kernel_rfl
theorem co8 : Tryz.prog.cellsOf 46 = 6 := by kernel_rfl
theorem co9 : Tryz.prog.cellsOf 25 = 1 := by kernel_rfl
theorem coA : Tryz.prog.cellsOf 27 = 2 := by kernel_rfl
theorem coI : Tryz.prog.cellsOf 3 = 1 := by kernel_rfl
theorem coJ : Tryz.prog.cellsOf 2 = 1 := by kernel_rfl
theorem coF : Tryz.prog.cellsOf 94 = 1 := by kernel_rfl
theorem coB : Tryz.prog.cellsOf 4 = 1 := by kernel_rfl
theorem L2 {α : Type} {l : List α} (h : l.length = 2) : ∃ a b, l = [a, b] := by
  match l, h with
  | [a, b], _ => exact ⟨a, b, rfl⟩
theorem L3 {α : Type} {l : List α} (h : l.length = 3) : ∃ a b c, l = [a, b, c] := by
  match l, h with
  | [a, b, c], _ => exact ⟨a, b, c, rfl⟩
theorem L4 {α : Type} {l : List α} (h : l.length = 4) : ∃ a b c d, l = [a, b, c, d] := by
  match l, h with
  | [a, b, c, d], _ => exact ⟨a, b, c, d, rfl⟩
theorem L5 {α : Type} {l : List α} (h : l.length = 5) : ∃ a b c d e, l = [a, b, c, d, e] := by
  match l, h with
  | [a, b, c, d, e], _ => exact ⟨a, b, c, d, e, rfl⟩
theorem L6 {α : Type} {l : List α} (h : l.length = 6) : ∃ a b c d e f, l = [a, b, c, d, e, f] := by
  match l, h with
  | [a, b, c, d, e, f], _ => exact ⟨a, b, c, d, e, f, rfl⟩
theorem flat_single (l : List (List UInt8)) : l.flatMap (fun x => [str x]) = strs l := by
  induction l with
  | nil => rfl
  | cons a r ih => rw [List.flatMap_cons, ih]; rfl
theorem val_of {cs : List Value} {d : DataW H} (h : Sees Tryz.prog w 96 cs d) (hf : Fits Tryz.prog 96 d) : ∃ v : Val, cs = v.cells ∧ v.Ok ∧ v.s.length + 2 ≤ Rows.uptoBulk d := by
  obtain ⟨parts, rfl, hp, hl, hs⟩ := sinv Tryz.underlying96 h hf
  rw [co3] at hl
  obtain ⟨x0, x1, x2, x3, rfl⟩ := L4 hl
  obtain ⟨d0, d1, d2, d3, rfl⟩ := L4 (show parts.length = 4 from hp)
  obtain ⟨s0, _⟩ := hs 0 _ _ _ d0 rfl coI rfl
  obtain ⟨s1, _⟩ := hs 1 _ _ _ d1 rfl coJ rfl
  obtain ⟨s2, _⟩ := hs 2 _ _ _ d2 rfl coF rfl
  obtain ⟨s3, g3⟩ := hs 3 _ _ _ d3 rfl co1 rfl
  obtain ⟨k, e0, _, w0⟩ := s0.int_inv Tryz.underlying3
  obtain ⟨n, e1, _, w1⟩ := s1.int_inv Tryz.underlying2
  obtain ⟨f, e2, _, w2⟩ := s2.float_inv Tryz.underlying94
  obtain ⟨s, e3, rfl, w3⟩ := s3.str_inv Tryz.underlying9 g3
  have e0' : x0 = .int .i64 k := by simpa using e0
  have e1' : x1 = .int .i64 n := by simpa using e1
  have e2' : x2 = .float .f64 f := by simpa using e2
  have e3' : x3 = str s := by simpa using e3
  subst e0'; subst e1'; subst e2'; subst e3'
  have b1 := bounds_i64 w1
  refine ⟨⟨k, n, f, s⟩, rfl, ⟨by show -_ ≤ n; omega, by show n ≤ _; omega, ?_⟩, ?_⟩
  · show f < _
    have h2 : (Lit.float .f64 f).wf = true := w2
    simp only [Lit.wf] at h2
    simpa using h2
  · simp only [Rows.uptoBulk, Rows.uptoBulkAll]; show s.length + 2 ≤ _; omega
theorem str_of {cs : List Value} {d : DataW H} (h : Sees Tryz.prog w 9 cs d) (hf : Fits Tryz.prog 9 d) : ∃ s : List UInt8, cs = [str s] ∧ s.length + 1 ≤ Rows.uptoBulk d := by
  obtain ⟨s, e, rfl, _⟩ := h.str_inv Tryz.underlying9 hf
  exact ⟨s, e, by simp [Rows.uptoBulk]⟩
theorem prop_of {cs : List Value} {d : DataW H} (h : Sees Tryz.prog w 105 cs d) (hf : Fits Tryz.prog 105 d) : ∃ p : Pr, (cs = propC p ∧ p.2.Ok) ∧ p.1.length + p.2.s.length + 1 ≤ Rows.uptoBulk d := by
  obtain ⟨parts, rfl, hp, hl, hs⟩ := sinv Tryz.underlying105 h hf
  rw [co4] at hl
  obtain ⟨x0, x1, x2, x3, x4, rfl⟩ := L5 hl
  obtain ⟨d0, d1, rfl⟩ := L2 (show parts.length = 2 from hp)
  obtain ⟨s0, g0⟩ := hs 0 _ _ _ d0 rfl co1 rfl
  obtain ⟨s1, g1⟩ := hs 1 _ _ _ d1 rfl co3 rfl
  obtain ⟨n, e0, b0⟩ := str_of s0 g0
  obtain ⟨v, e1, hv, b1⟩ := val_of s1 g1
  have e0' : x0 = str n := by simpa using e0
  have e1' : [x1, x2, x3, x4] = v.cells := by simpa using e1
  subst e0'
  refine ⟨(n, v), ⟨by unfold propC; rw [← e1'], hv⟩, ?_⟩
  simp only [Rows.uptoBulk, Rows.uptoBulkAll]; show n.length + v.s.length + 1 ≤ _; omega
theorem labels_of {cs : List Value} {d : DataW H} (h : Sees Tryz.prog w 40 cs d) (hf : Fits Tryz.prog 40 d) : ∃ (A : Option Addr) (c : Nat) (l : List (List UInt8)), cs = [.slice A l.length c] ∧ l.length ≤ c ∧ Rd w 1 A l.length (strs l) ∧ szL l + 1 ≤ Rows.uptoBulk d := by
  obtain ⟨A, c, l, h1, h2, h3, h4⟩ := rinv (α := List UInt8) [] (fun c x => c = [str x]) (fun x => x.length + 1) Tryz.underlying40 h hf (fun c d hs hf => str_of hs hf)
  refine ⟨A, c, l, h1, h2, ?_, h4⟩
  have h5 := rd_of (w := w) (A := A) (l := l) (fun x => [str x]) (k := 1) (by omega) (fun _ => rfl) [] (fun i hi => by
    obtain ⟨p, ecs, e1, e2, e3, e4⟩ := h3 i hi
    rw [co1] at e2 e3
    exact ⟨p, ecs, e1, e2, e3, e4⟩)
  rw [flat_single] at h5; exact h5
theorem props_of {cs : List Value} {d : DataW H} (h : Sees Tryz.prog w 41 cs d) (hf : Fits Tryz.prog 41 d) : ∃ (A : Option Addr) (c : Nat) (l : List Pr), cs = [.slice A l.length c] ∧ l.length ≤ c ∧ Rd w 5 A l.length (propsC l) ∧ (∀ p ∈ l, p.2.Ok) ∧ szP l + 1 ≤ Rows.uptoBulk d := by
  obtain ⟨A, c, l, h1, h2, h3, h4⟩ := rinv (α := Pr) pr0 (fun c p => c = propC p ∧ p.2.Ok) (fun p => p.1.length + p.2.s.length + 1) Tryz.underlying41 h hf (fun c d hs hf => prop_of hs hf)
  refine ⟨A, c, l, h1, h2, ?_, fun p hp => ?_, h4⟩
  · exact rd_of (w := w) (A := A) (l := l) propC (k := 5) (by omega) propC_len pr0 (fun i hi => by
      obtain ⟨p, ecs, e1, e2, e3, e4, _⟩ := h3 i hi
      rw [co4] at e2 e3
      exact ⟨p, ecs, e1, e2, e3, e4⟩)
  · obtain ⟨i, hi, rfl⟩ := List.getElem_of_mem hp
    obtain ⟨_, _, _, _, _, _, e5⟩ := h3 i hi
    rw [getD_at pr0 hi] at e5; exact e5
theorem node_of {cs : List Value} {d : DataW H} (h : Sees Tryz.prog w 43 cs d) (hf : Fits Tryz.prog 43 d) : ∃ x : ND, (NodeC (fun _ => True) w cs x ∧ ∀ p ∈ x.ps, p.2.Ok) ∧ szN x ≤ Rows.uptoBulk d := by
  obtain ⟨parts, rfl, hp, hl, hs⟩ := sinv Tryz.underlying43 h hf
  rw [co6] at hl
  obtain ⟨x0, x1, x2, rfl⟩ := L3 hl
  obtain ⟨d0, d1, d2, rfl⟩ := L3 (show parts.length = 3 from hp)
  obtain ⟨s0, g0⟩ := hs 0 _ _ _ d0 rfl co1 rfl
  obtain ⟨s1, g1⟩ := hs 1 _ _ _ d1 rfl co2 rfl
  obtain ⟨s2, g2⟩ := hs 2 _ _ _ d2 rfl co5 rfl
  obtain ⟨n, e0, b0⟩ := str_of s0 g0
  obtain ⟨A, c, ls, e1, l1, r1, b1⟩ := labels_of s1 g1
  obtain ⟨B, e, ps, e2, l2, r2, o2, b2⟩ := props_of s2 g2
  have e0' : x0 = str n := by simpa using e0
  have e1' : x1 = .slice A ls.length c := by simpa using e1
  have e2' : x2 = .slice B ps.length e := by simpa using e2
  subst e0'; subst e1'; subst e2'
  refine ⟨⟨n, ls, ps⟩, ⟨⟨A, c, B, e, rfl, l1, l2, r1, r2, fun _ _ => trivial, fun _ _ => trivial⟩, o2⟩, ?_⟩
  simp only [Rows.uptoBulk, Rows.uptoBulkAll]; show n.length + szL ls + szP ps + 1 ≤ _; omega
set_option maxRecDepth 20000 in
theorem edge_of {cs : List Value} {d : DataW H} (h : Sees Tryz.prog w 46 cs d) (hf : Fits Tryz.prog 46 d) : ∃ x : ED, (EdgeC (fun _ => True) w cs x ∧ ∀ p ∈ x.ps, p.2.Ok) ∧ szE x ≤ Rows.uptoBulk d := by
  obtain ⟨parts, rfl, hp, hl, hs⟩ := sinv Tryz.underlying46 h hf
  rw [co8] at hl
  obtain ⟨x0, x1, x2, x3, x4, x5, rfl⟩ := L6 hl
  obtain ⟨d0, d1, d2, d3, d4, d5, rfl⟩ := L6 (show parts.length = 6 from hp)
  obtain ⟨s0, g0⟩ := hs 0 _ _ _ d0 rfl co1 rfl
  obtain ⟨s1, g1⟩ := hs 1 _ _ _ d1 rfl coI rfl
  obtain ⟨s2, g2⟩ := hs 2 _ _ _ d2 rfl coI rfl
  obtain ⟨s3, g3⟩ := hs 3 _ _ _ d3 rfl coB rfl
  obtain ⟨s4, g4⟩ := hs 4 _ _ _ d4 rfl co2 rfl
  obtain ⟨s5, g5⟩ := hs 5 _ _ _ d5 rfl co5 rfl
  obtain ⟨n, e0, b0⟩ := str_of s0 g0
  obtain ⟨fr, e1, _, _⟩ := s1.int_inv Tryz.underlying3
  obtain ⟨tw, e2, _, _⟩ := s2.int_inv Tryz.underlying3
  obtain ⟨dir, e3, _⟩ := s3.bool_inv Tryz.underlying4
  obtain ⟨A, c, ls, e4, l1, r1, b1⟩ := labels_of s4 g4
  obtain ⟨B, e, ps, e5, l2, r2, o2, b2⟩ := props_of s5 g5
  have e0' : x0 = str n := by simpa using e0
  have e1' : x1 = .int .i64 fr := by simpa using e1
  have e2' : x2 = .int .i64 tw := by simpa using e2
  have e3' : x3 = .bool dir := by simpa using e3
  have e4' : x4 = .slice A ls.length c := by simpa using e4
  have e5' : x5 = .slice B ps.length e := by simpa using e5
  subst e0'; subst e1'; subst e2'; subst e3'; subst e4'; subst e5'
  refine ⟨⟨n, fr, tw, dir, ls, ps⟩, ⟨⟨A, c, B, e, rfl, l1, l2, r1, r2, fun _ _ => trivial, fun _ _ => trivial⟩, o2⟩, ?_⟩
  simp only [Rows.uptoBulk, Rows.uptoBulkAll]; show n.length + szL ls + szP ps + 1 ≤ _; omega
set_option maxRecDepth 20000 in
theorem open_graph {v : Value} {r : Reach} {b0 : Nat} {d : DataW H} (hval : Value.okWide Tryz.prog w r b0 27 v) (h : Sees Tryz.prog w 27 v.cells.toList d) (hf : Fits Tryz.prog 27 d) :
    ∃ (A : Option Addr) (c : Nat) (B : Option Addr) (e : Nat) (g : GV), v = .agg #[.slice A g.ns.length c, .slice B g.es.length e] ∧ GAt (fun _ => True) w A c B e g ∧ szG g ≤ Rows.uptoBulk d := by
  obtain ⟨cs, rfl, hsz⟩ := okWide_struct Tryz.underlying27 hval
  have hcl : (Value.agg cs).cells.toList = cs.toList := rfl
  rw [hcl] at h
  obtain ⟨parts, rfl, hp, hl, hs⟩ := sinv Tryz.underlying27 h hf
  rw [coA] at hl
  obtain ⟨x0, x1, hc⟩ := L2 hl
  rw [hc] at hs
  obtain ⟨d0, d1, rfl⟩ := L2 (show parts.length = 2 from hp)
  obtain ⟨s0, g0⟩ := hs 0 _ _ _ d0 rfl co7 rfl
  obtain ⟨s1, g1⟩ := hs 1 _ _ _ d1 rfl co9 rfl
  obtain ⟨A, c, ns, e0, l0, r0, b0⟩ := rinv (α := ND) nd0 (fun c x => NodeC (fun _ => True) w c x ∧ ∀ p ∈ x.ps, p.2.Ok) szN Tryz.underlying24 s0 g0 (fun c d hs hf => node_of hs hf)
  obtain ⟨B, e, es, e1, l1, r1, b1⟩ := rinv (α := ED) ed0 (fun c x => EdgeC (fun _ => True) w c x ∧ ∀ p ∈ x.ps, p.2.Ok) szE Tryz.underlying25 s1 g1 (fun c d hs hf => edge_of hs hf)
  have e0' : x0 = .slice A ns.length c := by simpa using e0
  have e1' : x1 = .slice B es.length e := by simpa using e1
  refine ⟨A, c, B, e, ⟨ns, es⟩, ?_, ⟨l0, l1, fun i hi => ?_, fun i hi => ?_, fun x hx => ?_, fun x hx => ?_⟩, ?_⟩
  · congr 1; apply Array.ext'; rw [hc, e0', e1']
  · obtain ⟨p, ecs, h1, h2, h3, h4, _⟩ := r0 i hi
    rw [co6] at h2 h3
    exact ⟨p, ecs, h1, h2, h3, h4⟩
  · obtain ⟨p, ecs, h1, h2, h3, h4, _⟩ := r1 i hi
    rw [co8] at h2 h3
    exact ⟨p, ecs, h1, h2, h3, h4⟩
  · obtain ⟨i, hi, rfl⟩ := List.getElem_of_mem hx
    obtain ⟨_, _, _, _, _, _, e5⟩ := r0 i hi
    rw [getD_at nd0 hi] at e5; exact e5
  · obtain ⟨i, hi, rfl⟩ := List.getElem_of_mem hx
    obtain ⟨_, _, _, _, _, _, e5⟩ := r1 i hi
    rw [getD_at ed0 hi] at e5; exact e5
  · simp only [Rows.uptoBulk, Rows.uptoBulkAll]; show (ns.map szN).sum + (es.map szE).sum ≤ _; omega
end
end Go.Proofs.YtjmlknjbhbfneaaGreatDoor
