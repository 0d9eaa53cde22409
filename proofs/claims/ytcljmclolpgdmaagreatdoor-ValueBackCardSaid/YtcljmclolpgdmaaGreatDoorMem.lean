/- One lemma an operation: memory. -/
import Derived.Test.YtcljmclolpgdmaaGreatDoorOps
import Derived.Laws.Cells
import Derived.Laws.Tables
import Derived.Lib.ConvBytes
import Derived.Deep.Draws
import Derived.Lib.SlBytesConst
namespace Go.Bw
open Go.RowKit
set_option linter.unusedVariables false
set_option linter.unusedSimpArgs false

def u8s (l : List UInt8) : List Value := l.map fun c => .int .u8 c.toNat
/-- a slice value's n elements of sz cells each are these cells -/
def Rd (w : World) (sz : Nat) (A : Option Addr) (n : Nat) (xs : List Value) : Prop :=
  xs.length = n * sz ∧ (0 < xs.length → ∃ p, A = some p ∧ ∀ (j : Nat) (u : Value), xs[j]? = some u → w.cell? (p.add j) = some u)

theorem block_lt {w : World} {p : Addr} {v : Value} (h : w.cell? p = some v) : p.block < w.heap.size := World.block_lt_of_cell? w _ h
theorem cell_below {w w' : World} (hb : Below w.heap.size w w') {p : Addr} {v : Value} (h : w.cell? p = some v) : w'.cell? p = some v := (hb.cell (block_lt h)).trans h
theorem Rd.below {w w' : World} {sz : Nat} {A : Option Addr} {n : Nat} {xs : List Value} (h : Rd w sz A n xs) (hb : Below w.heap.size w w') : Rd w' sz A n xs :=
  ⟨h.1, fun hn => let ⟨p, e, hc⟩ := h.2 hn; ⟨p, e, fun j u hu => cell_below hb (hc j u hu)⟩⟩
theorem Rd.nil (w : World) (sz : Nat) (A : Option Addr) : Rd w sz A 0 [] := ⟨by simp, fun h => absurd h (by simp)⟩
theorem addr_add_add (a : Addr) (i j : Nat) : (a.add i).add j = a.add (i + j) := by
  unfold Addr.add
  by_cases hi : i = 0 <;> by_cases hj : j = 0 <;> simp [hi, hj, Nat.add_assoc]
theorem Rd.take {w : World} {sz : Nat} {A : Option Addr} {n m : Nat} {xs : List Value} (h : Rd w sz A n xs) (hm : m ≤ n) : Rd w sz A m (xs.take (m * sz)) := by
  have hle : m * sz ≤ n * sz := Nat.mul_le_mul_right sz hm
  refine ⟨by rw [List.length_take, h.1]; omega, fun hn => ?_⟩
  have hx : 0 < xs.length := by rw [List.length_take] at hn; omega
  obtain ⟨p, e, hc⟩ := h.2 hx
  refine ⟨p, e, fun j u hu => hc j u ?_⟩
  rw [List.getElem?_take] at hu
  split at hu
  · exact hu
  · cases hu
theorem Rd.drop {w : World} {sz : Nat} {A : Option Addr} {n m c : Nat} {xs : List Value} (h : Rd w sz A n xs) (hm : m ≤ n) (hc : n ≤ c) : Rd w sz (if c = m then A else A.map (·.add (m * sz))) (n - m) (xs.drop (m * sz)) := by
  refine ⟨by rw [List.length_drop, h.1, Nat.sub_mul], fun hn => ?_⟩
  rw [List.length_drop, h.1] at hn
  have hlt : m < n := by
    rcases Nat.lt_or_ge m n with h1 | h1
    · exact h1
    · have := Nat.mul_le_mul_right sz h1; omega
  obtain ⟨p, rfl, hcell⟩ := h.2 (by rw [h.1]; omega)
  rw [if_neg (by omega)]
  refine ⟨p.add (m * sz), rfl, fun j u hu => ?_⟩
  rw [addr_add_add]
  rw [List.getElem?_drop] at hu
  exact hcell _ u hu
theorem Rd.one {w : World} {A : Option Addr} {n : Nat} {xs : List Value} (h : Rd w 1 A n xs) {i : Nat} (hi : i < n) : ∃ p v, A = some p ∧ xs[i]? = some v ∧ w.cell? (p.add i) = some v := by
  have hl : i < xs.length := by rw [h.1]; omega
  obtain ⟨p, e, hc⟩ := h.2 (by omega)
  exact ⟨p, xs[i], e, List.getElem?_eq_getElem hl, hc i _ (List.getElem?_eq_getElem hl)⟩
theorem at1 {w : World} {p : Addr} {k : Nat} {v : Value} (h : w.cell? (p.add k) = some v) : w.cell? (p.add ((k : Int).toNat * 1)) = some v := by rw [Int.toNat_natCast, Nat.mul_one]; exact h
theorem Rd.of_own {w : World} {base : Nat} {e : TypeId} {sz n c : Nat} {A : Option Addr} {xs : List Value} (h : w.ownsRow base e sz (.slice A n c) n xs) : Rd w sz A n xs := by
  refine ⟨h.1, fun hn => ?_⟩
  rcases h.2 with ⟨hv, h0⟩ | ⟨g, cap, cur, hv, hg, hh, hnc, hcm, hcs, hx⟩
  · have := h.1; rw [h0] at this; omega
  · injection hv with hA h2 h3
    subst hA
    refine ⟨_, rfl, fun j u hu => ?_⟩
    have hadd : (⟨g, 0, none⟩ : Addr).add j = ⟨g, j, none⟩ := by unfold Addr.add; split <;> simp_all
    rw [hadd]
    rw [← hx, List.getElem?_take] at hu
    split at hu
    · simp only [World.cell?, hh]
      simpa using hu
    · cases hu

section
variable {P : Program} {N : Nat} {D : List Deferred} {env env' : Env} {a : Act} {w w' : World} {Q : Exit → Act → World → Prop}
variable {ops : Array Oper} {rest : List Oper} {d : Nat} {op : Op} {ty : TypeId} {pos : String} {af : Array Edge}

/-! ### boxes -/
theorem m_box {x : Operand} {v : Value} {e : TypeId} (hx : ev env x = some v) : Mk P N D env w (.box e x) ty (.pointer (some ⟨w.heap.size, 0, none⟩)) (w.alloc (.cells v.cells e)) := fun a ha dst pos af g => by
  simp [execOp, ha.eval hx, Instr.box, newVar, newRow]
/-- one cell -/
def One (P : Program) (t : TypeId) : Prop := ∃ d, P.underlying t = some d ∧ (match d with | .struct _ | .array _ _ => false | _ => true) = true ∧ (P.info? t).map (·.size) = some 1
theorem run_isAgg_one {t : TypeId} (ht : One P t) (w : World) : (isAgg t).run P w = .ok false w := by
  obtain ⟨d, h1, h2, h3⟩ := ht
  cases d <;> simp_all [isAgg, run_underlying h1]
theorem run_loadVar_one {t : TypeId} {p : Addr} {v : Value} (ht : One P t) (hc : w.cell? p = some v) : (loadVar t p).run P w = .ok v w := by
  simp [loadVar, run_isAgg_one ht, hc]
theorem l_load {x : Operand} {t : TypeId} {p : Addr} {v : Value} (ht : One P t) (hx : ev env x = some (.pointer (some p))) (hc : w.cell? p = some v) : Ld P N D env w (.load t x) ty v := fun a ha dst pos af g => by
  simp [execOp, ha.eval hx, Instr.loadAt, Instr.sureAddr, run_loadVar_one ht hc]
theorem s_store {x y : Operand} {t : TypeId} {p : Addr} {u v : Value} (ht : One P t) (hx : ev env x = some (.pointer (some p))) (hy : ev env y = some v) (h1 : v.oneCell' = true) (hc : w.cell? p = some u) (hf : w.frozen? p = false) : St P N D env w (.store t x y) ty (w.setCell p v) := fun a ha dst pos af g => by
  obtain ⟨dd, h2, h3, h4⟩ := ht
  have hcs : v.cells = #[v] := by cases v <;> simp_all [Value.cells, Value.oneCell']
  obtain ⟨i, hi, hs⟩ := Option.map_eq_some_iff.1 h4
  have h5 : (sizeOf t).run P w = .ok 1 w := by simp [sizeOf, typeInfo, hi, hs]
  have h6 : p.add 0 = p := by simp [Addr.add]
  simp [execOp, ha.eval hx, ha.eval hy, Instr.storeAt, Instr.sureAddr, storeVar, hcs, h5, storeCells, h6, run_store P w p v _ h1, stored, hc, hf]
/-- a struct read whole -/
theorem l_loadS {x : Operand} {t : TypeId} {p : Addr} {cs : List Value} {f : Array Field} (ht : P.underlying t = some (.struct f)) (hs : (P.info? t).map (·.size) = some cs.length) (hx : ev env x = some (.pointer (some p))) (hc : ∀ (j : Nat) (u : Value), cs[j]? = some u → w.cell? (p.add j) = some u) : Ld P N D env w (.load t x) ty (.agg cs.toArray) := fun a ha dst pos af g => by
  obtain ⟨i, hi, hsz⟩ := Option.map_eq_some_iff.1 hs
  have h5 : (sizeOf t).run P w = .ok cs.length w := by simp [sizeOf, typeInfo, hi, hsz]
  have h6 := run_loadCells_list (P := P) w p cs hc
  simp [execOp, ha.eval hx, Instr.loadAt, Instr.sureAddr, loadVar, isAgg, run_underlying ht, h5, h6]

/-! ### rows -/
theorem y_indexAddr {x i : Operand} {t e : TypeId} {sz : Nat} {p : Addr} {n c : Nat} {k : IntKind} {m : Int} (ht : P.underlying t = some (.slice e)) (hs : (P.info? e).map (·.size) = some sz) (hx : ev env x = some (.slice (some p) n c)) (hi : ev env i = some (.int k m)) (h0 : 0 ≤ m) (h1 : m < n) :
    Yl P N D env (.indexAddr t x i) ty (.pointer (some (p.add (m.toNat * sz)))) := fun a ha w dst pos af g => by
  obtain ⟨ie, hi2, hsz⟩ := Option.map_eq_some_iff.1 hs
  have h5 : ∀ w, (sizeOf e).run P w = .ok sz w := fun w => by simp [sizeOf, typeInfo, hi2, hsz]
  simp [execOp, Instr.indexAt, ha.eval hx, ha.eval hi, asIntOf, run_underlying ht, h0, h1, h5]
/-- x[lo:hi] of a row -/
theorem run_sizeOf {e : TypeId} {sz : Nat} (hs : (P.info? e).map (·.size) = some sz) (w : World) : (sizeOf e).run P w = .ok sz w := by
  obtain ⟨ie, hi2, hsz⟩ := Option.map_eq_some_iff.1 hs
  simp [sizeOf, typeInfo, hi2, hsz]
theorem y_slicelH {x j : Operand} {A : Option Addr} {n c : Nat} {k : IntKind} {m : Int} {t e : TypeId} {sz : Nat} (ht : P.underlying t = some (.slice e)) (hs : (P.info? e).map (·.size) = some sz) (hx : ev env x = some (.slice A n c)) (hj : ev env j = some (.int k m)) (h0 : 0 ≤ m) (h1 : m ≤ c) :
    Yl P N D env (.slice t x none (some j) none) ty (.slice A m.toNat c) := fun a ha w dst pos af g => by
  have hA : (A.map fun x => x.add 0) = A := by cases A <;> simp [Addr.add]
  simp [execOp, Instr.sliceAt, Instr.slice, Instr.sliceBounds, ha.eval hx, ha.eval hj, run_underlying ht, run_sliceBound h0 h1, run_sizeOf hs, hA]
theorem y_sliceAH {x j : Operand} {p : Addr} {k : IntKind} {m : Int} {t e : TypeId} {sz len : Nat} (ht : P.underlying t = some (.array len e)) (hs : (P.info? e).map (·.size) = some sz) (hx : ev env x = some (.pointer (some p))) (hj : ev env j = some (.int k m)) (h0 : 0 ≤ m) (h1 : m ≤ len) :
    Yl P N D env (.slice t x none (some j) none) ty (.slice (some p) m.toNat len) := fun a ha w dst pos af g => by
  have hA : p.add 0 = p := by simp [Addr.add]
  simp [execOp, Instr.sliceAt, Instr.sureAddr, Instr.sliceBounds, ha.eval hx, ha.eval hj, run_underlying ht, run_sliceBound h0 h1, run_sizeOf hs, hA]
theorem y_slicelL {x i : Operand} {A : Option Addr} {n c : Nat} {k : IntKind} {m : Int} {t e : TypeId} {sz : Nat} (ht : P.underlying t = some (.slice e)) (hs : (P.info? e).map (·.size) = some sz) (hx : ev env x = some (.slice A n c)) (hi : ev env i = some (.int k m)) (h0 : 0 ≤ m) (h1 : m ≤ n) :
    Yl P N D env (.slice t x (some i) none none) ty (.slice (if c = m.toNat then A else A.map (·.add (m.toNat * sz))) (n - m.toNat) (c - m.toNat)) := fun a ha w dst pos af g => by
  simp [execOp, Instr.sliceAt, Instr.slice, Instr.sliceBounds, ha.eval hx, ha.eval hi, run_underlying ht, run_sliceBound h0 h1, run_sizeOf hs]
theorem y_slicelLH {x i j : Operand} {A : Option Addr} {n c : Nat} {k k' : IntKind} {m m' : Int} {t e : TypeId} {sz : Nat} (ht : P.underlying t = some (.slice e)) (hs : (P.info? e).map (·.size) = some sz) (hx : ev env x = some (.slice A n c)) (hi : ev env i = some (.int k m)) (hj : ev env j = some (.int k' m')) (h0 : 0 ≤ m) (h1 : m ≤ m') (h2 : m' ≤ c) :
    Yl P N D env (.slice t x (some i) (some j) none) ty (.slice (if c = m.toNat then A else A.map (·.add (m.toNat * sz))) (m'.toNat - m.toNat) (c - m.toNat)) := fun a ha w dst pos af g => by
  have h3 : m ≤ (m'.toNat : Int) := by omega
  have h4 : 0 ≤ m' := by omega
  simp [execOp, Instr.sliceAt, Instr.slice, Instr.sliceBounds, ha.eval hx, ha.eval hi, ha.eval hj, run_underlying ht, run_sliceBound h0 h3, run_sliceBound h4 h2, run_sizeOf hs]

/-- append to a row of the call's own -/
theorem Wl.append {x y : Operand} {t e : TypeId} {z : Value} {sz bytes : Nat} (ht : P.underlying t = some (.slice e)) (hi : (P.info? e).map (fun i => (i.zero, i.size, i.bytes)) = some (some z, sz, bytes)) (hz : z.cells.size = sz) (hsz : 0 < sz)
    (base : Nat) {v : Value} {n : Nat} {xs : List Value} (hx : ev env x = some v) (hown : w.ownsRow base e sz v n xs)
    {A : Option Addr} {m c : Nat} {news : List Value} (hy : ev env y = some (.slice A m c)) (hr : Rd w sz A m news) (h1 : ∀ u ∈ news, u.oneCell' = true)
    (h63 : n + m ≤ maxLen) (hbytes : (n + m) * bytes ≤ 140737488355328) (hbase : base ≤ w.heap.size) (hd : Nat.blt d N = true)
    (h : ∀ v' w', w'.ownsRow base e sz v' (n + m) (xs ++ news) → w.grownBy w' v.ownBlock → (v'.ownBlock = v.ownBlock ∨ v'.ownBlock = some w.heap.size) → Wl P ops Q rest N D ((d, v') :: env) w') :
    Wl P ops Q (⟨some d, .call ⟨.builtin .append, #[x, y], #[t, t]⟩, ty, pos, af, none⟩ :: rest) N D env w := by
  obtain ⟨i, hi0, hi1⟩ := Option.map_eq_some_iff.1 hi
  simp only [Prod.mk.injEq] at hi1
  obtain ⟨hz0, hs0, hb0⟩ := hi1
  have key : ∃ v' w', (Builtin.append_ #[t, t] ty #[v, .slice A m c]).run P w = .ok v' w' ∧ w'.ownsRow base e sz v' (n + m) (xs ++ news) ∧ w.grownBy w' v.ownBlock ∧ (v'.ownBlock = v.ownBlock ∨ v'.ownBlock = some w.heap.size) := by
    rcases Nat.eq_zero_or_pos news.length with h0 | h0
    · have hm : m = 0 := by
        have := hr.1; rw [h0] at this
        rcases Nat.eq_zero_or_pos m with e | e
        · exact e
        · have := Nat.mul_pos e hsz; omega
      subst hm
      have hn : news = [] := List.eq_nil_of_length_eq_zero h0
      subst hn
      cases A with
      | none =>
        refine ⟨v, w, ?_, by simpa using hown, World.grownBy.refl w _, .inl rfl⟩
        rcases hown.2 with ⟨rfl, rfl⟩ | ⟨g, cap, cur, rfl, _, _, hnc, _⟩
        · simp [Builtin.append_, run_underlying ht, sizeOf, typeInfo, hi0, Builtin.lenOf, Builtin.firstCells]
        · simp [Builtin.append_, run_underlying ht, sizeOf, typeInfo, hi0, Builtin.lenOf, Builtin.firstCells, hnc, storeCells]
      | some ad =>
        obtain ⟨v', w', hrun, h2, h3, _, h5⟩ := run_append_own_at (P := P) w base t ty e i z sz bytes ht hi0 hz0 hs0 hb0 hz hsz v n xs hown ad 0 c [] (by simp) (by simp) (by simp) h63 hbytes hbase
        exact ⟨v', w', hrun, h2, h3, h5⟩
    · obtain ⟨ad, rfl, hc⟩ := hr.2 h0
      obtain ⟨v', w', hrun, h2, h3, _, h5⟩ := run_append_own_at (P := P) w base t ty e i z sz bytes ht hi0 hz0 hs0 hb0 hz hsz v n xs hown ad m c news hr.1 hc h1 h63 hbytes hbase
      exact ⟨v', w', hrun, h2, h3, h5⟩
  obtain ⟨v', w', hrun, h2, h3, h4⟩ := key
  refine Wl.m (w' := w') (v := v') (fun a ha dst pos af g => ?_) hd (h v' w' h2 h3 h4)
  simp [execOp, resolve, invoke, builtin, ha.eval hx, ha.eval hy, hrun]
/-- a literal row; its parts in order -/
def litP : Nat → List Value → List (Nat × Value)
  | _, [] => []
  | i, v :: r => (i, v) :: litP (i + 1) r
theorem set_run : ∀ (cs : List Value) (k off : Nat) (C : Array Value), off + k + cs.length ≤ C.size →
    ((cs.zipIdx k).foldl (fun X (p : Value × Nat) => X.setIfInBounds (off + p.2) p.1) C).toList = C.toList.take (off + k) ++ cs ++ C.toList.drop (off + k + cs.length)
  | [], k, off, C, hl => by simp
  | c :: cs, k, off, C, hl => by
    simp only [List.length_cons] at hl
    have hlt : off + k < C.toList.length := by simp; omega
    rw [List.zipIdx_cons, List.foldl_cons, set_run cs (k + 1) off _ (by simp; omega)]
    simp only [Array.toList_setIfInBounds]
    have h1 : (C.toList.set (off + k) c).take (off + (k + 1)) = C.toList.take (off + k) ++ [c] := by
      rw [show off + (k + 1) = off + k + 1 by omega, List.take_succ_eq_append_getElem (by simpa using hlt), List.take_set_of_le (Nat.le_refl _)]
      simp
    have h2 : (C.toList.set (off + k) c).drop (off + (k + 1) + cs.length) = C.toList.drop (off + k + (c :: cs).length) := by
      rw [List.drop_set_of_lt (by omega)]
      congr 1; simp; omega
    rw [h1, h2]
    simp
theorem fill_lit {sz : Nat} : ∀ (vs : List Value) (i : Nat) (C : Array Value), (∀ v ∈ vs, v.cells.size = sz) → (i + vs.length) * sz ≤ C.size →
    ∃ C' : Array Value, Instr.fill (fun i => some (i * sz, sz)) C (litP i vs) = some C' ∧ C'.size = C.size ∧ C'.toList = C.toList.take (i * sz) ++ (vs.flatMap fun v => v.cells.toList) ++ C.toList.drop ((i + vs.length) * sz)
  | [], i, C, _, _ => ⟨C, by simp [litP, Instr.fill], rfl, by simp⟩
  | v :: vs, i, C, hv, hl => by
    have h1 : v.cells.size = sz := hv v (by simp)
    simp only [List.length_cons] at hl
    have e1 : (i + (vs.length + 1)) * sz = i * sz + sz + vs.length * sz := by rw [Nat.add_mul, Nat.add_mul]; omega
    have hb : i * sz + v.cells.size ≤ C.size := by
      have := Nat.zero_le (vs.length * sz); omega
    obtain ⟨C1, hC1⟩ : ∃ C1 : Array Value, C1 = (v.cells.zipIdx.foldl (fun cs (c, j) => cs.setIfInBounds (i * sz + j) c) C) := ⟨_, rfl⟩
    have hL : C1.toList = C.toList.take (i * sz) ++ v.cells.toList ++ C.toList.drop (i * sz + v.cells.toList.length) := by
      rw [hC1, ← Array.foldl_toList, Array.toList_zipIdx]
      have := set_run v.cells.toList 0 (i * sz) C (by simpa using hb)
      simpa using this
    have hS : C1.size = C.size := by
      have h2 := congrArg List.length hL
      simp only [List.length_append, List.length_take, List.length_drop, Array.length_toList] at h2
      omega
    obtain ⟨C', h3, h4, h5⟩ := fill_lit vs (i + 1) C1 (fun u hu => hv u (List.mem_cons_of_mem _ hu)) (by rw [hS, show i + 1 + vs.length = i + (vs.length + 1) by omega]; exact hl)
    refine ⟨C', ?_, h4.trans hS, ?_⟩
    · show Instr.fill _ C ((i, v) :: litP (i + 1) vs) = some C'
      unfold Instr.fill
      have hcond : ((decide (v.cells.size ≠ sz)) || decide (i * sz + v.cells.size > C.size)) = false := by simp [h1]; omega
      simp only [hcond, ← hC1]
      simpa using h3
    · rw [h5, hL, show i + 1 + vs.length = i + (vs.length + 1) by omega]
      have hlen : (C.toList.take (i * sz) ++ v.cells.toList).length = (i + 1) * sz := by
        simp only [List.length_append, List.length_take, Array.length_toList]; rw [Nat.add_mul]; omega
      rw [List.take_append_of_le_length (by rw [hlen]; exact Nat.le_refl _), List.take_of_length_le (by rw [hlen]; exact Nat.le_refl _)]
      rw [List.drop_append, List.drop_of_length_le (by rw [hlen, e1, Nat.add_mul]; omega), List.drop_drop, hlen]
      simp only [List.flatMap_cons, List.append_assoc, List.nil_append, List.length_cons]
      congr 3
      rw [Array.length_toList, h1, e1, Nat.add_mul, Nat.one_mul]
      congr 1
      omega
theorem m_lit {t e : TypeId} {ln sz : Nat} {parts : Array (Nat × Operand)} {ps : List (Nat × Value)} {vs : List Value} (ht : P.underlying t = some (.slice e)) (hi : (P.info? e).map (fun i => (i.zero.isSome, i.size)) = some (true, sz))
    (hp : evp env parts.toList = some ps) (hl : ps = litP 0 vs) (hv : (vs.all fun v => Nat.beq v.cells.size sz) = true) (hn : Nat.beq vs.length ln = true) (hb : Nat.ble (ln * sz) 16777216 = true) :
    Mk P N D env w (.buildSlice t ln parts) ty (.slice (some ⟨w.heap.size, 0, none⟩) ln ln) (w.alloc (.cells (vs.flatMap fun v => v.cells.toList).toArray e)) := fun a ha dst pos af g => by
  have h0 := evp_arr ha hp
  have hln : vs.length = ln := beq_eq hn
  obtain ⟨i, hi1, hi2⟩ := Option.map_eq_some_iff.1 hi
  simp only [Prod.mk.injEq] at hi2
  obtain ⟨hz, hsz⟩ := hi2
  obtain ⟨z, hz⟩ := Option.isSome_iff_exists.1 hz
  have hs : ∀ w : World, (sizeOf e).run P w = .ok sz w := fun w => by simp [sizeOf, typeInfo, hi1, hsz]
  have hzr : ∀ w : World, (zeroValue e).run P w = .ok z w := fun w => by simp [zeroValue, typeInfo, hi1, hz]
  have hb' : ¬ (ln * sz > 2 ^ 24) := by have := Nat.le_of_ble_eq_true hb; omega
  have hv' : ∀ v ∈ vs, v.cells.size = sz := fun v hm => beq_eq (List.all_eq_true.1 hv v hm)
  subst hl
  have key : ∀ C : Array Value, C.size = ln * sz → Instr.fill (fun i => some (i * sz, sz)) C (litP 0 vs) = some (vs.flatMap fun v => v.cells.toList).toArray := fun C hC => by
    obtain ⟨C', h1, h2, h3⟩ := fill_lit vs 0 C hv' (by rw [hC, Nat.zero_add, hln]; exact Nat.le_refl _)
    rw [h1]
    congr 1
    apply Array.ext'
    rw [h3, Nat.zero_add, hln]
    have : C.toList.drop (ln * sz) = [] := List.drop_of_length_le (by simp [hC])
    simp [this]
  by_cases h0' : ln * sz = 0
  · simp only [execOp, h0]
    simp [Instr.buildSlice, run_underlying ht, hs, hb', h0', newRow, Array.range_zero']
    rw [key #[] (by simp [h0'])]
    simp
  · simp only [execOp, h0]
    simp [Instr.buildSlice, run_underlying ht, hs, hb', h0', newRow, hzr]
    rw [key _ (by simp)]
    simp
/-- .. of no elements -/
theorem m_lit0 {t e : TypeId} (ht : P.underlying t = some (.slice e)) (hs : ((P.info? e).map (·.size)).isSome = true) : Mk P N D env w (.buildSlice t 0 #[]) ty (.slice (some ⟨w.heap.size, 0, none⟩) 0 0) (w.alloc (.cells #[] e)) := fun a ha dst pos af g => by
  obtain ⟨sz, hsz⟩ := Option.isSome_iff_exists.1 hs
  simp [execOp, Instr.buildSlice, run_underlying ht, run_sizeOf hsz, Instr.fill, newRow, Array.range_zero']
theorem own_lit (w : World) (cs : Array Value) (e : TypeId) (n sz base : Nat) (hb : base ≤ w.heap.size) (hm : n ≤ maxLen) (hs : cs.size = n * sz) : (w.alloc (.cells cs e)).ownsRow base e sz (.slice (some ⟨w.heap.size, 0, none⟩) n n) n cs.toList := World.ownsRow_lit w cs n hb hm hs
theorem own_nil (w : World) (base : Nat) (e : TypeId) (sz : Nat) : w.ownsRow base e sz (.slice none 0 0) 0 [] := ⟨by simp, .inl ⟨rfl, rfl⟩⟩

theorem own_form {base : Nat} {e : TypeId} {sz n : Nat} {v : Value} {xs : List Value} (h : w.ownsRow base e sz v n xs) : ∃ A c, v = .slice A n c ∧ n ≤ c ∧ n ≤ maxLen := by
  rcases h.2 with ⟨rfl, rfl⟩ | ⟨g, cap, cur, rfl, _, _, h1, h2, _⟩
  · exact ⟨_, _, rfl, Nat.le_refl _, Nat.zero_le _⟩
  · exact ⟨_, _, rfl, h1, Nat.le_trans h1 h2⟩
theorem own_ge {base : Nat} {e : TypeId} {sz n : Nat} {v : Value} {xs : List Value} (h : w.ownsRow base e sz v n xs) (k : Nat) (hk : v.ownBlock = some k) : base ≤ k ∧ k < w.heap.size := by
  rcases h.2 with ⟨rfl, rfl⟩ | ⟨g, cap, cur, rfl, h1, h2, _⟩
  · cases hk
  · cases hk
    refine ⟨h1, ?_⟩
    rcases Nat.lt_or_ge g w.heap.size with h | h
    · exact h
    · rw [Array.getElem?_eq_none h] at h2; cases h2
theorem below_grown {base e sz n : Nat} {w0 : World} {v : Value} {xs : List Value} (hb : Below base w0 w) (h : w.ownsRow base e sz v n xs) (hs : base ≤ w.heap.size) (hg : w.grownBy w' v.ownBlock) : Below base w0 w' :=
  hb.grown hg hs fun k hk => (own_ge h k hk).1
theorem own_below {base : Nat} {e : TypeId} {sz n : Nat} {v : Value} {xs : List Value} (h : w.ownsRow base e sz v n xs) (hb : Below w.heap.size w w') : w'.ownsRow base e sz v n xs := by
  obtain ⟨h1, h2⟩ := h
  refine ⟨h1, ?_⟩
  rcases h2 with h2 | ⟨g, cap, cur, hv, hg, hh, r⟩
  · exact .inl h2
  · refine .inr ⟨g, cap, cur, hv, hg, ?_, r⟩
    have hlt : g < w.heap.size := by
      rcases Nat.lt_or_ge g w.heap.size with h | h
      · exact h
      · rw [Array.getElem?_eq_none h] at hh; cases hh
    exact (hb.block g hlt).trans hh
/-! ### bytes and texts -/
theorem u8s_take (l : List UInt8) (k : Nat) : (u8s l).take k = u8s (l.take k) := by simp [u8s]
theorem Rd.takeB {w : World} {A : Option Addr} {n m : Nat} {l : List UInt8} (h : Rd w 1 A n (u8s l)) (hm : m ≤ n) : Rd w 1 A m (u8s (l.take m)) := by
  have := h.take hm; rwa [Nat.mul_one, u8s_take] at this
theorem m_constBytes {w0 : World} {x : Operand} {t e : TypeId} {C : Array Value} {n c : Nat} (ht : P.underlying t = some (.slice e)) (he : P.underlying e = some (.int .u8)) (hx : ev env x = some (.slice (some ⟨w0.heap.size, 0, none⟩) n c)) :
    Mk P N D env (w0.alloc (.cells C e)) (.convert t t x) ty (.slice (some ⟨w0.heap.size, 0, none⟩) n c) (w0.alloc (.cells C e (C.size, C.size + 1))) := fun a ha dst pos af g => by
  simp [execOp, ha.eval hx, Lib.run_convert_bytes_const w0 t e C n c ht he]
theorem u8s_length (l : List UInt8) : (u8s l).length = l.length := by simp [u8s]
theorem u8s_append (l m : List UInt8) : u8s (l ++ m) = u8s l ++ u8s m := by simp [u8s]
theorem u8s_one (l : List UInt8) : ∀ u ∈ u8s l, u.oneCell' = true := by
  intro u hu; simp only [u8s, List.mem_map] at hu; obtain ⟨c, _, rfl⟩ := hu; rfl
theorem l_str {x : Operand} {t s e : TypeId} {A : Option Addr} {n c : Nat} {l : List UInt8} (ht : P.underlying t = some (.slice e)) (he : P.underlying e = some (.int .u8)) (hs : P.underlying s = some .string) (hx : ev env x = some (.slice A n c)) (hr : Rd w 1 A n (u8s l)) : Ld P N D env w (.convert t s x) ty (str l) := fun a ha dst pos af g => by
  have hn : n = l.length := by have := hr.1; rw [u8s_length] at this; omega
  subst hn
  have key : (convert t s (.slice A l.length c)).run P w = .ok (str l) w := by
    rw [run_convert_bytes_string w t s e A l.length c ht he hs]
    cases A with
    | none =>
      have : l = [] := by
        rcases Nat.eq_zero_or_pos l.length with h0 | h0
        · exact List.eq_nil_of_length_eq_zero h0
        · obtain ⟨p, e, _⟩ := hr.2 (by rw [u8s_length]; exact h0); cases e
      subst this
      simp [Conv.bytesToString, str, ByteArray.empty, ByteArray.emptyWithCapacity]; rfl
    | some p =>
      have hl : (loadCells p l.length).run P w = .ok ((l.map fun c => (c.toNat : Int)).map (Value.int .u8)).toArray w := by
        have h1 : (l.map fun c => (c.toNat : Int)).map (Value.int .u8) = u8s l := by simp [u8s]
        rw [h1]
        have := run_loadCells_list (P := P) w p (u8s l) (fun j v hj => by
          have hlt : 0 < (u8s l).length := by
            rcases Nat.lt_or_ge j (u8s l).length with h | h
            · omega
            · rw [List.getElem?_eq_none h] at hj; cases hj
          obtain ⟨p', e, hc⟩ := hr.2 hlt
          cases e
          exact hc j v hj)
        rwa [u8s_length] at this
      rw [run_bytesToString w p l.length c _ hl, foldl_push_bytes]
      have h2 : ((l.map fun c => (c.toNat : Int)).map fun n => UInt8.ofNat n.toNat) = l := by
        rw [List.map_map]
        conv => rhs; rw [← List.map_id l]
        apply List.map_congr_left
        intro c _
        simp
      rw [h2]
      simp [str, ByteArray.empty, ByteArray.emptyWithCapacity]
      rfl
  simp [execOp, ha.eval hx, key]
end
end Go.Bw
