/- One lemma an operation: structs, in boxes and by value; results that lie in memory; rows made whole. -/
import Derived.Test.YtcljmclolpgdmaaGreatDoorQuiet
import Derived.Laws.Tables
import Derived.Laws.CopyOwn
import Derived.Laws.StructEq
namespace Go.Bw
open Go.RowKit
set_option linter.unusedVariables false
set_option linter.unusedSimpArgs false

/-- block g is just these cells -/
def Blk (w : World) (g : Nat) (t : TypeId) (cs : List Value) : Prop := w.heap[g]? = some (.cells cs.toArray t (0, 0))
theorem Blk.lt {w : World} {g : Nat} {t : TypeId} {cs : List Value} (h : Blk w g t cs) : g < w.heap.size := by
  rcases Nat.lt_or_ge g w.heap.size with h1 | h1
  · exact h1
  · unfold Blk at h; rw [Array.getElem?_eq_none h1] at h; cases h
theorem Blk.new (w : World) (t : TypeId) (cs : List Value) : Blk (w.alloc (.cells cs.toArray t)) w.heap.size t cs := by
  unfold Blk; show (w.heap.push _)[w.heap.size]? = _; simp
theorem Blk.below {w w' : World} {g : Nat} {t : TypeId} {cs : List Value} (h : Blk w g t cs) (hb : Below w.heap.size w w') : Blk w' g t cs := (hb.block g h.lt).trans h
theorem Blk.alloc {w : World} {g : Nat} {t : TypeId} {cs : List Value} (h : Blk w g t cs) (o : Obj) : Blk (w.alloc o) g t cs := h.below ((Below.refl _ _).alloc (Nat.le_refl _) _)
theorem add_zero_off (g j : Nat) : (⟨g, 0, none⟩ : Addr).add j = ⟨g, j, none⟩ := by unfold Addr.add; split <;> simp_all
theorem Blk.cell {w : World} {g : Nat} {t : TypeId} {cs : List Value} (h : Blk w g t cs) (j : Nat) : w.cell? ⟨g, j, none⟩ = cs[j]? := by
  unfold Blk at h; simp [World.cell?, h]
theorem Blk.at {w : World} {g : Nat} {t : TypeId} {cs : List Value} (h : Blk w g t cs) {j : Nat} {v : Value} (hv : cs[j]? = some v) : w.cell? ((⟨g, 0, none⟩ : Addr).add j) = some v := by
  rw [add_zero_off, h.cell, hv]
theorem Blk.frozen {w : World} {g : Nat} {t : TypeId} {cs : List Value} (h : Blk w g t cs) (j : Nat) : w.frozen? ⟨g, j, none⟩ = false := by
  unfold Blk at h; simp [World.frozen?, h]
theorem Blk.grown {w w' : World} {g : Nat} {t : TypeId} {cs : List Value} (h : Blk w g t cs) {row : Option Nat} (hg : w.grownBy w' row) (hne : some g ≠ row) : Blk w' g t cs := (hg.block g h.lt hne).trans h
theorem Blk.setRow {w : World} {g : Nat} {t : TypeId} {cs cs' : List Value} (h : Blk w g t cs) : Blk (w.setRow g cs'.toArray) g t cs' := setRow_heap w g _ _ t _ h
theorem Blk.rd {w : World} {g : Nat} {t : TypeId} {cs : List Value} (h : Blk w g t cs) (n sz : Nat) (hl : cs.length = n * sz) : Rd w sz (some ⟨g, 0, none⟩) n cs := ⟨hl, fun _ => ⟨_, rfl, fun j u hu => h.at hu⟩⟩

section
variable {P : Program} {N : Nat} {D : List Deferred} {env env' : Env} {a : Act} {w w' : World} {Q : Exit → Act → World → Prop}
variable {ops : Array Oper} {rest : List Oper} {d : Nat} {op : Op} {ty : TypeId} {pos : String} {af : Array Edge}

theorem m_alloc {e : TypeId} {z : Value} (hz : (P.info? e).bind (·.zero) = some z) : Mk P N D env w (.alloc e) ty (.pointer (some ⟨w.heap.size, 0, none⟩)) (w.alloc (.cells z.cells e)) := fun a ha dst pos af g => by
  obtain ⟨i, hi, hz'⟩ := Option.bind_eq_some_iff.1 hz
  simp [execOp, Instr.alloc, zeroValue, typeInfo, hi, hz', newVar, newRow]
theorem s_storeS {x y : Operand} {t e : TypeId} {g : Nat} {old cs : List Value} (hs : (P.info? t).map (·.size) = some cs.length) (hx : ev env x = some (.pointer (some ⟨g, 0, none⟩))) (hy : ev env y = some (.agg cs.toArray)) (hb : Blk w g e old) (ho : old.length = cs.length) (h1 : cs.all (·.oneCell') = true) :
    St P N D env w (.store t x y) ty (w.setRow g cs.toArray) := fun a ha dst pos af g' => by
  have := run_storeVar_row (P := P) w g e t old.toArray cs.toArray hb (by simpa using hs) (by simpa using ho) (by simpa using h1)
  simp [execOp, ha.eval hx, ha.eval hy, Instr.storeAt, Instr.sureAddr, this]
theorem y_fieldAddr {x : Operand} {t : TypeId} {i : Nat} {p q : Addr} (hr : ∀ w, (Instr.fieldAt t (.pointer (some p)) i).run P w = .ok (.pointer (some q)) w) (hx : ev env x = some (.pointer (some p))) : Yl P N D env (.fieldAddr t x i) ty (.pointer (some q)) := fun a ha w dst pos af g => by
  simp [execOp, ha.eval hx, hr]
theorem run_fieldAt {t : TypeId} {fs : Array Field} {f : Field} {i sz : Nat} (ht : P.underlying t = some (.struct fs)) (hf : fs[i]? = some f) (hs : (P.info? f.type).map (·.size) = some (sz + 1)) (p : Addr) (w : World) : (Instr.fieldAt t (.pointer (some p)) i).run P w = .ok (.pointer (some (p.add f.offset))) w := by
  obtain ⟨ie, hi2, hsz⟩ := Option.map_eq_some_iff.1 hs
  simp [Instr.fieldAt, run_underlying ht, hf, Instr.sureAddr, fieldPlace, sizeOf, typeInfo, hi2, hsz]

/-- struct values -/
def put1 (cs : List Value) (off : Nat) (vs : List Value) : List Value := cs.take off ++ vs ++ cs.drop (off + vs.length)
def fillL (pl : List (Nat × Nat)) : List Value → List (Nat × Value) → List Value
  | cs, [] => cs
  | cs, (i, v) :: r => fillL pl (put1 cs (pl.getD i (0, 0)).1 v.cells.toList) r
def fitL (pl : List (Nat × Nat)) (n : Nat) : List (Nat × Value) → Bool
  | [] => true
  | (i, v) :: r => (Nat.blt i pl.length) && (Nat.beq v.cells.size (pl.getD i (0, 0)).2) && (Nat.ble ((pl.getD i (0, 0)).1 + v.cells.size) n) && fitL pl n r
theorem put1_length {cs vs : List Value} {off : Nat} (h : off + vs.length ≤ cs.length) : (put1 cs off vs).length = cs.length := by simp [put1]; omega
theorem fill_eq (pl : List (Nat × Nat)) : ∀ (ps : List (Nat × Value)) (cs : List Value), fitL pl cs.length ps = true → Instr.fill (pl.toArray[·]?) cs.toArray ps = some (fillL pl cs ps).toArray
  | [], cs, _ => rfl
  | (i, v) :: r, cs, h => by
    simp only [fitL, Bool.and_eq_true] at h
    obtain ⟨⟨⟨h1, h2⟩, h3⟩, h4⟩ := h
    have hi : i < pl.length := Nat.le_of_ble_eq_true h1
    have h2' := beq_eq h2
    have h3' := Nat.le_of_ble_eq_true h3
    have hg : pl.toArray[i]? = some (pl.getD i (0, 0)) := by simp [List.getD, hi]
    unfold Instr.fill
    rw [hg]
    have hcond : ((decide (v.cells.size ≠ (pl.getD i (0, 0)).2)) || decide ((pl.getD i (0, 0)).1 + v.cells.size > cs.toArray.size)) = false := by simp [h2'] at h3' ⊢; omega
    have hL : (v.cells.zipIdx.foldl (fun X (p : Value × Nat) => X.setIfInBounds ((pl.getD i (0, 0)).1 + p.2) p.1) cs.toArray) = (put1 cs (pl.getD i (0, 0)).1 v.cells.toList).toArray := by
      apply Array.ext'
      rw [← Array.foldl_toList, Array.toList_zipIdx]
      have := set_run v.cells.toList 0 (pl.getD i (0, 0)).1 cs.toArray (by simpa using h3')
      simpa [put1] using this
    generalize hpl : pl.getD i (0, 0) = q at *
    obtain ⟨off, sz⟩ := q
    simp only [hcond]
    have := fill_eq pl r (put1 cs off v.cells.toList) (by rw [put1_length (by simpa using h3')]; exact h4)
    simp only [fillL, hpl]
    rw [← this, ← hL]
    rfl
theorem run_mapM_cons {α β : Type} {f : α → Sem β} {x : α} {l : List α} {y : β} {ys : List β} (h1 : (f x).run P w = .ok y w) (h2 : (l.mapM f).run P w = .ok ys w) : ((x :: l).mapM f).run P w = .ok (y :: ys) w := by
  rw [List.mapM_cons]
  simp only [Sem.run_bind, h1, h2, Result.andThen_ok, Sem.run_pure]
theorem run_mapM_arr {α β : Type} {f : α → Sem β} {l : List α} {ys : List β} (h : (l.mapM f).run P w = .ok ys w) : (l.toArray.mapM f).run P w = .ok ys.toArray w := by
  rw [List.mapM_toArray]
  simp only [map_eq_pure_bind, Sem.run_bind, h, Result.andThen_ok, Sem.run_pure]
theorem y_buildS {t : TypeId} {fs : Array Field} {parts : Array (Nat × Operand)} {ps : List (Nat × Value)} {pl : List (Nat × Nat)} {z cs : List Value} (ht : P.underlying t = some (.struct fs)) (hz : (P.info? t).bind (·.zero) = some (.agg z.toArray))
    (hpl : (fs.toList.mapM fun f => (P.info? f.type).map fun i => (f.offset, i.size)) = some pl) (hp : evp env parts.toList = some ps) (hfit : fitL pl z.length ps = true) (hcs : fillL pl z ps = cs) : Yl P N D env (.build t parts) ty (.agg cs.toArray) := fun a ha w dst pos af g => by
  have h0 := evp_arr ha hp
  obtain ⟨i, hi, hz'⟩ := Option.bind_eq_some_iff.1 hz
  have hm : ∀ (l : List Field) (pl : List (Nat × Nat)), (l.mapM fun f => (P.info? f.type).map fun i => (f.offset, i.size)) = some pl → (l.mapM (m := Sem) fun f => do pure (f.offset, ← sizeOf f.type)).run P w = .ok pl w := by
    intro l
    induction l with
    | nil => intro pl h; simp at h; subst h; rfl
    | cons f l ih =>
      intro pl h
      simp only [List.mapM_cons, Option.bind_eq_bind, Option.bind_eq_some_iff, Option.pure_def, Option.some.injEq, Option.map_eq_some_iff] at h
      obtain ⟨y, ⟨i, hi, rfl⟩, ys, h2, rfl⟩ := h
      exact run_mapM_cons (by simp [sizeOf, typeInfo, hi]) (ih ys h2)
  have hm2 : (fs.mapM (m := Sem) fun f => do pure (f.offset, ← sizeOf f.type)).run P w = .ok pl.toArray w := run_mapM_arr (l := fs.toList) (hm fs.toList pl hpl)
  subst hcs
  have hf := fill_eq pl ps z hfit
  have hzr : (zeroValue t).run P w = .ok (.agg z.toArray) w := by simp [zeroValue, typeInfo, hi, hz']
  simp only [execOp, h0, Instr.build, Sem.run_bind, hzr, Result.andThen_ok, run_underlying ht, hm2, Value.cells, hf, Sem.run_pure]

/-! ### structs compared -/
def EqIs (P : Program) (d : Nat) (t : TypeId) (x y : Value) (b : Bool) : Prop := ∀ w, (Op.equalIn d t x y).run P w = .ok b w
def FieldsIs (P : Program) (d : Nat) (xs ys : Array Value) (fs : List Field) (b : Bool) : Prop := ∀ w, (Op.eqFields d xs ys fs).run P w = .ok b w
theorem EqIs.int {d : Nat} {t : TypeId} {k k' : IntKind} {m n : Int} (h : P.underlying t = some (.int k')) : EqIs P (d + 1) t (.int k m) (.int k n) (m == n) := fun w => run_equalIn_int w d t k k' m n h
theorem EqIs.bool {d : Nat} {t : TypeId} {m n : Bool} (h : P.underlying t = some .bool) : EqIs P (d + 1) t (.bool m) (.bool n) (m == n) := fun w => run_equalIn_bool' w d t m n h
theorem EqIs.str {d : Nat} {t : TypeId} {m n : List UInt8} (h : P.underlying t = some .string) : EqIs P (d + 1) t (str m) (str n) (m == n) := fun w => by
  have := run_equalIn_string (P := P) w d t ⟨m.toArray⟩ ⟨n.toArray⟩ h
  rwa [toList_str, toList_str] at this
theorem EqIs.float {d : Nat} {t : TypeId} {k k' : FloatKind} {m n : Nat} (h : P.underlying t = some (.float k')) : EqIs P (d + 1) t (.float k m) (.float k n) (k.format.order m n == some .eq) := fun w => by
  simp [Op.equalIn, run_underlying h, Op.floatEq]
theorem FieldsIs.nil {d : Nat} {xs ys : Array Value} : FieldsIs P d xs ys [] true := fun w => rfl
theorem FieldsIs.cons {d : Nat} {xs ys : Array Value} {f : Field} {fs : List Field} {u v : Value} {r s : Bool} (hn : (f.name == "_") = false) (hx : ∀ w, (part f.type xs f.offset).run P w = .ok u w) (hy : ∀ w, (part f.type ys f.offset).run P w = .ok v w) (he : EqIs P d f.type u v r) (h : FieldsIs P d xs ys fs s) :
    FieldsIs P d xs ys (f :: fs) (r && s) := fun w => by
  have hn' : ¬ f.name = "_" := by simpa using hn
  simp only [Op.eqFields, ne_eq, hn', not_false_eq_true, if_true, Sem.run_bind, hx, hy, Result.andThen_ok, he w]
  cases r
  · simp
  · simp only [Bool.not_true, Bool.false_eq_true, if_false, Bool.true_and]; exact h w
theorem part_one {t : TypeId} {xs : Array Value} {off : Nat} {u : Value} (ht : One P t) (hu : xs[off]? = some u) (w : World) : (part t xs off).run P w = .ok u w := by
  simp [part, run_isAgg_one ht w, hu]
theorem FieldsIs.one {d : Nat} {xs ys : Array Value} {f : Field} {fs : List Field} {u v : Value} {r s : Bool} (hn : (f.name == "_") = false) (ht : One P f.type) (hx : xs[f.offset]? = some u) (hy : ys[f.offset]? = some v) (he : EqIs P d f.type u v r) (h : FieldsIs P d xs ys fs s) :
    FieldsIs P d xs ys (f :: fs) (r && s) := FieldsIs.cons hn (part_one ht hx) (part_one ht hy) he h
theorem EqIs.struct {d : Nat} {t : TypeId} {fs : Array Field} {xs ys : Array Value} {b : Bool} (ht : P.underlying t = some (.struct fs)) (hp : P.stoodInHeld t = false) (h : FieldsIs P d xs ys fs.toList b) : EqIs P (d + 1) t (.agg xs) (.agg ys) b := fun w => by
  have hf : P.fieldsOf t = fs := by unfold Program.fieldsOf; rw [ht]
  rw [run_equalIn_struct w d t xs ys (by rw [hf]; exact ht) hp, hf]; exact h w
theorem y_eqlS {x y : Operand} {xs ys : Array Value} {t u : TypeId} {b : Bool} (hg : P.eqGuardType P.depth t = false) (hx : ev env x = some (.agg xs)) (hy : ev env y = some (.agg ys)) (he : EqIs P 10000 t (.agg xs) (.agg ys) b) : Yl P N D env (.binOp .eql t x y u) ty (.bool b) := fun a ha w dst pos af g => by
  simp [execOp, ha.eval hx, ha.eval hy, run_eqGuard_agg w .eql t x y xs ys hg, run_eql_struct, he w]
theorem y_neqS {x y : Operand} {xs ys : Array Value} {t u : TypeId} {b : Bool} (hg : P.eqGuardType P.depth t = false) (hx : ev env x = some (.agg xs)) (hy : ev env y = some (.agg ys)) (he : EqIs P 10000 t (.agg xs) (.agg ys) b) : Yl P N D env (.binOp .neq t x y u) ty (.bool (!b)) := fun a ha w dst pos af g => by
  simp [execOp, ha.eval hx, ha.eval hy, run_eqGuard_agg w .neq t x y xs ys hg, run_neq_struct, he w]

/-! ### results, some of them in memory -/
inductive ResIs (P : Program) (env : Env) (w : World) : List ResultVar → List Value → Prop
  | nil : ResIs P env w [] []
  | tmp {t : Tmp} {v : Value} {rs : List ResultVar} {vs : List Value} (h : lk env t = some v) (hr : ResIs P env w rs vs) : ResIs P env w (.tmp t :: rs) (v :: vs)
  | cell {a : Tmp} {t : TypeId} {p : Addr} {v : Value} {rs : List ResultVar} {vs : List Value} (h : lk env a = some (.pointer (some p))) (hl : (loadVar t p).run P w = .ok v w) (hr : ResIs P env w rs vs) : ResIs P env w (.cell a t :: rs) (v :: vs)
def pack : List Value → Value
  | [v] => v
  | vs => .tuple vs.toArray
theorem run_results {a : Act} (ha : Ok N D env a) : ∀ {rs : List ResultVar} {vs : List Value}, ResIs P env w rs vs →
    (rs.mapM (m := Sem) fun | .tmp t => pure (a.tmps.getD t undef) | .cell x t => do loadVar t (← asAddr (a.tmps.getD x undef))).run P w = .ok vs w
  | _, _, .nil => rfl
  | _, _, .tmp h hr => run_mapM_cons (by show (pure (a.tmps.getD _ undef) : Sem Value).run P w = _; rw [ha.getD h]; rfl) (run_results ha hr)
  | _, _, .cell h hl hr => run_mapM_cons (by simp only [ha.getD h, asAddr, Sem.run_bind, Sem.run_pure, Result.andThen_ok, hl]) (run_results ha hr)
theorem retN {fn : Func} {R : Ending → World → Prop} {rs : List ResultVar} {vs : List Value} (hr : fn.results = rs.toArray) (h : ResIs P env w rs vs) (hR : R (.returned (pack vs)) w) : Wq (bodyPost P fn R) .ret N [] env w := fun a ha =>
  ⟨ha.defers, pack vs, by
    unfold results
    rw [hr]
    have := run_mapM_arr (run_results ha h)
    rw [Sem.run_bind]
    refine (congrArg (fun r : Result (Array Value) => r.andThen _) this).trans ?_
    match vs with
    | [] => rfl
    | [v] => rfl
    | v :: u :: r => rfl, hR⟩
theorem loadS {t : TypeId} {fs : Array Field} {p : Addr} {cs : List Value} (ht : P.underlying t = some (.struct fs)) (hs : (P.info? t).map (·.size) = some cs.length) (hc : ∀ (j : Nat) (u : Value), cs[j]? = some u → w.cell? (p.add j) = some u) : (loadVar t p).run P w = .ok (.agg cs.toArray) w := by
  obtain ⟨i, hi, hsz⟩ := Option.map_eq_some_iff.1 hs
  have h5 : (sizeOf t).run P w = .ok cs.length w := by simp [sizeOf, typeInfo, hi, hsz]
  have h6 := run_loadCells_list (P := P) w p cs hc
  simp [loadVar, isAgg, run_underlying ht, h5, h6]

/-! ### a row made whole; a store into a row of one's own -/
theorem Wl.make {x y : Operand} {t e : TypeId} {z : Value} {sz bytes : Nat} (ht : P.underlying t = some (.slice e)) (hi : (P.info? e).map (fun i => (i.zero, i.size, i.bytes)) = some (some z, sz, bytes))
    (base : Nat) {n : Nat} {kl kc : IntKind} (hx : ev env x = some (.int kl n)) (hy : ev env y = some (.int kc n)) (hb : bytes * n ≤ 281474976710656) (h63 : n ≤ maxLen) (hbase : base ≤ w.heap.size) (hd : Nat.blt d N = true)
    (h : ∀ w', w'.ownsRow base e sz (.slice (some ⟨w.heap.size, 0, none⟩) n n) n (madeCells z.cells (n * sz)).toList → w.grownBy w' none → Wl P ops Q rest N D ((d, .slice (some ⟨w.heap.size, 0, none⟩) n n) :: env) w') :
    Wl P ops Q (⟨some d, .makeSlice t x y, ty, pos, af, none⟩ :: rest) N D env w := by
  obtain ⟨i, hi0, hi1⟩ := Option.map_eq_some_iff.1 hi
  simp only [Prod.mk.injEq] at hi1
  obtain ⟨hz0, hs0, hb0⟩ := hi1
  obtain ⟨w', hrun, hown, hg⟩ := run_make_full (P := P) w base t e i z sz ht hi0 hz0 hs0 kl kc n (by rw [hb0]; exact hb) h63 hbase
  refine Wl.m (w' := w') (fun a ha dst pos af g => ?_) hd (h w' hown hg)
  simp [execOp, ha.eval hx, ha.eval hy, hrun]
theorem Wl.storeOwn {x y : Operand} {t e : TypeId} {base sz n c g j : Nat} {v : Value} {xs : List Value} (ht : One P t) (hx : ev env x = some (.pointer (some ((⟨g, 0, none⟩ : Addr).add j)))) (hy : ev env y = some v) (h1 : v.oneCell' = true)
    (hown : w.ownsRow base e sz (.slice (some ⟨g, 0, none⟩) n c) n xs) (hj : j < xs.length) (h : ∀ w', w'.ownsRow base e sz (.slice (some ⟨g, 0, none⟩) n c) n (xs.set j v) → w.grownBy w' (some g) → Wl P ops Q rest N D env w') :
    Wl P ops Q (⟨none, .store t x y, ty, pos, af, none⟩ :: rest) N D env w := by
  have hst := World.ownsRow.stored hown j v
  have hc := World.ownsRow.cellAt hown j (by rw [← hown.1]; exact hj)
  rw [List.getElem?_eq_getElem hj] at hc
  have hf := World.ownsRow.frozenAt hown j
  rw [add_zero_off] at hx
  exact Wl.s (s_store ht hx hy h1 hc hf) (h _ hst.1 hst.2)
theorem own_cell {base : Nat} {e : TypeId} {sz n c g : Nat} {xs : List Value} (h : w.ownsRow base e sz (.slice (some ⟨g, 0, none⟩) n c) n xs) {j : Nat} {v : Value} (hv : xs[j]? = some v) : w.cell? ((⟨g, 0, none⟩ : Addr).add j) = some v := by
  have := (Rd.of_own h).2 (by
    rcases Nat.eq_zero_or_pos xs.length with h0 | h0
    · rw [List.eq_nil_of_length_eq_zero h0] at hv; simp at hv
    · exact h0)
  obtain ⟨p, e1, hc⟩ := this
  cases e1
  exact hc j v hv
end
end Go.Bw
