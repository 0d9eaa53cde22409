/- The statements about values, by the calculus: ValueTrue. -/
import Derived.Test.YtijkbinjdgjioaaGreatDoorLawO
import Derived.Test.YtijkbinjdgjioaaGreatDoorLawB
import Derived.ChangeKeysEq
namespace Go.Proofs.YtijkbinjdgjioaaGreatDoor
open Go.RowKit Go.Bw Go.Bw.Fl
set_option linter.unusedVariables false
set_option linter.unusedSimpArgs false
theorem fa28_0LawG (p : Addr) (w : World) : (Instr.fieldAt 28 (.pointer (some p)) 0).run Tryz.prog w = .ok (.pointer (some (p.add 0))) w := run_fieldAt (i := 0) (sz := 0) Tryz.underlying28 rfl (by kernel_rfl) p w
theorem fa28_1LawG (p : Addr) (w : World) : (Instr.fieldAt 28 (.pointer (some p)) 1).run Tryz.prog w = .ok (.pointer (some (p.add 1))) w := run_fieldAt (i := 1) (sz := 0) Tryz.underlying28 rfl (by kernel_rfl) p w
theorem fa28_2LawG (p : Addr) (w : World) : (Instr.fieldAt 28 (.pointer (some p)) 2).run Tryz.prog w = .ok (.pointer (some (p.add 2))) w := run_fieldAt (i := 2) (sz := 0) Tryz.underlying28 rfl (by kernel_rfl) p w
theorem one2LawG : One Tryz.prog 2 := ⟨_, Tryz.underlying2, rfl, by kernel_rfl⟩
theorem one26LawG : One Tryz.prog 26 := ⟨_, Tryz.underlying26, rfl, by kernel_rfl⟩
theorem one3LawG : One Tryz.prog 3 := ⟨_, Tryz.underlying3, rfl, by kernel_rfl⟩
theorem one9LawG : One Tryz.prog 9 := ⟨_, Tryz.underlying9, rfl, by kernel_rfl⟩
theorem sz2LawG : (Tryz.prog.info? 2).map (·.size) = some 1 := by kernel_rfl
theorem sz9LawG : (Tryz.prog.info? 9).map (·.size) = some 1 := by kernel_rfl
theorem txt14LawG : Txt Tryz.prog 14 := ⟨_, Tryz.func14, by kernel_rfl, rfl⟩   -- bridleway/bridlewaylaw02.shown
theorem txt15LawG : Txt Tryz.prog 15 := ⟨_, Tryz.func15, by kernel_rfl, rfl⟩   -- bridleway/bridlewaylaw02.of
theorem txt16LawG : Txt Tryz.prog 16 := ⟨_, Tryz.func16, by kernel_rfl, rfl⟩   -- bridleway/bridlewaylaw02.ops
theorem txt17LawG : Txt Tryz.prog 17 := ⟨_, Tryz.func17, by kernel_rfl, rfl⟩   -- bridleway/value.Test
theorem txt22LawG : Txt Tryz.prog 22 := ⟨_, Tryz.func22, by kernel_rfl, rfl⟩   -- bridleway/value.Right
def cells64 (n : Nat) (a : Nat → Int) : List Value := (List.range n).map fun j => .int .i64 (a j)
theorem cells64_at {n i : Nat} {a : Nat → Int} (h : i < n) : (cells64 n a)[i]? = some (.int .i64 (a i)) := by
  unfold cells64; simp [h]
theorem items_run {P : Program} {d e : Nat} {xs ys : Array Value} {a b : Nat → Int} (he : P.underlying e = some (.int .i64)) (ho : One P e) (w : World) : ∀ (is : List Nat), (∀ i ∈ is, xs[i]? = some (.int .i64 (a i)) ∧ ys[i]? = some (.int .i64 (b i))) →
    (Op.eqItems (d + 1) e 1 xs ys is).run P w = .ok (is.all fun i => a i == b i) w
  | [], _ => rfl
  | i :: is, h => by
    obtain ⟨h1, h2⟩ := h i (by simp)
    have p1 := part_one (off := i * 1) ho (by rw [Nat.mul_one]; exact h1) w
    have p2 := part_one (off := i * 1) ho (by rw [Nat.mul_one]; exact h2) w
    have p3 : (Op.equalIn (d + 1) e (.int .i64 (a i)) (.int .i64 (b i))).run P w = .ok (a i == b i) w := EqIs.int he w
    simp only [Op.eqItems, Sem.run_bind, p1, p2, p3, Result.andThen_ok, List.all_cons]
    cases a i == b i
    · simp
    · simp only [Bool.not_true, Bool.false_eq_true, if_false, Bool.true_and]; exact items_run he ho w is fun j hj => h j (by simp [hj])
theorem EqIs_arr {P : Program} {d n : Nat} {t e : TypeId} {a b : Nat → Int} (ht : P.underlying t = some (.array n e)) (he : P.underlying e = some (.int .i64)) (ho : One P e) (hc : P.cellsOf e = 1) :
    EqIs P (d + 2) t (.agg (cells64 n a).toArray) (.agg (cells64 n b).toArray) ((List.range n).all fun i => a i == b i) := fun w => by
  obtain ⟨dd, h1, h2, h3⟩ := ho
  obtain ⟨ie, hi, _⟩ := Option.map_eq_some_iff.1 h3
  rw [run_equalIn_array w (d + 1) _ _ ht hi, hc]
  exact items_run he ⟨dd, h1, h2, h3⟩ w _ fun i hi => by
    have := List.mem_range.1 hi
    exact ⟨by simpa using cells64_at this, by simpa using cells64_at this⟩
theorem y_indexAddrA {P : Program} {N : Nat} {D : List Deferred} {env : Env} {ty : TypeId} {x i : Operand} {t e : TypeId} {len sz : Nat} {p : Addr} {k : IntKind} {m : Int} (ht : P.underlying t = some (.array len e)) (hs : (P.info? e).map (·.size) = some sz) (hx : ev env x = some (.pointer (some p))) (hi : ev env i = some (.int k m)) (h0 : 0 ≤ m) (h1 : m < len) :
    Yl P N D env (.indexAddr t x i) ty (.pointer (some (p.add (m.toNat * sz)))) := fun a ha w dst pos af g => by
  have h5 : ∀ w, (sizeOf e).run P w = .ok sz w := fun w => Go.Bw.run_sizeOf hs w
  simp [execOp, Instr.indexAt, ha.eval hx, ha.eval hi, asIntOf, run_underlying ht, h0, h1, h5, Instr.sureAddr]
theorem Wl.storeB {P : Program} {N : Nat} {D : List Deferred} {env : Env} {w : World} {Q : Exit → Act → World → Prop} {ops : Array Oper} {rest : List Oper} {ty : TypeId} {pos : String} {af : Array Edge} {x y : Operand} {t e : TypeId} {g j : Nat} {cs : List Value} {v : Value} (ht : One P t) (hx : ev env x = some (.pointer (some ((⟨g, 0, none⟩ : Addr).add j)))) (hy : ev env y = some v) (h1 : v.oneCell' = true) (hb : Blk w g e cs) (hj : j < cs.length)
    (h : ∀ w', Blk w' g e (cs.set j v) → w.grownBy w' (some g) → Wl P ops Q rest N D env w') : Wl P ops Q (⟨none, .store t x y, ty, pos, af, none⟩ :: rest) N D env w := by
  have hc : w.cell? ((⟨g, 0, none⟩ : Addr).add j) = some cs[j] := hb.at (List.getElem?_eq_getElem hj)
  have hf : w.frozen? ((⟨g, 0, none⟩ : Addr).add j) = false := by rw [add_zero_off]; exact hb.frozen j
  have e1 : w.setCell ((⟨g, 0, none⟩ : Addr).add j) v = w.setRow g (cs.set j v).toArray := by
    rw [add_zero_off, setCell_eq_setRow w g j cs.toArray e (0, 0) v hb]; simp
  refine Wl.s (s_store ht hx hy h1 hc hf) (h _ (e1 ▸ hb.setRow) ?_)
  exact ⟨rfl, rfl, rfl, by simp [World.setCell], fun k _ hne => Below.heap_setCell w _ _ k (fun e => hne (by rw [e, add_zero_off]))⟩
theorem l_loadA {P : Program} {N : Nat} {D : List Deferred} {env : Env} {w : World} {ty : TypeId} {x : Operand} {t e : TypeId} {n : Nat} {p : Addr} {cs : List Value} (ht : P.underlying t = some (.array n e)) (hs : (P.info? t).map (·.size) = some cs.length) (hx : ev env x = some (.pointer (some p))) (hc : ∀ (j : Nat) (u : Value), cs[j]? = some u → w.cell? (p.add j) = some u) : Ld P N D env w (.load t x) ty (.agg cs.toArray) := fun a ha dst pos af g => by
  obtain ⟨i, hi, hsz⟩ := Option.map_eq_some_iff.1 hs
  have h5 : (sizeOf t).run P w = .ok cs.length w := by simp [sizeOf, typeInfo, hi, hsz]
  have h6 := run_loadCells_list (P := P) w p cs hc
  simp [execOp, ha.eval hx, Instr.loadAt, Instr.sureAddr, loadVar, isAgg, run_underlying ht, h5, h6]
theorem y_buildA {P : Program} {N : Nat} {D : List Deferred} {env : Env} {ty : TypeId} {t e : TypeId} {n : Nat} {parts : Array (Nat × Operand)} {ps : List (Nat × Value)} {z cs : List Value} (ht : P.underlying t = some (.array n e)) (hs : (P.info? e).map (·.size) = some 1) (hz : (P.info? t).bind (·.zero) = some (.agg z.toArray)) (hp : evp env parts.toList = some ps)
    (hfill : Instr.fill (fun i => some (i * 1, 1)) z.toArray ps = some cs.toArray) : Yl P N D env (.build t parts) ty (.agg cs.toArray) := fun a ha w dst pos af g => by
  have h0 := evp_arr ha hp
  obtain ⟨i, hi, hz'⟩ := Option.bind_eq_some_iff.1 hz
  have hzr : (zeroValue t).run P w = .ok (.agg z.toArray) w := by simp [zeroValue, typeInfo, hi, hz']
  have h5 : ∀ w, (sizeOf e).run P w = .ok 1 w := fun w => Go.Bw.run_sizeOf hs w
  simp only [execOp, h0, Instr.build, Sem.run_bind, hzr, Result.andThen_ok, run_underlying ht, h5, Value.cells, hfill, Sem.run_pure]
def tst (x y : Val) (j : Nat) : Val × Int := testV (opsL.getD j []) x y
theorem op_is {i : Nat} (h : i < 6) : (holdsV (opsL.getD i []) 0).isNone = false := by
  match i, h with
  | 0, _ => rfl
  | 1, _ => rfl
  | 2, _ => rfl
  | 3, _ => rfl
  | 4, _ => rfl
  | 5, _ => rfl
/-- how six tests end -/
theorem tst_ways (x y : Val) {j : Nat} (h : j < 6) : (tst x y j = (nullV, 1) ∧ (rightV x = false ∨ rightV y = false)) ∨ (tst x y j = (nullV, 0) ∧ (x.k = 0 ∨ y.k = 0)) ∨ tst x y j = (nullV, 4) ∨
    (tst x y j = (truthV (if knownV x y = false then decide (opsL.getD j [] = [60, 62]) else (holdsV (opsL.getD j []) (againstV x y)).getD false), 0) ∧ rightV x = true ∧ rightV y = true ∧ ¬ (x.k = 0 ∨ y.k = 0) ∧ ¬ (x.k ≠ y.k ∧ (numV x = false ∨ numV y = false))) := by
  have ho := op_is h
  unfold tst testV
  by_cases c0 : rightV x = false ∨ rightV y = false
  · left; rw [if_pos (.inr c0)]; exact ⟨rfl, c0⟩
  · have c0' : ¬ ((holdsV (opsL.getD j []) 0).isNone = true ∨ rightV x = false ∨ rightV y = false) := by rw [ho]; simpa using c0
    rw [if_neg c0']
    by_cases c1 : x.k = 0 ∨ y.k = 0
    · right; left; rw [if_pos c1]; exact ⟨rfl, c1⟩
    · rw [if_neg c1]
      by_cases c2 : x.k ≠ y.k ∧ (numV x = false ∨ numV y = false)
      · right; right; left; rw [if_pos c2]
      · right; right; right
        rw [if_neg c2]
        refine ⟨?_, by simpa using (not_or.1 c0).1, by simpa using (not_or.1 c0).2, c1, c2⟩
        by_cases c3 : knownV x y = false
        · rw [if_pos c3, if_pos c3]
        · rw [if_neg c3, if_neg c3]
theorem tst_err {x y : Val} {j : Nat} (h : j < 6) (he : ¬ (tst x y j).2 = 0) : (tst x y j).1.k = 0 ∧ ((tst x y j).2 = 4 ∨ rightV x = false ∨ rightV y = false) := by
  rcases tst_ways x y h with ⟨e, c⟩ | ⟨e, c⟩ | e | ⟨e, _⟩
  · rw [e]; exact ⟨rfl, .inr c⟩
  · rw [e] at he; exact absurd rfl he
  · rw [e]; exact ⟨rfl, .inl rfl⟩
  · rw [e] at he; exact absurd rfl he
theorem tst_null {x y : Val} {j : Nat} (h : j < 6) (he : (tst x y j).2 = 0) (hk : (tst x y j).1.k = 0) : x.k = 0 ∨ y.k = 0 := by
  rcases tst_ways x y h with ⟨e, c⟩ | ⟨e, c⟩ | e | ⟨e, _⟩
  · rw [e] at he; exact absurd (show (1 : Int) = 0 from he) (by decide)
  · exact c
  · rw [e] at he; exact absurd (show (4 : Int) = 0 from he) (by decide)
  · rw [e] at hk; exact absurd (show (1 : Int) = 0 from hk) (by decide)
/-- the two go together -/
def goes (x y : Val) : Prop := rightV x = true ∧ rightV y = true ∧ ¬ (x.k = 0 ∨ y.k = 0) ∧ ¬ (x.k ≠ y.k ∧ (numV x = false ∨ numV y = false))
theorem tst_good {x y : Val} {j : Nat} (h : j < 6) (he : (tst x y j).2 = 0) (hk : ¬ (tst x y j).1.k = 0) : goes x y := by
  rcases tst_ways x y h with ⟨e, c⟩ | ⟨e, c⟩ | e | ⟨e, c⟩
  · rw [e] at hk; exact absurd rfl hk
  · rw [e] at hk; exact absurd rfl hk
  · rw [e] at hk; exact absurd rfl hk
  · exact c
def gv (x y : Val) (j : Nat) : Int := (tst x y j).1.n
theorem test_goes {op : List UInt8} {x y : Val} (ho : (holdsV op 0).isNone = false) (g : goes x y) : testV op x y = (truthV (if knownV x y = false then decide (op = [60, 62]) else (holdsV op (againstV x y)).getD false), 0) := by
  obtain ⟨g1, g2, g3, g4⟩ := g
  unfold testV
  rw [if_neg (by rw [ho, g1, g2]; simp), if_neg g3, if_neg g4]
  by_cases c3 : knownV x y = false
  · rw [if_pos c3, if_pos c3]
  · rw [if_neg c3, if_neg c3]
theorem goes_symm {x y : Val} (g : goes x y) : goes y x := by
  obtain ⟨g1, g2, g3, g4⟩ := g
  exact ⟨g2, g1, fun h => g3 h.symm, fun h => g4 ⟨fun e => h.1 e.symm, h.2.symm⟩⟩
def nanB (x y : Val) : Bool := decide ((x.k = 3 ∧ isNan x.f = true) ∨ (y.k = 3 ∧ isNan y.f = true))
/-- how the kinds may lie -/
theorem goes_kinds {x y : Val} (g : goes x y) : (x.k = 2 ∧ y.k = 3) ∨ (x.k = 3 ∧ y.k = 2) ∨ (x.k = 3 ∧ y.k = 3) ∨ (x.k = 4 ∧ y.k = 4) ∨ (x.k = y.k ∧ ¬ x.k = 3 ∧ ¬ x.k = 4) := by
  obtain ⟨g1, g2, g3, g4⟩ := g
  by_cases e : x.k = y.k
  · by_cases h3 : x.k = 3
    · exact .inr (.inr (.inl ⟨h3, by omega⟩))
    · by_cases h4 : x.k = 4
      · exact .inr (.inr (.inr (.inl ⟨h4, by omega⟩)))
      · exact .inr (.inr (.inr (.inr ⟨e, h3, h4⟩)))
  · have h1 : ¬ (numV x = false ∨ numV y = false) := fun h => g4 ⟨e, h⟩
    unfold numV at h1
    simp only [decide_eq_false_iff_not, not_or, Classical.not_not] at h1
    omega
theorem known_nan {x y : Val} (g : goes x y) : knownV x y = !nanB x y := by
  rcases goes_kinds g with h | h | h | h | h
  · rw [(lessV_if h).1]; unfold nanB; rw [h.1, h.2]; cases isNan y.f <;> simp
  · rw [(lessV_fi h).1]; unfold nanB; rw [h.1, h.2]; cases isNan x.f <;> simp
  · rw [(lessV_ff (by omega) h.1).1]; unfold nanB; rw [h.1, h.2]; cases isNan x.f <;> cases isNan y.f <;> simp
  · rw [(lessV_text h.1).1]; unfold nanB; rw [h.1, h.2]; simp
  · rw [(lessV_ii h.2.2 (by omega) h.2.1).1]; unfold nanB; simp; omega
theorem anti {x y : Val} (g : goes x y) (hn : nanB x y = false) : 0 < againstV y x ↔ againstV x y < 0 := by
  rcases goes_kinds g with h | h | h | h | h
  · rw [(lessV_if h).2, (lessV_fi ⟨h.2, h.1⟩).2]; omega
  · rw [(lessV_fi h).2, (lessV_if ⟨h.2, h.1⟩).2]; omega
  · unfold nanB at hn
    rw [h.1, h.2] at hn
    have nx : isNan x.f = false := by cases e : isNan x.f; rfl; rw [e] at hn; simp at hn
    have ny : isNan y.f = false := by cases e : isNan y.f; rfl; rw [e] at hn; simp at hn
    rw [(lessV_ff (by omega) h.1).2, (lessV_ff (by omega) h.2).2, cmpF_num nx ny, cmpF_num ny nx]
    unfold cmpI; split <;> split <;> (try split) <;> (try split) <;> omega
  · rw [(lessV_text h.1).2, (lessV_text h.2).2]
    rw [cmpS_lt]
    unfold cmpS
    rcases bl_total x.s y.s with e | e | e
    · have := bl_asymm e
      have hne : ¬ y.s = x.s := fun e' => by rw [e', bytesLess_irrefl] at e; cases e
      rw [if_neg this, if_neg hne]; simp [e]
    · rw [e, bytesLess_irrefl]; simp
    · have := bl_asymm e
      rw [if_pos e]; simp [this]
  · rw [(lessV_ii h.2.2 (by omega) h.2.1).2, (lessV_ii (by omega) (by omega) (by omega)).2]
    unfold cmpI; split <;> split <;> (try split) <;> (try split) <;> omega
theorem tr_n (t : Bool) : (truthV t).n = if t = true then 1 else 0 := rfl
theorem back_law {x y : Val} (g : goes x y) : (testV [62] y x).2 = 0 ∧ (testV [62] y x).1.n = gv x y 2 := by
  unfold gv tst
  rw [test_goes rfl (goes_symm g), show testV (opsL.getD 2 []) x y = testV [60] x y from rfl, test_goes rfl g]
  refine ⟨rfl, ?_⟩
  rw [known_nan (goes_symm g), known_nan g]
  have hs : nanB y x = nanB x y := by unfold nanB; exact decide_eq_decide.2 or_comm
  rw [hs]
  cases hn : nanB x y
  · rw [if_neg (by simp), if_neg (by simp)]
    show (truthV (decide (0 < againstV y x))).n = (truthV (decide (againstV x y < 0))).n
    rw [decide_eq_decide.2 (anti g hn)]
  · rfl
theorem nan_law {x y : Val} (g : goes x y) (hn : nanB x y = true) : ((List.range 6).all fun i => gv x y i == (if i = 1 then 1 else 0)) = true := by
  have e : ∀ j, j < 6 → gv x y j = if decide (opsL.getD j [] = [60, 62]) = true then 1 else 0 := fun j hj => by
    unfold gv tst
    rw [test_goes (op_is hj) g, known_nan g, hn, if_pos (show (!true) = false from rfl)]; rfl
  rw [List.all_eq_true]
  intro j hj
  have hj' := List.mem_range.1 hj
  rw [e j hj']
  match j, hj' with
  | 0, _ => rfl
  | 1, _ => rfl
  | 2, _ => rfl
  | 3, _ => rfl
  | 4, _ => rfl
  | 5, _ => rfl
theorem true_law {x y : Val} (g : goes x y) (hn : nanB x y = false) : gv x y 0 + gv x y 2 + gv x y 4 = 1 ∧ gv x y 1 = 1 - gv x y 0 ∧ gv x y 5 = 1 - gv x y 2 ∧ gv x y 3 = 1 - gv x y 4 ∧ (0 ≤ gv x y 0 ∧ gv x y 0 ≤ 1) ∧ (0 ≤ gv x y 2 ∧ gv x y 2 ≤ 1) ∧ (0 ≤ gv x y 4 ∧ gv x y 4 ≤ 1) := by
  have e : ∀ j, j < 6 → gv x y j = (truthV ((holdsV (opsL.getD j []) (againstV x y)).getD false)).n := fun j hj => by
    unfold gv tst
    rw [test_goes (op_is hj) g, known_nan g, hn, if_neg (by simp)]
  rw [e 0 (by decide), e 1 (by decide), e 2 (by decide), e 3 (by decide), e 4 (by decide), e 5 (by decide)]
  generalize againstV x y = c
  show (truthV (c == 0)).n + (truthV (decide (c < 0))).n + (truthV (decide (c > 0))).n = 1 ∧ (truthV (c != 0)).n = 1 - (truthV (c == 0)).n ∧ (truthV (decide (c ≥ 0))).n = 1 - (truthV (decide (c < 0))).n ∧ (truthV (decide (c ≤ 0))).n = 1 - (truthV (decide (c > 0))).n ∧ (0 ≤ (truthV (c == 0)).n ∧ (truthV (c == 0)).n ≤ 1) ∧ (0 ≤ (truthV (decide (c < 0))).n ∧ (truthV (decide (c < 0))).n ≤ 1) ∧ (0 ≤ (truthV (decide (c > 0))).n ∧ (truthV (decide (c > 0))).n ≤ 1)
  simp only [tr_n, beq_iff_eq, bne_iff_ne, decide_eq_true_eq]
  rcases Int.lt_trichotomy c 0 with h | h | h
  · rw [if_neg (show ¬ c = 0 by omega), if_pos (show c < 0 by omega), if_neg (show ¬ c > 0 by omega), if_pos (show c ≠ 0 by omega), if_neg (show ¬ c ≥ 0 by omega), if_pos (show c ≤ 0 by omega)]; decide
  · rw [if_pos h, if_neg (show ¬ c < 0 by omega), if_neg (show ¬ c > 0 by omega), if_neg (show ¬ c ≠ 0 by omega), if_pos (show c ≥ 0 by omega), if_pos (show c ≤ 0 by omega)]; decide
  · rw [if_neg (show ¬ c = 0 by omega), if_neg (show ¬ c < 0 by omega), if_pos (show c > 0 by omega), if_pos (show c ≠ 0 by omega), if_pos (show c ≥ 0 by omega), if_neg (show ¬ c ≤ 0 by omega)]; decide
def got (x y : Val) (i j : Nat) : Int := if j < i then gv x y j else 0
theorem got_set {x y : Val} {i : Nat} (h : i < 6) : (cells64 6 (got x y i)).set i (.int .i64 (tst x y i).1.n) = cells64 6 (got x y (i + 1)) := by
  match i, h with
  | 0, _ => rfl
  | 1, _ => rfl
  | 2, _ => rfl
  | 3, _ => rfl
  | 4, _ => rfl
  | 5, _ => rfl
theorem one64 : One Tryz.prog 2 := ⟨_, Tryz.underlying2, rfl, by kernel_rfl⟩
theorem eq43 (a : Nat → Int) : EqIs Tryz.prog 10000 43 (.agg (cells64 6 a).toArray) (.agg [Value.int .i64 0, .int .i64 1, .int .i64 0, .int .i64 0, .int .i64 0, .int .i64 0].toArray) ((List.range 6).all fun i => a i == (if i = 1 then 1 else 0)) :=
  EqIs_arr (d := 9998) (n := 6) (a := a) (b := fun j => if j = 1 then 1 else 0) Tryz.underlying43 Tryz.underlying2 one64 (by kernel_rfl)
set_option maxHeartbeats 4000000 in
theorem True_r (r s : Raw) (o : r.Ok) (o' : s.Ok) (w : World) (hL : Lb w) : Ret Tryz.prog 6 [r.enc, s.enc] w fun v w' => v = .bool true ∧ Below w.heap.size w w' := by
  have hb := Below.refl w.heap.size w
  have hL_hb := hL
  refine enter Tryz.func6 rfl rfl rfl ?_
  refine Wc.seq fun _ hK_1 => ?_
  refine Wc.region ?_
  refine Wl.boxN rfl rfl ?_
  rintro g_o0 w_o0 hg_o0 hn_o0 hs_o0
  have hz_o0 := hs_o0.size
  have hb := hb.trans (hs_o0.mono hb.size)
  have hL := hL_hb.below hb
  have hB_o0 := hn_o0
  have hl_o0 := hB_o0.lt
  refine Wl.boxN rfl rfl ?_
  rintro g_o1 w_o1 hg_o1 hn_o1 hs_o1
  have hz_o1 := hs_o1.size
  have hb := hb.trans (hs_o1.mono hb.size)
  have hL := hL_hb.below hb
  try have hB_o0 := Blk.below hB_o0 hs_o1
  have hB_o1 := hn_o1
  have hl_o1 := hB_o1.lt
  refine Wl.y (y_assign rfl) rfl ?_
  refine Wl.nil ?_
  refine Wq.next hK_1 ?_
  refine Wc.seq fun _ hK_5 => ?_
  refine Wc.region ?_
  refine Wl.call txt14LawG rfl rfl (shown_r _ hL) rfl ?_
  rintro _ w_k0 ⟨rfl, hs_k0⟩
  have hz_k0 := hs_k0.size
  have hb := hb.trans (hs_k0.mono hb.size)
  have hL := hL_hb.below hb
  try have hB_o0 := Blk.below hB_o0 hs_k0
  try have hB_o1 := Blk.below hB_o1 hs_k0
  refine Wl.y (y_assign rfl) rfl ?_
  refine Wl.nil ?_
  refine Wq.next hK_5 ?_
  refine Wc.seq fun _ hK_8 => ?_
  refine Wc.region ?_
  refine Wl.l (l_loadS Tryz.underlying24 (by kernel_rfl) rfl (by first | exact fun j u hu => hB_o0.at hu | exact fun j u hu => hB_o1.at hu | assumption)) rfl ?_
  refine Wl.call txt15LawG rfl rfl (of_r r o _) rfl ?_
  rintro _ w_k1 ⟨rfl, hs_k1⟩
  have hz_k1 := hs_k1.size
  have hb := hb.trans (hs_k1.mono hb.size)
  have hL := hL_hb.below hb
  try have hB_o0 := Blk.below hB_o0 hs_k1
  try have hB_o1 := Blk.below hB_o1 hs_k1
  refine Wl.allocN (z := (.agg #[(.int .i64 0), (.int .i64 0), (.float .f64 0), (str [])])) (by kernel_rfl) rfl ?_
  rintro g_o4 w_o4 hg_o4 hn_o4 hs_o4
  have hz_o4 := hs_o4.size
  have hb := hb.trans (hs_o4.mono hb.size)
  have hL := hL_hb.below hb
  try have hB_o0 := Blk.below hB_o0 hs_o4
  try have hB_o1 := Blk.below hB_o1 hs_o4
  have hB_o4 := hn_o4
  have hl_o4 := hB_o4.lt
  refine Wl.storeS (by kernel_rfl) rfl rfl hB_o4 rfl rfl ?_
  rintro w_s0 hn_s0 hg_s0
  have hz_s0 := hg_s0.size
  have hb := below_blk hb hg_s0 hb.size (by omega)
  have hL := hL_hb.below hb
  try have hB_o0 := hB_o0.over hg_s0 (by omega)
  try have hB_o1 := hB_o1.over hg_s0 (by omega)
  have hB_o4 := hn_s0
  refine Wl.nil ?_
  refine Wq.next hK_8 ?_
  refine Wc.seq fun _ hK_12 => ?_
  refine Wc.region ?_
  refine Wl.l (l_loadS Tryz.underlying24 (by kernel_rfl) rfl (by first | exact fun j u hu => hB_o0.at hu | exact fun j u hu => hB_o1.at hu | exact fun j u hu => hB_o4.at hu | assumption)) rfl ?_
  refine Wl.call txt15LawG rfl rfl (of_r s o' _) rfl ?_
  rintro _ w_k2 ⟨rfl, hs_k2⟩
  have hz_k2 := hs_k2.size
  have hb := hb.trans (hs_k2.mono hb.size)
  have hL := hL_hb.below hb
  try have hB_o4 := Blk.below hB_o4 hs_k2
  refine Wl.allocN (z := (.agg #[(.int .i64 0), (.int .i64 0), (.float .f64 0), (str [])])) (by kernel_rfl) rfl ?_
  rintro g_o5 w_o5 hg_o5 hn_o5 hs_o5
  have hz_o5 := hs_o5.size
  have hb := hb.trans (hs_o5.mono hb.size)
  have hL := hL_hb.below hb
  try have hB_o4 := Blk.below hB_o4 hs_o5
  have hB_o5 := hn_o5
  have hl_o5 := hB_o5.lt
  refine Wl.storeS (by kernel_rfl) rfl rfl hB_o5 rfl rfl ?_
  rintro w_s1 hn_s1 hg_s1
  have hz_s1 := hg_s1.size
  have hb := below_blk hb hg_s1 hb.size (by omega)
  have hL := hL_hb.below hb
  try have hB_o4 := hB_o4.over hg_s1 (by omega)
  have hB_o5 := hn_s1
  refine Wl.nil ?_
  refine Wq.next hK_12 ?_
  refine Wc.seq fun _ hK_16 => ?_
  refine Wc.region ?_
  refine Wl.allocN (z := (.agg #[(.int .i64 0), (.int .i64 0), (.int .i64 0), (.int .i64 0), (.int .i64 0), (.int .i64 0)])) (by kernel_rfl) rfl ?_
  rintro g_o6 w_o6 hg_o6 hn_o6 hs_o6
  have hz_o6 := hs_o6.size
  have hb := hb.trans (hs_o6.mono hb.size)
  have hL := hL_hb.below hb
  try have hB_o4 := Blk.below hB_o4 hs_o6
  try have hB_o5 := Blk.below hB_o5 hs_o6
  have hB_o6 := hn_o6
  have hl_o6 := hB_o6.lt
  refine Wl.nil ?_
  refine Wq.next hK_16 ?_
  refine Wc.seq fun _ hK_18 => ?_
  refine Wc.seq fun _ hK_19 => ?_
  refine Wc.region ?_
  refine Wl.y (y_assign rfl) rfl ?_
  refine Wl.nil ?_
  refine Wq.next hK_19 ?_
  refine Wc.block ?_
  refine Wc.loop (X := Nat) (fun i => [(5, .bool true), (6, .pointer (some ⟨g_o4, 0, none⟩)), (7, .pointer (some ⟨g_o5, 0, none⟩)), (8, .pointer (some ⟨g_o6, 0, none⟩)), (9, .int .i64 (i : Int))]) (fun i wr => i ≤ 6 ∧ Below w.heap.size w wr ∧ Blk wr g_o4 28 r.val.cells ∧ Blk wr g_o5 28 s.val.cells ∧ Blk wr g_o6 43 (cells64 6 (got r.val s.val i)) ∧ (∀ j, j < i → (tst r.val s.val j).2 = 0 ∧ ¬ (tst r.val s.val j).1.k = 0)) (fun i => 6 - i) (0) ?_ ?_ ?_
  · exact Sub.cons' rfl (by first | rfl | exact int_eq (by omega) | exact int_eq (by simp) | (simp; done)) (Sub.cons' rfl (by first | rfl | exact int_eq (by omega) | exact int_eq (by simp) | (simp; done)) (Sub.cons' rfl (by first | rfl | exact int_eq (by omega) | exact int_eq (by simp) | (simp; done)) (Sub.cons' rfl (by first | rfl | exact int_eq (by omega) | exact int_eq (by simp) | (simp; done)) (Sub.cons' rfl (by first | rfl | exact int_eq (by omega) | exact int_eq (by simp) | (simp; done)) (Sub.nil)))))
  · exact ⟨by omega, hb, hB_o4, hB_o5, hB_o6, fun j hj => by omega⟩
  ·
   rintro i wr hI_22 _ hL_21
   replace hI_22 : i ≤ 6 ∧ Below w.heap.size w wr ∧ Blk wr g_o4 28 r.val.cells ∧ Blk wr g_o5 28 s.val.cells ∧ Blk wr g_o6 43 (cells64 6 (got r.val s.val i)) ∧ (∀ j, j < i → (tst r.val s.val j).2 = 0 ∧ ¬ (tst r.val s.val j).1.k = 0) := hI_22
   obtain ⟨hi, hb, hB_o4, hB_o5, hB_o6, hgd⟩ := hI_22
   show Wc _ _ _ _ _ [(5, .bool true), (6, .pointer (some ⟨g_o4, 0, none⟩)), (7, .pointer (some ⟨g_o5, 0, none⟩)), (8, .pointer (some ⟨g_o6, 0, none⟩)), (9, .int .i64 (i : Int))] _
   have hL := hL_hb.below hb
   try have hzhb_L0 := hb.size
   have hlhB_o4_L0 := hB_o4.lt
   have hlhB_o5_L0 := hB_o5.lt
   have hlhB_o6_L0 := hB_o6.lt
   refine Wc.seq fun _ hK_23 => ?_
   refine Wc.seq fun _ hK_24 => ?_
   refine Wc.region ?_
   refine Wl.y (y_move rfl) rfl ?_
   refine Wl.y (y_lssi rfl rfl) rfl ?_
   refine Wl.nil ?_
   refine Wq.next hK_24 ?_
   refine Wc.cond rfl (fun c0_27 => ?_) (fun c0_27 => ?_)
   ·
    have c0_27_ := c0_27
    try simp only [decide_eq_true_eq, decide_eq_false_iff_not, beq_iff_eq, beq_eq_false_iff_ne, bne_iff_ne, bne_eq_false_iff_eq, Bool.not_eq_true', Bool.not_eq_false', Bool.not_eq_eq_eq_not, Bool.not_true, Bool.not_false, ne_eq, Int.not_lt, Int.not_le] at c0_27
    refine Wc.skip ?_
    refine Wq.next hK_23 ?_
    refine Wc.seq fun _ hK_28 => ?_
    refine Wc.block ?_
    refine Wc.seq fun _ hK_29 => ?_
    refine Wc.meet (X := Nat) (fun gt => [(5, .bool true), (6, .pointer (some ⟨g_o4, 0, none⟩)), (7, .pointer (some ⟨g_o5, 0, none⟩)), (8, .pointer (some ⟨g_o6, 0, none⟩)), (9, .int .i64 (i : Int)), (10, .pointer (some ⟨gt, 0, none⟩)), (11, .int .i64 (tst r.val s.val i).2)]) (fun gt wr => Below w.heap.size w wr ∧ Blk wr g_o4 28 r.val.cells ∧ Blk wr g_o5 28 s.val.cells ∧ Blk wr g_o6 43 (cells64 6 (got r.val s.val i)) ∧ Blk wr gt 28 (tst r.val s.val i).1.cells) (fun _ hM_30 => ?_) ?_
    ·
     refine Wc.any (n := 13) (fun w' => Below w.heap.size w w' ∧ Blk w' g_o4 28 r.val.cells ∧ Blk w' g_o5 28 s.val.cells) #[false, false, false, false, false, false, false, false, false, false, false, false, false] (by kernel_rfl) rfl (by kernel_rfl) ?_
     refine Wa.drew ?_
     rintro w_g7 hs_g7
     have hz_g7 := hs_g7.size
     have hb := hb.trans (hs_g7.mono hb.size)
     have hL := hL_hb.below hb
     try have hB_o4 := Blk.below hB_o4 hs_g7
     try have hB_o5 := Blk.below hB_o5 hs_g7
     try have hB_o6 := Blk.below hB_o6 hs_g7
     refine Wa.take (i := 1) #[false, true, false, false, false, false, false, false, false, false, false, false, false] rfl (by kernel_rfl) (fun _ _ _ h => h) rfl (fun wq hq => Yl.ld (y_move rfl)) ⟨hb, hB_o4, hB_o5⟩ ?_
     refine Wa.take (i := 4) #[false, true, false, false, true, false, false, false, false, false, false, false, false] rfl (by kernel_rfl) (fun _ _ _ h => h) rfl (fun wq hq => l_loadS Tryz.underlying28 (by kernel_rfl) rfl (by obtain ⟨hq, hB_o4, hB_o5⟩ := hq; first | exact fun j u hu => hB_o4.at hu | exact fun j u hu => hB_o5.at hu | assumption)) ⟨hb, hB_o4, hB_o5⟩ ?_
     refine Wa.take (i := 5) #[false, true, false, false, true, true, false, false, false, false, false, false, false] rfl (by kernel_rfl) (fun _ _ _ h => h) rfl (fun wq hq => l_loadS Tryz.underlying28 (by kernel_rfl) rfl (by obtain ⟨hq, hB_o4, hB_o5⟩ := hq; first | exact fun j u hu => hB_o4.at hu | exact fun j u hu => hB_o5.at hu | assumption)) ⟨hb, hB_o4, hB_o5⟩ ?_
     refine Wa.some (rs := [0, 10]) (by kernel_rfl) rfl ?_
     refine Ws.cons #[true, true, false, false, true, true, false, false, false, false, false, false, false] rfl rfl (fun _ hK_34 => ?_) ?_
     ·
      refine Wl.call txt16LawG rfl rfl (ops_r _) rfl ?_
      rintro _ w_k3 ⟨⟨gk, rfl, hgk, hB_k3⟩, hs_k3⟩
      have hz_k3 := hs_k3.size
      have hb := hb.trans (hs_k3.mono hb.size)
      have hL := hL_hb.below hb
      try have hB_o4 := Blk.below hB_o4 hs_k3
      try have hB_o5 := Blk.below hB_o5 hs_k3
      try have hB_o6 := Blk.below hB_o6 hs_k3
      refine Wl.nil ?_
      refine Wq.back hK_34 ⟨hb, hB_o4, hB_o5⟩ ?_
      refine Wa.take (i := 2) #[true, true, true, false, true, true, false, false, false, false, false, false, false] rfl (by kernel_rfl) (fun _ _ _ h => h) rfl (fun wq hq => Yl.ld (y_indexAddr Tryz.underlying30 sz9LawG rfl rfl (by omega) (by omega))) ⟨hb, hB_o4, hB_o5⟩ ?_
      refine Wa.some (rs := [3, 10]) (by kernel_rfl) rfl ?_
      refine Ws.cons #[true, true, true, true, true, true, false, false, false, false, false, false, false] rfl rfl (fun _ hK_37 => ?_) ?_
      ·
       obtain ⟨p, v, hpe, hv, hcell⟩ := (hB_k3.rd 11 1 rfl).one (i := i) (by omega)
       cases hpe
       have hve := strs_at hv
       subst hve
       refine Wl.l (l_load one9LawG rfl (by exact at1 hcell)) rfl ?_
       refine Wl.nil ?_
       refine Wq.back hK_37 ⟨hb, hB_o4, hB_o5⟩ ?_
       refine Wa.some (rs := [6, 10]) (by kernel_rfl) rfl ?_
       refine Ws.cons #[true, true, true, true, true, true, true, false, false, false, false, false, false] rfl rfl (fun _ hK_39 => ?_) ?_
       ·
        refine Wl.call txt17LawG rfl rfl (Test_r _ _ _ o.val o'.val _) rfl ?_
        rintro _ w_k4 ⟨rfl, hs_k4⟩
        have hz_k4 := hs_k4.size
        have hb := hb.trans (hs_k4.mono hb.size)
        have hL := hL_hb.below hb
        try have hB_o4 := Blk.below hB_o4 hs_k4
        try have hB_o5 := Blk.below hB_o5 hs_k4
        try have hB_o6 := Blk.below hB_o6 hs_k4
        refine Wl.nil ?_
        refine Wq.back hK_39 ⟨hb, hB_o4, hB_o5⟩ ?_
        refine Wa.take (i := 7) #[true, true, true, true, true, true, true, true, false, false, false, false, false] rfl (by kernel_rfl) (fun _ _ _ h => h) rfl (fun wq hq => Yl.ld (y_move rfl)) ⟨hb, hB_o4, hB_o5⟩ ?_
        refine Wa.take (i := 8) #[true, true, true, true, true, true, true, true, true, false, false, false, false] rfl (by kernel_rfl) (fun _ _ _ h => h) rfl (fun wq hq => Yl.ld (y_extract rfl rfl)) ⟨hb, hB_o4, hB_o5⟩ ?_
        refine Wa.take (i := 9) #[true, true, true, true, true, true, true, true, true, true, false, false, false] rfl (by kernel_rfl) (fun _ _ _ h => h) rfl (fun wq hq => Yl.ld (y_extract rfl rfl)) ⟨hb, hB_o4, hB_o5⟩ ?_
        refine Wa.some (rs := [10]) (by kernel_rfl) rfl ?_
        refine Ws.cons #[true, true, true, true, true, true, true, true, true, true, true, false, false] rfl rfl (fun _ hK_44 => ?_) ?_
        ·
         refine Wl.allocN (z := (.agg #[(.int .i64 0), (.int .i64 0), (.float .f64 0), (str [])])) (by kernel_rfl) rfl ?_
         rintro g_o14 w_o14 hg_o14 hn_o14 hs_o14
         have hz_o14 := hs_o14.size
         have hb := hb.trans (hs_o14.mono hb.size)
         have hL := hL_hb.below hb
         try have hB_o4 := Blk.below hB_o4 hs_o14
         try have hB_o5 := Blk.below hB_o5 hs_o14
         try have hB_o6 := Blk.below hB_o6 hs_o14
         have hB_o14 := hn_o14
         have hl_o14 := hB_o14.lt
         refine Wl.nil ?_
         refine Wq.back hK_44 ⟨hb, hB_o4, hB_o5⟩ ?_
         refine Wa.some (rs := [11]) (by kernel_rfl) rfl ?_
         refine Ws.cons #[true, true, true, true, true, true, true, true, true, true, true, true, false] rfl rfl (fun _ hK_46 => ?_) ?_
         ·
          refine Wl.storeS (by kernel_rfl) rfl rfl hB_o14 rfl rfl ?_
          rintro w_s2 hn_s2 hg_s2
          have hz_s2 := hg_s2.size
          have hb := below_blk hb hg_s2 hb.size (by omega)
          have hL := hL_hb.below hb
          try have hB_o4 := hB_o4.over hg_s2 (by omega)
          try have hB_o5 := hB_o5.over hg_s2 (by omega)
          try have hB_o6 := hB_o6.over hg_s2 (by omega)
          have hB_o14 := hn_s2
          refine Wl.nil ?_
          refine Wq.back hK_46 ⟨hb, hB_o4, hB_o5⟩ ?_
          refine Wa.take (i := 12) #[true, true, true, true, true, true, true, true, true, true, true, true, true] rfl (by kernel_rfl) (fun _ _ _ h => h) rfl (fun wq hq => Yl.ld (y_assign rfl)) ⟨hb, hB_o4, hB_o5⟩ ?_
          refine Wa.done (by kernel_rfl) ?_
          refine Wq.meet hM_30 (g_o14) (Sub.cons' rfl (by first | rfl | exact int_eq (by omega) | exact int_eq (by simp) | (simp; done)) (Sub.cons' rfl (by first | rfl | exact int_eq (by omega) | exact int_eq (by simp) | (simp; done)) (Sub.cons' rfl (by first | rfl | exact int_eq (by omega) | exact int_eq (by simp) | (simp; done)) (Sub.cons' rfl (by first | rfl | exact int_eq (by omega) | exact int_eq (by simp) | (simp; done)) (Sub.cons' rfl (by first | rfl | exact int_eq (by omega) | exact int_eq (by simp) | (simp; done)) (Sub.cons' rfl (by first | rfl | exact int_eq (by omega) | exact int_eq (by simp) | (simp; done)) (Sub.cons' rfl (by first | rfl | exact int_eq (by omega) | exact int_eq (by simp) | (simp; done)) (Sub.nil)))))))) ?_
          exact ⟨hb, hB_o4, hB_o5, hB_o6, hB_o14⟩
         exact Ws.nil
        exact Ws.nil
       refine Ws.cons #[true, true, true, true, true, true, false, false, false, false, true, false, false] rfl rfl (fun _ hK_48 => ?_) ?_
       ·
        refine Wl.allocN (z := (.agg #[(.int .i64 0), (.int .i64 0), (.float .f64 0), (str [])])) (by kernel_rfl) rfl ?_
        rintro g_o14 w_o14 hg_o14 hn_o14 hs_o14
        have hz_o14 := hs_o14.size
        have hb := hb.trans (hs_o14.mono hb.size)
        have hL := hL_hb.below hb
        try have hB_o4 := Blk.below hB_o4 hs_o14
        try have hB_o5 := Blk.below hB_o5 hs_o14
        try have hB_o6 := Blk.below hB_o6 hs_o14
        have hB_o14 := hn_o14
        have hl_o14 := hB_o14.lt
        refine Wl.nil ?_
        refine Wq.back hK_48 ⟨hb, hB_o4, hB_o5⟩ ?_
        refine Wa.some (rs := [6]) (by kernel_rfl) rfl ?_
        refine Ws.cons #[true, true, true, true, true, true, true, false, false, false, true, false, false] rfl rfl (fun _ hK_50 => ?_) ?_
        ·
         refine Wl.call txt17LawG rfl rfl (Test_r _ _ _ o.val o'.val _) rfl ?_
         rintro _ w_k4 ⟨rfl, hs_k4⟩
         have hz_k4 := hs_k4.size
         have hb := hb.trans (hs_k4.mono hb.size)
         have hL := hL_hb.below hb
         try have hB_o4 := Blk.below hB_o4 hs_k4
         try have hB_o5 := Blk.below hB_o5 hs_k4
         try have hB_o6 := Blk.below hB_o6 hs_k4
         try have hB_o14 := Blk.below hB_o14 hs_k4
         refine Wl.nil ?_
         refine Wq.back hK_50 ⟨hb, hB_o4, hB_o5⟩ ?_
         refine Wa.take (i := 7) #[true, true, true, true, true, true, true, true, false, false, true, false, false] rfl (by kernel_rfl) (fun _ _ _ h => h) rfl (fun wq hq => Yl.ld (y_move rfl)) ⟨hb, hB_o4, hB_o5⟩ ?_
         refine Wa.take (i := 8) #[true, true, true, true, true, true, true, true, true, false, true, false, false] rfl (by kernel_rfl) (fun _ _ _ h => h) rfl (fun wq hq => Yl.ld (y_extract rfl rfl)) ⟨hb, hB_o4, hB_o5⟩ ?_
         refine Wa.take (i := 9) #[true, true, true, true, true, true, true, true, true, true, true, false, false] rfl (by kernel_rfl) (fun _ _ _ h => h) rfl (fun wq hq => Yl.ld (y_extract rfl rfl)) ⟨hb, hB_o4, hB_o5⟩ ?_
         refine Wa.some (rs := [11]) (by kernel_rfl) rfl ?_
         refine Ws.cons #[true, true, true, true, true, true, true, true, true, true, true, true, false] rfl rfl (fun _ hK_55 => ?_) ?_
         ·
          refine Wl.storeS (by kernel_rfl) rfl rfl hB_o14 rfl rfl ?_
          rintro w_s2 hn_s2 hg_s2
          have hz_s2 := hg_s2.size
          have hb := below_blk hb hg_s2 hb.size (by omega)
          have hL := hL_hb.below hb
          try have hB_o4 := hB_o4.over hg_s2 (by omega)
          try have hB_o5 := hB_o5.over hg_s2 (by omega)
          try have hB_o6 := hB_o6.over hg_s2 (by omega)
          have hB_o14 := hn_s2
          refine Wl.nil ?_
          refine Wq.back hK_55 ⟨hb, hB_o4, hB_o5⟩ ?_
          refine Wa.take (i := 12) #[true, true, true, true, true, true, true, true, true, true, true, true, true] rfl (by kernel_rfl) (fun _ _ _ h => h) rfl (fun wq hq => Yl.ld (y_assign rfl)) ⟨hb, hB_o4, hB_o5⟩ ?_
          refine Wa.done (by kernel_rfl) ?_
          refine Wq.meet hM_30 (g_o14) (Sub.cons' rfl (by first | rfl | exact int_eq (by omega) | exact int_eq (by simp) | (simp; done)) (Sub.cons' rfl (by first | rfl | exact int_eq (by omega) | exact int_eq (by simp) | (simp; done)) (Sub.cons' rfl (by first | rfl | exact int_eq (by omega) | exact int_eq (by simp) | (simp; done)) (Sub.cons' rfl (by first | rfl | exact int_eq (by omega) | exact int_eq (by simp) | (simp; done)) (Sub.cons' rfl (by first | rfl | exact int_eq (by omega) | exact int_eq (by simp) | (simp; done)) (Sub.cons' rfl (by first | rfl | exact int_eq (by omega) | exact int_eq (by simp) | (simp; done)) (Sub.cons' rfl (by first | rfl | exact int_eq (by omega) | exact int_eq (by simp) | (simp; done)) (Sub.nil)))))))) ?_
          exact ⟨hb, hB_o4, hB_o5, hB_o6, hB_o14⟩
         exact Ws.nil
        exact Ws.nil
       exact Ws.nil
      refine Ws.cons #[true, true, true, false, true, true, false, false, false, false, true, false, false] rfl rfl (fun _ hK_57 => ?_) ?_
      ·
       refine Wl.allocN (z := (.agg #[(.int .i64 0), (.int .i64 0), (.float .f64 0), (str [])])) (by kernel_rfl) rfl ?_
       rintro g_o14 w_o14 hg_o14 hn_o14 hs_o14
       have hz_o14 := hs_o14.size
       have hb := hb.trans (hs_o14.mono hb.size)
       have hL := hL_hb.below hb
       try have hB_o4 := Blk.below hB_o4 hs_o14
       try have hB_o5 := Blk.below hB_o5 hs_o14
       try have hB_o6 := Blk.below hB_o6 hs_o14
       try have hB_k3 := Blk.below hB_k3 hs_o14
       have hB_o14 := hn_o14
       have hl_o14 := hB_o14.lt
       refine Wl.nil ?_
       refine Wq.back hK_57 ⟨hb, hB_o4, hB_o5⟩ ?_
       refine Wa.some (rs := [3]) (by kernel_rfl) rfl ?_
       refine Ws.cons #[true, true, true, true, true, true, false, false, false, false, true, false, false] rfl rfl (fun _ hK_59 => ?_) ?_
       ·
        obtain ⟨p, v, hpe, hv, hcell⟩ := (hB_k3.rd 11 1 rfl).one (i := i) (by omega)
        cases hpe
        have hve := strs_at hv
        subst hve
        refine Wl.l (l_load one9LawG rfl (by exact at1 hcell)) rfl ?_
        refine Wl.nil ?_
        refine Wq.back hK_59 ⟨hb, hB_o4, hB_o5⟩ ?_
        refine Wa.some (rs := [6]) (by kernel_rfl) rfl ?_
        refine Ws.cons #[true, true, true, true, true, true, true, false, false, false, true, false, false] rfl rfl (fun _ hK_61 => ?_) ?_
        ·
         refine Wl.call txt17LawG rfl rfl (Test_r _ _ _ o.val o'.val _) rfl ?_
         rintro _ w_k4 ⟨rfl, hs_k4⟩
         have hz_k4 := hs_k4.size
         have hb := hb.trans (hs_k4.mono hb.size)
         have hL := hL_hb.below hb
         try have hB_o4 := Blk.below hB_o4 hs_k4
         try have hB_o5 := Blk.below hB_o5 hs_k4
         try have hB_o6 := Blk.below hB_o6 hs_k4
         try have hB_o14 := Blk.below hB_o14 hs_k4
         refine Wl.nil ?_
         refine Wq.back hK_61 ⟨hb, hB_o4, hB_o5⟩ ?_
         refine Wa.take (i := 7) #[true, true, true, true, true, true, true, true, false, false, true, false, false] rfl (by kernel_rfl) (fun _ _ _ h => h) rfl (fun wq hq => Yl.ld (y_move rfl)) ⟨hb, hB_o4, hB_o5⟩ ?_
         refine Wa.take (i := 8) #[true, true, true, true, true, true, true, true, true, false, true, false, false] rfl (by kernel_rfl) (fun _ _ _ h => h) rfl (fun wq hq => Yl.ld (y_extract rfl rfl)) ⟨hb, hB_o4, hB_o5⟩ ?_
         refine Wa.take (i := 9) #[true, true, true, true, true, true, true, true, true, true, true, false, false] rfl (by kernel_rfl) (fun _ _ _ h => h) rfl (fun wq hq => Yl.ld (y_extract rfl rfl)) ⟨hb, hB_o4, hB_o5⟩ ?_
         refine Wa.some (rs := [11]) (by kernel_rfl) rfl ?_
         refine Ws.cons #[true, true, true, true, true, true, true, true, true, true, true, true, false] rfl rfl (fun _ hK_66 => ?_) ?_
         ·
          refine Wl.storeS (by kernel_rfl) rfl rfl hB_o14 rfl rfl ?_
          rintro w_s2 hn_s2 hg_s2
          have hz_s2 := hg_s2.size
          have hb := below_blk hb hg_s2 hb.size (by omega)
          have hL := hL_hb.below hb
          try have hB_o4 := hB_o4.over hg_s2 (by omega)
          try have hB_o5 := hB_o5.over hg_s2 (by omega)
          try have hB_o6 := hB_o6.over hg_s2 (by omega)
          have hB_o14 := hn_s2
          refine Wl.nil ?_
          refine Wq.back hK_66 ⟨hb, hB_o4, hB_o5⟩ ?_
          refine Wa.take (i := 12) #[true, true, true, true, true, true, true, true, true, true, true, true, true] rfl (by kernel_rfl) (fun _ _ _ h => h) rfl (fun wq hq => Yl.ld (y_assign rfl)) ⟨hb, hB_o4, hB_o5⟩ ?_
          refine Wa.done (by kernel_rfl) ?_
          refine Wq.meet hM_30 (g_o14) (Sub.cons' rfl (by first | rfl | exact int_eq (by omega) | exact int_eq (by simp) | (simp; done)) (Sub.cons' rfl (by first | rfl | exact int_eq (by omega) | exact int_eq (by simp) | (simp; done)) (Sub.cons' rfl (by first | rfl | exact int_eq (by omega) | exact int_eq (by simp) | (simp; done)) (Sub.cons' rfl (by first | rfl | exact int_eq (by omega) | exact int_eq (by simp) | (simp; done)) (Sub.cons' rfl (by first | rfl | exact int_eq (by omega) | exact int_eq (by simp) | (simp; done)) (Sub.cons' rfl (by first | rfl | exact int_eq (by omega) | exact int_eq (by simp) | (simp; done)) (Sub.cons' rfl (by first | rfl | exact int_eq (by omega) | exact int_eq (by simp) | (simp; done)) (Sub.nil)))))))) ?_
          exact ⟨hb, hB_o4, hB_o5, hB_o6, hB_o14⟩
         exact Ws.nil
        exact Ws.nil
       exact Ws.nil
      exact Ws.nil
     refine Ws.cons #[false, true, false, false, true, true, false, false, false, false, true, false, false] rfl rfl (fun _ hK_68 => ?_) ?_
     ·
      refine Wl.allocN (z := (.agg #[(.int .i64 0), (.int .i64 0), (.float .f64 0), (str [])])) (by kernel_rfl) rfl ?_
      rintro g_o14 w_o14 hg_o14 hn_o14 hs_o14
      have hz_o14 := hs_o14.size
      have hb := hb.trans (hs_o14.mono hb.size)
      have hL := hL_hb.below hb
      try have hB_o4 := Blk.below hB_o4 hs_o14
      try have hB_o5 := Blk.below hB_o5 hs_o14
      try have hB_o6 := Blk.below hB_o6 hs_o14
      have hB_o14 := hn_o14
      have hl_o14 := hB_o14.lt
      refine Wl.nil ?_
      refine Wq.back hK_68 ⟨hb, hB_o4, hB_o5⟩ ?_
      refine Wa.some (rs := [0]) (by kernel_rfl) rfl ?_
      refine Ws.cons #[true, true, false, false, true, true, false, false, false, false, true, false, false] rfl rfl (fun _ hK_70 => ?_) ?_
      ·
       refine Wl.call txt16LawG rfl rfl (ops_r _) rfl ?_
       rintro _ w_k3 ⟨⟨gk, rfl, hgk, hB_k3⟩, hs_k3⟩
       have hz_k3 := hs_k3.size
       have hb := hb.trans (hs_k3.mono hb.size)
       have hL := hL_hb.below hb
       try have hB_o4 := Blk.below hB_o4 hs_k3
       try have hB_o5 := Blk.below hB_o5 hs_k3
       try have hB_o6 := Blk.below hB_o6 hs_k3
       try have hB_o14 := Blk.below hB_o14 hs_k3
       refine Wl.nil ?_
       refine Wq.back hK_70 ⟨hb, hB_o4, hB_o5⟩ ?_
       refine Wa.take (i := 2) #[true, true, true, false, true, true, false, false, false, false, true, false, false] rfl (by kernel_rfl) (fun _ _ _ h => h) rfl (fun wq hq => Yl.ld (y_indexAddr Tryz.underlying30 sz9LawG rfl rfl (by omega) (by omega))) ⟨hb, hB_o4, hB_o5⟩ ?_
       refine Wa.some (rs := [3]) (by kernel_rfl) rfl ?_
       refine Ws.cons #[true, true, true, true, true, true, false, false, false, false, true, false, false] rfl rfl (fun _ hK_73 => ?_) ?_
       ·
        obtain ⟨p, v, hpe, hv, hcell⟩ := (hB_k3.rd 11 1 rfl).one (i := i) (by omega)
        cases hpe
        have hve := strs_at hv
        subst hve
        refine Wl.l (l_load one9LawG rfl (by exact at1 hcell)) rfl ?_
        refine Wl.nil ?_
        refine Wq.back hK_73 ⟨hb, hB_o4, hB_o5⟩ ?_
        refine Wa.some (rs := [6]) (by kernel_rfl) rfl ?_
        refine Ws.cons #[true, true, true, true, true, true, true, false, false, false, true, false, false] rfl rfl (fun _ hK_75 => ?_) ?_
        ·
         refine Wl.call txt17LawG rfl rfl (Test_r _ _ _ o.val o'.val _) rfl ?_
         rintro _ w_k4 ⟨rfl, hs_k4⟩
         have hz_k4 := hs_k4.size
         have hb := hb.trans (hs_k4.mono hb.size)
         have hL := hL_hb.below hb
         try have hB_o4 := Blk.below hB_o4 hs_k4
         try have hB_o5 := Blk.below hB_o5 hs_k4
         try have hB_o6 := Blk.below hB_o6 hs_k4
         try have hB_o14 := Blk.below hB_o14 hs_k4
         refine Wl.nil ?_
         refine Wq.back hK_75 ⟨hb, hB_o4, hB_o5⟩ ?_
         refine Wa.take (i := 7) #[true, true, true, true, true, true, true, true, false, false, true, false, false] rfl (by kernel_rfl) (fun _ _ _ h => h) rfl (fun wq hq => Yl.ld (y_move rfl)) ⟨hb, hB_o4, hB_o5⟩ ?_
         refine Wa.take (i := 8) #[true, true, true, true, true, true, true, true, true, false, true, false, false] rfl (by kernel_rfl) (fun _ _ _ h => h) rfl (fun wq hq => Yl.ld (y_extract rfl rfl)) ⟨hb, hB_o4, hB_o5⟩ ?_
         refine Wa.take (i := 9) #[true, true, true, true, true, true, true, true, true, true, true, false, false] rfl (by kernel_rfl) (fun _ _ _ h => h) rfl (fun wq hq => Yl.ld (y_extract rfl rfl)) ⟨hb, hB_o4, hB_o5⟩ ?_
         refine Wa.some (rs := [11]) (by kernel_rfl) rfl ?_
         refine Ws.cons #[true, true, true, true, true, true, true, true, true, true, true, true, false] rfl rfl (fun _ hK_80 => ?_) ?_
         ·
          refine Wl.storeS (by kernel_rfl) rfl rfl hB_o14 rfl rfl ?_
          rintro w_s2 hn_s2 hg_s2
          have hz_s2 := hg_s2.size
          have hb := below_blk hb hg_s2 hb.size (by omega)
          have hL := hL_hb.below hb
          try have hB_o4 := hB_o4.over hg_s2 (by omega)
          try have hB_o5 := hB_o5.over hg_s2 (by omega)
          try have hB_o6 := hB_o6.over hg_s2 (by omega)
          have hB_o14 := hn_s2
          refine Wl.nil ?_
          refine Wq.back hK_80 ⟨hb, hB_o4, hB_o5⟩ ?_
          refine Wa.take (i := 12) #[true, true, true, true, true, true, true, true, true, true, true, true, true] rfl (by kernel_rfl) (fun _ _ _ h => h) rfl (fun wq hq => Yl.ld (y_assign rfl)) ⟨hb, hB_o4, hB_o5⟩ ?_
          refine Wa.done (by kernel_rfl) ?_
          refine Wq.meet hM_30 (g_o14) (Sub.cons' rfl (by first | rfl | exact int_eq (by omega) | exact int_eq (by simp) | (simp; done)) (Sub.cons' rfl (by first | rfl | exact int_eq (by omega) | exact int_eq (by simp) | (simp; done)) (Sub.cons' rfl (by first | rfl | exact int_eq (by omega) | exact int_eq (by simp) | (simp; done)) (Sub.cons' rfl (by first | rfl | exact int_eq (by omega) | exact int_eq (by simp) | (simp; done)) (Sub.cons' rfl (by first | rfl | exact int_eq (by omega) | exact int_eq (by simp) | (simp; done)) (Sub.cons' rfl (by first | rfl | exact int_eq (by omega) | exact int_eq (by simp) | (simp; done)) (Sub.cons' rfl (by first | rfl | exact int_eq (by omega) | exact int_eq (by simp) | (simp; done)) (Sub.nil)))))))) ?_
          exact ⟨hb, hB_o4, hB_o5, hB_o6, hB_o14⟩
         exact Ws.nil
        exact Ws.nil
       exact Ws.nil
      exact Ws.nil
     exact Ws.nil
    ·
     rintro gt wr hI_82
     replace hI_82 : Below w.heap.size w wr ∧ Blk wr g_o4 28 r.val.cells ∧ Blk wr g_o5 28 s.val.cells ∧ Blk wr g_o6 43 (cells64 6 (got r.val s.val i)) ∧ Blk wr gt 28 (tst r.val s.val i).1.cells := hI_82
     obtain ⟨hb, hB_o4, hB_o5, hB_o6, hB_gt⟩ := hI_82
     show Wq _ _ _ _ [(5, .bool true), (6, .pointer (some ⟨g_o4, 0, none⟩)), (7, .pointer (some ⟨g_o5, 0, none⟩)), (8, .pointer (some ⟨g_o6, 0, none⟩)), (9, .int .i64 (i : Int)), (10, .pointer (some ⟨gt, 0, none⟩)), (11, .int .i64 (tst r.val s.val i).2)] _
     have hL := hL_hb.below hb
     try have hzhb_g7 := hb.size
     have hlhB_o4_g7 := hB_o4.lt
     have hlhB_o5_g7 := hB_o5.lt
     have hlhB_o6_g7 := hB_o6.lt
     have hlhB_gt_g7 := hB_gt.lt
     have hi6 : i < 6 := by omega
     refine Wq.next hK_29 ?_
     refine Wc.seq fun _ hK_83 => ?_
     refine Wc.seq fun _ hK_84 => ?_
     refine Wc.region ?_
     refine Wl.y (y_move rfl) rfl ?_
     refine Wl.y (y_neqi rfl rfl) rfl ?_
     refine Wl.nil ?_
     refine Wq.next hK_84 ?_
     refine Wc.cond rfl (fun c1_87 => ?_) (fun c1_87 => ?_)
     ·
      have c1_87_ := c1_87
      try simp only [decide_eq_true_eq, decide_eq_false_iff_not, beq_iff_eq, beq_eq_false_iff_ne, bne_iff_ne, bne_eq_false_iff_eq, Bool.not_eq_true', Bool.not_eq_false', Bool.not_eq_eq_eq_not, Bool.not_true, Bool.not_false, ne_eq, Int.not_lt, Int.not_le] at c1_87
      refine Wc.seq fun _ hK_88 => ?_
      refine Wc.region ?_
      refine Wl.y (y_move rfl) rfl ?_
      refine Wl.y (y_move rfl) rfl ?_
      refine Wl.guardT rfl rfl rfl (fun g_91 => ?_) (fun g_91 => ?_)
      ·
       have g_91_ := g_91
       try simp only [decide_eq_true_eq, decide_eq_false_iff_not, beq_iff_eq, beq_eq_false_iff_ne, bne_iff_ne, bne_eq_false_iff_eq, Bool.not_eq_true', Bool.not_eq_false', Bool.not_eq_eq_eq_not, Bool.not_true, Bool.not_false, ne_eq, Int.not_lt, Int.not_le] at g_91
       refine Wl.y (y_fieldAddr (fa28_0LawG _) rfl) rfl ?_
       refine Wl.on' rfl rfl g_91_ ?_
       refine Wl.l (l_load one3LawG rfl (by first | exact hB_o4.at rfl | exact hB_o5.at rfl | exact hB_o6.at rfl | exact hB_gt.at rfl | exact hB_o4.cell 0 | exact hB_o5.cell 0 | exact hB_o6.cell 0 | exact hB_gt.cell 0 | assumption)) rfl ?_
       refine Wl.on' rfl rfl g_91_ ?_
       refine Wl.y (y_eqli rfl rfl) rfl ?_
       refine Wl.y (y_pickT rfl g_91_ rfl) rfl ?_
       refine Wl.y (y_move rfl) rfl ?_
       refine Wl.guardT rfl rfl rfl (fun g_97 => ?_) (fun g_97 => ?_)
       ·
        have g_97_ := g_97
        try simp only [decide_eq_true_eq, decide_eq_false_iff_not, beq_iff_eq, beq_eq_false_iff_ne, bne_iff_ne, bne_eq_false_iff_eq, Bool.not_eq_true', Bool.not_eq_false', Bool.not_eq_eq_eq_not, Bool.not_true, Bool.not_false, ne_eq, Int.not_lt, Int.not_le] at g_97
        refine Wl.y (y_move rfl) rfl ?_
        refine Wl.on' rfl rfl g_97_ ?_
        refine Wl.y (y_eqli rfl rfl) rfl ?_
        refine Wl.on' rfl rfl g_97_ ?_
        refine Wl.y (y_move rfl) rfl ?_
        refine Wl.guardF rfl rfl rfl (fun g_101 => ?_) (fun g_101 => ?_)
        ·
         have g_101_ := g_101
         try simp only [decide_eq_true_eq, decide_eq_false_iff_not, beq_iff_eq, beq_eq_false_iff_ne, bne_iff_ne, bne_eq_false_iff_eq, Bool.not_eq_true', Bool.not_eq_false', Bool.not_eq_eq_eq_not, Bool.not_true, Bool.not_false, ne_eq, Int.not_lt, Int.not_le] at g_101
         refine Wl.off' rfl rfl g_101_ rfl rfl ?_
         refine Wl.off' rfl rfl g_101_ rfl rfl ?_
         refine Wl.on' rfl rfl g_97_ ?_
         refine Wl.y (y_pickT rfl g_101_ rfl) rfl ?_
         refine Wl.on' rfl rfl g_97_ ?_
         refine Wl.y (y_move rfl) rfl ?_
         refine Wl.off' rfl rfl rfl rfl rfl ?_
         refine Wl.off' rfl rfl rfl rfl rfl ?_
         refine Wl.off' rfl rfl rfl rfl rfl ?_
         refine Wl.on' rfl rfl g_97_ ?_
         refine Wl.y (y_pickT rfl rfl rfl) rfl ?_
         refine Wl.y (y_pickT rfl g_97_ rfl) rfl ?_
         refine Wl.y (y_assign rfl) rfl ?_
         refine Wl.nil ?_
         refine Wq.next hK_88 ?_
         refine Wc.ret ?_
         refine Wq.then_ret (Wq.block_ret (Wq.then_ret (Wq.then_ret (Wq.block_ret (Wq.then_ret ?_)))))
         refine ret1 rfl rfl ?_
         first | exact ⟨_, rfl, rfl, hb⟩ | exact ⟨_, rfl, bool_eq (nan_law hG MISSING_c4_), hb⟩ | exact ⟨_, rfl, bool_eq (by rw [hs3]; simp), hb⟩ | exact ⟨_, rfl, bool_eq (by have h := tst_null hi6 c1_87 MISSING_c2; have h2 := MISSING_o41; simp; omega), hb⟩ | exact ⟨_, rfl, bool_eq (by have h := (tst_err hi6 c1_87).2; have h4 := g_101; have h5 := MISSING_l7_; simp_all), hb⟩
        ·
         have g_101_ := g_101
         try simp only [decide_eq_true_eq, decide_eq_false_iff_not, beq_iff_eq, beq_eq_false_iff_ne, bne_iff_ne, bne_eq_false_iff_eq, Bool.not_eq_true', Bool.not_eq_false', Bool.not_eq_eq_eq_not, Bool.not_true, Bool.not_false, ne_eq, Int.not_lt, Int.not_le] at g_101
         refine Wl.l (l_loadS Tryz.underlying28 (by kernel_rfl) rfl (by first | exact fun j u hu => hB_o4.at hu | exact fun j u hu => hB_o5.at hu | exact fun j u hu => hB_o6.at hu | exact fun j u hu => hB_gt.at hu | assumption)) rfl ?_
         refine Wl.on' rfl rfl g_101_ ?_
         refine Wl.call txt22LawG rfl rfl (Right_r _ o.val _) rfl ?_
         rintro _ w_k5 ⟨rfl, hs_k5⟩
         have hz_k5 := hs_k5.size
         have hb := hb.trans (hs_k5.mono hb.size)
         have hL := hL_hb.below hb
         try have hB_o4 := Blk.below hB_o4 hs_k5
         try have hB_o5 := Blk.below hB_o5 hs_k5
         try have hB_o6 := Blk.below hB_o6 hs_k5
         try have hB_gt := Blk.below hB_gt hs_k5
         refine Wl.on' rfl rfl g_101_ ?_
         refine Wl.y (y_not rfl) rfl ?_
         refine Wl.on' rfl rfl g_97_ ?_
         refine Wl.y (y_pickF rfl g_101_ rfl) rfl ?_
         refine Wl.on' rfl rfl g_97_ ?_
         refine Wl.y (y_move rfl) rfl ?_
         refine Wl.guardF rfl rfl rfl (fun g_112 => ?_) (fun g_112 => ?_)
         ·
          have g_112_ := g_112
          try simp only [decide_eq_true_eq, decide_eq_false_iff_not, beq_iff_eq, beq_eq_false_iff_ne, bne_iff_ne, bne_eq_false_iff_eq, Bool.not_eq_true', Bool.not_eq_false', Bool.not_eq_eq_eq_not, Bool.not_true, Bool.not_false, ne_eq, Int.not_lt, Int.not_le] at g_112
          refine Wl.off' rfl rfl g_112_ rfl rfl ?_
          refine Wl.off' rfl rfl g_112_ rfl rfl ?_
          refine Wl.on' rfl rfl g_97_ ?_
          refine Wl.y (y_pickT rfl g_112_ rfl) rfl ?_
          refine Wl.y (y_pickT rfl g_97_ rfl) rfl ?_
          refine Wl.y (y_assign rfl) rfl ?_
          refine Wl.nil ?_
          refine Wq.next hK_88 ?_
          refine Wc.ret ?_
          refine Wq.then_ret (Wq.block_ret (Wq.then_ret (Wq.then_ret (Wq.block_ret (Wq.then_ret ?_)))))
          refine ret1 rfl rfl ?_
          first | exact ⟨_, rfl, rfl, hb⟩ | exact ⟨_, rfl, bool_eq (nan_law hG MISSING_c4_), hb⟩ | exact ⟨_, rfl, bool_eq (by rw [hs3]; simp), hb⟩ | exact ⟨_, rfl, bool_eq (by have h := tst_null hi6 c1_87 MISSING_c2; have h2 := MISSING_o41; simp; omega), hb⟩ | exact ⟨_, rfl, bool_eq (by have h := (tst_err hi6 c1_87).2; have h4 := g_101; have h5 := g_112_; simp_all), hb⟩
         ·
          have g_112_ := g_112
          try simp only [decide_eq_true_eq, decide_eq_false_iff_not, beq_iff_eq, beq_eq_false_iff_ne, bne_iff_ne, bne_eq_false_iff_eq, Bool.not_eq_true', Bool.not_eq_false', Bool.not_eq_eq_eq_not, Bool.not_true, Bool.not_false, ne_eq, Int.not_lt, Int.not_le] at g_112
          refine Wl.l (l_loadS Tryz.underlying28 (by kernel_rfl) rfl (by first | exact fun j u hu => hB_o4.at hu | exact fun j u hu => hB_o5.at hu | exact fun j u hu => hB_o6.at hu | exact fun j u hu => hB_gt.at hu | assumption)) rfl ?_
          refine Wl.on' rfl rfl g_112_ ?_
          refine Wl.call txt22LawG rfl rfl (Right_r _ o'.val _) rfl ?_
          rintro _ w_k6 ⟨rfl, hs_k6⟩
          have hz_k6 := hs_k6.size
          have hb := hb.trans (hs_k6.mono hb.size)
          have hL := hL_hb.below hb
          refine Wl.on' rfl rfl g_112_ ?_
          refine Wl.y (y_not rfl) rfl ?_
          refine Wl.on' rfl rfl g_97_ ?_
          refine Wl.y (y_pickF rfl g_112_ rfl) rfl ?_
          refine Wl.y (y_pickT rfl g_97_ rfl) rfl ?_
          refine Wl.y (y_assign rfl) rfl ?_
          refine Wl.nil ?_
          refine Wq.next hK_88 ?_
          refine Wc.ret ?_
          refine Wq.then_ret (Wq.block_ret (Wq.then_ret (Wq.then_ret (Wq.block_ret (Wq.then_ret ?_)))))
          refine ret1 rfl rfl ?_
          first | exact ⟨_, rfl, rfl, hb⟩ | exact ⟨_, rfl, bool_eq (nan_law hG MISSING_c4_), hb⟩ | exact ⟨_, rfl, bool_eq (by rw [hs3]; simp), hb⟩ | exact ⟨_, rfl, bool_eq (by have h := tst_null hi6 c1_87 MISSING_c2; have h2 := MISSING_o41; simp; omega), hb⟩ | exact ⟨_, rfl, bool_eq (by have h := (tst_err hi6 c1_87).2; have h4 := g_101; have h5 := g_112_; simp_all), hb⟩
       ·
        have g_97_ := g_97
        try simp only [decide_eq_true_eq, decide_eq_false_iff_not, beq_iff_eq, beq_eq_false_iff_ne, bne_iff_ne, bne_eq_false_iff_eq, Bool.not_eq_true', Bool.not_eq_false', Bool.not_eq_eq_eq_not, Bool.not_true, Bool.not_false, ne_eq, Int.not_lt, Int.not_le] at g_97
        exact absurd g_97_ (by rw [(tst_err hi6 c1_87).1]; decide)
      ·
       have g_91_ := g_91
       try simp only [decide_eq_true_eq, decide_eq_false_iff_not, beq_iff_eq, beq_eq_false_iff_ne, bne_iff_ne, bne_eq_false_iff_eq, Bool.not_eq_true', Bool.not_eq_false', Bool.not_eq_eq_eq_not, Bool.not_true, Bool.not_false, ne_eq, Int.not_lt, Int.not_le] at g_91
       exact absurd g_91_ (by decide)
     ·
      have c1_87_ := c1_87
      try simp only [decide_eq_true_eq, decide_eq_false_iff_not, beq_iff_eq, beq_eq_false_iff_ne, bne_iff_ne, bne_eq_false_iff_eq, Bool.not_eq_true', Bool.not_eq_false', Bool.not_eq_eq_eq_not, Bool.not_true, Bool.not_false, ne_eq, Int.not_lt, Int.not_le] at c1_87
      refine Wc.skip ?_
      refine Wq.next hK_83 ?_
      refine Wc.seq fun _ hK_122 => ?_
      refine Wc.seq fun _ hK_123 => ?_
      refine Wc.region ?_
      refine Wl.y (y_fieldAddr (fa28_0LawG _) rfl) rfl ?_
      refine Wl.l (l_load one3LawG rfl (by first | exact hB_o4.at rfl | exact hB_o5.at rfl | exact hB_o6.at rfl | exact hB_gt.at rfl | exact hB_o4.cell 0 | exact hB_o5.cell 0 | exact hB_o6.cell 0 | exact hB_gt.cell 0 | assumption)) rfl ?_
      refine Wl.y (y_eqli rfl rfl) rfl ?_
      refine Wl.nil ?_
      refine Wq.next hK_123 ?_
      refine Wc.cond rfl (fun c2_127 => ?_) (fun c2_127 => ?_)
      ·
       have c2_127_ := c2_127
       try simp only [decide_eq_true_eq, decide_eq_false_iff_not, beq_iff_eq, beq_eq_false_iff_ne, bne_iff_ne, bne_eq_false_iff_eq, Bool.not_eq_true', Bool.not_eq_false', Bool.not_eq_eq_eq_not, Bool.not_true, Bool.not_false, ne_eq, Int.not_lt, Int.not_le] at c2_127
       refine Wc.seq fun _ hK_128 => ?_
       refine Wc.region ?_
       refine Wl.y (y_move rfl) rfl ?_
       refine Wl.y (y_move rfl) rfl ?_
       refine Wl.guardT rfl rfl rfl (fun g_131 => ?_) (fun g_131 => ?_)
       ·
        have g_131_ := g_131
        try simp only [decide_eq_true_eq, decide_eq_false_iff_not, beq_iff_eq, beq_eq_false_iff_ne, bne_iff_ne, bne_eq_false_iff_eq, Bool.not_eq_true', Bool.not_eq_false', Bool.not_eq_eq_eq_not, Bool.not_true, Bool.not_false, ne_eq, Int.not_lt, Int.not_le] at g_131
        refine Wl.y (y_fieldAddr (fa28_0LawG _) rfl) rfl ?_
        refine Wl.on' rfl rfl g_131_ ?_
        refine Wl.l (l_load one3LawG rfl (by first | exact hB_o4.at rfl | exact hB_o5.at rfl | exact hB_o6.at rfl | exact hB_gt.at rfl | exact hB_o4.cell 0 | exact hB_o5.cell 0 | exact hB_o6.cell 0 | exact hB_gt.cell 0 | assumption)) rfl ?_
        refine Wl.on' rfl rfl g_131_ ?_
        refine Wl.y (y_eqli rfl rfl) rfl ?_
        refine Wl.on' rfl rfl g_131_ ?_
        refine Wl.y (y_move rfl) rfl ?_
        refine Wl.guardF rfl rfl rfl (fun g_136 => ?_) (fun g_136 => ?_)
        ·
         have g_136_ := g_136
         try simp only [decide_eq_true_eq, decide_eq_false_iff_not, beq_iff_eq, beq_eq_false_iff_ne, bne_iff_ne, bne_eq_false_iff_eq, Bool.not_eq_true', Bool.not_eq_false', Bool.not_eq_eq_eq_not, Bool.not_true, Bool.not_false, ne_eq, Int.not_lt, Int.not_le] at g_136
         refine Wl.off' rfl rfl g_136_ rfl rfl ?_
         refine Wl.off' rfl rfl g_136_ rfl rfl ?_
         refine Wl.on' rfl rfl g_131_ ?_
         refine Wl.y (y_pickT rfl g_136_ rfl) rfl ?_
         refine Wl.y (y_pickT rfl g_131_ rfl) rfl ?_
         refine Wl.y (y_assign rfl) rfl ?_
         refine Wl.nil ?_
         refine Wq.next hK_128 ?_
         refine Wc.ret ?_
         refine Wq.then_ret (Wq.block_ret (Wq.then_ret (Wq.then_ret (Wq.block_ret (Wq.then_ret ?_)))))
         refine ret1 rfl rfl ?_
         first | exact ⟨_, rfl, rfl, hb⟩ | exact ⟨_, rfl, bool_eq (nan_law hG MISSING_c4_), hb⟩ | exact ⟨_, rfl, bool_eq (by rw [hs3]; simp), hb⟩ | exact ⟨_, rfl, bool_eq (by have h := tst_null hi6 c1_87 c2_127; have h2 := g_136; simp; omega), hb⟩ | exact ⟨_, rfl, bool_eq (by have h := (tst_err hi6 c1_87).2; have h4 := MISSING_l6; have h5 := MISSING_l7_; simp_all), hb⟩
        ·
         have g_136_ := g_136
         try simp only [decide_eq_true_eq, decide_eq_false_iff_not, beq_iff_eq, beq_eq_false_iff_ne, bne_iff_ne, bne_eq_false_iff_eq, Bool.not_eq_true', Bool.not_eq_false', Bool.not_eq_eq_eq_not, Bool.not_true, Bool.not_false, ne_eq, Int.not_lt, Int.not_le] at g_136
         refine Wl.y (y_fieldAddr (fa28_0LawG _) rfl) rfl ?_
         refine Wl.on' rfl rfl g_136_ ?_
         refine Wl.l (l_load one3LawG rfl (by first | exact hB_o4.at rfl | exact hB_o5.at rfl | exact hB_o6.at rfl | exact hB_gt.at rfl | exact hB_o4.cell 0 | exact hB_o5.cell 0 | exact hB_o6.cell 0 | exact hB_gt.cell 0 | assumption)) rfl ?_
         refine Wl.on' rfl rfl g_136_ ?_
         refine Wl.y (y_eqli rfl rfl) rfl ?_
         refine Wl.on' rfl rfl g_131_ ?_
         refine Wl.y (y_pickF rfl g_136_ rfl) rfl ?_
         refine Wl.y (y_pickT rfl g_131_ rfl) rfl ?_
         refine Wl.y (y_assign rfl) rfl ?_
         refine Wl.nil ?_
         refine Wq.next hK_128 ?_
         refine Wc.ret ?_
         refine Wq.then_ret (Wq.block_ret (Wq.then_ret (Wq.then_ret (Wq.block_ret (Wq.then_ret ?_)))))
         refine ret1 rfl rfl ?_
         first | exact ⟨_, rfl, rfl, hb⟩ | exact ⟨_, rfl, bool_eq (nan_law hG MISSING_c4_), hb⟩ | exact ⟨_, rfl, bool_eq (by rw [hs3]; simp), hb⟩ | exact ⟨_, rfl, bool_eq (by have h := tst_null hi6 c1_87 c2_127; have h2 := g_136; simp; omega), hb⟩ | exact ⟨_, rfl, bool_eq (by have h := (tst_err hi6 c1_87).2; have h4 := MISSING_l6; have h5 := MISSING_l7_; simp_all), hb⟩
       ·
        have g_131_ := g_131
        try simp only [decide_eq_true_eq, decide_eq_false_iff_not, beq_iff_eq, beq_eq_false_iff_ne, bne_iff_ne, bne_eq_false_iff_eq, Bool.not_eq_true', Bool.not_eq_false', Bool.not_eq_eq_eq_not, Bool.not_true, Bool.not_false, ne_eq, Int.not_lt, Int.not_le] at g_131
        exact absurd g_131_ (by decide)
      ·
       have c2_127_ := c2_127
       try simp only [decide_eq_true_eq, decide_eq_false_iff_not, beq_iff_eq, beq_eq_false_iff_ne, bne_iff_ne, bne_eq_false_iff_eq, Bool.not_eq_true', Bool.not_eq_false', Bool.not_eq_eq_eq_not, Bool.not_true, Bool.not_false, ne_eq, Int.not_lt, Int.not_le] at c2_127
       refine Wc.skip ?_
       refine Wq.next hK_122 ?_
       refine Wc.region ?_
       refine Wl.y (y_move rfl) rfl ?_
       refine Wl.y (y_fieldAddr (fa28_1LawG _) rfl) rfl ?_
       refine Wl.l (l_load one2LawG rfl (by first | exact hB_o4.at rfl | exact hB_o5.at rfl | exact hB_o6.at rfl | exact hB_gt.at rfl | exact hB_o4.cell 0 | exact hB_o5.cell 0 | exact hB_o6.cell 0 | exact hB_gt.cell 0 | assumption)) rfl ?_
       refine Wl.y (y_indexAddrA Tryz.underlying43 sz2LawG rfl rfl (by first | decide | omega) (by first | decide | omega)) rfl ?_
       refine Wl.storeB one2LawG rfl rfl rfl hB_o6 (by show (i : Int).toNat * 1 < 6; rw [Int.toNat_natCast, Nat.mul_one]; exact hi6) ?_
       rintro w_s3 hn_s3 hg_s3
       have hz_s3 := hg_s3.size
       have hb := below_blk hb hg_s3 hb.size (by omega)
       have hL := hL_hb.below hb
       try have hB_o4 := hB_o4.over hg_s3 (by omega)
       try have hB_o5 := hB_o5.over hg_s3 (by omega)
       have hB_o6 := hn_s3
       have hB_o6 : Blk w_s3 g_o6 43 (cells64 6 (got r.val s.val (i + 1))) := by have h := hB_o6; rw [Int.toNat_natCast, Nat.mul_one, show Value.int .i64 (tst r.val s.val i).1.n = Value.int .i64 (tst r.val s.val i).1.n from rfl] at h; exact (got_set hi6) ▸ h
       refine Wl.nil ?_
       refine Wq.block_normal ?_
       refine Wq.next hK_28 ?_
       refine Wc.region ?_
       refine Wl.y (y_move rfl) rfl ?_
       refine Wl.y (y_addI rfl rfl (by first | omega | (simp; done) | (simp; omega)) (by first | omega | (simp; done) | (simp; omega))) rfl ?_
       refine Wl.y (y_assign rfl) rfl ?_
       refine Wl.nil ?_
       refine fun a_ ha_ => hL_21 _ _ (i + 1) (by first | omega | (simp; omega)) (Sub.cons' rfl (by first | rfl | exact int_eq (by omega) | exact int_eq (by simp) | (simp; done)) (Sub.cons' rfl (by first | rfl | exact int_eq (by omega) | exact int_eq (by simp) | (simp; done)) (Sub.cons' rfl (by first | rfl | exact int_eq (by omega) | exact int_eq (by simp) | (simp; done)) (Sub.cons' rfl (by first | rfl | exact int_eq (by omega) | exact int_eq (by simp) | (simp; done)) (Sub.cons' rfl (by first | rfl | exact int_eq (by omega) | exact int_eq (by simp) | (simp; done)) (Sub.nil)))))) ?_ a_ ha_
       exact ⟨by omega, hb, hB_o4, hB_o5, hB_o6, fun j hj => by by_cases e : j < i; exact hgd j e; rw [show j = i by omega]; exact ⟨c1_87, c2_127⟩⟩
   ·
    have c0_27_ := c0_27
    try simp only [decide_eq_true_eq, decide_eq_false_iff_not, beq_iff_eq, beq_eq_false_iff_ne, bne_iff_ne, bne_eq_false_iff_eq, Bool.not_eq_true', Bool.not_eq_false', Bool.not_eq_eq_eq_not, Bool.not_true, Bool.not_false, ne_eq, Int.not_lt, Int.not_le] at c0_27
    refine Wc.exit ?_
    refine Wq.then_exit ?_
    refine Wq.then_exit ?_
    refine Wq.block_exit ?_
    refine Wq.next hK_18 ?_
    refine Wc.seq fun _ hK_153 => ?_
    have hi6 : i = 6 := by omega
    subst hi6
    have hG : goes r.val s.val := tst_good (j := 0) (by decide) (hgd 0 (by decide)).1 (hgd 0 (by decide)).2
    have hB_o6 : Blk wr g_o6 43 (cells64 6 (gv r.val s.val)) := hB_o6
    have hbk := back_law hG
    refine Wc.region ?_
    refine Wl.l (l_loadS Tryz.underlying28 (by kernel_rfl) rfl (by first | exact fun j u hu => hB_o4.at hu | exact fun j u hu => hB_o5.at hu | exact fun j u hu => hB_o6.at hu | assumption)) rfl ?_
    refine Wl.l (l_loadS Tryz.underlying28 (by kernel_rfl) rfl (by first | exact fun j u hu => hB_o4.at hu | exact fun j u hu => hB_o5.at hu | exact fun j u hu => hB_o6.at hu | assumption)) rfl ?_
    refine Wl.call txt17LawG rfl rfl (Test_r _ _ _ o'.val o.val _) rfl ?_
    rintro _ w_k7 ⟨rfl, hs_k7⟩
    have hz_k7 := hs_k7.size
    have hb := hb.trans (hs_k7.mono hb.size)
    have hL := hL_hb.below hb
    try have hB_o4 := Blk.below hB_o4 hs_k7
    try have hB_o5 := Blk.below hB_o5 hs_k7
    try have hB_o6 := Blk.below hB_o6 hs_k7
    refine Wl.y (y_move rfl) rfl ?_
    refine Wl.y (y_extract rfl rfl) rfl ?_
    refine Wl.y (y_extract rfl rfl) rfl ?_
    refine Wl.allocN (z := (.agg #[(.int .i64 0), (.int .i64 0), (.float .f64 0), (str [])])) (by kernel_rfl) rfl ?_
    rintro g_o54 w_o54 hg_o54 hn_o54 hs_o54
    have hz_o54 := hs_o54.size
    have hb := hb.trans (hs_o54.mono hb.size)
    have hL := hL_hb.below hb
    try have hB_o4 := Blk.below hB_o4 hs_o54
    try have hB_o5 := Blk.below hB_o5 hs_o54
    try have hB_o6 := Blk.below hB_o6 hs_o54
    have hB_o54 := hn_o54
    have hl_o54 := hB_o54.lt
    refine Wl.storeS (by kernel_rfl) rfl rfl hB_o54 rfl rfl ?_
    rintro w_s4 hn_s4 hg_s4
    have hz_s4 := hg_s4.size
    have hb := below_blk hb hg_s4 hb.size (by omega)
    have hL := hL_hb.below hb
    try have hB_o4 := hB_o4.over hg_s4 (by omega)
    try have hB_o5 := hB_o5.over hg_s4 (by omega)
    try have hB_o6 := hB_o6.over hg_s4 (by omega)
    have hB_o54 := hn_s4
    refine Wl.y (y_assign rfl) rfl ?_
    refine Wl.nil ?_
    refine Wq.next hK_153 ?_
    refine Wc.seq fun _ hK_162 => ?_
    refine Wc.seq fun _ hK_163 => ?_
    refine Wc.region ?_
    refine Wl.y (y_move rfl) rfl ?_
    refine Wl.y (y_neqi rfl rfl) rfl ?_
    refine Wl.y (y_move rfl) rfl ?_
    refine Wl.guardF rfl rfl rfl (fun g_167 => ?_) (fun g_167 => ?_)
    ·
     have g_167_ := g_167
     try simp only [decide_eq_true_eq, decide_eq_false_iff_not, beq_iff_eq, beq_eq_false_iff_ne, bne_iff_ne, bne_eq_false_iff_eq, Bool.not_eq_true', Bool.not_eq_false', Bool.not_eq_eq_eq_not, Bool.not_true, Bool.not_false, ne_eq, Int.not_lt, Int.not_le] at g_167
     exact absurd g_167_ (by rw [hbk.1]; simp)
    ·
     have g_167_ := g_167
     try simp only [decide_eq_true_eq, decide_eq_false_iff_not, beq_iff_eq, beq_eq_false_iff_ne, bne_iff_ne, bne_eq_false_iff_eq, Bool.not_eq_true', Bool.not_eq_false', Bool.not_eq_eq_eq_not, Bool.not_true, Bool.not_false, ne_eq, Int.not_lt, Int.not_le] at g_167
     refine Wl.y (y_fieldAddr (fa28_1LawG _) rfl) rfl ?_
     refine Wl.on' rfl rfl g_167_ ?_
     refine Wl.l (l_load one2LawG rfl (by first | exact hB_o4.at rfl | exact hB_o5.at rfl | exact hB_o6.at rfl | exact hB_o54.at rfl | exact hB_o4.cell 0 | exact hB_o5.cell 0 | exact hB_o6.cell 0 | exact hB_o54.cell 0 | assumption)) rfl ?_
     refine Wl.on' rfl rfl g_167_ ?_
     refine Wl.y (y_indexAddrA Tryz.underlying43 sz2LawG rfl rfl (by first | decide | omega) (by first | decide | omega)) rfl ?_
     refine Wl.on' rfl rfl g_167_ ?_
     refine Wl.l (l_load one2LawG rfl (by first | exact hB_o4.at rfl | exact hB_o5.at rfl | exact hB_o6.at rfl | exact hB_o54.at rfl | exact hB_o4.cell 0 | exact hB_o5.cell 0 | exact hB_o6.cell 0 | exact hB_o54.cell 0 | assumption)) rfl ?_
     refine Wl.on' rfl rfl g_167_ ?_
     refine Wl.y (y_neqi rfl rfl) rfl ?_
     refine Wl.y (y_pickF rfl g_167_ rfl) rfl ?_
     refine Wl.nil ?_
     refine Wq.next hK_163 ?_
     refine Wc.cond rfl (fun c3_174 => ?_) (fun c3_174 => ?_)
     ·
      have c3_174_ := c3_174
      try simp only [decide_eq_true_eq, decide_eq_false_iff_not, beq_iff_eq, beq_eq_false_iff_ne, bne_iff_ne, bne_eq_false_iff_eq, Bool.not_eq_true', Bool.not_eq_false', Bool.not_eq_eq_eq_not, Bool.not_true, Bool.not_false, ne_eq, Int.not_lt, Int.not_le] at c3_174
      exact absurd c3_174_ (by rw [hbk.2]; simp)
     ·
      have c3_174_ := c3_174
      try simp only [decide_eq_true_eq, decide_eq_false_iff_not, beq_iff_eq, beq_eq_false_iff_ne, bne_iff_ne, bne_eq_false_iff_eq, Bool.not_eq_true', Bool.not_eq_false', Bool.not_eq_eq_eq_not, Bool.not_true, Bool.not_false, ne_eq, Int.not_lt, Int.not_le] at c3_174
      refine Wc.skip ?_
      refine Wq.next hK_162 ?_
      refine Wc.seq fun _ hK_175 => ?_
      refine Wc.meet (X := Unit) (fun u_ => [(5, .bool true), (8, .pointer (some ⟨g_o6, 0, none⟩)), (14, .bool (nanB r.val s.val))]) (fun u_ wr => Below w.heap.size w wr ∧ Blk wr g_o6 43 (cells64 6 (gv r.val s.val))) (fun _ hM_176 => ?_) ?_
      ·
       refine Wc.region ?_
       refine Wl.y (y_fieldAddr (fa28_0LawG _) rfl) rfl ?_
       refine Wl.l (l_load one3LawG rfl (by first | exact hB_o4.at rfl | exact hB_o5.at rfl | exact hB_o6.at rfl | exact hB_o54.at rfl | exact hB_o4.cell 0 | exact hB_o5.cell 0 | exact hB_o6.cell 0 | exact hB_o54.cell 0 | assumption)) rfl ?_
       refine Wl.y (y_eqli rfl rfl) rfl ?_
       refine Wl.y (y_move rfl) rfl ?_
       refine Wl.guardT rfl rfl rfl (fun g_181 => ?_) (fun g_181 => ?_)
       ·
        have g_181_ := g_181
        try simp only [decide_eq_true_eq, decide_eq_false_iff_not, beq_iff_eq, beq_eq_false_iff_ne, bne_iff_ne, bne_eq_false_iff_eq, Bool.not_eq_true', Bool.not_eq_false', Bool.not_eq_eq_eq_not, Bool.not_true, Bool.not_false, ne_eq, Int.not_lt, Int.not_le] at g_181
        refine Wl.y (y_fieldAddr (fa28_2LawG _) rfl) rfl ?_
        refine Wl.on' rfl rfl g_181_ ?_
        refine Wl.l (l_load one26LawG rfl (by first | exact hB_o4.at rfl | exact hB_o5.at rfl | exact hB_o6.at rfl | exact hB_o54.at rfl | exact hB_o4.cell 0 | exact hB_o5.cell 0 | exact hB_o6.cell 0 | exact hB_o54.cell 0 | assumption)) rfl ?_
        refine Wl.on' rfl rfl g_181_ ?_
        refine Wl.y (y_fieldAddr (fa28_2LawG _) rfl) rfl ?_
        refine Wl.on' rfl rfl g_181_ ?_
        refine Wl.l (l_load one26LawG rfl (by first | exact hB_o4.at rfl | exact hB_o5.at rfl | exact hB_o6.at rfl | exact hB_o54.at rfl | exact hB_o4.cell 0 | exact hB_o5.cell 0 | exact hB_o6.cell 0 | exact hB_o54.cell 0 | assumption)) rfl ?_
        refine Wl.on' rfl rfl g_181_ ?_
        refine Wl.y (y_eq (y_neqf rfl rfl) (bool_eq (ne_self_f _))) rfl ?_
        refine Wl.y (y_pickT rfl g_181_ rfl) rfl ?_
        refine Wl.y (y_move rfl) rfl ?_
        refine Wl.guardF rfl rfl rfl (fun g_189 => ?_) (fun g_189 => ?_)
        ·
         have g_189_ := g_189
         try simp only [decide_eq_true_eq, decide_eq_false_iff_not, beq_iff_eq, beq_eq_false_iff_ne, bne_iff_ne, bne_eq_false_iff_eq, Bool.not_eq_true', Bool.not_eq_false', Bool.not_eq_eq_eq_not, Bool.not_true, Bool.not_false, ne_eq, Int.not_lt, Int.not_le] at g_189
         refine Wl.off' rfl rfl g_189_ rfl rfl ?_
         refine Wl.off' rfl rfl g_189_ rfl rfl ?_
         refine Wl.off' rfl rfl g_189_ rfl rfl ?_
         refine Wl.offU rfl rfl rfl ?_
         refine Wl.offU rfl rfl rfl ?_
         refine Wl.offU rfl rfl rfl ?_
         refine Wl.offU rfl rfl rfl ?_
         refine Wl.offU rfl rfl rfl ?_
         refine Wl.off' rfl rfl g_189_ rfl rfl ?_
         refine Wl.y (y_pickT rfl g_189_ rfl) rfl ?_
         refine Wl.y (y_assign rfl) rfl ?_
         refine Wl.nil ?_
         refine Wq.meet hM_176 (()) (Sub.cons' rfl (by first | rfl | exact bool_eq (by unfold nanB; simp_all)) (Sub.cons' rfl (by first | rfl | exact bool_eq (by unfold nanB; simp_all)) (Sub.cons' rfl (by first | rfl | exact bool_eq (by unfold nanB; simp_all)) (Sub.nil)))) ?_
         exact ⟨hb, hB_o6⟩
        ·
         have g_189_ := g_189
         try simp only [decide_eq_true_eq, decide_eq_false_iff_not, beq_iff_eq, beq_eq_false_iff_ne, bne_iff_ne, bne_eq_false_iff_eq, Bool.not_eq_true', Bool.not_eq_false', Bool.not_eq_eq_eq_not, Bool.not_true, Bool.not_false, ne_eq, Int.not_lt, Int.not_le] at g_189
         refine Wl.y (y_fieldAddr (fa28_0LawG _) rfl) rfl ?_
         refine Wl.on' rfl rfl g_189_ ?_
         refine Wl.l (l_load one3LawG rfl (by first | exact hB_o4.at rfl | exact hB_o5.at rfl | exact hB_o6.at rfl | exact hB_o54.at rfl | exact hB_o4.cell 0 | exact hB_o5.cell 0 | exact hB_o6.cell 0 | exact hB_o54.cell 0 | assumption)) rfl ?_
         refine Wl.on' rfl rfl g_189_ ?_
         refine Wl.y (y_eqli rfl rfl) rfl ?_
         refine Wl.on' rfl rfl g_189_ ?_
         refine Wl.y (y_move rfl) rfl ?_
         refine Wl.guardT rfl rfl rfl (fun g_196 => ?_) (fun g_196 => ?_)
         ·
          have g_196_ := g_196
          try simp only [decide_eq_true_eq, decide_eq_false_iff_not, beq_iff_eq, beq_eq_false_iff_ne, bne_iff_ne, bne_eq_false_iff_eq, Bool.not_eq_true', Bool.not_eq_false', Bool.not_eq_eq_eq_not, Bool.not_true, Bool.not_false, ne_eq, Int.not_lt, Int.not_le] at g_196
          refine Wl.y (y_fieldAddr (fa28_2LawG _) rfl) rfl ?_
          refine Wl.on' rfl rfl g_196_ ?_
          refine Wl.l (l_load one26LawG rfl (by first | exact hB_o4.at rfl | exact hB_o5.at rfl | exact hB_o6.at rfl | exact hB_o54.at rfl | exact hB_o4.cell 0 | exact hB_o5.cell 0 | exact hB_o6.cell 0 | exact hB_o54.cell 0 | assumption)) rfl ?_
          refine Wl.on' rfl rfl g_196_ ?_
          refine Wl.y (y_fieldAddr (fa28_2LawG _) rfl) rfl ?_
          refine Wl.on' rfl rfl g_196_ ?_
          refine Wl.l (l_load one26LawG rfl (by first | exact hB_o4.at rfl | exact hB_o5.at rfl | exact hB_o6.at rfl | exact hB_o54.at rfl | exact hB_o4.cell 0 | exact hB_o5.cell 0 | exact hB_o6.cell 0 | exact hB_o54.cell 0 | assumption)) rfl ?_
          refine Wl.on' rfl rfl g_196_ ?_
          refine Wl.y (y_eq (y_neqf rfl rfl) (bool_eq (ne_self_f _))) rfl ?_
          refine Wl.on' rfl rfl g_189_ ?_
          refine Wl.y (y_pickT rfl g_196_ rfl) rfl ?_
          refine Wl.y (y_pickF rfl g_189_ rfl) rfl ?_
          refine Wl.y (y_assign rfl) rfl ?_
          refine Wl.nil ?_
          refine Wq.meet hM_176 (()) (Sub.cons' rfl (by first | rfl | exact bool_eq (by unfold nanB; simp_all)) (Sub.cons' rfl (by first | rfl | exact bool_eq (by unfold nanB; simp_all)) (Sub.cons' rfl (by first | rfl | exact bool_eq (by unfold nanB; simp_all)) (Sub.nil)))) ?_
          exact ⟨hb, hB_o6⟩
         ·
          have g_196_ := g_196
          try simp only [decide_eq_true_eq, decide_eq_false_iff_not, beq_iff_eq, beq_eq_false_iff_ne, bne_iff_ne, bne_eq_false_iff_eq, Bool.not_eq_true', Bool.not_eq_false', Bool.not_eq_eq_eq_not, Bool.not_true, Bool.not_false, ne_eq, Int.not_lt, Int.not_le] at g_196
          refine Wl.off' rfl rfl g_196_ rfl rfl ?_
          refine Wl.off' rfl rfl g_196_ rfl rfl ?_
          refine Wl.off' rfl rfl g_196_ rfl rfl ?_
          refine Wl.off' rfl rfl g_196_ rfl rfl ?_
          refine Wl.on' rfl rfl g_189_ ?_
          refine Wl.y (y_pickF rfl g_196_ rfl) rfl ?_
          refine Wl.y (y_pickF rfl g_189_ rfl) rfl ?_
          refine Wl.y (y_assign rfl) rfl ?_
          refine Wl.nil ?_
          refine Wq.meet hM_176 (()) (Sub.cons' rfl (by first | rfl | exact bool_eq (by unfold nanB; simp_all)) (Sub.cons' rfl (by first | rfl | exact bool_eq (by unfold nanB; simp_all)) (Sub.cons' rfl (by first | rfl | exact bool_eq (by unfold nanB; simp_all)) (Sub.nil)))) ?_
          exact ⟨hb, hB_o6⟩
       ·
        have g_181_ := g_181
        try simp only [decide_eq_true_eq, decide_eq_false_iff_not, beq_iff_eq, beq_eq_false_iff_ne, bne_iff_ne, bne_eq_false_iff_eq, Bool.not_eq_true', Bool.not_eq_false', Bool.not_eq_eq_eq_not, Bool.not_true, Bool.not_false, ne_eq, Int.not_lt, Int.not_le] at g_181
        refine Wl.off' rfl rfl g_181_ rfl rfl ?_
        refine Wl.off' rfl rfl g_181_ rfl rfl ?_
        refine Wl.off' rfl rfl g_181_ rfl rfl ?_
        refine Wl.off' rfl rfl g_181_ rfl rfl ?_
        refine Wl.y (y_pickF rfl g_181_ rfl) rfl ?_
        refine Wl.y (y_move rfl) rfl ?_
        refine Wl.on' rfl rfl rfl ?_
        refine Wl.y (y_fieldAddr (fa28_0LawG _) rfl) rfl ?_
        refine Wl.on' rfl rfl rfl ?_
        refine Wl.l (l_load one3LawG rfl (by first | exact hB_o4.at rfl | exact hB_o5.at rfl | exact hB_o6.at rfl | exact hB_o54.at rfl | exact hB_o4.cell 0 | exact hB_o5.cell 0 | exact hB_o6.cell 0 | exact hB_o54.cell 0 | assumption)) rfl ?_
        refine Wl.on' rfl rfl rfl ?_
        refine Wl.y (y_eqli rfl rfl) rfl ?_
        refine Wl.on' rfl rfl rfl ?_
        refine Wl.y (y_move rfl) rfl ?_
        refine Wl.guardT rfl rfl rfl (fun g_214 => ?_) (fun g_214 => ?_)
        ·
         have g_214_ := g_214
         try simp only [decide_eq_true_eq, decide_eq_false_iff_not, beq_iff_eq, beq_eq_false_iff_ne, bne_iff_ne, bne_eq_false_iff_eq, Bool.not_eq_true', Bool.not_eq_false', Bool.not_eq_eq_eq_not, Bool.not_true, Bool.not_false, ne_eq, Int.not_lt, Int.not_le] at g_214
         refine Wl.y (y_fieldAddr (fa28_2LawG _) rfl) rfl ?_
         refine Wl.on' rfl rfl g_214_ ?_
         refine Wl.l (l_load one26LawG rfl (by first | exact hB_o4.at rfl | exact hB_o5.at rfl | exact hB_o6.at rfl | exact hB_o54.at rfl | exact hB_o4.cell 0 | exact hB_o5.cell 0 | exact hB_o6.cell 0 | exact hB_o54.cell 0 | assumption)) rfl ?_
         refine Wl.on' rfl rfl g_214_ ?_
         refine Wl.y (y_fieldAddr (fa28_2LawG _) rfl) rfl ?_
         refine Wl.on' rfl rfl g_214_ ?_
         refine Wl.l (l_load one26LawG rfl (by first | exact hB_o4.at rfl | exact hB_o5.at rfl | exact hB_o6.at rfl | exact hB_o54.at rfl | exact hB_o4.cell 0 | exact hB_o5.cell 0 | exact hB_o6.cell 0 | exact hB_o54.cell 0 | assumption)) rfl ?_
         refine Wl.on' rfl rfl g_214_ ?_
         refine Wl.y (y_eq (y_neqf rfl rfl) (bool_eq (ne_self_f _))) rfl ?_
         refine Wl.on' rfl rfl rfl ?_
         refine Wl.y (y_pickT rfl g_214_ rfl) rfl ?_
         refine Wl.y (y_pickF rfl rfl rfl) rfl ?_
         refine Wl.y (y_assign rfl) rfl ?_
         refine Wl.nil ?_
         refine Wq.meet hM_176 (()) (Sub.cons' rfl (by first | rfl | exact bool_eq (by unfold nanB; simp_all)) (Sub.cons' rfl (by first | rfl | exact bool_eq (by unfold nanB; simp_all)) (Sub.cons' rfl (by first | rfl | exact bool_eq (by unfold nanB; simp_all)) (Sub.nil)))) ?_
         exact ⟨hb, hB_o6⟩
        ·
         have g_214_ := g_214
         try simp only [decide_eq_true_eq, decide_eq_false_iff_not, beq_iff_eq, beq_eq_false_iff_ne, bne_iff_ne, bne_eq_false_iff_eq, Bool.not_eq_true', Bool.not_eq_false', Bool.not_eq_eq_eq_not, Bool.not_true, Bool.not_false, ne_eq, Int.not_lt, Int.not_le] at g_214
         refine Wl.off' rfl rfl g_214_ rfl rfl ?_
         refine Wl.off' rfl rfl g_214_ rfl rfl ?_
         refine Wl.off' rfl rfl g_214_ rfl rfl ?_
         refine Wl.off' rfl rfl g_214_ rfl rfl ?_
         refine Wl.on' rfl rfl rfl ?_
         refine Wl.y (y_pickF rfl g_214_ rfl) rfl ?_
         refine Wl.y (y_pickF rfl rfl rfl) rfl ?_
         refine Wl.y (y_assign rfl) rfl ?_
         refine Wl.nil ?_
         refine Wq.meet hM_176 (()) (Sub.cons' rfl (by first | rfl | exact bool_eq (by unfold nanB; simp_all)) (Sub.cons' rfl (by first | rfl | exact bool_eq (by unfold nanB; simp_all)) (Sub.cons' rfl (by first | rfl | exact bool_eq (by unfold nanB; simp_all)) (Sub.nil)))) ?_
         exact ⟨hb, hB_o6⟩
      ·
       rintro u_ wr hI_226
       replace hI_226 : Below w.heap.size w wr ∧ Blk wr g_o6 43 (cells64 6 (gv r.val s.val)) := hI_226
       obtain ⟨hb, hB_o6⟩ := hI_226
       show Wq _ _ _ _ [(5, .bool true), (8, .pointer (some ⟨g_o6, 0, none⟩)), (14, .bool (nanB r.val s.val))] _
       have hL := hL_hb.below hb
       try have hzhb_g17 := hb.size
       have hlhB_o6_g17 := hB_o6.lt
       refine Wq.next hK_175 ?_
       refine Wc.seq fun _ hK_227 => ?_
       refine Wc.seq fun _ hK_228 => ?_
       refine Wc.region ?_
       refine Wl.y (y_move rfl) rfl ?_
       refine Wl.nil ?_
       refine Wq.next hK_228 ?_
       refine Wc.cond rfl (fun c4_230 => ?_) (fun c4_230 => ?_)
       ·
        have c4_230_ := c4_230
        try simp only [decide_eq_true_eq, decide_eq_false_iff_not, beq_iff_eq, beq_eq_false_iff_ne, bne_iff_ne, bne_eq_false_iff_eq, Bool.not_eq_true', Bool.not_eq_false', Bool.not_eq_eq_eq_not, Bool.not_true, Bool.not_false, ne_eq, Int.not_lt, Int.not_le] at c4_230
        refine Wc.seq fun _ hK_231 => ?_
        refine Wc.region ?_
        refine Wl.y (y_move rfl) rfl ?_
        refine Wl.y (y_move rfl) rfl ?_
        refine Wl.guardT rfl rfl rfl (fun g_234 => ?_) (fun g_234 => ?_)
        ·
         have g_234_ := g_234
         try simp only [decide_eq_true_eq, decide_eq_false_iff_not, beq_iff_eq, beq_eq_false_iff_ne, bne_iff_ne, bne_eq_false_iff_eq, Bool.not_eq_true', Bool.not_eq_false', Bool.not_eq_eq_eq_not, Bool.not_true, Bool.not_false, ne_eq, Int.not_lt, Int.not_le] at g_234
         refine Wl.l (l_loadA Tryz.underlying43 (by kernel_rfl) rfl (by first | exact fun j u hu => hB_o6.at hu | assumption)) rfl ?_
         refine Wl.on' rfl rfl g_234_ ?_
         refine Wl.y (y_buildA (z := [(.int .i64 0), (.int .i64 0), (.int .i64 0), (.int .i64 0), (.int .i64 0), (.int .i64 0)]) (cs := [_, _, _, _, _, _]) Tryz.underlying43 (by kernel_rfl) (by kernel_rfl) rfl rfl) rfl ?_
         refine Wl.on' rfl rfl g_234_ ?_
         refine Wl.y (y_eqlS (by kernel_rfl) rfl rfl (eq43 _)) rfl ?_
         refine Wl.y (y_pickT rfl g_234_ rfl) rfl ?_
         refine Wl.y (y_assign rfl) rfl ?_
         refine Wl.nil ?_
         refine Wq.next hK_231 ?_
         refine Wc.ret ?_
         refine Wq.then_ret ?_
         refine ret1 rfl rfl ?_
         first | exact ⟨_, rfl, rfl, hb⟩ | exact ⟨_, rfl, bool_eq (nan_law hG c4_230_), hb⟩ | exact ⟨_, rfl, bool_eq (by rw [hs3]; simp), hb⟩ | exact ⟨_, rfl, bool_eq (by have h := tst_null hi6 MISSING_c1 MISSING_c2; have h2 := MISSING_o41; simp; omega), hb⟩ | exact ⟨_, rfl, bool_eq (by have h := (tst_err hi6 MISSING_c1).2; have h4 := MISSING_l6; have h5 := MISSING_l7_; simp_all), hb⟩
        ·
         have g_234_ := g_234
         try simp only [decide_eq_true_eq, decide_eq_false_iff_not, beq_iff_eq, beq_eq_false_iff_ne, bne_iff_ne, bne_eq_false_iff_eq, Bool.not_eq_true', Bool.not_eq_false', Bool.not_eq_eq_eq_not, Bool.not_true, Bool.not_false, ne_eq, Int.not_lt, Int.not_le] at g_234
         exact absurd g_234_ (by decide)
       ·
        have c4_230_ := c4_230
        try simp only [decide_eq_true_eq, decide_eq_false_iff_not, beq_iff_eq, beq_eq_false_iff_ne, bne_iff_ne, bne_eq_false_iff_eq, Bool.not_eq_true', Bool.not_eq_false', Bool.not_eq_eq_eq_not, Bool.not_true, Bool.not_false, ne_eq, Int.not_lt, Int.not_le] at c4_230
        obtain ⟨hs0, hs1, hs2, hs3, hs4, hs5, hs6⟩ := true_law hG c4_230_
        refine Wc.skip ?_
        refine Wq.next hK_227 ?_
        refine Wc.seq fun _ hK_240 => ?_
        refine Wc.region ?_
        refine Wl.y (y_move rfl) rfl ?_
        refine Wl.y (y_move rfl) rfl ?_
        refine Wl.guardT rfl rfl rfl (fun g_243 => ?_) (fun g_243 => ?_)
        ·
         have g_243_ := g_243
         try simp only [decide_eq_true_eq, decide_eq_false_iff_not, beq_iff_eq, beq_eq_false_iff_ne, bne_iff_ne, bne_eq_false_iff_eq, Bool.not_eq_true', Bool.not_eq_false', Bool.not_eq_eq_eq_not, Bool.not_true, Bool.not_false, ne_eq, Int.not_lt, Int.not_le] at g_243
         refine Wl.y (y_indexAddrA Tryz.underlying43 sz2LawG rfl rfl (by first | decide | omega) (by first | decide | omega)) rfl ?_
         refine Wl.on' rfl rfl g_243_ ?_
         refine Wl.l (l_load one2LawG rfl (by first | exact hB_o6.at rfl | exact hB_o6.cell 0 | assumption)) rfl ?_
         refine Wl.on' rfl rfl g_243_ ?_
         refine Wl.y (y_indexAddrA Tryz.underlying43 sz2LawG rfl rfl (by first | decide | omega) (by first | decide | omega)) rfl ?_
         refine Wl.on' rfl rfl g_243_ ?_
         refine Wl.l (l_load one2LawG rfl (by first | exact hB_o6.at rfl | exact hB_o6.cell 0 | assumption)) rfl ?_
         refine Wl.on' rfl rfl g_243_ ?_
         refine Wl.y (y_addI rfl rfl (by first | omega | (simp; done) | (simp; omega)) (by first | omega | (simp; done) | (simp; omega))) rfl ?_
         refine Wl.on' rfl rfl g_243_ ?_
         refine Wl.y (y_indexAddrA Tryz.underlying43 sz2LawG rfl rfl (by first | decide | omega) (by first | decide | omega)) rfl ?_
         refine Wl.on' rfl rfl g_243_ ?_
         refine Wl.l (l_load one2LawG rfl (by first | exact hB_o6.at rfl | exact hB_o6.cell 0 | assumption)) rfl ?_
         refine Wl.on' rfl rfl g_243_ ?_
         refine Wl.y (y_addI rfl rfl (by first | omega | (simp; done) | (simp; omega)) (by first | omega | (simp; done) | (simp; omega))) rfl ?_
         refine Wl.on' rfl rfl g_243_ ?_
         refine Wl.y (y_eqli rfl rfl) rfl ?_
         refine Wl.y (y_pickT rfl g_243_ rfl) rfl ?_
         refine Wl.y (y_move rfl) rfl ?_
         refine Wl.guardT rfl rfl rfl (fun g_255 => ?_) (fun g_255 => ?_)
         ·
          have g_255_ := g_255
          try simp only [decide_eq_true_eq, decide_eq_false_iff_not, beq_iff_eq, beq_eq_false_iff_ne, bne_iff_ne, bne_eq_false_iff_eq, Bool.not_eq_true', Bool.not_eq_false', Bool.not_eq_eq_eq_not, Bool.not_true, Bool.not_false, ne_eq, Int.not_lt, Int.not_le] at g_255
          refine Wl.y (y_indexAddrA Tryz.underlying43 sz2LawG rfl rfl (by first | decide | omega) (by first | decide | omega)) rfl ?_
          refine Wl.on' rfl rfl g_255_ ?_
          refine Wl.l (l_load one2LawG rfl (by first | exact hB_o6.at rfl | exact hB_o6.cell 0 | assumption)) rfl ?_
          refine Wl.on' rfl rfl g_255_ ?_
          refine Wl.y (y_indexAddrA Tryz.underlying43 sz2LawG rfl rfl (by first | decide | omega) (by first | decide | omega)) rfl ?_
          refine Wl.on' rfl rfl g_255_ ?_
          refine Wl.l (l_load one2LawG rfl (by first | exact hB_o6.at rfl | exact hB_o6.cell 0 | assumption)) rfl ?_
          refine Wl.on' rfl rfl g_255_ ?_
          refine Wl.y (y_subI rfl rfl (by first | omega | (simp; done) | (simp; omega)) (by first | omega | (simp; done) | (simp; omega))) rfl ?_
          refine Wl.on' rfl rfl g_255_ ?_
          refine Wl.y (y_eqli rfl rfl) rfl ?_
          refine Wl.y (y_pickT rfl g_255_ rfl) rfl ?_
          refine Wl.y (y_move rfl) rfl ?_
          refine Wl.guardT rfl rfl rfl (fun g_264 => ?_) (fun g_264 => ?_)
          ·
           have g_264_ := g_264
           try simp only [decide_eq_true_eq, decide_eq_false_iff_not, beq_iff_eq, beq_eq_false_iff_ne, bne_iff_ne, bne_eq_false_iff_eq, Bool.not_eq_true', Bool.not_eq_false', Bool.not_eq_eq_eq_not, Bool.not_true, Bool.not_false, ne_eq, Int.not_lt, Int.not_le] at g_264
           refine Wl.y (y_indexAddrA Tryz.underlying43 sz2LawG rfl rfl (by first | decide | omega) (by first | decide | omega)) rfl ?_
           refine Wl.on' rfl rfl g_264_ ?_
           refine Wl.l (l_load one2LawG rfl (by first | exact hB_o6.at rfl | exact hB_o6.cell 0 | assumption)) rfl ?_
           refine Wl.on' rfl rfl g_264_ ?_
           refine Wl.y (y_indexAddrA Tryz.underlying43 sz2LawG rfl rfl (by first | decide | omega) (by first | decide | omega)) rfl ?_
           refine Wl.on' rfl rfl g_264_ ?_
           refine Wl.l (l_load one2LawG rfl (by first | exact hB_o6.at rfl | exact hB_o6.cell 0 | assumption)) rfl ?_
           refine Wl.on' rfl rfl g_264_ ?_
           refine Wl.y (y_subI rfl rfl (by first | omega | (simp; done) | (simp; omega)) (by first | omega | (simp; done) | (simp; omega))) rfl ?_
           refine Wl.on' rfl rfl g_264_ ?_
           refine Wl.y (y_eqli rfl rfl) rfl ?_
           refine Wl.y (y_pickT rfl g_264_ rfl) rfl ?_
           refine Wl.y (y_move rfl) rfl ?_
           refine Wl.guardT rfl rfl rfl (fun g_273 => ?_) (fun g_273 => ?_)
           ·
            have g_273_ := g_273
            try simp only [decide_eq_true_eq, decide_eq_false_iff_not, beq_iff_eq, beq_eq_false_iff_ne, bne_iff_ne, bne_eq_false_iff_eq, Bool.not_eq_true', Bool.not_eq_false', Bool.not_eq_eq_eq_not, Bool.not_true, Bool.not_false, ne_eq, Int.not_lt, Int.not_le] at g_273
            refine Wl.y (y_indexAddrA Tryz.underlying43 sz2LawG rfl rfl (by first | decide | omega) (by first | decide | omega)) rfl ?_
            refine Wl.on' rfl rfl g_273_ ?_
            refine Wl.l (l_load one2LawG rfl (by first | exact hB_o6.at rfl | exact hB_o6.cell 0 | assumption)) rfl ?_
            refine Wl.on' rfl rfl g_273_ ?_
            refine Wl.y (y_indexAddrA Tryz.underlying43 sz2LawG rfl rfl (by first | decide | omega) (by first | decide | omega)) rfl ?_
            refine Wl.on' rfl rfl g_273_ ?_
            refine Wl.l (l_load one2LawG rfl (by first | exact hB_o6.at rfl | exact hB_o6.cell 0 | assumption)) rfl ?_
            refine Wl.on' rfl rfl g_273_ ?_
            refine Wl.y (y_subI rfl rfl (by first | omega | (simp; done) | (simp; omega)) (by first | omega | (simp; done) | (simp; omega))) rfl ?_
            refine Wl.on' rfl rfl g_273_ ?_
            refine Wl.y (y_eqli rfl rfl) rfl ?_
            refine Wl.y (y_pickT rfl g_273_ rfl) rfl ?_
            refine Wl.y (y_assign rfl) rfl ?_
            refine Wl.nil ?_
            refine Wq.next hK_240 ?_
            refine Wc.ret ?_
            refine ret1 rfl rfl ?_
            first | exact ⟨_, rfl, rfl, hb⟩ | exact ⟨_, rfl, bool_eq (nan_law hG c4_230_), hb⟩ | exact ⟨_, rfl, bool_eq (by rw [hs3]; simp), hb⟩ | exact ⟨_, rfl, bool_eq (by have h := tst_null hi6 MISSING_c1 MISSING_c2; have h2 := MISSING_o41; simp; omega), hb⟩ | exact ⟨_, rfl, bool_eq (by have h := (tst_err hi6 MISSING_c1).2; have h4 := MISSING_l6; have h5 := MISSING_l7_; simp_all), hb⟩
           ·
            have g_273_ := g_273
            try simp only [decide_eq_true_eq, decide_eq_false_iff_not, beq_iff_eq, beq_eq_false_iff_ne, bne_iff_ne, bne_eq_false_iff_eq, Bool.not_eq_true', Bool.not_eq_false', Bool.not_eq_eq_eq_not, Bool.not_true, Bool.not_false, ne_eq, Int.not_lt, Int.not_le] at g_273
            exact absurd g_273_ (by rw [hs2]; simp)
          ·
           have g_264_ := g_264
           try simp only [decide_eq_true_eq, decide_eq_false_iff_not, beq_iff_eq, beq_eq_false_iff_ne, bne_iff_ne, bne_eq_false_iff_eq, Bool.not_eq_true', Bool.not_eq_false', Bool.not_eq_eq_eq_not, Bool.not_true, Bool.not_false, ne_eq, Int.not_lt, Int.not_le] at g_264
           exact absurd g_264_ (by rw [hs1]; simp)
         ·
          have g_255_ := g_255
          try simp only [decide_eq_true_eq, decide_eq_false_iff_not, beq_iff_eq, beq_eq_false_iff_ne, bne_iff_ne, bne_eq_false_iff_eq, Bool.not_eq_true', Bool.not_eq_false', Bool.not_eq_eq_eq_not, Bool.not_true, Bool.not_false, ne_eq, Int.not_lt, Int.not_le] at g_255
          exact absurd g_255_ (by rw [hs0]; decide)
        ·
         have g_243_ := g_243
         try simp only [decide_eq_true_eq, decide_eq_false_iff_not, beq_iff_eq, beq_eq_false_iff_ne, bne_iff_ne, bne_eq_false_iff_eq, Bool.not_eq_true', Bool.not_eq_false', Bool.not_eq_eq_eq_not, Bool.not_true, Bool.not_false, ne_eq, Int.not_lt, Int.not_le] at g_243
         exact absurd g_243_ (by decide)
end Go.Proofs.YtijkbinjdgjioaaGreatDoor
