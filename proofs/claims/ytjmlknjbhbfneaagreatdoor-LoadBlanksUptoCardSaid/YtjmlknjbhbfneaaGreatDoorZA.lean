/- A small calculus over the walk's own laws: a frame is known by the slots that matter, and each operation is one lemma. · One lemma an operation: numbers, bools, strings, calls, boxes, rows. · One lemma an operation: memory. · A region that draws its order and whose operations read, reckon, and call what leaves old memory alone. · One lemma an operation: structs, in boxes and by value; results that lie in memory; rows made whole. · Worlds by name behind what makes memory; regions that draw, order by order. · One lemma an operation: maps with texts as keys; a map's range. · A range over a text whose bytes are all below 128. · Calls that may panic; what is deferred; memory of which one block is written. -/
import Derived.Calls
import Derived.Deep.LoopGhost
import Derived.Below
import Derived.Tactics
import Derived.WalkKit
import Derived.KernelRfl
import Derived.WalkLawsBesides
import Derived.WalkSpells
import Derived.Maps.AppendAt
import Derived.OwnWalk
import Derived.Laws.BytesArg
import Derived.Laws.OwnMore
import Derived.Laws.Bits64
import Derived.Laws.BitsLemmas
import Derived.Laws.Cover2
import Derived.Lib.Strings
import Derived.Laws.Cells
import Derived.Laws.Tables
import Derived.Lib.ConvBytes
import Derived.Deep.Draws
import Derived.Lib.SlBytesConst
import Derived.Deep.Quiet
import Derived.Laws.CopyOwn
import Derived.Laws.StructEq
import Derived.OrdersHeld
import Derived.Laws.IdiomRangeMap
import Derived.WideLaws
import Derived.Lib.OthersKept
import Derived.Defers
import Derived.Recover
import Derived.Deep.MidRow
namespace Go.Bw
open Go.RowKit
set_option linter.unusedVariables false
set_option linter.unusedSimpArgs false

/-! short names: a walk's texts name these on each test -/
theorem DA {p : Prop} [Decidable p] : (decide p = true) = p := decide_eq_true_eq
theorem DB {p : Prop} [Decidable p] : decide p = false ↔ ¬ p := decide_eq_false_iff_not
theorem DC {α : Type} [BEq α] [LawfulBEq α] {a b : α} : (a == b) = true ↔ a = b := beq_iff_eq
theorem DD {α : Type} [BEq α] [LawfulBEq α] {a b : α} : (a == b) = false ↔ a ≠ b := beq_eq_false_iff_ne
theorem DE {α : Type} [BEq α] [LawfulBEq α] {a b : α} : (a != b) = true ↔ a ≠ b := bne_iff_ne
theorem DF {α : Type} [BEq α] [LawfulBEq α] {a b : α} : (a != b) = false ↔ a = b := bne_eq_false_iff_eq
theorem DG (b : Bool) : ((!b) = true) = (b = false) := Bool.not_eq_true' b
theorem DH (b : Bool) : ((!b) = false) = (b = true) := Bool.not_eq_false' b
theorem DI {a b : Bool} : ((!a) = b) ↔ (a = !b) := Bool.not_eq_eq_eq_not
theorem DJ : (!true) = false := rfl
theorem DK : (!false) = true := rfl
theorem DM {a b : Int} : ¬ a < b ↔ b ≤ a := Int.not_lt
theorem DN {a b : Int} : ¬ a ≤ b ↔ b < a := Int.not_le
theorem DZ : (∀ (p : Prop) [Decidable p], (decide p = true) = p) ∧ (∀ (p : Prop) [Decidable p], (decide p = false) = ¬ p) ∧ (∀ (α : Type) [BEq α] [LawfulBEq α] (a b : α), ((a == b) = true) = (a = b)) ∧
    (∀ (α : Type) [BEq α] [LawfulBEq α] (a b : α), ((a == b) = false) = ¬ (a = b)) ∧ (∀ (α : Type) [BEq α] [LawfulBEq α] (a b : α), ((a != b) = true) = ¬ (a = b)) ∧ (∀ (α : Type) [BEq α] [LawfulBEq α] (a b : α), ((a != b) = false) = (a = b)) ∧
    (∀ b : Bool, ((!b) = true) = (b = false)) ∧ (∀ b : Bool, ((!b) = false) = (b = true)) ∧ (∀ a b : Bool, ((!a) = b) = (a = !b)) ∧ ((!true) = false) ∧ ((!false) = true) ∧ (∀ (α : Type) (a b : α), (a ≠ b) = ¬ (a = b)) ∧ (∀ a b : Int, (¬ a < b) = (b ≤ a)) ∧ (∀ a b : Int, (¬ a ≤ b) = (b < a)) :=
  ⟨fun _ => DA, fun _ => propext DB, fun _ _ _ _ _ => propext DC, fun _ _ _ _ _ => propext DD, fun _ _ _ _ _ => propext DE, fun _ _ _ _ _ => propext DF, DG, DH, fun _ _ => propext DI, DJ, DK, fun _ _ _ => rfl, fun _ _ => propext DM, fun _ _ => propext DN⟩

abbrev Env := List (Nat × Value)
/-- what is known of slot t -/
def lk : Env → Nat → Option Value
  | [], _ => none
  | (k, v) :: r, t => bif Nat.beq k t then some v else lk r t
/-- an operand's value -/
def ev (env : Env) : Operand → Option Value
  | .tmp t => lk env t
  | .const v => some v
  | .global g => some (.pointer (some ⟨g, 0, none⟩))
  | .func f => some (.func (.func f) #[] #[])

structure Ok (N : Nat) (D : List Deferred) (env : Env) (a : Act) : Prop where
  size : a.tmps.size = N
  defers : a.defers = D
  get : ∀ t v, lk env t = some v → a.tmps[t]? = some v

section
variable {P : Program} {N : Nat} {D : List Deferred} {env env' : Env} {a : Act} {w w' : World} {Q : Exit → Act → World → Prop} {K : Act → World → Prop}

theorem Ok.eval (h : Ok N D env a) {x : Operand} {v : Value} (hx : ev env x = some v) : a.eval x = v := by
  cases x with
  | tmp t =>
    have := h.get t v hx
    simp [Act.eval, Array.getD_eq_getD_getElem?, this]
  | const v' => exact Option.some.inj hx
  | global g => exact Option.some.inj hx
  | func f => exact Option.some.inj hx

theorem beq_eq {k t : Nat} (h : Nat.beq k t = true) : k = t := Nat.eq_of_beq_eq_true h
theorem lk_cons (d : Nat) (v : Value) (env : Env) (t : Nat) : lk ((d, v) :: env) t = if d = t then some v else lk env t := by
  unfold lk
  by_cases h : d = t
  · subst h; simp
  · have : Nat.beq d t = false := by cases e : Nat.beq d t with
      | false => rfl
      | true => exact absurd (beq_eq e) h
    rw [this, if_neg h]; cases env <;> rfl

theorem Ok.put (h : Ok N D env a) {d : Nat} (hd : Nat.blt d N = true) (v : Value) : Ok N D ((d, v) :: env) (a.put (some d) v) := by
  have hd' : d < N := Nat.le_of_ble_eq_true hd
  refine ⟨by simp [Act.put, h.size], h.defers, fun t u ht => ?_⟩
  rw [lk_cons] at ht
  show (a.tmps.setIfInBounds d v)[t]? = some u
  rw [Array.getElem?_setIfInBounds]
  by_cases e : d = t
  · subst e
    rw [if_pos rfl] at ht ⊢
    rw [if_pos (by rw [h.size]; exact hd')]
    exact ht
  · rw [if_neg e] at ht ⊢
    exact h.get t u ht

/-- env' says nothing that env doesn't -/
def Sub (env' env : Env) : Prop := ∀ t v, lk env' t = some v → lk env t = some v
theorem Sub.nil : Sub [] env := fun _ _ h => by cases h
theorem Sub.cons {d : Nat} {v : Value} (h : lk env d = some v) (hs : Sub env' env) : Sub ((d, v) :: env') env := fun t u ht => by
  rw [lk_cons] at ht
  by_cases e : d = t
  · subst e; rw [if_pos rfl] at ht; cases ht; exact h
  · rw [if_neg e] at ht; exact hs t u ht
theorem Sub.cons' {d : Nat} {v v' : Value} (h : lk env d = some v') (e : v' = v) (hs : Sub env' env) : Sub ((d, v) :: env') env := Sub.cons (e ▸ h) hs
theorem Ok.sub (h : Ok N D env a) (hs : Sub env' env) : Ok N D env' a := ⟨h.size, h.defers, fun t v ht => h.get t v (hs t v ht)⟩

/-- code, a region's operations, an exit, from a frame of which env is known -/
def Wc (P : Program) (Q : Exit → Act → World → Prop) (c : Code) (N : Nat) (D : List Deferred) (env : Env) (w : World) : Prop := ∀ a, Ok N D env a → c.wp P Q a w
def Wl (P : Program) (ops : Array Oper) (Q : Exit → Act → World → Prop) (l : List Oper) (N : Nat) (D : List Deferred) (env : Env) (w : World) : Prop := ∀ a, Ok N D env a → wpList P ops Q l a w
def Wq (Q : Exit → Act → World → Prop) (e : Exit) (N : Nat) (D : List Deferred) (env : Env) (w : World) : Prop := ∀ a, Ok N D env a → Q e a w

/-! ### control -/
theorem Wc.seq {x y : Code} (h : ∀ K : Act → World → Prop, (∀ (env : Env) (w : World), Wc P Q y N D env w → ∀ a, Ok N D env a → K a w) → Wc P (Exit.then K Q) x N D env w) : Wc P Q (.seq x y) N D env w := fun a ha =>
  wp_seq_k fun K hK => h (fun a w => K a w) (fun _ w hw a ha => hK a w (hw a ha)) a ha
theorem Wc.skip (h : Wq Q .normal N D env w) : Wc P Q .skip N D env w := fun a ha => wp_skip (h a ha)
theorem Wc.ret (h : Wq Q .ret N D env w) : Wc P Q .ret N D env w := fun a ha => wp_ret (h a ha)
theorem Wc.exit {id : Nat} (h : Wq Q (.exit id) N D env w) : Wc P Q (.exit id) N D env w := fun a ha => wp_exit (h a ha)
theorem Wc.block {id : Nat} {c : Code} (h : Wc P (Exit.inBlock id Q) c N D env w) : Wc P Q (.block id c) N D env w := fun a ha => wp_block (h a ha)
theorem Wc.cond {c : Operand} {x y : Code} {t : Bool} (hc : ev env c = some (.bool t)) (ht : t = true → Wc P Q x N D env w) (hf : t = false → Wc P Q y N D env w) : Wc P Q (.cond c x y) N D env w :=
  fun a ha => wp_cond_split (ha.eval hc) (fun e => ht e a ha) (fun e => hf e a ha)
theorem Wc.cond_t {c : Operand} {x y : Code} (hc : ev env c = some (.bool true)) (h : Wc P Q x N D env w) : Wc P Q (.cond c x y) N D env w := fun a ha => wp_cond_true (ha.eval hc) (h a ha)
theorem Wc.cond_f {c : Operand} {x y : Code} (hc : ev env c = some (.bool false)) (h : Wc P Q y N D env w) : Wc P Q (.cond c x y) N D env w := fun a ha => wp_cond_false (ha.eval hc) (h a ha)
theorem Wc.condT {c : Operand} {x y : Code} {t : Bool} (hc : ev env c = some (.bool t)) (e : t = true) (h : Wc P Q x N D env w) : Wc P Q (.cond c x y) N D env w := by subst e; exact Wc.cond_t hc h
theorem Wc.condF {c : Operand} {x y : Code} {t : Bool} (hc : ev env c = some (.bool t)) (e : t = false) (h : Wc P Q y N D env w) : Wc P Q (.cond c x y) N D env w := by subst e; exact Wc.cond_f hc h
theorem Wc.region {id : Nat} {l : List Oper} (h : Wl P l.toArray Q l N D env w) : Wc P Q (.region id l.toArray false) N D env w := fun a ha => wp_region_lit (h a ha)

/-- the ways out -/
theorem Wq.next {y : Code} (hK : ∀ env w, Wc P Q y N D env w → ∀ a, Ok N D env a → K a w) (h : Wc P Q y N D env w) : Wq (Exit.then K Q) .normal N D env w := fun a ha => hK env w h a ha
theorem Wq.then_ret (h : Wq Q .ret N D env w) : Wq (Exit.then K Q) .ret N D env w := h
theorem Wq.then_exit {i : Nat} (h : Wq Q (.exit i) N D env w) : Wq (Exit.then K Q) (.exit i) N D env w := h
theorem Wq.block_ret {i : Nat} (h : Wq Q .ret N D env w) : Wq (Exit.inBlock i Q) .ret N D env w := h
theorem Wq.block_normal {i : Nat} (h : Wq Q .normal N D env w) : Wq (Exit.inBlock i Q) .normal N D env w := h
theorem Wq.block_exit {i : Nat} (h : Wq Q .normal N D env w) : Wq (Exit.inBlock i Q) (.exit i) N D env w := fun a ha => by
  show (if i = i then _ else _)
  rw [if_pos rfl]; exact h a ha
theorem Wc.loop {c : Code} {X : Type} (E : X → Env) (I : X → World → Prop) (m : X → Nat) (x0 : X) (h0 : Sub (E x0) env) (hI : I x0 w)
    (round : ∀ x w, I x w → ∀ K : Act → World → Prop, (∀ env' w' x', m x' < m x → Sub (E x') env' → I x' w' → ∀ a, Ok N D env' a → K a w') → Wc P (Exit.then K Q) c N D (E x) w) : Wc P Q (.loop c) N D env w := fun a ha => by
  refine wp_loop_ghost (fun n a w => ∃ x, m x = n ∧ Ok N D (E x) a ∧ I x w) (m x0) ⟨x0, rfl, ha.sub h0, hI⟩ ?_
  rintro n a w ⟨x, rfl, hx, hi⟩
  exact round x w hi (fun a' w' => ∃ n', n' < m x ∧ ∃ x', m x' = n' ∧ Ok N D (E x') a' ∧ I x' w') (fun env' w' x' hm hs hI' a' ha' => ⟨_, hm, x', rfl, ha'.sub hs, hI'⟩) a hx
/-! ### a function -/
def envOf : Nat → List Value → Env
  | _, [] => []
  | n, v :: l => (n, v) :: envOf (n + 1) l
theorem lk_envOf : ∀ (l : List Value) (n t : Nat) (v : Value), lk (envOf n l) t = some v → n ≤ t ∧ l[t - n]? = some v
  | [], _, _, _, h => by cases h
  | u :: l, n, t, v, h => by
    rw [envOf, lk_cons] at h
    by_cases e : n = t
    · subst e; rw [if_pos rfl] at h; simpa using h
    · rw [if_neg e] at h
      obtain ⟨h1, h2⟩ := lk_envOf l (n + 1) t v h
      refine ⟨by omega, ?_⟩
      obtain ⟨k, rfl⟩ : ∃ k, t = n + 1 + k := ⟨t - (n + 1), by omega⟩
      rw [show n + 1 + k - (n + 1) = k by omega] at h2
      rw [show n + 1 + k - n = k + 1 by omega]
      simpa using h2
theorem enter {f : FuncId} {fn : Func} {c : Code} {l : List Value} {R : Ending → World → Prop} (hf : P.funcs[f]? = some fn) (hb : fn.body = some c) (hN : fn.ntmps = N) (hl : Nat.ble l.length N = true)
    (h : Wc P (bodyPost P fn R) c N [] (envOf 0 l) w) : Calls P f l.toArray w R := by
  have hl' : l.length ≤ N := Nat.le_of_ble_eq_true hl
  refine calls_of_wp hf hb (h _ ⟨?_, rfl, fun t v ht => ?_⟩)
  · simp [hN]; omega
  · obtain ⟨_, h2⟩ := lk_envOf l 0 t v ht
    simp only [Nat.sub_zero] at h2
    obtain ⟨hlt, _⟩ := List.getElem?_eq_some_iff.1 h2
    simp only [Array.getElem?_append, List.size_toArray]
    rw [if_pos hlt]
    simpa using h2

theorem end0 {fn : Func} {R : Ending → World → Prop} (hr : fn.results = #[]) (h : R (.returned (.tuple #[])) w) : Wq (bodyPost P fn R) .normal N [] env w := fun _ ha => ⟨ha.defers, _, results_none hr _ _ _, h⟩
theorem Ok.getD (h : Ok N D env a) {t : Nat} {v : Value} (hx : lk env t = some v) : a.tmps.getD t undef = v := h.eval (x := .tmp t) hx
theorem ret1 {fn : Func} {R : Ending → World → Prop} {t : Nat} {v : Value} (hr : fn.results = #[.tmp t]) (hx : lk env t = some v) (h : R (.returned v) w) : Wq (bodyPost P fn R) .ret N [] env w :=
  fun _ ha => ⟨ha.defers, v, by rw [results_tmp hr, ha.getD hx], h⟩
theorem ret2 {fn : Func} {R : Ending → World → Prop} {t u : Nat} {x y : Value} (hr : fn.results = #[.tmp t, .tmp u]) (hx : lk env t = some x) (hy : lk env u = some y) (h : R (.returned (.tuple #[x, y])) w) : Wq (bodyPost P fn R) .ret N [] env w :=
  fun _ ha => ⟨ha.defers, _, by rw [results_tmp2 hr, ha.getD hx, ha.getD hy], h⟩
theorem ret3 {fn : Func} {R : Ending → World → Prop} {t u s : Nat} {x y z : Value} (hr : fn.results = #[.tmp t, .tmp u, .tmp s]) (hx : lk env t = some x) (hy : lk env u = some y) (hz : lk env s = some z) (h : R (.returned (.tuple #[x, y, z])) w) : Wq (bodyPost P fn R) .ret N [] env w :=
  fun _ ha => ⟨ha.defers, .tuple #[x, y, z], by have h1 := ha.getD hx; have h2 := ha.getD hy; have h3 := ha.getD hz; simp only [Array.getD_eq_getD_getElem?] at h1 h2 h3; simp [results, hr, h1, h2, h3], h⟩
/-! ### one operation -/
section ops
variable {ops : Array Oper} {rest : List Oper} {d : Nat} {op : Op} {ty : TypeId} {pos : String} {af : Array Edge}

theorem Wl.nil (h : Wq Q .normal N D env w) : Wl P ops Q [] N D env w := h

/-- an operation that has a value -/
theorem Wl.val {v : Value} (hd : Nat.blt d N = true) (hr : ∀ a, Ok N D env a → (execOp a.eval ⟨some d, op, ty, pos, af, none⟩).run P w = .ok (.value v) w') (h : Wl P ops Q rest N D ((d, v) :: env) w') :
    Wl P ops Q (⟨some d, op, ty, pos, af, none⟩ :: rest) N D env w := fun a ha => by
  unfold wpList
  simp only [Region.wanted, if_true]
  refine .inl ?_
  unfold Oper.wp
  rw [hr a ha, Oper.upon_value]
  exact h _ (ha.put hd v)
theorem Wl.skp {dst : Option Tmp} (hd : dst = none) (hr : ∀ a, Ok N D env a → (execOp a.eval ⟨dst, op, ty, pos, af, none⟩).run P w = .ok .skip w') (h : Wl P ops Q rest N D env w') :
    Wl P ops Q (⟨dst, op, ty, pos, af, none⟩ :: rest) N D env w := fun a ha => by
  subst hd
  unfold wpList
  simp only [Region.wanted, if_true]
  refine .inl ?_
  unfold Oper.wp
  rw [hr a ha, Oper.upon_skip]
  exact h _ ha

/-- a guarded operation -/
theorem Wl.on {g : Nat} {b : Bool} {s : Nat} {dst : Option Tmp} (hs : (ops[g]?).bind (·.dst) = some s) (hb : lk env s = some (.bool b))
    (h : Wl P ops Q (⟨dst, op, ty, pos, af, none⟩ :: rest) N D env w) : Wl P ops Q (⟨dst, op, ty, pos, af, some (g, b)⟩ :: rest) N D env w := fun a ha => by
  have h1 := h a ha
  unfold wpList at h1 ⊢
  have hy : yielded ops a.tmps g = some b := by
    unfold yielded
    rw [hs]
    show (match a.tmps[s]? with | some (.bool b) => some b | _ => none) = some b
    rw [ha.get s _ hb]
  simp only [Region.wanted, if_true] at h1
  simp only [Region.wanted, hy, beq_self_eq_true, if_true]
  exact h1
theorem Wl.off {g : Nat} {b c : Bool} {s : Nat} (hs : (ops[g]?).bind (·.dst) = some s) (hb : lk env s = some (.bool c)) (hne : (c == b) = false) (hd : Nat.blt d N = true)
    (h : Wl P ops Q rest N D ((d, undef) :: env) w) : Wl P ops Q (⟨some d, op, ty, pos, af, some (g, b)⟩ :: rest) N D env w := fun a ha => by
  unfold wpList
  have hy : yielded ops a.tmps g = some c := by
    unfold yielded
    rw [hs]
    show (match a.tmps[s]? with | some (.bool b) => some b | _ => none) = some c
    rw [ha.get s _ hb]
  have : (some c == some b) = false := by simpa using hne
  simp only [Region.wanted, hy, this]
  exact h _ (ha.put hd undef)
theorem Wl.on' {g : Nat} {b t : Bool} {s : Nat} {dst : Option Tmp} (hs : (ops[g]?).bind (·.dst) = some s) (hb : lk env s = some (.bool t)) (e : t = b)
    (h : Wl P ops Q (⟨dst, op, ty, pos, af, none⟩ :: rest) N D env w) : Wl P ops Q (⟨dst, op, ty, pos, af, some (g, b)⟩ :: rest) N D env w := by subst e; exact Wl.on hs hb h
theorem Wl.off' {g : Nat} {b c c' : Bool} {s : Nat} (hs : (ops[g]?).bind (·.dst) = some s) (hb : lk env s = some (.bool c)) (e : c = c') (hne : (c' == b) = false) (hd : Nat.blt d N = true)
    (h : Wl P ops Q rest N D ((d, undef) :: env) w) : Wl P ops Q (⟨some d, op, ty, pos, af, some (g, b)⟩ :: rest) N D env w := by subst e; exact Wl.off hs hb hne hd h
/-- guarded by what was passed over itself -/
theorem Wl.offU {g : Nat} {b : Bool} {s : Nat} (hs : (ops[g]?).bind (·.dst) = some s) (hb : lk env s = some undef) (hd : Nat.blt d N = true)
    (h : Wl P ops Q rest N D ((d, undef) :: env) w) : Wl P ops Q (⟨some d, op, ty, pos, af, some (g, b)⟩ :: rest) N D env w := fun a ha => by
  unfold wpList
  have hy : yielded ops a.tmps g = none := by
    unfold yielded
    rw [hs]
    show (match a.tmps[s]? with | some (.bool b) => some b | _ => none) = none
    rw [ha.get s _ hb]
    rfl
  have : ((none : Option Bool) == some b) = false := rfl
  simp only [Region.wanted, hy, this]
  exact h _ (ha.put hd undef)
theorem Wl.guardT {g : Nat} {t : Bool} {s : Nat} (hs : (ops[g]?).bind (·.dst) = some s) (hb : lk env s = some (.bool t)) (hd : Nat.blt d N = true)
    (h1 : t = true → Wl P ops Q (⟨some d, op, ty, pos, af, none⟩ :: rest) N D env w) (h2 : t = false → Wl P ops Q rest N D ((d, undef) :: env) w) : Wl P ops Q (⟨some d, op, ty, pos, af, some (g, true)⟩ :: rest) N D env w := by
  cases t
  · exact Wl.off hs hb rfl hd (h2 rfl)
  · exact Wl.on hs hb (h1 rfl)
theorem Wl.guardF {g : Nat} {t : Bool} {s : Nat} (hs : (ops[g]?).bind (·.dst) = some s) (hb : lk env s = some (.bool t)) (hd : Nat.blt d N = true)
    (h1 : t = true → Wl P ops Q rest N D ((d, undef) :: env) w) (h2 : t = false → Wl P ops Q (⟨some d, op, ty, pos, af, none⟩ :: rest) N D env w) : Wl P ops Q (⟨some d, op, ty, pos, af, some (g, false)⟩ :: rest) N D env w := by
  cases t
  · exact Wl.on hs hb (h2 rfl)
  · exact Wl.off hs hb rfl hd (h1 rfl)
end ops
end
end Go.Bw
namespace Go.Bw
open Go.RowKit
set_option linter.unusedVariables false
set_option linter.unusedSimpArgs false

/-- a text out of its bytes -/
def str (l : List UInt8) : Value := .string ⟨l.toArray⟩
theorem str_of (s : ByteArray) : Value.string s = str s.data.toList := by simp [str]

def evs (env : Env) : List Operand → Option (List Value)
  | [] => some []
  | x :: r => match ev env x, evs env r with
    | some v, some l => some (v :: l)
    | _, _ => none

section
variable {P : Program} {N : Nat} {D : List Deferred} {env env' : Env} {a : Act} {w w' : World} {Q : Exit → Act → World → Prop}
variable {ops : Array Oper} {rest : List Oper} {d : Nat} {op : Op} {ty : TypeId} {pos : String} {af : Array Edge}

theorem evs_map (ha : Ok N D env a) : ∀ {xs : List Operand} {vs : List Value}, evs env xs = some vs → xs.map a.eval = vs
  | [], vs, h => by cases h; rfl
  | x :: r, vs, h => by
    unfold evs at h
    cases h1 : ev env x with
    | none => rw [h1] at h; cases h
    | some v =>
      cases h2 : evs env r with
      | none => rw [h1, h2] at h; cases h
      | some l =>
        rw [h1, h2] at h; cases h
        rw [List.map_cons, ha.eval h1, evs_map ha h2]

theorem evs_arr (ha : Ok N D env a) {xs : Array Operand} {vs : List Value} (h : evs env xs.toList = some vs) : xs.map a.eval = vs.toArray := by
  have := evs_map ha h
  rw [← this]
  apply Array.ext'
  simp
/-- parts of a literal -/
def evp (env : Env) : List (Nat × Operand) → Option (List (Nat × Value))
  | [] => some []
  | (i, x) :: r => match ev env x, evp env r with
    | some v, some l => some ((i, v) :: l)
    | _, _ => none
theorem evp_map (ha : Ok N D env a) : ∀ {xs : List (Nat × Operand)} {vs : List (Nat × Value)}, evp env xs = some vs → xs.map (fun (i, x) => (i, a.eval x)) = vs
  | [], vs, h => by cases h; rfl
  | (i, x) :: r, vs, h => by
    unfold evp at h
    cases h1 : ev env x with
    | none => rw [h1] at h; cases h
    | some v =>
      cases h2 : evp env r with
      | none => rw [h1, h2] at h; cases h
      | some l =>
        rw [h1, h2] at h; cases h
        rw [List.map_cons, evp_map ha h2]
        simp [ha.eval h1]
theorem evp_arr (ha : Ok N D env a) {xs : Array (Nat × Operand)} {vs : List (Nat × Value)} (h : evp env xs.toList = some vs) : xs.map (fun (i, x) => (i, a.eval x)) = vs.toArray := by
  have := evp_map ha h
  rw [← this]
  apply Array.ext'
  simp
/-- the operation has the value v, in every world, and leaves the world alone -/
def Yl (P : Program) (N : Nat) (D : List Deferred) (env : Env) (op : Op) (ty : TypeId) (v : Value) : Prop :=
  ∀ a, Ok N D env a → ∀ (w : World) (dst : Option Tmp) (pos : String) (af : Array Edge) (g : Option (Nat × Bool)), (execOp a.eval ⟨dst, op, ty, pos, af, g⟩).run P w = .ok (.value v) w
/-- likewise in the world w -/
def Ld (P : Program) (N : Nat) (D : List Deferred) (env : Env) (w : World) (op : Op) (ty : TypeId) (v : Value) : Prop :=
  ∀ a, Ok N D env a → ∀ (dst : Option Tmp) (pos : String) (af : Array Edge) (g : Option (Nat × Bool)), (execOp a.eval ⟨dst, op, ty, pos, af, g⟩).run P w = .ok (.value v) w
/-- likewise, and leaves w' -/
def Mk (P : Program) (N : Nat) (D : List Deferred) (env : Env) (w : World) (op : Op) (ty : TypeId) (v : Value) (w' : World) : Prop :=
  ∀ a, Ok N D env a → ∀ (dst : Option Tmp) (pos : String) (af : Array Edge) (g : Option (Nat × Bool)), (execOp a.eval ⟨dst, op, ty, pos, af, g⟩).run P w = .ok (.value v) w'
/-- a store -/
def St (P : Program) (N : Nat) (D : List Deferred) (env : Env) (w : World) (op : Op) (ty : TypeId) (w' : World) : Prop :=
  ∀ a, Ok N D env a → ∀ (dst : Option Tmp) (pos : String) (af : Array Edge) (g : Option (Nat × Bool)), (execOp a.eval ⟨dst, op, ty, pos, af, g⟩).run P w = .ok .skip w'

theorem Wl.y {v : Value} (hy : Yl P N D env op ty v) (hd : Nat.blt d N = true) (h : Wl P ops Q rest N D ((d, v) :: env) w) : Wl P ops Q (⟨some d, op, ty, pos, af, none⟩ :: rest) N D env w :=
  Wl.val hd (fun a ha => hy a ha w _ _ _ _) h
theorem Wl.l {v : Value} (hy : Ld P N D env w op ty v) (hd : Nat.blt d N = true) (h : Wl P ops Q rest N D ((d, v) :: env) w) : Wl P ops Q (⟨some d, op, ty, pos, af, none⟩ :: rest) N D env w :=
  Wl.val hd (fun a ha => hy a ha _ _ _ _) h
theorem Wl.m {v : Value} (hy : Mk P N D env w op ty v w') (hd : Nat.blt d N = true) (h : Wl P ops Q rest N D ((d, v) :: env) w') : Wl P ops Q (⟨some d, op, ty, pos, af, none⟩ :: rest) N D env w :=
  Wl.val hd (fun a ha => hy a ha _ _ _ _) h
theorem Wl.s (hy : St P N D env w op ty w') (h : Wl P ops Q rest N D env w') : Wl P ops Q (⟨none, op, ty, pos, af, none⟩ :: rest) N D env w :=
  Wl.skp rfl (fun a ha => hy a ha _ _ _ _) h

theorem y_move {x : Operand} {v : Value} (hx : ev env x = some v) : Yl P N D env (.move x) ty v := fun a ha w dst pos af g => by simp [execOp, ha.eval hx]
theorem y_assign {x : Operand} {v : Value} (hx : ev env x = some v) : Yl P N D env (.assign x) ty v := fun a ha w dst pos af g => by simp [execOp, ha.eval hx]
theorem y_pick {c x y : Operand} {t : Bool} {v : Value} (hc : ev env c = some (.bool t)) (hv : ev env (bif t then x else y) = some v) : Yl P N D env (.pick c x y) ty v := fun a ha w dst pos af g => by
  cases t <;> simp [execOp, ha.eval hc, asBool] <;> exact ha.eval hv
theorem y_pickT {c x y : Operand} {t : Bool} {v : Value} (hc : ev env c = some (.bool t)) (e : t = true) (hv : ev env x = some v) : Yl P N D env (.pick c x y) ty v := by subst e; exact y_pick hc hv
theorem y_pickF {c x y : Operand} {t : Bool} {v : Value} (hc : ev env c = some (.bool t)) (e : t = false) (hv : ev env y = some v) : Yl P N D env (.pick c x y) ty v := by subst e; exact y_pick hc hv
theorem Wl.mv {x : Operand} {v : Value} (hx : ev env x = some v) (hd : Nat.blt d N = true) (h : Wl P ops Q rest N D ((d, v) :: env) w) : Wl P ops Q (⟨some d, .move x, ty, pos, af, none⟩ :: rest) N D env w := Wl.y (y_move hx) hd h
theorem Wl.sg {x : Operand} {v : Value} (hx : ev env x = some v) (hd : Nat.blt d N = true) (h : Wl P ops Q rest N D ((d, v) :: env) w) : Wl P ops Q (⟨some d, .assign x, ty, pos, af, none⟩ :: rest) N D env w := Wl.y (y_assign hx) hd h
/-- a nil check of what is not nil -/
theorem y_nilCheck {x : Operand} {p : Addr} (hx : ev env x = some (.pointer (some p))) : Yl P N D env (.nilCheck x) ty (.pointer (some p)) := fun a ha w dst pos af g => by simp [execOp, ha.eval hx]
/-! ### whole numbers -/
theorem y_add {x y : Operand} {k : IntKind} {m n : Int} {t u : TypeId} (hx : ev env x = some (.int k m)) (hy : ev env y = some (.int k n)) : Yl P N D env (.binOp .add t x y u) ty (.int k (k.wrap (m + n))) :=
  fun a ha w dst pos af g => by simp [execOp, ha.eval hx, ha.eval hy, eqGuard_add, binOp_add, Op.intArith]
theorem y_sub {x y : Operand} {k : IntKind} {m n : Int} {t u : TypeId} (hx : ev env x = some (.int k m)) (hy : ev env y = some (.int k n)) : Yl P N D env (.binOp .sub t x y u) ty (.int k (k.wrap (m - n))) :=
  fun a ha w dst pos af g => by simp [execOp, ha.eval hx, ha.eval hy, eqGuard_sub, binOp_sub, Op.intArith]
theorem y_mul {x y : Operand} {k : IntKind} {m n : Int} {t u : TypeId} (hx : ev env x = some (.int k m)) (hy : ev env y = some (.int k n)) : Yl P N D env (.binOp .mul t x y u) ty (.int k (k.wrap (m * n))) :=
  fun a ha w dst pos af g => by simp [execOp, ha.eval hx, ha.eval hy, eqGuard_mul, binOp_mul, Op.intArith]
theorem y_and {x y : Operand} {k : IntKind} {m n : Int} {t u : TypeId} (hx : ev env x = some (.int k m)) (hy : ev env y = some (.int k n)) : Yl P N D env (.binOp .and t x y u) ty (.int k (bits .and k m n)) :=
  fun a ha w dst pos af g => by simp [execOp, ha.eval hx, ha.eval hy, eqGuard_and, binOp_and, intBits_and]
theorem y_or {x y : Operand} {k : IntKind} {m n : Int} {t u : TypeId} (hx : ev env x = some (.int k m)) (hy : ev env y = some (.int k n)) : Yl P N D env (.binOp .or t x y u) ty (.int k (bits .or k m n)) :=
  fun a ha w dst pos af g => by simp [execOp, ha.eval hx, ha.eval hy, eqGuard_or, binOp_or, intBits_or]
theorem y_eqli {x y : Operand} {k : IntKind} {m n : Int} {t u : TypeId} (hx : ev env x = some (.int k m)) (hy : ev env y = some (.int k n)) : Yl P N D env (.binOp .eql t x y u) ty (.bool (m == n)) :=
  fun a ha w dst pos af g => by simp [execOp, ha.eval hx, ha.eval hy, eqGuard_at_int, binOp_eql]
theorem y_neqi {x y : Operand} {k : IntKind} {m n : Int} {t u : TypeId} (hx : ev env x = some (.int k m)) (hy : ev env y = some (.int k n)) : Yl P N D env (.binOp .neq t x y u) ty (.bool (m != n)) :=
  fun a ha w dst pos af g => by simp [execOp, ha.eval hx, ha.eval hy, eqGuard_at_int, binOp_neq]
theorem y_lssi {x y : Operand} {k : IntKind} {m n : Int} {t u : TypeId} (hx : ev env x = some (.int k m)) (hy : ev env y = some (.int k n)) : Yl P N D env (.binOp .lss t x y u) ty (.bool (decide (m < n))) :=
  fun a ha w dst pos af g => by simp [execOp, ha.eval hx, ha.eval hy, eqGuard_lss, binOp_lss]
theorem y_leqi {x y : Operand} {k : IntKind} {m n : Int} {t u : TypeId} (hx : ev env x = some (.int k m)) (hy : ev env y = some (.int k n)) : Yl P N D env (.binOp .leq t x y u) ty (.bool (decide (m ≤ n))) :=
  fun a ha w dst pos af g => by simp [execOp, ha.eval hx, ha.eval hy, eqGuard_leq, binOp_leq]
theorem y_gtri {x y : Operand} {k : IntKind} {m n : Int} {t u : TypeId} (hx : ev env x = some (.int k m)) (hy : ev env y = some (.int k n)) : Yl P N D env (.binOp .gtr t x y u) ty (.bool (decide (n < m))) :=
  fun a ha w dst pos af g => by simp [execOp, ha.eval hx, ha.eval hy, eqGuard_gtr, binOp_gtr]
theorem y_geqi {x y : Operand} {k : IntKind} {m n : Int} {t u : TypeId} (hx : ev env x = some (.int k m)) (hy : ev env y = some (.int k n)) : Yl P N D env (.binOp .geq t x y u) ty (.bool (decide (n ≤ m))) :=
  fun a ha w dst pos af g => by simp [execOp, ha.eval hx, ha.eval hy, eqGuard_geq, binOp_geq]
theorem y_shl {x y : Operand} {k k' : IntKind} {m n : Int} {t u : TypeId} (hx : ev env x = some (.int k m)) (hy : ev env y = some (.int k' n)) (h0 : 0 ≤ n) (h1 : n ≤ k.bits) : Yl P N D env (.binOp .shl t x y u) ty (.int k (k.wrap (m * 2 ^ n.toNat))) :=
  fun a ha w dst pos af g => by simp [execOp, ha.eval hx, ha.eval hy, eqGuard_shl, binOp_shl, shift_shl k k' m n h0 h1]
theorem y_shr {x y : Operand} {k k' : IntKind} {m n : Int} {t u : TypeId} (hx : ev env x = some (.int k m)) (hy : ev env y = some (.int k' n)) (h0 : 0 ≤ n) (h1 : n ≤ k.bits) : Yl P N D env (.binOp .shr t x y u) ty (.int k (m / 2 ^ n.toNat)) :=
  fun a ha w dst pos af g => by simp [execOp, ha.eval hx, ha.eval hy, eqGuard_shr, binOp_shr, shift_shr k k' m n h0 h1]
theorem y_quo {x y : Operand} {k : IntKind} {m n : Int} {t u : TypeId} (hx : ev env x = some (.int k m)) (hy : ev env y = some (.int k n)) (h0 : n ≠ 0) : Yl P N D env (.binOp .quo t x y u) ty (.int k (k.wrap (m.tdiv n))) :=
  fun a ha w dst pos af g => by simp [execOp, ha.eval hx, ha.eval hy, eqGuard_quo, binOp_quo, Op.intDiv, h0]
theorem y_rem {x y : Operand} {k : IntKind} {m n : Int} {t u : TypeId} (hx : ev env x = some (.int k m)) (hy : ev env y = some (.int k n)) (h0 : n ≠ 0) : Yl P N D env (.binOp .rem t x y u) ty (.int k (m.tmod n)) :=
  fun a ha w dst pos af g => by simp [execOp, ha.eval hx, ha.eval hy, eqGuard_rem, binOp_rem, Op.intDiv, h0]
theorem wrap_i64 (n : Int) (h0 : -9223372036854775808 ≤ n) (h1 : n ≤ 9223372036854775807) : IntKind.i64.wrap n = n := by rw [IntKind.wrap_i64]; omega
theorem wrap_u64 (n : Int) (h0 : 0 ≤ n) (h1 : n ≤ 18446744073709551615) : IntKind.u64.wrap n = n := by rw [IntKind.wrap_u64]; omega
theorem wrap_u8 (n : Int) (h0 : 0 ≤ n) (h1 : n ≤ 255) : IntKind.u8.wrap n = n := by rw [IntKind.wrap_u8]; omega
theorem y_eq {op : Op} {v v' : Value} (h : Yl P N D env op ty v) (e : v = v') : Yl P N D env op ty v' := e ▸ h
theorem y_addI {x y : Operand} {m n : Int} {t u : TypeId} (hx : ev env x = some (.int .i64 m)) (hy : ev env y = some (.int .i64 n)) (h0 : -9223372036854775808 ≤ m + n) (h1 : m + n ≤ 9223372036854775807) : Yl P N D env (.binOp .add t x y u) ty (.int .i64 (m + n)) :=
  y_eq (y_add hx hy) (by rw [wrap_i64 _ h0 h1])
theorem y_subI {x y : Operand} {m n : Int} {t u : TypeId} (hx : ev env x = some (.int .i64 m)) (hy : ev env y = some (.int .i64 n)) (h0 : -9223372036854775808 ≤ m - n) (h1 : m - n ≤ 9223372036854775807) : Yl P N D env (.binOp .sub t x y u) ty (.int .i64 (m - n)) :=
  y_eq (y_sub hx hy) (by rw [wrap_i64 _ h0 h1])
theorem y_mulI {x y : Operand} {m n : Int} {t u : TypeId} (hx : ev env x = some (.int .i64 m)) (hy : ev env y = some (.int .i64 n)) (h0 : -9223372036854775808 ≤ m * n) (h1 : m * n ≤ 9223372036854775807) : Yl P N D env (.binOp .mul t x y u) ty (.int .i64 (m * n)) :=
  y_eq (y_mul hx hy) (by rw [wrap_i64 _ h0 h1])
/-- a number of another kind -/
theorem y_convi {x : Operand} {k k' : IntKind} {n : Int} {s t : TypeId} {u : TypeDesc} (hu : P.underlying s = some u) (ht : P.underlying t = some (.int k)) (hx : ev env x = some (.int k' n)) : Yl P N D env (.convert s t x) ty (.int k (k.wrap n)) := fun a ha w dst pos af g => by
  simp [execOp, ha.eval hx, convert, run_underlying hu, run_underlying ht, Conv.intToInt]
theorem y_convf {x : Operand} {k : FloatKind} {k' : IntKind} {n : Int} {s t : TypeId} {u : TypeDesc} (hu : P.underlying s = some u) (ht : P.underlying t = some (.float k)) (hx : ev env x = some (.int k' n)) : Yl P N D env (.convert s t x) ty (.float k (k.nearest n)) := fun a ha w dst pos af g => by
  simp [execOp, ha.eval hx, convert, run_underlying hu, run_underlying ht, Conv.intToFloat]

/-! ### bools -/
theorem run_equalIn_bool {t : TypeId} (ht : P.underlying t = some .bool) (m n : Bool) (w : World) : (Op.equalIn Op.maxDepth t (.bool m) (.bool n)).run P w = .ok (m == n) w := by
  show (Op.equalIn (9999 + 1) t (.bool m) (.bool n)).run P w = _
  unfold Op.equalIn
  simp [run_underlying ht]
theorem y_not {x : Operand} {b : Bool} {t : TypeId} (hx : ev env x = some (.bool b)) : Yl P N D env (.unOp .not t x) ty (.bool (!b)) := fun a ha w dst pos af g => by simp [execOp, ha.eval hx, Op.unary]
theorem y_neqb {x y : Operand} {m n : Bool} {t u : TypeId} (ht : P.underlying t = some .bool) (hx : ev env x = some (.bool m)) (hy : ev env y = some (.bool n)) : Yl P N D env (.binOp .neq t x y u) ty (.bool (m != n)) := fun a ha w dst pos af g => by
  simp [execOp, ha.eval hx, ha.eval hy, eqGuard_at_bool, binOp, Op.equal, run_equalIn_bool ht, bne]

/-! ### floats -/
theorem y_eqlf {x y : Operand} {k : FloatKind} {m n : Nat} {t u : TypeId} (hx : ev env x = some (.float k m)) (hy : ev env y = some (.float k n)) : Yl P N D env (.binOp .eql t x y u) ty (.bool (k.format.order m n == some .eq)) :=
  fun a ha w dst pos af g => by simp [execOp, ha.eval hx, ha.eval hy, eqGuard_at_float, binOp, Op.floatCmp]
theorem y_neqf {x y : Operand} {k : FloatKind} {m n : Nat} {t u : TypeId} (hx : ev env x = some (.float k m)) (hy : ev env y = some (.float k n)) : Yl P N D env (.binOp .neq t x y u) ty (.bool (k.format.order m n != some .eq)) :=
  fun a ha w dst pos af g => by simp [execOp, ha.eval hx, ha.eval hy, eqGuard_at_float, binOp, Op.floatCmp]
theorem y_lssf {x y : Operand} {k : FloatKind} {m n : Nat} {t u : TypeId} (hx : ev env x = some (.float k m)) (hy : ev env y = some (.float k n)) : Yl P N D env (.binOp .lss t x y u) ty (.bool (k.format.order m n == some .lt)) :=
  fun a ha w dst pos af g => by simp [execOp, ha.eval hx, ha.eval hy, eqGuard_at_float, binOp, Op.floatCmp]
theorem y_gtrf {x y : Operand} {k : FloatKind} {m n : Nat} {t u : TypeId} (hx : ev env x = some (.float k m)) (hy : ev env y = some (.float k n)) : Yl P N D env (.binOp .gtr t x y u) ty (.bool (k.format.order m n == some .gt)) :=
  fun a ha w dst pos af g => by simp [execOp, ha.eval hx, ha.eval hy, eqGuard_at_float, binOp, Op.floatCmp]
/-! ### texts -/
theorem toList_str (l : List UInt8) : (⟨l.toArray⟩ : ByteArray).toList = l := by rw [Lib.toList_data]
theorem size_str (l : List UInt8) : (⟨l.toArray⟩ : ByteArray).size = l.length := by rw [Lib.size_eq]
theorem y_eqls {x y : Operand} {m n : List UInt8} {t u : TypeId} (hx : ev env x = some (str m)) (hy : ev env y = some (str n)) : Yl P N D env (.binOp .eql t x y u) ty (.bool (m == n)) := fun a ha w dst pos af g => by
  simp [execOp, ha.eval hx, ha.eval hy, str, eqGuard_at_string, binOp, Op.stringOp, toList_str]
theorem y_neqs {x y : Operand} {m n : List UInt8} {t u : TypeId} (hx : ev env x = some (str m)) (hy : ev env y = some (str n)) : Yl P N D env (.binOp .neq t x y u) ty (.bool (m != n)) := fun a ha w dst pos af g => by
  simp [execOp, ha.eval hx, ha.eval hy, str, eqGuard_at_string, binOp, Op.stringOp, toList_str, bne]
theorem y_geqs {x y : Operand} {m n : List UInt8} {t u : TypeId} (hx : ev env x = some (str m)) (hy : ev env y = some (str n)) : Yl P N D env (.binOp .geq t x y u) ty (.bool (!Op.bytesLess m n)) := fun a ha w dst pos af g => by
  simp [execOp, ha.eval hx, ha.eval hy, str, eqGuard_at_string, binOp, Op.stringOp, toList_str]
theorem str_append (m n : List UInt8) : (⟨m.toArray⟩ : ByteArray) ++ ⟨n.toArray⟩ = ⟨(m ++ n).toArray⟩ := by
  apply ByteArray.ext; simp
theorem y_adds {x y : Operand} {m n : List UInt8} {t u : TypeId} (hx : ev env x = some (str m)) (hy : ev env y = some (str n)) (hl : m.length + n.length ≤ 9223372036854775807) : Yl P N D env (.binOp .add t x y u) ty (str (m ++ n)) := fun a ha w dst pos af g => by
  have h1 : ¬ (((m.length + n.length : Nat) : Int) > IntKind.i64.max) := by
    have : IntKind.i64.max = 9223372036854775807 := by decide
    omega
  simp only [execOp, ha.eval hx, ha.eval hy, str, eqGuard_add, binOp, Op.stringOp, size_str, str_append, if_neg h1]
  simp
/-- len -/
theorem y_lens {x : Operand} {l : List UInt8} {t : TypeId} (ht : P.underlying t = some .string) (hl : l.length ≤ 9223372036854775807) (hx : ev env x = some (str l)) : Yl P N D env (.call ⟨.builtin .len, #[x], #[t]⟩) ty (.int .i64 l.length) := fun a ha w dst pos af g => by
  simp [execOp, resolve, invoke, builtin, Builtin.len_, ha.eval hx, str, run_underlying ht, size_str, goInt]
theorem y_lenl {x : Operand} {A : Option Addr} {n c : Nat} {t e : TypeId} (ht : P.underlying t = some (.slice e)) (hl : n ≤ 9223372036854775807) (hx : ev env x = some (.slice A n c)) : Yl P N D env (.call ⟨.builtin .len, #[x], #[t]⟩) ty (.int .i64 n) := fun a ha w dst pos af g => by
  simp [execOp, resolve, invoke, builtin, Builtin.len_, ha.eval hx, run_underlying ht, goInt]
theorem y_min {x y : Operand} {k : IntKind} {m n : Int} {t u : TypeId} (hx : ev env x = some (.int k m)) (hy : ev env y = some (.int k n)) : Yl P N D env (.call ⟨.builtin .min, #[x, y], #[t, u]⟩) ty (.int k (min m n)) := fun a ha w dst pos af g => by
  simp [execOp, resolve, invoke, builtin, Builtin.min_, Builtin.min2, ha.eval hx, ha.eval hy]
  omega

theorem y_max {x y : Operand} {k : IntKind} {m n : Int} {t u : TypeId} (hx : ev env x = some (.int k m)) (hy : ev env y = some (.int k n)) : Yl P N D env (.call ⟨.builtin .max, #[x, y], #[t, u]⟩) ty (.int k (max m n)) := fun a ha w dst pos af g => by
  simp [execOp, resolve, invoke, builtin, Builtin.max_, Builtin.max2, ha.eval hx, ha.eval hy]
  omega

/-- s[i] -/
theorem y_indexs {x i : Operand} {l : List UInt8} {k : IntKind} {n : Int} {t : TypeId} (ht : P.underlying t = some .string) (hx : ev env x = some (str l)) (hi : ev env i = some (.int k n)) (h0 : 0 ≤ n) (h1 : n < l.length) : Yl P N D env (.index t x i) ty (.int .u8 (l.getD n.toNat 0).toNat) := fun a ha w dst pos af g => by
  have hlt : n.toNat < l.length := by omega
  have hg : (⟨l.toArray⟩ : ByteArray)[n.toNat]? = some (l.getD n.toNat 0) := by
    have hs : n.toNat < (⟨l.toArray⟩ : ByteArray).size := by rw [size_str]; exact hlt
    have h1 : (⟨l.toArray⟩ : ByteArray)[n.toNat]? = some ((⟨l.toArray⟩ : ByteArray)[n.toNat]'hs) := by
      show (if h : n.toNat < (⟨l.toArray⟩ : ByteArray).size then _ else _) = _
      rw [dif_pos hs]
    rw [h1]
    have h2 : l.getD n.toNat 0 = l[n.toNat] := by simp [List.getD, hlt]
    rw [h2]; rfl
  simp [execOp, Instr.index, ha.eval hx, ha.eval hi, str, asIntOf, run_underlying ht, h0, hg]
/-- s[lo:hi] -/
theorem extract_str (l : List UInt8) (a b : Nat) : (⟨l.toArray⟩ : ByteArray).extract a b = ⟨((l.take b).drop a).toArray⟩ := by
  rw [Lib.extract_eq]
  simp [List.drop_take]
theorem run_sliceBound {k : IntKind} {i : Int} {y : Nat} {c : BoundsCode} (h0 : 0 ≤ i) (h1 : i ≤ y) (w : World) : (Instr.sliceBound (.int k i) y c).run P w = .ok i.toNat w := by
  simp [Instr.sliceBound, asIntOf, h0, h1]
theorem y_slices {x i j : Operand} {l : List UInt8} {k k' : IntKind} {m n : Int} {t : TypeId} (ht : P.underlying t = some .string) (hx : ev env x = some (str l)) (hi : ev env i = some (.int k m)) (hj : ev env j = some (.int k' n)) (h0 : 0 ≤ m) (h1 : m ≤ n) (h2 : n ≤ l.length) : Yl P N D env (.slice t x (some i) (some j) none) ty (str ((l.take n.toNat).drop m.toNat)) := fun a ha w dst pos af g => by
  have h3 : m ≤ (n.toNat : Int) := by omega
  have h4 : 0 ≤ n := by omega
  simp [execOp, Instr.sliceAt, Instr.slice, Instr.sliceBounds, ha.eval hx, ha.eval hi, ha.eval hj, str, run_underlying ht, size_str, run_sliceBound h0 h3, run_sliceBound h4 h2, extract_str]
theorem y_slicesL {x i : Operand} {l : List UInt8} {k : IntKind} {m : Int} {t : TypeId} (ht : P.underlying t = some .string) (hx : ev env x = some (str l)) (hi : ev env i = some (.int k m)) (h0 : 0 ≤ m) (h1 : m ≤ l.length) : Yl P N D env (.slice t x (some i) none none) ty (str (l.drop m.toNat)) := fun a ha w dst pos af g => by
  have h2 : (l.take l.length).drop m.toNat = l.drop m.toNat := by rw [List.take_length]
  simp [execOp, Instr.sliceAt, Instr.slice, Instr.sliceBounds, Instr.sliceBound, ha.eval hx, ha.eval hi, str, asIntOf, run_underlying ht, size_str, h0, h1, extract_str, h2]
theorem y_slicesH {x j : Operand} {l : List UInt8} {k : IntKind} {n : Int} {t : TypeId} (ht : P.underlying t = some .string) (hx : ev env x = some (str l)) (hj : ev env j = some (.int k n)) (h0 : 0 ≤ n) (h2 : n ≤ l.length) : Yl P N D env (.slice t x none (some j) none) ty (str (l.take n.toNat)) := fun a ha w dst pos af g => by
  simp [execOp, Instr.sliceAt, Instr.slice, Instr.sliceBounds, Instr.sliceBound, ha.eval hx, ha.eval hj, str, asIntOf, run_underlying ht, size_str, h0, h2, extract_str]

/-! ### structs as values -/
theorem y_extract {x : Operand} {vs : Array Value} {i : Nat} {v : Value} (hx : ev env x = some (.tuple vs)) (hv : vs[i]? = some v) : Yl P N D env (.extract x i) ty v := fun a ha w dst pos af g => by
  simp [execOp, ha.eval hx, Instr.extract, hv]
theorem y_makeFunc {fn : Fn} {l c : Array Operand} {vl vc : List Value} (hl : evs env l.toList = some vl) (hc : evs env c.toList = some vc) : Yl P N D env (.makeFunc fn l c) ty (.func fn vl.toArray vc.toArray) := fun a ha w dst pos af g => by
  have h1 : l.map a.eval = vl.toArray := evs_arr ha hl
  have h2 : c.map a.eval = vc.toArray := evs_arr ha hc
  simp [execOp, Instr.makeFunc, h1, h2]

theorem int_eq {k : IntKind} {m n : Int} (h : m = n) : Value.int k m = Value.int k n := by rw [h]
theorem str_eq {l m : List UInt8} (h : l = m) : str l = str m := by rw [h]
theorem bool_eq {l m : Bool} (h : l = m) : Value.bool l = Value.bool m := by rw [h]
/-! ### calls -/
/-- a function that returns -/
def Ret (P : Program) (f : FuncId) (args : List Value) (w : World) (R : Value → World → Prop) : Prop := Calls P f args.toArray w fun e w' => ∃ v, e = .returned v ∧ R v w'
theorem Ret.mono {f : FuncId} {args : List Value} {R R' : Value → World → Prop} (h : Ret P f args w R) (hr : ∀ v w', R v w' → R' v w') : Ret P f args w R' :=
  Calls.mono h fun _ _ ⟨v, e, hv⟩ => ⟨v, e, hr v _ hv⟩
/-- a function that has a text -/
def Txt (P : Program) (f : FuncId) : Prop := ∃ fn, P.funcs[f]? = some fn ∧ (fn.name == "runtime.NumGoroutine") = false ∧ fn.body.isNone = false
theorem run_callFunc {f : FuncId} (hf : Txt P f) (args : Array Value) (w : World) : (callFunc f args).run P w = .ok (.enter f args) w := by
  obtain ⟨fn, h1, h2, h3⟩ := hf
  have h4 : ¬ (fn.name = "runtime.NumGoroutine") := by simpa using h2
  have h5 : ¬ (fn.body = Option.none) := by intro e; rw [e] at h3; cases h3
  simp [callFunc, h1, h4, h5]
theorem Wl.callR {x : Operand} {f : FuncId} {xs : Array Operand} {ts : Array TypeId} {l c : Array Value} {vs : List Value} {R : Ending → World → Prop} (hf : Txt P f) (hx : ev env x = some (.func (.func f) l c)) (hxs : evs env xs.toList = some vs)
    (hc : Calls P f (l ++ vs.toArray ++ c) w R) (hd : Nat.blt d N = true) (h : ∀ v w', R (.returned v) w' → Wl P ops Q rest N D ((d, v) :: env) w') (hp : ∀ p w', R (.panicked p) w' → Wq Q (.panic p) N D env w') (ho : ∀ w', ¬ R .outgrown w') :
    Wl P ops Q (⟨some d, .call ⟨.value x, xs, ts⟩, ty, pos, af, none⟩ :: rest) N D env w := fun a ha => by
  unfold wpList
  simp only [Region.wanted, if_true]
  refine .inl ?_
  have hargs : xs.map a.eval = vs.toArray := evs_arr ha hxs
  unfold Oper.wp
  simp only [execOp, resolve, ha.eval hx, hargs, Deferred.ofValue, Sem.run_bind, Sem.run_pure, Result.andThen_ok, invoke, run_callFunc hf, Oper.upon_enter]
  refine hc.mono fun e w' hR => ?_
  cases e with
  | returned v => exact h v w' hR _ (ha.put hd v)
  | panicked p => exact hp p w' hR _ ha
  | outgrown => exact absurd hR (ho w')
theorem Wl.call {x : Operand} {f : FuncId} {xs : Array Operand} {ts : Array TypeId} {l c : Array Value} {vs : List Value} {R : Value → World → Prop} (hf : Txt P f) (hx : ev env x = some (.func (.func f) l c)) (hxs : evs env xs.toList = some vs)
    (hc : Ret P f (l.toList ++ vs ++ c.toList) w R) (hd : Nat.blt d N = true) (h : ∀ v w', R v w' → Wl P ops Q rest N D ((d, v) :: env) w') :
    Wl P ops Q (⟨some d, .call ⟨.value x, xs, ts⟩, ty, pos, af, none⟩ :: rest) N D env w :=
  Wl.callR hf hx hxs (R := fun e w' => ∃ v, e = .returned v ∧ R v w') (by
    have h1 : (l.toList ++ vs ++ c.toList).toArray = l ++ vs.toArray ++ c := by simp
    unfold Ret at hc
    rw [h1] at hc; exact hc) hd (fun v w' ⟨u, e, hu⟩ => by cases e; exact h _ w' hu) (fun p w' ⟨u, e, hu⟩ => by cases e) (fun w' ⟨u, e, hu⟩ => by cases e)
/-- a function without a text of its own -/
theorem y_ext {x : Operand} {f : FuncId} {xs : Array Operand} {ts : Array TypeId} {vs : List Value} {v : Value} (hr : ∀ w, (callFunc f vs.toArray).run P w = .ok (.value v) w) (hx : ev env x = some (.func (.func f) #[] #[])) (hxs : evs env xs.toList = some vs) : Yl P N D env (.call ⟨.value x, xs, ts⟩) ty v := fun a ha w dst pos af g => by
  have hargs : xs.map a.eval = vs.toArray := evs_arr ha hxs
  simp [execOp, resolve, ha.eval hx, hargs, Deferred.ofValue, invoke, hr]
end
end Go.Bw
namespace Go.Bw
open Go.RowKit
set_option linter.unusedVariables false
set_option linter.unusedSimpArgs false

def u8s (l : List UInt8) : List Value := l.map fun c => .int .u8 c.toNat
/-- a slice value's n elements of sz cells each are these cells -/
def Rd (w : World) (sz : Nat) (A : Option Addr) (n : Nat) (xs : List Value) : Prop :=
  xs.length = n * sz ∧ (0 < xs.length → ∃ p, A = some p ∧ ∀ (j : Nat) (u : Value), xs[j]? = some u → w.cell? (p.add j) = some u)

theorem block_lt {w : World} {p : Addr} {v : Value} (h : w.cell? p = some v) : p.block < w.heap.size := World.block_lt_of_cell? w _ h
theorem cell_below {w w' : World} (hb : Below w.heap.size w w') {p : Addr} {v : Value} (h : w.cell? p = some v) : w'.cell? p = some v := (hb.cell (block_lt h)).trans h
theorem Rd.below {w w' : World} {sz : Nat} {A : Option Addr} {n : Nat} {xs : List Value} (h : Rd w sz A n xs) (hb : Below w.heap.size w w') : Rd w' sz A n xs :=
  ⟨h.1, fun hn => let ⟨p, e, hc⟩ := h.2 hn; ⟨p, e, fun j u hu => cell_below hb (hc j u hu)⟩⟩
theorem addr_add_add (a : Addr) (i j : Nat) : (a.add i).add j = a.add (i + j) := by
  unfold Addr.add
  by_cases hi : i = 0 <;> by_cases hj : j = 0 <;> simp [hi, hj, Nat.add_assoc]
theorem Rd.drop {w : World} {sz : Nat} {A : Option Addr} {n m c : Nat} {xs : List Value} (h : Rd w sz A n xs) (hm : m ≤ n) (hc : n ≤ c) : Rd w sz (if c = m then A else A.map (·.add (m * sz))) (n - m) (xs.drop (m * sz)) := by
  refine ⟨by rw [List.length_drop, h.1, Nat.sub_mul], fun hn => ?_⟩
  rw [List.length_drop, h.1] at hn
  have hlt : m < n := by
    rcases Nat.lt_or_ge m n with h1 | h1
    · exact h1
    · have := Nat.mul_le_mul_right sz h1; omega
  obtain ⟨p, rfl, hcell⟩ := h.2 (by rw [h.1]; omega)
  rw [if_neg (by omega)]
  refine ⟨p.add (m * sz), rfl, fun j u hu => ?_⟩
  rw [addr_add_add]
  rw [List.getElem?_drop] at hu
  exact hcell _ u hu
theorem Rd.one {w : World} {A : Option Addr} {n : Nat} {xs : List Value} (h : Rd w 1 A n xs) {i : Nat} (hi : i < n) : ∃ p v, A = some p ∧ xs[i]? = some v ∧ w.cell? (p.add i) = some v := by
  have hl : i < xs.length := by rw [h.1]; omega
  obtain ⟨p, e, hc⟩ := h.2 (by omega)
  exact ⟨p, xs[i], e, List.getElem?_eq_getElem hl, hc i _ (List.getElem?_eq_getElem hl)⟩
theorem at1 {w : World} {p : Addr} {k : Nat} {v : Value} (h : w.cell? (p.add k) = some v) : w.cell? (p.add ((k : Int).toNat * 1)) = some v := by rw [Int.toNat_natCast, Nat.mul_one]; exact h
theorem Rd.of_own {w : World} {base : Nat} {e : TypeId} {sz n c : Nat} {A : Option Addr} {xs : List Value} (h : w.ownsRow base e sz (.slice A n c) n xs) : Rd w sz A n xs := by
  refine ⟨h.1, fun hn => ?_⟩
  rcases h.2 with ⟨hv, h0⟩ | ⟨g, cap, cur, hv, hg, hh, hnc, hcm, hcs, hx⟩
  · have := h.1; rw [h0] at this; omega
  · injection hv with hA h2 h3
    subst hA
    refine ⟨_, rfl, fun j u hu => ?_⟩
    have hadd : (⟨g, 0, none⟩ : Addr).add j = ⟨g, j, none⟩ := by unfold Addr.add; split <;> simp_all
    rw [hadd]
    rw [← hx, List.getElem?_take] at hu
    split at hu
    · simp only [World.cell?, hh]
      simpa using hu
    · cases hu

section
variable {P : Program} {N : Nat} {D : List Deferred} {env env' : Env} {a : Act} {w w' : World} {Q : Exit → Act → World → Prop}
variable {ops : Array Oper} {rest : List Oper} {d : Nat} {op : Op} {ty : TypeId} {pos : String} {af : Array Edge}

/-! ### boxes -/
theorem m_box {x : Operand} {v : Value} {e : TypeId} (hx : ev env x = some v) : Mk P N D env w (.box e x) ty (.pointer (some ⟨w.heap.size, 0, none⟩)) (w.alloc (.cells v.cells e)) := fun a ha dst pos af g => by
  simp [execOp, ha.eval hx, Instr.box, newVar, newRow]
/-- one cell -/
def One (P : Program) (t : TypeId) : Prop := ∃ d, P.underlying t = some d ∧ (match d with | .struct _ | .array _ _ => false | _ => true) = true ∧ (P.info? t).map (·.size) = some 1
theorem run_isAgg_one {t : TypeId} (ht : One P t) (w : World) : (isAgg t).run P w = .ok false w := by
  obtain ⟨d, h1, h2, h3⟩ := ht
  cases d <;> simp_all [isAgg, run_underlying h1]
theorem run_loadVar_one {t : TypeId} {p : Addr} {v : Value} (ht : One P t) (hc : w.cell? p = some v) : (loadVar t p).run P w = .ok v w := by
  simp [loadVar, run_isAgg_one ht, hc]
theorem l_load {x : Operand} {t : TypeId} {p : Addr} {v : Value} (ht : One P t) (hx : ev env x = some (.pointer (some p))) (hc : w.cell? p = some v) : Ld P N D env w (.load t x) ty v := fun a ha dst pos af g => by
  simp [execOp, ha.eval hx, Instr.loadAt, Instr.sureAddr, run_loadVar_one ht hc]
theorem s_store {x y : Operand} {t : TypeId} {p : Addr} {u v : Value} (ht : One P t) (hx : ev env x = some (.pointer (some p))) (hy : ev env y = some v) (h1 : v.oneCell' = true) (hc : w.cell? p = some u) (hf : w.frozen? p = false) : St P N D env w (.store t x y) ty (w.setCell p v) := fun a ha dst pos af g => by
  obtain ⟨dd, h2, h3, h4⟩ := ht
  have hcs : v.cells = #[v] := by cases v <;> simp_all [Value.cells, Value.oneCell']
  obtain ⟨i, hi, hs⟩ := Option.map_eq_some_iff.1 h4
  have h5 : (sizeOf t).run P w = .ok 1 w := by simp [sizeOf, typeInfo, hi, hs]
  have h6 : p.add 0 = p := by simp [Addr.add]
  simp [execOp, ha.eval hx, ha.eval hy, Instr.storeAt, Instr.sureAddr, storeVar, hcs, h5, storeCells, h6, run_store P w p v _ h1, stored, hc, hf]
/-- a struct read whole -/
theorem l_loadS {x : Operand} {t : TypeId} {p : Addr} {cs : List Value} {f : Array Field} (ht : P.underlying t = some (.struct f)) (hs : (P.info? t).map (·.size) = some cs.length) (hx : ev env x = some (.pointer (some p))) (hc : ∀ (j : Nat) (u : Value), cs[j]? = some u → w.cell? (p.add j) = some u) : Ld P N D env w (.load t x) ty (.agg cs.toArray) := fun a ha dst pos af g => by
  obtain ⟨i, hi, hsz⟩ := Option.map_eq_some_iff.1 hs
  have h5 : (sizeOf t).run P w = .ok cs.length w := by simp [sizeOf, typeInfo, hi, hsz]
  have h6 := run_loadCells_list (P := P) w p cs hc
  simp [execOp, ha.eval hx, Instr.loadAt, Instr.sureAddr, loadVar, isAgg, run_underlying ht, h5, h6]

/-! ### rows -/
theorem y_indexAddr {x i : Operand} {t e : TypeId} {sz : Nat} {p : Addr} {n c : Nat} {k : IntKind} {m : Int} (ht : P.underlying t = some (.slice e)) (hs : (P.info? e).map (·.size) = some sz) (hx : ev env x = some (.slice (some p) n c)) (hi : ev env i = some (.int k m)) (h0 : 0 ≤ m) (h1 : m < n) :
    Yl P N D env (.indexAddr t x i) ty (.pointer (some (p.add (m.toNat * sz)))) := fun a ha w dst pos af g => by
  obtain ⟨ie, hi2, hsz⟩ := Option.map_eq_some_iff.1 hs
  have h5 : ∀ w, (sizeOf e).run P w = .ok sz w := fun w => by simp [sizeOf, typeInfo, hi2, hsz]
  simp [execOp, Instr.indexAt, ha.eval hx, ha.eval hi, asIntOf, run_underlying ht, h0, h1, h5]
/-- x[lo:hi] of a row -/
theorem run_sizeOf {e : TypeId} {sz : Nat} (hs : (P.info? e).map (·.size) = some sz) (w : World) : (sizeOf e).run P w = .ok sz w := by
  obtain ⟨ie, hi2, hsz⟩ := Option.map_eq_some_iff.1 hs
  simp [sizeOf, typeInfo, hi2, hsz]
theorem y_slicelH {x j : Operand} {A : Option Addr} {n c : Nat} {k : IntKind} {m : Int} {t e : TypeId} {sz : Nat} (ht : P.underlying t = some (.slice e)) (hs : (P.info? e).map (·.size) = some sz) (hx : ev env x = some (.slice A n c)) (hj : ev env j = some (.int k m)) (h0 : 0 ≤ m) (h1 : m ≤ c) :
    Yl P N D env (.slice t x none (some j) none) ty (.slice A m.toNat c) := fun a ha w dst pos af g => by
  have hA : (A.map fun x => x.add 0) = A := by cases A <;> simp [Addr.add]
  simp [execOp, Instr.sliceAt, Instr.slice, Instr.sliceBounds, ha.eval hx, ha.eval hj, run_underlying ht, run_sliceBound h0 h1, run_sizeOf hs, hA]
theorem y_sliceAH {x j : Operand} {p : Addr} {k : IntKind} {m : Int} {t e : TypeId} {sz len : Nat} (ht : P.underlying t = some (.array len e)) (hs : (P.info? e).map (·.size) = some sz) (hx : ev env x = some (.pointer (some p))) (hj : ev env j = some (.int k m)) (h0 : 0 ≤ m) (h1 : m ≤ len) :
    Yl P N D env (.slice t x none (some j) none) ty (.slice (some p) m.toNat len) := fun a ha w dst pos af g => by
  have hA : p.add 0 = p := by simp [Addr.add]
  simp [execOp, Instr.sliceAt, Instr.sureAddr, Instr.sliceBounds, ha.eval hx, ha.eval hj, run_underlying ht, run_sliceBound h0 h1, run_sizeOf hs, hA]
theorem y_slicelL {x i : Operand} {A : Option Addr} {n c : Nat} {k : IntKind} {m : Int} {t e : TypeId} {sz : Nat} (ht : P.underlying t = some (.slice e)) (hs : (P.info? e).map (·.size) = some sz) (hx : ev env x = some (.slice A n c)) (hi : ev env i = some (.int k m)) (h0 : 0 ≤ m) (h1 : m ≤ n) :
    Yl P N D env (.slice t x (some i) none none) ty (.slice (if c = m.toNat then A else A.map (·.add (m.toNat * sz))) (n - m.toNat) (c - m.toNat)) := fun a ha w dst pos af g => by
  simp [execOp, Instr.sliceAt, Instr.slice, Instr.sliceBounds, ha.eval hx, ha.eval hi, run_underlying ht, run_sliceBound h0 h1, run_sizeOf hs]
/-- append to a row of the call's own -/
theorem Wl.append {x y : Operand} {t e : TypeId} {z : Value} {sz bytes : Nat} (ht : P.underlying t = some (.slice e)) (hi : (P.info? e).map (fun i => (i.zero, i.size, i.bytes)) = some (some z, sz, bytes)) (hz : z.cells.size = sz) (hsz : 0 < sz)
    (base : Nat) {v : Value} {n : Nat} {xs : List Value} (hx : ev env x = some v) (hown : w.ownsRow base e sz v n xs)
    {A : Option Addr} {m c : Nat} {news : List Value} (hy : ev env y = some (.slice A m c)) (hr : Rd w sz A m news) (h1 : ∀ u ∈ news, u.oneCell' = true)
    (h63 : n + m ≤ maxLen) (hbytes : (n + m) * bytes ≤ 140737488355328) (hbase : base ≤ w.heap.size) (hd : Nat.blt d N = true)
    (h : ∀ v' w', w'.ownsRow base e sz v' (n + m) (xs ++ news) → w.grownBy w' v.ownBlock → (v'.ownBlock = v.ownBlock ∨ v'.ownBlock = some w.heap.size) → Wl P ops Q rest N D ((d, v') :: env) w') :
    Wl P ops Q (⟨some d, .call ⟨.builtin .append, #[x, y], #[t, t]⟩, ty, pos, af, none⟩ :: rest) N D env w := by
  obtain ⟨i, hi0, hi1⟩ := Option.map_eq_some_iff.1 hi
  simp only [Prod.mk.injEq] at hi1
  obtain ⟨hz0, hs0, hb0⟩ := hi1
  have key : ∃ v' w', (Builtin.append_ #[t, t] ty #[v, .slice A m c]).run P w = .ok v' w' ∧ w'.ownsRow base e sz v' (n + m) (xs ++ news) ∧ w.grownBy w' v.ownBlock ∧ (v'.ownBlock = v.ownBlock ∨ v'.ownBlock = some w.heap.size) := by
    rcases Nat.eq_zero_or_pos news.length with h0 | h0
    · have hm : m = 0 := by
        have := hr.1; rw [h0] at this
        rcases Nat.eq_zero_or_pos m with e | e
        · exact e
        · have := Nat.mul_pos e hsz; omega
      subst hm
      have hn : news = [] := List.eq_nil_of_length_eq_zero h0
      subst hn
      cases A with
      | none =>
        refine ⟨v, w, ?_, by simpa using hown, World.grownBy.refl w _, .inl rfl⟩
        rcases hown.2 with ⟨rfl, rfl⟩ | ⟨g, cap, cur, rfl, _, _, hnc, _⟩
        · simp [Builtin.append_, run_underlying ht, sizeOf, typeInfo, hi0, Builtin.lenOf, Builtin.firstCells]
        · simp [Builtin.append_, run_underlying ht, sizeOf, typeInfo, hi0, Builtin.lenOf, Builtin.firstCells, hnc, storeCells]
      | some ad =>
        obtain ⟨v', w', hrun, h2, h3, _, h5⟩ := run_append_own_at (P := P) w base t ty e i z sz bytes ht hi0 hz0 hs0 hb0 hz hsz v n xs hown ad 0 c [] (by simp) (by simp) (by simp) h63 hbytes hbase
        exact ⟨v', w', hrun, h2, h3, h5⟩
    · obtain ⟨ad, rfl, hc⟩ := hr.2 h0
      obtain ⟨v', w', hrun, h2, h3, _, h5⟩ := run_append_own_at (P := P) w base t ty e i z sz bytes ht hi0 hz0 hs0 hb0 hz hsz v n xs hown ad m c news hr.1 hc h1 h63 hbytes hbase
      exact ⟨v', w', hrun, h2, h3, h5⟩
  obtain ⟨v', w', hrun, h2, h3, h4⟩ := key
  refine Wl.m (w' := w') (v := v') (fun a ha dst pos af g => ?_) hd (h v' w' h2 h3 h4)
  simp [execOp, resolve, invoke, builtin, ha.eval hx, ha.eval hy, hrun]
/-- a literal row; its parts in order -/
def litP : Nat → List Value → List (Nat × Value)
  | _, [] => []
  | i, v :: r => (i, v) :: litP (i + 1) r
theorem set_run : ∀ (cs : List Value) (k off : Nat) (C : Array Value), off + k + cs.length ≤ C.size →
    ((cs.zipIdx k).foldl (fun X (p : Value × Nat) => X.setIfInBounds (off + p.2) p.1) C).toList = C.toList.take (off + k) ++ cs ++ C.toList.drop (off + k + cs.length)
  | [], k, off, C, hl => by simp
  | c :: cs, k, off, C, hl => by
    simp only [List.length_cons] at hl
    have hlt : off + k < C.toList.length := by simp; omega
    rw [List.zipIdx_cons, List.foldl_cons, set_run cs (k + 1) off _ (by simp; omega)]
    simp only [Array.toList_setIfInBounds]
    have h1 : (C.toList.set (off + k) c).take (off + (k + 1)) = C.toList.take (off + k) ++ [c] := by
      rw [show off + (k + 1) = off + k + 1 by omega, List.take_succ_eq_append_getElem (by simpa using hlt), List.take_set_of_le (Nat.le_refl _)]
      simp
    have h2 : (C.toList.set (off + k) c).drop (off + (k + 1) + cs.length) = C.toList.drop (off + k + (c :: cs).length) := by
      rw [List.drop_set_of_lt (by omega)]
      congr 1; simp; omega
    rw [h1, h2]
    simp
theorem fill_lit {sz : Nat} : ∀ (vs : List Value) (i : Nat) (C : Array Value), (∀ v ∈ vs, v.cells.size = sz) → (i + vs.length) * sz ≤ C.size →
    ∃ C' : Array Value, Instr.fill (fun i => some (i * sz, sz)) C (litP i vs) = some C' ∧ C'.size = C.size ∧ C'.toList = C.toList.take (i * sz) ++ (vs.flatMap fun v => v.cells.toList) ++ C.toList.drop ((i + vs.length) * sz)
  | [], i, C, _, _ => ⟨C, by simp [litP, Instr.fill], rfl, by simp⟩
  | v :: vs, i, C, hv, hl => by
    have h1 : v.cells.size = sz := hv v (by simp)
    simp only [List.length_cons] at hl
    have e1 : (i + (vs.length + 1)) * sz = i * sz + sz + vs.length * sz := by rw [Nat.add_mul, Nat.add_mul]; omega
    have hb : i * sz + v.cells.size ≤ C.size := by
      have := Nat.zero_le (vs.length * sz); omega
    obtain ⟨C1, hC1⟩ : ∃ C1 : Array Value, C1 = (v.cells.zipIdx.foldl (fun cs (c, j) => cs.setIfInBounds (i * sz + j) c) C) := ⟨_, rfl⟩
    have hL : C1.toList = C.toList.take (i * sz) ++ v.cells.toList ++ C.toList.drop (i * sz + v.cells.toList.length) := by
      rw [hC1, ← Array.foldl_toList, Array.toList_zipIdx]
      have := set_run v.cells.toList 0 (i * sz) C (by simpa using hb)
      simpa using this
    have hS : C1.size = C.size := by
      have h2 := congrArg List.length hL
      simp only [List.length_append, List.length_take, List.length_drop, Array.length_toList] at h2
      omega
    obtain ⟨C', h3, h4, h5⟩ := fill_lit vs (i + 1) C1 (fun u hu => hv u (List.mem_cons_of_mem _ hu)) (by rw [hS, show i + 1 + vs.length = i + (vs.length + 1) by omega]; exact hl)
    refine ⟨C', ?_, h4.trans hS, ?_⟩
    · show Instr.fill _ C ((i, v) :: litP (i + 1) vs) = some C'
      unfold Instr.fill
      have hcond : ((decide (v.cells.size ≠ sz)) || decide (i * sz + v.cells.size > C.size)) = false := by simp [h1]; omega
      simp only [hcond, ← hC1]
      simpa using h3
    · rw [h5, hL, show i + 1 + vs.length = i + (vs.length + 1) by omega]
      have hlen : (C.toList.take (i * sz) ++ v.cells.toList).length = (i + 1) * sz := by
        simp only [List.length_append, List.length_take, Array.length_toList]; rw [Nat.add_mul]; omega
      rw [List.take_append_of_le_length (by rw [hlen]; exact Nat.le_refl _), List.take_of_length_le (by rw [hlen]; exact Nat.le_refl _)]
      rw [List.drop_append, List.drop_of_length_le (by rw [hlen, e1, Nat.add_mul]; omega), List.drop_drop, hlen]
      simp only [List.flatMap_cons, List.append_assoc, List.nil_append, List.length_cons]
      congr 3
      rw [Array.length_toList, h1, e1, Nat.add_mul, Nat.one_mul]
      congr 1
      omega
theorem m_lit {t e : TypeId} {ln sz : Nat} {parts : Array (Nat × Operand)} {ps : List (Nat × Value)} {vs : List Value} (ht : P.underlying t = some (.slice e)) (hi : (P.info? e).map (fun i => (i.zero.isSome, i.size)) = some (true, sz))
    (hp : evp env parts.toList = some ps) (hl : ps = litP 0 vs) (hv : (vs.all fun v => Nat.beq v.cells.size sz) = true) (hn : Nat.beq vs.length ln = true) (hb : Nat.ble (ln * sz) 16777216 = true) :
    Mk P N D env w (.buildSlice t ln parts) ty (.slice (some ⟨w.heap.size, 0, none⟩) ln ln) (w.alloc (.cells (vs.flatMap fun v => v.cells.toList).toArray e)) := fun a ha dst pos af g => by
  have h0 := evp_arr ha hp
  have hln : vs.length = ln := beq_eq hn
  obtain ⟨i, hi1, hi2⟩ := Option.map_eq_some_iff.1 hi
  simp only [Prod.mk.injEq] at hi2
  obtain ⟨hz, hsz⟩ := hi2
  obtain ⟨z, hz⟩ := Option.isSome_iff_exists.1 hz
  have hs : ∀ w : World, (sizeOf e).run P w = .ok sz w := fun w => by simp [sizeOf, typeInfo, hi1, hsz]
  have hzr : ∀ w : World, (zeroValue e).run P w = .ok z w := fun w => by simp [zeroValue, typeInfo, hi1, hz]
  have hb' : ¬ (ln * sz > 2 ^ 24) := by have := Nat.le_of_ble_eq_true hb; omega
  have hv' : ∀ v ∈ vs, v.cells.size = sz := fun v hm => beq_eq (List.all_eq_true.1 hv v hm)
  subst hl
  have key : ∀ C : Array Value, C.size = ln * sz → Instr.fill (fun i => some (i * sz, sz)) C (litP 0 vs) = some (vs.flatMap fun v => v.cells.toList).toArray := fun C hC => by
    obtain ⟨C', h1, h2, h3⟩ := fill_lit vs 0 C hv' (by rw [hC, Nat.zero_add, hln]; exact Nat.le_refl _)
    rw [h1]
    congr 1
    apply Array.ext'
    rw [h3, Nat.zero_add, hln]
    have : C.toList.drop (ln * sz) = [] := List.drop_of_length_le (by simp [hC])
    simp [this]
  by_cases h0' : ln * sz = 0
  · simp only [execOp, h0]
    simp [Instr.buildSlice, run_underlying ht, hs, hb', h0', newRow, Array.range_zero']
    rw [key #[] (by simp [h0'])]
    simp
  · simp only [execOp, h0]
    simp [Instr.buildSlice, run_underlying ht, hs, hb', h0', newRow, hzr]
    rw [key _ (by simp)]
    simp
theorem own_nil (w : World) (base : Nat) (e : TypeId) (sz : Nat) : w.ownsRow base e sz (.slice none 0 0) 0 [] := ⟨by simp, .inl ⟨rfl, rfl⟩⟩

theorem own_form {base : Nat} {e : TypeId} {sz n : Nat} {v : Value} {xs : List Value} (h : w.ownsRow base e sz v n xs) : ∃ A c, v = .slice A n c ∧ n ≤ c ∧ n ≤ maxLen := by
  rcases h.2 with ⟨rfl, rfl⟩ | ⟨g, cap, cur, rfl, _, _, h1, h2, _⟩
  · exact ⟨_, _, rfl, Nat.le_refl _, Nat.zero_le _⟩
  · exact ⟨_, _, rfl, h1, Nat.le_trans h1 h2⟩
theorem own_ge {base : Nat} {e : TypeId} {sz n : Nat} {v : Value} {xs : List Value} (h : w.ownsRow base e sz v n xs) (k : Nat) (hk : v.ownBlock = some k) : base ≤ k ∧ k < w.heap.size := by
  rcases h.2 with ⟨rfl, rfl⟩ | ⟨g, cap, cur, rfl, h1, h2, _⟩
  · cases hk
  · cases hk
    refine ⟨h1, ?_⟩
    rcases Nat.lt_or_ge g w.heap.size with h | h
    · exact h
    · rw [Array.getElem?_eq_none h] at h2; cases h2
theorem own_below {base : Nat} {e : TypeId} {sz n : Nat} {v : Value} {xs : List Value} (h : w.ownsRow base e sz v n xs) (hb : Below w.heap.size w w') : w'.ownsRow base e sz v n xs := by
  obtain ⟨h1, h2⟩ := h
  refine ⟨h1, ?_⟩
  rcases h2 with h2 | ⟨g, cap, cur, hv, hg, hh, r⟩
  · exact .inl h2
  · refine .inr ⟨g, cap, cur, hv, hg, ?_, r⟩
    have hlt : g < w.heap.size := by
      rcases Nat.lt_or_ge g w.heap.size with h | h
      · exact h
      · rw [Array.getElem?_eq_none h] at hh; cases hh
    exact (hb.block g hlt).trans hh
/-! ### bytes and texts -/
theorem m_constBytes {w0 : World} {x : Operand} {t e : TypeId} {C : Array Value} {n c : Nat} (ht : P.underlying t = some (.slice e)) (he : P.underlying e = some (.int .u8)) (hx : ev env x = some (.slice (some ⟨w0.heap.size, 0, none⟩) n c)) :
    Mk P N D env (w0.alloc (.cells C e)) (.convert t t x) ty (.slice (some ⟨w0.heap.size, 0, none⟩) n c) (w0.alloc (.cells C e (C.size, C.size + 1))) := fun a ha dst pos af g => by
  simp [execOp, ha.eval hx, Lib.run_convert_bytes_const w0 t e C n c ht he]
theorem u8s_length (l : List UInt8) : (u8s l).length = l.length := by simp [u8s]
theorem u8s_append (l m : List UInt8) : u8s (l ++ m) = u8s l ++ u8s m := by simp [u8s]
theorem u8s_one (l : List UInt8) : ∀ u ∈ u8s l, u.oneCell' = true := by
  intro u hu; simp only [u8s, List.mem_map] at hu; obtain ⟨c, _, rfl⟩ := hu; rfl
theorem l_str {x : Operand} {t s e : TypeId} {A : Option Addr} {n c : Nat} {l : List UInt8} (ht : P.underlying t = some (.slice e)) (he : P.underlying e = some (.int .u8)) (hs : P.underlying s = some .string) (hx : ev env x = some (.slice A n c)) (hr : Rd w 1 A n (u8s l)) : Ld P N D env w (.convert t s x) ty (str l) := fun a ha dst pos af g => by
  have hn : n = l.length := by have := hr.1; rw [u8s_length] at this; omega
  subst hn
  have key : (convert t s (.slice A l.length c)).run P w = .ok (str l) w := by
    rw [run_convert_bytes_string w t s e A l.length c ht he hs]
    cases A with
    | none =>
      have : l = [] := by
        rcases Nat.eq_zero_or_pos l.length with h0 | h0
        · exact List.eq_nil_of_length_eq_zero h0
        · obtain ⟨p, e, _⟩ := hr.2 (by rw [u8s_length]; exact h0); cases e
      subst this
      simp [Conv.bytesToString, str, ByteArray.empty, ByteArray.emptyWithCapacity]; rfl
    | some p =>
      have hl : (loadCells p l.length).run P w = .ok ((l.map fun c => (c.toNat : Int)).map (Value.int .u8)).toArray w := by
        have h1 : (l.map fun c => (c.toNat : Int)).map (Value.int .u8) = u8s l := by simp [u8s]
        rw [h1]
        have := run_loadCells_list (P := P) w p (u8s l) (fun j v hj => by
          have hlt : 0 < (u8s l).length := by
            rcases Nat.lt_or_ge j (u8s l).length with h | h
            · omega
            · rw [List.getElem?_eq_none h] at hj; cases hj
          obtain ⟨p', e, hc⟩ := hr.2 hlt
          cases e
          exact hc j v hj)
        rwa [u8s_length] at this
      rw [run_bytesToString w p l.length c _ hl, foldl_push_bytes]
      have h2 : ((l.map fun c => (c.toNat : Int)).map fun n => UInt8.ofNat n.toNat) = l := by
        rw [List.map_map]
        conv => rhs; rw [← List.map_id l]
        apply List.map_congr_left
        intro c _
        simp
      rw [h2]
      simp [str, ByteArray.empty, ByteArray.emptyWithCapacity]
      rfl
  simp [execOp, ha.eval hx, key]
end
end Go.Bw
namespace Go.Bw
open Go.RowKit
set_option linter.unusedVariables false
set_option linter.unusedSimpArgs false

/-- the worlds that a region may be in: w, and more -/
def Cw (w : World) : World → Prop := fun w' => Below w.heap.size w w'
def Wy (P : Program) (ops : Array Oper) (w : World) (Q : Exit → Act → World → Prop) (l : List Oper) (N : Nat) (D : List Deferred) (env : Env) : Prop :=
  ∀ a, Ok N D env a → wpQuiet P ops (Cw w) (fun a' => ∀ w', Cw w w' → Q .normal a' w') l a

section
variable {P : Program} {N : Nat} {D : List Deferred} {env env' : Env} {a : Act} {w w' : World} {Q : Exit → Act → World → Prop}
variable {ops : Array Oper} {rest : List Oper} {d : Nat} {op : Op} {ty : TypeId} {pos : String} {af : Array Edge}

theorem Wc.quiet {id : Nat} {l : List Oper} (hm : P.follows .mixedOrders = true) (hB : Region.lexB .any l.toArray = true) (h : Wy P l.toArray w Q l N D env) : Wc P Q (.region id l.toArray true) N D env w := fun a ha =>
  wp_region_quiet (C := Cw w) hm hB (Below.drew (Below.refl _ _)) (by simpa using h a ha)

theorem Wy.nil (h : ∀ w', Below w.heap.size w w' → Wq Q .normal N D env w') : Wy P ops w Q [] N D env := fun a ha => wpQuiet_nil fun w' hw => h w' hw a ha
theorem Wy.val {v : Value} (hd : Nat.blt d N = true) (hr : ∀ w', Below w.heap.size w w' → ∀ a, Ok N D env a → Oper.quietUpon P (Cw w) w' v ((execOp a.eval ⟨some d, op, ty, pos, af, none⟩).run P w')) (h : Wy P ops w Q rest N D ((d, v) :: env)) : Wy P ops w Q (⟨some d, op, ty, pos, af, none⟩ :: rest) N D env := fun a ha =>
  wpQuiet_step fun K hK => by
    simp only [Region.wanted, if_true]
    exact ⟨v, fun w' hw => hr w' hw a ha, hK _ (h _ (ha.put hd v))⟩
theorem Wy.y {v : Value} (hy : Yl P N D env op ty v) (hd : Nat.blt d N = true) (h : Wy P ops w Q rest N D ((d, v) :: env)) : Wy P ops w Q (⟨some d, op, ty, pos, af, none⟩ :: rest) N D env :=
  Wy.val hd (fun w' _ a ha => by rw [hy a ha w']; exact ⟨rfl, rfl⟩) h
theorem Wy.l {v : Value} (hy : ∀ w', Below w.heap.size w w' → Ld P N D env w' op ty v) (hd : Nat.blt d N = true) (h : Wy P ops w Q rest N D ((d, v) :: env)) : Wy P ops w Q (⟨some d, op, ty, pos, af, none⟩ :: rest) N D env :=
  Wy.val hd (fun w' hw a ha => by rw [hy w' hw a ha]; exact ⟨rfl, rfl⟩) h
theorem Wy.call {x : Operand} {f : FuncId} {xs : Array Operand} {ts : Array TypeId} {l c : Array Value} {vs : List Value} {v : Value} (hf : Txt P f) (hx : ev env x = some (.func (.func f) l c)) (hxs : evs env xs.toList = some vs)
    (hc : ∀ w', Below w.heap.size w w' → Ret P f (l.toList ++ vs ++ c.toList) w' fun u w'' => u = v ∧ Below w'.heap.size w' w'') (hd : Nat.blt d N = true) (h : Wy P ops w Q rest N D ((d, v) :: env)) :
    Wy P ops w Q (⟨some d, .call ⟨.value x, xs, ts⟩, ty, pos, af, none⟩ :: rest) N D env :=
  Wy.val hd (fun w' hw a ha => by
    have hargs : xs.map a.eval = vs.toArray := evs_arr ha hxs
    have h1 : (l.toList ++ vs ++ c.toList).toArray = l ++ vs.toArray ++ c := by simp
    have hc' := hc w' hw
    unfold Ret at hc'
    rw [h1] at hc'
    simp only [execOp, resolve, ha.eval hx, hargs, Deferred.ofValue, Sem.run_bind, Sem.run_pure, Result.andThen_ok, invoke, run_callFunc hf]
    exact ⟨rfl, hc'.mono fun e w'' ⟨u, he, hu, hb⟩ => ⟨by rw [he, hu], Below.trans hw (hb.mono hw.size)⟩⟩) h
theorem Wy.on' {g : Nat} {b t : Bool} {s : Nat} {dst : Option Tmp} (hs : (ops[g]?).bind (·.dst) = some s) (hb : lk env s = some (.bool t)) (e : t = b)
    (h : Wy P ops w Q (⟨dst, op, ty, pos, af, none⟩ :: rest) N D env) : Wy P ops w Q (⟨dst, op, ty, pos, af, some (g, b)⟩ :: rest) N D env := fun a ha => by
  subst e
  have h1 := h a ha
  unfold wpQuiet at h1 ⊢
  have hy : yielded ops a.tmps g = some t := by
    unfold yielded
    rw [hs]
    show (match a.tmps[s]? with | some (.bool b) => some b | _ => none) = some t
    rw [ha.get s _ hb]
  simp only [Region.wanted, if_true] at h1
  simp only [Region.wanted, hy, beq_self_eq_true, if_true]
  exact h1
theorem Wy.off' {g : Nat} {b c c' : Bool} {s : Nat} (hs : (ops[g]?).bind (·.dst) = some s) (hb : lk env s = some (.bool c)) (e : c = c') (hne : (c' == b) = false) (hd : Nat.blt d N = true)
    (h : Wy P ops w Q rest N D ((d, undef) :: env)) : Wy P ops w Q (⟨some d, op, ty, pos, af, some (g, b)⟩ :: rest) N D env := fun a ha => by
  subst e
  unfold wpQuiet
  have hy : yielded ops a.tmps g = some c := by
    unfold yielded
    rw [hs]
    show (match a.tmps[s]? with | some (.bool b) => some b | _ => none) = some c
    rw [ha.get s _ hb]
  have : (some c == some b) = false := by simpa using hne
  simp only [Region.wanted, hy, this]
  exact h _ (ha.put hd undef)
theorem Wy.guardT {g : Nat} {t : Bool} {s : Nat} (hs : (ops[g]?).bind (·.dst) = some s) (hb : lk env s = some (.bool t)) (hd : Nat.blt d N = true)
    (h1 : t = true → Wy P ops w Q (⟨some d, op, ty, pos, af, none⟩ :: rest) N D env) (h2 : t = false → Wy P ops w Q rest N D ((d, undef) :: env)) : Wy P ops w Q (⟨some d, op, ty, pos, af, some (g, true)⟩ :: rest) N D env := by
  cases t
  · exact Wy.off' hs hb rfl rfl hd (h2 rfl)
  · exact Wy.on' hs hb rfl (h1 rfl)
theorem Wy.guardF {g : Nat} {t : Bool} {s : Nat} (hs : (ops[g]?).bind (·.dst) = some s) (hb : lk env s = some (.bool t)) (hd : Nat.blt d N = true)
    (h1 : t = true → Wy P ops w Q rest N D ((d, undef) :: env)) (h2 : t = false → Wy P ops w Q (⟨some d, op, ty, pos, af, none⟩ :: rest) N D env) : Wy P ops w Q (⟨some d, op, ty, pos, af, some (g, false)⟩ :: rest) N D env := by
  cases t
  · exact Wy.on' hs hb rfl (h2 rfl)
  · exact Wy.off' hs hb rfl rfl hd (h1 rfl)
theorem Ret.quiet {f : FuncId} {args : List Value} {v : Value} (h : Ret P f args w fun u w' => u = v ∧ w' = w) : Ret P f args w fun u w' => u = v ∧ Below w.heap.size w w' :=
  h.mono fun _ _ ⟨e, hw⟩ => ⟨e, by rw [hw]; exact Below.refl _ _⟩
end
end Go.Bw
namespace Go.Bw
open Go.RowKit
set_option linter.unusedVariables false
set_option linter.unusedSimpArgs false

/-- block g is just these cells -/
def Blk (w : World) (g : Nat) (t : TypeId) (cs : List Value) : Prop := w.heap[g]? = some (.cells cs.toArray t (0, 0))
theorem Blk.lt {w : World} {g : Nat} {t : TypeId} {cs : List Value} (h : Blk w g t cs) : g < w.heap.size := by
  rcases Nat.lt_or_ge g w.heap.size with h1 | h1
  · exact h1
  · unfold Blk at h; rw [Array.getElem?_eq_none h1] at h; cases h
theorem Blk.new (w : World) (t : TypeId) (cs : List Value) : Blk (w.alloc (.cells cs.toArray t)) w.heap.size t cs := by
  unfold Blk; show (w.heap.push _)[w.heap.size]? = _; simp
theorem Blk.below {w w' : World} {g : Nat} {t : TypeId} {cs : List Value} (h : Blk w g t cs) (hb : Below w.heap.size w w') : Blk w' g t cs := (hb.block g h.lt).trans h
theorem add_zero_off (g j : Nat) : (⟨g, 0, none⟩ : Addr).add j = ⟨g, j, none⟩ := by unfold Addr.add; split <;> simp_all
theorem Blk.cell {w : World} {g : Nat} {t : TypeId} {cs : List Value} (h : Blk w g t cs) (j : Nat) : w.cell? ⟨g, j, none⟩ = cs[j]? := by
  unfold Blk at h; simp [World.cell?, h]
theorem Blk.at {w : World} {g : Nat} {t : TypeId} {cs : List Value} (h : Blk w g t cs) {j : Nat} {v : Value} (hv : cs[j]? = some v) : w.cell? ((⟨g, 0, none⟩ : Addr).add j) = some v := by
  rw [add_zero_off, h.cell, hv]
theorem Blk.frozen {w : World} {g : Nat} {t : TypeId} {cs : List Value} (h : Blk w g t cs) (j : Nat) : w.frozen? ⟨g, j, none⟩ = false := by
  unfold Blk at h; simp [World.frozen?, h]
theorem Blk.grown {w w' : World} {g : Nat} {t : TypeId} {cs : List Value} (h : Blk w g t cs) {row : Option Nat} (hg : w.grownBy w' row) (hne : some g ≠ row) : Blk w' g t cs := (hg.block g h.lt hne).trans h
theorem Blk.setRow {w : World} {g : Nat} {t : TypeId} {cs cs' : List Value} (h : Blk w g t cs) : Blk (w.setRow g cs'.toArray) g t cs' := setRow_heap w g _ _ t _ h
theorem Blk.rd {w : World} {g : Nat} {t : TypeId} {cs : List Value} (h : Blk w g t cs) (n sz : Nat) (hl : cs.length = n * sz) : Rd w sz (some ⟨g, 0, none⟩) n cs := ⟨hl, fun _ => ⟨_, rfl, fun j u hu => h.at hu⟩⟩

section
variable {P : Program} {N : Nat} {D : List Deferred} {env env' : Env} {a : Act} {w w' : World} {Q : Exit → Act → World → Prop}
variable {ops : Array Oper} {rest : List Oper} {d : Nat} {op : Op} {ty : TypeId} {pos : String} {af : Array Edge}

theorem m_alloc {e : TypeId} {z : Value} (hz : (P.info? e).bind (·.zero) = some z) : Mk P N D env w (.alloc e) ty (.pointer (some ⟨w.heap.size, 0, none⟩)) (w.alloc (.cells z.cells e)) := fun a ha dst pos af g => by
  obtain ⟨i, hi, hz'⟩ := Option.bind_eq_some_iff.1 hz
  simp [execOp, Instr.alloc, zeroValue, typeInfo, hi, hz', newVar, newRow]
theorem s_storeS {x y : Operand} {t e : TypeId} {g : Nat} {old cs : List Value} (hs : (P.info? t).map (·.size) = some cs.length) (hx : ev env x = some (.pointer (some ⟨g, 0, none⟩))) (hy : ev env y = some (.agg cs.toArray)) (hb : Blk w g e old) (ho : old.length = cs.length) (h1 : cs.all (·.oneCell') = true) :
    St P N D env w (.store t x y) ty (w.setRow g cs.toArray) := fun a ha dst pos af g' => by
  have := run_storeVar_row (P := P) w g e t old.toArray cs.toArray hb (by simpa using hs) (by simpa using ho) (by simpa using h1)
  simp [execOp, ha.eval hx, ha.eval hy, Instr.storeAt, Instr.sureAddr, this]
theorem y_fieldAddr {x : Operand} {t : TypeId} {i : Nat} {p q : Addr} (hr : ∀ w, (Instr.fieldAt t (.pointer (some p)) i).run P w = .ok (.pointer (some q)) w) (hx : ev env x = some (.pointer (some p))) : Yl P N D env (.fieldAddr t x i) ty (.pointer (some q)) := fun a ha w dst pos af g => by
  simp [execOp, ha.eval hx, hr]
theorem run_fieldAt {t : TypeId} {fs : Array Field} {f : Field} {i sz : Nat} (ht : P.underlying t = some (.struct fs)) (hf : fs[i]? = some f) (hs : (P.info? f.type).map (·.size) = some (sz + 1)) (p : Addr) (w : World) : (Instr.fieldAt t (.pointer (some p)) i).run P w = .ok (.pointer (some (p.add f.offset))) w := by
  obtain ⟨ie, hi2, hsz⟩ := Option.map_eq_some_iff.1 hs
  simp [Instr.fieldAt, run_underlying ht, hf, Instr.sureAddr, fieldPlace, sizeOf, typeInfo, hi2, hsz]

/-- struct values -/
def put1 (cs : List Value) (off : Nat) (vs : List Value) : List Value := cs.take off ++ vs ++ cs.drop (off + vs.length)
def fillL (pl : List (Nat × Nat)) : List Value → List (Nat × Value) → List Value
  | cs, [] => cs
  | cs, (i, v) :: r => fillL pl (put1 cs (pl.getD i (0, 0)).1 v.cells.toList) r
def fitL (pl : List (Nat × Nat)) (n : Nat) : List (Nat × Value) → Bool
  | [] => true
  | (i, v) :: r => (Nat.blt i pl.length) && (Nat.beq v.cells.size (pl.getD i (0, 0)).2) && (Nat.ble ((pl.getD i (0, 0)).1 + v.cells.size) n) && fitL pl n r
theorem put1_length {cs vs : List Value} {off : Nat} (h : off + vs.length ≤ cs.length) : (put1 cs off vs).length = cs.length := by simp [put1]; omega
theorem fill_eq (pl : List (Nat × Nat)) : ∀ (ps : List (Nat × Value)) (cs : List Value), fitL pl cs.length ps = true → Instr.fill (pl.toArray[·]?) cs.toArray ps = some (fillL pl cs ps).toArray
  | [], cs, _ => rfl
  | (i, v) :: r, cs, h => by
    simp only [fitL, Bool.and_eq_true] at h
    obtain ⟨⟨⟨h1, h2⟩, h3⟩, h4⟩ := h
    have hi : i < pl.length := Nat.le_of_ble_eq_true h1
    have h2' := beq_eq h2
    have h3' := Nat.le_of_ble_eq_true h3
    have hg : pl.toArray[i]? = some (pl.getD i (0, 0)) := by simp [List.getD, hi]
    unfold Instr.fill
    rw [hg]
    have hcond : ((decide (v.cells.size ≠ (pl.getD i (0, 0)).2)) || decide ((pl.getD i (0, 0)).1 + v.cells.size > cs.toArray.size)) = false := by simp [h2'] at h3' ⊢; omega
    have hL : (v.cells.zipIdx.foldl (fun X (p : Value × Nat) => X.setIfInBounds ((pl.getD i (0, 0)).1 + p.2) p.1) cs.toArray) = (put1 cs (pl.getD i (0, 0)).1 v.cells.toList).toArray := by
      apply Array.ext'
      rw [← Array.foldl_toList, Array.toList_zipIdx]
      have := set_run v.cells.toList 0 (pl.getD i (0, 0)).1 cs.toArray (by simpa using h3')
      simpa [put1] using this
    generalize hpl : pl.getD i (0, 0) = q at *
    obtain ⟨off, sz⟩ := q
    simp only [hcond]
    have := fill_eq pl r (put1 cs off v.cells.toList) (by rw [put1_length (by simpa using h3')]; exact h4)
    simp only [fillL, hpl]
    rw [← this, ← hL]
    rfl
theorem run_mapM_cons {α β : Type} {f : α → Sem β} {x : α} {l : List α} {y : β} {ys : List β} (h1 : (f x).run P w = .ok y w) (h2 : (l.mapM f).run P w = .ok ys w) : ((x :: l).mapM f).run P w = .ok (y :: ys) w := by
  rw [List.mapM_cons]
  simp only [Sem.run_bind, h1, h2, Result.andThen_ok, Sem.run_pure]
theorem run_mapM_arr {α β : Type} {f : α → Sem β} {l : List α} {ys : List β} (h : (l.mapM f).run P w = .ok ys w) : (l.toArray.mapM f).run P w = .ok ys.toArray w := by
  rw [List.mapM_toArray]
  simp only [map_eq_pure_bind, Sem.run_bind, h, Result.andThen_ok, Sem.run_pure]
theorem y_buildS {t : TypeId} {fs : Array Field} {parts : Array (Nat × Operand)} {ps : List (Nat × Value)} {pl : List (Nat × Nat)} {z cs : List Value} (ht : P.underlying t = some (.struct fs)) (hz : (P.info? t).bind (·.zero) = some (.agg z.toArray))
    (hpl : (fs.toList.mapM fun f => (P.info? f.type).map fun i => (f.offset, i.size)) = some pl) (hp : evp env parts.toList = some ps) (hfit : fitL pl z.length ps = true) (hcs : fillL pl z ps = cs) : Yl P N D env (.build t parts) ty (.agg cs.toArray) := fun a ha w dst pos af g => by
  have h0 := evp_arr ha hp
  obtain ⟨i, hi, hz'⟩ := Option.bind_eq_some_iff.1 hz
  have hm : ∀ (l : List Field) (pl : List (Nat × Nat)), (l.mapM fun f => (P.info? f.type).map fun i => (f.offset, i.size)) = some pl → (l.mapM (m := Sem) fun f => do pure (f.offset, ← sizeOf f.type)).run P w = .ok pl w := by
    intro l
    induction l with
    | nil => intro pl h; simp at h; subst h; rfl
    | cons f l ih =>
      intro pl h
      simp only [List.mapM_cons, Option.bind_eq_bind, Option.bind_eq_some_iff, Option.pure_def, Option.some.injEq, Option.map_eq_some_iff] at h
      obtain ⟨y, ⟨i, hi, rfl⟩, ys, h2, rfl⟩ := h
      exact run_mapM_cons (by simp [sizeOf, typeInfo, hi]) (ih ys h2)
  have hm2 : (fs.mapM (m := Sem) fun f => do pure (f.offset, ← sizeOf f.type)).run P w = .ok pl.toArray w := run_mapM_arr (l := fs.toList) (hm fs.toList pl hpl)
  subst hcs
  have hf := fill_eq pl ps z hfit
  have hzr : (zeroValue t).run P w = .ok (.agg z.toArray) w := by simp [zeroValue, typeInfo, hi, hz']
  simp only [execOp, h0, Instr.build, Sem.run_bind, hzr, Result.andThen_ok, run_underlying ht, hm2, Value.cells, hf, Sem.run_pure]

/-! ### structs compared -/
/-! ### results, some of them in memory -/
inductive ResIs (P : Program) (env : Env) (w : World) : List ResultVar → List Value → Prop
  | nil : ResIs P env w [] []
  | tmp {t : Tmp} {v : Value} {rs : List ResultVar} {vs : List Value} (h : lk env t = some v) (hr : ResIs P env w rs vs) : ResIs P env w (.tmp t :: rs) (v :: vs)
  | cell {a : Tmp} {t : TypeId} {p : Addr} {v : Value} {rs : List ResultVar} {vs : List Value} (h : lk env a = some (.pointer (some p))) (hl : (loadVar t p).run P w = .ok v w) (hr : ResIs P env w rs vs) : ResIs P env w (.cell a t :: rs) (v :: vs)
def pack : List Value → Value
  | [v] => v
  | vs => .tuple vs.toArray
theorem run_results {a : Act} (ha : Ok N D env a) : ∀ {rs : List ResultVar} {vs : List Value}, ResIs P env w rs vs →
    (rs.mapM (m := Sem) fun | .tmp t => pure (a.tmps.getD t undef) | .cell x t => do loadVar t (← asAddr (a.tmps.getD x undef))).run P w = .ok vs w
  | _, _, .nil => rfl
  | _, _, .tmp h hr => run_mapM_cons (by show (pure (a.tmps.getD _ undef) : Sem Value).run P w = _; rw [ha.getD h]; rfl) (run_results ha hr)
  | _, _, .cell h hl hr => run_mapM_cons (by simp only [ha.getD h, asAddr, Sem.run_bind, Sem.run_pure, Result.andThen_ok, hl]) (run_results ha hr)
theorem retN {fn : Func} {R : Ending → World → Prop} {rs : List ResultVar} {vs : List Value} (hr : fn.results = rs.toArray) (h : ResIs P env w rs vs) (hR : R (.returned (pack vs)) w) : Wq (bodyPost P fn R) .ret N [] env w := fun a ha =>
  ⟨ha.defers, pack vs, by
    unfold results
    rw [hr]
    have := run_mapM_arr (run_results ha h)
    rw [Sem.run_bind]
    refine (congrArg (fun r : Result (Array Value) => r.andThen _) this).trans ?_
    match vs with
    | [] => rfl
    | [v] => rfl
    | v :: u :: r => rfl, hR⟩
theorem loadS {t : TypeId} {fs : Array Field} {p : Addr} {cs : List Value} (ht : P.underlying t = some (.struct fs)) (hs : (P.info? t).map (·.size) = some cs.length) (hc : ∀ (j : Nat) (u : Value), cs[j]? = some u → w.cell? (p.add j) = some u) : (loadVar t p).run P w = .ok (.agg cs.toArray) w := by
  obtain ⟨i, hi, hsz⟩ := Option.map_eq_some_iff.1 hs
  have h5 : (sizeOf t).run P w = .ok cs.length w := by simp [sizeOf, typeInfo, hi, hsz]
  have h6 := run_loadCells_list (P := P) w p cs hc
  simp [loadVar, isAgg, run_underlying ht, h5, h6]

/-! ### a row made whole; a store into a row of one's own -/
theorem Wl.make {x y : Operand} {t e : TypeId} {z : Value} {sz bytes : Nat} (ht : P.underlying t = some (.slice e)) (hi : (P.info? e).map (fun i => (i.zero, i.size, i.bytes)) = some (some z, sz, bytes))
    (base : Nat) {n : Nat} {kl kc : IntKind} (hx : ev env x = some (.int kl n)) (hy : ev env y = some (.int kc n)) (hb : bytes * n ≤ 281474976710656) (h63 : n ≤ maxLen) (hbase : base ≤ w.heap.size) (hd : Nat.blt d N = true)
    (h : ∀ w', w'.ownsRow base e sz (.slice (some ⟨w.heap.size, 0, none⟩) n n) n (madeCells z.cells (n * sz)).toList → w.grownBy w' none → Wl P ops Q rest N D ((d, .slice (some ⟨w.heap.size, 0, none⟩) n n) :: env) w') :
    Wl P ops Q (⟨some d, .makeSlice t x y, ty, pos, af, none⟩ :: rest) N D env w := by
  obtain ⟨i, hi0, hi1⟩ := Option.map_eq_some_iff.1 hi
  simp only [Prod.mk.injEq] at hi1
  obtain ⟨hz0, hs0, hb0⟩ := hi1
  obtain ⟨w', hrun, hown, hg⟩ := run_make_full (P := P) w base t e i z sz ht hi0 hz0 hs0 kl kc n (by rw [hb0]; exact hb) h63 hbase
  refine Wl.m (w' := w') (fun a ha dst pos af g => ?_) hd (h w' hown hg)
  simp [execOp, ha.eval hx, ha.eval hy, hrun]
theorem Wl.storeOwn {x y : Operand} {t e : TypeId} {base sz n c g j : Nat} {v : Value} {xs : List Value} (ht : One P t) (hx : ev env x = some (.pointer (some ((⟨g, 0, none⟩ : Addr).add j)))) (hy : ev env y = some v) (h1 : v.oneCell' = true)
    (hown : w.ownsRow base e sz (.slice (some ⟨g, 0, none⟩) n c) n xs) (hj : j < xs.length) (h : ∀ w', w'.ownsRow base e sz (.slice (some ⟨g, 0, none⟩) n c) n (xs.set j v) → w.grownBy w' (some g) → Wl P ops Q rest N D env w') :
    Wl P ops Q (⟨none, .store t x y, ty, pos, af, none⟩ :: rest) N D env w := by
  have hst := World.ownsRow.stored hown j v
  have hc := World.ownsRow.cellAt hown j (by rw [← hown.1]; exact hj)
  rw [List.getElem?_eq_getElem hj] at hc
  have hf := World.ownsRow.frozenAt hown j
  rw [add_zero_off] at hx
  exact Wl.s (s_store ht hx hy h1 hc hf) (h _ hst.1 hst.2)
theorem own_cell {base : Nat} {e : TypeId} {sz n c g : Nat} {xs : List Value} (h : w.ownsRow base e sz (.slice (some ⟨g, 0, none⟩) n c) n xs) {j : Nat} {v : Value} (hv : xs[j]? = some v) : w.cell? ((⟨g, 0, none⟩ : Addr).add j) = some v := by
  have := (Rd.of_own h).2 (by
    rcases Nat.eq_zero_or_pos xs.length with h0 | h0
    · rw [List.eq_nil_of_length_eq_zero h0] at hv; simp at hv
    · exact h0)
  obtain ⟨p, e1, hc⟩ := this
  cases e1
  exact hc j v hv
end
end Go.Bw
namespace Go.Bw
open Go.RowKit
set_option linter.unusedVariables false
set_option linter.unusedSimpArgs false

section
variable {P : Program} {N : Nat} {D : List Deferred} {env env' : Env} {a : Act} {w w' : World} {Q : Exit → Act → World → Prop}
variable {ops : Array Oper} {rest : List Oper} {d : Nat} {op : Op} {ty : TypeId} {pos : String} {af : Array Edge}

theorem step_alloc (w : World) (o : Obj) : Below w.heap.size w (w.alloc o) := (Below.refl _ _).alloc (Nat.le_refl _) _
/-- a step's worlds by name -/
theorem Wl.boxN {x : Operand} {t : TypeId} {v : Value} (hx : ev env x = some v) (hd : Nat.blt d N = true)
    (h : ∀ g w', w.heap.size ≤ g → Blk w' g t v.cells.toList → Below w.heap.size w w' → Wl P ops Q rest N D ((d, .pointer (some ⟨g, 0, none⟩)) :: env) w') : Wl P ops Q (⟨some d, .box t x, ty, pos, af, none⟩ :: rest) N D env w :=
  Wl.m (m_box hx) hd (h _ _ (Nat.le_refl _) (Blk.new w t v.cells.toList) (step_alloc _ _))
theorem Wl.allocN {e : TypeId} {z : Value} (hz : (P.info? e).bind (·.zero) = some z) (hd : Nat.blt d N = true)
    (h : ∀ g w', w.heap.size ≤ g → Blk w' g e z.cells.toList → Below w.heap.size w w' → Wl P ops Q rest N D ((d, .pointer (some ⟨g, 0, none⟩)) :: env) w') : Wl P ops Q (⟨some d, .alloc e, ty, pos, af, none⟩ :: rest) N D env w :=
  Wl.m (m_alloc hz) hd (h _ _ (Nat.le_refl _) (Blk.new w e z.cells.toList) (step_alloc _ _))
theorem Wl.litN {t e : TypeId} {ln sz : Nat} {parts : Array (Nat × Operand)} {ps : List (Nat × Value)} {vs : List Value} (ht : P.underlying t = some (.slice e)) (hi : (P.info? e).map (fun i => (i.zero.isSome, i.size)) = some (true, sz))
    (hp : evp env parts.toList = some ps) (hl : ps = litP 0 vs) (hv : (vs.all fun v => Nat.beq v.cells.size sz) = true) (hn : Nat.beq vs.length ln = true) (hb : Nat.ble (ln * sz) 16777216 = true) (hd : Nat.blt d N = true)
    (h : ∀ g w', w.heap.size ≤ g → Blk w' g e (vs.flatMap fun v => v.cells.toList) → Below w.heap.size w w' → Wl P ops Q rest N D ((d, .slice (some ⟨g, 0, none⟩) ln ln) :: env) w') :
    Wl P ops Q (⟨some d, .buildSlice t ln parts, ty, pos, af, none⟩ :: rest) N D env w :=
  Wl.m (m_lit ht hi hp hl hv hn hb) hd (h _ _ (Nat.le_refl _) (Blk.new w e _) (step_alloc _ _))
theorem Blk.own {g : Nat} {e : TypeId} {cs : List Value} (h : Blk w g e cs) {base n sz : Nat} (hb : base ≤ g) (hl : cs.length = n * sz) (hm : n ≤ maxLen) : w.ownsRow base e sz (.slice (some ⟨g, 0, none⟩) n n) n cs :=
  ⟨hl, .inr ⟨g, n, cs.toArray, rfl, hb, h, Nat.le_refl _, hm, by simpa using hl, by simp [← hl]⟩⟩
theorem Blk.over {w w' : World} {g g' : Nat} {t : TypeId} {cs : List Value} (h : Blk w g t cs) (hg : w.grownBy w' (some g')) (hne : g ≠ g') : Blk w' g t cs := h.grown hg (fun e => hne (Option.some.inj e))
/-- a store into a block of one's own -/
theorem Wl.storeS {x y : Operand} {t e : TypeId} {g : Nat} {old cs : List Value} (hs : (P.info? t).map (·.size) = some cs.length) (hx : ev env x = some (.pointer (some ⟨g, 0, none⟩))) (hy : ev env y = some (.agg cs.toArray)) (hb : Blk w g e old) (ho : old.length = cs.length) (h1 : cs.all (·.oneCell') = true)
    (h : ∀ w', Blk w' g e cs → w.grownBy w' (some g) → Wl P ops Q rest N D env w') : Wl P ops Q (⟨none, .store t x y, ty, pos, af, none⟩ :: rest) N D env w :=
  Wl.s (s_storeS hs hx hy hb ho h1) (h _ hb.setRow ⟨rfl, rfl, rfl, by simp, fun k _ hne => setRow_other w g k _ (fun e => hne (by rw [e]))⟩)
theorem below_blk {B g : Nat} {w0 : World} (hb : Below B w0 w) (hg : w.grownBy w' (some g)) (hs : B ≤ w.heap.size) (hB : B ≤ g) : Below B w0 w' := hb.grown hg hs fun k hk => by cases hk; exact hB

/-- two rows of one's own -/
def Apart (v u : Value) : Prop := ∀ k, v.ownBlock = some k → u.ownBlock ≠ some k
theorem Apart.nil (u : Value) : Apart (.slice none 0 0) u := fun k hk => by cases hk

/-! ### regions that draw -/
/-- the rest of a region, in whatever order -/
def Wa (P : Program) (ops : Array Oper) (Q : Exit → Act → World → Prop) (S : World → Prop) (fuel : Nat) (listed : Array Bool) (N : Nat) (D : List Deferred) (env : Env) (w : World) : Prop := ∀ a, Ok N D env a → wpAnyH P .any ops Q S fuel listed a w
theorem Wc.any {id : Nat} {l : List Oper} {n : Nat} (S : World → Prop) (listed : Array Bool) (hm : P.follows .mixedOrders = true) (hn : Nat.beq l.length n = true) (hl : Array.replicate n false = listed)
    (h : Wa P l.toArray Q S n listed N D env w.drew) : Wc P Q (.region id l.toArray true) N D env w := fun a ha => by
  have hn' := beq_eq hn
  subst hl
  refine wp_region_held (S := S) hm ?_
  have := h a ha
  rw [show l.toArray.size = n by simpa using hn']
  exact this
/-- the tests of a take, as one -/
def takeOk (ops : Array Oper) (l l' : Array Bool) (i : Nat) : Bool := Region.noSelect ops && Region.free .any ops l i && (Region.ready .any ops l).contains i && (l.setIfInBounds i true == l')
section
variable {S : World → Prop} {fuel : Nat} {l : Array Bool} {i : Nat}
theorem Wa.drew (h : ∀ w', Below w.heap.size w w' → Wa P ops Q S fuel l N D env w') : Wa P ops Q S fuel l N D env w.drew := h _ (Below.refl _ _).drew
theorem Yl.ld {v : Value} (h : Yl P N D env op ty v) : Ld P N D env w op ty v := fun a ha dst pos af g => h a ha w dst pos af g
theorem Wa.take {v : Value} (l' : Array Bool) (ho : ops[i]? = some ⟨some d, op, ty, pos, af, none⟩) (hc : takeOk ops l l' i = true) (hQ : ∀ c a w, Q (.panic c) (a.put (some d) v) w → Q (.panic c) a w) (hd : Nat.blt d N = true)
    (hy : ∀ w', S w' → Ld P N D env w' op ty v) (hS : S w) (h : Wa P ops Q S fuel l' N D ((d, v) :: env) w) : Wa P ops Q S (fuel + 1) l N D env w := fun a ha => by
  simp only [takeOk, Bool.and_eq_true, beq_iff_eq] at hc
  obtain ⟨⟨⟨h1, h2⟩, h3⟩, h4⟩ := hc
  subst h4
  exact wpAnyH_take ho h1 h2 h3 hQ (.inl ⟨by simp [Region.wanted], fun w' hw' => hy w' hw' a ha _ _ _ _⟩) hS (h _ (ha.put hd v))
/-- whichever comes up -/
def Ws (P : Program) (ops : Array Oper) (Q : Exit → Act → World → Prop) (S : World → Prop) (fuel : Nat) (listed : Array Bool) (rs : List Nat) (N : Nat) (D : List Deferred) (env : Env) (w : World) : Prop :=
  ∀ i ∈ rs, ∀ a, Ok N D env a → wpOp P ops Q i (fun a' w' => S w' ∧ wpAnyH P .any ops Q S fuel (listed.setIfInBounds i true) a' w') a w
theorem Wa.some {rs : List Nat} (hr : Region.ready .any ops l = rs) (hne : rs.isEmpty = false) (h : Ws P ops Q S fuel l rs N D env w) : Wa P ops Q S (fuel + 1) l N D env w := fun a ha =>
  wpAnyH_all hr (by rintro rfl; cases hne) (fun i hi => h i hi a ha)
theorem Ws.nil : Ws P ops Q S fuel l [] N D env w := fun _ h => by cases h
theorem wpOp_of {o : Oper} {K : Act → World → Prop} (ho : ops[i]? = some o) (h : wpList P ops (Exit.then K Q) [o] a w) : wpOp P ops Q i K a w := by
  unfold wpOp
  rw [ho]
  unfold wpList at h
  show if _ then _ else _
  split
  · rename_i hw
    rw [if_pos hw] at h
    rcases h with h | h
    · refine .inl ?_
      unfold Oper.wp at h ⊢
      generalize (execOp a.eval o).run P w = r at *
      cases r with
      | ok v w' =>
        cases v with
        | enter f args => exact Calls.mono h fun e w'' he => by cases e <;> exact he
        | _ => exact h
      | halt s w' => cases s <;> exact h
    · exact .inr h
  · rename_i hw
    rw [if_neg hw] at h
    exact h
theorem Ws.cons {o : Oper} {rs : List Nat} (l' : Array Bool) (ho : ops[i]? = some o) (hl : (l.setIfInBounds i true == l') = true)
    (h : ∀ K : Act → World → Prop, (∀ env' w', S w' → Wa P ops Q S fuel l' N D env' w' → ∀ a, Ok N D env' a → K a w') → Wl P ops (Exit.then K Q) [o] N D env w)
    (hs : Ws P ops Q S fuel l rs N D env w) : Ws P ops Q S fuel l (i :: rs) N D env w := fun j hj a ha => by
  rcases List.mem_cons.1 hj with rfl | hj
  · have : l.setIfInBounds j true = l' := beq_iff_eq.1 hl
    subst this
    exact wpOp_of ho (h _ (fun env' w' hS hA a' ha' => ⟨hS, hA a' ha'⟩) a ha)
  · exact hs j hj a ha
theorem Wq.back {K : Act → World → Prop} {l' : Array Bool} (hK : ∀ env' w', S w' → Wa P ops Q S fuel l' N D env' w' → ∀ a, Ok N D env' a → K a w') (hS : S w) (h : Wa P ops Q S fuel l' N D env w) : Wq (Exit.then K Q) .normal N D env w := fun a ha => hK env w hS h a ha
theorem Wa.done (hr : Region.ready .any ops l = []) (h : Wq Q .normal N D env w) : Wa P ops Q S fuel l N D env w := fun a ha => wpAnyH_done hr (h a ha) fuel
end
/-- the ways meet: what is known behind them all -/
theorem Wc.meet {c : Code} {X : Type} (E : X → Env) (I : X → World → Prop) (h : ∀ K : Act → World → Prop, (∀ env' w' x, Sub (E x) env' → I x w' → ∀ a, Ok N D env' a → K a w') → Wc P (Exit.then K Q) c N D env w) (h2 : ∀ x w', I x w' → Wq Q .normal N D (E x) w') : Wc P Q c N D env w := fun a ha => by
  have := h (fun a' w' => ∃ x, Ok N D (E x) a' ∧ I x w') (fun env' w' x hs hI a' ha' => ⟨x, ha'.sub hs, hI⟩) a ha
  refine Code.wp_mono (fun e a' w' he => ?_) this
  cases e with
  | normal => obtain ⟨x, hx, hI⟩ := he; exact h2 x w' hI a' hx
  | _ => exact he
theorem Wq.meet {X : Type} {E : X → Env} {I : X → World → Prop} {K : Act → World → Prop} (hK : ∀ env' w' x, Sub (E x) env' → I x w' → ∀ a, Ok N D env' a → K a w') (x : X) (hs : Sub (E x) env) (hI : I x w) : Wq (Exit.then K Q) .normal N D env w := fun a ha => hK env w x hs hI a ha
end
end Go.Bw
namespace Go.Bw
open Go.RowKit
set_option linter.unusedVariables false
set_option linter.unusedSimpArgs false

def ents : Nat → List (List UInt8 × Value) → List MapEntry
  | _, [] => []
  | b, (k, v) :: r => ⟨str k, v, b⟩ :: ents (b + 1) r
/-- block g is a map with just these entries, in the order in which they came -/
def Mp (w : World) (g : Nat) (kv : List (List UInt8 × Value)) : Prop := w.heap[g]? = some (.map (ents 0 kv).toArray kv.length)
def mlook (kv : List (List UInt8 × Value)) (k : List UInt8) : Option Value := (kv.find? (·.1 == k)).map (·.2)
theorem Mp.lt {w : World} {g : Nat} {kv} (h : Mp w g kv) : g < w.heap.size := by
  rcases Nat.lt_or_ge g w.heap.size with h1 | h1
  · exact h1
  · unfold Mp at h; rw [Array.getElem?_eq_none h1] at h; cases h
theorem Mp.below {w w' : World} {g : Nat} {kv} (h : Mp w g kv) (hb : Below w.heap.size w w') : Mp w' g kv := (hb.block g h.lt).trans h
theorem Mp.grown {w w' : World} {g : Nat} {kv} (h : Mp w g kv) {row : Option Nat} (hg : w.grownBy w' row) (hne : some g ≠ row) : Mp w' g kv := (hg.block g h.lt hne).trans h
theorem Mp.over {w w' : World} {g g' : Nat} {kv} (h : Mp w g kv) (hg : w.grownBy w' (some g')) (hne : g ≠ g') : Mp w' g kv := h.grown hg (fun e => hne (Option.some.inj e))
theorem ents_snoc : ∀ (b : Nat) (kv : List (List UInt8 × Value)) (k : List UInt8) (v : Value), ents b (kv ++ [(k, v)]) = ents b kv ++ [⟨str k, v, b + kv.length⟩]
  | b, [], k, v => rfl
  | b, (k', v') :: r, k, v => by
    show _ :: ents (b + 1) (r ++ [(k, v)]) = _ :: (ents (b + 1) r ++ _)
    rw [ents_snoc, List.length_cons, show b + 1 + r.length = b + (r.length + 1) by omega]
theorem ents_length : ∀ (b : Nat) (kv : List (List UInt8 × Value)), (ents b kv).length = kv.length
  | b, [] => rfl
  | b, _ :: r => by show (ents (b + 1) r).length + 1 = _; rw [ents_length]; rfl
theorem ents_get : ∀ (b : Nat) (kv : List (List UInt8 × Value)) (e : MapEntry), e ∈ ents b kv → ∃ i, i < kv.length ∧ e.born = b + i ∧ ∃ p, kv[i]? = some p ∧ e.key = str p.1 ∧ e.val = p.2
  | b, [], e, h => by cases h
  | b, (k, v) :: r, e, h => by
    rcases List.mem_cons.1 h with rfl | h
    · exact ⟨0, by simp, rfl, _, rfl, rfl, rfl⟩
    · obtain ⟨i, h1, h2, p, h3, h4, h5⟩ := ents_get (b + 1) r e h
      exact ⟨i + 1, by simp; omega, by omega, p, by simpa using h3, h4, h5⟩
theorem ents_born : ∀ (b : Nat) (kv : List (List UInt8 × Value)), (ents b kv).map (·.born) = List.range' b kv.length
  | b, [] => rfl
  | b, _ :: r => by
    show b :: (ents (b + 1) r).map (·.born) = _
    rw [ents_born (b + 1) r, List.length_cons, List.range'_succ]
theorem str_beq (k k' : List UInt8) : ((⟨k.toArray⟩ : ByteArray) == ⟨k'.toArray⟩) = (k == k') := by
  show (k.toArray == k'.toArray) = _
  rw [Bool.eq_iff_iff, beq_iff_eq, beq_iff_eq]
  exact ⟨fun h => by simpa using congrArg Array.toList h, fun h => by rw [h]⟩
theorem findNow_mlook (key : List UInt8) : ∀ (kv : List (List UInt8 × Value)) (b i : Nat), ∃ j, Instr.findNow .string (str key) (ents b kv) i = some ((mlook kv key).map fun v => (j, v))
  | [], b, i => ⟨0, rfl⟩
  | (k, v) :: r, b, i => by
    obtain ⟨j, hj⟩ := findNow_mlook key r (b + 1) (i + 1)
    have hs : Instr.sameNow .string (str key) (str k) = some (key == k) := by show some (_ == _) = _; rw [str_beq]
    by_cases hk : key = k
    · subst hk
      refine ⟨i, ?_⟩
      show Instr.findNow .string (str key) (⟨str key, v, b⟩ :: ents (b + 1) r) i = _
      unfold Instr.findNow
      simp only [hs, beq_self_eq_true]
      simp [mlook]
    · refine ⟨j, ?_⟩
      show Instr.findNow .string (str key) (⟨str k, v, b⟩ :: ents (b + 1) r) i = _
      unfold Instr.findNow
      have h1 : (key == k) = false := by simpa using hk
      have h2 : (k == key) = false := by simpa using fun e => hk e.symm
      simp only [hs, h1, hj]
      simp [mlook, h2]
theorem run_findKey {P : Program} {k : TypeId} (hk : P.underlying k = some .string) (key : List UInt8) (kv : List (List UInt8 × Value)) (w : World) : ∃ j, (Instr.findKey k (str key) (ents 0 kv)).run P w = .ok ((mlook kv key).map fun v => (j, v)) w := by
  obtain ⟨j, hj⟩ := findNow_mlook key kv 0 0
  refine ⟨j, ?_⟩
  simp only [Instr.findKey, Sem.run_bind, run_underlying hk, Result.andThen, hj]
  rfl
theorem run_checkKey {P : Program} {k : TypeId} (hk : P.underlying k = some .string) (b : Bool) (key : List UInt8) (w : World) : (Instr.checkKey b 10000 k (str key)).run P w = .ok () w := by
  unfold Instr.checkKey
  simp only [Sem.run_bind, run_underlying hk, Result.andThen, str]
  rfl

/-- block b is an iterator over the map g, that had n entries when it began; the entries that came out -/
def It (w : World) (b g n : Nat) (seen : List Nat) : Prop := w.heap[b]? = some (.mapIter (some g) n seen.toArray n)
theorem It.lt {w : World} {b g n : Nat} {seen} (h : It w b g n seen) : b < w.heap.size := by
  rcases Nat.lt_or_ge b w.heap.size with h1 | h1
  · exact h1
  · unfold It at h; rw [Array.getElem?_eq_none h1] at h; cases h
theorem It.below {w w' : World} {b g n : Nat} {seen} (h : It w b g n seen) (hb : Below w.heap.size w w') : It w' b g n seen := (hb.block b h.lt).trans h
theorem It.grown {w w' : World} {b g n : Nat} {seen} (h : It w b g n seen) {row : Option Nat} (hg : w.grownBy w' row) (hne : some b ≠ row) : It w' b g n seen := (hg.block b h.lt hne).trans h
theorem It.over {w w' : World} {b g g' n : Nat} {seen} (h : It w b g n seen) (hg : w.grownBy w' (some g')) (hne : b ≠ g') : It w' b g n seen := h.grown hg (fun e => hne (Option.some.inj e))
theorem born_lt (kv : List (List UInt8 × Value)) : ∀ x ∈ ((ents 0 kv).toArray).toList, x.born < kv.length := fun x hx => by
  obtain ⟨i, h1, h2, _⟩ := ents_get 0 kv x (by simpa using hx)
  omega
theorem ent_at {kv : List (List UInt8 × Value)} {i : Nat} (hi : i < kv.length) : ∃ e, (ents 0 kv)[i]? = some e ∧ e.born = i := by
  have hp : (ents 0 kv)[i]? ≠ none := by rw [ne_eq, List.getElem?_eq_none_iff, ents_length]; omega
  obtain ⟨e, he⟩ := Option.ne_none_iff_exists'.1 hp
  refine ⟨e, he, ?_⟩
  have h2 : ((ents 0 kv).map (·.born))[i]? = some e.born := by rw [List.getElem?_map, he]; rfl
  rw [ents_born, List.getElem?_range' hi] at h2
  have := Option.some.inj h2; omega
theorem run_next_at {P : Program} {w : World} {b g ty : Nat} {kv : List (List UInt8 × Value)} {seen : List Nat} (hi : It w b g kv.length seen) (hm : Mp w g kv) :
    ((∀ i, i < kv.length → i ∈ seen) ∧ (Instr.next (.pointer (some ⟨b, 0, none⟩)) false ty).run P w = .ok (.tuple #[.bool false]) w) ∨
    ∃ i p w', kv[i]? = some p ∧ i < kv.length ∧ i ∉ seen ∧ It w' b g kv.length (seen ++ [i]) ∧ w.grownBy w' (some b) ∧ (Instr.next (.pointer (some ⟨b, 0, none⟩)) false ty).run P w = .ok (.tuple #[.bool true, str p.1, p.2]) w' := by
  have hi' : w.heap[b]? = some (.mapIter (some g) kv.length seen.toArray kv.length) := hi
  have hm' : w.heap[g]? = some (.map (ents 0 kv).toArray kv.length) := hm
  have hlt := hi.lt
  simp only [Instr.next, getObj, Sem.run_bind, Sem.run, hi', hm', Result.andThen, next_test_false seen.toArray (ents 0 kv).toArray kv.length kv.length (born_lt kv) (Nat.le_refl _), Bool.false_eq_true, if_false]
  have hmem : ∀ x ∈ (Array.filter (fun e => !seen.toArray.contains e.born) (ents 0 kv).toArray).toList, x ∈ ents 0 kv ∧ x.born ∉ seen := fun x hx => by
    have h2 := mem_left (es := (ents 0 kv).toArray) (seen := seen.toArray) hx
    exact ⟨by simpa using h2.1, by simpa using h2.2⟩
  have hall : (Array.filter (fun e => !seen.toArray.contains e.born) (ents 0 kv).toArray).size = 0 → ∀ i, i < kv.length → i ∈ seen := fun h0 i hi => by
    obtain ⟨e, he, hb⟩ := ent_at hi
    have := all_seen _ _ h0 e (by simpa using List.mem_of_getElem? he)
    rw [hb] at this
    simpa using this
  generalize Array.filter (fun e => !seen.toArray.contains e.born) (ents 0 kv).toArray = L at hmem hall ⊢
  have e1 : L.filter (fun x => decide (x.born < kv.length)) = L := Array.filter_eq_self.2 (fun x hx => by
    have h2 := (hmem x (by simpa using hx)).1
    have := born_lt kv x (by simpa using h2)
    simpa using this)
  have e2 : L.filter (fun x => decide (x.born ≥ kv.length)) = #[] := by
    rw [Array.filter_eq_empty_iff]
    intro x hx
    have h2 := (hmem x (by simpa using hx)).1
    have := born_lt kv x (by simpa using h2)
    simp; omega
  simp only [e1, e2, Array.append_empty]
  by_cases h0 : L.size = 0
  · left
    refine ⟨hall h0, ?_⟩
    have : L = #[] := Array.eq_empty_of_size_eq_zero h0
    subst this
    simp [choose, Sem.run, Question.forced]
  · right
    have hne : L.isEmpty = false := by simp [Array.isEmpty, h0]
    simp only [hne, Bool.false_eq_true, if_false, Array.empty_append, Array.size_map]
    have hch : ∃ (j : Nat) (w1 : World), j < L.size ∧ (w1 = w ∨ w1 = w.drew) ∧ (choose (Question.mapNext L.size)).run P w = .ok j w1 := by
      by_cases hf : L.size ≤ 1
      · exact ⟨0, w, by omega, .inl rfl, by simp [choose, Sem.run, Question.forced, hf]⟩
      · exact ⟨_, w.drew, Nat.mod_lt _ (by omega), .inr rfl, by
          simp only [choose, Sem.run, Question.forced, decide_eq_true_eq, hf, if_false, Question.cut]
          rfl⟩
    obtain ⟨j, w1, hj, hw1, hrun⟩ := hch
    have hh : w1.heap = w.heap := by rcases hw1 with rfl | rfl <;> rfl
    obtain ⟨hin, hns⟩ := hmem L[j] (by simp)
    obtain ⟨i, hi2, hb2, p, hp, hk, hv⟩ := ents_get 0 kv L[j] hin
    have hbi : L[j].born = i := by omega
    refine ⟨i, p, { w1 with heap := w1.heap.setIfInBounds b (.mapIter (some g) kv.length (seen ++ [i]).toArray kv.length) }, hp, hi2, by rw [← hbi]; exact hns, ?_, ⟨?_, ?_, ?_, ?_, fun k hk hne => ?_⟩, ?_⟩
    · unfold It
      show (w1.heap.setIfInBounds b _)[b]? = _
      rw [hh]; simp [hlt]
    · rcases hw1 with rfl | rfl <;> rfl
    · rcases hw1 with rfl | rfl <;> rfl
    · rcases hw1 with rfl | rfl <;> rfl
    · show w.heap.size ≤ (w1.heap.setIfInBounds b _).size
      rw [hh]; simp
    · show (w1.heap.setIfInBounds b _)[k]? = _
      have : b ≠ k := fun e => hne (by rw [e])
      rw [hh]; simp [this]
    · have hset : (setObj b (.mapIter (some g) kv.length (seen.toArray.push L[j].born) kv.length)).run P w1 = .ok () { w1 with heap := w1.heap.setIfInBounds b (.mapIter (some g) kv.length (seen ++ [i]).toArray kv.length) } := by
        simp only [setObj, Sem.run, hh, hi', hbi, List.push_toArray]
      simp only [hrun, Array.getElem?_map, Array.getElem?_eq_getElem hj, Option.map_some, Sem.run_bind, hset, Result.andThen]
      rw [← hk, ← hv]
      rfl
section
variable {P : Program} {N : Nat} {D : List Deferred} {env env' : Env} {a : Act} {w w' : World} {Q : Exit → Act → World → Prop}
variable {ops : Array Oper} {rest : List Oper} {d : Nat} {op : Op} {ty : TypeId} {pos : String} {af : Array Edge}
theorem Mp.new (w : World) : Mp (w.alloc (.map #[] 0)) w.heap.size [] := by unfold Mp; show (w.heap.push _)[w.heap.size]? = _; simp; rfl
theorem m_makeMap {t : TypeId} : Mk P N D env w (.makeMap t none) ty (.map (some w.heap.size)) (w.alloc (.map #[] 0)) := fun a ha dst pos af g => by
  simp [execOp, Instr.makeMap, newObj, Sem.run]
/-- a map of one's own -/
theorem Wl.makeMap {t : TypeId} (hd : Nat.blt d N = true) (h : ∀ g w', w.heap.size ≤ g → Mp w' g [] → Below w.heap.size w w' → Wl P ops Q rest N D ((d, .map (some g)) :: env) w') :
    Wl P ops Q (⟨some d, .makeMap t none, ty, pos, af, none⟩ :: rest) N D env w :=
  Wl.m m_makeMap hd (h _ _ (Nat.le_refl _) (Mp.new w) ((Below.refl _ _).alloc (Nat.le_refl _) _))
theorem s_insert {m i x : Operand} {t k e : TypeId} {g : Nat} {kv : List (List UInt8 × Value)} {key : List UInt8} {v : Value} (ht : P.underlying t = some (.map k e)) (hk : P.underlying k = some .string) (hx : ev env m = some (.map (some g))) (hi : ev env i = some (str key)) (hv : ev env x = some v) (hm : Mp w g kv) (hn : mlook kv key = none) :
    ∃ w', St P N D env w (.insert t m i x) ty w' ∧ Mp w' g (kv ++ [(key, v)]) ∧ w.grownBy w' (some g) := by
  refine ⟨{ w with heap := w.heap.setIfInBounds g (.map (ents 0 (kv ++ [(key, v)])).toArray (kv ++ [(key, v)]).length) }, fun a ha dst pos af g' => ?_, ?_, ⟨rfl, rfl, rfl, by simp, fun j hj hne => ?_⟩⟩
  · obtain ⟨j, hj⟩ := run_findKey (P := P) hk key kv w
    rw [hn] at hj
    have hm' : w.heap[g]? = some (.map (ents 0 kv).toArray kv.length) := hm
    simp [execOp, ha.eval hx, ha.eval hi, ha.eval hv, Instr.mapUpdate, run_underlying ht, getObj, Sem.run, hm', run_checkKey hk, hj, setObj, ents_snoc]
  · unfold Mp
    have := hm.lt
    show (w.heap.setIfInBounds g _)[g]? = _
    simp [this]
  · show (w.heap.setIfInBounds g _)[j]? = _
    have : g ≠ j := fun e => hne (by rw [e])
    simp [this]
theorem Wl.insert {m i x : Operand} {t k e : TypeId} {g : Nat} {kv : List (List UInt8 × Value)} {key : List UInt8} {v : Value} (ht : P.underlying t = some (.map k e)) (hk : P.underlying k = some .string) (hx : ev env m = some (.map (some g))) (hi : ev env i = some (str key)) (hv : ev env x = some v) (hm : Mp w g kv) (hn : mlook kv key = none)
    (h : ∀ w', Mp w' g (kv ++ [(key, v)]) → w.grownBy w' (some g) → Wl P ops Q rest N D env w') : Wl P ops Q (⟨none, .insert t m i x, ty, pos, af, none⟩ :: rest) N D env w := by
  obtain ⟨w', h1, h2, h3⟩ := s_insert (N := N) (D := D) (ty := ty) ht hk hx hi hv hm hn
  exact Wl.s h1 (h w' h2 h3)
theorem l_lookup {x i : Operand} {t k e : TypeId} {g : Nat} {kv : List (List UInt8 × Value)} {key : List UInt8} {z : Value} (ht : P.underlying t = some (.map k e)) (hk : P.underlying k = some .string) (hz : (P.info? e).bind (·.zero) = some z) (hx : ev env x = some (.map (some g))) (hi : ev env i = some (str key)) (hm : Mp w g kv) :
    Ld P N D env w (.lookup t x i true) ty (.tuple #[(mlook kv key).getD z, .bool (mlook kv key).isSome]) := fun a ha dst pos af g' => by
  obtain ⟨j, hj⟩ := run_findKey (P := P) hk key kv w
  have hm' : w.heap[g]? = some (.map (ents 0 kv).toArray kv.length) := hm
  obtain ⟨ie, hi2, hz'⟩ := Option.bind_eq_some_iff.1 hz
  cases hl : mlook kv key with
  | none =>
    rw [hl] at hj
    simp [execOp, ha.eval hx, ha.eval hi, Instr.lookup, run_underlying ht, getObj, Sem.run, hm', run_checkKey hk, hj, zeroValue, typeInfo, hi2, hz']
  | some v =>
    rw [hl] at hj
    simp [execOp, ha.eval hx, ha.eval hi, Instr.lookup, run_underlying ht, getObj, Sem.run, hm', run_checkKey hk, hj]

theorem m_range {x : Operand} {t k e : TypeId} {g : Nat} {kv : List (List UInt8 × Value)} (ht : P.underlying t = some (.map k e)) (hx : ev env x = some (.map (some g))) (hm : Mp w g kv) :
    Mk P N D env w (.range t x) ty (.pointer (some ⟨w.heap.size, 0, none⟩)) (w.alloc (.mapIter (some g) kv.length #[] kv.length)) := fun a ha dst pos af g' => by
  have hm' : w.heap[g]? = some (.map (ents 0 kv).toArray kv.length) := hm
  simp [execOp, ha.eval hx, Instr.range, run_underlying ht, getObj, Sem.run, hm', newObj]
theorem Wl.range {x : Operand} {t k e : TypeId} {g : Nat} {kv : List (List UInt8 × Value)} (ht : P.underlying t = some (.map k e)) (hx : ev env x = some (.map (some g))) (hm : Mp w g kv) (hd : Nat.blt d N = true)
    (h : ∀ b w', w.heap.size ≤ b → It w' b g kv.length [] → Below w.heap.size w w' → Wl P ops Q rest N D ((d, .pointer (some ⟨b, 0, none⟩)) :: env) w') :
    Wl P ops Q (⟨some d, .range t x, ty, pos, af, none⟩ :: rest) N D env w :=
  Wl.m (m_range ht hx hm) hd (h _ _ (Nat.le_refl _) (by unfold It; show (w.heap.push _)[w.heap.size]? = _; simp) ((Below.refl _ _).alloc (Nat.le_refl _) _))
theorem Wl.next {x : Operand} {g : Nat} {kv : List (List UInt8 × Value)} {seen : List Nat} {b : Nat} (hx : ev env x = some (.pointer (some ⟨b, 0, none⟩))) (hi : It w b g kv.length seen) (hm : Mp w g kv) (hd : Nat.blt d N = true)
    (h0 : (∀ i, i < kv.length → i ∈ seen) → Wl P ops Q rest N D ((d, .tuple #[.bool false]) :: env) w)
    (h1 : ∀ i p w', kv[i]? = some p → i < kv.length → i ∉ seen → It w' b g kv.length (seen ++ [i]) → w.grownBy w' (some b) → Wl P ops Q rest N D ((d, .tuple #[.bool true, str p.1, p.2]) :: env) w') :
    Wl P ops Q (⟨some d, .next x false, ty, pos, af, none⟩ :: rest) N D env w := by
  rcases run_next_at (P := P) (ty := ty) hi hm with ⟨ha', hr⟩ | ⟨i, p, w', hp, hi2, hns, hI, hg, hr⟩
  · exact Wl.m (fun a ha dst pos af g' => by simp [execOp, ha.eval hx, hr]) hd (h0 ha')
  · exact Wl.m (fun a ha dst pos af g' => by simp [execOp, ha.eval hx, hr]) hd (h1 i p w' hp hi2 hns hI hg)
theorem l_entry {x : Operand} {g : Nat} {kv : List (List UInt8 × Value)} {seen : List Nat} {b i : Nat} {p : List UInt8 × Value} (hx : ev env x = some (.pointer (some ⟨b, 0, none⟩))) (hI : It w b g kv.length (seen ++ [i])) (hm : Mp w g kv) (hp : kv[i]? = some p) :
    Ld P N D env w (.entry x) ty (.tuple #[str p.1, p.2]) := fun a ha dst pos af g' => by
  have hi' : w.heap[b]? = some (.mapIter (some g) kv.length (seen ++ [i]).toArray kv.length) := hI
  have hm' : w.heap[g]? = some (.map (ents 0 kv).toArray kv.length) := hm
  have hi : i < kv.length := (List.getElem?_eq_some_iff.1 hp).1
  obtain ⟨e, he, hb⟩ := ent_at hi
  have hmem : e ∈ (ents 0 kv) := List.mem_of_getElem? he
  obtain ⟨i', _, hb2, p', hp', hk, hv⟩ := ents_get 0 kv e hmem
  have : i' = i := by omega
  subst this
  rw [hp] at hp'; cases hp'
  have hf : (ents 0 kv).toArray.find? (·.born == i') = some e := by
    rw [← hb, ← Array.find?_toList]
    exact find_born e _ (by rw [show ((ents 0 kv).toArray).toList = ents 0 kv by simp, ents_born]; exact List.nodup_range') (by simpa using hmem)
  have hbk : (seen ++ [i']).toArray.back? = some i' := by rw [← List.push_toArray, Array.back?_push]
  have hr : (Instr.entry (.pointer (some ⟨b, 0, none⟩))).run P w = .ok (.tuple #[str p.1, p.2]) w := by
    simp only [Instr.entry, getObj, Sem.run_bind, Sem.run, hi', hm', Result.andThen, hbk, bne_self_eq_false, Bool.false_eq_true, if_false, hf]
    rw [← hk, ← hv]; rfl
  simp [execOp, ha.eval hx, hr]
/-- how many are left -/
def leftN (n : Nat) (seen : List Nat) : Nat := ((List.range n).filter (fun i => !seen.contains i)).length
theorem leftN_lt {n i : Nat} {seen : List Nat} (hi : i < n) (hs : i ∉ seen) : leftN n (seen ++ [i]) < leftN n seen := by
  unfold leftN
  have hm : i ∈ List.range n := List.mem_range.2 hi
  revert hm
  generalize List.range n = l
  induction l with
  | nil => intro h; cases h
  | cons x r ih =>
    intro h
    have hle : ∀ r : List Nat, (r.filter (fun j => !(seen ++ [i]).contains j)).length ≤ (r.filter (fun j => !seen.contains j)).length := fun r => by
      induction r with
      | nil => exact Nat.le_refl _
      | cons y r ih => rw [List.filter_cons, List.filter_cons]; by_cases hy : y ∈ seen <;> by_cases hyi : y = i <;> simp_all <;> omega
    rw [List.filter_cons, List.filter_cons]
    by_cases hx : x = i
    · subst hx
      have := hle r
      simp [hs] at this ⊢; omega
    · have hr : i ∈ r := by rcases List.mem_cons.1 h with h | h; exact absurd h.symm hx; exact h
      have := ih hr
      by_cases hxs : x ∈ seen <;> simp [hxs, hx] at this ⊢ <;> omega
/-- an error against nil -/
def isNilI : Value → Bool | .nilIface => true | _ => false
def IsErr (v : Value) : Prop := v = .nilIface ∨ ∃ d p, v = .iface d p
theorem y_eqlN {x : Operand} {v : Value} {t u : TypeId} (h : P.underlying t = some (.interface (P.methodsAt t))) (hx : ev env x = some v) (hv : IsErr v) : Yl P N D env (.binOp .eql t x (.const .nilIface) u) ty (.bool (isNilI v)) := fun a ha w dst pos af g => by
  have he : a.eval (Operand.const Value.nilIface) = .nilIface := rfl
  rcases hv with rfl | ⟨d, p, rfl⟩
  · simp [execOp, ha.eval hx, he, eqGuard_nil_constR, run_eql_nil_nil w t h, isNilI]
  · simp [execOp, ha.eval hx, he, eqGuard_at_iface, run_eql_held_nil w t d p h, isNilI]
theorem y_neqN {x : Operand} {v : Value} {t u : TypeId} (h : P.underlying t = some (.interface (P.methodsAt t))) (hx : ev env x = some v) (hv : IsErr v) : Yl P N D env (.binOp .neq t x (.const .nilIface) u) ty (.bool (!isNilI v)) := fun a ha w dst pos af g => by
  have he : a.eval (Operand.const Value.nilIface) = .nilIface := rfl
  rcases hv with rfl | ⟨d, p, rfl⟩
  · simp [execOp, ha.eval hx, he, eqGuard_nil_constR, run_neq_nil_nil w t h, isNilI]
  · simp [execOp, ha.eval hx, he, eqGuard_at_iface, run_neq_held_nil w t d p h, isNilI]
end
end Go.Bw
namespace Go.Bw
open Go.RowKit
set_option linter.unusedVariables false
set_option linter.unusedSimpArgs false
section
variable {P : Program} {N : Nat} {D : List Deferred} {env env' : Env} {a : Act} {w w' : World} {Q : Exit → Act → World → Prop}
variable {ops : Array Oper} {rest : List Oper} {d : Nat} {op : Op} {ty : TypeId} {pos : String} {af : Array Edge}
/-- block b: how far a range over l has come -/
def Its (w : World) (b : Nat) (l : List UInt8) (i : Nat) : Prop := w.heap[b]? = some (.stringIter ⟨l.toArray⟩ i)
theorem Its.lt {b i : Nat} {l : List UInt8} (h : Its w b l i) : b < w.heap.size := by
  rcases Nat.lt_or_ge b w.heap.size with h1 | h1
  · exact h1
  · unfold Its at h; simp [Array.getElem?_eq_none h1] at h
theorem Wl.ranges {x : Operand} {t : TypeId} {l : List UInt8} (ht : P.underlying t = some .string) (hx : ev env x = some (str l)) (hd : Nat.blt d N = true)
    (h : ∀ b w', w.heap.size ≤ b → Its w' b l 0 → Below w.heap.size w w' → Wl P ops Q rest N D ((d, .pointer (some ⟨b, 0, none⟩)) :: env) w') :
    Wl P ops Q (⟨some d, .range t x, ty, pos, af, none⟩ :: rest) N D env w :=
  Wl.m (v := .pointer (some ⟨w.heap.size, 0, none⟩)) (w' := w.iter ⟨l.toArray⟩ 0) (fun a ha dst pos af g => by
    have h1 := run_range_string (P := P) w t ⟨l.toArray⟩ ht
    have h2 : (Instr.range t (str l)).run P w = _ := h1
    simp [execOp, ha.eval hx, h2]) hd (h _ _ (Nat.le_refl _) (World.iter_heap w _ 0) ((Below.refl _ _).alloc (Nat.le_refl _) _))
end
theorem Wl.storeB {P : Program} {N : Nat} {D : List Deferred} {env : Env} {w : World} {Q : Exit → Act → World → Prop} {ops : Array Oper} {rest : List Oper} {ty : TypeId} {pos : String} {af : Array Edge} {x y : Operand} {t e : TypeId} {g j : Nat} {cs : List Value} {v : Value} (ht : One P t) (hx : ev env x = some (.pointer (some ((⟨g, 0, none⟩ : Addr).add j)))) (hy : ev env y = some v) (h1 : v.oneCell' = true) (hb : Blk w g e cs) (hj : j < cs.length)
    (h : ∀ w', Blk w' g e (cs.set j v) → w.grownBy w' (some g) → Wl P ops Q rest N D env w') : Wl P ops Q (⟨none, .store t x y, ty, pos, af, none⟩ :: rest) N D env w := by
  have hc : w.cell? ((⟨g, 0, none⟩ : Addr).add j) = some cs[j] := hb.at (List.getElem?_eq_getElem hj)
  have hf : w.frozen? ((⟨g, 0, none⟩ : Addr).add j) = false := by rw [add_zero_off]; exact hb.frozen j
  have e1 : w.setCell ((⟨g, 0, none⟩ : Addr).add j) v = w.setRow g (cs.set j v).toArray := by
    rw [add_zero_off, setCell_eq_setRow w g j cs.toArray e (0, 0) v hb]; simp
  refine Wl.s (s_store ht hx hy h1 hc hf) (h _ (e1 ▸ hb.setRow) ?_)
  exact ⟨rfl, rfl, rfl, by simp [World.setCell], fun k _ hne => Below.heap_setCell w _ _ k (fun e => hne (by rw [e, add_zero_off]))⟩
end Go.Bw
namespace Go.Bw
open Go.RowKit
set_option linter.unusedVariables false
set_option linter.unusedSimpArgs false
section
variable {P : Program} {N : Nat} {D : List Deferred} {env env' : Env} {a : Act} {w w' : World} {Q : Exit → Act → World → Prop} {K : Act → World → Prop}
variable {ops : Array Oper} {rest : List Oper} {d : Nat} {op : Op} {ty : TypeId} {pos : String} {af : Array Edge}
end
/-! ### old blocks are kept, but for one -/
def Kp (p : Nat) (w w' : World) : Prop := w.grownBy w' (some p)
theorem Kp.refl (p : Nat) (w : World) : Kp p w w := World.grownBy.refl w _
theorem Kp.size {p : Nat} {w w' : World} (h : Kp p w w') : w.heap.size ≤ w'.heap.size := World.grownBy.size h
theorem Kp.trans {p : Nat} {a b c : World} (h : Kp p a b) (k : Kp p b c) : Kp p a c :=
  ⟨k.os.trans h.os, k.tape.trans h.tape, k.output.trans h.output, Nat.le_trans h.size k.size, fun i hi hn => (k.block i (Nat.lt_of_lt_of_le hi h.size) hn).trans (h.block i hi hn)⟩
theorem Below.kp {p : Nat} {w w' : World} (h : Below w.heap.size w w') : Kp p w w' := ⟨h.os, h.tape, h.output, h.size, fun k hk _ => h.block k hk⟩
theorem kp_blk {p g : Nat} {w0 w w' : World} (hb : Kp p w0 w) (hg : w.grownBy w' (some g)) (hB : w0.heap.size ≤ g ∨ g = p) : Kp p w0 w' :=
  ⟨hg.os.trans hb.os, hg.tape.trans hb.tape, hg.output.trans hb.output, Nat.le_trans hb.size hg.size, fun i hi hn => (hg.block i (Nat.lt_of_lt_of_le hi hb.size) (fun e => by cases e; rcases hB with h | h; (· omega); (· exact hn (by rw [h])))).trans (hb.block i hi hn)⟩
theorem Kp.below {p B : Nat} {w w' : World} (h : Kp p w w') (hB : B ≤ p) (hs : B ≤ w.heap.size) : Below B w w' := ⟨h.os, h.tape, h.output, h.size, fun k hk => h.block k (by omega) (fun e => by cases e; omega)⟩
theorem Blk.kp {p g : Nat} {e : TypeId} {cs : List Value} {w w' : World} (h : Blk w g e cs) (hk : Kp p w w') (hn : g ≠ p) : Blk w' g e cs := h.grown hk (fun e => hn (Option.some.inj e))
theorem add_block (q : Addr) (n : Nat) : (q.add n).block = q.block := by unfold Addr.add; split <;> rfl
theorem kp_row {p : Nat} {w0 w w' : World} {r : Option Nat} (hb : Kp p w0 w) (hg : w.grownBy w' r) (h : ∀ k, r = some k → w0.heap.size ≤ k ∨ k = p) : Kp p w0 w' :=
  ⟨hg.os.trans hb.os, hg.tape.trans hb.tape, hg.output.trans hb.output, Nat.le_trans hb.size hg.size, fun i hi hn => (hg.block i (Nat.lt_of_lt_of_le hi hb.size) (fun e => by rcases h i e.symm with h | h; (· omega); (· exact hn (by rw [h])))).trans (hb.block i hi hn)⟩
theorem own_kp {p base : Nat} {e : TypeId} {sz : Nat} {v : Value} {n : Nat} {xs : List Value} {w w' : World} (h : w.ownsRow base e sz v n xs) (hk : Kp p w w') (hp : p < base) : w'.ownsRow base e sz v n xs :=
  World.ownsRow.kept h hk (by
    cases hv : v.ownBlock with
    | none => exact .inl rfl
    | some k => exact .inr (fun e => by have := (own_ge h k hv).1; cases e; omega))
/-! ### what is deferred -/
section
variable {P : Program} {N : Nat} {D : List Deferred} {env env' : Env} {a : Act} {w w' : World} {Q : Exit → Act → World → Prop} {K : Act → World → Prop}
variable {ops : Array Oper} {rest : List Oper} {d : Nat} {op : Op} {ty : TypeId} {pos : String} {af : Array Edge}
end
/-! ### a struct into the midst of a block; maps -/
section
variable {P : Program} {N : Nat} {D : List Deferred} {env env' : Env} {a : Act} {w w' : World} {Q : Exit → Act → World → Prop}
variable {ops : Array Oper} {rest : List Oper} {d : Nat} {op : Op} {ty : TypeId} {pos : String} {af : Array Edge}
end
theorem Mp.kp {p g : Nat} {kv : List (List UInt8 × Value)} {w w' : World} (h : Mp w g kv) (hk : Kp p w w') (hn : g ≠ p) : Mp w' g kv := h.grown hk (fun e => hn (Option.some.inj e))
/-! ### recover -/
end Go.Bw
