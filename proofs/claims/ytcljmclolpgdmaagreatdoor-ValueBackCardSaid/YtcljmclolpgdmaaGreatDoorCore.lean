/- A small calculus over the walk's own laws: a frame is known by the slots that matter, and each operation is one lemma. -/
import Derived.Calls
import Derived.Deep.LoopGhost
import Derived.Below
import Derived.Tactics
import Derived.WalkKit
import Derived.KernelRfl
namespace Go.Bw
open Go.RowKit
set_option linter.unusedVariables false
set_option linter.unusedSimpArgs false

abbrev Env := List (Nat × Value)
/-- what is known of slot t -/
def lk : Env → Nat → Option Value
  | [], _ => none
  | (k, v) :: r, t => bif Nat.beq k t then some v else lk r t
/-- an operand's value -/
def ev (env : Env) : Operand → Option Value
  | .tmp t => lk env t
  | .const v => some v
  | .global g => some (.pointer (some ⟨g, 0, none⟩))
  | .func f => some (.func (.func f) #[] #[])

structure Ok (N : Nat) (D : List Deferred) (env : Env) (a : Act) : Prop where
  size : a.tmps.size = N
  defers : a.defers = D
  get : ∀ t v, lk env t = some v → a.tmps[t]? = some v

section
variable {P : Program} {N : Nat} {D : List Deferred} {env env' : Env} {a : Act} {w w' : World} {Q : Exit → Act → World → Prop} {K : Act → World → Prop}

theorem Ok.eval (h : Ok N D env a) {x : Operand} {v : Value} (hx : ev env x = some v) : a.eval x = v := by
  cases x with
  | tmp t =>
    have := h.get t v hx
    simp [Act.eval, Array.getD_eq_getD_getElem?, this]
  | const v' => exact Option.some.inj hx
  | global g => exact Option.some.inj hx
  | func f => exact Option.some.inj hx

theorem beq_eq {k t : Nat} (h : Nat.beq k t = true) : k = t := Nat.eq_of_beq_eq_true h
theorem lk_cons (d : Nat) (v : Value) (env : Env) (t : Nat) : lk ((d, v) :: env) t = if d = t then some v else lk env t := by
  unfold lk
  by_cases h : d = t
  · subst h; simp
  · have : Nat.beq d t = false := by cases e : Nat.beq d t with
      | false => rfl
      | true => exact absurd (beq_eq e) h
    rw [this, if_neg h]; cases env <;> rfl

theorem Ok.put (h : Ok N D env a) {d : Nat} (hd : Nat.blt d N = true) (v : Value) : Ok N D ((d, v) :: env) (a.put (some d) v) := by
  have hd' : d < N := Nat.le_of_ble_eq_true hd
  refine ⟨by simp [Act.put, h.size], h.defers, fun t u ht => ?_⟩
  rw [lk_cons] at ht
  show (a.tmps.setIfInBounds d v)[t]? = some u
  rw [Array.getElem?_setIfInBounds]
  by_cases e : d = t
  · subst e
    rw [if_pos rfl] at ht ⊢
    rw [if_pos (by rw [h.size]; exact hd')]
    exact ht
  · rw [if_neg e] at ht ⊢
    exact h.get t u ht

/-- env' says nothing that env doesn't -/
def Sub (env' env : Env) : Prop := ∀ t v, lk env' t = some v → lk env t = some v
theorem Sub.nil : Sub [] env := fun _ _ h => by cases h
theorem Sub.cons {d : Nat} {v : Value} (h : lk env d = some v) (hs : Sub env' env) : Sub ((d, v) :: env') env := fun t u ht => by
  rw [lk_cons] at ht
  by_cases e : d = t
  · subst e; rw [if_pos rfl] at ht; cases ht; exact h
  · rw [if_neg e] at ht; exact hs t u ht
theorem Sub.cons' {d : Nat} {v v' : Value} (h : lk env d = some v') (e : v' = v) (hs : Sub env' env) : Sub ((d, v) :: env') env := Sub.cons (e ▸ h) hs
theorem Sub.refl : Sub env env := fun _ _ h => h
theorem Ok.sub (h : Ok N D env a) (hs : Sub env' env) : Ok N D env' a := ⟨h.size, h.defers, fun t v ht => h.get t v (hs t v ht)⟩

/-- code, a region's operations, an exit, from a frame of which env is known -/
def Wc (P : Program) (Q : Exit → Act → World → Prop) (c : Code) (N : Nat) (D : List Deferred) (env : Env) (w : World) : Prop := ∀ a, Ok N D env a → c.wp P Q a w
def Wl (P : Program) (ops : Array Oper) (Q : Exit → Act → World → Prop) (l : List Oper) (N : Nat) (D : List Deferred) (env : Env) (w : World) : Prop := ∀ a, Ok N D env a → wpList P ops Q l a w
def Wq (Q : Exit → Act → World → Prop) (e : Exit) (N : Nat) (D : List Deferred) (env : Env) (w : World) : Prop := ∀ a, Ok N D env a → Q e a w

/-- what the rest doesn't need is forgotten -/
theorem Wc.wk {c : Code} (env' : Env) (hs : Sub env' env) (h : Wc P Q c N D env' w) : Wc P Q c N D env w := fun a ha => h a (ha.sub hs)
theorem Wq.wk {e : Exit} (env' : Env) (hs : Sub env' env) (h : Wq Q e N D env' w) : Wq Q e N D env w := fun a ha => h a (ha.sub hs)
theorem Wl.wk {ops : Array Oper} {l : List Oper} (env' : Env) (hs : Sub env' env) (h : Wl P ops Q l N D env' w) : Wl P ops Q l N D env w := fun a ha => h a (ha.sub hs)

/-! ### control -/
theorem Wc.seq {x y : Code} (h : ∀ K : Act → World → Prop, (∀ (env : Env) (w : World), Wc P Q y N D env w → ∀ a, Ok N D env a → K a w) → Wc P (Exit.then K Q) x N D env w) : Wc P Q (.seq x y) N D env w := fun a ha =>
  wp_seq_k fun K hK => h (fun a w => K a w) (fun _ w hw a ha => hK a w (hw a ha)) a ha
theorem Wc.skip (h : Wq Q .normal N D env w) : Wc P Q .skip N D env w := fun a ha => wp_skip (h a ha)
theorem Wc.ret (h : Wq Q .ret N D env w) : Wc P Q .ret N D env w := fun a ha => wp_ret (h a ha)
theorem Wc.exit {id : Nat} (h : Wq Q (.exit id) N D env w) : Wc P Q (.exit id) N D env w := fun a ha => wp_exit (h a ha)
theorem Wc.label {l : Nat} (h : Wq Q .normal N D env w) : Wc P Q (.label l) N D env w := fun a ha => wp_label (h a ha)
theorem Wc.block {id : Nat} {c : Code} (h : Wc P (Exit.inBlock id Q) c N D env w) : Wc P Q (.block id c) N D env w := fun a ha => wp_block (h a ha)
theorem Wc.cond {c : Operand} {x y : Code} {t : Bool} (hc : ev env c = some (.bool t)) (ht : t = true → Wc P Q x N D env w) (hf : t = false → Wc P Q y N D env w) : Wc P Q (.cond c x y) N D env w :=
  fun a ha => wp_cond_split (ha.eval hc) (fun e => ht e a ha) (fun e => hf e a ha)
theorem Wc.cond_t {c : Operand} {x y : Code} (hc : ev env c = some (.bool true)) (h : Wc P Q x N D env w) : Wc P Q (.cond c x y) N D env w := fun a ha => wp_cond_true (ha.eval hc) (h a ha)
theorem Wc.cond_f {c : Operand} {x y : Code} (hc : ev env c = some (.bool false)) (h : Wc P Q y N D env w) : Wc P Q (.cond c x y) N D env w := fun a ha => wp_cond_false (ha.eval hc) (h a ha)
theorem Wc.condT {c : Operand} {x y : Code} {t : Bool} (hc : ev env c = some (.bool t)) (e : t = true) (h : Wc P Q x N D env w) : Wc P Q (.cond c x y) N D env w := by subst e; exact Wc.cond_t hc h
theorem Wc.condF {c : Operand} {x y : Code} {t : Bool} (hc : ev env c = some (.bool t)) (e : t = false) (h : Wc P Q y N D env w) : Wc P Q (.cond c x y) N D env w := by subst e; exact Wc.cond_f hc h
theorem Wc.region {id : Nat} {l : List Oper} (h : Wl P l.toArray Q l N D env w) : Wc P Q (.region id l.toArray false) N D env w := fun a ha => wp_region_lit (h a ha)

/-- the ways out -/
theorem Wq.next {y : Code} (hK : ∀ env w, Wc P Q y N D env w → ∀ a, Ok N D env a → K a w) (h : Wc P Q y N D env w) : Wq (Exit.then K Q) .normal N D env w := fun a ha => hK env w h a ha
theorem Wq.then_ret (h : Wq Q .ret N D env w) : Wq (Exit.then K Q) .ret N D env w := h
theorem Wq.then_exit {i : Nat} (h : Wq Q (.exit i) N D env w) : Wq (Exit.then K Q) (.exit i) N D env w := h
theorem Wq.then_panic {c : List PanicEntry} (h : Wq Q (.panic c) N D env w) : Wq (Exit.then K Q) (.panic c) N D env w := h
theorem Wq.block_ret {i : Nat} (h : Wq Q .ret N D env w) : Wq (Exit.inBlock i Q) .ret N D env w := h
theorem Wq.block_normal {i : Nat} (h : Wq Q .normal N D env w) : Wq (Exit.inBlock i Q) .normal N D env w := h
theorem Wq.block_panic {i : Nat} {c : List PanicEntry} (h : Wq Q (.panic c) N D env w) : Wq (Exit.inBlock i Q) (.panic c) N D env w := h
theorem Wq.block_exit {i : Nat} (h : Wq Q .normal N D env w) : Wq (Exit.inBlock i Q) (.exit i) N D env w := fun a ha => by
  show (if i = i then _ else _)
  rw [if_pos rfl]; exact h a ha
theorem Wq.block_pass {i j : Nat} (hn : Nat.beq j i = false) (h : Wq Q (.exit j) N D env w) : Wq (Exit.inBlock i Q) (.exit j) N D env w := fun a ha => by
  show (if j = i then _ else _)
  rw [if_neg (fun e => by subst e; simp at hn)]; exact h a ha

/-- a loop: E: what is known of the slots at its head, by a ghost; I: of the world -/
def Again {X : Type} (E : X → Env) (I : X → World → Prop) (m : X → Nat) (n : Nat) (N : Nat) (D : List Deferred) : Act → World → Prop := fun a w => ∃ x, m x < n ∧ Ok N D (E x) a ∧ I x w
theorem Wc.loop {c : Code} {X : Type} (E : X → Env) (I : X → World → Prop) (m : X → Nat) (x0 : X) (h0 : Sub (E x0) env) (hI : I x0 w)
    (round : ∀ x w, I x w → ∀ K : Act → World → Prop, (∀ env' w' x', m x' < m x → Sub (E x') env' → I x' w' → ∀ a, Ok N D env' a → K a w') → Wc P (Exit.then K Q) c N D (E x) w) : Wc P Q (.loop c) N D env w := fun a ha => by
  refine wp_loop_ghost (fun n a w => ∃ x, m x = n ∧ Ok N D (E x) a ∧ I x w) (m x0) ⟨x0, rfl, ha.sub h0, hI⟩ ?_
  rintro n a w ⟨x, rfl, hx, hi⟩
  exact round x w hi (fun a' w' => ∃ n', n' < m x ∧ ∃ x', m x' = n' ∧ Ok N D (E x') a' ∧ I x' w') (fun env' w' x' hm hs hI' a' ha' => ⟨_, hm, x', rfl, ha'.sub hs, hI'⟩) a hx
theorem Wq.again {X : Type} {E : X → Env} {I : X → World → Prop} {m : X → Nat} {x : X} (hK : ∀ env' w' x', m x' < m x → Sub (E x') env' → I x' w' → ∀ a, Ok N D env' a → K a w') (x' : X) (hm : m x' < m x) (hs : Sub (E x') env) (hI : I x' w) : Wq (Exit.then K Q) .normal N D env w :=
  fun a ha => hK env w x' hm hs hI a ha

/-! ### a function -/
def envOf : Nat → List Value → Env
  | _, [] => []
  | n, v :: l => (n, v) :: envOf (n + 1) l
theorem lk_envOf : ∀ (l : List Value) (n t : Nat) (v : Value), lk (envOf n l) t = some v → n ≤ t ∧ l[t - n]? = some v
  | [], _, _, _, h => by cases h
  | u :: l, n, t, v, h => by
    rw [envOf, lk_cons] at h
    by_cases e : n = t
    · subst e; rw [if_pos rfl] at h; simpa using h
    · rw [if_neg e] at h
      obtain ⟨h1, h2⟩ := lk_envOf l (n + 1) t v h
      refine ⟨by omega, ?_⟩
      obtain ⟨k, rfl⟩ : ∃ k, t = n + 1 + k := ⟨t - (n + 1), by omega⟩
      rw [show n + 1 + k - (n + 1) = k by omega] at h2
      rw [show n + 1 + k - n = k + 1 by omega]
      simpa using h2
theorem enter {f : FuncId} {fn : Func} {c : Code} {l : List Value} {R : Ending → World → Prop} (hf : P.funcs[f]? = some fn) (hb : fn.body = some c) (hN : fn.ntmps = N) (hl : Nat.ble l.length N = true)
    (h : Wc P (bodyPost P fn R) c N [] (envOf 0 l) w) : Calls P f l.toArray w R := by
  have hl' : l.length ≤ N := Nat.le_of_ble_eq_true hl
  refine calls_of_wp hf hb (h _ ⟨?_, rfl, fun t v ht => ?_⟩)
  · simp [hN]; omega
  · obtain ⟨_, h2⟩ := lk_envOf l 0 t v ht
    simp only [Nat.sub_zero] at h2
    obtain ⟨hlt, _⟩ := List.getElem?_eq_some_iff.1 h2
    simp only [Array.getElem?_append, List.size_toArray]
    rw [if_pos hlt]
    simpa using h2

theorem ret0 {fn : Func} {R : Ending → World → Prop} (hr : fn.results = #[]) (h : R (.returned (.tuple #[])) w) : Wq (bodyPost P fn R) .ret N [] env w := fun _ ha => ⟨ha.defers, _, results_none hr _ _ _, h⟩
theorem end0 {fn : Func} {R : Ending → World → Prop} (hr : fn.results = #[]) (h : R (.returned (.tuple #[])) w) : Wq (bodyPost P fn R) .normal N [] env w := fun _ ha => ⟨ha.defers, _, results_none hr _ _ _, h⟩
theorem Ok.getD (h : Ok N D env a) {t : Nat} {v : Value} (hx : lk env t = some v) : a.tmps.getD t undef = v := h.eval (x := .tmp t) hx
theorem ret1 {fn : Func} {R : Ending → World → Prop} {t : Nat} {v : Value} (hr : fn.results = #[.tmp t]) (hx : lk env t = some v) (h : R (.returned v) w) : Wq (bodyPost P fn R) .ret N [] env w :=
  fun _ ha => ⟨ha.defers, v, by rw [results_tmp hr, ha.getD hx], h⟩
theorem ret2 {fn : Func} {R : Ending → World → Prop} {t u : Nat} {x y : Value} (hr : fn.results = #[.tmp t, .tmp u]) (hx : lk env t = some x) (hy : lk env u = some y) (h : R (.returned (.tuple #[x, y])) w) : Wq (bodyPost P fn R) .ret N [] env w :=
  fun _ ha => ⟨ha.defers, _, by rw [results_tmp2 hr, ha.getD hx, ha.getD hy], h⟩
theorem ret3 {fn : Func} {R : Ending → World → Prop} {t u s : Nat} {x y z : Value} (hr : fn.results = #[.tmp t, .tmp u, .tmp s]) (hx : lk env t = some x) (hy : lk env u = some y) (hz : lk env s = some z) (h : R (.returned (.tuple #[x, y, z])) w) : Wq (bodyPost P fn R) .ret N [] env w :=
  fun _ ha => ⟨ha.defers, .tuple #[x, y, z], by have h1 := ha.getD hx; have h2 := ha.getD hy; have h3 := ha.getD hz; simp only [Array.getD_eq_getD_getElem?] at h1 h2 h3; simp [results, hr, h1, h2, h3], h⟩
theorem panics {fn : Func} {R : Ending → World → Prop} {c : List PanicEntry} (h : R (.panicked c) w) : Wq (bodyPost P fn R) (.panic c) N [] env w := fun _ ha => ⟨ha.defers, h⟩

/-! ### one operation -/
section ops
variable {ops : Array Oper} {rest : List Oper} {d : Nat} {op : Op} {ty : TypeId} {pos : String} {af : Array Edge}

theorem Wl.nil (h : Wq Q .normal N D env w) : Wl P ops Q [] N D env w := h

/-- an operation that has a value -/
theorem Wl.val {v : Value} (hd : Nat.blt d N = true) (hr : ∀ a, Ok N D env a → (execOp a.eval ⟨some d, op, ty, pos, af, none⟩).run P w = .ok (.value v) w') (h : Wl P ops Q rest N D ((d, v) :: env) w') :
    Wl P ops Q (⟨some d, op, ty, pos, af, none⟩ :: rest) N D env w := fun a ha => by
  unfold wpList
  simp only [Region.wanted, if_true]
  refine .inl ?_
  unfold Oper.wp
  rw [hr a ha, Oper.upon_value]
  exact h _ (ha.put hd v)
theorem Wl.skp {dst : Option Tmp} (hd : dst = none) (hr : ∀ a, Ok N D env a → (execOp a.eval ⟨dst, op, ty, pos, af, none⟩).run P w = .ok .skip w') (h : Wl P ops Q rest N D env w') :
    Wl P ops Q (⟨dst, op, ty, pos, af, none⟩ :: rest) N D env w := fun a ha => by
  subst hd
  unfold wpList
  simp only [Region.wanted, if_true]
  refine .inl ?_
  unfold Oper.wp
  rw [hr a ha, Oper.upon_skip]
  exact h _ ha

/-- a guarded operation -/
theorem Wl.on {g : Nat} {b : Bool} {s : Nat} {dst : Option Tmp} (hs : (ops[g]?).bind (·.dst) = some s) (hb : lk env s = some (.bool b))
    (h : Wl P ops Q (⟨dst, op, ty, pos, af, none⟩ :: rest) N D env w) : Wl P ops Q (⟨dst, op, ty, pos, af, some (g, b)⟩ :: rest) N D env w := fun a ha => by
  have h1 := h a ha
  unfold wpList at h1 ⊢
  have hy : yielded ops a.tmps g = some b := by
    unfold yielded
    rw [hs]
    show (match a.tmps[s]? with | some (.bool b) => some b | _ => none) = some b
    rw [ha.get s _ hb]
  simp only [Region.wanted, if_true] at h1
  simp only [Region.wanted, hy, beq_self_eq_true, if_true]
  exact h1
theorem Wl.off {g : Nat} {b c : Bool} {s : Nat} (hs : (ops[g]?).bind (·.dst) = some s) (hb : lk env s = some (.bool c)) (hne : (c == b) = false) (hd : Nat.blt d N = true)
    (h : Wl P ops Q rest N D ((d, undef) :: env) w) : Wl P ops Q (⟨some d, op, ty, pos, af, some (g, b)⟩ :: rest) N D env w := fun a ha => by
  unfold wpList
  have hy : yielded ops a.tmps g = some c := by
    unfold yielded
    rw [hs]
    show (match a.tmps[s]? with | some (.bool b) => some b | _ => none) = some c
    rw [ha.get s _ hb]
  have : (some c == some b) = false := by simpa using hne
  simp only [Region.wanted, hy, this]
  exact h _ (ha.put hd undef)
theorem Wl.on' {g : Nat} {b t : Bool} {s : Nat} {dst : Option Tmp} (hs : (ops[g]?).bind (·.dst) = some s) (hb : lk env s = some (.bool t)) (e : t = b)
    (h : Wl P ops Q (⟨dst, op, ty, pos, af, none⟩ :: rest) N D env w) : Wl P ops Q (⟨dst, op, ty, pos, af, some (g, b)⟩ :: rest) N D env w := by subst e; exact Wl.on hs hb h
theorem Wl.off' {g : Nat} {b c c' : Bool} {s : Nat} (hs : (ops[g]?).bind (·.dst) = some s) (hb : lk env s = some (.bool c)) (e : c = c') (hne : (c' == b) = false) (hd : Nat.blt d N = true)
    (h : Wl P ops Q rest N D ((d, undef) :: env) w) : Wl P ops Q (⟨some d, op, ty, pos, af, some (g, b)⟩ :: rest) N D env w := by subst e; exact Wl.off hs hb hne hd h
/-- guarded by what was passed over itself -/
theorem Wl.offU {g : Nat} {b : Bool} {s : Nat} (hs : (ops[g]?).bind (·.dst) = some s) (hb : lk env s = some undef) (hd : Nat.blt d N = true)
    (h : Wl P ops Q rest N D ((d, undef) :: env) w) : Wl P ops Q (⟨some d, op, ty, pos, af, some (g, b)⟩ :: rest) N D env w := fun a ha => by
  unfold wpList
  have hy : yielded ops a.tmps g = none := by
    unfold yielded
    rw [hs]
    show (match a.tmps[s]? with | some (.bool b) => some b | _ => none) = none
    rw [ha.get s _ hb]
    rfl
  have : ((none : Option Bool) == some b) = false := rfl
  simp only [Region.wanted, hy, this]
  exact h _ (ha.put hd undef)
theorem Wl.guardT {g : Nat} {t : Bool} {s : Nat} (hs : (ops[g]?).bind (·.dst) = some s) (hb : lk env s = some (.bool t)) (hd : Nat.blt d N = true)
    (h1 : t = true → Wl P ops Q (⟨some d, op, ty, pos, af, none⟩ :: rest) N D env w) (h2 : t = false → Wl P ops Q rest N D ((d, undef) :: env) w) : Wl P ops Q (⟨some d, op, ty, pos, af, some (g, true)⟩ :: rest) N D env w := by
  cases t
  · exact Wl.off hs hb rfl hd (h2 rfl)
  · exact Wl.on hs hb (h1 rfl)
theorem Wl.guardF {g : Nat} {t : Bool} {s : Nat} (hs : (ops[g]?).bind (·.dst) = some s) (hb : lk env s = some (.bool t)) (hd : Nat.blt d N = true)
    (h1 : t = true → Wl P ops Q rest N D ((d, undef) :: env) w) (h2 : t = false → Wl P ops Q (⟨some d, op, ty, pos, af, none⟩ :: rest) N D env w) : Wl P ops Q (⟨some d, op, ty, pos, af, some (g, false)⟩ :: rest) N D env w := by
  cases t
  · exact Wl.on hs hb (h2 rfl)
  · exact Wl.off hs hb rfl hd (h1 rfl)
/-- what a test's two ways are -/
theorem Wl.cases {l : List Oper} (t : Bool) (h1 : t = true → Wl P ops Q l N D env w) (h2 : t = false → Wl P ops Q l N D env w) : Wl P ops Q l N D env w := by
  cases t
  · exact h2 rfl
  · exact h1 rfl

theorem op_move {x : Operand} {v : Value} (hx : ev env x = some v) (hd : Nat.blt d N = true) (h : Wl P ops Q rest N D ((d, v) :: env) w) : Wl P ops Q (⟨some d, .move x, ty, pos, af, none⟩ :: rest) N D env w :=
  Wl.val hd (fun a ha => by simp [execOp, ha.eval hx]) h
theorem op_assign {x : Operand} {v : Value} (hx : ev env x = some v) (hd : Nat.blt d N = true) (h : Wl P ops Q rest N D ((d, v) :: env) w) : Wl P ops Q (⟨some d, .assign x, ty, pos, af, none⟩ :: rest) N D env w :=
  Wl.val hd (fun a ha => by simp [execOp, ha.eval hx]) h
theorem op_pick {c x y : Operand} {t : Bool} {v : Value} (hc : ev env c = some (.bool t)) (hv : ev env (if t then x else y) = some v) (hd : Nat.blt d N = true) (h : Wl P ops Q rest N D ((d, v) :: env) w) : Wl P ops Q (⟨some d, .pick c x y, ty, pos, af, none⟩ :: rest) N D env w :=
  Wl.val hd (fun a ha => by
    cases t <;> simp [execOp, ha.eval hc, asBool] <;> exact ha.eval hv) h
end ops
end
end Go.Bw
