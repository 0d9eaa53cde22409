/- One lemma an operation: numbers, bools, strings, calls, boxes, rows. -/
import Derived.Test.YtcljmclolpgdmaaGreatDoorCore
import Derived.WalkLawsBesides
import Derived.WalkSpells
import Derived.Maps.AppendAt
import Derived.OwnWalk
import Derived.Laws.BytesArg
import Derived.Laws.OwnMore
import Derived.Laws.Bits64
import Derived.Laws.BitsLemmas
import Derived.Laws.Cover2
import Derived.Lib.Strings
namespace Go.Bw
open Go.RowKit
set_option linter.unusedVariables false
set_option linter.unusedSimpArgs false

/-- a text out of its bytes -/
def str (l : List UInt8) : Value := .string ⟨l.toArray⟩
theorem str_of (s : ByteArray) : Value.string s = str s.data.toList := by simp [str]

def evs (env : Env) : List Operand → Option (List Value)
  | [] => some []
  | x :: r => match ev env x, evs env r with
    | some v, some l => some (v :: l)
    | _, _ => none

section
variable {P : Program} {N : Nat} {D : List Deferred} {env env' : Env} {a : Act} {w w' : World} {Q : Exit → Act → World → Prop}
variable {ops : Array Oper} {rest : List Oper} {d : Nat} {op : Op} {ty : TypeId} {pos : String} {af : Array Edge}

theorem evs_map (ha : Ok N D env a) : ∀ {xs : List Operand} {vs : List Value}, evs env xs = some vs → xs.map a.eval = vs
  | [], vs, h => by cases h; rfl
  | x :: r, vs, h => by
    unfold evs at h
    cases h1 : ev env x with
    | none => rw [h1] at h; cases h
    | some v =>
      cases h2 : evs env r with
      | none => rw [h1, h2] at h; cases h
      | some l =>
        rw [h1, h2] at h; cases h
        rw [List.map_cons, ha.eval h1, evs_map ha h2]

theorem evs_arr (ha : Ok N D env a) {xs : Array Operand} {vs : List Value} (h : evs env xs.toList = some vs) : xs.map a.eval = vs.toArray := by
  have := evs_map ha h
  rw [← this]
  apply Array.ext'
  simp
/-- parts of a literal -/
def evp (env : Env) : List (Nat × Operand) → Option (List (Nat × Value))
  | [] => some []
  | (i, x) :: r => match ev env x, evp env r with
    | some v, some l => some ((i, v) :: l)
    | _, _ => none
theorem evp_map (ha : Ok N D env a) : ∀ {xs : List (Nat × Operand)} {vs : List (Nat × Value)}, evp env xs = some vs → xs.map (fun (i, x) => (i, a.eval x)) = vs
  | [], vs, h => by cases h; rfl
  | (i, x) :: r, vs, h => by
    unfold evp at h
    cases h1 : ev env x with
    | none => rw [h1] at h; cases h
    | some v =>
      cases h2 : evp env r with
      | none => rw [h1, h2] at h; cases h
      | some l =>
        rw [h1, h2] at h; cases h
        rw [List.map_cons, evp_map ha h2]
        simp [ha.eval h1]
theorem evp_arr (ha : Ok N D env a) {xs : Array (Nat × Operand)} {vs : List (Nat × Value)} (h : evp env xs.toList = some vs) : xs.map (fun (i, x) => (i, a.eval x)) = vs.toArray := by
  have := evp_map ha h
  rw [← this]
  apply Array.ext'
  simp
/-- the operation has the value v, in every world, and leaves the world alone -/
def Yl (P : Program) (N : Nat) (D : List Deferred) (env : Env) (op : Op) (ty : TypeId) (v : Value) : Prop :=
  ∀ a, Ok N D env a → ∀ (w : World) (dst : Option Tmp) (pos : String) (af : Array Edge) (g : Option (Nat × Bool)), (execOp a.eval ⟨dst, op, ty, pos, af, g⟩).run P w = .ok (.value v) w
/-- likewise in the world w -/
def Ld (P : Program) (N : Nat) (D : List Deferred) (env : Env) (w : World) (op : Op) (ty : TypeId) (v : Value) : Prop :=
  ∀ a, Ok N D env a → ∀ (dst : Option Tmp) (pos : String) (af : Array Edge) (g : Option (Nat × Bool)), (execOp a.eval ⟨dst, op, ty, pos, af, g⟩).run P w = .ok (.value v) w
/-- likewise, and leaves w' -/
def Mk (P : Program) (N : Nat) (D : List Deferred) (env : Env) (w : World) (op : Op) (ty : TypeId) (v : Value) (w' : World) : Prop :=
  ∀ a, Ok N D env a → ∀ (dst : Option Tmp) (pos : String) (af : Array Edge) (g : Option (Nat × Bool)), (execOp a.eval ⟨dst, op, ty, pos, af, g⟩).run P w = .ok (.value v) w'
/-- a store -/
def St (P : Program) (N : Nat) (D : List Deferred) (env : Env) (w : World) (op : Op) (ty : TypeId) (w' : World) : Prop :=
  ∀ a, Ok N D env a → ∀ (dst : Option Tmp) (pos : String) (af : Array Edge) (g : Option (Nat × Bool)), (execOp a.eval ⟨dst, op, ty, pos, af, g⟩).run P w = .ok .skip w'

theorem Wl.y {v : Value} (hy : Yl P N D env op ty v) (hd : Nat.blt d N = true) (h : Wl P ops Q rest N D ((d, v) :: env) w) : Wl P ops Q (⟨some d, op, ty, pos, af, none⟩ :: rest) N D env w :=
  Wl.val hd (fun a ha => hy a ha w _ _ _ _) h
theorem Wl.l {v : Value} (hy : Ld P N D env w op ty v) (hd : Nat.blt d N = true) (h : Wl P ops Q rest N D ((d, v) :: env) w) : Wl P ops Q (⟨some d, op, ty, pos, af, none⟩ :: rest) N D env w :=
  Wl.val hd (fun a ha => hy a ha _ _ _ _) h
theorem Wl.m {v : Value} (hy : Mk P N D env w op ty v w') (hd : Nat.blt d N = true) (h : Wl P ops Q rest N D ((d, v) :: env) w') : Wl P ops Q (⟨some d, op, ty, pos, af, none⟩ :: rest) N D env w :=
  Wl.val hd (fun a ha => hy a ha _ _ _ _) h
theorem Wl.s (hy : St P N D env w op ty w') (h : Wl P ops Q rest N D env w') : Wl P ops Q (⟨none, op, ty, pos, af, none⟩ :: rest) N D env w :=
  Wl.skp rfl (fun a ha => hy a ha _ _ _ _) h

theorem y_move {x : Operand} {v : Value} (hx : ev env x = some v) : Yl P N D env (.move x) ty v := fun a ha w dst pos af g => by simp [execOp, ha.eval hx]
theorem y_assign {x : Operand} {v : Value} (hx : ev env x = some v) : Yl P N D env (.assign x) ty v := fun a ha w dst pos af g => by simp [execOp, ha.eval hx]
theorem y_pick {c x y : Operand} {t : Bool} {v : Value} (hc : ev env c = some (.bool t)) (hv : ev env (bif t then x else y) = some v) : Yl P N D env (.pick c x y) ty v := fun a ha w dst pos af g => by
  cases t <;> simp [execOp, ha.eval hc, asBool] <;> exact ha.eval hv
theorem y_pickT {c x y : Operand} {t : Bool} {v : Value} (hc : ev env c = some (.bool t)) (e : t = true) (hv : ev env x = some v) : Yl P N D env (.pick c x y) ty v := by subst e; exact y_pick hc hv
theorem y_pickF {c x y : Operand} {t : Bool} {v : Value} (hc : ev env c = some (.bool t)) (e : t = false) (hv : ev env y = some v) : Yl P N D env (.pick c x y) ty v := by subst e; exact y_pick hc hv
/-- a nil check of what is not nil -/
theorem y_nilCheck {x : Operand} {p : Addr} (hx : ev env x = some (.pointer (some p))) : Yl P N D env (.nilCheck x) ty (.pointer (some p)) := fun a ha w dst pos af g => by simp [execOp, ha.eval hx]
theorem y_nilCheckF {x : Operand} {f : FuncId} {l c : Array Value} (hx : ev env x = some (.func (.func f) l c)) : Yl P N D env (.nilCheck x) ty (.func (.func f) l c) := fun a ha w dst pos af g => by simp [execOp, ha.eval hx]

/-! ### whole numbers -/
theorem y_add {x y : Operand} {k : IntKind} {m n : Int} {t u : TypeId} (hx : ev env x = some (.int k m)) (hy : ev env y = some (.int k n)) : Yl P N D env (.binOp .add t x y u) ty (.int k (k.wrap (m + n))) :=
  fun a ha w dst pos af g => by simp [execOp, ha.eval hx, ha.eval hy, eqGuard_add, binOp_add, Op.intArith]
theorem y_sub {x y : Operand} {k : IntKind} {m n : Int} {t u : TypeId} (hx : ev env x = some (.int k m)) (hy : ev env y = some (.int k n)) : Yl P N D env (.binOp .sub t x y u) ty (.int k (k.wrap (m - n))) :=
  fun a ha w dst pos af g => by simp [execOp, ha.eval hx, ha.eval hy, eqGuard_sub, binOp_sub, Op.intArith]
theorem y_mul {x y : Operand} {k : IntKind} {m n : Int} {t u : TypeId} (hx : ev env x = some (.int k m)) (hy : ev env y = some (.int k n)) : Yl P N D env (.binOp .mul t x y u) ty (.int k (k.wrap (m * n))) :=
  fun a ha w dst pos af g => by simp [execOp, ha.eval hx, ha.eval hy, eqGuard_mul, binOp_mul, Op.intArith]
theorem y_and {x y : Operand} {k : IntKind} {m n : Int} {t u : TypeId} (hx : ev env x = some (.int k m)) (hy : ev env y = some (.int k n)) : Yl P N D env (.binOp .and t x y u) ty (.int k (bits .and k m n)) :=
  fun a ha w dst pos af g => by simp [execOp, ha.eval hx, ha.eval hy, eqGuard_and, binOp_and, intBits_and]
theorem y_or {x y : Operand} {k : IntKind} {m n : Int} {t u : TypeId} (hx : ev env x = some (.int k m)) (hy : ev env y = some (.int k n)) : Yl P N D env (.binOp .or t x y u) ty (.int k (bits .or k m n)) :=
  fun a ha w dst pos af g => by simp [execOp, ha.eval hx, ha.eval hy, eqGuard_or, binOp_or, intBits_or]
theorem y_xor {x y : Operand} {k : IntKind} {m n : Int} {t u : TypeId} (hx : ev env x = some (.int k m)) (hy : ev env y = some (.int k n)) : Yl P N D env (.binOp .xor t x y u) ty (.int k (bits .xor k m n)) :=
  fun a ha w dst pos af g => by simp [execOp, ha.eval hx, ha.eval hy, eqGuard_xor, binOp_xor, intBits_xor]
theorem y_eqli {x y : Operand} {k : IntKind} {m n : Int} {t u : TypeId} (hx : ev env x = some (.int k m)) (hy : ev env y = some (.int k n)) : Yl P N D env (.binOp .eql t x y u) ty (.bool (m == n)) :=
  fun a ha w dst pos af g => by simp [execOp, ha.eval hx, ha.eval hy, eqGuard_at_int, binOp_eql]
theorem y_neqi {x y : Operand} {k : IntKind} {m n : Int} {t u : TypeId} (hx : ev env x = some (.int k m)) (hy : ev env y = some (.int k n)) : Yl P N D env (.binOp .neq t x y u) ty (.bool (m != n)) :=
  fun a ha w dst pos af g => by simp [execOp, ha.eval hx, ha.eval hy, eqGuard_at_int, binOp_neq]
theorem y_lssi {x y : Operand} {k : IntKind} {m n : Int} {t u : TypeId} (hx : ev env x = some (.int k m)) (hy : ev env y = some (.int k n)) : Yl P N D env (.binOp .lss t x y u) ty (.bool (decide (m < n))) :=
  fun a ha w dst pos af g => by simp [execOp, ha.eval hx, ha.eval hy, eqGuard_lss, binOp_lss]
theorem y_leqi {x y : Operand} {k : IntKind} {m n : Int} {t u : TypeId} (hx : ev env x = some (.int k m)) (hy : ev env y = some (.int k n)) : Yl P N D env (.binOp .leq t x y u) ty (.bool (decide (m ≤ n))) :=
  fun a ha w dst pos af g => by simp [execOp, ha.eval hx, ha.eval hy, eqGuard_leq, binOp_leq]
theorem y_gtri {x y : Operand} {k : IntKind} {m n : Int} {t u : TypeId} (hx : ev env x = some (.int k m)) (hy : ev env y = some (.int k n)) : Yl P N D env (.binOp .gtr t x y u) ty (.bool (decide (n < m))) :=
  fun a ha w dst pos af g => by simp [execOp, ha.eval hx, ha.eval hy, eqGuard_gtr, binOp_gtr]
theorem y_geqi {x y : Operand} {k : IntKind} {m n : Int} {t u : TypeId} (hx : ev env x = some (.int k m)) (hy : ev env y = some (.int k n)) : Yl P N D env (.binOp .geq t x y u) ty (.bool (decide (n ≤ m))) :=
  fun a ha w dst pos af g => by simp [execOp, ha.eval hx, ha.eval hy, eqGuard_geq, binOp_geq]
theorem y_shl {x y : Operand} {k k' : IntKind} {m n : Int} {t u : TypeId} (hx : ev env x = some (.int k m)) (hy : ev env y = some (.int k' n)) (h0 : 0 ≤ n) (h1 : n ≤ k.bits) : Yl P N D env (.binOp .shl t x y u) ty (.int k (k.wrap (m * 2 ^ n.toNat))) :=
  fun a ha w dst pos af g => by simp [execOp, ha.eval hx, ha.eval hy, eqGuard_shl, binOp_shl, shift_shl k k' m n h0 h1]
theorem y_shr {x y : Operand} {k k' : IntKind} {m n : Int} {t u : TypeId} (hx : ev env x = some (.int k m)) (hy : ev env y = some (.int k' n)) (h0 : 0 ≤ n) (h1 : n ≤ k.bits) : Yl P N D env (.binOp .shr t x y u) ty (.int k (m / 2 ^ n.toNat)) :=
  fun a ha w dst pos af g => by simp [execOp, ha.eval hx, ha.eval hy, eqGuard_shr, binOp_shr, shift_shr k k' m n h0 h1]
theorem y_quo {x y : Operand} {k : IntKind} {m n : Int} {t u : TypeId} (hx : ev env x = some (.int k m)) (hy : ev env y = some (.int k n)) (h0 : n ≠ 0) : Yl P N D env (.binOp .quo t x y u) ty (.int k (k.wrap (m.tdiv n))) :=
  fun a ha w dst pos af g => by simp [execOp, ha.eval hx, ha.eval hy, eqGuard_quo, binOp_quo, Op.intDiv, h0]
theorem y_rem {x y : Operand} {k : IntKind} {m n : Int} {t u : TypeId} (hx : ev env x = some (.int k m)) (hy : ev env y = some (.int k n)) (h0 : n ≠ 0) : Yl P N D env (.binOp .rem t x y u) ty (.int k (m.tmod n)) :=
  fun a ha w dst pos af g => by simp [execOp, ha.eval hx, ha.eval hy, eqGuard_rem, binOp_rem, Op.intDiv, h0]
theorem wrap_i64 (n : Int) (h0 : -9223372036854775808 ≤ n) (h1 : n ≤ 9223372036854775807) : IntKind.i64.wrap n = n := by rw [IntKind.wrap_i64]; omega
theorem wrap_u64 (n : Int) (h0 : 0 ≤ n) (h1 : n ≤ 18446744073709551615) : IntKind.u64.wrap n = n := by rw [IntKind.wrap_u64]; omega
theorem wrap_u8 (n : Int) (h0 : 0 ≤ n) (h1 : n ≤ 255) : IntKind.u8.wrap n = n := by rw [IntKind.wrap_u8]; omega
theorem y_eq {op : Op} {v v' : Value} (h : Yl P N D env op ty v) (e : v = v') : Yl P N D env op ty v' := e ▸ h
theorem y_addI {x y : Operand} {m n : Int} {t u : TypeId} (hx : ev env x = some (.int .i64 m)) (hy : ev env y = some (.int .i64 n)) (h0 : -9223372036854775808 ≤ m + n) (h1 : m + n ≤ 9223372036854775807) : Yl P N D env (.binOp .add t x y u) ty (.int .i64 (m + n)) :=
  y_eq (y_add hx hy) (by rw [wrap_i64 _ h0 h1])
theorem y_subI {x y : Operand} {m n : Int} {t u : TypeId} (hx : ev env x = some (.int .i64 m)) (hy : ev env y = some (.int .i64 n)) (h0 : -9223372036854775808 ≤ m - n) (h1 : m - n ≤ 9223372036854775807) : Yl P N D env (.binOp .sub t x y u) ty (.int .i64 (m - n)) :=
  y_eq (y_sub hx hy) (by rw [wrap_i64 _ h0 h1])
theorem y_mulI {x y : Operand} {m n : Int} {t u : TypeId} (hx : ev env x = some (.int .i64 m)) (hy : ev env y = some (.int .i64 n)) (h0 : -9223372036854775808 ≤ m * n) (h1 : m * n ≤ 9223372036854775807) : Yl P N D env (.binOp .mul t x y u) ty (.int .i64 (m * n)) :=
  y_eq (y_mul hx hy) (by rw [wrap_i64 _ h0 h1])
theorem y_neg {x : Operand} {k : IntKind} {n : Int} {t : TypeId} (hx : ev env x = some (.int k n)) : Yl P N D env (.unOp .neg t x) ty (.int k (k.wrap (-n))) := fun a ha w dst pos af g => by
  simp [execOp, ha.eval hx, Op.unary, Op.intArith]
/-- a number of another kind -/
theorem y_convi {x : Operand} {k k' : IntKind} {n : Int} {s t : TypeId} {u : TypeDesc} (hu : P.underlying s = some u) (ht : P.underlying t = some (.int k)) (hx : ev env x = some (.int k' n)) : Yl P N D env (.convert s t x) ty (.int k (k.wrap n)) := fun a ha w dst pos af g => by
  simp [execOp, ha.eval hx, convert, run_underlying hu, run_underlying ht, Conv.intToInt]
theorem y_convf {x : Operand} {k : FloatKind} {k' : IntKind} {n : Int} {s t : TypeId} {u : TypeDesc} (hu : P.underlying s = some u) (ht : P.underlying t = some (.float k)) (hx : ev env x = some (.int k' n)) : Yl P N D env (.convert s t x) ty (.float k (k.nearest n)) := fun a ha w dst pos af g => by
  simp [execOp, ha.eval hx, convert, run_underlying hu, run_underlying ht, Conv.intToFloat]

/-! ### bools -/
theorem run_equalIn_bool {t : TypeId} (ht : P.underlying t = some .bool) (m n : Bool) (w : World) : (Op.equalIn Op.maxDepth t (.bool m) (.bool n)).run P w = .ok (m == n) w := by
  show (Op.equalIn (9999 + 1) t (.bool m) (.bool n)).run P w = _
  unfold Op.equalIn
  simp [run_underlying ht]
theorem y_not {x : Operand} {b : Bool} {t : TypeId} (hx : ev env x = some (.bool b)) : Yl P N D env (.unOp .not t x) ty (.bool (!b)) := fun a ha w dst pos af g => by simp [execOp, ha.eval hx, Op.unary]
theorem y_eqlb {x y : Operand} {m n : Bool} {t u : TypeId} (ht : P.underlying t = some .bool) (hx : ev env x = some (.bool m)) (hy : ev env y = some (.bool n)) : Yl P N D env (.binOp .eql t x y u) ty (.bool (m == n)) := fun a ha w dst pos af g => by
  simp [execOp, ha.eval hx, ha.eval hy, eqGuard_at_bool, binOp, Op.equal, run_equalIn_bool ht]
theorem y_neqb {x y : Operand} {m n : Bool} {t u : TypeId} (ht : P.underlying t = some .bool) (hx : ev env x = some (.bool m)) (hy : ev env y = some (.bool n)) : Yl P N D env (.binOp .neq t x y u) ty (.bool (m != n)) := fun a ha w dst pos af g => by
  simp [execOp, ha.eval hx, ha.eval hy, eqGuard_at_bool, binOp, Op.equal, run_equalIn_bool ht, bne]

/-! ### floats -/
theorem y_eqlf {x y : Operand} {k : FloatKind} {m n : Nat} {t u : TypeId} (hx : ev env x = some (.float k m)) (hy : ev env y = some (.float k n)) : Yl P N D env (.binOp .eql t x y u) ty (.bool (k.format.order m n == some .eq)) :=
  fun a ha w dst pos af g => by simp [execOp, ha.eval hx, ha.eval hy, eqGuard_at_float, binOp, Op.floatCmp]
theorem y_neqf {x y : Operand} {k : FloatKind} {m n : Nat} {t u : TypeId} (hx : ev env x = some (.float k m)) (hy : ev env y = some (.float k n)) : Yl P N D env (.binOp .neq t x y u) ty (.bool (k.format.order m n != some .eq)) :=
  fun a ha w dst pos af g => by simp [execOp, ha.eval hx, ha.eval hy, eqGuard_at_float, binOp, Op.floatCmp]
theorem y_lssf {x y : Operand} {k : FloatKind} {m n : Nat} {t u : TypeId} (hx : ev env x = some (.float k m)) (hy : ev env y = some (.float k n)) : Yl P N D env (.binOp .lss t x y u) ty (.bool (k.format.order m n == some .lt)) :=
  fun a ha w dst pos af g => by simp [execOp, ha.eval hx, ha.eval hy, eqGuard_at_float, binOp, Op.floatCmp]
theorem y_gtrf {x y : Operand} {k : FloatKind} {m n : Nat} {t u : TypeId} (hx : ev env x = some (.float k m)) (hy : ev env y = some (.float k n)) : Yl P N D env (.binOp .gtr t x y u) ty (.bool (k.format.order m n == some .gt)) :=
  fun a ha w dst pos af g => by simp [execOp, ha.eval hx, ha.eval hy, eqGuard_at_float, binOp, Op.floatCmp]
theorem y_leqf {x y : Operand} {k : FloatKind} {m n : Nat} {t u : TypeId} (hx : ev env x = some (.float k m)) (hy : ev env y = some (.float k n)) : Yl P N D env (.binOp .leq t x y u) ty (.bool (k.format.order m n == some .lt || k.format.order m n == some .eq)) :=
  fun a ha w dst pos af g => by simp [execOp, ha.eval hx, ha.eval hy, eqGuard_at_float, binOp, Op.floatCmp]
theorem y_geqf {x y : Operand} {k : FloatKind} {m n : Nat} {t u : TypeId} (hx : ev env x = some (.float k m)) (hy : ev env y = some (.float k n)) : Yl P N D env (.binOp .geq t x y u) ty (.bool (k.format.order m n == some .gt || k.format.order m n == some .eq)) :=
  fun a ha w dst pos af g => by simp [execOp, ha.eval hx, ha.eval hy, eqGuard_at_float, binOp, Op.floatCmp]

/-! ### texts -/
theorem toList_str (l : List UInt8) : (⟨l.toArray⟩ : ByteArray).toList = l := by rw [Lib.toList_data]
theorem size_str (l : List UInt8) : (⟨l.toArray⟩ : ByteArray).size = l.length := by rw [Lib.size_eq]
theorem y_eqls {x y : Operand} {m n : List UInt8} {t u : TypeId} (hx : ev env x = some (str m)) (hy : ev env y = some (str n)) : Yl P N D env (.binOp .eql t x y u) ty (.bool (m == n)) := fun a ha w dst pos af g => by
  simp [execOp, ha.eval hx, ha.eval hy, str, eqGuard_at_string, binOp, Op.stringOp, toList_str]
theorem y_neqs {x y : Operand} {m n : List UInt8} {t u : TypeId} (hx : ev env x = some (str m)) (hy : ev env y = some (str n)) : Yl P N D env (.binOp .neq t x y u) ty (.bool (m != n)) := fun a ha w dst pos af g => by
  simp [execOp, ha.eval hx, ha.eval hy, str, eqGuard_at_string, binOp, Op.stringOp, toList_str, bne]
theorem y_lsss {x y : Operand} {m n : List UInt8} {t u : TypeId} (hx : ev env x = some (str m)) (hy : ev env y = some (str n)) : Yl P N D env (.binOp .lss t x y u) ty (.bool (Op.bytesLess m n)) := fun a ha w dst pos af g => by
  simp [execOp, ha.eval hx, ha.eval hy, str, eqGuard_at_string, binOp, Op.stringOp, toList_str]
theorem y_geqs {x y : Operand} {m n : List UInt8} {t u : TypeId} (hx : ev env x = some (str m)) (hy : ev env y = some (str n)) : Yl P N D env (.binOp .geq t x y u) ty (.bool (!Op.bytesLess m n)) := fun a ha w dst pos af g => by
  simp [execOp, ha.eval hx, ha.eval hy, str, eqGuard_at_string, binOp, Op.stringOp, toList_str]
theorem y_gtrs {x y : Operand} {m n : List UInt8} {t u : TypeId} (hx : ev env x = some (str m)) (hy : ev env y = some (str n)) : Yl P N D env (.binOp .gtr t x y u) ty (.bool (!(Op.bytesLess m n || m == n))) := fun a ha w dst pos af g => by
  simp [execOp, ha.eval hx, ha.eval hy, str, eqGuard_at_string, binOp, Op.stringOp, toList_str]
theorem str_append (m n : List UInt8) : (⟨m.toArray⟩ : ByteArray) ++ ⟨n.toArray⟩ = ⟨(m ++ n).toArray⟩ := by
  apply ByteArray.ext; simp
theorem y_adds {x y : Operand} {m n : List UInt8} {t u : TypeId} (hx : ev env x = some (str m)) (hy : ev env y = some (str n)) (hl : m.length + n.length ≤ 9223372036854775807) : Yl P N D env (.binOp .add t x y u) ty (str (m ++ n)) := fun a ha w dst pos af g => by
  have h1 : ¬ (((m.length + n.length : Nat) : Int) > IntKind.i64.max) := by
    have : IntKind.i64.max = 9223372036854775807 := by decide
    omega
  simp only [execOp, ha.eval hx, ha.eval hy, str, eqGuard_add, binOp, Op.stringOp, size_str, str_append, if_neg h1]
  simp
/-- len -/
theorem y_lens {x : Operand} {l : List UInt8} {t : TypeId} (ht : P.underlying t = some .string) (hl : l.length ≤ 9223372036854775807) (hx : ev env x = some (str l)) : Yl P N D env (.call ⟨.builtin .len, #[x], #[t]⟩) ty (.int .i64 l.length) := fun a ha w dst pos af g => by
  simp [execOp, resolve, invoke, builtin, Builtin.len_, ha.eval hx, str, run_underlying ht, size_str, goInt]
theorem y_lenl {x : Operand} {A : Option Addr} {n c : Nat} {t e : TypeId} (ht : P.underlying t = some (.slice e)) (hl : n ≤ 9223372036854775807) (hx : ev env x = some (.slice A n c)) : Yl P N D env (.call ⟨.builtin .len, #[x], #[t]⟩) ty (.int .i64 n) := fun a ha w dst pos af g => by
  simp [execOp, resolve, invoke, builtin, Builtin.len_, ha.eval hx, run_underlying ht, goInt]
theorem y_min {x y : Operand} {k : IntKind} {m n : Int} {t u : TypeId} (hx : ev env x = some (.int k m)) (hy : ev env y = some (.int k n)) : Yl P N D env (.call ⟨.builtin .min, #[x, y], #[t, u]⟩) ty (.int k (min m n)) := fun a ha w dst pos af g => by
  simp [execOp, resolve, invoke, builtin, Builtin.min_, Builtin.min2, ha.eval hx, ha.eval hy]
  omega

theorem y_max {x y : Operand} {k : IntKind} {m n : Int} {t u : TypeId} (hx : ev env x = some (.int k m)) (hy : ev env y = some (.int k n)) : Yl P N D env (.call ⟨.builtin .max, #[x, y], #[t, u]⟩) ty (.int k (max m n)) := fun a ha w dst pos af g => by
  simp [execOp, resolve, invoke, builtin, Builtin.max_, Builtin.max2, ha.eval hx, ha.eval hy]
  omega

/-- s[i] -/
theorem y_indexs {x i : Operand} {l : List UInt8} {k : IntKind} {n : Int} {t : TypeId} (ht : P.underlying t = some .string) (hx : ev env x = some (str l)) (hi : ev env i = some (.int k n)) (h0 : 0 ≤ n) (h1 : n < l.length) : Yl P N D env (.index t x i) ty (.int .u8 (l.getD n.toNat 0).toNat) := fun a ha w dst pos af g => by
  have hlt : n.toNat < l.length := by omega
  have hg : (⟨l.toArray⟩ : ByteArray)[n.toNat]? = some (l.getD n.toNat 0) := by
    have hs : n.toNat < (⟨l.toArray⟩ : ByteArray).size := by rw [size_str]; exact hlt
    have h1 : (⟨l.toArray⟩ : ByteArray)[n.toNat]? = some ((⟨l.toArray⟩ : ByteArray)[n.toNat]'hs) := by
      show (if h : n.toNat < (⟨l.toArray⟩ : ByteArray).size then _ else _) = _
      rw [dif_pos hs]
    rw [h1]
    have h2 : l.getD n.toNat 0 = l[n.toNat] := by simp [List.getD, hlt]
    rw [h2]; rfl
  simp [execOp, Instr.index, ha.eval hx, ha.eval hi, str, asIntOf, run_underlying ht, h0, hg]
/-- s[lo:hi] -/
theorem extract_str (l : List UInt8) (a b : Nat) : (⟨l.toArray⟩ : ByteArray).extract a b = ⟨((l.take b).drop a).toArray⟩ := by
  rw [Lib.extract_eq]
  simp [List.drop_take]
theorem run_sliceBound {k : IntKind} {i : Int} {y : Nat} {c : BoundsCode} (h0 : 0 ≤ i) (h1 : i ≤ y) (w : World) : (Instr.sliceBound (.int k i) y c).run P w = .ok i.toNat w := by
  simp [Instr.sliceBound, asIntOf, h0, h1]
theorem y_slices {x i j : Operand} {l : List UInt8} {k k' : IntKind} {m n : Int} {t : TypeId} (ht : P.underlying t = some .string) (hx : ev env x = some (str l)) (hi : ev env i = some (.int k m)) (hj : ev env j = some (.int k' n)) (h0 : 0 ≤ m) (h1 : m ≤ n) (h2 : n ≤ l.length) : Yl P N D env (.slice t x (some i) (some j) none) ty (str ((l.take n.toNat).drop m.toNat)) := fun a ha w dst pos af g => by
  have h3 : m ≤ (n.toNat : Int) := by omega
  have h4 : 0 ≤ n := by omega
  simp [execOp, Instr.sliceAt, Instr.slice, Instr.sliceBounds, ha.eval hx, ha.eval hi, ha.eval hj, str, run_underlying ht, size_str, run_sliceBound h0 h3, run_sliceBound h4 h2, extract_str]
theorem y_slicesL {x i : Operand} {l : List UInt8} {k : IntKind} {m : Int} {t : TypeId} (ht : P.underlying t = some .string) (hx : ev env x = some (str l)) (hi : ev env i = some (.int k m)) (h0 : 0 ≤ m) (h1 : m ≤ l.length) : Yl P N D env (.slice t x (some i) none none) ty (str (l.drop m.toNat)) := fun a ha w dst pos af g => by
  have h2 : (l.take l.length).drop m.toNat = l.drop m.toNat := by rw [List.take_length]
  simp [execOp, Instr.sliceAt, Instr.slice, Instr.sliceBounds, Instr.sliceBound, ha.eval hx, ha.eval hi, str, asIntOf, run_underlying ht, size_str, h0, h1, extract_str, h2]
theorem y_slicesH {x j : Operand} {l : List UInt8} {k : IntKind} {n : Int} {t : TypeId} (ht : P.underlying t = some .string) (hx : ev env x = some (str l)) (hj : ev env j = some (.int k n)) (h0 : 0 ≤ n) (h2 : n ≤ l.length) : Yl P N D env (.slice t x none (some j) none) ty (str (l.take n.toNat)) := fun a ha w dst pos af g => by
  simp [execOp, Instr.sliceAt, Instr.slice, Instr.sliceBounds, Instr.sliceBound, ha.eval hx, ha.eval hj, str, asIntOf, run_underlying ht, size_str, h0, h2, extract_str]

/-! ### structs as values -/
theorem y_field {x : Operand} {cs : Array Value} {t : TypeId} {i : Nat} {v : Value} (hr : ∀ w, (Instr.field t (.agg cs) i).run P w = .ok v w) (hx : ev env x = some (.agg cs)) : Yl P N D env (.field t x i) ty v := fun a ha w dst pos af g => by
  simp [execOp, ha.eval hx, hr]
theorem y_extract {x : Operand} {vs : Array Value} {i : Nat} {v : Value} (hx : ev env x = some (.tuple vs)) (hv : vs[i]? = some v) : Yl P N D env (.extract x i) ty v := fun a ha w dst pos af g => by
  simp [execOp, ha.eval hx, Instr.extract, hv]
theorem y_makeFunc {fn : Fn} {l c : Array Operand} {vl vc : List Value} (hl : evs env l.toList = some vl) (hc : evs env c.toList = some vc) : Yl P N D env (.makeFunc fn l c) ty (.func fn vl.toArray vc.toArray) := fun a ha w dst pos af g => by
  have h1 : l.map a.eval = vl.toArray := evs_arr ha hl
  have h2 : c.map a.eval = vc.toArray := evs_arr ha hc
  simp [execOp, Instr.makeFunc, h1, h2]

theorem y_build {t : TypeId} {parts : Array (Nat × Operand)} {ps : List (Nat × Value)} {v : Value} (hr : ∀ w, (Instr.build t ps.toArray).run P w = .ok v w) (hp : evp env parts.toList = some ps) : Yl P N D env (.build t parts) ty v := fun a ha w dst pos af g => by
  have := evp_arr ha hp
  simp [execOp, this, hr]
theorem y_convs {x : Operand} {l : List UInt8} {s t : TypeId} {u : TypeDesc} (hu : P.underlying s = some u) (ht : P.underlying t = some .string) (hx : ev env x = some (str l)) : Yl P N D env (.convert s t x) ty (str l) := fun a ha w dst pos af g => by
  simp [execOp, ha.eval hx, str, convert, run_underlying hu, run_underlying ht]
theorem int_eq {k : IntKind} {m n : Int} (h : m = n) : Value.int k m = Value.int k n := by rw [h]
theorem str_eq {l m : List UInt8} (h : l = m) : str l = str m := by rw [h]
theorem bool_eq {l m : Bool} (h : l = m) : Value.bool l = Value.bool m := by rw [h]
/-! ### calls -/
/-- a function that returns -/
def Ret (P : Program) (f : FuncId) (args : List Value) (w : World) (R : Value → World → Prop) : Prop := Calls P f args.toArray w fun e w' => ∃ v, e = .returned v ∧ R v w'
theorem Ret.mono {f : FuncId} {args : List Value} {R R' : Value → World → Prop} (h : Ret P f args w R) (hr : ∀ v w', R v w' → R' v w') : Ret P f args w R' :=
  Calls.mono h fun _ _ ⟨v, e, hv⟩ => ⟨v, e, hr v _ hv⟩
/-- a function that has a text -/
def Txt (P : Program) (f : FuncId) : Prop := ∃ fn, P.funcs[f]? = some fn ∧ (fn.name == "runtime.NumGoroutine") = false ∧ fn.body.isNone = false
theorem run_callFunc {f : FuncId} (hf : Txt P f) (args : Array Value) (w : World) : (callFunc f args).run P w = .ok (.enter f args) w := by
  obtain ⟨fn, h1, h2, h3⟩ := hf
  have h4 : ¬ (fn.name = "runtime.NumGoroutine") := by simpa using h2
  have h5 : ¬ (fn.body = Option.none) := by intro e; rw [e] at h3; cases h3
  simp [callFunc, h1, h4, h5]
theorem Wl.callR {x : Operand} {f : FuncId} {xs : Array Operand} {ts : Array TypeId} {l c : Array Value} {vs : List Value} {R : Ending → World → Prop} (hf : Txt P f) (hx : ev env x = some (.func (.func f) l c)) (hxs : evs env xs.toList = some vs)
    (hc : Calls P f (l ++ vs.toArray ++ c) w R) (hd : Nat.blt d N = true) (h : ∀ v w', R (.returned v) w' → Wl P ops Q rest N D ((d, v) :: env) w') (hp : ∀ p w', R (.panicked p) w' → Wq Q (.panic p) N D env w') (ho : ∀ w', ¬ R .outgrown w') :
    Wl P ops Q (⟨some d, .call ⟨.value x, xs, ts⟩, ty, pos, af, none⟩ :: rest) N D env w := fun a ha => by
  unfold wpList
  simp only [Region.wanted, if_true]
  refine .inl ?_
  have hargs : xs.map a.eval = vs.toArray := evs_arr ha hxs
  unfold Oper.wp
  simp only [execOp, resolve, ha.eval hx, hargs, Deferred.ofValue, Sem.run_bind, Sem.run_pure, Result.andThen_ok, invoke, run_callFunc hf, Oper.upon_enter]
  refine hc.mono fun e w' hR => ?_
  cases e with
  | returned v => exact h v w' hR _ (ha.put hd v)
  | panicked p => exact hp p w' hR _ ha
  | outgrown => exact absurd hR (ho w')
theorem Wl.call {x : Operand} {f : FuncId} {xs : Array Operand} {ts : Array TypeId} {l c : Array Value} {vs : List Value} {R : Value → World → Prop} (hf : Txt P f) (hx : ev env x = some (.func (.func f) l c)) (hxs : evs env xs.toList = some vs)
    (hc : Ret P f (l.toList ++ vs ++ c.toList) w R) (hd : Nat.blt d N = true) (h : ∀ v w', R v w' → Wl P ops Q rest N D ((d, v) :: env) w') :
    Wl P ops Q (⟨some d, .call ⟨.value x, xs, ts⟩, ty, pos, af, none⟩ :: rest) N D env w :=
  Wl.callR hf hx hxs (R := fun e w' => ∃ v, e = .returned v ∧ R v w') (by
    have h1 : (l.toList ++ vs ++ c.toList).toArray = l ++ vs.toArray ++ c := by simp
    unfold Ret at hc
    rw [h1] at hc; exact hc) hd (fun v w' ⟨u, e, hu⟩ => by cases e; exact h _ w' hu) (fun p w' ⟨u, e, hu⟩ => by cases e) (fun w' ⟨u, e, hu⟩ => by cases e)
/-- a function without a text of its own -/
theorem y_ext {x : Operand} {f : FuncId} {xs : Array Operand} {ts : Array TypeId} {vs : List Value} {v : Value} (hr : ∀ w, (callFunc f vs.toArray).run P w = .ok (.value v) w) (hx : ev env x = some (.func (.func f) #[] #[])) (hxs : evs env xs.toList = some vs) : Yl P N D env (.call ⟨.value x, xs, ts⟩) ty v := fun a ha w dst pos af g => by
  have hargs : xs.map a.eval = vs.toArray := evs_arr ha hxs
  simp [execOp, resolve, ha.eval hx, hargs, Deferred.ofValue, invoke, hr]
end
end Go.Bw
