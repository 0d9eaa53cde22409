/- One lemma an operation: floats, bits, library functions that have no text. -/
import Derived.Test.YtcljmclolpgdmaaGreatDoorAny
import Derived.Test.YtcljmclolpgdmaaGreatDoorFloatM
import Derived.Laws.Externs
import Derived.Laws.FloatArith
import Derived.Laws.BitsAllLaws
import GoSem.Extern.MathFloor
import GoSem.Extern.MathFloatBits
namespace Go.Bw
open Go.RowKit
set_option linter.unusedVariables false
set_option linter.unusedSimpArgs false

section
variable {P : Program} {N : Nat} {D : List Deferred} {env env' : Env} {a : Act} {w w' : World} {Q : Exit → Act → World → Prop}
variable {ops : Array Oper} {rest : List Oper} {d : Nat} {op : Op} {ty : TypeId} {pos : String} {af : Array Edge}

/-- a function that has no text: E says what it does -/
def Extn (P : Program) (f : FuncId) (E : Array Value → Sem Value) : Prop := ∀ (args : Array Value) (w : World), (callFunc f args).run P w = ((E args).run P w).andThen fun v w' => .ok (.value v) w'
theorem y_extV {x : Operand} {f : FuncId} {xs : Array Operand} {ts : Array TypeId} {vs : List Value} {v : Value} {E : Array Value → Sem Value} (he : Extn P f E) (hx : ev env x = some (.func (.func f) #[] #[])) (hxs : evs env xs.toList = some vs) (hv : ∀ w, (E vs.toArray).run P w = .ok v w) : Yl P N D env (.call ⟨.value x, xs, ts⟩) ty v :=
  y_ext (fun w => by rw [he, hv w]; rfl) hx hxs
theorem y_f2b {x : Operand} {f : FuncId} {y : Operand} {ts : Array TypeId} {b : Nat} (he : Extn P f Extern.MathFloatBits.float64bits) (hx : ev env x = some (.func (.func f) #[] #[])) (hy : evs env [y] = some [.float .f64 b]) : Yl P N D env (.call ⟨.value x, #[y], ts⟩) ty (.int .u64 b) :=
  y_extV he hx hy (fun w => rfl)
theorem y_b2f {x : Operand} {f : FuncId} {y : Operand} {ts : Array TypeId} {n : Int} (he : Extn P f Extern.MathFloatBits.float64frombits) (hx : ev env x = some (.func (.func f) #[] #[])) (hy : evs env [y] = some [.int .u64 n]) : Yl P N D env (.call ⟨.value x, #[y], ts⟩) ty (.float .f64 n.toNat) :=
  y_extV he hx hy (fun w => rfl)
theorem y_floor {x : Operand} {f : FuncId} {y : Operand} {ts : Array TypeId} {b : Nat} (he : Extn P f (Extern.MathFloor.toIntegral "math.archFloor" .down)) (hx : ev env x = some (.func (.func f) #[] #[])) (hy : evs env [y] = some [.float .f64 b]) (hn : Fl.isNan b = false) : Yl P N D env (.call ⟨.value x, #[y], ts⟩) ty (.float .f64 (floorW b)) :=
  y_extV he hx hy (fun w => by
    have hr : FloatKind.f64.decode b = Ieee.double.read b := rfl
    have h1 : ∀ s t, Ieee.double.read b ≠ .nan s t := fun s t e => by
      by_cases h : Fl.rung b < 9218868437227405312
      · obtain ⟨m, k, h2, _⟩ := Fl.read_fin h; rw [h2] at e; cases e
      · have h3 : Fl.rung b ≤ 9218868437227405312 := by simpa [Fl.isNan, Fl.rung] using hn
        rw [Fl.read_inf (by omega)] at e; cases e
    show (match FloatKind.f64.decode b with | .nan s t => _ | d => _ : Sem Value).run P w = _
    rw [hr]
    unfold floorW
    cases hd : Ieee.double.read b with
    | nan s t => exact absurd hd (h1 s t)
    | number s m i => rfl
    | infinity s => rfl)

/-! ### arithmetic -/
theorem y_mulf {x y : Operand} {k : FloatKind} {m n r : Nat} {t u : TypeId} (hx : ev env x = some (.float k m)) (hy : ev env y = some (.float k n)) (h : floatBits .mul k m n = some r) : Yl P N D env (.binOp .mul t x y u) ty (.float k r) := fun a ha w dst pos af g => by
  simp [execOp, ha.eval hx, ha.eval hy, eqGuard_mul, run_float_arith w .mul t k m n r h]
theorem y_addf {x y : Operand} {k : FloatKind} {m n r : Nat} {t u : TypeId} (hx : ev env x = some (.float k m)) (hy : ev env y = some (.float k n)) (h : floatBits .add k m n = some r) : Yl P N D env (.binOp .add t x y u) ty (.float k r) := fun a ha w dst pos af g => by
  simp [execOp, ha.eval hx, ha.eval hy, eqGuard_add, run_float_arith w .add t k m n r h]
theorem y_subf {x y : Operand} {k : FloatKind} {m n r : Nat} {t u : TypeId} (hx : ev env x = some (.float k m)) (hy : ev env y = some (.float k n)) (h : floatBits .sub k m n = some r) : Yl P N D env (.binOp .sub t x y u) ty (.float k r) := fun a ha w dst pos af g => by
  simp [execOp, ha.eval hx, ha.eval hy, eqGuard_sub, run_float_arith w .sub t k m n r h]
theorem y_negf {x : Operand} {b : Nat} {t : TypeId} (hx : ev env x = some (.float .f64 b)) : Yl P N D env (.unOp .neg t x) ty (.float .f64 (b ^^^ 9223372036854775808)) := fun a ha w dst pos af g => by
  have : Op.negFloat .f64 b = b ^^^ 9223372036854775808 := rfl
  simp [execOp, ha.eval hx, Op.unary, this]
theorem y_negi {x : Operand} {k : IntKind} {n : Int} {t : TypeId} (hx : ev env x = some (.int k n)) : Yl P N D env (.unOp .neg t x) ty (.int k (k.wrap (0 - n))) := fun a ha w dst pos af g => by
  simp [execOp, ha.eval hx, Op.unary, Op.intArith]
theorem y_noti {x : Operand} {k : IntKind} {n : Int} {t : TypeId} (hx : ev env x = some (.int k n)) : Yl P N D env (.unOp .xor t x) ty (.int k (bits .xor k (if k.signed then -1 else k.max) n)) := fun a ha w dst pos af g => by
  simp [execOp, ha.eval hx, Op.unary, intBits_xor]
theorem y_andNot {x y : Operand} {k : IntKind} {m n : Int} {t u : TypeId} (hx : ev env x = some (.int k m)) (hy : ev env y = some (.int k n)) : Yl P N D env (.binOp .andNot t x y u) ty (.int k (bits .andNot k m n)) := fun a ha w dst pos af g => by
  simp [execOp, ha.eval hx, ha.eval hy, eqGuard_andNot, binOp_andNot, intBits_andNot]
theorem y_f2i {x : Operand} {s : FloatKind} {k : IntKind} {b : Nat} {n : Int} {t u : TypeId} (hs : (P.underlying t).isSome = true) (hd : P.underlying u = some (.int k)) (hx : ev env x = some (.float s b)) (h : floatToIntVal s b k = some n) : Yl P N D env (.convert t u x) ty (.int k n) := fun a ha w dst pos af g => by
  simp [execOp, ha.eval hx, run_convert_float_int w t u s k b n hs hd h]
theorem y_i2f {x : Operand} {k : IntKind} {s : FloatKind} {n : Int} {t u : TypeId} (ht : P.underlying t = some (.int k)) (hu : P.underlying u = some (.float s)) (hx : ev env x = some (.int k n)) : Yl P N D env (.convert t u x) ty (.float s (s.nearest n)) := y_convf ht hu hx
/-- an operation whose answer may be a nan: some nan -/
theorem nanBits_nan (t : Nat) (x y : Nat) : Fl.isNan (Question.cut (.nanBits .f64 x y) t) = true := by
  show Fl.isNan ((t % 2) * 2 ^ 63 + 0x7ff0000000000000 + 1 + (t / 2) % (2 ^ 52 - 1)) = true
  unfold Fl.isNan
  have h1 : (t / 2) % (2 ^ 52 - 1) < 2 ^ 52 - 1 := Nat.mod_lt _ (by decide)
  have h2 : t % 2 < 2 := Nat.mod_lt _ (by decide)
  generalize (t / 2) % (2 ^ 52 - 1) = p at *
  generalize t % 2 = q at *
  simp only [decide_eq_true_eq]
  have : q = 0 ∨ q = 1 := by omega
  rcases this with rfl | rfl <;> omega
theorem nanBits_lt (t : Nat) (x y : Nat) : Question.cut (.nanBits .f64 x y) t < 18446744073709551616 := by
  show (t % 2) * 2 ^ 63 + 0x7ff0000000000000 + 1 + (t / 2) % (2 ^ 52 - 1) < 18446744073709551616
  have h1 : (t / 2) % (2 ^ 52 - 1) < 2 ^ 52 - 1 := Nat.mod_lt _ (by decide)
  have h2 : t % 2 < 2 := Nat.mod_lt _ (by decide)
  generalize (t / 2) % (2 ^ 52 - 1) = p at *
  generalize t % 2 = q at *
  have : q = 0 ∨ q = 1 := by omega
  rcases this with rfl | rfl <;> omega
theorem Wl.arithf {x y : Operand} {b : BinOp} {m n : Nat} {t u : TypeId} (hb : b = .add ∨ b = .sub ∨ b = .mul) (hx : ev env x = some (.float .f64 m)) (hy : ev env y = some (.float .f64 n)) (hd : Nat.blt d N = true)
    (h : ∀ r w', Below w.heap.size w w' → ((floatBits b .f64 m n = some r ∨ (floatBits b .f64 m n = none ∧ Fl.isNan r = true)) ∧ r < 18446744073709551616) → Wl P ops Q rest N D ((d, .float .f64 r) :: env) w') :
    Wl P ops Q (⟨some d, .binOp b t x y u, ty, pos, af, none⟩ :: rest) N D env w := by
  cases hf : floatBits b .f64 m n with
  | some r =>
    refine Wl.m (w' := w) (fun a ha dst pos af g => ?_) hd (h r w (Below.refl _ _) ⟨.inl hf, by simpa [Lit.wf] using floatBits_wf hf⟩)
    rcases hb with rfl | rfl | rfl
    · exact y_addf hx hy hf a ha w dst pos af g
    · exact y_subf hx hy hf a ha w dst pos af g
    · exact y_mulf hx hy hf a ha w dst pos af g
  | none =>
    refine Wl.m (w' := w.drew) (v := .float .f64 (Question.cut (.nanBits .f64 m n) (w.tape w.drawn (.nanBits .f64 m n)))) (fun a ha dst pos af g => ?_) hd (h _ w.drew (Below.refl _ _).drew ⟨.inr ⟨hf, nanBits_nan _ _ _⟩, nanBits_lt _ _ _⟩)
    unfold floatBits at hf
    rcases hb with rfl | rfl | rfl <;> simp only at hf <;> simp [execOp, ha.eval hx, ha.eval hy, eqGuard_add, eqGuard_sub, eqGuard_mul, binOp, Op.floatArith, hf, Question.forced] <;> rfl
end
end Go.Bw
