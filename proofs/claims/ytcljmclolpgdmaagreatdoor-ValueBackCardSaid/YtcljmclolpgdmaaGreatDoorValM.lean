/- Plain: values, how they are in order, what holds of them, how they are reckoned with. -/
import Derived.Test.YtcljmclolpgdmaaGreatDoorOrdM
import Derived.Test.YtcljmclolpgdmaaGreatDoorOrdA
namespace Go.Proofs.YtcljmclolpgdmaaGreatDoor
open Go.RowKit Go.Bw Go.Bw.Fl
set_option linter.unusedVariables false
set_option linter.unusedSimpArgs false

structure Val where
  k : Int
  n : Int
  f : Nat
  s : List UInt8
def Val.cells (v : Val) : List Value := [.int .i64 v.k, .int .i64 v.n, .float .f64 v.f, str v.s]
def Val.enc (v : Val) : Value := .agg v.cells.toArray
/-- what fits its type -/
structure Val.Ok (v : Val) : Prop where
  n0 : -9223372036854775808 ≤ v.n
  n1 : v.n ≤ 9223372036854775807
  f1 : v.f < 18446744073709551616
def nullV : Val := ⟨0, 0, 0, []⟩
def truthV (t : Bool) : Val := ⟨1, if t = true then 1 else 0, 0, []⟩
def rightV (v : Val) : Bool :=
  if v.k = 0 then decide (v.n = 0 ∧ v.f = 0 ∧ v.s = [])
  else if v.k = 1 then decide ((v.n = 0 ∨ v.n = 1) ∧ v.f = 0 ∧ v.s = [])
  else if v.k = 2 then decide (v.f = 0 ∧ v.s = [])
  else if v.k = 3 then decide (v.n = 0 ∧ v.s = [] ∧ canon v.f = v.f)
  else if v.k = 4 then decide (v.n = 0 ∧ v.f = 0) else false
def sameV (a b : Val) : Bool := decide (a.k = b.k ∧ a.n = b.n ∧ keyW a.f = keyW b.f ∧ a.s = b.s)
def orI : List Int → Int
  | [] => 0
  | x :: r => if x = 0 then orI r else x
def lessV (a b : Val) : Bool := decide (orI [cmpI a.k b.k, cmpI a.n b.n, cmpI (keyW a.f) (keyW b.f), cmpS a.s b.s] < 0)
def numV (v : Val) : Bool := decide (v.k = 2 ∨ v.k = 3)
def agV (n : Int) (f : Nat) : Int := if isNan f = true then 0 else agI n f
def againstV (a b : Val) : Int :=
  if a.k = 2 ∧ b.k = 3 then agV a.n b.f
  else if a.k = 3 ∧ b.k = 2 then -agV b.n a.f
  else if a.k = 3 then cmpF a.f b.f
  else if a.k = 4 then cmpS a.s b.s
  else cmpI a.n b.n
def knownV (a b : Val) : Bool :=
  if a.k = 2 ∧ b.k = 3 then !isNan b.f
  else if a.k = 3 ∧ b.k = 2 then !isNan a.f
  else if a.k = 3 then !isNan a.f && !isNan b.f
  else true
def holdsV (op : List UInt8) (c : Int) : Option Bool :=
  if op = [61] then some (c == 0) else if op = [60, 62] then some (c != 0) else if op = [60] then some (decide (c < 0))
  else if op = [60, 61] then some (decide (c ≤ 0)) else if op = [62] then some (decide (c > 0)) else if op = [62, 61] then some (decide (c ≥ 0)) else none
def testV (op : List UInt8) (a b : Val) : Val × Int :=
  if (holdsV op 0).isNone = true ∨ rightV a = false ∨ rightV b = false then (nullV, 1)
  else if a.k = 0 ∨ b.k = 0 then (nullV, 0)
  else if a.k ≠ b.k ∧ (numV a = false ∨ numV b = false) then (nullV, 4)
  else if knownV a b = false then (truthV (decide (op = [60, 62])), 0)
  else (truthV ((holdsV op (againstV a b)).getD false), 0)
def exactV (op : List UInt8) (a b : Int) : Int := if op = [43] then a + b else if op = [45] then a - b else a * b
def fitsI (x : Int) : Bool := decide (-9223372036854775808 ≤ x ∧ x ≤ 9223372036854775807)
def fop (b : BinOp) (m n : Nat) : Nat := canon ((floatBits b .f64 m n).getD 9221120237041090561)
def floatV (op : List UInt8) (x y : Nat) : Nat := if op = [43] then fop .add x y else if op = [45] then fop .sub x y else fop .mul x y
def wideV (v : Val) : Nat := if v.k = 2 then FloatKind.f64.nearest v.n else v.f
def arithV (op : List UInt8) : Bool := decide (op = [43] ∨ op = [45] ∨ op = [42])
def reckonV (op : List UInt8) (a b : Val) : Val × Int :=
  if arithV op = false ∨ rightV a = false ∨ rightV b = false then (nullV, 1)
  else if a.k = 0 ∨ b.k = 0 then (nullV, 0)
  else if numV a = false ∨ numV b = false then (nullV, 4)
  else if a.k = 2 ∧ b.k = 2 then (if fitsI (exactV op a.n b.n) = true then (⟨2, exactV op a.n b.n, 0, []⟩, 0) else (nullV, 7))
  else (⟨3, 0, floatV op (wideV a) (wideV b), []⟩, 0)
theorem fop_of {b : BinOp} {m n r : Nat} (h : floatBits b .f64 m n = some r ∨ (floatBits b .f64 m n = none ∧ isNan r = true)) : canon r = fop b m n := by
  unfold fop
  rcases h with h | ⟨h, hn⟩
  · rw [h]; rfl
  · rw [h]; show canon r = canon 9221120237041090561
    unfold canon; rw [if_pos hn, if_pos (by decide)]
theorem fop_lt (b : BinOp) (m n : Nat) : fop b m n < 18446744073709551616 := by
  unfold fop
  refine canon_lt ?_
  cases h : floatBits b .f64 m n with
  | none => decide
  | some r =>
    have := floatBits_wf h
    simpa [Lit.wf] using this
theorem canon_idem (b : Nat) : canon (canon b) = canon b := by
  unfold canon; split
  · rw [if_pos (by decide)]
  · rfl
end Go.Proofs.YtcljmclolpgdmaaGreatDoor
