/- Plain: how a query is parsed. · Package parse, by the calculus: tokens that are left. · Package parse, by the calculus: trees in memory; within; brackets. · strings.ToLower of an ASCII text. -/
import Derived.Test.YtjnabgddjogkbaaGreatDoorZL
import Derived.Test.YtjnabgddjogkbaaGreatDoorZA
import Derived.Test.YtjnabgddjogkbaaGreatDoorZT
namespace Go.Proofs.YtjnabgddjogkbaaGreatDoor
open Go.RowKit Go.Bw Go.Bw.Fl
set_option linter.unusedVariables false
set_option linter.unusedSimpArgs false
inductive ExprD
  | mk (k : Int) (nm : List UInt8) (v : Val) (kids : List ExprD)
inductive PatD
  | mk (k : Int) (var : List UInt8) (dir : Int) (label wh : ExprD) (mn mx : Int) (kids : List PatD)
structure QryD where
  mode : Int
  sel : Int
  kk : Int
  pat : PatD
def noE : ExprD := .mk 0 [] nullV []
def noP : PatD := .mk 0 [] 0 noE noE 0 0 []
inductive Res (α : Type)
  | ok (x : α) (r : List Tok)
  | err (a e : Int)
def nextT (en : Nat) : List Tok → Tok
  | [] => ⟨0, [], en⟩
  | t :: _ => t
def isT (en : Nat) (xs : List (List UInt8)) (ts : List Tok) : Bool := decide (((nextT en ts).k = 2 ∨ (nextT en ts).k = 5) ∧ (nextT en ts).t ∈ xs)
def pKind (en k : Nat) (ts : List Tok) : Res Tok := if (nextT en ts).k = k then .ok (nextT en ts) ts.tail else .err (nextT en ts).a 2
def pText (en : Nat) (s : List UInt8) (ts : List Tok) : Res Tok := if isT en [s] ts = true then .ok (nextT en ts) ts.tail else .err (nextT en ts).a 2
/-- a text read whole -/
noncomputable def litV (s : List UInt8) : Option Val := match readV pf uqV s with
  | some (v, n) => if n = s.length then some v else none
  | none => none
noncomputable def pWhole (en : Nat) (at_ : Int) (ts : List Tok) : Res Int := match pKind en 3 ts with
  | .err a e => .err a e
  | .ok t r => match litV t.t with
    | some v => if v.k = 2 then .ok v.n r else .err at_ 2
    | none => .err at_ 2
abbrev Pe := List Tok → Res ExprD
def twoE (k : Int) (nm : List UInt8) (a b : ExprD) : ExprD := .mk k nm nullV [a, b]
def manyGo (en : Nat) (side : Pe) (made : List UInt8 → ExprD → ExprD → ExprD) (signs : List (List UInt8)) : Nat → ExprD → List Tok → Res ExprD
  | 0, x, ts => .ok x ts
  | n + 1, x, ts => if isT en signs ts = true then match side ts.tail with
      | .ok y r => manyGo en side made signs n (made (nextT en ts).t x y) r
      | .err a e => .err a e
    else .ok x ts
def pMany (en : Nat) (side : Pe) (made : List UInt8 → ExprD → ExprD → ExprD) (signs : List (List UInt8)) (ts : List Tok) : Res ExprD := match side ts with
  | .ok x r => manyGo en side made signs r.length x r
  | .err a e => .err a e
def cntS (en : Nat) (s : List UInt8) : List Tok → Nat × List Tok
  | [] => (0, [])
  | t :: r => if isT en [s] (t :: r) = true then ((cntS en s r).1 + 1, (cntS en s r).2) else (0, t :: r)
def wrapN (k : Int) (nm : List UInt8) : Nat → ExprD → ExprD
  | 0, x => x
  | n + 1, x => wrapN k nm n (.mk k nm nullV [x])
def pTurned (en : Nat) (sign : List UInt8) (side : Pe) (k : Int) (nm : List UInt8) (ts : List Tok) : Res ExprD := match side (cntS en sign ts).2 with
  | .ok x r => .ok (wrapN k nm (cntS en sign ts).1 x) r
  | .err a e => .err a e
def pBracket (en b : Nat) (one : Nat → Pe) (ts : List Tok) : Res ExprD := match pText en [40] ts with
  | .err a e => .err a e
  | .ok t r => if 50 ≤ b then .err t.a 6 else match one (b + 1) r with
    | .err a e => .err a e
    | .ok x r2 => match pText en [41] r2 with
      | .err a e => .err a e
      | .ok _ r3 => .ok x r3
def pLabel (en b : Nat) (knot : Nat → Pe) (ts : List Tok) : Res ExprD :=
  if isT en [[40]] ts = true then pBracket en b knot ts
  else if isT en [[37]] ts = true then .ok (.mk 5 [] nullV []) ts.tail
  else match pKind en 1 ts with
    | .err a e => .err a e
    | .ok t r => .ok (.mk 4 t.t nullV []) r
def pLabelsF (en b : Nat) (knot : Nat → Pe) : Pe := pMany en (pMany en (pTurned en [33] (pLabel en b knot) 6 []) (fun _ => twoE 7 []) [[38]]) (fun _ => twoE 8 []) [[124]]
def pLabels (en : Nat) : Nat → Nat → Pe
  | 0, _ => fun _ => .err 0 0
  | n + 1, b => pLabelsF en b (pLabels en n)
/-- small letters of a sign -/
def lowerV (s : List UInt8) : List UInt8 := s.map fun c => if 65 ≤ c.toNat ∧ c.toNat ≤ 90 then c + 32 else c
def opE (s : List UInt8) (a b : ExprD) : ExprD := twoE 3 (lowerV s) a b
noncomputable def pLit (s : List UInt8) (at_ : Int) (r : List Tok) : Res ExprD := match litV s with
  | some v => .ok (.mk 1 [] v []) r
  | none => .err at_ 2
def wNot : List UInt8 := [78, 79, 84]
def wOr : List UInt8 := [79, 82]
def wAnd : List UInt8 := [65, 78, 68]
def wIs : List UInt8 := [73, 83]
def wNan : List UInt8 := [110, 97, 110]
def wInf : List UInt8 := [105, 110, 102]
noncomputable def pNum (en : Nat) (sign : List UInt8) (ts : List Tok) : Res ExprD :=
  if (nextT en ts).k ≠ 3 ∧ isT en [wInf] ts = false then .err (nextT en ts).a 2 else pLit (sign ++ (nextT en ts).t) (nextT en ts).a ts.tail
noncomputable def pAtom (en b : Nat) (knot : Nat → Pe) (ts : List Tok) : Res ExprD :=
  if (nextT en ts).k = 1 then .ok (.mk 2 (nextT en ts).t nullV []) ts.tail
  else if isT en [[40]] ts = true then pBracket en b knot ts
  else if (nextT en ts).k = 4 ∨ isT en [wNull, wTrue, wFalse, wNan] ts = true then pLit (nextT en ts).t (nextT en ts).a ts.tail
  else if isT en [[45]] ts = true then pNum en (nextT en ts).t ts.tail else pNum en [] ts
noncomputable def pProd (en b : Nat) (knot : Nat → Pe) : Pe := pMany en (pAtom en b knot) opE [[42]]
noncomputable def pSum (en b : Nat) (knot : Nat → Pe) : Pe := pMany en (pProd en b knot) opE [[43], [45]]
def cmpSigns : List (List UInt8) := [[61], [60, 62], [60], [60, 61], [62], [62, 61]]
def wNullE : List UInt8 := [105, 115, 110, 117, 108, 108]
noncomputable def pTest (en b : Nat) (knot : Nat → Pe) (ts : List Tok) : Res ExprD := match pSum en b knot ts with
  | .err a e => .err a e
  | .ok x r => if isT en cmpSigns r = true then match pSum en b knot r.tail with
      | .err a e => .err a e
      | .ok y r2 => .ok (opE (nextT en r).t x y) r2
    else if isT en [wIs] r = true then match pText en wNull r.tail with
      | .err a e => .err a e
      | .ok _ r2 => .ok (.mk 3 wNullE nullV [x]) r2
    else .ok x r
noncomputable def pExprF (en b : Nat) (knot : Nat → Pe) : Pe := pMany en (pMany en (pTurned en wNot (pTest en b knot) 3 [110, 111, 116]) opE [wAnd]) opE [wOr]
noncomputable def pExpr (en : Nat) : Nat → Nat → Pe
  | 0, _ => fun _ => .err 0 0
  | n + 1, b => pExprF en b (pExpr en n)
/-! ### patterns -/
def wWhere : List UInt8 := [87, 72, 69, 82, 69]
noncomputable def pFillW (en n : Nat) (k : Int) (var : List UInt8) (label : ExprD) (ts : List Tok) : Res PatD :=
  if isT en [wWhere] ts = true then match pExpr en n 0 ts.tail with
    | .err a e => .err a e
    | .ok x r => .ok (.mk k var 0 label x 0 0 []) r
  else .ok (.mk k var 0 label noE 0 0 []) ts
noncomputable def pFillL (en n : Nat) (k : Int) (var : List UInt8) (ts : List Tok) : Res PatD :=
  if isT en [[58]] ts = true then match pLabels en n 0 ts.tail with
    | .err a e => .err a e
    | .ok x r => pFillW en n k var x r
  else pFillW en n k var noE ts
noncomputable def pFill (en n : Nat) (k : Int) (ts : List Tok) : Res PatD :=
  if (nextT en ts).k = 1 then pFillL en n k (nextT en ts).t ts.tail else pFillL en n k [] ts
def endsKV (o : List UInt8) : List (List UInt8 × Int) :=
  if o = [45, 91] then [([93, 45, 62], 4), ([93, 45], 7)] else if o = [60, 45, 91] then [([93, 45], 1), ([93, 45, 62], 5)]
  else if o = [126, 91] then [([93, 126], 2), ([93, 126, 62], 6)] else if o = [60, 126, 91] then [([93, 126], 3)] else []
def shortV (s : List UInt8) : Int :=
  if s = [45, 62] then 4 else if s = [60, 45] then 1 else if s = [126] then 2 else if s = [60, 45, 62] then 5 else if s = [60, 126] then 3 else if s = [126, 62] then 6 else if s = [45] then 7 else 0
def beginsT (en : Nat) (ts : List Tok) : Bool := isT en [[40], [91]] ts || decide ((nextT en ts).k = 5 ∧ (endsKV (nextT en ts).t ≠ [] ∨ 0 < shortV (nextT en ts).t))
def dirOf (o c : List UInt8) : Option Int := ((endsKV o).find? (fun p => p.1 == c)).map (·.2)
def PatD.setDir (d : Int) : PatD → PatD
  | .mk k var _ l w mn mx kids => .mk k var d l w mn mx kids
noncomputable def pPrimary (en n g : Nat) (knot : Nat → List Tok → Res PatD) (ts : List Tok) : Res PatD :=
  if beginsT en ts = false then .err (nextT en ts).a 2
  else if (nextT en ts).t = [40] then match pFill en n 1 ts.tail with
    | .err a e => .err a e
    | .ok x r => match pText en [41] r with
      | .err a e => .err a e
      | .ok _ r2 => .ok x r2
  else if (nextT en ts).t = [91] then if 50 ≤ g then .err (nextT en ts).a 6 else match knot (g + 1) ts.tail with
    | .err a e => .err a e
    | .ok x r => match pText en [93] r with
      | .err a e => .err a e
      | .ok _ r2 => .ok x r2
  else if 0 < shortV (nextT en ts).t then .ok (.mk 2 [] (shortV (nextT en ts).t) noE noE 0 0 []) ts.tail
  else match pFill en n 2 ts.tail with
    | .err a e => .err a e
    | .ok x r => match dirOf (nextT en ts).t (nextT en r).t with
      | none => .err (nextT en r).a 2
      | some d => if (nextT en r).k = 5 then .ok (x.setDir d) r.tail else .err (nextT en r).a 2
def timesOk (at_ : Int) (mn mx : Int) (r : List Tok) : Res (Option (Int × Int)) :=
  if (0 ≤ mx ∧ mx < mn) ∨ mx = 0 then .err at_ 2 else if 20 < max mn mx then .err at_ 6 else .ok (some (mn, mx)) r
noncomputable def pTimes (en : Nat) (ts : List Tok) : Res (Option (Int × Int)) :=
  if isT en [[42], [43], [63], [123]] ts = false then .ok none ts
  else if (nextT en ts).t = [42] then .ok (some (0, -1)) ts.tail
  else if (nextT en ts).t = [43] then .ok (some (1, -1)) ts.tail
  else if (nextT en ts).t = [63] then .ok (some (0, 1)) ts.tail
  else match pWhole en (nextT en ts).a ts.tail with
    | .err a e => .err a e
    | .ok mn r =>
      match (if isT en [[44]] r = true then (if isT en [[125]] r.tail = true then Res.ok (-1) r.tail else pWhole en (nextT en ts).a r.tail) else Res.ok mn r) with
      | .err a e => .err a e
      | .ok mx r2 => match pText en [125] r2 with
        | .err a e => .err a e
        | .ok _ r3 => timesOk (nextT en ts).a mn mx r3
noncomputable def pItem (en n g : Nat) (knot : Nat → List Tok → Res PatD) (ts : List Tok) : Res PatD := match pPrimary en n g knot ts with
  | .err a e => .err a e
  | .ok x r => match pTimes en r with
    | .err a e => .err a e
    | .ok none r2 => .ok x r2
    | .ok (some (mn, mx)) r2 => .ok (.mk 5 [] 0 noE noE mn mx [x]) r2
def someP (k : Int) : List PatD → PatD
  | [x] => x
  | l => .mk k [] 0 noE noE 0 0 l
/-- one behind the other, while something tells that one follows -/
def rowGo (go : List Tok → Option (List Tok)) (one : List Tok → Res PatD) : Nat → List PatD → List Tok → Res (List PatD)
  | 0, l, ts => .ok l ts
  | n + 1, l, ts => match go ts with
    | none => .ok l ts
    | some ts' => match one ts' with
      | .err a e => .err a e
      | .ok x r => rowGo go one n (l ++ [x]) r
def pRow (k : Int) (go : List Tok → Option (List Tok)) (one : List Tok → Res PatD) (ts : List Tok) : Res PatD := match one ts with
  | .err a e => .err a e
  | .ok x r => match rowGo go one r.length [x] r with
    | .err a e => .err a e
    | .ok l r2 => .ok (someP k l) r2
noncomputable def pBranch (en n g : Nat) (knot : Nat → List Tok → Res PatD) : List Tok → Res PatD := pRow 3 (fun ts => if beginsT en ts = true then some ts else none) (pItem en n g knot)
noncomputable def pPatF (en n g : Nat) (knot : Nat → List Tok → Res PatD) : List Tok → Res PatD := pRow 4 (fun ts => if isT en [[124]] ts = true then some ts.tail else none) (pBranch en n g knot)
/-- m: how deep expressions, n: how deep patterns may recur -/
noncomputable def pPat (en m : Nat) : Nat → Nat → List Tok → Res PatD
  | 0, _ => fun _ => .err 0 0
  | n + 1, g => pPatF en m g (pPat en m n)
def modesV : List (List UInt8) := [[87, 65, 76, 75], [84, 82, 65, 73, 76], [65, 67, 89, 67, 76, 73, 67], [83, 73, 77, 80, 76, 69]]
def modeOf (s : List UInt8) : Int := ((modesV.findIdx (· == s) : Nat) : Int)
def wAll : List UInt8 := [65, 76, 76]
def wAny : List UInt8 := [65, 78, 89]
def wShort : List UInt8 := [83, 72, 79, 82, 84, 69, 83, 84]
/-- the mode; what is selected, and how many -/
def pMode (en : Nat) (ts : List Tok) : Int × List Tok := if isT en modesV ts = true then (modeOf (nextT en ts).t, ts.tail) else (0, ts)
noncomputable def pSel (en : Nat) (ts : List Tok) : Res (Int × Int) :=
  if isT en [wAll] ts = true then (if isT en [wShort] ts.tail = true then .ok (2, 0) ts.tail.tail else .ok (0, 0) ts.tail)
  else if isT en [wAny] ts = true then .ok (1, 0) ts.tail
  else if isT en [wShort] ts = true then match pWhole en (nextT en ts.tail).a ts.tail with
    | .err a e => .err a e
    | .ok k r => if k < 1 then .err (nextT en ts.tail).a 2 else if 1000 < k then .err (nextT en ts.tail).a 6 else .ok (3, k) r
  else .ok (0, 0) ts
noncomputable def pQuery (en : Nat) (ts : List Tok) : Res QryD := match pSel en (pMode en ts).2 with
  | .err a e => .err a e
  | .ok sk r => match pPat en (ts.length + 1) (ts.length + 1) 0 r with
    | .err a e => .err a e
    | .ok x r2 => if 0 < r2.length then .err (nextT en r2).a 2 else .ok ⟨(pMode en ts).1, sk.1, sk.2, x⟩ r2
mutual
def deepE : ExprD → Nat
  | .mk _ _ _ kids => deepEs kids + 1
def deepEs : List ExprD → Nat
  | [] => 0
  | x :: r => max (deepE x) (deepEs r)
end
mutual
def deepP : PatD → Nat
  | .mk _ _ _ _ _ _ _ kids => deepPs kids + 1
def deepPs : List PatD → Nat
  | [] => 0
  | x :: r => max (deepP x) (deepPs r)
end
mutual
def tooDeep : PatD → Bool
  | .mk _ _ _ l w _ _ kids => decide (50 < deepE l) || decide (50 < deepE w) || tooDeeps kids
def tooDeeps : List PatD → Bool
  | [] => false
  | x :: r => tooDeep x || tooDeeps r
end
def noQ : QryD := ⟨0, 0, 0, noP⟩
/-- Parse: the query, the place, the error -/
noncomputable def parseT (en : Nat) (ts : List Tok) : QryD × Int × Int := match pQuery en ts with
  | .err a e => (noQ, a, e)
  | .ok q _ => if 50 < deepP q.pat ∨ tooDeep q.pat = true then (noQ, 0, 6) else (q, 0, 0)
noncomputable def parseV (s : List UInt8) : QryD × Int × Int := if 65536 < s.length then (noQ, 0, 6) else match lexV s 0 with
  | .error i => (noQ, (i : Int), 2)
  | .ok l => parseT s.length l
end Go.Proofs.YtjnabgddjogkbaaGreatDoor
namespace Go.Proofs.YtjnabgddjogkbaaGreatDoor
open Go.RowKit Go.Bw Go.Bw.Fl
set_option linter.unusedVariables false
set_option linter.unusedSimpArgs false
theorem fa25_0PsA (p : Addr) (w : World) : (Instr.fieldAt 25 (.pointer (some p)) 0).run Tryz.prog w = .ok (.pointer (some (p.add 0))) w := run_fieldAt (i := 0) (sz := 0) Tryz.underlying25 rfl (by kernel_rfl) p w
theorem fa25_1PsA (p : Addr) (w : World) : (Instr.fieldAt 25 (.pointer (some p)) 1).run Tryz.prog w = .ok (.pointer (some (p.add 1))) w := run_fieldAt (i := 1) (sz := 0) Tryz.underlying25 rfl (by kernel_rfl) p w
theorem fa43_0PsA (p : Addr) (w : World) : (Instr.fieldAt 43 (.pointer (some p)) 0).run Tryz.prog w = .ok (.pointer (some (p.add 0))) w := run_fieldAt (i := 0) (sz := 0) Tryz.underlying43 rfl (by kernel_rfl) p w
theorem fa43_1PsA (p : Addr) (w : World) : (Instr.fieldAt 43 (.pointer (some p)) 1).run Tryz.prog w = .ok (.pointer (some (p.add 1))) w := run_fieldAt (i := 1) (sz := 0) Tryz.underlying43 rfl (by kernel_rfl) p w
theorem fa58_0PsA (p : Addr) (w : World) : (Instr.fieldAt 58 (.pointer (some p)) 0).run Tryz.prog w = .ok (.pointer (some (p.add 0))) w := run_fieldAt (i := 0) (sz := 0) Tryz.underlying58 rfl (by kernel_rfl) p w
theorem fa58_1PsA (p : Addr) (w : World) : (Instr.fieldAt 58 (.pointer (some p)) 1).run Tryz.prog w = .ok (.pointer (some (p.add 1))) w := run_fieldAt (i := 1) (sz := 0) Tryz.underlying58 rfl (by kernel_rfl) p w
theorem fa60_0PsA (p : Addr) (w : World) : (Instr.fieldAt 60 (.pointer (some p)) 0).run Tryz.prog w = .ok (.pointer (some (p.add 0))) w := run_fieldAt (i := 0) (sz := 1) Tryz.underlying60 rfl (by kernel_rfl) p w
theorem one2PsA : One Tryz.prog 2 := ⟨_, Tryz.underlying2, rfl, by kernel_rfl⟩
theorem one3PsA : One Tryz.prog 3 := ⟨_, Tryz.underlying3, rfl, by kernel_rfl⟩
theorem one39PsA : One Tryz.prog 39 := ⟨_, Tryz.underlying39, rfl, by kernel_rfl⟩
theorem one9PsA : One Tryz.prog 9 := ⟨_, Tryz.underlying9, rfl, by kernel_rfl⟩
theorem sz43PsA : (Tryz.prog.info? 43).map (·.size) = some 3 := by kernel_rfl
theorem txt36PsA : Txt Tryz.prog 36 := ⟨_, Tryz.func36, by kernel_rfl, rfl⟩   -- (*bridleway/parse.row).is
theorem txt38PsA : Txt Tryz.prog 38 := ⟨_, Tryz.func38, by kernel_rfl, rfl⟩   -- (*bridleway/parse.parser).take
theorem txt39PsA : Txt Tryz.prog 39 := ⟨_, Tryz.func39, by kernel_rfl, rfl⟩   -- (*bridleway/parse.row).next
theorem txt42PsA : Txt Tryz.prog 42 := ⟨_, Tryz.func42, by kernel_rfl, rfl⟩   -- (*bridleway/parse.parser).fail
theorem txt56PsA : Txt Tryz.prog 56 := ⟨_, Tryz.func56, by kernel_rfl, rfl⟩   -- bridleway/value.Read
theorem txt57PsA : Txt Tryz.prog 57 := ⟨_, Tryz.func57, by kernel_rfl, rfl⟩   -- slices.Contains[[]string,string]
theorem txt65PsA : Txt Tryz.prog 65 := ⟨_, Tryz.func65, by kernel_rfl, rfl⟩   -- (*bridleway/parse.parser).kind
theorem var_kp {w w' : World} {p g : Nat} {nm : String} {cs : Array Value} (h : World.var? Tryz.prog w nm = some cs) (hk : Kp p w w') (hg : Tryz.prog.globalNamed nm = some g) (hn : g ≠ p) : World.var? Tryz.prog w' nm = some cs := by
  unfold World.var? at h ⊢
  rw [hg] at h ⊢
  simp only [Option.bind_some] at h ⊢
  have hl : g < w.heap.size := by
    rcases Nat.lt_or_ge g w.heap.size with h1 | h1
    · exact h1
    · rw [Array.getElem?_eq_none h1] at h; cases h
  rw [hk.block g hl (fun e => hn (Option.some.inj e))]; exact h
theorem gPowP : Tryz.prog.globalNamed "internal/strconv.uint64pow10" = some 6 := by kernel_rfl
theorem gSynP : Tryz.prog.globalNamed "strconv.ErrSyntax" = some 4 := by kernel_rfl
theorem gRngP : Tryz.prog.globalNamed "strconv.ErrRange" = some 5 := by kernel_rfl
/-- the library's variables lie ahead of block p -/
def Gl (p : Nat) : Prop := 6 < p ∧ 4 < p ∧ 5 < p
theorem Lb.kp {w w' : World} {p : Nat} (h : Lb w) (hk : Kp p w w') (hg : Gl p) : Lb w' :=
  ⟨var_kp h.tab hk gPowP (Nat.ne_of_lt hg.1), h.syn.elim fun tp h1 => h1.elim fun q h2 => ⟨tp, q, var_kp h2 hk gSynP (Nat.ne_of_lt hg.2.1)⟩, h.rng.elim fun tp h1 => h1.elim fun q h2 => ⟨tp, q, var_kp h2 hk gRngP (Nat.ne_of_lt hg.2.2)⟩⟩
theorem Gl.mono {p q : Nat} (h : Gl p) (hq : p ≤ q) : Gl q := ⟨by have := h.1; omega, by have := h.2.1; omega, by have := h.2.2; omega⟩
theorem Lb.gl {w : World} (h : Lb w) : Gl w.heap.size := by
  have key : ∀ {nm : String} {g : Nat} {cs : Array Value}, World.var? Tryz.prog w nm = some cs → Tryz.prog.globalNamed nm = some g → g < w.heap.size := fun {nm g cs} hv hg => by
    unfold World.var? at hv
    rw [hg] at hv
    simp only [Option.bind_some] at hv
    rcases Nat.lt_or_ge g w.heap.size with h1 | h1
    · exact h1
    · rw [Array.getElem?_eq_none h1] at hv; cases hv
  obtain ⟨_, _, h2⟩ := h.syn
  obtain ⟨_, _, h3⟩ := h.rng
  exact ⟨key h.tab gPowP, key h2 gSynP, key h3 gRngP⟩
/-- the parser at block p: what is left, how deep it is -/
structure PSt (w : World) (p en : Nat) (ts : List Tok) (g b : Nat) : Prop where
  ex : ∃ A c, ts.length ≤ c ∧ ts.length ≤ 65536 ∧ Blk w p 60 [.slice A ts.length c, .int .i64 (en : Int), .int .i64 (g : Int), .int .i64 (b : Int)] ∧ Rd w 3 A ts.length (ts.flatMap Tok.cells) ∧ ∀ q, A = some q → q.block < p
  lb : Lb w
  gl : Gl p
  tk : ∀ t ∈ ts, t.t.length ≤ 65536
theorem PSt.over {w w' : World} {p k en : Nat} {ts : List Tok} {g b : Nat} (h : PSt w p en ts g b) (hg : w.grownBy w' (some k)) (hk : p < k) : PSt w' p en ts g b := by
  obtain ⟨A, c, h1, h2, h3, h4, h5⟩ := h.ex
  exact ⟨⟨A, c, h1, h2, h3.over hg (by omega), h4.kp hg (fun q e => by have := h5 q e; omega), h5⟩, h.lb.kp hg (h.gl.mono (by omega)), h.gl, h.tk⟩
theorem PSt.below {w w' : World} {p en : Nat} {ts : List Tok} {g b : Nat} (h : PSt w p en ts g b) (hk : Below w.heap.size w w') : PSt w' p en ts g b := by
  obtain ⟨A, c, h1, h2, h3, h4, h5⟩ := h.ex
  exact ⟨⟨A, c, h1, h2, h3.below hk, h4.below hk, h5⟩, h.lb.below hk, h.gl, h.tk⟩
theorem PSt.lt {w : World} {p en : Nat} {ts : List Tok} {g b : Nat} (h : PSt w p en ts g b) : p < w.heap.size := by
  obtain ⟨A, c, h1, h2, h3, h4, h5⟩ := h.ex
  exact h3.lt
abbrev pptr (p : Nat) : Value := .pointer (some ⟨p, 0, none⟩)
/-- what is panicked with -/
def wch (a e : Int) : List PanicEntry := [{ v := .iface 54 (.agg #[.int .i64 a, .int .i64 e]), recovered := false }]
theorem outR {R : Value → World → Prop} {X : List PanicEntry → World → Prop} {v : Value} {w : World} (h : R v w) : OutE R X (.returned v) w := h
theorem outX {R : Value → World → Prop} {X : List PanicEntry → World → Prop} {c : List PanicEntry} {w : World} (h : X c w) : OutE R X (.panicked c) w := h
theorem next_r (p en : Nat) (ts : List Tok) (g b : Nat) (w : World) (hP : PSt w p en ts g b) : Ret Tryz.prog 39 [pptr p] w fun v w' => v = (nextT en ts).enc ∧ Below w.heap.size w w' := by
  obtain ⟨A, c, h1, h2, hPb, hPr, h5⟩ := hP.ex
  have hb := Below.refl w.heap.size w
  have hPb_hb := hPb
  have hPr_hb := hPr
  refine enter Tryz.func39 rfl rfl rfl ?_
  refine Wc.seq fun _ hK_1 => Wc.region ?_
  refine Wl.allocN (z := (.agg #[(.int .i64 0), (str []), (.int .i64 0)])) (by kernel_rfl) rfl ?_
  rintro g_o0 w_o0 hg_o0 hn_o0 hs_o0
  have hz_o0 := hs_o0.size
  have hb := hb.trans (hs_o0.mono hb.size)
  have hPb := hPb_hb.below hb
  have hPr := hPr_hb.below hb
  have hB_o0 := hn_o0
  have hl_o0 := hB_o0.lt
  refine Wl.nil <| Wq.next hK_1 <| Wc.seq fun _ hK_3 => Wc.seq fun _ hK_4 => Wc.region <| Wl.mv rfl rfl <| Wl.y (y_nilCheck rfl) rfl ?_
  refine Wl.y (y_fieldAddr (fa58_0PsA _) rfl) rfl ?_
  refine Wl.l (l_load one39PsA rfl (by exact hPb.at (j := 0) rfl)) rfl ?_
  refine Wl.y (y_lenl Tryz.underlying39 (by omega) rfl) rfl ?_
  refine Wl.y (y_eqli rfl rfl) rfl <| Wl.nil <| Wq.next hK_4 ?_
  refine Wc.cond rfl (fun c0_11 => ?_) (fun c0_11 => ?_)
  ·
   have c0_11_ := c0_11
   try simp only [DZ] at c0_11
   have hnil : ts = [] := List.length_eq_zero_iff.1 (by have := c0_11; omega)
   refine Wc.seq fun _ hK_12 => Wc.region <| Wl.mv rfl rfl <| Wl.y (y_nilCheck rfl) rfl ?_
   refine Wl.y (y_fieldAddr (fa58_1PsA _) rfl) rfl ?_
   refine Wl.l (l_load one3PsA rfl (by exact hPb.at (j := 1) rfl)) rfl ?_
   refine Wl.y (y_buildS (z := [(.int .i64 0), (str []), (.int .i64 0)]) (pl := [(0, 1), (1, 1), (2, 1)]) (cs := [_, _, _]) Tryz.underlying43 (by kernel_rfl) (by kernel_rfl) rfl rfl rfl) rfl ?_
   refine Wl.storeS (by kernel_rfl) rfl rfl hB_o0 rfl rfl ?_
   rintro w_s0 hn_s0 hg_s0
   have hz_s0 := hg_s0.size
   have hb := below_blk hb hg_s0 hb.size (by omega)
   have hPb := hPb_hb.below hb
   have hPr := hPr_hb.below hb
   have hB_o0 := hn_s0
   refine Wl.nil <| Wq.next hK_12 <| Wc.ret <| Wq.then_ret ?_
   refine retN (rs := [.cell 2 43]) (vs := [_]) rfl (.cell rfl (loadS Tryz.underlying43 (by kernel_rfl) (fun j u hu => hB_o0.at hu)) .nil) ?_
   exact ⟨_, rfl, by rw [hnil]; rfl, hb⟩
  have c0_11_ := c0_11
  try simp only [DZ] at c0_11
  obtain ⟨t, r, hcons⟩ : ∃ t r, ts = t :: r := by
    cases hts : ts with
    | nil => have := c0_11; rw [hts] at this; exact absurd rfl this
    | cons t r => exact ⟨t, r, rfl⟩
  have hlen : 0 < ts.length := by rw [hcons]; simp
  obtain ⟨p_, hpe, hcell⟩ := Rd.tok hPr hlen
  subst hpe
  have ht0 : ts[0] = t := by simp [hcons]
  rw [ht0] at hcell
  refine Wc.skip <| Wq.next hK_3 <| Wc.seq fun _ hK_18 => Wc.region <| Wl.mv rfl rfl <| Wl.y (y_nilCheck rfl) rfl ?_
  refine Wl.y (y_fieldAddr (fa58_0PsA _) rfl) rfl ?_
  refine Wl.l (l_load one39PsA rfl (by exact hPb.at (j := 0) rfl)) rfl ?_
  refine Wl.y (y_indexAddr Tryz.underlying39 sz43PsA rfl rfl (by omega) (by omega)) rfl ?_
  refine Wl.l (l_loadS Tryz.underlying43 (by kernel_rfl) rfl (by exact fun j u hu => hcell j u hu)) rfl ?_
  refine Wl.storeS (by kernel_rfl) rfl rfl hB_o0 rfl rfl ?_
  rintro w_s1 hn_s1 hg_s1
  have hz_s1 := hg_s1.size
  have hb := below_blk hb hg_s1 hb.size (by omega)
  have hPb := hPb_hb.below hb
  have hPr := hPr_hb.below hb
  have hB_o0 := hn_s1
  refine Wl.nil <| Wq.next hK_18 <| Wc.ret ?_
  refine retN (rs := [.cell 2 43]) (vs := [_]) rfl (.cell rfl (loadS Tryz.underlying43 (by kernel_rfl) (fun j u hu => hB_o0.at hu)) .nil) ?_
  exact ⟨_, rfl, by rw [hcons]; rfl, hb⟩
theorem isT_ne {en : Nat} {xs : List (List UInt8)} {ts : List Tok} (h : isT en xs ts = true) : ts ≠ [] := fun e => by
  subst e
  have := of_decide_eq_true h
  rcases this.1 with h | h <;> cases h
theorem is_r (p en : Nat) (ts : List Tok) (g b : Nat) (A : Option Addr) (c : Nat) (xs : List (List UInt8)) (hx : xs.length ≤ 1000) (w : World) (hP : PSt w p en ts g b) (hR : Rd w 1 A xs.length (strs xs)) : Ret Tryz.prog 36 [pptr p, .slice A xs.length c] w fun v w' => v = .bool (isT en xs ts) ∧ Below w.heap.size w w' := by
  obtain ⟨t, htk⟩ : ∃ t, t = nextT en ts := ⟨_, rfl⟩
  have hb := Below.refl w.heap.size w
  have hP_hb := hP
  have hR_hb := hR
  refine enter Tryz.func36 rfl rfl rfl ?_
  refine Wc.seq fun _ hK_1 => Wc.region <| Wl.sg rfl rfl <| Wl.nil <| Wq.next hK_1 <| Wc.seq fun _ hK_3 => Wc.region <| Wl.mv rfl rfl ?_
  refine Wl.call txt39PsA rfl rfl (next_r p en ts g b _ hP) rfl ?_
  rintro _ w_k0 ⟨rfl, hs_k0⟩
  have hz_k0 := hs_k0.size
  have hb := hb.trans (hs_k0.mono hb.size)
  have hP := hP_hb.below hb
  have hR := hR_hb.below hb
  refine Wl.allocN (z := (.agg #[(.int .i64 0), (str []), (.int .i64 0)])) (by kernel_rfl) rfl ?_
  rintro g_o2 w_o2 hg_o2 hn_o2 hs_o2
  have hz_o2 := hs_o2.size
  have hb := hb.trans (hs_o2.mono hb.size)
  have hP := hP_hb.below hb
  have hR := hR_hb.below hb
  have hB_o2 := hn_o2
  have hl_o2 := hB_o2.lt
  rw [← htk]
  refine Wl.storeS (by kernel_rfl) rfl rfl hB_o2 rfl rfl ?_
  rintro w_s0 hn_s0 hg_s0
  have hz_s0 := hg_s0.size
  have hb := below_blk hb hg_s0 hb.size (by omega)
  have hP := hP_hb.below hb
  have hR := hR_hb.below hb
  have hB_o2 := hn_s0
  refine Wl.nil <| Wq.next hK_3 <| Wc.seq fun _ hK_7 => Wc.region ?_
  refine Wl.y (y_fieldAddr (fa43_0PsA _) rfl) rfl ?_
  refine Wl.l (l_load one3PsA rfl (by exact hB_o2.at (j := 0) rfl)) rfl ?_
  refine Wl.y (y_eqli rfl rfl) rfl <| Wl.mv rfl rfl ?_
  refine Wl.guardF rfl rfl rfl (fun g_12 => ?_) (fun g_12 => ?_)
  ·
   have g_12_ := g_12
   try simp only [DZ] at g_12
   refine Wl.off' rfl rfl g_12_ rfl rfl <| Wl.off' rfl rfl g_12_ rfl rfl ?_
   refine Wl.y (y_pickT rfl g_12_ rfl) rfl ?_
   refine Wl.mv rfl rfl <| Wl.on' rfl rfl rfl <| Wl.mv rfl rfl <| Wl.on' rfl rfl rfl ?_
   refine Wl.y (y_fieldAddr (fa43_1PsA _) rfl) rfl ?_
   refine Wl.on' rfl rfl rfl ?_
   refine Wl.l (l_load one9PsA rfl (by exact hB_o2.at (j := 1) rfl)) rfl ?_
   refine Wl.on' rfl rfl rfl ?_
   refine Wl.call txt57PsA rfl rfl (SContains_r A c xs t.t (by omega) _ hR) rfl ?_
   rintro _ w_k1 ⟨rfl, hs_k1⟩
   have hz_k1 := hs_k1.size
   have hb := hb.trans (hs_k1.mono hb.size)
   have hP := hP_hb.below hb
   have hR := hR_hb.below hb
   refine Wl.y (y_pickT rfl rfl rfl) rfl <| Wl.sg rfl rfl <| Wl.nil <| Wq.next hK_7 <| Wc.ret ?_
   refine ret1 rfl rfl ?_
   first | exact ⟨_, rfl, bool_eq (by unfold isT; rw [← htk, Bool.eq_iff_iff]; simp_all <;> omega), hb⟩
  have g_12_ := g_12
  try simp only [DZ] at g_12
  refine Wl.y (y_fieldAddr (fa43_0PsA _) rfl) rfl ?_
  refine Wl.on' rfl rfl g_12_ ?_
  refine Wl.l (l_load one3PsA rfl (by exact hB_o2.at (j := 0) rfl)) rfl ?_
  refine Wl.on' rfl rfl g_12_ <| Wl.y (y_eqli rfl rfl) rfl ?_
  refine Wl.y (y_pickF rfl g_12_ rfl) rfl ?_
  refine Wl.mv rfl rfl ?_
  refine Wl.guardT rfl rfl rfl (fun g_26 => ?_) (fun g_26 => ?_)
  ·
   have g_26_ := g_26
   try simp only [DZ] at g_26
   refine Wl.mv rfl rfl <| Wl.on' rfl rfl g_26_ ?_
   refine Wl.y (y_fieldAddr (fa43_1PsA _) rfl) rfl ?_
   refine Wl.on' rfl rfl g_26_ ?_
   refine Wl.l (l_load one9PsA rfl (by exact hB_o2.at (j := 1) rfl)) rfl ?_
   refine Wl.on' rfl rfl g_26_ ?_
   refine Wl.call txt57PsA rfl rfl (SContains_r A c xs t.t (by omega) _ hR) rfl ?_
   rintro _ w_k1 ⟨rfl, hs_k1⟩
   have hz_k1 := hs_k1.size
   have hb := hb.trans (hs_k1.mono hb.size)
   have hP := hP_hb.below hb
   have hR := hR_hb.below hb
   refine Wl.y (y_pickT rfl g_26_ rfl) rfl ?_
   refine Wl.sg rfl rfl <| Wl.nil <| Wq.next hK_7 <| Wc.ret ?_
   refine ret1 rfl rfl ?_
   first | exact ⟨_, rfl, bool_eq (by unfold isT; rw [← htk, Bool.eq_iff_iff]; simp_all <;> omega), hb⟩
  have g_26_ := g_26
  try simp only [DZ] at g_26
  refine Wl.off' rfl rfl g_26_ rfl rfl <| Wl.off' rfl rfl g_26_ rfl rfl <| Wl.off' rfl rfl g_26_ rfl rfl ?_
  refine Wl.y (y_pickF rfl g_26_ rfl) rfl ?_
  refine Wl.sg rfl rfl <| Wl.nil <| Wq.next hK_7 <| Wc.ret ?_
  refine ret1 rfl rfl ?_
  first | exact ⟨_, rfl, bool_eq (by unfold isT; rw [← htk, Bool.eq_iff_iff]; simp_all <;> omega), hb⟩
theorem PSt.take {w : World} {p en : Nat} {ts : List Tok} {g b : Nat} {A : Option Addr} {c : Nat} (h : ts ≠ []) (hc : ts.length ≤ c) (h2 : ts.length ≤ 65536) (hB : Blk w p 60 [.slice (if c = 1 then A else A.map (·.add 3)) (ts.length - 1) (c - 1), .int .i64 (en : Int), .int .i64 (g : Int), .int .i64 (b : Int)]) (hR : Rd w 3 A ts.length (ts.flatMap Tok.cells)) (hA : ∀ q, A = some q → q.block < p) (hL : Lb w) (hG : Gl p) (hT : ∀ t ∈ ts, t.t.length ≤ 65536) : PSt w p en ts.tail g b := by
  have hl : ts.tail.length = ts.length - 1 := List.length_tail
  refine ⟨⟨_, c - 1, by omega, by omega, by rw [hl]; exact hB, ?_, ?_⟩, hL, hG, fun t h => hT t (List.mem_of_mem_tail h)⟩
  · have h1 : 1 ≤ ts.length := by cases ts with | nil => exact absurd rfl h | cons => simp
    have h3 := hR.drop (m := 1) h1 hc
    have e : (ts.flatMap Tok.cells).drop (1 * 3) = ts.tail.flatMap Tok.cells := by
      cases ts with
      | nil => exact absurd rfl h
      | cons t r => rfl
    rw [e, show (1 : Nat) * 3 = 3 from rfl] at h3
    rw [hl]; exact h3
  · intro q hq
    split at hq
    · exact hA q hq
    · cases A with
      | none => cases hq
      | some a => cases hq; rw [add_block]; exact hA a rfl
theorem take_r (p en : Nat) (ts : List Tok) (g b : Nat) (hne : ts ≠ []) (w : World) (hP : PSt w p en ts g b) : Ret Tryz.prog 38 [pptr p] w fun v w' => (v = (nextT en ts).enc ∧ PSt w' p en ts.tail g b) ∧ Kp p w w' := by
  have hpl := hP.lt
  obtain ⟨t, htk⟩ : ∃ t, t = nextT en ts := ⟨_, rfl⟩
  have hlen : 0 < ts.length := List.length_pos_iff.2 hne
  have hb := Kp.refl p w
  refine enter Tryz.func38 rfl rfl rfl ?_
  refine Wc.seq fun _ hK_1 => Wc.region ?_
  refine Wl.allocN (z := (.agg #[(.int .i64 0), (str []), (.int .i64 0)])) (by kernel_rfl) rfl ?_
  rintro g_o0 w_o0 hg_o0 hn_o0 hs_o0
  have hz_o0 := hs_o0.size
  have hP := hP.below hs_o0
  replace hs_o0 := Below.kp (p := p) hs_o0
  have hb := hb.trans hs_o0
  have hB_o0 := hn_o0
  have hl_o0 := hB_o0.lt
  refine Wl.nil <| Wq.next hK_1 <| Wc.seq fun _ hK_3 => Wc.region <| Wl.mv rfl rfl <| Wl.y (y_nilCheck rfl) rfl ?_
  refine Wl.y (y_fieldAddr (fa60_0PsA _) rfl) rfl ?_
  refine Wl.call txt39PsA rfl rfl (next_r p en ts g b _ hP) rfl ?_
  rintro _ w_k0 ⟨rfl, hs_k0⟩
  have hz_k0 := hs_k0.size
  first | have hP := PSt.below hP hs_k0 | have hP := PSt.kp hP hs_k0 | skip
  first | have hB_o0 := Blk.below hB_o0 hs_k0 | have hB_o0 := Blk.kp hB_o0 hs_k0 (by omega) | skip
  first | replace hs_k0 := Below.kp (p := p) hs_k0 | skip
  have hb := hb.trans hs_k0
  refine Wl.allocN (z := (.agg #[(.int .i64 0), (str []), (.int .i64 0)])) (by kernel_rfl) rfl ?_
  rintro g_o4 w_o4 hg_o4 hn_o4 hs_o4
  have hz_o4 := hs_o4.size
  have hP := hP.below hs_o4
  have hB_o0 := hB_o0.below hs_o4
  replace hs_o4 := Below.kp (p := p) hs_o4
  have hb := hb.trans hs_o4
  have hB_o4 := hn_o4
  have hl_o4 := hB_o4.lt
  refine Wl.storeS (by kernel_rfl) rfl rfl hB_o4 rfl rfl ?_
  rintro w_s0 hn_s0 hg_s0
  have hz_s0 := hg_s0.size
  have hb := kp_blk hb hg_s0 (by omega)
  try have hP := PSt.over hP hg_s0 (by omega)
  try have hB_o0 := hB_o0.over hg_s0 (by omega)
  have hB_o4 := hn_s0
  refine Wl.nil <| Wq.next hK_3 <| Wc.seq fun _ hK_9 => ?_
  obtain ⟨A, c, h1, h2, hPb, hPr, h5⟩ := hP.ex
  refine Wc.region <| Wl.mv rfl rfl <| Wl.mv rfl rfl <| Wl.y (y_nilCheck rfl) rfl ?_
  refine Wl.y (y_fieldAddr (fa60_0PsA _) rfl) rfl ?_
  refine Wl.y (y_fieldAddr (fa58_0PsA _) rfl) rfl ?_
  refine Wl.l (l_load one39PsA rfl (by exact hPb.at (j := 0) rfl)) rfl ?_
  refine Wl.y (y_slicelL Tryz.underlying39 sz43PsA rfl rfl (by omega) (by omega)) rfl ?_
  refine Wl.y (y_nilCheck rfl) rfl ?_
  refine Wl.y (y_fieldAddr (fa60_0PsA _) rfl) rfl ?_
  refine Wl.y (y_fieldAddr (fa58_0PsA _) rfl) rfl ?_
  refine Wl.storeB one39PsA rfl rfl rfl hPb (by show 0 < 4; decide) ?_
  rintro w_s1 hn_s1 hg_s1
  have hz_s1 := hg_s1.size
  have hb := kp_blk hb hg_s1 (by omega)
  try have hP := PSt.over hP hg_s1 (by omega)
  try have hB_o0 := hB_o0.over hg_s1 (by omega)
  try have hB_o4 := hB_o4.over hg_s1 (by omega)
  have hPb := hn_s1
  refine Wl.nil <| Wq.next hK_9 <| Wc.seq fun _ hK_20 => ?_
  have hP := PSt.take hne h1 h2 hPb (hPr.kp hg_s1 (fun q e => by have := h5 q e; omega)) h5 (hP.lb.kp hg_s1 hP.gl) hP.gl hP.tk
  clear hPb
  refine Wc.region ?_
  refine Wl.l (l_loadS Tryz.underlying43 (by kernel_rfl) rfl (by exact fun j u hu => hB_o4.at hu)) rfl ?_
  refine Wl.storeS (by kernel_rfl) rfl rfl hB_o0 rfl rfl ?_
  rintro w_s2 hn_s2 hg_s2
  have hz_s2 := hg_s2.size
  have hb := kp_blk hb hg_s2 (by omega)
  try have hP := PSt.over hP hg_s2 (by omega)
  have hB_o0 := hn_s2
  refine Wl.nil <| Wq.next hK_20 <| Wc.ret ?_
  refine retN (rs := [.cell 2 43]) (vs := [_]) rfl (.cell rfl (loadS Tryz.underlying43 (by kernel_rfl) (fun j u hu => hB_o0.at hu)) .nil) ?_
  exact ⟨_, rfl, ⟨rfl, hP⟩, hb⟩
/-- a token's value, written out -/
abbrev tokA (t : Tok) : Value := .agg #[.int .i64 (t.k : Int), str t.t, .int .i64 (t.a : Int)]
theorem next_x (p en : Nat) (ts : List Tok) (g b : Nat) (w : World) (hP : PSt w p en ts g b) : Ret Tryz.prog 39 [pptr p] w fun v w' => v = .agg #[.int .i64 ((nextT en ts).k : Int), str (nextT en ts).t, .int .i64 ((nextT en ts).a : Int)] ∧ Below w.heap.size w w' := next_r p en ts g b w hP
theorem take_x (p en : Nat) (ts : List Tok) (g b : Nat) (hne : ts ≠ []) (w : World) (hP : PSt w p en ts g b) : Ret Tryz.prog 38 [pptr p] w fun v w' => (v = .agg #[.int .i64 ((nextT en ts).k : Int), str (nextT en ts).t, .int .i64 ((nextT en ts).a : Int)] ∧ PSt w' p en ts.tail g b) ∧ Kp p w w' := take_r p en ts g b hne w hP
/-- what a function that parses tells: its value, or what is panicked with; F: the plain answer, V: what a value looks like -/
def PRes {α : Type} (w : World) (p en g b : Nat) (ts : List Tok) (F : Res α) (V : α → Value → World → Prop) (v : Value) (w' : World) : Prop := (∃ x r, F = .ok x r ∧ V x v w' ∧ PSt w' p en r g b ∧ r.length ≤ ts.length) ∧ Kp p w w'
def PErr {α : Type} (w : World) (p en g b : Nat) (F : Res α) (c : List PanicEntry) (w' : World) : Prop := ∃ a e, F = .err a e ∧ c = wch a e ∧ (∃ r, PSt w' p en r g b) ∧ Kp p w w'
theorem fail_r (p en : Nat) (ts : List Tok) (g b : Nat) (w : World) (hP : PSt w p en ts g b) : Out Tryz.prog 42 [pptr p] w (fun _ _ => False) (PErr w p en g b (Res.err (nextT en ts).a 2 : Res Unit)) := by
  have hpl := hP.lt
  have hb := Kp.refl p w
  refine enter Tryz.func42 rfl rfl rfl ?_
  refine Wc.region <| Wl.mv rfl rfl <| Wl.y (y_nilCheck rfl) rfl ?_
  refine Wl.y (y_fieldAddr (fa60_0PsA _) rfl) rfl ?_
  refine Wl.call txt39PsA rfl rfl (next_x p en ts g b _ hP) rfl ?_
  rintro _ w_k0 ⟨rfl, hs_k0⟩
  have hz_k0 := hs_k0.size
  first | have hP := PSt.below hP hs_k0 | have hP := PSt.kp hP hs_k0 | skip
  first | replace hs_k0 := Below.kp (p := p) hs_k0 | skip
  have hb := hb.trans hs_k0
  refine Wl.y (y_fieldO Tryz.underlying43 rfl one3PsA rfl rfl) rfl ?_
  refine Wl.y (y_buildS (z := [(.int .i64 0), (.int .i64 0)]) (pl := [(0, 1), (1, 1)]) (cs := [_, _]) Tryz.underlying54 (by kernel_rfl) (by kernel_rfl) rfl rfl rfl) rfl ?_
  refine Wl.y (y_iface Tryz.underlying54 (by intro _ h; cases h) rfl) rfl ?_
  refine Wl.panic rfl ?_
  refine panics ?_
  exact outX ⟨_, _, rfl, rfl, ⟨_, hP⟩, hb⟩
theorem kind_r (p en k : Nat) (hk : k ≠ 0) (ts : List Tok) (g b : Nat) (w : World) (hP : PSt w p en ts g b) : Out Tryz.prog 65 [pptr p, .int .i64 (k : Int)] w (PRes w p en g b ts (pKind en k ts) fun t v _ => v = tokA t) (PErr w p en g b (pKind en k ts)) := by
  have hpl := hP.lt
  have hb := Kp.refl p w
  refine enter Tryz.func65 rfl rfl rfl ?_
  refine Wc.seq fun _ hK_1 => Wc.region ?_
  refine Wl.allocN (z := (.agg #[(.int .i64 0), (str []), (.int .i64 0)])) (by kernel_rfl) rfl ?_
  rintro g_o0 w_o0 hg_o0 hn_o0 hs_o0
  have hz_o0 := hs_o0.size
  have hP := hP.below hs_o0
  replace hs_o0 := Below.kp (p := p) hs_o0
  have hb := hb.trans hs_o0
  have hB_o0 := hn_o0
  have hl_o0 := hB_o0.lt
  refine Wl.nil <| Wq.next hK_1 <| Wc.seq fun _ hK_3 => Wc.seq fun _ hK_4 => Wc.region <| Wl.mv rfl rfl <| Wl.y (y_nilCheck rfl) rfl ?_
  refine Wl.y (y_fieldAddr (fa60_0PsA _) rfl) rfl ?_
  refine Wl.call txt39PsA rfl rfl (next_x p en ts g b _ hP) rfl ?_
  rintro _ w_k0 ⟨rfl, hs_k0⟩
  have hz_k0 := hs_k0.size
  first | have hP := PSt.below hP hs_k0 | have hP := PSt.kp hP hs_k0 | skip
  first | have hB_o0 := Blk.below hB_o0 hs_k0 | have hB_o0 := Blk.kp hB_o0 hs_k0 (by omega) | skip
  first | replace hs_k0 := Below.kp (p := p) hs_k0 | skip
  have hb := hb.trans hs_k0
  refine Wl.y (y_fieldO Tryz.underlying43 rfl one3PsA rfl rfl) rfl ?_
  refine Wl.mv rfl rfl <| Wl.y (y_neqi rfl rfl) rfl <| Wl.nil <| Wq.next hK_4 ?_
  refine Wc.cond rfl (fun c0_12 => ?_) (fun c0_12 => ?_)
  ·
   have c0_12_ := c0_12
   try simp only [DZ] at c0_12
   have hf : pKind en k ts = .err (nextT en ts).a 2 := if_neg (by have := c0_12; omega)
   refine Wc.region <| Wl.mv rfl rfl ?_
   refine Wl.callP txt42PsA rfl rfl (fail_r p en ts g b _ hP) rfl (fun v_ w_k1 hv_ => ?_) (fun c_ w_k1 hx_ => ?_)
   rotate_left
   ·
    obtain ⟨a_k1, e_k1, hF_k1, rfl, hPp_k1, hs_k1⟩ := hx_
    have hz_k1 := hs_k1.size
    have hb := hb.trans hs_k1
    refine Wq.then_panic ?_
    refine panics ?_
    cases hF_k1; exact outX ⟨_, _, hf, rfl, hPp_k1, hb⟩
   exact hv_.elim
  have c0_12_ := c0_12
  try simp only [DZ] at c0_12
  have hk2 : (nextT en ts).k = k := by have := c0_12; omega
  have hf : pKind en k ts = .ok (nextT en ts) ts.tail := if_pos hk2
  have hne : ts ≠ [] := fun e => by subst e; exact hk hk2.symm
  refine Wc.skip <| Wq.next hK_3 <| Wc.seq fun _ hK_15 => Wc.region <| Wl.mv rfl rfl ?_
  refine Wl.call txt38PsA rfl rfl (take_x p en ts g b hne _ hP) rfl ?_
  rintro _ w_k2 ⟨⟨rfl, hP⟩, hs_k2⟩
  have hz_k2 := hs_k2.size
  first | have hP := PSt.below hP hs_k2 | have hP := PSt.kp hP hs_k2 | skip
  first | have hB_o0 := Blk.below hB_o0 hs_k2 | have hB_o0 := Blk.kp hB_o0 hs_k2 (by omega) | skip
  first | replace hs_k2 := Below.kp (p := p) hs_k2 | skip
  have hb := hb.trans hs_k2
  refine Wl.storeS (by kernel_rfl) rfl rfl hB_o0 rfl rfl ?_
  rintro w_s0 hn_s0 hg_s0
  have hz_s0 := hg_s0.size
  have hb := kp_blk hb hg_s0 (by omega)
  try have hP := PSt.over hP hg_s0 (by omega)
  have hB_o0 := hn_s0
  refine Wl.nil <| Wq.next hK_15 <| Wc.ret ?_
  refine retN (rs := [.cell 4 43]) (vs := [_]) rfl (.cell rfl (loadS Tryz.underlying43 (by kernel_rfl) (fun j u hu => hB_o0.at hu)) .nil) ?_
  exact outR ⟨⟨_, _, hf, rfl, hP, by rw [List.length_tail]; omega⟩, hb⟩
theorem text_r (p en : Nat) (s : List UInt8) (ts : List Tok) (g b : Nat) (w : World) (hP : PSt w p en ts g b) : Out Tryz.prog 150 [pptr p, str s] w (PRes w p en g b ts (pText en s ts) fun t v _ => v = tokA t) (PErr w p en g b (pText en s ts)) := by
  have hpl := hP.lt
  have hb := Kp.refl p w
  refine enter Tryz.func150 rfl rfl rfl ?_
  refine Wc.seq fun _ hK_1 => Wc.region ?_
  refine Wl.allocN (z := (.agg #[(.int .i64 0), (str []), (.int .i64 0)])) (by kernel_rfl) rfl ?_
  rintro g_o0 w_o0 hg_o0 hn_o0 hs_o0
  have hz_o0 := hs_o0.size
  have hP := hP.below hs_o0
  replace hs_o0 := Below.kp (p := p) hs_o0
  have hb := hb.trans hs_o0
  have hB_o0 := hn_o0
  have hl_o0 := hB_o0.lt
  refine Wl.nil <| Wq.next hK_1 <| Wc.seq fun _ hK_3 => Wc.seq fun _ hK_4 => Wc.region <| Wl.mv rfl rfl <| Wl.y (y_nilCheck rfl) rfl ?_
  refine Wl.y (y_fieldAddr (fa60_0PsA _) rfl) rfl ?_
  refine Wl.mv rfl rfl ?_
  refine Wl.litN (sz := 1) (vs := [_]) Tryz.underlying45 (by kernel_rfl) rfl rfl rfl rfl rfl rfl ?_
  rintro g_b0 w_b0 hg_b0 hn_b0 hs_b0
  have hz_b0 := hs_b0.size
  have hP := hP.below hs_b0
  have hB_o0 := hB_o0.below hs_b0
  replace hs_b0 := Below.kp (p := p) hs_b0
  have hb := hb.trans hs_b0
  have hB_b0 := hn_b0
  have hl_b0 := hB_b0.lt
  refine Wl.call txt36PsA rfl rfl (is_r p en ts g b _ 1 [s] (by simp) _ hP (hB_b0.rd 1 1 rfl)) rfl ?_
  rintro _ w_k0 ⟨rfl, hs_k0⟩
  have hz_k0 := hs_k0.size
  first | have hP := PSt.below hP hs_k0 | have hP := PSt.kp hP hs_k0 | skip
  first | have hB_o0 := Blk.below hB_o0 hs_k0 | have hB_o0 := Blk.kp hB_o0 hs_k0 (by omega) | skip
  first | replace hs_k0 := Below.kp (p := p) hs_k0 | skip
  have hb := hb.trans hs_k0
  refine Wl.y (y_not rfl) rfl <| Wl.nil <| Wq.next hK_4 ?_
  refine Wc.cond rfl (fun c0_12 => ?_) (fun c0_12 => ?_)
  ·
   have c0_12_ := c0_12
   try simp only [DZ] at c0_12
   have hf : pText en s ts = .err (nextT en ts).a 2 := if_neg (by have := c0_12_; simpa using this)
   refine Wc.region <| Wl.mv rfl rfl ?_
   refine Wl.callP txt42PsA rfl rfl (fail_r p en ts g b _ hP) rfl (fun v_ w_k1 hv_ => ?_) (fun c_ w_k1 hx_ => ?_)
   rotate_left
   ·
    obtain ⟨a_k1, e_k1, hF_k1, rfl, hPp_k1, hs_k1⟩ := hx_
    have hz_k1 := hs_k1.size
    have hb := hb.trans hs_k1
    refine Wq.then_panic ?_
    refine panics ?_
    cases hF_k1; exact outX ⟨_, _, hf, rfl, hPp_k1, hb⟩
   exact hv_.elim
  have c0_12_ := c0_12
  try simp only [DZ] at c0_12
  have hi : isT en [s] ts = true := by have := c0_12_; simpa using this
  have hf : pText en s ts = .ok (nextT en ts) ts.tail := if_pos hi
  have hne : ts ≠ [] := isT_ne hi
  refine Wc.skip <| Wq.next hK_3 <| Wc.seq fun _ hK_15 => Wc.region <| Wl.mv rfl rfl ?_
  refine Wl.call txt38PsA rfl rfl (take_x p en ts g b hne _ hP) rfl ?_
  rintro _ w_k2 ⟨⟨rfl, hP⟩, hs_k2⟩
  have hz_k2 := hs_k2.size
  first | have hP := PSt.below hP hs_k2 | have hP := PSt.kp hP hs_k2 | skip
  first | have hB_o0 := Blk.below hB_o0 hs_k2 | have hB_o0 := Blk.kp hB_o0 hs_k2 (by omega) | skip
  first | replace hs_k2 := Below.kp (p := p) hs_k2 | skip
  have hb := hb.trans hs_k2
  refine Wl.storeS (by kernel_rfl) rfl rfl hB_o0 rfl rfl ?_
  rintro w_s0 hn_s0 hg_s0
  have hz_s0 := hg_s0.size
  have hb := kp_blk hb hg_s0 (by omega)
  try have hP := PSt.over hP hg_s0 (by omega)
  have hB_o0 := hn_s0
  refine Wl.nil <| Wq.next hK_15 <| Wc.ret ?_
  refine retN (rs := [.cell 4 43]) (vs := [_]) rfl (.cell rfl (loadS Tryz.underlying43 (by kernel_rfl) (fun j u hu => hB_o0.at hu)) .nil) ?_
  exact outR ⟨⟨_, _, hf, rfl, hP, by rw [List.length_tail]; omega⟩, hb⟩
theorem litV_rd {s : List UInt8} {u : Val} {n : Nat} {ok : Bool} (h : RdIs (readV pf uqV s) u n ok) : (litV s = if ok = true ∧ n = s.length then some u else none) ∧ (ok = false → u = nullV) := by
  unfold litV
  rcases h with ⟨h1, h2⟩ | ⟨h1, h2, h3, h4⟩
  · rw [h2, h1]; exact ⟨by simp, fun h => by cases h⟩
  · rw [h2, h1]; exact ⟨by simp, fun _ => h3⟩
theorem whole_r (p en : Nat) (a : Int) (ts : List Tok) (g b : Nat) (w : World) (hP : PSt w p en ts g b) : Out Tryz.prog 40 [pptr p, .int .i64 a] w (PRes w p en g b ts (pWhole en a ts) fun k v _ => v = .int .i64 k) (PErr w p en g b (pWhole en a ts)) := by
  have hpl := hP.lt
  have htk0 := hP.tk
  have hb := Kp.refl p w
  refine enter Tryz.func40 rfl rfl rfl ?_
  refine Wc.seq fun _ hK_1 => Wc.region <| Wl.sg rfl rfl <| Wl.nil <| Wq.next hK_1 <| Wc.seq fun _ hK_3 => Wc.region <| Wl.mv rfl rfl ?_
  refine Wl.callP txt65PsA rfl rfl (kind_r p en 3 (by decide) ts g b _ hP) rfl (fun v_ w_k0 hv_ => ?_) (fun c_ w_k0 hx_ => ?_)
  rotate_left
  ·
   obtain ⟨a_k0, e_k0, hF_k0, rfl, hPp_k0, hs_k0⟩ := hx_
   have hz_k0 := hs_k0.size
   have hb := hb.trans hs_k0
   refine Wq.then_panic ?_
   refine panics ?_
   exact outX ⟨_, _, by unfold pWhole; rw [hF_k0], rfl, hPp_k0, hb⟩
  obtain ⟨⟨t, r, hF, rfl, hP, hrl⟩, hs_k0⟩ := hv_
  have hz_k0 := hs_k0.size
  have hb := hb.trans hs_k0
  refine Wl.allocN (z := (.agg #[(.int .i64 0), (str []), (.int .i64 0)])) (by kernel_rfl) rfl ?_
  rintro g_o2 w_o2 hg_o2 hn_o2 hs_o2
  have hz_o2 := hs_o2.size
  have hP := hP.below hs_o2
  replace hs_o2 := Below.kp (p := p) hs_o2
  have hb := hb.trans hs_o2
  have hB_o2 := hn_o2
  have hl_o2 := hB_o2.lt
  have htl : t.t.length ≤ 65536 := by
    have h1 : t = nextT en ts ∧ r = ts.tail ∧ (nextT en ts).k = 3 := by
      unfold pKind at hF
      split at hF
      · rename_i hk; injection hF with h1 h2; exact ⟨h1.symm, h2.symm, hk⟩
      · cases hF
    rw [h1.1]
    cases ts with
    | nil => exact Nat.zero_le _
    | cons x y => exact htk0 x (List.mem_cons_self ..)
  refine Wl.storeS (by kernel_rfl) rfl rfl hB_o2 rfl rfl ?_
  rintro w_s0 hn_s0 hg_s0
  have hz_s0 := hg_s0.size
  have hb := kp_blk hb hg_s0 (by omega)
  try have hP := PSt.over hP hg_s0 (by omega)
  have hB_o2 := hn_s0
  refine Wl.nil <| Wq.next hK_3 <| Wc.seq fun _ hK_7 => Wc.region ?_
  refine Wl.y (y_fieldAddr (fa43_1PsA _) rfl) rfl ?_
  refine Wl.l (l_load one9PsA rfl (by exact hB_o2.at (j := 1) rfl)) rfl ?_
  refine Wl.call txt56PsA rfl rfl (Read_x t.t (by omega) _ hP.lb) rfl ?_
  rintro _ w_k1 ⟨⟨u, n, ok, rfl, hr⟩, hs_k1⟩
  have hz_k1 := hs_k1.size
  first | have hP := PSt.below hP hs_k1 | have hP := PSt.kp hP hs_k1 | skip
  first | have hB_o2 := Blk.below hB_o2 hs_k1 | have hB_o2 := Blk.kp hB_o2 hs_k1 (by omega) | skip
  first | replace hs_k1 := Below.kp (p := p) hs_k1 | skip
  have hb := hb.trans hs_k1
  refine Wl.mv rfl rfl <| Wl.y (y_extract rfl rfl) rfl <| Wl.y (y_extract rfl rfl) rfl <| Wl.y (y_extract rfl rfl) rfl ?_
  refine Wl.allocN (z := (.agg #[(.int .i64 0), (.int .i64 0), (.float .f64 0), (str [])])) (by kernel_rfl) rfl ?_
  rintro g_o8 w_o8 hg_o8 hn_o8 hs_o8
  have hz_o8 := hs_o8.size
  have hP := hP.below hs_o8
  have hB_o2 := hB_o2.below hs_o8
  replace hs_o8 := Below.kp (p := p) hs_o8
  have hb := hb.trans hs_o8
  have hB_o8 := hn_o8
  have hl_o8 := hB_o8.lt
  refine Wl.storeS (by kernel_rfl) rfl rfl hB_o8 rfl rfl ?_
  rintro w_s1 hn_s1 hg_s1
  have hz_s1 := hg_s1.size
  have hb := kp_blk hb hg_s1 (by omega)
  try have hP := PSt.over hP hg_s1 (by omega)
  try have hB_o2 := hB_o2.over hg_s1 (by omega)
  have hB_o8 := hn_s1
  refine Wl.sg rfl rfl <| Wl.sg rfl rfl <| Wl.nil <| Wq.next hK_7 <| Wc.seq fun _ hK_18 => Wc.seq fun _ hK_19 => ?_
  obtain ⟨hlit, hno⟩ := litV_rd hr
  refine Wc.meet (X := Bool) (fun q => [(0, pptr p), (1, .int .i64 a), (6, .pointer (some ⟨g_o8, 0, none⟩)), (27, .bool q)]) (fun q wr => q = decide (¬ (u.k = 2 ∧ n = t.t.length)) ∧ Kp p w wr ∧ PSt wr p en r g b ∧ Blk wr g_o8 25 u.cells) (fun _ hM_20 => ?_) ?_
  ·
   refine Wc.region ?_
   refine Wl.y (y_fieldAddr (fa25_0PsA _) rfl) rfl ?_
   refine Wl.l (l_load one3PsA rfl (by exact hB_o8.at (j := 0) rfl)) rfl ?_
   refine Wl.y (y_neqi rfl rfl) rfl <| Wl.mv rfl rfl ?_
   refine Wl.guardF rfl rfl rfl (fun g_25 => ?_) (fun g_25 => ?_)
   ·
    have g_25_ := g_25
    try simp only [DZ] at g_25
    refine Wl.off' rfl rfl g_25_ rfl rfl <| Wl.off' rfl rfl g_25_ rfl rfl <| Wl.off' rfl rfl g_25_ rfl rfl <| Wl.off' rfl rfl g_25_ rfl rfl ?_
    refine Wl.y (y_pickT rfl g_25_ rfl) rfl ?_
    refine Wl.nil ?_
    refine Wq.meet hM_20 (decide (¬ (u.k = 2 ∧ n = t.t.length))) (by repeat first | exact Sub.nil | refine Sub.cons' rfl (by first | rfl | exact bool_eq (by rw [Bool.eq_iff_iff]; simp <;> omega)) ?_) ?_
    exact ⟨rfl, hb, hP, hB_o8⟩
   have g_25_ := g_25
   try simp only [DZ] at g_25
   refine Wl.mv rfl rfl <| Wl.on' rfl rfl g_25_ ?_
   refine Wl.y (y_fieldAddr (fa43_1PsA _) rfl) rfl ?_
   refine Wl.on' rfl rfl g_25_ ?_
   refine Wl.l (l_load one9PsA rfl (by exact hB_o2.at (j := 1) rfl)) rfl ?_
   refine Wl.on' rfl rfl g_25_ ?_
   refine Wl.y (y_lens Tryz.underlying9 (by omega) rfl) rfl ?_
   refine Wl.on' rfl rfl g_25_ <| Wl.y (y_neqi rfl rfl) rfl ?_
   refine Wl.y (y_pickF rfl g_25_ rfl) rfl ?_
   refine Wl.nil ?_
   refine Wq.meet hM_20 (decide (¬ (u.k = 2 ∧ n = t.t.length))) (by repeat first | exact Sub.nil | refine Sub.cons' rfl (by first | rfl | exact bool_eq (by rw [Bool.eq_iff_iff]; simp <;> omega)) ?_) ?_
   exact ⟨rfl, hb, hP, hB_o8⟩
  rintro q wr hI_33
  replace hI_33 : q = decide (¬ (u.k = 2 ∧ n = t.t.length)) ∧ Kp p w wr ∧ PSt wr p en r g b ∧ Blk wr g_o8 25 u.cells := hI_33
  obtain ⟨hq, hb, hP, hB_o8⟩ := hI_33
  show Wq _ _ _ _ [(0, pptr p), (1, .int .i64 a), (6, .pointer (some ⟨g_o8, 0, none⟩)), (27, .bool q)] _
  try have hzhb_g3 := hb.size
  have hlhB_o8_g3 := hB_o8.lt
  refine Wq.next hK_19 ?_
  refine Wc.cond rfl (fun c0_34 => ?_) (fun c0_34 => ?_)
  ·
   have c0_34_ := c0_34
   try simp only [DZ] at c0_34
   have hq0 := of_decide_eq_true (hq.symm.trans c0_34_)
   have hf : pWhole en a ts = .err a 2 := by
     by_cases hz : ok = true ∧ n = t.t.length
     · simp only [pWhole, hF, hlit, if_pos hz]; exact if_neg (fun e => hq0 ⟨e, hz.2⟩)
     · simp only [pWhole, hF, hlit, if_neg hz]
   refine Wc.region <| Wl.mv rfl rfl ?_
   refine Wl.y (y_buildS (z := [(.int .i64 0), (.int .i64 0)]) (pl := [(0, 1), (1, 1)]) (cs := [_, _]) Tryz.underlying54 (by kernel_rfl) (by kernel_rfl) rfl rfl rfl) rfl ?_
   refine Wl.y (y_iface Tryz.underlying54 (by intro _ h; cases h) rfl) rfl ?_
   refine Wl.panic rfl ?_
   refine Wq.then_panic ?_
   refine panics ?_
   exact outX ⟨_, _, hf, rfl, ⟨_, hP⟩, hb⟩
  have c0_34_ := c0_34
  try simp only [DZ] at c0_34
  have hq0 := Classical.not_not.1 (of_decide_eq_false (hq.symm.trans c0_34_))
  have hok : ok = true := by
    cases ok with
    | true => rfl
    | false => have := hno rfl; rw [this] at hq0; exact absurd hq0.1 (by decide)
  have hf : pWhole en a ts = .ok u.n r := by
    simp only [pWhole, hF, hlit, if_pos (⟨hok, hq0.2⟩ : ok = true ∧ n = t.t.length)]; exact if_pos hq0.1
  refine Wc.skip <| Wq.next hK_18 <| Wc.seq fun _ hK_38 => Wc.region ?_
  refine Wl.y (y_fieldAddr (fa25_1PsA _) rfl) rfl ?_
  refine Wl.l (l_load one2PsA rfl (by exact hB_o8.at (j := 1) rfl)) rfl ?_
  refine Wl.sg rfl rfl <| Wl.nil <| Wq.next hK_38 <| Wc.ret ?_
  refine ret1 rfl rfl ?_
  exact outR ⟨⟨_, _, hf, rfl, hP, hrl⟩, hb⟩
end Go.Proofs.YtjnabgddjogkbaaGreatDoor
namespace Go.Proofs.YtjnabgddjogkbaaGreatDoor
open Go.RowKit Go.Bw Go.Bw.Fl
set_option linter.unusedVariables false
set_option linter.unusedSimpArgs false
theorem one178PsB : One Tryz.prog 178 := ⟨_, Tryz.underlying178, rfl, by kernel_rfl⟩
theorem one3PsB : One Tryz.prog 3 := ⟨_, Tryz.underlying3, rfl, by kernel_rfl⟩
mutual
/-- an expression's cells, its kids' rows in blocks of S -/
def EAt (w : World) (S : Nat → Prop) : ExprD → List Value → Prop
  | .mk k nm v kids, cs => ∃ A c kcs, cs = [.int .i64 k, str nm, .int .i64 v.k, .int .i64 v.n, .float .f64 v.f, str v.s, .slice A kids.length c] ∧ Rd w 7 A kids.length kcs ∧ (∀ q, A = some q → S q.block) ∧ ELs w S kids kcs ∧ kids.length ≤ 65537
def ELs (w : World) (S : Nat → Prop) : List ExprD → List Value → Prop
  | [], xs => xs = []
  | e :: r, xs => ∃ c ys, xs = c ++ ys ∧ EAt w S e c ∧ ELs w S r ys
end
/-- what keeps the rows in S keeps trees -/
structure Keeps (w w' : World) (S : Nat → Prop) : Prop where
  rd : ∀ sz A n xs, Rd w sz A n xs → (∀ q : Addr, A = some q → S q.block) → Rd w' sz A n xs
mutual
theorem EAt.lift {w w' : World} {S S' : Nat → Prop} (hk : Keeps w w' S) (hS : ∀ k, S k → S' k) : ∀ {e : ExprD} {cs : List Value}, EAt w S e cs → EAt w' S' e cs
  | .mk k nm v kids, cs, h => by
    unfold EAt at h ⊢
    obtain ⟨A, c, kcs, h1, h2, h3, h4, h5⟩ := h
    exact ⟨A, c, kcs, h1, hk.rd _ _ _ _ h2 h3, fun q e => hS _ (h3 q e), ELs.lift hk hS h4, h5⟩
theorem ELs.lift {w w' : World} {S S' : Nat → Prop} (hk : Keeps w w' S) (hS : ∀ k, S k → S' k) : ∀ {l : List ExprD} {cs : List Value}, ELs w S l cs → ELs w' S' l cs
  | [], cs, h => by unfold ELs at h ⊢; exact h
  | e :: r, cs, h => by
    unfold ELs at h ⊢
    obtain ⟨c, ys, h1, h2, h3⟩ := h
    exact ⟨c, ys, h1, EAt.lift hk hS h2, ELs.lift hk hS h3⟩
end
theorem Keeps.refl (w : World) (S : Nat → Prop) : Keeps w w S := ⟨fun _ _ _ _ h _ => h⟩
theorem Keeps.below {w w' : World} (hb : Below w.heap.size w w') (S : Nat → Prop) : Keeps w w' S := ⟨fun _ _ _ _ h _ => h.below hb⟩
theorem Keeps.kp {w w' : World} {p : Nat} {S : Nat → Prop} (hk : Kp p w w') (hp : ¬ S p) : Keeps w w' S := ⟨fun _ _ _ _ h h2 => h.kp hk (fun q e => fun h3 => hp (h3 ▸ h2 q e))⟩
section
variable {w w' : World} {S : Nat → Prop} {p : Nat} {e : ExprD} {l : List ExprD} {cs : List Value}
theorem EAt.mono {S' : Nat → Prop} (h : EAt w S e cs) (hS : ∀ k, S k → S' k) : EAt w S' e cs := EAt.lift (Keeps.refl _ _) hS h
theorem EAt.below (h : EAt w S e cs) (hb : Below w.heap.size w w') : EAt w' S e cs := EAt.lift (Keeps.below hb _) (fun _ h => h) h
theorem EAt.kp (h : EAt w S e cs) (hk : Kp p w w') (hp : ¬ S p) : EAt w' S e cs := EAt.lift (Keeps.kp hk hp) (fun _ h => h) h
theorem ELs.mono {S' : Nat → Prop} (h : ELs w S l cs) (hS : ∀ k, S k → S' k) : ELs w S' l cs := ELs.lift (Keeps.refl _ _) hS h
theorem ELs.below (h : ELs w S l cs) (hb : Below w.heap.size w w') : ELs w' S l cs := ELs.lift (Keeps.below hb _) (fun _ h => h) h
theorem ELs.kp (h : ELs w S l cs) (hk : Kp p w w') (hp : ¬ S p) : ELs w' S l cs := ELs.lift (Keeps.kp hk hp) (fun _ h => h) h
end
/-- an expression without kids -/
theorem EAt.leaf (w : World) (S : Nat → Prop) (k : Int) (nm : List UInt8) (v : Val) : EAt w S (.mk k nm v []) [.int .i64 k, str nm, .int .i64 v.k, .int .i64 v.n, .float .f64 v.f, str v.s, .slice none 0 0] := by
  unfold EAt ELs
  exact ⟨none, 0, [], rfl, Rd.nil _ _ _, fun q e => (by cases e), rfl, Nat.zero_le _⟩
theorem EAt.node {w : World} {S : Nat → Prop} {gk n c : Nat} {k : Int} {nm : List UInt8} {v : Val} {kids : List ExprD} {kcs : List Value} (hn : n = kids.length) (hR : Rd w 7 (some ⟨gk, 0, none⟩) kids.length kcs) (hg : S gk) (hL : ELs w S kids kcs) (hk : kids.length ≤ 65537 := by simp) :
    EAt w S (.mk k nm v kids) [.int .i64 k, str nm, .int .i64 v.k, .int .i64 v.n, .float .f64 v.f, str v.s, .slice (some ⟨gk, 0, none⟩) n c] := by
  subst hn
  unfold EAt
  exact ⟨_, c, kcs, rfl, hR, fun q e => (by cases e; exact hg), hL, hk⟩
theorem ELs.one {w : World} {S : Nat → Prop} {e : ExprD} {cs : List Value} (h : EAt w S e cs) : ELs w S [e] cs := by
  unfold ELs ELs; exact ⟨cs, [], by simp, h, rfl⟩
theorem ELs.two {w : World} {S : Nat → Prop} {e f : ExprD} {cs ds : List Value} (h : EAt w S e cs) (h2 : EAt w S f ds) : ELs w S [e, f] (cs ++ ds) := by
  unfold ELs ELs ELs; exact ⟨cs, ds, rfl, h, ds, [], by simp, h2, rfl⟩
/-! ### within -/
def bptr (p : Nat) : Addr := (⟨p, 0, none⟩ : Addr).add 3
def gptr (p : Nat) : Addr := (⟨p, 0, none⟩ : Addr).add 2
def WErr (w : World) (p en g b n : Nat) (a : Int) (c : List PanicEntry) (w' : World) : Prop := ∃ a' e, (50 ≤ n ∧ a' = a ∧ e = 6) ∧ c = wch a' e ∧ (∃ r, PSt w' p en r g b) ∧ Kp p w w'
theorem withinB_r (p en : Nat) (ts : List Tok) (g b : Nat) (a : Int) (w : World) (hP : PSt w p en ts g b) : Out Tryz.prog 151 [.pointer (some (bptr p)), .int .i64 a] w (fun v w' => (∃ gx, v = .func (.func 183) #[] #[.pointer (some ⟨gx, 0, none⟩)] ∧ Blk w' gx 178 [.pointer (some (bptr p))] ∧ w.heap.size ≤ gx ∧ PSt w' p en ts g (b + 1) ∧ b < 50) ∧ Kp p w w') (WErr w p en g b b a) := by
  have hpl := hP.lt
  have hb := Kp.refl p w
  refine enter Tryz.func151 rfl rfl rfl ?_
  refine Wc.seq fun _ hK_1 => Wc.region ?_
  refine Wl.boxN rfl rfl ?_
  rintro g_o0 w_o0 hg_o0 hn_o0 hs_o0
  have hz_o0 := hs_o0.size
  have hP := hP.below hs_o0
  replace hs_o0 := Below.kp (p := p) hs_o0
  have hb := hb.trans hs_o0
  have hB_o0 := hn_o0
  have hl_o0 := hB_o0.lt
  refine Wl.sg rfl rfl <| Wl.nil <| Wq.next hK_1 <| Wc.seq fun _ hK_4 => Wc.seq fun _ hK_5 => ?_
  obtain ⟨A, c, h1, h2, hPb, hPr, h5⟩ := hP.ex
  refine Wc.region ?_
  refine Wl.l (l_load one178PsB rfl (by exact hB_o0.at (j := 0) rfl)) rfl ?_
  refine Wl.y (y_nilCheck rfl) rfl ?_
  refine Wl.l (l_load one3PsB rfl (by exact hPb.at (j := 3) rfl)) rfl ?_
  refine Wl.y (y_geqi rfl rfl) rfl <| Wl.nil <| Wq.next hK_5 ?_
  refine Wc.cond rfl (fun c0_10 => ?_) (fun c0_10 => ?_)
  ·
   have c0_10_ := c0_10
   try simp only [DZ] at c0_10
   refine Wc.region <| Wl.mv rfl rfl ?_
   refine Wl.y (y_buildS (z := [(.int .i64 0), (.int .i64 0)]) (pl := [(0, 1), (1, 1)]) (cs := [_, _]) Tryz.underlying54 (by kernel_rfl) (by kernel_rfl) rfl rfl rfl) rfl ?_
   refine Wl.y (y_iface Tryz.underlying54 (by intro _ h; cases h) rfl) rfl ?_
   refine Wl.panic rfl ?_
   refine Wq.then_panic ?_
   refine panics ?_
   exact outX ⟨_, _, ⟨by have := c0_10; omega, rfl, rfl⟩, rfl, ⟨_, hP⟩, hb⟩
  have c0_10_ := c0_10
  try simp only [DZ] at c0_10
  refine Wc.skip <| Wq.next hK_4 <| Wc.seq fun _ hK_14 => Wc.region ?_
  refine Wl.l (l_load one178PsB rfl (by exact hB_o0.at (j := 0) rfl)) rfl ?_
  refine Wl.y (y_nilCheck rfl) rfl ?_
  refine Wl.l (l_load one3PsB rfl (by exact hPb.at (j := 3) rfl)) rfl ?_
  refine Wl.y (y_eq (y_addI rfl rfl (by first | omega | (simp; done) | (simp; omega)) (by first | omega | (simp; done) | (simp; omega))) (int_eq (show _ = ((b + 1 : Nat) : Int) by omega))) rfl ?_
  refine Wl.y (y_nilCheck rfl) rfl ?_
  refine Wl.storeB one3PsB rfl rfl rfl hPb (by show 3 < 4; decide) ?_
  rintro w_s0 hn_s0 hg_s0
  have hz_s0 := hg_s0.size
  have hb := kp_blk hb hg_s0 (by omega)
  try have hP := PSt.over hP hg_s0 (by omega)
  try have hB_o0 := hB_o0.over hg_s0 (by omega)
  have hPb := hn_s0
  refine Wl.nil <| Wq.next hK_14 <| Wc.seq fun _ hK_20 => ?_
  have hP : PSt w_s0 p en ts g (b + 1) := ⟨⟨A, c, h1, h2, hPb, hPr.kp hg_s0 (fun q e => by have := h5 q e; omega), h5⟩, hP.lb.kp hg_s0 hP.gl, hP.gl, hP.tk⟩
  refine Wc.region <| Wl.y (y_makeFunc rfl rfl) rfl <| Wl.sg rfl rfl <| Wl.nil <| Wq.next hK_20 <| Wc.ret ?_
  refine ret1 rfl rfl ?_
  exact outR ⟨⟨_, rfl, hB_o0, by omega, hP, by have := c0_10; omega⟩, hb⟩
theorem withinG_r (p en : Nat) (ts : List Tok) (g b : Nat) (a : Int) (w : World) (hP : PSt w p en ts g b) : Out Tryz.prog 151 [.pointer (some (gptr p)), .int .i64 a] w (fun v w' => (∃ gx, v = .func (.func 183) #[] #[.pointer (some ⟨gx, 0, none⟩)] ∧ Blk w' gx 178 [.pointer (some (gptr p))] ∧ w.heap.size ≤ gx ∧ PSt w' p en ts (g + 1) b ∧ g < 50) ∧ Kp p w w') (WErr w p en g b g a) := by
  have hpl := hP.lt
  have hb := Kp.refl p w
  refine enter Tryz.func151 rfl rfl rfl ?_
  refine Wc.seq fun _ hK_1 => Wc.region ?_
  refine Wl.boxN rfl rfl ?_
  rintro g_o0 w_o0 hg_o0 hn_o0 hs_o0
  have hz_o0 := hs_o0.size
  have hP := hP.below hs_o0
  replace hs_o0 := Below.kp (p := p) hs_o0
  have hb := hb.trans hs_o0
  have hB_o0 := hn_o0
  have hl_o0 := hB_o0.lt
  refine Wl.sg rfl rfl <| Wl.nil <| Wq.next hK_1 <| Wc.seq fun _ hK_4 => Wc.seq fun _ hK_5 => ?_
  obtain ⟨A, c, h1, h2, hPb, hPr, h5⟩ := hP.ex
  refine Wc.region ?_
  refine Wl.l (l_load one178PsB rfl (by exact hB_o0.at (j := 0) rfl)) rfl ?_
  refine Wl.y (y_nilCheck rfl) rfl ?_
  refine Wl.l (l_load one3PsB rfl (by exact hPb.at (j := 2) rfl)) rfl ?_
  refine Wl.y (y_geqi rfl rfl) rfl <| Wl.nil <| Wq.next hK_5 ?_
  refine Wc.cond rfl (fun c0_10 => ?_) (fun c0_10 => ?_)
  ·
   have c0_10_ := c0_10
   try simp only [DZ] at c0_10
   refine Wc.region <| Wl.mv rfl rfl ?_
   refine Wl.y (y_buildS (z := [(.int .i64 0), (.int .i64 0)]) (pl := [(0, 1), (1, 1)]) (cs := [_, _]) Tryz.underlying54 (by kernel_rfl) (by kernel_rfl) rfl rfl rfl) rfl ?_
   refine Wl.y (y_iface Tryz.underlying54 (by intro _ h; cases h) rfl) rfl ?_
   refine Wl.panic rfl ?_
   refine Wq.then_panic ?_
   refine panics ?_
   exact outX ⟨_, _, ⟨by have := c0_10; omega, rfl, rfl⟩, rfl, ⟨_, hP⟩, hb⟩
  have c0_10_ := c0_10
  try simp only [DZ] at c0_10
  refine Wc.skip <| Wq.next hK_4 <| Wc.seq fun _ hK_14 => Wc.region ?_
  refine Wl.l (l_load one178PsB rfl (by exact hB_o0.at (j := 0) rfl)) rfl ?_
  refine Wl.y (y_nilCheck rfl) rfl ?_
  refine Wl.l (l_load one3PsB rfl (by exact hPb.at (j := 2) rfl)) rfl ?_
  refine Wl.y (y_eq (y_addI rfl rfl (by first | omega | (simp; done) | (simp; omega)) (by first | omega | (simp; done) | (simp; omega))) (int_eq (show _ = ((g + 1 : Nat) : Int) by omega))) rfl ?_
  refine Wl.y (y_nilCheck rfl) rfl ?_
  refine Wl.storeB one3PsB rfl rfl rfl hPb (by show 2 < 4; decide) ?_
  rintro w_s0 hn_s0 hg_s0
  have hz_s0 := hg_s0.size
  have hb := kp_blk hb hg_s0 (by omega)
  try have hP := PSt.over hP hg_s0 (by omega)
  try have hB_o0 := hB_o0.over hg_s0 (by omega)
  have hPb := hn_s0
  refine Wl.nil <| Wq.next hK_14 <| Wc.seq fun _ hK_20 => ?_
  have hP : PSt w_s0 p en ts (g + 1) b := ⟨⟨A, c, h1, h2, hPb, hPr.kp hg_s0 (fun q e => by have := h5 q e; omega), h5⟩, hP.lb.kp hg_s0 hP.gl, hP.gl, hP.tk⟩
  refine Wc.region <| Wl.y (y_makeFunc rfl rfl) rfl <| Wl.sg rfl rfl <| Wl.nil <| Wq.next hK_20 <| Wc.ret ?_
  refine ret1 rfl rfl ?_
  exact outR ⟨⟨_, rfl, hB_o0, by omega, hP, by have := c0_10; omega⟩, hb⟩
theorem outB_r (p en : Nat) (ts : List Tok) (g b gx : Nat) (w : World) (hP : PSt w p en ts g (b + 1)) (hb0 : b < 50) (hx : p < gx) (hB : Blk w gx 178 [.pointer (some (bptr p))]) : DRet Tryz.prog 183 [.pointer (some ⟨gx, 0, none⟩)] w fun w' => PSt w' p en ts g b ∧ Kp p w w' := by
  have hpl := hP.lt
  obtain ⟨A, c, h1, h2, hPb, hPr, h5⟩ := hP.ex
  have hb := Kp.refl p w
  refine enterDef Tryz.func183 rfl rfl rfl ?_
  refine Wc.region ?_
  refine Wl.l (l_load one178PsB rfl (by exact hB.at (j := 0) rfl)) rfl ?_
  refine Wl.y (y_nilCheck rfl) rfl ?_
  refine Wl.l (l_load one3PsB rfl (by exact hPb.at (j := 3) rfl)) rfl ?_
  refine Wl.y (y_eq (y_subI rfl rfl (by first | omega | (simp; done) | (simp; omega)) (by first | omega | (simp; done) | (simp; omega))) (int_eq (show _ = (b : Int) by omega))) rfl ?_
  refine Wl.y (y_nilCheck rfl) rfl ?_
  refine Wl.storeB one3PsB rfl rfl rfl hPb (by show 3 < 4; decide) ?_
  rintro w_s0 hn_s0 hg_s0
  have hz_s0 := hg_s0.size
  have hb := kp_blk hb hg_s0 (by omega)
  have hPb := hn_s0
  refine Wl.nil ?_
  refine end0 rfl ?_
  exact ⟨_, rfl, ⟨⟨A, c, h1, h2, hPb, hPr.kp hg_s0 (fun q e => by have := h5 q e; omega), h5⟩, hP.lb.kp hg_s0 hP.gl, hP.gl, hP.tk⟩, hb⟩
theorem outG_r (p en : Nat) (ts : List Tok) (g b gx : Nat) (w : World) (hP : PSt w p en ts (g + 1) b) (hb0 : g < 50) (hx : p < gx) (hB : Blk w gx 178 [.pointer (some (gptr p))]) : DRet Tryz.prog 183 [.pointer (some ⟨gx, 0, none⟩)] w fun w' => PSt w' p en ts g b ∧ Kp p w w' := by
  have hpl := hP.lt
  obtain ⟨A, c, h1, h2, hPb, hPr, h5⟩ := hP.ex
  have hb := Kp.refl p w
  refine enterDef Tryz.func183 rfl rfl rfl ?_
  refine Wc.region ?_
  refine Wl.l (l_load one178PsB rfl (by exact hB.at (j := 0) rfl)) rfl ?_
  refine Wl.y (y_nilCheck rfl) rfl ?_
  refine Wl.l (l_load one3PsB rfl (by exact hPb.at (j := 2) rfl)) rfl ?_
  refine Wl.y (y_eq (y_subI rfl rfl (by first | omega | (simp; done) | (simp; omega)) (by first | omega | (simp; done) | (simp; omega))) (int_eq (show _ = (g : Int) by omega))) rfl ?_
  refine Wl.y (y_nilCheck rfl) rfl ?_
  refine Wl.storeB one3PsB rfl rfl rfl hPb (by show 2 < 4; decide) ?_
  rintro w_s0 hn_s0 hg_s0
  have hz_s0 := hg_s0.size
  have hb := kp_blk hb hg_s0 (by omega)
  have hPb := hn_s0
  refine Wl.nil ?_
  refine end0 rfl ?_
  exact ⟨_, rfl, ⟨⟨A, c, h1, h2, hPb, hPr.kp hg_s0 (fun q e => by have := h5 q e; omega), h5⟩, hP.lb.kp hg_s0 hP.gl, hP.gl, hP.tk⟩, hb⟩
end Go.Proofs.YtjnabgddjogkbaaGreatDoor
namespace Go.Proofs.YtjnabgddjogkbaaGreatDoor
open Go.RowKit Go.Bw Go.Bw.Fl
set_option linter.unusedVariables false
set_option linter.unusedSimpArgs false
theorem txt62PsL : Txt Tryz.prog 62 := ⟨_, Tryz.func62, by kernel_rfl, rfl⟩   -- (*strings.Builder).Grow
theorem txt63PsL : Txt Tryz.prog 63 := ⟨_, Tryz.func63, by kernel_rfl, rfl⟩   -- (*strings.Builder).WriteString
theorem txt64PsL : Txt Tryz.prog 64 := ⟨_, Tryz.func64, by kernel_rfl, rfl⟩   -- (*strings.Builder).String
theorem txt96PsL : Txt Tryz.prog 96 := ⟨_, Tryz.func96, by kernel_rfl, rfl⟩   -- (*strings.Builder).WriteByte
def lowC (c : UInt8) : UInt8 := if 65 ≤ c.toNat ∧ c.toNat ≤ 90 then c + 32 else c
theorem lowerV_take {s : List UInt8} {i : Nat} (h : i < s.length) : lowerV (s.take (i + 1)) = lowerV (s.take i) ++ [lowC (s.getD i 0)] := by
  unfold lowerV
  rw [take_snoc 0 h, List.map_append]; rfl
theorem lowerV_same {s : List UInt8} {k i : Nat} (hk : k ≤ i) (hi : i ≤ s.length) (h : ∀ j, k ≤ j → j < i → lowC (s.getD j 0) = s.getD j 0) : lowerV (s.take i) = lowerV (s.take k) ++ (s.take i).drop k := by
  induction i with
  | zero => rw [show k = 0 by omega]; simp
  | succ i ih =>
    by_cases e : k = i + 1
    · subst e; rw [List.drop_eq_nil_of_le (by rw [List.length_take]; omega), List.append_nil]
    · rw [lowerV_take (by omega), ih (by omega) (by omega) (fun j h1 h2 => h j h1 (by omega)), h i (by omega) (by omega), take_snoc 0 (by omega : i < s.length), List.drop_append_of_le_length (by rw [List.length_take]; omega), List.append_assoc]
theorem lowC_up {c : UInt8} (h : 65 ≤ c.toNat ∧ c.toNat ≤ 90) : lowC c = c + 32 ∧ (c + 32).toNat = c.toNat + 32 := by
  refine ⟨if_pos h, ?_⟩
  rw [UInt8.toNat_add]; show (c.toNat + 32) % 256 = _; omega
theorem lowC_no {c : UInt8} (h : ¬ (65 ≤ c.toNat ∧ c.toNat ≤ 90)) : lowC c = c := if_neg h
theorem lowerV_id {s : List UInt8} (h : ∀ j, j < s.length → lowC (s.getD j 0) = s.getD j 0) : lowerV s = s := by
  have := lowerV_same (s := s) (k := 0) (i := s.length) (by omega) (Nat.le_refl _) (fun j _ hj => h j hj)
  rw [List.take_length] at this
  rw [this]; simp [lowerV]
theorem ToLower_r (s : List UInt8) (ha : ∀ j, j < s.length → (s.getD j 0).toNat < 128) (hs : s.length ≤ 65536) (w : World) : Ret Tryz.prog 216 [str s] w fun v w' => v = str (lowerV s) ∧ Below w.heap.size w w' := by
  have hb := Below.refl w.heap.size w
  refine enter Tryz.func216 rfl rfl rfl ?_
  refine Wc.seq fun _ hK_1 => Wc.region <| Wl.sg rfl rfl <| Wl.nil <| Wq.next hK_1 <| Wc.seq fun _ hK_3 => Wc.region <| Wl.sg rfl rfl <| Wl.sg rfl rfl <| Wl.nil ?_
  refine Wq.next hK_3 <| Wc.seq fun _ hK_6 => Wc.seq fun _ hK_7 => Wc.region <| Wl.sg rfl rfl <| Wl.nil <| Wq.next hK_7 <| Wc.block ?_
  refine Wc.loop (X := Nat × Bool) (fun (i, q) => [(0, str s), (3, .bool true), (4, .bool q), (5, .int .i64 (i : Int))]) (fun (i, q) wr => i ≤ s.length ∧ (q = false → ∀ j, j < i → lowC (s.getD j 0) = s.getD j 0) ∧ Below w.heap.size w wr) (fun (i, q) => s.length - i) (⟨0, false⟩) ?_ ?_ ?_
  · exact by repeat first | exact Sub.nil | refine Sub.cons' rfl (by first | rfl | exact int_eq (by omega) | exact int_eq (by simp) | (simp; done)) ?_
  · exact ⟨by omega, fun _ j h => by omega, hb⟩
  rintro ⟨i, q⟩ wr hI_10 _ hL_9
  replace hI_10 : i ≤ s.length ∧ (q = false → ∀ j, j < i → lowC (s.getD j 0) = s.getD j 0) ∧ Below w.heap.size w wr := hI_10
  obtain ⟨hi, hq, hb⟩ := hI_10
  show Wc _ _ _ _ _ [(0, str s), (3, .bool true), (4, .bool q), (5, .int .i64 (i : Int))] _
  try have hzhb_L0 := hb.size
  refine Wc.seq fun _ hK_11 => Wc.seq fun _ hK_12 => Wc.region <| Wl.mv rfl rfl <| Wl.mv rfl rfl ?_
  refine Wl.y (y_lens Tryz.underlying9 (by omega) rfl) rfl ?_
  refine Wl.y (y_lssi rfl rfl) rfl <| Wl.nil <| Wq.next hK_12 ?_
  refine Wc.cond rfl (fun c0_17 => ?_) (fun c0_17 => ?_)
  ·
   have c0_17_ := c0_17
   try simp only [DZ] at c0_17
   have hil : i < s.length := by have := c0_17; omega
   obtain ⟨c, hc⟩ : ∃ c, c = s.getD i 0 := ⟨_, rfl⟩
   have hca := ha i hil
   rw [← hc] at hca
   refine Wc.skip <| Wq.next hK_11 <| Wc.seq fun _ hK_18 => Wc.block <| Wc.seq fun _ hK_19 => Wc.region <| Wl.mv rfl rfl <| Wl.mv rfl rfl ?_
   refine Wl.y (y_eq (y_indexs Tryz.underlying9 rfl rfl (by omega) (by omega)) (int_eq (show _ = (c.toNat : Int) by rw [hc, Int.toNat_natCast]))) rfl ?_
   refine Wl.sg rfl rfl <| Wl.nil <| Wq.next hK_19 <| Wc.seq fun _ hK_24 => Wc.seq fun _ hK_25 => Wc.region <| Wl.mv rfl rfl <| Wl.y (y_geqi rfl rfl) rfl <| Wl.nil <| Wq.next hK_25 ?_
   refine Wc.cond rfl (fun c1_28 => ?_) (fun c1_28 => ?_)
   ·
    have c1_28_ := c1_28
    try simp only [DZ] at c1_28
    (have := c1_28; omega)
   have c1_28_ := c1_28
   try simp only [DZ] at c1_28
   refine Wc.skip <| Wq.next hK_24 ?_
   refine Wc.meet (X := Bool) (fun q2 => [(0, str s), (3, .bool true), (4, .bool q2), (5, .int .i64 (i : Int))]) (fun q2 wr => q2 = (q || decide (65 ≤ c.toNat ∧ c.toNat ≤ 90)) ∧ Below w.heap.size w wr) (fun _ hM_29 => ?_) ?_
   ·
    refine Wc.region <| Wl.mv rfl rfl <| Wl.mv rfl rfl ?_
    refine Wl.guardF rfl rfl rfl (fun g_32 => ?_) (fun g_32 => ?_)
    ·
     have g_32_ := g_32
     try simp only [DZ] at g_32
     refine Wl.off' rfl rfl g_32_ rfl rfl <| Wl.off' rfl rfl g_32_ rfl rfl <| Wl.offU rfl rfl rfl <| Wl.offU rfl rfl rfl <| Wl.off' rfl rfl g_32_ rfl rfl ?_
     refine Wl.y (y_pickT rfl g_32_ rfl) rfl ?_
     refine Wl.sg rfl rfl <| Wl.nil ?_
     refine Wq.meet hM_29 (q || decide (65 ≤ c.toNat ∧ c.toNat ≤ 90)) (by repeat first | exact Sub.nil | refine Sub.cons' rfl (by first | rfl | exact bool_eq (by rw [Bool.eq_iff_iff]; simp_all <;> omega)) ?_) ?_
     exact ⟨rfl, hb⟩
    have g_32_ := g_32
    try simp only [DZ] at g_32
    refine Wl.mv rfl rfl <| Wl.on' rfl rfl g_32_ <| Wl.y (y_leqi rfl rfl) rfl <| Wl.on' rfl rfl g_32_ <| Wl.mv rfl rfl ?_
    refine Wl.guardT rfl rfl rfl (fun g_38 => ?_) (fun g_38 => ?_)
    ·
     have g_38_ := g_38
     try simp only [DZ] at g_38
     refine Wl.mv rfl rfl <| Wl.on' rfl rfl g_38_ <| Wl.y (y_leqi rfl rfl) rfl <| Wl.on' rfl rfl g_32_ ?_
     refine Wl.y (y_pickT rfl g_38_ rfl) rfl ?_
     refine Wl.y (y_pickF rfl g_32_ rfl) rfl ?_
     refine Wl.sg rfl rfl <| Wl.nil ?_
     refine Wq.meet hM_29 (q || decide (65 ≤ c.toNat ∧ c.toNat ≤ 90)) (by repeat first | exact Sub.nil | refine Sub.cons' rfl (by first | rfl | exact bool_eq (by rw [Bool.eq_iff_iff]; simp_all <;> omega)) ?_) ?_
     exact ⟨rfl, hb⟩
    have g_38_ := g_38
    try simp only [DZ] at g_38
    refine Wl.off' rfl rfl g_38_ rfl rfl <| Wl.on' rfl rfl g_32_ ?_
    refine Wl.y (y_pickF rfl g_38_ rfl) rfl ?_
    refine Wl.y (y_pickF rfl g_32_ rfl) rfl ?_
    refine Wl.sg rfl rfl <| Wl.nil ?_
    refine Wq.meet hM_29 (q || decide (65 ≤ c.toNat ∧ c.toNat ≤ 90)) (by repeat first | exact Sub.nil | refine Sub.cons' rfl (by first | rfl | exact bool_eq (by rw [Bool.eq_iff_iff]; simp_all <;> omega)) ?_) ?_
    exact ⟨rfl, hb⟩
   rintro q2 wr hI_47
   replace hI_47 : q2 = (q || decide (65 ≤ c.toNat ∧ c.toNat ≤ 90)) ∧ Below w.heap.size w wr := hI_47
   obtain ⟨hq2, hb⟩ := hI_47
   show Wq _ _ _ _ [(0, str s), (3, .bool true), (4, .bool q2), (5, .int .i64 (i : Int))] _
   try have hzhb_g7 := hb.size
   have hq3 : q2 = false → ∀ j, j < i + 1 → lowC (s.getD j 0) = s.getD j 0 := fun h j hj => by
     rw [hq2, Bool.or_eq_false_iff, decide_eq_false_iff_not] at h
     by_cases e : j = i
     · rw [e, ← hc]; exact lowC_no h.2
     · exact hq h.1 j (by omega)
   refine Wq.block_normal <| Wq.next hK_18 <| Wc.region <| Wl.mv rfl rfl ?_
   refine Wl.y (y_addI rfl rfl (by first | omega | (simp; done) | (simp; omega)) (by first | omega | (simp; done) | (simp; omega))) rfl ?_
   refine Wl.sg rfl rfl <| Wl.nil ?_
   refine fun a_ ha_ => hL_9 _ _ (⟨i + 1, q2⟩) (by first | omega | (simp; omega)) (by repeat first | exact Sub.nil | refine Sub.cons' rfl (by first | rfl | exact int_eq (by omega)) ?_) ?_ a_ ha_
   exact ⟨by omega, hq3, hb⟩
  have c0_17_ := c0_17
  try simp only [DZ] at c0_17
  refine Wc.exit ?_
  refine Wq.then_exit <| Wq.then_exit <| Wq.block_exit <| Wq.next hK_6 <| Wc.seq fun _ hK_51 => Wc.seq fun _ hK_52 => Wc.region <| Wl.mv rfl rfl <| Wl.nil <| Wq.next hK_52 ?_
  refine Wc.cond rfl (fun c2_54 => ?_) (fun c2_54 => ?_)
  ·
   have c2_54_ := c2_54
   try simp only [DZ] at c2_54
   refine Wc.seq fun _ hK_55 => Wc.seq fun _ hK_56 => Wc.region <| Wl.mv rfl rfl <| Wl.y (y_not rfl) rfl <| Wl.nil <| Wq.next hK_56 ?_
   refine Wc.cond rfl (fun c3_59 => ?_) (fun c3_59 => ?_)
   ·
    have c3_59_ := c3_59
    try simp only [DZ] at c3_59
    refine Wc.seq fun _ hK_60 => Wc.region <| Wl.mv rfl rfl <| Wl.sg rfl rfl <| Wl.nil <| Wq.next hK_60 <| Wc.ret ?_
    refine Wq.then_ret (Wq.then_ret ?_)
    refine ret1 rfl rfl ?_
    exact ⟨_, rfl, str_eq (lowerV_id fun j hj => hq (by simpa using c3_59_) j (by have := c0_17; omega)).symm, hb⟩
   have c3_59_ := c3_59
   try simp only [DZ] at c3_59
   refine Wc.skip <| Wq.next hK_55 <| Wc.seq fun _ hK_63 => Wc.region ?_
   refine Wl.allocN (z := (.agg #[(.pointer none), (.slice none 0 0)])) (by kernel_rfl) rfl ?_
   rintro g_o31 w_o31 hg_o31 hn_o31 hs_o31
   have hz_o31 := hs_o31.size
   have hb := hb.trans (hs_o31.mono hb.size)
   have hB_o31 := hn_o31
   have hl_o31 := hB_o31.lt
   refine Wl.nil <| Wq.next hK_63 <| Wc.seq fun _ hK_65 => Wc.region <| Wl.sg rfl rfl <| Wl.nil <| Wq.next hK_65 <| Wc.seq fun _ hK_67 => Wc.region <| Wl.mv rfl rfl ?_
   refine Wl.y (y_lens Tryz.underlying9 (by omega) rfl) rfl ?_
   refine Wl.call txt62PsL rfl rfl (Grow_r w.heap.size g_o31 s.length _ (by omega) hB_o31 hb.size (by omega)) rfl ?_
   rintro _ w2 ⟨rfl, hI, hs2⟩
   refine Wl.nil <| Wq.next hK_67 <| Wc.seq fun _ hK_71 => Wc.seq fun _ hK_72 => ?_
   have hb := hb.trans hs2
   refine Wc.region <| Wl.sg rfl rfl <| Wl.nil <| Wq.next hK_72 <| Wc.block ?_
   refine Wc.loop (X := Nat × Nat × List UInt8) (fun (k, i, l) => [(0, str s), (7, .pointer (some ⟨g_o31, 0, none⟩)), (8, .int .i64 (k : Int)), (9, .int .i64 (i : Int))]) (fun (k, i, l) wr => k ≤ i ∧ i ≤ s.length ∧ l = lowerV (s.take k) ∧ (∀ j, k ≤ j → j < i → lowC (s.getD j 0) = s.getD j 0) ∧ Below w.heap.size w wr ∧ Lib.IsBuilder 98 5 w.heap.size g_o31 (Lib.byteCells l) wr) (fun (k, i, l) => s.length - i) (⟨0, 0, []⟩) ?_ ?_ ?_
   · exact by repeat first | exact Sub.nil | refine Sub.cons' rfl (by first | rfl | exact int_eq (by omega) | exact int_eq (by simp) | (simp; done)) ?_
   · exact ⟨by omega, by omega, by simp [lowerV], fun j h1 h2 => by omega, hb, hI⟩
   rintro ⟨k, i, l⟩ wr hI_75 _ hL_74
   replace hI_75 : k ≤ i ∧ i ≤ s.length ∧ l = lowerV (s.take k) ∧ (∀ j, k ≤ j → j < i → lowC (s.getD j 0) = s.getD j 0) ∧ Below w.heap.size w wr ∧ Lib.IsBuilder 98 5 w.heap.size g_o31 (Lib.byteCells l) wr := hI_75
   obtain ⟨hki, hi, hl, hsame, hb, hI⟩ := hI_75
   show Wc _ _ _ _ _ [(0, str s), (7, .pointer (some ⟨g_o31, 0, none⟩)), (8, .int .i64 (k : Int)), (9, .int .i64 (i : Int))] _
   try have hzhb_L1 := hb.size
   refine Wc.seq fun _ hK_76 => Wc.seq fun _ hK_77 => Wc.region <| Wl.mv rfl rfl <| Wl.mv rfl rfl ?_
   refine Wl.y (y_lens Tryz.underlying9 (by omega) rfl) rfl ?_
   refine Wl.y (y_lssi rfl rfl) rfl <| Wl.nil <| Wq.next hK_77 ?_
   refine Wc.cond rfl (fun c4_82 => ?_) (fun c4_82 => ?_)
   ·
    have c4_82_ := c4_82
    try simp only [DZ] at c4_82
    have hil : i < s.length := by have := c4_82; omega
    obtain ⟨c, hc⟩ : ∃ c, c = s.getD i 0 := ⟨_, rfl⟩
    have hll : l.length = k := by rw [hl]; unfold lowerV; rw [List.length_map, List.length_take]; omega
    refine Wc.skip <| Wq.next hK_76 <| Wc.seq fun _ hK_83 => Wc.block <| Wc.seq fun _ hK_84 => Wc.region <| Wl.mv rfl rfl <| Wl.mv rfl rfl ?_
    refine Wl.y (y_eq (y_indexs Tryz.underlying9 rfl rfl (by omega) (by omega)) (int_eq (show _ = (c.toNat : Int) by rw [hc, Int.toNat_natCast]))) rfl ?_
    refine Wl.sg rfl rfl <| Wl.nil <| Wq.next hK_84 <| Wc.seq fun _ hK_89 => ?_
    refine Wc.meet (X := Bool) (fun q => [(0, str s), (7, .pointer (some ⟨g_o31, 0, none⟩)), (8, .int .i64 (k : Int)), (9, .int .i64 (i : Int)), (10, .int .u8 (c.toNat : Int)), (52, .bool q)]) (fun q wr => q = decide (65 ≤ c.toNat ∧ c.toNat ≤ 90) ∧ Below w.heap.size w wr ∧ Lib.IsBuilder 98 5 w.heap.size g_o31 (Lib.byteCells l) wr) (fun _ hM_90 => ?_) ?_
    ·
     refine Wc.region <| Wl.mv rfl rfl <| Wl.y (y_leqi rfl rfl) rfl <| Wl.mv rfl rfl ?_
     refine Wl.guardT rfl rfl rfl (fun g_94 => ?_) (fun g_94 => ?_)
     ·
      have g_94_ := g_94
      try simp only [DZ] at g_94
      refine Wl.mv rfl rfl <| Wl.on' rfl rfl g_94_ <| Wl.y (y_leqi rfl rfl) rfl ?_
      refine Wl.y (y_pickT rfl g_94_ rfl) rfl ?_
      refine Wl.nil ?_
      refine Wq.meet hM_90 (decide (65 ≤ c.toNat ∧ c.toNat ≤ 90)) (by repeat first | exact Sub.nil | refine Sub.cons' rfl (by first | rfl | exact bool_eq (by rw [Bool.eq_iff_iff]; simp <;> omega)) ?_) ?_
      exact ⟨rfl, hb, hI⟩
     have g_94_ := g_94
     try simp only [DZ] at g_94
     refine Wl.off' rfl rfl g_94_ rfl rfl ?_
     refine Wl.y (y_pickF rfl g_94_ rfl) rfl ?_
     refine Wl.nil ?_
     refine Wq.meet hM_90 (decide (65 ≤ c.toNat ∧ c.toNat ≤ 90)) (by repeat first | exact Sub.nil | refine Sub.cons' rfl (by first | rfl | exact bool_eq (by rw [Bool.eq_iff_iff]; simp <;> omega)) ?_) ?_
     exact ⟨rfl, hb, hI⟩
    rintro q wr hI_99
    replace hI_99 : q = decide (65 ≤ c.toNat ∧ c.toNat ≤ 90) ∧ Below w.heap.size w wr ∧ Lib.IsBuilder 98 5 w.heap.size g_o31 (Lib.byteCells l) wr := hI_99
    obtain ⟨hq, hb, hI⟩ := hI_99
    show Wq _ _ _ _ [(0, str s), (7, .pointer (some ⟨g_o31, 0, none⟩)), (8, .int .i64 (k : Int)), (9, .int .i64 (i : Int)), (10, .int .u8 (c.toNat : Int)), (52, .bool q)] _
    try have hzhb_g18 := hb.size
    refine Wq.next hK_89 ?_
    refine Wc.cond rfl (fun c5_100 => ?_) (fun c5_100 => ?_)
    ·
     have c5_100_ := c5_100
     try simp only [DZ] at c5_100
     have hup := of_decide_eq_true (hq.symm.trans c5_100_)
     obtain ⟨hlc, hl32⟩ := lowC_up hup
     refine Wc.seq fun _ hK_101 => Wc.region <| Wl.mv rfl rfl ?_
     refine Wl.y (y_eq (y_add rfl rfl) (int_eq (show _ = ((c + 32).toNat : Int) by rw [wrap_u8 _ (by omega) (by omega)]; omega))) rfl ?_
     refine Wl.sg rfl rfl <| Wl.nil <| Wq.next hK_101 <| Wc.seq fun _ hK_105 => Wc.seq fun _ hK_106 => Wc.region <| Wl.mv rfl rfl <| Wl.mv rfl rfl <| Wl.y (y_lssi rfl rfl) rfl <| Wl.nil ?_
     refine Wq.next hK_106 ?_
     refine Wc.cond rfl (fun c6_110 => ?_) (fun c6_110 => ?_)
     ·
      have c6_110_ := c6_110
      try simp only [DZ] at c6_110
      have hx6 := c6_110
      refine Wc.region <| Wl.mv rfl rfl <| Wl.mv rfl rfl <| Wl.mv rfl rfl ?_
      refine Wl.y (y_eq (y_slices Tryz.underlying9 rfl rfl rfl (by omega) (by omega) (by omega)) (str_eq (show _ = (s.take i).drop k by rw [Int.toNat_natCast, Int.toNat_natCast]))) rfl ?_
      refine Wl.call txt63PsL rfl rfl (WriteString_r w.heap.size g_o31 l ((s.take i).drop k) _ hI (by rw [List.length_drop, List.length_take]; omega) hb.size) rfl ?_
      rintro _ w3 ⟨rfl, hI3, hs4⟩
      refine Wl.nil <| Wq.next hK_105 <| Wc.seq fun _ hK_116 => ?_
      have hb := hb.trans hs4
      obtain ⟨l3, hl3⟩ : ∃ l3, l3 = l ++ (s.take i).drop k := ⟨_, rfl⟩
      rw [← hl3] at hI3
      have hl4 : l3 = lowerV (s.take i) := by rw [hl3, hl]; exact (lowerV_same hki hi hsame).symm
      have hl3l : l3.length = i := by rw [hl4]; unfold lowerV; rw [List.length_map, List.length_take]; omega
      refine Wc.region <| Wl.mv rfl rfl ?_
      refine Wl.call txt96PsL rfl rfl (WriteByte_r w.heap.size g_o31 l3 (c + 32) _ hI3 (by omega) hb.size) rfl ?_
      rintro _ w4 ⟨rfl, hI2, hs5⟩
      refine Wl.nil <| Wq.next hK_116 ?_
      have hb := hb.trans hs5
      obtain ⟨k2, hk2e⟩ : ∃ k2, k2 = i + 1 := ⟨_, rfl⟩
      obtain ⟨l2, hl2e⟩ : ∃ l2, l2 = l3 ++ [c + 32] := ⟨_, rfl⟩
      rw [← hl2e] at hI2
      have hk2 : k2 ≤ i + 1 := by omega
      have hl2 : l2 = lowerV (s.take k2) := by rw [hl2e, hk2e, lowerV_take hil, ← hl4, ← hc, hlc]
      have hs3 : ∀ j, k2 ≤ j → j < i + 1 → lowC (s.getD j 0) = s.getD j 0 := fun j h1 h2 => by omega
      refine Wc.region <| Wl.mv rfl rfl ?_
      refine Wl.y (y_addI rfl rfl (by first | omega | (simp; done) | (simp; omega)) (by first | omega | (simp; done) | (simp; omega))) rfl ?_
      refine Wl.sg rfl rfl <| Wl.nil <| Wq.block_normal <| Wq.next hK_83 <| Wc.region <| Wl.mv rfl rfl ?_
      refine Wl.y (y_addI rfl rfl (by first | omega | (simp; done) | (simp; omega)) (by first | omega | (simp; done) | (simp; omega))) rfl ?_
      refine Wl.sg rfl rfl <| Wl.nil ?_
      refine fun a_ ha_ => hL_74 _ _ (⟨k2, i + 1, l2⟩) (by show s.length - (i + 1) < s.length - i; omega) (by repeat first | exact Sub.nil | refine Sub.cons' rfl (by first | rfl | exact int_eq (by omega)) ?_) ?_ a_ ha_
      exact ⟨hk2, by omega, hl2, hs3, hb, hI2⟩
     have c6_110_ := c6_110
     try simp only [DZ] at c6_110
     have hki2 : k = i := by have := c6_110; omega
     have hI3 := hI
     have hs4 := Below.refl w.heap.size wr
     have hd : (s.take i).drop k = [] := List.drop_eq_nil_of_le (by rw [List.length_take]; omega)
     rw [show l = l ++ (s.take i).drop k by rw [hd, List.append_nil]] at hI3
     refine Wc.skip <| Wq.next hK_105 <| Wc.seq fun _ hK_125 => ?_
     have hb := hb.trans hs4
     obtain ⟨l3, hl3⟩ : ∃ l3, l3 = l ++ (s.take i).drop k := ⟨_, rfl⟩
     rw [← hl3] at hI3
     have hl4 : l3 = lowerV (s.take i) := by rw [hl3, hl]; exact (lowerV_same hki hi hsame).symm
     have hl3l : l3.length = i := by rw [hl4]; unfold lowerV; rw [List.length_map, List.length_take]; omega
     refine Wc.region <| Wl.mv rfl rfl ?_
     refine Wl.call txt96PsL rfl rfl (WriteByte_r w.heap.size g_o31 l3 (c + 32) _ hI3 (by omega) hb.size) rfl ?_
     rintro _ w4 ⟨rfl, hI2, hs5⟩
     refine Wl.nil <| Wq.next hK_125 ?_
     have hb := hb.trans hs5
     obtain ⟨k2, hk2e⟩ : ∃ k2, k2 = i + 1 := ⟨_, rfl⟩
     obtain ⟨l2, hl2e⟩ : ∃ l2, l2 = l3 ++ [c + 32] := ⟨_, rfl⟩
     rw [← hl2e] at hI2
     have hk2 : k2 ≤ i + 1 := by omega
     have hl2 : l2 = lowerV (s.take k2) := by rw [hl2e, hk2e, lowerV_take hil, ← hl4, ← hc, hlc]
     have hs3 : ∀ j, k2 ≤ j → j < i + 1 → lowC (s.getD j 0) = s.getD j 0 := fun j h1 h2 => by omega
     refine Wc.region <| Wl.mv rfl rfl ?_
     refine Wl.y (y_addI rfl rfl (by first | omega | (simp; done) | (simp; omega)) (by first | omega | (simp; done) | (simp; omega))) rfl ?_
     refine Wl.sg rfl rfl <| Wl.nil <| Wq.block_normal <| Wq.next hK_83 <| Wc.region <| Wl.mv rfl rfl ?_
     refine Wl.y (y_addI rfl rfl (by first | omega | (simp; done) | (simp; omega)) (by first | omega | (simp; done) | (simp; omega))) rfl ?_
     refine Wl.sg rfl rfl <| Wl.nil ?_
     refine fun a_ ha_ => hL_74 _ _ (⟨k2, i + 1, l2⟩) (by show s.length - (i + 1) < s.length - i; omega) (by repeat first | exact Sub.nil | refine Sub.cons' rfl (by first | rfl | exact int_eq (by omega)) ?_) ?_ a_ ha_
     exact ⟨hk2, by omega, hl2, hs3, hb, hI2⟩
    have c5_100_ := c5_100
    try simp only [DZ] at c5_100
    have hup := of_decide_eq_false (hq.symm.trans c5_100_)
    obtain ⟨k2, hk2e⟩ : ∃ k2, k2 = k := ⟨_, rfl⟩
    obtain ⟨l2, hl2e⟩ : ∃ l2, l2 = l := ⟨_, rfl⟩
    have hk2 : k2 ≤ i + 1 := by omega
    have hl2 : l2 = lowerV (s.take k2) := by rw [hl2e, hk2e, hl]
    have hI2 := hI
    rw [← hl2e] at hI2
    have hs3 : ∀ j, k2 ≤ j → j < i + 1 → lowC (s.getD j 0) = s.getD j 0 := fun j h1 h2 => by (by_cases e : j = i); (· rw [e, ← hc]; exact lowC_no hup); (· exact hsame j (by omega) (by omega))
    refine Wc.skip <| Wq.block_normal <| Wq.next hK_83 <| Wc.region <| Wl.mv rfl rfl ?_
    refine Wl.y (y_addI rfl rfl (by first | omega | (simp; done) | (simp; omega)) (by first | omega | (simp; done) | (simp; omega))) rfl ?_
    refine Wl.sg rfl rfl <| Wl.nil ?_
    refine fun a_ ha_ => hL_74 _ _ (⟨k2, i + 1, l2⟩) (by show s.length - (i + 1) < s.length - i; omega) (by repeat first | exact Sub.nil | refine Sub.cons' rfl (by first | rfl | exact int_eq (by omega)) ?_) ?_ a_ ha_
    exact ⟨hk2, by omega, hl2, hs3, hb, hI2⟩
   have c4_82_ := c4_82
   try simp only [DZ] at c4_82
   have hie : i = s.length := by have := c4_82; omega
   have hll : l.length = k := by rw [hl]; unfold lowerV; rw [List.length_map, List.length_take]; omega
   refine Wc.exit ?_
   refine Wq.then_exit <| Wq.then_exit <| Wq.block_exit <| Wq.next hK_71 <| Wc.seq fun _ hK_137 => Wc.seq fun _ hK_138 => Wc.region <| Wl.mv rfl rfl <| Wl.mv rfl rfl ?_
   refine Wl.y (y_lens Tryz.underlying9 (by omega) rfl) rfl ?_
   refine Wl.y (y_lssi rfl rfl) rfl <| Wl.nil <| Wq.next hK_138 ?_
   refine Wc.cond rfl (fun c7_143 => ?_) (fun c7_143 => ?_)
   ·
    have c7_143_ := c7_143
    try simp only [DZ] at c7_143
    have hx7 := c7_143
    refine Wc.region <| Wl.mv rfl rfl <| Wl.mv rfl rfl ?_
    refine Wl.y (y_eq (y_slicesL Tryz.underlying9 rfl rfl (by omega) (by omega)) (str_eq (show _ = s.drop k by rw [Int.toNat_natCast]))) rfl ?_
    refine Wl.call txt63PsL rfl rfl (WriteString_r w.heap.size g_o31 l (s.drop k) _ hI (by rw [List.length_drop]; omega) hb.size) rfl ?_
    rintro _ w3 ⟨rfl, hI4, hs4⟩
    refine Wl.nil <| Wq.next hK_137 <| Wc.seq fun _ hK_148 => ?_
    have hb := hb.trans hs4
    have hfin : l ++ s.drop k = lowerV s := by have h9 := lowerV_same hki hi hsame; rw [hie, List.take_length] at h9; rw [hl]; exact h9.symm
    rw [hfin] at hI4
    refine Wc.region ?_
    refine Wl.call txt64PsL rfl rfl (BString_r w.heap.size g_o31 (lowerV s) _ hI4 hb.size) rfl ?_
    rintro _ w5 ⟨rfl, hs6⟩
    refine Wl.sg rfl rfl <| Wl.nil <| Wq.next hK_148 <| Wc.ret <| Wq.then_ret ?_
    refine ret1 rfl rfl ?_
    exact ⟨_, rfl, rfl, hb.trans hs6⟩
   have c7_143_ := c7_143
   try simp only [DZ] at c7_143
   have hki2 : k = i := by have := c7_143; omega
   have hI4 := hI
   have hs4 := Below.refl w.heap.size wr
   have hd : s.drop k = [] := List.drop_eq_nil_of_le (by omega)
   rw [show l = l ++ s.drop k by rw [hd, List.append_nil]] at hI4
   refine Wc.skip <| Wq.next hK_137 <| Wc.seq fun _ hK_151 => ?_
   have hb := hb.trans hs4
   have hfin : l ++ s.drop k = lowerV s := by have h9 := lowerV_same hki hi hsame; rw [hie, List.take_length] at h9; rw [hl]; exact h9.symm
   rw [hfin] at hI4
   refine Wc.region ?_
   refine Wl.call txt64PsL rfl rfl (BString_r w.heap.size g_o31 (lowerV s) _ hI4 hb.size) rfl ?_
   rintro _ w5 ⟨rfl, hs6⟩
   refine Wl.sg rfl rfl <| Wl.nil <| Wq.next hK_151 <| Wc.ret <| Wq.then_ret ?_
   refine ret1 rfl rfl ?_
   exact ⟨_, rfl, rfl, hb.trans hs6⟩
  have c2_54_ := c2_54
  try simp only [DZ] at c2_54
  exact absurd c2_54_ (by decide)
end Go.Proofs.YtjnabgddjogkbaaGreatDoor
