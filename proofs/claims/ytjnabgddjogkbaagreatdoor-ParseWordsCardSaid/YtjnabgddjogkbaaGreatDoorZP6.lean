/- Plain: the values in what is parsed fit their type. · Parse at known texts; trees read; the reference's Same; what each statement about parse begins with. -/
import Derived.Test.YtjnabgddjogkbaaGreatDoorZP5
import Derived.Test.YtjnabgddjogkbaaGreatDoorZK
namespace Go.Proofs.YtjnabgddjogkbaaGreatDoor
open Go.RowKit Go.Bw Go.Bw.Fl
set_option linter.unusedVariables false
set_option linter.unusedSimpArgs false
mutual
def okE : ExprD → Prop
  | .mk _ _ v kids => v.Ok ∧ okEs kids
def okEs : List ExprD → Prop
  | [] => True
  | x :: r => okE x ∧ okEs r
end
mutual
def okP : PatD → Prop
  | .mk _ _ _ l w _ _ kids => okE l ∧ okE w ∧ okPs kids
def okPs : List PatD → Prop
  | [] => True
  | x :: r => okP x ∧ okPs r
end
theorem okNull : nullV.Ok := ⟨by decide, by decide, by decide⟩
theorem okE_leaf (k : Int) (nm : List UInt8) : okE (.mk k nm nullV []) := ⟨okNull, trivial⟩
theorem okE_one {k : Int} {nm : List UInt8} {x : ExprD} (h : okE x) : okE (.mk k nm nullV [x]) := ⟨okNull, h, trivial⟩
theorem okE_two {k : Int} {nm : List UInt8} {x y : ExprD} (h : okE x) (h2 : okE y) : okE (twoE k nm x y) := ⟨okNull, h, h2, trivial⟩
theorem okPs_snoc {x : PatD} (h : okP x) : ∀ {l : List PatD}, okPs l → okPs (l ++ [x])
  | [], _ => ⟨h, trivial⟩
  | y :: r, h2 => ⟨h2.1, okPs_snoc h h2.2⟩
theorem okEs_get : ∀ {l : List ExprD} {i : Nat} (hi : i < l.length), okEs l → okE l[i]
  | y :: r, 0, hi, h => h.1
  | y :: r, i + 1, hi, h => okEs_get (l := r) (i := i) (by simpa using hi) h.2
theorem okPs_get : ∀ {l : List PatD} {i : Nat} (hi : i < l.length), okPs l → okP l[i]
  | y :: r, 0, hi, h => h.1
  | y :: r, i + 1, hi, h => okPs_get (l := r) (i := i) (by simpa using hi) h.2
/-- what comes back is well -/
def Wl1 {α : Type} (P : α → Prop) (F : Res α) : Prop := ∀ x r, F = .ok x r → P x
theorem wl_err {α : Type} {P : α → Prop} {a e : Int} : Wl1 P (.err a e : Res α) := fun x r h => by cases h
theorem wl_ok {α : Type} {P : α → Prop} {x : α} {r : List Tok} (h : P x) : Wl1 P (.ok x r : Res α) := fun y r2 h2 => by injection h2 with h3; subst h3; exact h
def WlF (F : Pe) : Prop := ∀ ts, Wl1 okE (F ts)
theorem manyGo_wl {en : Nat} {F : Pe} {M : List UInt8 → ExprD → ExprD → ExprD} {signs : List (List UInt8)} (hF : WlF F) (hM : ∀ s a b, okE a → okE b → okE (M s a b)) : ∀ (n : Nat) (x : ExprD) (ts : List Tok), okE x → Wl1 okE (manyGo en F M signs n x ts)
  | 0, x, ts, h => by simp only [manyGo]; exact wl_ok h
  | n + 1, x, ts, h => by
    simp only [manyGo]
    split
    · cases hs : F ts.tail with
      | err a e => exact wl_err
      | ok z r2 => exact manyGo_wl hF hM n _ _ (hM _ _ _ h (hF _ _ _ hs))
    · exact wl_ok h
theorem many_wl {en : Nat} {F : Pe} {M : List UInt8 → ExprD → ExprD → ExprD} {signs : List (List UInt8)} (hF : WlF F) (hM : ∀ s a b, okE a → okE b → okE (M s a b)) : WlF (pMany en F M signs) := fun ts => by
  simp only [pMany]
  cases hs : F ts with
  | err a e => exact wl_err
  | ok z r2 => exact manyGo_wl hF hM _ _ _ (hF _ _ _ hs)
theorem wrap_ok (k : Int) (nm : List UInt8) : ∀ (n : Nat) (x : ExprD), okE x → okE (wrapN k nm n x)
  | 0, x, h => h
  | n + 1, x, h => wrap_ok k nm n _ (okE_one h)
theorem turned_wl {en : Nat} {F : Pe} {sign : List UInt8} {k : Int} {nm : List UInt8} (hF : WlF F) : WlF (pTurned en sign F k nm) := fun ts => by
  simp only [pTurned]
  cases hs : F (cntS en sign ts).2 with
  | err a e => exact wl_err
  | ok z r2 => exact wl_ok (wrap_ok _ _ _ _ (hF _ _ _ hs))
theorem bracket_wl {en b : Nat} {one : Nat → Pe} (h1 : ∀ b, WlF (one b)) : WlF (pBracket en b one) := fun ts => by
  simp only [pBracket]
  cases ht : pText en [40] ts with
  | err a e => exact wl_err
  | ok t r1 =>
    dsimp only
    split
    · exact wl_err
    · cases ho : one (b + 1) r1 with
      | err a e => exact wl_err
      | ok y r2 =>
        dsimp only
        cases h2 : pText en [41] r2 with
        | err a e => exact wl_err
        | ok t3 r3 => exact wl_ok (h1 _ _ _ _ ho)
theorem label_wl {en b : Nat} {knot : Nat → Pe} (h1 : ∀ b, WlF (knot b)) : WlF (pLabel en b knot) := fun ts => by
  simp only [pLabel]
  split
  · exact bracket_wl h1 ts
  · split
    · exact wl_ok (okE_leaf _ _)
    · cases hk : pKind en 1 ts with
      | err a e => exact wl_err
      | ok t r1 => exact wl_ok (okE_leaf _ _)
theorem labels_wl (en : Nat) : ∀ n b, WlF (pLabels en n b)
  | 0, b => fun ts => wl_err
  | n + 1, b => many_wl (many_wl (turned_wl (label_wl (labels_wl en n))) fun _ a b h h2 => okE_two h h2) fun _ a b h h2 => okE_two h h2
theorem lit_wl {s : List UInt8} {a : Int} {r : List Tok} : Wl1 okE (pLit s a r) := by
  unfold pLit litV
  cases hr : readV pf uqV s with
  | none => exact wl_err
  | some q =>
    obtain ⟨v, n⟩ := q
    have := readV_ok hr
    dsimp only
    by_cases hn : n = s.length
    · rw [if_pos hn]; exact wl_ok ⟨this, trivial⟩
    · rw [if_neg hn]; exact wl_err
theorem num_wl {en : Nat} {s : List UInt8} {ts : List Tok} : Wl1 okE (pNum en s ts) := by
  unfold pNum
  split
  · exact wl_err
  · exact lit_wl
theorem atom_wl {en b : Nat} {knot : Nat → Pe} (h1 : ∀ b, WlF (knot b)) : WlF (pAtom en b knot) := fun ts => by
  unfold pAtom
  split
  · exact wl_ok (okE_leaf _ _)
  · split
    · exact bracket_wl h1 ts
    · split
      · exact lit_wl
      · split
        · exact num_wl
        · exact num_wl
theorem op_ok (s : List UInt8) (a b : ExprD) (h : okE a) (h2 : okE b) : okE (opE s a b) := okE_two h h2
theorem test_wl {en b : Nat} {knot : Nat → Pe} (h1 : ∀ b, WlF (knot b)) : WlF (pTest en b knot) := fun ts => by
  have hS : WlF (pSum en b knot) := many_wl (many_wl (atom_wl h1) op_ok) op_ok
  simp only [pTest]
  cases hs : pSum en b knot ts with
  | err a e => exact wl_err
  | ok y r1 =>
    have h2 := hS _ _ _ hs
    dsimp only
    split
    · cases hs2 : pSum en b knot r1.tail with
      | err a e => exact wl_err
      | ok z r2 => exact wl_ok (op_ok _ _ _ h2 (hS _ _ _ hs2))
    · split
      · cases ht2 : pText en wNull r1.tail with
        | err a e => exact wl_err
        | ok t r2 => exact wl_ok (okE_one h2)
      · exact wl_ok h2
theorem expr_wl (en : Nat) : ∀ n b, WlF (pExpr en n b)
  | 0, b => fun ts => wl_err
  | n + 1, b => many_wl (many_wl (turned_wl (test_wl (expr_wl en n))) op_ok) op_ok
theorem noE_ok : okE noE := ⟨okNull, trivial⟩
theorem fillW_wl {en n : Nat} {k : Int} {var : List UInt8} {lab : ExprD} {ts : List Tok} (hl : okE lab) : Wl1 okP (pFillW en n k var lab ts) := by
  unfold pFillW
  split
  · cases he : pExpr en n 0 ts.tail with
    | err a e => exact wl_err
    | ok y r2 => exact wl_ok ⟨hl, expr_wl en n 0 _ _ _ he, trivial⟩
  · exact wl_ok ⟨hl, noE_ok, trivial⟩
theorem fillL_wl {en n : Nat} {k : Int} {var : List UInt8} {ts : List Tok} : Wl1 okP (pFillL en n k var ts) := by
  unfold pFillL
  split
  · cases he : pLabels en n 0 ts.tail with
    | err a e => exact wl_err
    | ok y r2 => exact fillW_wl (labels_wl en n 0 _ _ _ he)
  · exact fillW_wl noE_ok
theorem fill_wl {en n : Nat} {k : Int} {ts : List Tok} : Wl1 okP (pFill en n k ts) := by
  unfold pFill
  split
  · exact fillL_wl
  · exact fillL_wl
def WlP (F : List Tok → Res PatD) : Prop := ∀ ts, Wl1 okP (F ts)
theorem setDir_ok (d : Int) {x : PatD} (h : okP x) : okP (x.setDir d) := by obtain ⟨k, var, dir, l, w, mn, mx, kids⟩ := x; exact h
theorem primary_wl {en m g : Nat} {knot : Nat → List Tok → Res PatD} (h1 : ∀ g, WlP (knot g)) : WlP (pPrimary en m g knot) := fun ts => by
  unfold pPrimary
  split
  · exact wl_err
  · split
    · cases hf : pFill en m 1 ts.tail with
      | err a e => exact wl_err
      | ok y r2 =>
        dsimp only
        cases h2 : pText en [41] r2 with
        | err a e => exact wl_err
        | ok t3 r3 => exact wl_ok (fill_wl _ _ hf)
    · split
      · split
        · exact wl_err
        · cases hf : knot (g + 1) ts.tail with
          | err a e => exact wl_err
          | ok y r2 =>
            dsimp only
            cases h2 : pText en [93] r2 with
            | err a e => exact wl_err
            | ok t3 r3 => exact wl_ok (h1 _ _ _ _ hf)
      · split
        · exact wl_ok ⟨noE_ok, noE_ok, trivial⟩
        · cases hf : pFill en m 2 ts.tail with
          | err a e => exact wl_err
          | ok y r2 =>
            dsimp only
            split
            · exact wl_err
            · split
              · exact wl_ok (setDir_ok _ (fill_wl _ _ hf))
              · exact wl_err
theorem item_wl {en m g : Nat} {knot : Nat → List Tok → Res PatD} (h1 : ∀ g, WlP (knot g)) : WlP (pItem en m g knot) := fun ts => by
  unfold pItem
  cases hp : pPrimary en m g knot ts with
  | err a e => exact wl_err
  | ok y r1 =>
    have h2 := primary_wl h1 _ _ _ hp
    dsimp only
    cases ht : pTimes en r1 with
    | err a e => exact wl_err
    | ok o r2 =>
      cases o with
      | none => exact wl_ok h2
      | some q => obtain ⟨mn, mx⟩ := q; exact wl_ok ⟨noE_ok, noE_ok, h2, trivial⟩
theorem rowGo_wl {go : List Tok → Option (List Tok)} {one : List Tok → Res PatD} (h1 : WlP one) : ∀ (n : Nat) (l : List PatD) (ts : List Tok), okPs l → Wl1 okPs (rowGo go one n l ts)
  | 0, l, ts, h => by simp only [rowGo]; exact wl_ok h
  | n + 1, l, ts, h => by
    simp only [rowGo]
    cases hg : go ts with
    | none => exact wl_ok h
    | some ts' =>
      dsimp only
      cases ho : one ts' with
      | err a e => exact wl_err
      | ok y r1 => exact rowGo_wl h1 n _ _ (okPs_snoc (h1 _ _ _ ho) h)
theorem someP_ok (k : Int) {l : List PatD} (h : okPs l) : okP (someP k l) := by
  cases l with
  | nil => exact ⟨noE_ok, noE_ok, trivial⟩
  | cons a r =>
    cases r with
    | nil => exact h.1
    | cons b r => exact ⟨noE_ok, noE_ok, h⟩
theorem row_wl {k : Int} {go : List Tok → Option (List Tok)} {one : List Tok → Res PatD} (h1 : WlP one) : WlP (pRow k go one) := fun ts => by
  unfold pRow
  cases ho : one ts with
  | err a e => exact wl_err
  | ok y r1 =>
    dsimp only
    cases hr : rowGo go one r1.length [y] r1 with
    | err a e => exact wl_err
    | ok l2 r2 => exact wl_ok (someP_ok k (rowGo_wl h1 _ [y] _ (show okPs [y] from ⟨h1 _ _ _ ho, trivial⟩) _ _ hr))
theorem pat_wl (en m : Nat) : ∀ n g, WlP (pPat en m n g)
  | 0, g => fun ts => wl_err
  | n + 1, g => row_wl (row_wl (item_wl (pat_wl en m n)))
theorem query_wl (en : Nat) (ts : List Tok) : Wl1 (fun q => okP q.pat) (pQuery en ts) := by
  unfold pQuery
  cases hs : pSel en (pMode en ts).2 with
  | err a e => exact wl_err
  | ok sk r1 =>
    dsimp only
    cases hp : pPat en (ts.length + 1) (ts.length + 1) 0 r1 with
    | err a e => exact wl_err
    | ok x r2 =>
      dsimp only
      split
      · exact wl_err
      · exact wl_ok (pat_wl en _ _ _ _ _ _ hp)
theorem noP_ok : okP noP := ⟨noE_ok, noE_ok, trivial⟩
theorem parse_ok (s : List UInt8) : okP (parseV s).1.pat := by
  unfold parseV
  split
  · exact noP_ok
  · split
    · exact noP_ok
    · rename_i l _
      unfold parseT
      cases hq : pQuery s.length l with
      | err a e => exact noP_ok
      | ok q r =>
        dsimp only
        split
        · exact noP_ok
        · exact query_wl _ _ _ _ hq
end Go.Proofs.YtjnabgddjogkbaaGreatDoor
namespace Go.Proofs.YtjnabgddjogkbaaGreatDoor
open Go.RowKit Go.Bw Go.Bw.Fl
set_option linter.unusedVariables false
set_option linter.unusedSimpArgs false
theorem fa28_0PsX (p : Addr) (w : World) : (Instr.fieldAt 28 (.pointer (some p)) 0).run Tryz.prog w = .ok (.pointer (some (p.add 0))) w := run_fieldAt (i := 0) (sz := 0) Tryz.underlying28 rfl (by kernel_rfl) p w
theorem fa28_1PsX (p : Addr) (w : World) : (Instr.fieldAt 28 (.pointer (some p)) 1).run Tryz.prog w = .ok (.pointer (some (p.add 1))) w := run_fieldAt (i := 1) (sz := 0) Tryz.underlying28 rfl (by kernel_rfl) p w
theorem fa28_2PsX (p : Addr) (w : World) : (Instr.fieldAt 28 (.pointer (some p)) 2).run Tryz.prog w = .ok (.pointer (some (p.add 2))) w := run_fieldAt (i := 2) (sz := 3) Tryz.underlying28 rfl (by kernel_rfl) p w
theorem fa28_3PsX (p : Addr) (w : World) : (Instr.fieldAt 28 (.pointer (some p)) 3).run Tryz.prog w = .ok (.pointer (some (p.add 6))) w := run_fieldAt (i := 3) (sz := 0) Tryz.underlying28 rfl (by kernel_rfl) p w
theorem fa31_0PsX (p : Addr) (w : World) : (Instr.fieldAt 31 (.pointer (some p)) 0).run Tryz.prog w = .ok (.pointer (some (p.add 0))) w := run_fieldAt (i := 0) (sz := 0) Tryz.underlying31 rfl (by kernel_rfl) p w
theorem fa31_1PsX (p : Addr) (w : World) : (Instr.fieldAt 31 (.pointer (some p)) 1).run Tryz.prog w = .ok (.pointer (some (p.add 1))) w := run_fieldAt (i := 1) (sz := 0) Tryz.underlying31 rfl (by kernel_rfl) p w
theorem fa31_2PsX (p : Addr) (w : World) : (Instr.fieldAt 31 (.pointer (some p)) 2).run Tryz.prog w = .ok (.pointer (some (p.add 2))) w := run_fieldAt (i := 2) (sz := 0) Tryz.underlying31 rfl (by kernel_rfl) p w
theorem fa31_3PsX (p : Addr) (w : World) : (Instr.fieldAt 31 (.pointer (some p)) 3).run Tryz.prog w = .ok (.pointer (some (p.add 3))) w := run_fieldAt (i := 3) (sz := 6) Tryz.underlying31 rfl (by kernel_rfl) p w
theorem fa31_4PsX (p : Addr) (w : World) : (Instr.fieldAt 31 (.pointer (some p)) 4).run Tryz.prog w = .ok (.pointer (some (p.add 10))) w := run_fieldAt (i := 4) (sz := 6) Tryz.underlying31 rfl (by kernel_rfl) p w
theorem fa31_5PsX (p : Addr) (w : World) : (Instr.fieldAt 31 (.pointer (some p)) 5).run Tryz.prog w = .ok (.pointer (some (p.add 17))) w := run_fieldAt (i := 5) (sz := 0) Tryz.underlying31 rfl (by kernel_rfl) p w
theorem fa31_6PsX (p : Addr) (w : World) : (Instr.fieldAt 31 (.pointer (some p)) 6).run Tryz.prog w = .ok (.pointer (some (p.add 18))) w := run_fieldAt (i := 6) (sz := 0) Tryz.underlying31 rfl (by kernel_rfl) p w
theorem fa31_7PsX (p : Addr) (w : World) : (Instr.fieldAt 31 (.pointer (some p)) 7).run Tryz.prog w = .ok (.pointer (some (p.add 19))) w := run_fieldAt (i := 7) (sz := 0) Tryz.underlying31 rfl (by kernel_rfl) p w
theorem fa33_0PsX (p : Addr) (w : World) : (Instr.fieldAt 33 (.pointer (some p)) 0).run Tryz.prog w = .ok (.pointer (some (p.add 0))) w := run_fieldAt (i := 0) (sz := 0) Tryz.underlying33 rfl (by kernel_rfl) p w
theorem fa33_1PsX (p : Addr) (w : World) : (Instr.fieldAt 33 (.pointer (some p)) 1).run Tryz.prog w = .ok (.pointer (some (p.add 1))) w := run_fieldAt (i := 1) (sz := 0) Tryz.underlying33 rfl (by kernel_rfl) p w
theorem fa33_2PsX (p : Addr) (w : World) : (Instr.fieldAt 33 (.pointer (some p)) 2).run Tryz.prog w = .ok (.pointer (some (p.add 2))) w := run_fieldAt (i := 2) (sz := 0) Tryz.underlying33 rfl (by kernel_rfl) p w
theorem fa33_3PsX (p : Addr) (w : World) : (Instr.fieldAt 33 (.pointer (some p)) 3).run Tryz.prog w = .ok (.pointer (some (p.add 3))) w := run_fieldAt (i := 3) (sz := 19) Tryz.underlying33 rfl (by kernel_rfl) p w
theorem one26PsX : One Tryz.prog 26 := ⟨_, Tryz.underlying26, rfl, by kernel_rfl⟩
theorem one29PsX : One Tryz.prog 29 := ⟨_, Tryz.underlying29, rfl, by kernel_rfl⟩
theorem one3PsX : One Tryz.prog 3 := ⟨_, Tryz.underlying3, rfl, by kernel_rfl⟩
theorem one9PsX : One Tryz.prog 9 := ⟨_, Tryz.underlying9, rfl, by kernel_rfl⟩
theorem sz28PsX : (Tryz.prog.info? 28).map (·.size) = some 7 := by kernel_rfl
theorem sz31PsX : (Tryz.prog.info? 31).map (·.size) = some 20 := by kernel_rfl
theorem txt12PsX : Txt Tryz.prog 12 := ⟨_, Tryz.func12, by kernel_rfl, rfl⟩   -- bridleway/parse.Parse
theorem txt29PsX : Txt Tryz.prog 29 := ⟨_, Tryz.func29, by kernel_rfl, rfl⟩   -- bridleway/bridlewayref11.SamePat
theorem txt53PsX : Txt Tryz.prog 53 := ⟨_, Tryz.func53, by kernel_rfl, rfl⟩   -- bridleway/bridlewayref11.SameExpr
theorem txt76PsX : Txt Tryz.prog 76 := ⟨_, Tryz.func76, by kernel_rfl, rfl⟩   -- bridleway/bridlewayref02.Same
theorem ParseT_r {s : List UInt8} {q : QryD} {a e : Int} (h : parseV s = (q, a, e)) (hs : s.length ≤ 70368744177664) (w : World) (hX : Lx w) : Ret Tryz.prog 12 [str s] w fun v w' => (∃ (z : PC) (S : Nat → Prop), v = .tuple #[.agg (qcells q.mode q.sel q.kk z).toArray, .int .i64 a, .int .i64 e] ∧ PAt w' S q.pat z.cells ∧ ∀ k, S k → w.heap.size ≤ k ∧ k < w'.heap.size) ∧ Below w.heap.size w w' :=
  (ParseQ_r s hs w hX).mono fun v w' ⟨⟨q', a', e', z, S, h1, h2, h3, h4⟩, h5⟩ => ⟨by
    rw [h] at h1; cases h1
    exact ⟨z, S, h2, h3, h4⟩, h5⟩
/-! ### trees read -/
theorem str_inj {a b : List UInt8} (h : str a = str b) : a = b := by
  unfold str at h; simpa using h
theorem EC.val (x : EC) {j : Nat} {u : Value} (h : x.v.cells[j]? = some u) : x.cells[2 + j]? = some u := by
  show ([Value.int .i64 x.k, str x.nm] ++ (x.v.cells ++ [.slice x.A x.n x.c]))[2 + j]? = _
  have hj : j < x.v.cells.length := (List.getElem?_eq_some_iff.1 h).1
  rw [List.getElem?_append_right (by simp), List.getElem?_append_left (by simpa using hj), ← h]
  congr 1; simp
theorem EAt.see {w : World} {S : Nat → Prop} {k : Int} {nm : List UInt8} {v : Val} {kids : List ExprD} {z : EC} (h : EAt w S (.mk k nm v kids) z.cells) : z.k = k ∧ z.nm = nm ∧ z.v = v ∧ ∃ A c, z.cells[6]? = some (.slice A kids.length c) ∧ kids.length ≤ 65537 ∧ (∀ q, A = some q → S q.block) ∧ ∀ (i : Nat) (hi : i < kids.length), ∃ (p : Addr) (z' : EC), A = some p ∧ EAt w S kids[i] z'.cells ∧ ∀ (j : Nat) (u : Value), z'.cells[j]? = some u → w.cell? ((p.add (i * 7)).add j) = some u := by
  unfold EAt at h
  obtain ⟨A, c, kcs, h1, hR, hS, hL, hk65⟩ := h
  obtain ⟨zk, znm, zv, zA, zn, zc⟩ := z
  obtain ⟨vk, vn, vf, vs⟩ := v
  obtain ⟨wk, wn, wf, ws⟩ := zv
  simp only [EC.cells, List.cons.injEq, Value.int.injEq, Value.float.injEq, true_and, and_true] at h1
  obtain ⟨e1, e2, e3, e4, e5, e6, e7⟩ := h1
  have e2 := str_inj e2
  have e6 := str_inj e6
  subst e1 e2 e3 e4 e5 e6
  exact ⟨rfl, rfl, rfl, A, c, by rw [← e7]; rfl, hk65, hS, fun i hi => Rd.kidE hR hL hi⟩
theorem PAt.see {w : World} {S : Nat → Prop} {k : Int} {var : List UInt8} {dir : Int} {l wh : ExprD} {mn mx : Int} {kids : List PatD} {z : PC} (h : PAt w S (.mk k var dir l wh mn mx kids) z.cells) : z.k = k ∧ z.var = var ∧ z.dir = dir ∧ z.mn = mn ∧ z.mx = mx ∧ EAt w S l z.l.cells ∧ EAt w S wh z.wh.cells ∧ ∃ A c, z.cells[19]? = some (.slice A kids.length c) ∧ kids.length ≤ 65537 ∧ (∀ q, A = some q → S q.block) ∧ ∀ (i : Nat) (hi : i < kids.length), ∃ (p : Addr) (z' : PC), A = some p ∧ PAt w S kids[i] z'.cells ∧ ∀ (j : Nat) (u : Value), z'.cells[j]? = some u → w.cell? ((p.add (i * 20)).add j) = some u := by
  unfold PAt at h
  obtain ⟨lc, wc, A, c, kcs, h1, hEl, hEw, hR, hS, hL, hk65⟩ := h
  obtain ⟨zk, zvar, zdir, zl, zwh, zmn, zmx, zA, zn, zc⟩ := z
  have e0 : str zvar = str var := by have := congrArg (·[1]?) h1; simpa [PC.cells] using this
  have e1 : zk = k := by have := congrArg (·[0]?) h1; simpa [PC.cells] using this
  have e2 : zdir = dir := by have := congrArg (·[2]?) h1; simpa [PC.cells] using this
  have el : zl.cells = lc.cells := by have := congrArg (fun l => (l.drop 3).take 7) h1; simpa [PC.cells, EC.cells] using this
  have ew : zwh.cells = wc.cells := by have := congrArg (fun l => (l.drop 10).take 7) h1; simpa [PC.cells, EC.cells] using this
  have e3 : zmn = mn := by have := congrArg (·[17]?) h1; simpa [PC.cells, EC.cells] using this
  have e4 : zmx = mx := by have := congrArg (·[18]?) h1; simpa [PC.cells, EC.cells] using this
  have e5 : (PC.cells ⟨zk, zvar, zdir, zl, zwh, zmn, zmx, zA, zn, zc⟩)[19]? = some (.slice A kids.length c) := by rw [h1]; rfl
  exact ⟨e1, str_inj e0, e2, e3, e4, by rw [el]; exact hEl, by rw [ew]; exact hEw, A, c, e5, hk65, hS, fun i hi => Rd.kid hR hL hi⟩
/-! ### the reference's Same, of two that are the same -/
theorem SameE_r (n : Nat) : ∀ (e : ExprD) (x y : EC) (S T : Nat → Prop) (w : World), deepE e ≤ n → okE e → EAt w S e x.cells → EAt w T e y.cells → Ret Tryz.prog 53 [x.enc, y.enc] w fun v w' => v = .bool true ∧ Below w.heap.size w w' := by
  induction n using Nat.strongRecOn with
  | ind n ih =>
  intro e x y S T w hn hok hE hF
  obtain ⟨k, nm, v, kids⟩ := e
  obtain ⟨h1, h2, h3, A, c, hcA, hk65, _, hkA⟩ := EAt.see hE
  obtain ⟨g1, g2, g3, B, d, hcB, _, _, hkB⟩ := EAt.see hF
  have hdn : deepEs kids + 1 ≤ n := hn
  have hvo : v.Ok := hok.1
  have hb := Below.refl w.heap.size w
  refine enter Tryz.func53 rfl rfl rfl ?_
  refine Wc.seq fun _ hK_1 => Wc.region ?_
  refine Wl.boxN rfl rfl ?_
  rintro g_o0 w_o0 hg_o0 hn_o0 hs_o0
  have hz_o0 := hs_o0.size
  have hb := hb.trans (hs_o0.mono hb.size)
  have hB_o0 := hn_o0
  have hl_o0 := hB_o0.lt
  refine Wl.boxN rfl rfl ?_
  rintro g_o1 w_o1 hg_o1 hn_o1 hs_o1
  have hz_o1 := hs_o1.size
  have hb := hb.trans (hs_o1.mono hb.size)
  try have hB_o0 := Blk.below hB_o0 hs_o1
  have hB_o1 := hn_o1
  have hl_o1 := hB_o1.lt
  refine Wl.sg rfl rfl <| Wl.nil <| Wq.next hK_1 <| Wc.seq fun _ hK_5 => Wc.region ?_
  refine Wl.y (y_fieldAddr (fa28_2PsX _) rfl) rfl ?_
  refine Wl.l (l_loadS Tryz.underlying25 (by kernel_rfl) rfl (by exact fun j u hu => by rw [addr_add_add]; exact hB_o0.at (x.val hu))) rfl ?_
  refine Wl.y (y_fieldAddr (fa28_2PsX _) rfl) rfl ?_
  refine Wl.l (l_loadS Tryz.underlying25 (by kernel_rfl) rfl (by exact fun j u hu => by rw [addr_add_add]; exact hB_o1.at (y.val hu))) rfl ?_
  refine Wl.call txt76PsX rfl rfl (RSame_r x.v y.v (by rw [h3]; exact hvo) (by rw [g3]; exact hvo) _) rfl ?_
  rintro _ w_k0 ⟨rfl, hs_k0⟩
  have hz_k0 := hs_k0.size
  have hb := hb.trans (hs_k0.mono hb.size)
  try have hB_o0 := Blk.below hB_o0 hs_k0
  try have hB_o1 := Blk.below hB_o1 hs_k0
  refine Wl.sg rfl rfl <| Wl.nil <| Wq.next hK_5 <| Wc.seq fun _ hK_12 => Wc.seq fun _ hK_13 => Wc.region ?_
  refine Wl.y (y_fieldAddr (fa28_0PsX _) rfl) rfl ?_
  refine Wl.l (l_load one3PsX rfl (by exact hB_o0.at (j := 0) rfl)) rfl ?_
  refine Wl.y (y_fieldAddr (fa28_0PsX _) rfl) rfl ?_
  refine Wl.l (l_load one3PsX rfl (by exact hB_o1.at (j := 0) rfl)) rfl ?_
  refine Wl.y (y_neqi rfl rfl) rfl <| Wl.mv rfl rfl ?_
  refine Wl.guardF rfl rfl rfl (fun g_20 => ?_) (fun g_20 => ?_)
  ·
   have g_20_ := g_20
   try simp only [DZ] at g_20
   exact absurd g_20_ (by rw [h1, g1]; simp)
  have g_20_ := g_20
  try simp only [DZ] at g_20
  refine Wl.y (y_fieldAddr (fa28_1PsX _) rfl) rfl ?_
  refine Wl.on' rfl rfl g_20_ ?_
  refine Wl.l (l_load one9PsX rfl (by exact hB_o0.at (j := 1) rfl)) rfl ?_
  refine Wl.on' rfl rfl g_20_ ?_
  refine Wl.y (y_fieldAddr (fa28_1PsX _) rfl) rfl ?_
  refine Wl.on' rfl rfl g_20_ ?_
  refine Wl.l (l_load one9PsX rfl (by exact hB_o1.at (j := 1) rfl)) rfl ?_
  refine Wl.on' rfl rfl g_20_ <| Wl.y (y_neqs rfl rfl) rfl ?_
  refine Wl.y (y_pickF rfl g_20_ rfl) rfl ?_
  refine Wl.mv rfl rfl ?_
  refine Wl.guardF rfl rfl rfl (fun g_28 => ?_) (fun g_28 => ?_)
  ·
   have g_28_ := g_28
   try simp only [DZ] at g_28
   exact absurd g_28_ (by rw [h2, g2]; simp)
  have g_28_ := g_28
  try simp only [DZ] at g_28
  refine Wl.mv rfl rfl <| Wl.on' rfl rfl g_28_ <| Wl.y (y_not rfl) rfl ?_
  refine Wl.y (y_pickF rfl g_28_ rfl) rfl ?_
  refine Wl.mv rfl rfl ?_
  refine Wl.guardF rfl rfl rfl (fun g_33 => ?_) (fun g_33 => ?_)
  ·
   have g_33_ := g_33
   try simp only [DZ] at g_33
   exact absurd g_33_ (by rw [h3, g3, sameV_self]; simp)
  have g_33_ := g_33
  try simp only [DZ] at g_33
  refine Wl.y (y_fieldAddr (fa28_3PsX _) rfl) rfl ?_
  refine Wl.on' rfl rfl g_33_ ?_
  refine Wl.l (l_load one26PsX rfl (by exact hB_o0.at (j := 6) hcA)) rfl ?_
  refine Wl.on' rfl rfl g_33_ ?_
  refine Wl.y (y_lenl Tryz.underlying26 (by omega) rfl) rfl ?_
  refine Wl.on' rfl rfl g_33_ ?_
  refine Wl.y (y_fieldAddr (fa28_3PsX _) rfl) rfl ?_
  refine Wl.on' rfl rfl g_33_ ?_
  refine Wl.l (l_load one26PsX rfl (by exact hB_o1.at (j := 6) hcB)) rfl ?_
  refine Wl.on' rfl rfl g_33_ ?_
  refine Wl.y (y_lenl Tryz.underlying26 (by omega) rfl) rfl ?_
  refine Wl.on' rfl rfl g_33_ <| Wl.y (y_neqi rfl rfl) rfl ?_
  refine Wl.y (y_pickF rfl g_33_ rfl) rfl ?_
  refine Wl.nil <| Wq.next hK_13 ?_
  refine Wc.cond rfl (fun c0_42 => ?_) (fun c0_42 => ?_)
  ·
   have c0_42_ := c0_42
   try simp only [DZ] at c0_42
   exact absurd c0_42_ (by simp)
  have c0_42_ := c0_42
  try simp only [DZ] at c0_42
  refine Wc.skip <| Wq.next hK_12 <| Wc.seq fun _ hK_43 => Wc.seq fun _ hK_44 => Wc.region <| Wl.sg rfl rfl <| Wl.nil <| Wq.next hK_44 <| Wc.block ?_
  refine Wc.loop (X := Nat) (fun i => [(2, .pointer (some ⟨g_o0, 0, none⟩)), (3, .pointer (some ⟨g_o1, 0, none⟩)), (6, .int .i64 (i : Int))]) (fun i wr => i ≤ kids.length ∧ Below w.heap.size w wr ∧ Blk wr g_o0 28 x.cells ∧ Blk wr g_o1 28 y.cells) (fun i => kids.length - i) (0) ?_ ?_ ?_
  · exact by repeat first | exact Sub.nil | refine Sub.cons' rfl (by first | rfl | exact int_eq (by omega)) ?_
  · exact ⟨by omega, hb, hB_o0, hB_o1⟩
  rintro i wr hI_47 _ hL_46
  replace hI_47 : i ≤ kids.length ∧ Below w.heap.size w wr ∧ Blk wr g_o0 28 x.cells ∧ Blk wr g_o1 28 y.cells := hI_47
  obtain ⟨hi, hb, hB_o0, hB_o1⟩ := hI_47
  show Wc _ _ _ _ _ [(2, .pointer (some ⟨g_o0, 0, none⟩)), (3, .pointer (some ⟨g_o1, 0, none⟩)), (6, .int .i64 (i : Int))] _
  try have hzhb_L0 := hb.size
  have hlhB_o0_L0 := hB_o0.lt
  have hlhB_o1_L0 := hB_o1.lt
  refine Wc.seq fun _ hK_48 => Wc.seq fun _ hK_49 => Wc.region <| Wl.mv rfl rfl ?_
  refine Wl.y (y_fieldAddr (fa28_3PsX _) rfl) rfl ?_
  refine Wl.l (l_load one26PsX rfl (by exact hB_o0.at (j := 6) hcA)) rfl ?_
  refine Wl.y (y_lenl Tryz.underlying26 (by omega) rfl) rfl ?_
  refine Wl.y (y_lssi rfl rfl) rfl <| Wl.nil <| Wq.next hK_49 ?_
  refine Wc.cond rfl (fun c1_55 => ?_) (fun c1_55 => ?_)
  ·
   have c1_55_ := c1_55
   try simp only [DZ] at c1_55
   have hil : i < kids.length := by have := c1_55; omega
   have hdk := deepEs_get hil
   have hok2 := okEs_get hil hok.2
   obtain ⟨p, z1, rfl, hz1, hc1⟩ := hkA i hil
   obtain ⟨q, z2, rfl, hz2, hc2⟩ := hkB i hil
   refine Wc.skip <| Wq.next hK_48 <| Wc.seq fun _ hK_56 => Wc.block <| Wc.seq fun _ hK_57 => ?_
   refine Wc.any (n := 12) (fun w' => Below w.heap.size w w' ∧ Blk w' g_o0 28 x.cells ∧ Blk w' g_o1 28 y.cells) #[false, false, false, false, false, false, false, false, false, false, false, false] (by kernel_rfl) rfl (by kernel_rfl) ?_
   refine Wa.drew ?_
   rintro w_g6 hs_g6
   have hz_g6 := hs_g6.size
   have hb := hb.trans (hs_g6.mono hb.size)
   try have hB_o0 := Blk.below hB_o0 hs_g6
   try have hB_o1 := Blk.below hB_o1 hs_g6
   refine Wa.take (i := 0) #[true, false, false, false, false, false, false, false, false, false, false, false] rfl (by kernel_rfl) (fun _ _ _ h => h) rfl (fun wq hq => Yl.ld (y_fieldAddr (fa28_3PsX _) rfl)) ⟨hb, hB_o0, hB_o1⟩ ?_
   refine Wa.take (i := 1) #[true, true, false, false, false, false, false, false, false, false, false, false] rfl (by kernel_rfl) (fun _ _ _ h => h) rfl (fun wq hq => l_load one26PsX rfl (by obtain ⟨hq, hB_o0, hB_o1⟩ := hq; exact hB_o0.at (j := 6) hcA)) ⟨hb, hB_o0, hB_o1⟩ ?_
   refine Wa.take (i := 2) #[true, true, true, false, false, false, false, false, false, false, false, false] rfl (by kernel_rfl) (fun _ _ _ h => h) rfl (fun wq hq => Yl.ld (y_move rfl)) ⟨hb, hB_o0, hB_o1⟩ ?_
   refine Wa.take (i := 3) #[true, true, true, true, false, false, false, false, false, false, false, false] rfl (by kernel_rfl) (fun _ _ _ h => h) rfl (fun wq hq => Yl.ld (y_indexAddr Tryz.underlying26 sz28PsX rfl rfl (by omega) (by omega))) ⟨hb, hB_o0, hB_o1⟩ ?_
   refine Wa.take (i := 4) #[true, true, true, true, true, false, false, false, false, false, false, false] rfl (by kernel_rfl) (fun _ _ _ h => h) rfl (fun wq hq => l_loadS Tryz.underlying28 (by kernel_rfl) rfl (by obtain ⟨hq, hB_o0, hB_o1⟩ := hq; exact fun j u hu => by rw [Int.toNat_natCast]; exact cell_below hq (hc1 j u hu))) ⟨hb, hB_o0, hB_o1⟩ ?_
   refine Wa.take (i := 5) #[true, true, true, true, true, true, false, false, false, false, false, false] rfl (by kernel_rfl) (fun _ _ _ h => h) rfl (fun wq hq => Yl.ld (y_fieldAddr (fa28_3PsX _) rfl)) ⟨hb, hB_o0, hB_o1⟩ ?_
   refine Wa.take (i := 6) #[true, true, true, true, true, true, true, false, false, false, false, false] rfl (by kernel_rfl) (fun _ _ _ h => h) rfl (fun wq hq => l_load one26PsX rfl (by obtain ⟨hq, hB_o0, hB_o1⟩ := hq; exact hB_o1.at (j := 6) hcB)) ⟨hb, hB_o0, hB_o1⟩ ?_
   refine Wa.take (i := 7) #[true, true, true, true, true, true, true, true, false, false, false, false] rfl (by kernel_rfl) (fun _ _ _ h => h) rfl (fun wq hq => Yl.ld (y_move rfl)) ⟨hb, hB_o0, hB_o1⟩ ?_
   refine Wa.take (i := 8) #[true, true, true, true, true, true, true, true, true, false, false, false] rfl (by kernel_rfl) (fun _ _ _ h => h) rfl (fun wq hq => Yl.ld (y_indexAddr Tryz.underlying26 sz28PsX rfl rfl (by omega) (by omega))) ⟨hb, hB_o0, hB_o1⟩ ?_
   refine Wa.take (i := 9) #[true, true, true, true, true, true, true, true, true, true, false, false] rfl (by kernel_rfl) (fun _ _ _ h => h) rfl (fun wq hq => l_loadS Tryz.underlying28 (by kernel_rfl) rfl (by obtain ⟨hq, hB_o0, hB_o1⟩ := hq; exact fun j u hu => by rw [Int.toNat_natCast]; exact cell_below hq (hc2 j u hu))) ⟨hb, hB_o0, hB_o1⟩ ?_
   refine Wa.some (rs := [10]) (by kernel_rfl) rfl ?_
   refine Ws.cons #[true, true, true, true, true, true, true, true, true, true, true, false] rfl rfl (fun _ hK_68 => ?_) ?_
   ·
    refine Wl.call txt53PsX rfl rfl (ih (n - 1) (by omega) kids[i] z1 z2 S T _ (by omega) hok2 (EAt.below hz1 hb) (EAt.below hz2 hb)) rfl ?_
    rintro _ w_k1 ⟨rfl, hs_k1⟩
    have hz_k1 := hs_k1.size
    have hb := hb.trans (hs_k1.mono hb.size)
    try have hB_o0 := Blk.below hB_o0 hs_k1
    try have hB_o1 := Blk.below hB_o1 hs_k1
    refine Wl.nil ?_
    refine Wq.back hK_68 ⟨hb, hB_o0, hB_o1⟩ ?_
    refine Wa.take (i := 11) #[true, true, true, true, true, true, true, true, true, true, true, true] rfl (by kernel_rfl) (fun _ _ _ h => h) rfl (fun wq hq => Yl.ld (y_assign rfl)) ⟨hb, hB_o0, hB_o1⟩ ?_
    refine Wa.done (by kernel_rfl) ?_
    refine Wq.next hK_57 <| Wc.seq fun _ hK_71 => Wc.region <| Wl.mv rfl rfl <| Wl.y (y_not rfl) rfl <| Wl.nil <| Wq.next hK_71 ?_
    refine Wc.cond rfl (fun c2_74 => ?_) (fun c2_74 => ?_)
    ·
     have c2_74_ := c2_74
     try simp only [DZ] at c2_74
     exact absurd c2_74_ (by simp)
    have c2_74_ := c2_74
    try simp only [DZ] at c2_74
    refine Wc.skip <| Wq.block_normal <| Wq.next hK_56 <| Wc.region <| Wl.mv rfl rfl ?_
    refine Wl.y (y_addI rfl rfl (by first | omega | (simp; done) | (simp; omega)) (by first | omega | (simp; done) | (simp; omega))) rfl ?_
    refine Wl.sg rfl rfl <| Wl.nil ?_
    refine fun a_ ha_ => hL_46 _ _ (i + 1) (by first | omega | (simp; omega)) (by repeat first | exact Sub.nil | refine Sub.cons' rfl (by first | rfl | exact int_eq (by omega)) ?_) ?_ a_ ha_
    exact ⟨by omega, hb, hB_o0, hB_o1⟩
   exact Ws.nil
  have c1_55_ := c1_55
  try simp only [DZ] at c1_55
  refine Wc.exit ?_
  refine Wq.then_exit <| Wq.then_exit <| Wq.block_exit <| Wq.next hK_43 <| Wc.seq fun _ hK_78 => Wc.region <| Wl.sg rfl rfl <| Wl.nil <| Wq.next hK_78 <| Wc.ret ?_
  refine ret1 rfl rfl ?_
  exact ⟨_, rfl, rfl, hb⟩
theorem SameP_r (n : Nat) : ∀ (e : PatD) (x y : PC) (S T : Nat → Prop) (w : World), deepP e ≤ n → okP e → PAt w S e x.cells → PAt w T e y.cells → Ret Tryz.prog 29 [x.enc, y.enc] w fun v w' => v = .bool true ∧ Below w.heap.size w w' := by
  induction n using Nat.strongRecOn with
  | ind n ih =>
  intro e x y S T w hn hok hE hF
  obtain ⟨k, var, dir, l, wh, mn, mx, kids⟩ := e
  obtain ⟨h1, h2, h3, h4, h5, hEl, hEw, A, c, hcA, hk65, _, hkA⟩ := PAt.see hE
  obtain ⟨g1, g2, g3, g4, g5, hFl, hFw, B, d, hcB, _, _, hkB⟩ := PAt.see hF
  have hdn : deepPs kids + 1 ≤ n := hn
  obtain ⟨hok1, hok2, hok3⟩ : okE l ∧ okE wh ∧ okPs kids := hok
  have hb := Below.refl w.heap.size w
  refine enter Tryz.func29 rfl rfl rfl ?_
  refine Wc.seq fun _ hK_1 => Wc.region ?_
  refine Wl.boxN rfl rfl ?_
  rintro g_o0 w_o0 hg_o0 hn_o0 hs_o0
  have hz_o0 := hs_o0.size
  have hb := hb.trans (hs_o0.mono hb.size)
  have hB_o0 := hn_o0
  have hl_o0 := hB_o0.lt
  refine Wl.boxN rfl rfl ?_
  rintro g_o1 w_o1 hg_o1 hn_o1 hs_o1
  have hz_o1 := hs_o1.size
  have hb := hb.trans (hs_o1.mono hb.size)
  try have hB_o0 := Blk.below hB_o0 hs_o1
  have hB_o1 := hn_o1
  have hl_o1 := hB_o1.lt
  refine Wl.sg rfl rfl <| Wl.nil <| Wq.next hK_1 <| Wc.seq fun _ hK_5 => Wc.region ?_
  refine Wl.y (y_fieldAddr (fa31_3PsX _) rfl) rfl ?_
  refine Wl.l (l_loadS Tryz.underlying28 (by kernel_rfl) rfl (by exact fun j u hu => by rw [addr_add_add]; exact hB_o0.at (x.lab hu))) rfl ?_
  refine Wl.y (y_fieldAddr (fa31_3PsX _) rfl) rfl ?_
  refine Wl.l (l_loadS Tryz.underlying28 (by kernel_rfl) rfl (by exact fun j u hu => by rw [addr_add_add]; exact hB_o1.at (y.lab hu))) rfl ?_
  refine Wl.call txt53PsX rfl rfl (SameE_r (deepE l) l x.l y.l S T _ (Nat.le_refl _) hok1 (EAt.below hEl hb) (EAt.below hFl hb)) rfl ?_
  rintro _ w_k0 ⟨rfl, hs_k0⟩
  have hz_k0 := hs_k0.size
  have hb := hb.trans (hs_k0.mono hb.size)
  try have hB_o0 := Blk.below hB_o0 hs_k0
  try have hB_o1 := Blk.below hB_o1 hs_k0
  refine Wl.sg rfl rfl <| Wl.nil <| Wq.next hK_5 <| Wc.seq fun _ hK_12 => Wc.region ?_
  refine Wl.y (y_fieldAddr (fa31_4PsX _) rfl) rfl ?_
  refine Wl.l (l_loadS Tryz.underlying28 (by kernel_rfl) rfl (by exact fun j u hu => by rw [addr_add_add]; exact hB_o0.at (x.whr hu))) rfl ?_
  refine Wl.y (y_fieldAddr (fa31_4PsX _) rfl) rfl ?_
  refine Wl.l (l_loadS Tryz.underlying28 (by kernel_rfl) rfl (by exact fun j u hu => by rw [addr_add_add]; exact hB_o1.at (y.whr hu))) rfl ?_
  refine Wl.call txt53PsX rfl rfl (SameE_r (deepE wh) wh x.wh y.wh S T _ (Nat.le_refl _) hok2 (EAt.below hEw hb) (EAt.below hFw hb)) rfl ?_
  rintro _ w_k1 ⟨rfl, hs_k1⟩
  have hz_k1 := hs_k1.size
  have hb := hb.trans (hs_k1.mono hb.size)
  try have hB_o0 := Blk.below hB_o0 hs_k1
  try have hB_o1 := Blk.below hB_o1 hs_k1
  refine Wl.sg rfl rfl <| Wl.nil <| Wq.next hK_12 <| Wc.seq fun _ hK_19 => Wc.seq fun _ hK_20 => Wc.region ?_
  refine Wl.y (y_fieldAddr (fa31_0PsX _) rfl) rfl ?_
  refine Wl.l (l_load one3PsX rfl (by exact hB_o0.at (j := 0) rfl)) rfl ?_
  refine Wl.y (y_fieldAddr (fa31_0PsX _) rfl) rfl ?_
  refine Wl.l (l_load one3PsX rfl (by exact hB_o1.at (j := 0) rfl)) rfl ?_
  refine Wl.y (y_neqi rfl rfl) rfl <| Wl.mv rfl rfl ?_
  refine Wl.guardF rfl rfl rfl (fun g_27 => ?_) (fun g_27 => ?_)
  ·
   have g_27_ := g_27
   try simp only [DZ] at g_27
   exact absurd g_27_ (by rw [h1, g1]; simp)
  have g_27_ := g_27
  try simp only [DZ] at g_27
  refine Wl.y (y_fieldAddr (fa31_1PsX _) rfl) rfl ?_
  refine Wl.on' rfl rfl g_27_ ?_
  refine Wl.l (l_load one9PsX rfl (by exact hB_o0.at (j := 1) rfl)) rfl ?_
  refine Wl.on' rfl rfl g_27_ ?_
  refine Wl.y (y_fieldAddr (fa31_1PsX _) rfl) rfl ?_
  refine Wl.on' rfl rfl g_27_ ?_
  refine Wl.l (l_load one9PsX rfl (by exact hB_o1.at (j := 1) rfl)) rfl ?_
  refine Wl.on' rfl rfl g_27_ <| Wl.y (y_neqs rfl rfl) rfl ?_
  refine Wl.y (y_pickF rfl g_27_ rfl) rfl ?_
  refine Wl.mv rfl rfl ?_
  refine Wl.guardF rfl rfl rfl (fun g_35 => ?_) (fun g_35 => ?_)
  ·
   have g_35_ := g_35
   try simp only [DZ] at g_35
   exact absurd g_35_ (by rw [h2, g2]; simp)
  have g_35_ := g_35
  try simp only [DZ] at g_35
  refine Wl.y (y_fieldAddr (fa31_2PsX _) rfl) rfl ?_
  refine Wl.on' rfl rfl g_35_ ?_
  refine Wl.l (l_load one3PsX rfl (by exact hB_o0.at (j := 2) rfl)) rfl ?_
  refine Wl.on' rfl rfl g_35_ ?_
  refine Wl.y (y_fieldAddr (fa31_2PsX _) rfl) rfl ?_
  refine Wl.on' rfl rfl g_35_ ?_
  refine Wl.l (l_load one3PsX rfl (by exact hB_o1.at (j := 2) rfl)) rfl ?_
  refine Wl.on' rfl rfl g_35_ <| Wl.y (y_neqi rfl rfl) rfl ?_
  refine Wl.y (y_pickF rfl g_35_ rfl) rfl ?_
  refine Wl.mv rfl rfl ?_
  refine Wl.guardF rfl rfl rfl (fun g_43 => ?_) (fun g_43 => ?_)
  ·
   have g_43_ := g_43
   try simp only [DZ] at g_43
   exact absurd g_43_ (by rw [h3, g3]; simp)
  have g_43_ := g_43
  try simp only [DZ] at g_43
  refine Wl.y (y_fieldAddr (fa31_5PsX _) rfl) rfl ?_
  refine Wl.on' rfl rfl g_43_ ?_
  refine Wl.l (l_load one3PsX rfl (by exact hB_o0.at (j := 17) rfl)) rfl ?_
  refine Wl.on' rfl rfl g_43_ ?_
  refine Wl.y (y_fieldAddr (fa31_5PsX _) rfl) rfl ?_
  refine Wl.on' rfl rfl g_43_ ?_
  refine Wl.l (l_load one3PsX rfl (by exact hB_o1.at (j := 17) rfl)) rfl ?_
  refine Wl.on' rfl rfl g_43_ <| Wl.y (y_neqi rfl rfl) rfl ?_
  refine Wl.y (y_pickF rfl g_43_ rfl) rfl ?_
  refine Wl.mv rfl rfl ?_
  refine Wl.guardF rfl rfl rfl (fun g_51 => ?_) (fun g_51 => ?_)
  ·
   have g_51_ := g_51
   try simp only [DZ] at g_51
   exact absurd g_51_ (by rw [h4, g4]; simp)
  have g_51_ := g_51
  try simp only [DZ] at g_51
  refine Wl.y (y_fieldAddr (fa31_6PsX _) rfl) rfl ?_
  refine Wl.on' rfl rfl g_51_ ?_
  refine Wl.l (l_load one3PsX rfl (by exact hB_o0.at (j := 18) rfl)) rfl ?_
  refine Wl.on' rfl rfl g_51_ ?_
  refine Wl.y (y_fieldAddr (fa31_6PsX _) rfl) rfl ?_
  refine Wl.on' rfl rfl g_51_ ?_
  refine Wl.l (l_load one3PsX rfl (by exact hB_o1.at (j := 18) rfl)) rfl ?_
  refine Wl.on' rfl rfl g_51_ <| Wl.y (y_neqi rfl rfl) rfl ?_
  refine Wl.y (y_pickF rfl g_51_ rfl) rfl ?_
  refine Wl.mv rfl rfl ?_
  refine Wl.guardF rfl rfl rfl (fun g_59 => ?_) (fun g_59 => ?_)
  ·
   have g_59_ := g_59
   try simp only [DZ] at g_59
   exact absurd g_59_ (by rw [h5, g5]; simp)
  have g_59_ := g_59
  try simp only [DZ] at g_59
  refine Wl.mv rfl rfl <| Wl.on' rfl rfl g_59_ <| Wl.y (y_not rfl) rfl ?_
  refine Wl.y (y_pickF rfl g_59_ rfl) rfl ?_
  refine Wl.mv rfl rfl ?_
  refine Wl.guardF rfl rfl rfl (fun g_64 => ?_) (fun g_64 => ?_)
  ·
   have g_64_ := g_64
   try simp only [DZ] at g_64
   exact absurd g_64_ (by simp)
  have g_64_ := g_64
  try simp only [DZ] at g_64
  refine Wl.mv rfl rfl <| Wl.on' rfl rfl g_64_ <| Wl.y (y_not rfl) rfl ?_
  refine Wl.y (y_pickF rfl g_64_ rfl) rfl ?_
  refine Wl.mv rfl rfl ?_
  refine Wl.guardF rfl rfl rfl (fun g_69 => ?_) (fun g_69 => ?_)
  ·
   have g_69_ := g_69
   try simp only [DZ] at g_69
   exact absurd g_69_ (by simp)
  have g_69_ := g_69
  try simp only [DZ] at g_69
  refine Wl.y (y_fieldAddr (fa31_7PsX _) rfl) rfl ?_
  refine Wl.on' rfl rfl g_69_ ?_
  refine Wl.l (l_load one29PsX rfl (by exact hB_o0.at (j := 19) hcA)) rfl ?_
  refine Wl.on' rfl rfl g_69_ ?_
  refine Wl.y (y_lenl Tryz.underlying29 (by omega) rfl) rfl ?_
  refine Wl.on' rfl rfl g_69_ ?_
  refine Wl.y (y_fieldAddr (fa31_7PsX _) rfl) rfl ?_
  refine Wl.on' rfl rfl g_69_ ?_
  refine Wl.l (l_load one29PsX rfl (by exact hB_o1.at (j := 19) hcB)) rfl ?_
  refine Wl.on' rfl rfl g_69_ ?_
  refine Wl.y (y_lenl Tryz.underlying29 (by omega) rfl) rfl ?_
  refine Wl.on' rfl rfl g_69_ <| Wl.y (y_neqi rfl rfl) rfl ?_
  refine Wl.y (y_pickF rfl g_69_ rfl) rfl ?_
  refine Wl.nil <| Wq.next hK_20 ?_
  refine Wc.cond rfl (fun c0_78 => ?_) (fun c0_78 => ?_)
  ·
   have c0_78_ := c0_78
   try simp only [DZ] at c0_78
   exact absurd c0_78_ (by simp)
  have c0_78_ := c0_78
  try simp only [DZ] at c0_78
  refine Wc.skip <| Wq.next hK_19 <| Wc.seq fun _ hK_79 => Wc.seq fun _ hK_80 => Wc.region <| Wl.sg rfl rfl <| Wl.nil <| Wq.next hK_80 <| Wc.block ?_
  refine Wc.loop (X := Nat) (fun i => [(2, .pointer (some ⟨g_o0, 0, none⟩)), (3, .pointer (some ⟨g_o1, 0, none⟩)), (7, .int .i64 (i : Int))]) (fun i wr => i ≤ kids.length ∧ Below w.heap.size w wr ∧ Blk wr g_o0 31 x.cells ∧ Blk wr g_o1 31 y.cells) (fun i => kids.length - i) (0) ?_ ?_ ?_
  · exact by repeat first | exact Sub.nil | refine Sub.cons' rfl (by first | rfl | exact int_eq (by omega)) ?_
  · exact ⟨by omega, hb, hB_o0, hB_o1⟩
  rintro i wr hI_83 _ hL_82
  replace hI_83 : i ≤ kids.length ∧ Below w.heap.size w wr ∧ Blk wr g_o0 31 x.cells ∧ Blk wr g_o1 31 y.cells := hI_83
  obtain ⟨hi, hb, hB_o0, hB_o1⟩ := hI_83
  show Wc _ _ _ _ _ [(2, .pointer (some ⟨g_o0, 0, none⟩)), (3, .pointer (some ⟨g_o1, 0, none⟩)), (7, .int .i64 (i : Int))] _
  try have hzhb_L0 := hb.size
  have hlhB_o0_L0 := hB_o0.lt
  have hlhB_o1_L0 := hB_o1.lt
  refine Wc.seq fun _ hK_84 => Wc.seq fun _ hK_85 => Wc.region <| Wl.mv rfl rfl ?_
  refine Wl.y (y_fieldAddr (fa31_7PsX _) rfl) rfl ?_
  refine Wl.l (l_load one29PsX rfl (by exact hB_o0.at (j := 19) hcA)) rfl ?_
  refine Wl.y (y_lenl Tryz.underlying29 (by omega) rfl) rfl ?_
  refine Wl.y (y_lssi rfl rfl) rfl <| Wl.nil <| Wq.next hK_85 ?_
  refine Wc.cond rfl (fun c1_91 => ?_) (fun c1_91 => ?_)
  ·
   have c1_91_ := c1_91
   try simp only [DZ] at c1_91
   have hil : i < kids.length := by have := c1_91; omega
   have hdk := deepPs_get hil
   have hokk := okPs_get hil hok3
   obtain ⟨p, z1, rfl, hz1, hc1⟩ := hkA i hil
   obtain ⟨q, z2, rfl, hz2, hc2⟩ := hkB i hil
   refine Wc.skip <| Wq.next hK_84 <| Wc.seq fun _ hK_92 => Wc.block <| Wc.seq fun _ hK_93 => ?_
   refine Wc.any (n := 12) (fun w' => Below w.heap.size w w' ∧ Blk w' g_o0 31 x.cells ∧ Blk w' g_o1 31 y.cells) #[false, false, false, false, false, false, false, false, false, false, false, false] (by kernel_rfl) rfl (by kernel_rfl) ?_
   refine Wa.drew ?_
   rintro w_g7 hs_g7
   have hz_g7 := hs_g7.size
   have hb := hb.trans (hs_g7.mono hb.size)
   try have hB_o0 := Blk.below hB_o0 hs_g7
   try have hB_o1 := Blk.below hB_o1 hs_g7
   refine Wa.take (i := 0) #[true, false, false, false, false, false, false, false, false, false, false, false] rfl (by kernel_rfl) (fun _ _ _ h => h) rfl (fun wq hq => Yl.ld (y_fieldAddr (fa31_7PsX _) rfl)) ⟨hb, hB_o0, hB_o1⟩ ?_
   refine Wa.take (i := 1) #[true, true, false, false, false, false, false, false, false, false, false, false] rfl (by kernel_rfl) (fun _ _ _ h => h) rfl (fun wq hq => l_load one29PsX rfl (by obtain ⟨hq, hB_o0, hB_o1⟩ := hq; exact hB_o0.at (j := 19) hcA)) ⟨hb, hB_o0, hB_o1⟩ ?_
   refine Wa.take (i := 2) #[true, true, true, false, false, false, false, false, false, false, false, false] rfl (by kernel_rfl) (fun _ _ _ h => h) rfl (fun wq hq => Yl.ld (y_move rfl)) ⟨hb, hB_o0, hB_o1⟩ ?_
   refine Wa.take (i := 3) #[true, true, true, true, false, false, false, false, false, false, false, false] rfl (by kernel_rfl) (fun _ _ _ h => h) rfl (fun wq hq => Yl.ld (y_indexAddr Tryz.underlying29 sz31PsX rfl rfl (by omega) (by omega))) ⟨hb, hB_o0, hB_o1⟩ ?_
   refine Wa.take (i := 4) #[true, true, true, true, true, false, false, false, false, false, false, false] rfl (by kernel_rfl) (fun _ _ _ h => h) rfl (fun wq hq => l_loadS Tryz.underlying31 (by kernel_rfl) rfl (by obtain ⟨hq, hB_o0, hB_o1⟩ := hq; exact fun j u hu => by rw [Int.toNat_natCast]; exact cell_below hq (hc1 j u hu))) ⟨hb, hB_o0, hB_o1⟩ ?_
   refine Wa.take (i := 5) #[true, true, true, true, true, true, false, false, false, false, false, false] rfl (by kernel_rfl) (fun _ _ _ h => h) rfl (fun wq hq => Yl.ld (y_fieldAddr (fa31_7PsX _) rfl)) ⟨hb, hB_o0, hB_o1⟩ ?_
   refine Wa.take (i := 6) #[true, true, true, true, true, true, true, false, false, false, false, false] rfl (by kernel_rfl) (fun _ _ _ h => h) rfl (fun wq hq => l_load one29PsX rfl (by obtain ⟨hq, hB_o0, hB_o1⟩ := hq; exact hB_o1.at (j := 19) hcB)) ⟨hb, hB_o0, hB_o1⟩ ?_
   refine Wa.take (i := 7) #[true, true, true, true, true, true, true, true, false, false, false, false] rfl (by kernel_rfl) (fun _ _ _ h => h) rfl (fun wq hq => Yl.ld (y_move rfl)) ⟨hb, hB_o0, hB_o1⟩ ?_
   refine Wa.take (i := 8) #[true, true, true, true, true, true, true, true, true, false, false, false] rfl (by kernel_rfl) (fun _ _ _ h => h) rfl (fun wq hq => Yl.ld (y_indexAddr Tryz.underlying29 sz31PsX rfl rfl (by omega) (by omega))) ⟨hb, hB_o0, hB_o1⟩ ?_
   refine Wa.take (i := 9) #[true, true, true, true, true, true, true, true, true, true, false, false] rfl (by kernel_rfl) (fun _ _ _ h => h) rfl (fun wq hq => l_loadS Tryz.underlying31 (by kernel_rfl) rfl (by obtain ⟨hq, hB_o0, hB_o1⟩ := hq; exact fun j u hu => by rw [Int.toNat_natCast]; exact cell_below hq (hc2 j u hu))) ⟨hb, hB_o0, hB_o1⟩ ?_
   refine Wa.some (rs := [10]) (by kernel_rfl) rfl ?_
   refine Ws.cons #[true, true, true, true, true, true, true, true, true, true, true, false] rfl rfl (fun _ hK_104 => ?_) ?_
   ·
    refine Wl.call txt29PsX rfl rfl (ih (n - 1) (by omega) kids[i] z1 z2 S T _ (by omega) hokk (PAt.below hz1 hb) (PAt.below hz2 hb)) rfl ?_
    rintro _ w_k2 ⟨rfl, hs_k2⟩
    have hz_k2 := hs_k2.size
    have hb := hb.trans (hs_k2.mono hb.size)
    try have hB_o0 := Blk.below hB_o0 hs_k2
    try have hB_o1 := Blk.below hB_o1 hs_k2
    refine Wl.nil ?_
    refine Wq.back hK_104 ⟨hb, hB_o0, hB_o1⟩ ?_
    refine Wa.take (i := 11) #[true, true, true, true, true, true, true, true, true, true, true, true] rfl (by kernel_rfl) (fun _ _ _ h => h) rfl (fun wq hq => Yl.ld (y_assign rfl)) ⟨hb, hB_o0, hB_o1⟩ ?_
    refine Wa.done (by kernel_rfl) ?_
    refine Wq.next hK_93 <| Wc.seq fun _ hK_107 => Wc.region <| Wl.mv rfl rfl <| Wl.y (y_not rfl) rfl <| Wl.nil <| Wq.next hK_107 ?_
    refine Wc.cond rfl (fun c2_110 => ?_) (fun c2_110 => ?_)
    ·
     have c2_110_ := c2_110
     try simp only [DZ] at c2_110
     exact absurd c2_110_ (by simp)
    have c2_110_ := c2_110
    try simp only [DZ] at c2_110
    refine Wc.skip <| Wq.block_normal <| Wq.next hK_92 <| Wc.region <| Wl.mv rfl rfl ?_
    refine Wl.y (y_addI rfl rfl (by first | omega | (simp; done) | (simp; omega)) (by first | omega | (simp; done) | (simp; omega))) rfl ?_
    refine Wl.sg rfl rfl <| Wl.nil ?_
    refine fun a_ ha_ => hL_82 _ _ (i + 1) (by first | omega | (simp; omega)) (by repeat first | exact Sub.nil | refine Sub.cons' rfl (by first | rfl | exact int_eq (by omega)) ?_) ?_ a_ ha_
    exact ⟨by omega, hb, hB_o0, hB_o1⟩
   exact Ws.nil
  have c1_91_ := c1_91
  try simp only [DZ] at c1_91
  refine Wc.exit ?_
  refine Wq.then_exit <| Wq.then_exit <| Wq.block_exit <| Wq.next hK_79 <| Wc.seq fun _ hK_114 => Wc.region <| Wl.sg rfl rfl <| Wl.nil <| Wq.next hK_114 <| Wc.ret ?_
  refine ret1 rfl rfl ?_
  exact ⟨_, rfl, rfl, hb⟩
theorem SameQ_r (m s k : Int) (e : PatD) (x y : PC) (S T : Nat → Prop) (w : World) (hok : okP e) (hE : PAt w S e x.cells) (hF : PAt w T e y.cells) : Ret Tryz.prog 14 [.agg (qcells m s k x).toArray, .agg (qcells m s k y).toArray] w fun v w' => v = .bool true ∧ Below w.heap.size w w' := by
  have hb := Below.refl w.heap.size w
  refine enter Tryz.func14 rfl rfl rfl ?_
  refine Wc.seq fun _ hK_1 => Wc.region ?_
  refine Wl.boxN rfl rfl ?_
  rintro g_o0 w_o0 hg_o0 hn_o0 hs_o0
  have hz_o0 := hs_o0.size
  have hb := hb.trans (hs_o0.mono hb.size)
  have hB_o0 := hn_o0
  have hl_o0 := hB_o0.lt
  refine Wl.boxN rfl rfl ?_
  rintro g_o1 w_o1 hg_o1 hn_o1 hs_o1
  have hz_o1 := hs_o1.size
  have hb := hb.trans (hs_o1.mono hb.size)
  try have hB_o0 := Blk.below hB_o0 hs_o1
  have hB_o1 := hn_o1
  have hl_o1 := hB_o1.lt
  refine Wl.sg rfl rfl <| Wl.nil <| Wq.next hK_1 <| Wc.seq fun _ hK_5 => Wc.region ?_
  refine Wl.y (y_fieldAddr (fa33_3PsX _) rfl) rfl ?_
  refine Wl.l (l_loadS Tryz.underlying31 (by kernel_rfl) rfl (by exact fun j u hu => by rw [addr_add_add]; exact hB_o0.at (qcells_pat _ _ _ _ hu))) rfl ?_
  refine Wl.y (y_fieldAddr (fa33_3PsX _) rfl) rfl ?_
  refine Wl.l (l_loadS Tryz.underlying31 (by kernel_rfl) rfl (by exact fun j u hu => by rw [addr_add_add]; exact hB_o1.at (qcells_pat _ _ _ _ hu))) rfl ?_
  refine Wl.call txt29PsX rfl rfl (SameP_r (deepP e) e x y S T _ (Nat.le_refl _) hok (PAt.below hE hb) (PAt.below hF hb)) rfl ?_
  rintro _ w_k0 ⟨rfl, hs_k0⟩
  have hz_k0 := hs_k0.size
  have hb := hb.trans (hs_k0.mono hb.size)
  try have hB_o0 := Blk.below hB_o0 hs_k0
  try have hB_o1 := Blk.below hB_o1 hs_k0
  refine Wl.sg rfl rfl <| Wl.nil <| Wq.next hK_5 <| Wc.seq fun _ hK_12 => Wc.region <| Wl.mv rfl rfl <| Wl.mv rfl rfl ?_
  refine Wl.guardT rfl rfl rfl (fun g_15 => ?_) (fun g_15 => ?_)
  ·
   have g_15_ := g_15
   try simp only [DZ] at g_15
   refine Wl.y (y_fieldAddr (fa33_0PsX _) rfl) rfl ?_
   refine Wl.on' rfl rfl g_15_ ?_
   refine Wl.l (l_load one3PsX rfl (by exact hB_o0.at (j := 0) rfl)) rfl ?_
   refine Wl.on' rfl rfl g_15_ ?_
   refine Wl.y (y_fieldAddr (fa33_0PsX _) rfl) rfl ?_
   refine Wl.on' rfl rfl g_15_ ?_
   refine Wl.l (l_load one3PsX rfl (by exact hB_o1.at (j := 0) rfl)) rfl ?_
   refine Wl.on' rfl rfl g_15_ <| Wl.y (y_eqli rfl rfl) rfl ?_
   refine Wl.y (y_pickT rfl g_15_ rfl) rfl ?_
   refine Wl.mv rfl rfl ?_
   refine Wl.guardT rfl rfl rfl (fun g_23 => ?_) (fun g_23 => ?_)
   ·
    have g_23_ := g_23
    try simp only [DZ] at g_23
    refine Wl.y (y_fieldAddr (fa33_1PsX _) rfl) rfl ?_
    refine Wl.on' rfl rfl g_23_ ?_
    refine Wl.l (l_load one3PsX rfl (by exact hB_o0.at (j := 1) rfl)) rfl ?_
    refine Wl.on' rfl rfl g_23_ ?_
    refine Wl.y (y_fieldAddr (fa33_1PsX _) rfl) rfl ?_
    refine Wl.on' rfl rfl g_23_ ?_
    refine Wl.l (l_load one3PsX rfl (by exact hB_o1.at (j := 1) rfl)) rfl ?_
    refine Wl.on' rfl rfl g_23_ <| Wl.y (y_eqli rfl rfl) rfl ?_
    refine Wl.y (y_pickT rfl g_23_ rfl) rfl ?_
    refine Wl.mv rfl rfl ?_
    refine Wl.guardT rfl rfl rfl (fun g_31 => ?_) (fun g_31 => ?_)
    ·
     have g_31_ := g_31
     try simp only [DZ] at g_31
     refine Wl.y (y_fieldAddr (fa33_2PsX _) rfl) rfl ?_
     refine Wl.on' rfl rfl g_31_ ?_
     refine Wl.l (l_load one3PsX rfl (by exact hB_o0.at (j := 2) rfl)) rfl ?_
     refine Wl.on' rfl rfl g_31_ ?_
     refine Wl.y (y_fieldAddr (fa33_2PsX _) rfl) rfl ?_
     refine Wl.on' rfl rfl g_31_ ?_
     refine Wl.l (l_load one3PsX rfl (by exact hB_o1.at (j := 2) rfl)) rfl ?_
     refine Wl.on' rfl rfl g_31_ <| Wl.y (y_eqli rfl rfl) rfl ?_
     refine Wl.y (y_pickT rfl g_31_ rfl) rfl ?_
     refine Wl.sg rfl rfl <| Wl.nil <| Wq.next hK_12 <| Wc.ret ?_
     refine ret1 rfl rfl ?_
     exact ⟨_, rfl, bool_eq (by simp), hb⟩
    have g_31_ := g_31
    try simp only [DZ] at g_31
    exact absurd g_31_ (by simp)
   have g_23_ := g_23
   try simp only [DZ] at g_23
   exact absurd g_23_ (by simp)
  have g_15_ := g_15
  try simp only [DZ] at g_15
  exact absurd g_15_ (by simp)
/-! ### what each statement begins with -/
def sh1S : List UInt8 := [84, 82, 65, 73, 76, 32, 83, 72, 79, 82, 84, 69, 83, 84, 32, 50, 32, 40, 97, 41, 45, 91, 58, 75, 93, 45, 62, 123, 49, 44, 50, 125, 40, 98, 32, 87, 72, 69, 82, 69, 32, 112, 32, 62, 32, 51, 41]
def sh2S : List UInt8 := [40, 97, 41, 45, 91]
def sh1P : PatD := .mk 3 [] 0 noE noE 0 0 [.mk 1 [97] 0 noE noE 0 0 [], .mk 5 [] 0 noE noE 1 2 [.mk 2 [] 4 (.mk 4 [75] nullV []) noE 0 0 []], .mk 1 [98] 0 noE (.mk 3 [62] nullV [.mk 2 [112] nullV [], .mk 1 [] ⟨2, 3, 0, []⟩ []]) 0 0 []]
theorem sh1_eq : parseV sh1S = (⟨1, 3, 2, sh1P⟩, 0, 0) := by kernel_rfl
theorem sh2_eq : parseV sh2S = (noQ, 5, 2) := by kernel_rfl
theorem pshown_r (w : World) (hX : Lx w) : Ret Tryz.prog 11 [] w fun v w' => v = .bool true ∧ Below w.heap.size w w' := by
  have hb := Below.refl w.heap.size w
  have hX_hb := hX
  refine enter Tryz.func11 rfl rfl rfl ?_
  refine Wc.seq fun _ hK_1 => Wc.region <| Wl.sg rfl rfl <| Wl.nil <| Wq.next hK_1 <| Wc.seq fun _ hK_3 => Wc.region ?_
  refine Wl.call txt12PsX rfl rfl (ParseT_r sh1_eq (by decide) _ hX) rfl ?_
  rintro _ w_k0 ⟨⟨z, Sz, rfl, hz, hz_S⟩, hs_k0⟩
  have hz_k0 := hs_k0.size
  have hb := hb.trans (hs_k0.mono hb.size)
  have hX := hX_hb.below hb
  refine Wl.mv rfl rfl <| Wl.y (y_extract rfl rfl) rfl <| Wl.y (y_extract rfl rfl) rfl <| Wl.y (y_extract rfl rfl) rfl ?_
  refine Wl.allocN (z := (.agg #[(.int .i64 0), (.int .i64 0), (.int .i64 0), (.int .i64 0), (str []), (.int .i64 0), (.int .i64 0), (str []), (.int .i64 0), (.int .i64 0), (.float .f64 0), (str []), (.slice none 0 0), (.int .i64 0), (str []), (.int .i64 0), (.int .i64 0), (.float .f64 0), (str []), (.slice none 0 0), (.int .i64 0), (.int .i64 0), (.slice none 0 0)])) (by kernel_rfl) rfl ?_
  rintro g_o5 w_o5 hg_o5 hn_o5 hs_o5
  have hz_o5 := hs_o5.size
  have hb := hb.trans (hs_o5.mono hb.size)
  have hX := hX_hb.below hb
  try have hz := PAt.below hz hs_o5
  have hB_o5 := hn_o5
  have hl_o5 := hB_o5.lt
  refine Wl.storeS (by kernel_rfl) rfl rfl hB_o5 rfl rfl ?_
  rintro w_s0 hn_s0 hg_s0
  have hz_s0 := hg_s0.size
  have hb := below_blk hb hg_s0 hb.size (by omega)
  have hX := hX_hb.below hb
  try have hz := PAt.kp hz hg_s0 (fun h_ => by have h2_ := hz_S _ h_; first | omega | (rcases h2_ with h3_ | h3_; (have h4_ := hS _ h3_; omega); omega))
  have hB_o5 := hn_s0
  refine Wl.sg rfl rfl <| Wl.sg rfl rfl <| Wl.nil <| Wq.next hK_3 <| Wc.seq fun _ hK_12 => Wc.region ?_
  refine Wl.call txt12PsX rfl rfl (ParseT_r sh2_eq (by decide) _ hX) rfl ?_
  rintro _ w_k1 ⟨⟨z2, S2, rfl, hz2, hz2_S⟩, hs_k1⟩
  have hz_k1 := hs_k1.size
  have hb := hb.trans (hs_k1.mono hb.size)
  have hX := hX_hb.below hb
  try have hz := PAt.below hz hs_k1
  try have hB_o5 := Blk.below hB_o5 hs_k1
  refine Wl.mv rfl rfl <| Wl.y (y_extract rfl rfl) rfl <| Wl.y (y_extract rfl rfl) rfl <| Wl.y (y_extract rfl rfl) rfl ?_
  refine Wl.allocN (z := (.agg #[(.int .i64 0), (.int .i64 0), (.int .i64 0), (.int .i64 0), (str []), (.int .i64 0), (.int .i64 0), (str []), (.int .i64 0), (.int .i64 0), (.float .f64 0), (str []), (.slice none 0 0), (.int .i64 0), (str []), (.int .i64 0), (.int .i64 0), (.float .f64 0), (str []), (.slice none 0 0), (.int .i64 0), (.int .i64 0), (.slice none 0 0)])) (by kernel_rfl) rfl ?_
  rintro g_o12 w_o12 hg_o12 hn_o12 hs_o12
  have hz_o12 := hs_o12.size
  have hb := hb.trans (hs_o12.mono hb.size)
  have hX := hX_hb.below hb
  try have hz := PAt.below hz hs_o12
  try have hB_o5 := Blk.below hB_o5 hs_o12
  have hB_o12 := hn_o12
  have hl_o12 := hB_o12.lt
  refine Wl.storeS (by kernel_rfl) rfl rfl hB_o12 rfl rfl ?_
  rintro w_s1 hn_s1 hg_s1
  have hz_s1 := hg_s1.size
  have hb := below_blk hb hg_s1 hb.size (by omega)
  have hX := hX_hb.below hb
  try have hz := PAt.kp hz hg_s1 (fun h_ => by have h2_ := hz_S _ h_; first | omega | (rcases h2_ with h3_ | h3_; (have h4_ := hS _ h3_; omega); omega))
  try have hB_o5 := hB_o5.over hg_s1 (by omega)
  have hB_o12 := hn_s1
  refine Wl.sg rfl rfl <| Wl.sg rfl rfl <| Wl.nil <| Wq.next hK_12 <| Wc.seq fun _ hK_21 => Wc.region ?_
  refine Wl.y (y_fieldAddr (fa33_3PsX _) rfl) rfl ?_
  refine Wl.l (l_loadS Tryz.underlying31 (by kernel_rfl) rfl (by exact fun j u hu => by rw [addr_add_add]; exact hB_o5.at (qcells_pat _ _ _ _ hu))) rfl ?_
  refine Wl.allocN (z := (.agg #[(.int .i64 0), (str []), (.int .i64 0), (.int .i64 0), (str []), (.int .i64 0), (.int .i64 0), (.float .f64 0), (str []), (.slice none 0 0), (.int .i64 0), (str []), (.int .i64 0), (.int .i64 0), (.float .f64 0), (str []), (.slice none 0 0), (.int .i64 0), (.int .i64 0), (.slice none 0 0)])) (by kernel_rfl) rfl ?_
  rintro g_o16 w_o16 hg_o16 hn_o16 hs_o16
  have hz_o16 := hs_o16.size
  have hb := hb.trans (hs_o16.mono hb.size)
  have hX := hX_hb.below hb
  try have hz := PAt.below hz hs_o16
  try have hB_o5 := Blk.below hB_o5 hs_o16
  have hB_o16 := hn_o16
  have hl_o16 := hB_o16.lt
  refine Wl.storeS (by kernel_rfl) rfl rfl hB_o16 rfl rfl ?_
  rintro w_s2 hn_s2 hg_s2
  have hz_s2 := hg_s2.size
  have hb := below_blk hb hg_s2 hb.size (by omega)
  have hX := hX_hb.below hb
  try have hz := PAt.kp hz hg_s2 (fun h_ => by have h2_ := hz_S _ h_; first | omega | (rcases h2_ with h3_ | h3_; (have h4_ := hS _ h3_; omega); omega))
  try have hB_o5 := hB_o5.over hg_s2 (by omega)
  have hB_o16 := hn_s2
  refine Wl.nil <| Wq.next hK_21 <| Wc.seq fun _ hK_25 => Wc.seq fun _ hK_26 => ?_
  obtain ⟨hz0, _, _, _, _, _, _, A, c, hcA, _, _, hkA⟩ := PAt.see hz
  obtain ⟨p, z1, rfl, hz1, hc1⟩ := hkA 1 (by decide)
  obtain ⟨p', z3, hp', hz3, hc3⟩ := hkA 2 (by decide)
  cases hp'
  obtain ⟨_, _, _, _, hmx, _, _, A1, c1, hcA1, _, _, hkA1⟩ := PAt.see hz1
  obtain ⟨p1, z4, rfl, hz4, hc4⟩ := hkA1 0 (by decide)
  obtain ⟨_, _, hdir, _⟩ := PAt.see hz4
  obtain ⟨_, _, _, _, _, _, hwh, _⟩ := PAt.see hz3
  obtain ⟨_, hnm, _⟩ := EAt.see hwh
  refine Wc.region ?_
  refine Wl.y (y_fieldAddr (fa31_7PsX _) rfl) rfl ?_
  refine Wl.l (l_load one29PsX rfl (by exact hB_o16.at (j := 19) hcA)) rfl ?_
  refine Wl.y (y_lenl Tryz.underlying29 (by omega) rfl) rfl ?_
  refine Wl.y (y_neqi rfl rfl) rfl <| Wl.mv rfl rfl ?_
  refine Wl.guardF rfl rfl rfl (fun g_32 => ?_) (fun g_32 => ?_)
  ·
   have g_32_ := g_32
   try simp only [DZ] at g_32
   exact absurd g_32_ (by decide)
  have g_32_ := g_32
  try simp only [DZ] at g_32
  refine Wl.y (y_fieldAddr (fa31_7PsX _) rfl) rfl ?_
  refine Wl.on' rfl rfl g_32_ ?_
  refine Wl.l (l_load one29PsX rfl (by exact hB_o16.at (j := 19) hcA)) rfl ?_
  refine Wl.on' rfl rfl g_32_ ?_
  refine Wl.y (y_indexAddr Tryz.underlying29 sz31PsX rfl rfl (by omega) (by omega)) rfl ?_
  refine Wl.on' rfl rfl g_32_ ?_
  refine Wl.y (y_fieldAddr (fa31_7PsX _) rfl) rfl ?_
  refine Wl.on' rfl rfl g_32_ ?_
  refine Wl.l (l_load one29PsX rfl (by exact hc1 19 _ hcA1)) rfl ?_
  refine Wl.on' rfl rfl g_32_ ?_
  refine Wl.y (y_lenl Tryz.underlying29 (by omega) rfl) rfl ?_
  refine Wl.on' rfl rfl g_32_ <| Wl.y (y_neqi rfl rfl) rfl ?_
  refine Wl.y (y_pickF rfl g_32_ rfl) rfl ?_
  refine Wl.nil <| Wq.next hK_26 ?_
  refine Wc.cond rfl (fun c0_41 => ?_) (fun c0_41 => ?_)
  ·
   have c0_41_ := c0_41
   try simp only [DZ] at c0_41
   exact absurd c0_41_ (by decide)
  have c0_41_ := c0_41
  try simp only [DZ] at c0_41
  refine Wc.skip <| Wq.next hK_25 <| Wc.seq fun _ hK_42 => Wc.region <| Wl.mv rfl rfl <| Wl.y (y_eqli rfl rfl) rfl <| Wl.mv rfl rfl ?_
  refine Wl.guardT rfl rfl rfl (fun g_46 => ?_) (fun g_46 => ?_)
  ·
   have g_46_ := g_46
   try simp only [DZ] at g_46
   refine Wl.mv rfl rfl <| Wl.on' rfl rfl g_46_ <| Wl.y (y_eqli rfl rfl) rfl ?_
   refine Wl.y (y_pickT rfl g_46_ rfl) rfl ?_
   refine Wl.mv rfl rfl ?_
   refine Wl.guardT rfl rfl rfl (fun g_51 => ?_) (fun g_51 => ?_)
   ·
    have g_51_ := g_51
    try simp only [DZ] at g_51
    refine Wl.y (y_fieldAddr (fa33_0PsX _) rfl) rfl ?_
    refine Wl.on' rfl rfl g_51_ ?_
    refine Wl.l (l_load one3PsX rfl (by exact hB_o5.at (j := 0) rfl)) rfl ?_
    refine Wl.on' rfl rfl g_51_ <| Wl.y (y_eqli rfl rfl) rfl ?_
    refine Wl.y (y_pickT rfl g_51_ rfl) rfl ?_
    refine Wl.mv rfl rfl ?_
    refine Wl.guardT rfl rfl rfl (fun g_57 => ?_) (fun g_57 => ?_)
    ·
     have g_57_ := g_57
     try simp only [DZ] at g_57
     refine Wl.y (y_fieldAddr (fa33_1PsX _) rfl) rfl ?_
     refine Wl.on' rfl rfl g_57_ ?_
     refine Wl.l (l_load one3PsX rfl (by exact hB_o5.at (j := 1) rfl)) rfl ?_
     refine Wl.on' rfl rfl g_57_ <| Wl.y (y_eqli rfl rfl) rfl ?_
     refine Wl.y (y_pickT rfl g_57_ rfl) rfl ?_
     refine Wl.mv rfl rfl ?_
     refine Wl.guardT rfl rfl rfl (fun g_63 => ?_) (fun g_63 => ?_)
     ·
      have g_63_ := g_63
      try simp only [DZ] at g_63
      refine Wl.y (y_fieldAddr (fa33_2PsX _) rfl) rfl ?_
      refine Wl.on' rfl rfl g_63_ ?_
      refine Wl.l (l_load one3PsX rfl (by exact hB_o5.at (j := 2) rfl)) rfl ?_
      refine Wl.on' rfl rfl g_63_ <| Wl.y (y_eqli rfl rfl) rfl ?_
      refine Wl.y (y_pickT rfl g_63_ rfl) rfl ?_
      refine Wl.mv rfl rfl ?_
      refine Wl.guardT rfl rfl rfl (fun g_69 => ?_) (fun g_69 => ?_)
      ·
       have g_69_ := g_69
       try simp only [DZ] at g_69
       refine Wl.y (y_fieldAddr (fa31_0PsX _) rfl) rfl ?_
       refine Wl.on' rfl rfl g_69_ ?_
       refine Wl.l (l_load one3PsX rfl (by exact hB_o16.at (j := 0) rfl)) rfl ?_
       refine Wl.on' rfl rfl g_69_ <| Wl.y (y_eqli rfl rfl) rfl ?_
       refine Wl.y (y_pickT rfl g_69_ rfl) rfl ?_
       refine Wl.mv rfl rfl ?_
       refine Wl.guardT rfl rfl rfl (fun g_75 => ?_) (fun g_75 => ?_)
       ·
        have g_75_ := g_75
        try simp only [DZ] at g_75
        refine Wl.y (y_fieldAddr (fa31_7PsX _) rfl) rfl ?_
        refine Wl.on' rfl rfl g_75_ ?_
        refine Wl.l (l_load one29PsX rfl (by exact hB_o16.at (j := 19) hcA)) rfl ?_
        refine Wl.on' rfl rfl g_75_ ?_
        refine Wl.y (y_indexAddr Tryz.underlying29 sz31PsX rfl rfl (by omega) (by omega)) rfl ?_
        refine Wl.on' rfl rfl g_75_ ?_
        refine Wl.y (y_fieldAddr (fa31_6PsX _) rfl) rfl ?_
        refine Wl.on' rfl rfl g_75_ ?_
        refine Wl.l (l_load one3PsX rfl (by exact hc1 18 _ rfl)) rfl ?_
        refine Wl.on' rfl rfl g_75_ <| Wl.y (y_eqli rfl rfl) rfl ?_
        refine Wl.y (y_pickT rfl g_75_ rfl) rfl ?_
        refine Wl.mv rfl rfl ?_
        refine Wl.guardT rfl rfl rfl (fun g_84 => ?_) (fun g_84 => ?_)
        ·
         have g_84_ := g_84
         try simp only [DZ] at g_84
         refine Wl.y (y_fieldAddr (fa31_7PsX _) rfl) rfl ?_
         refine Wl.on' rfl rfl g_84_ ?_
         refine Wl.l (l_load one29PsX rfl (by exact hB_o16.at (j := 19) hcA)) rfl ?_
         refine Wl.on' rfl rfl g_84_ ?_
         refine Wl.y (y_indexAddr Tryz.underlying29 sz31PsX rfl rfl (by omega) (by omega)) rfl ?_
         refine Wl.on' rfl rfl g_84_ ?_
         refine Wl.y (y_fieldAddr (fa31_7PsX _) rfl) rfl ?_
         refine Wl.on' rfl rfl g_84_ ?_
         refine Wl.l (l_load one29PsX rfl (by exact hc1 19 _ hcA1)) rfl ?_
         refine Wl.on' rfl rfl g_84_ ?_
         refine Wl.y (y_indexAddr Tryz.underlying29 sz31PsX rfl rfl (by omega) (by omega)) rfl ?_
         refine Wl.on' rfl rfl g_84_ ?_
         refine Wl.y (y_fieldAddr (fa31_2PsX _) rfl) rfl ?_
         refine Wl.on' rfl rfl g_84_ ?_
         refine Wl.l (l_load one3PsX rfl (by exact hc4 2 _ rfl)) rfl ?_
         refine Wl.on' rfl rfl g_84_ <| Wl.y (y_eqli rfl rfl) rfl ?_
         refine Wl.y (y_pickT rfl g_84_ rfl) rfl ?_
         refine Wl.mv rfl rfl ?_
         refine Wl.guardT rfl rfl rfl (fun g_96 => ?_) (fun g_96 => ?_)
         ·
          have g_96_ := g_96
          try simp only [DZ] at g_96
          refine Wl.y (y_fieldAddr (fa31_7PsX _) rfl) rfl ?_
          refine Wl.on' rfl rfl g_96_ ?_
          refine Wl.l (l_load one29PsX rfl (by exact hB_o16.at (j := 19) hcA)) rfl ?_
          refine Wl.on' rfl rfl g_96_ ?_
          refine Wl.y (y_indexAddr Tryz.underlying29 sz31PsX rfl rfl (by omega) (by omega)) rfl ?_
          refine Wl.on' rfl rfl g_96_ ?_
          refine Wl.y (y_fieldAddr (fa31_4PsX _) rfl) rfl ?_
          refine Wl.on' rfl rfl g_96_ ?_
          refine Wl.y (y_fieldAddr (fa28_1PsX _) rfl) rfl ?_
          refine Wl.on' rfl rfl g_96_ ?_
          refine Wl.l (l_load one9PsX rfl (by exact hc3 11 (str z3.wh.nm) rfl)) rfl ?_
          refine Wl.on' rfl rfl g_96_ <| Wl.y (y_eqls rfl rfl) rfl ?_
          refine Wl.y (y_pickT rfl g_96_ rfl) rfl ?_
          refine Wl.mv rfl rfl ?_
          refine Wl.guardT rfl rfl rfl (fun g_106 => ?_) (fun g_106 => ?_)
          ·
           have g_106_ := g_106
           try simp only [DZ] at g_106
           refine Wl.mv rfl rfl <| Wl.on' rfl rfl g_106_ <| Wl.y (y_eqli rfl rfl) rfl ?_
           refine Wl.y (y_pickT rfl g_106_ rfl) rfl ?_
           refine Wl.mv rfl rfl ?_
           refine Wl.guardT rfl rfl rfl (fun g_111 => ?_) (fun g_111 => ?_)
           ·
            have g_111_ := g_111
            try simp only [DZ] at g_111
            refine Wl.mv rfl rfl <| Wl.on' rfl rfl g_111_ <| Wl.y (y_eqli rfl rfl) rfl ?_
            refine Wl.y (y_pickT rfl g_111_ rfl) rfl ?_
            refine Wl.sg rfl rfl <| Wl.nil <| Wq.next hK_42 <| Wc.ret ?_
            refine ret1 rfl rfl ?_
            exact ⟨_, rfl, rfl, hb⟩
           have g_111_ := g_111
           try simp only [DZ] at g_111
           exact absurd g_111_ (by decide)
          have g_106_ := g_106
          try simp only [DZ] at g_106
          exact absurd g_106_ (by rw [hnm]; decide)
         have g_96_ := g_96
         try simp only [DZ] at g_96
         exact absurd g_96_ (by rw [hdir]; decide)
        have g_84_ := g_84
        try simp only [DZ] at g_84
        exact absurd g_84_ (by rw [hmx]; decide)
       have g_75_ := g_75
       try simp only [DZ] at g_75
       exact absurd g_75_ (by rw [hz0]; decide)
      have g_69_ := g_69
      try simp only [DZ] at g_69
      exact absurd g_69_ (by decide)
     have g_63_ := g_63
     try simp only [DZ] at g_63
     exact absurd g_63_ (by decide)
    have g_57_ := g_57
    try simp only [DZ] at g_57
    exact absurd g_57_ (by decide)
   have g_51_ := g_51
   try simp only [DZ] at g_51
   exact absurd g_51_ (by decide)
  have g_46_ := g_46
  try simp only [DZ] at g_46
  exact absurd g_46_ (by decide)
end Go.Proofs.YtjnabgddjogkbaaGreatDoor
