/- load's loader: what is known of it from line to line; a line's step, plain. · loader.node, by the calculus. · loader.edge, by the calculus. -/
import Derived.Test.YtjmlknjbhbfneaaGreatDoorZLB
import Derived.Test.YtjmlknjbhbfneaaGreatDoorZGA
namespace Go.Bw
open Go.RowKit
set_option linter.unusedVariables false
set_option linter.unusedSimpArgs false
/-- old blocks are kept, but for some -/
structure Kq (S : Nat → Prop) (w w' : World) : Prop where
  os : w'.os = w.os
  tape : w'.tape = w.tape
  output : w'.output = w.output
  size : w.heap.size ≤ w'.heap.size
  block : ∀ k, k < w.heap.size → ¬ S k → w'.heap[k]? = w.heap[k]?
section
variable {S : Nat → Prop} {w0 w w' a b c : World}
theorem Kq.refl (S : Nat → Prop) (w : World) : Kq S w w := ⟨rfl, rfl, rfl, Nat.le_refl _, fun _ _ _ => rfl⟩
theorem Kq.trans (h : Kq S a b) (k : Kq S b c) : Kq S a c :=
  ⟨k.os.trans h.os, k.tape.trans h.tape, k.output.trans h.output, Nat.le_trans h.size k.size, fun i hi hn => (k.block i (Nat.lt_of_lt_of_le hi h.size) hn).trans (h.block i hi hn)⟩
theorem Kp.kq {p : Nat} (h : Kp p w w') (hS : S p) : Kq S w w' := ⟨h.os, h.tape, h.output, h.size, fun k hk hn => h.block k hk (fun e => by cases e; exact hn hS)⟩
theorem kq_row {r : Option Nat} (hb : Kq S w0 w) (hg : w.grownBy w' r) (h : ∀ k, r = some k → w0.heap.size ≤ k ∨ S k) : Kq S w0 w' :=
  ⟨hg.os.trans hb.os, hg.tape.trans hb.tape, hg.output.trans hb.output, Nat.le_trans hb.size hg.size, fun i hi hn => (hg.block i (Nat.lt_of_lt_of_le hi hb.size) (fun e => by rcases h i e.symm with h | h; (· omega); (· exact hn h))).trans (hb.block i hi hn)⟩
theorem kq_blk {g : Nat} (hb : Kq S w0 w) (hg : w.grownBy w' (some g)) (hB : w0.heap.size ≤ g ∨ S g) : Kq S w0 w' := kq_row hb hg (fun k hk => by cases hk; exact hB)
theorem Kq.weak {S' : Nat → Prop} (h : Kq S w w') (hS : ∀ k, S k → S' k) : Kq S' w w' := ⟨h.os, h.tape, h.output, h.size, fun k hk hn => h.block k hk (fun h2 => hn (hS k h2))⟩
theorem Kq.below {B : Nat} (h : Kq S w w') (hB : ∀ k, k < B → ¬ S k) (hs : B ≤ w.heap.size) : Below B w w' := ⟨h.os, h.tape, h.output, h.size, fun k hk => h.block k (by omega) (hB k hk)⟩
theorem Rd.same {sz n : Nat} {A : Option Addr} {xs : List Value} (h : Rd w sz A n xs) (hk : ∀ q, A = some q → q.block < w.heap.size → w'.heap[q.block]? = w.heap[q.block]?) : Rd w' sz A n xs :=
  ⟨h.1, fun h0 => let ⟨q, e, hc⟩ := h.2 h0; ⟨q, e, fun j u hu => by
    have h1 := hc j u hu
    have hb := block_lt h1
    rw [add_block] at hb
    rw [← h1]; exact World.cell?_of_block (by rw [add_block]; exact hk q e hb)⟩⟩
theorem own_same {base : Nat} {e : TypeId} {sz n : Nat} {v : Value} {xs : List Value} (h : w.ownsRow base e sz v n xs) (hk : ∀ k, v.ownBlock = some k → k < w.heap.size → w'.heap[k]? = w.heap[k]?) : w'.ownsRow base e sz v n xs := by
  refine ⟨h.1, ?_⟩
  rcases h.2 with hn | ⟨g, cap, cur, rfl, hb, hgg, rest⟩
  · exact .inl hn
  · exact .inr ⟨g, cap, cur, rfl, hb, (hk g rfl (Array.getElem?_eq_some_iff.1 hgg).1).trans hgg, rest⟩
end
/-! names, and where they stand -/
def nmapF : Nat → List (List UInt8) → List (List UInt8 × Value)
  | _, [] => []
  | i, x :: r => (x, .int .i64 (i : Int)) :: nmapF (i + 1) r
def nmap (l : List (List UInt8)) : List (List UInt8 × Value) := nmapF 0 l
def idxF (x : List UInt8) : Nat → List (List UInt8) → Option Nat
  | _, [] => none
  | i, y :: r => if y = x then some i else idxF x (i + 1) r
def idx (x : List UInt8) (l : List (List UInt8)) : Option Nat := idxF x 0 l
theorem nmapF_len : ∀ (i : Nat) (l : List (List UInt8)), (nmapF i l).length = l.length
  | _, [] => rfl
  | i, x :: r => by show (nmapF (i + 1) r).length + 1 = _; rw [nmapF_len]; rfl
theorem nmap_len (l : List (List UInt8)) : (nmap l).length = l.length := nmapF_len 0 l
theorem nmapF_snoc (x : List UInt8) : ∀ (i : Nat) (l : List (List UInt8)), nmapF i (l ++ [x]) = nmapF i l ++ [(x, .int .i64 ((i + l.length : Nat) : Int))]
  | i, [] => rfl
  | i, y :: r => by
    show _ :: nmapF (i + 1) (r ++ [x]) = _ :: (nmapF (i + 1) r ++ _)
    rw [nmapF_snoc x (i + 1) r, List.length_cons, show i + 1 + r.length = i + (r.length + 1) by omega]
theorem nmap_snoc (l : List (List UInt8)) (x : List UInt8) : nmap (l ++ [x]) = nmap l ++ [(x, .int .i64 (l.length : Int))] := by unfold nmap; rw [nmapF_snoc, Nat.zero_add]
theorem mlook_nmapF (x : List UInt8) : ∀ (i : Nat) (l : List (List UInt8)), mlook (nmapF i l) x = (idxF x i l).map fun k => .int .i64 (k : Int)
  | _, [] => rfl
  | i, y :: r => by
    have ih := mlook_nmapF x (i + 1) r
    unfold mlook at ih ⊢
    unfold nmapF idxF
    by_cases h : y = x
    · subst h; simp
    · have h1 : (y == x) = false := by simpa using h
      rw [if_neg h, ← ih, List.find?_cons]; simp only [h1]
theorem mlook_nmap (l : List (List UInt8)) (x : List UInt8) : mlook (nmap l) x = (idx x l).map fun k => .int .i64 (k : Int) := mlook_nmapF x 0 l
theorem mfind_none : ∀ {kv : List (List UInt8 × Value)} {x : List UInt8}, mlook kv x = none → mfind kv x = none
  | [], _, _ => rfl
  | (k, v) :: r, x, h => by
    unfold mlook at h
    rw [List.find?_cons] at h
    unfold mfind
    by_cases e : k = x
    · subst e; simp at h
    · have h1 : (k == x) = false := by simpa using e
      simp only [h1] at h
      rw [if_neg (fun h => e h.symm), mfind_none (by unfold mlook; exact h)]; rfl
theorem idxF_none (x : List UInt8) : ∀ (i : Nat) (l : List (List UInt8)), idxF x i l = none ↔ x ∉ l
  | _, [] => by simp [idxF]
  | i, y :: r => by
    unfold idxF
    by_cases h : y = x
    · subst h; simp
    · rw [if_neg h, idxF_none x (i + 1) r, List.mem_cons]; exact ⟨fun h1 h2 => h2.elim (fun e => h e.symm) h1, fun h1 h2 => h1 (.inr h2)⟩
theorem idx_none {x : List UInt8} {l : List (List UInt8)} : idx x l = none ↔ x ∉ l := idxF_none x 0 l
theorem idxF_some {x : List UInt8} : ∀ {i k : Nat} {l : List (List UInt8)}, idxF x i l = some k → i ≤ k ∧ l[k - i]? = some x
  | _, _, [], h => by cases h
  | i, k, y :: r, h => by
    unfold idxF at h
    by_cases e : y = x
    · rw [if_pos e] at h; cases h; subst e; simp
    · rw [if_neg e] at h
      obtain ⟨h1, h2⟩ := idxF_some h
      obtain ⟨m, hm⟩ : ∃ m, k - i = m + 1 := ⟨k - i - 1, by omega⟩
      exact ⟨by omega, by rw [hm, List.getElem?_cons_succ, show m = k - (i + 1) by omega]; exact h2⟩
theorem idx_some {x : List UInt8} {k : Nat} {l : List (List UInt8)} (h : idx x l = some k) : l[k]? = some x := (idxF_some h).2
theorem idx_lt {x : List UInt8} {k : Nat} {l : List (List UInt8)} (h : idx x l = some k) : k < l.length := (List.getElem?_eq_some_iff.1 (idx_some h)).1
end Go.Bw
namespace Go.Proofs.YtjmlknjbhbfneaaGreatDoor
open Go.RowKit Go.Bw Go.Bw.Fl
set_option linter.unusedVariables false
set_option linter.unusedSimpArgs false

structure LbG (p : Nat) (w : World) : Prop where
  lb : Lb w
  gl : Gl p
theorem LbG.below {p : Nat} {w w' : World} (h : LbG p w) (hb : Below w.heap.size w w') : LbG p w' := ⟨h.lb.below hb, h.gl⟩
theorem LbG.kp {p : Nat} {w w' : World} (h : LbG p w) (hb : Kp p w w') : LbG p w' := ⟨h.lb.kp hb h.gl, h.gl⟩
theorem LbG.over {p g : Nat} {w w' : World} (h : LbG p w) (hb : w.grownBy w' (some g)) (hg : p ≤ g) : LbG p w' := ⟨h.lb.kp hb (h.gl.mono hg), h.gl⟩
theorem three_one {a b c : Value} (ha : a.oneCell' = true) (hb : b.oneCell' = true) (hc : c.oneCell' = true) : ∀ u ∈ [a, b, c], u.oneCell' = true := fun u hu => by
  simp only [List.mem_cons, List.not_mem_nil, or_false] at hu
  rcases hu with rfl | rfl | rfl <;> assumption
theorem six_one {a b c d e f : Value} (ha : a.oneCell' = true) (hb : b.oneCell' = true) (hc : c.oneCell' = true) (hd : d.oneCell' = true) (he : e.oneCell' = true) (hf : f.oneCell' = true) : ∀ u ∈ [a, b, c, d, e, f], u.oneCell' = true := fun u hu => by
  simp only [List.mem_cons, List.not_mem_nil, or_false] at hu
  rcases hu with rfl | rfl | rfl | rfl | rfl | rfl <;> assumption
theorem badE_ne {e b : Int} (hb : b ≠ 0) : badE e b ≠ 0 := by
  unfold badE; split
  · exact hb
  · rename_i h; intro h2; exact h (.inl h2)
theorem nameE_zero {kv : List (List UInt8 × Value)} {nm : List UInt8} {most e : Int} (h : nameE kv nm most e = 0) : e = 0 ∧ mlook kv nm = none ∧ (kv.length : Int) < most := by
  unfold nameE at h
  split at h
  · exact absurd h (badE_ne (by decide))
  · rename_i h1
    split at h
    · exact absurd h (badE_ne (by decide))
    · rename_i h2; exact ⟨h, by simpa using h2, by omega⟩
theorem mput_nmap {l : List (List UInt8)} {x : List UInt8} (h : mlook (nmap l) x = none) : mput (nmap l) x (.int .i64 ((nmap l).length : Int)) = nmap (l ++ [x]) := by
  rw [mput_none _ (mfind_none h), nmap_snoc, nmap_len]
theorem labelsOf_len (s : List UInt8) (e : Int) : (labelsOf s e).2.1.length ≤ s.length ∧ (labelsOf s e).1.length ≤ s.length := by
  have h := labelsGo_len s.length [] s e (Nat.le_refl _)
  unfold labelsOf
  exact ⟨h.1, by have := h.2; simp only [List.length_nil] at this; omega⟩
/-! a line's step -/
noncomputable def nodeStep (s : List UInt8) (e : Int) (g : GV) : GV × Int :=
  let L := labelsOf (wdRest s) (wdE s e)
  let P := propsOf L.2.1 L.2.2
  (⟨g.ns ++ [⟨wd s, sortS L.1, P.1⟩], g.es⟩, nameE (nmap (nnames g)) (wd s) 1000 P.2)
/-- an arrow: what stands behind it, is it ->, is it one -/
def arrS (t : List UInt8) : List UInt8 × Bool × Bool :=
  if Lib.hasPrefix t [45, 62, 32] = true then (t.drop 3, true, true) else if Lib.hasPrefix t [45, 45, 32] = true then (t.drop 3, false, true) else (t, false, false)
def scopeE (o : Option Nat) (e : Int) : Int := if o.isSome = true then e else badE e 3
def arrA (s : List UInt8) : List UInt8 × Bool × Bool := arrS (wdRest (wdRest s) ++ [32])
def toS (s : List UInt8) : List UInt8 := Lib.trimRightB (blanksV (arrA s).1) 32
def headE (s : List UInt8) (e : Int) : Int := wdE (toS s) (if (arrA s).2.2 = true then wdE (wdRest s) (wdE s e) else badE (wdE (wdRest s) (wdE s e)) 2)
noncomputable def edgeStep (s : List UInt8) (e : Int) (g : GV) : GV × Int :=
  let f := idx (wd (wdRest s)) (nnames g)
  let t := idx (wd (toS s)) (nnames g)
  let L := labelsOf (wdRest (toS s)) (scopeE t (scopeE f (headE s e)))
  let P := propsOf L.2.1 L.2.2
  (⟨g.ns, g.es ++ [⟨wd s, ((f.getD 0 : Nat) : Int), ((t.getD 0 : Nat) : Int), (arrA s).2.1, sortS L.1, P.1⟩]⟩, nameE (nmap (enames g)) (wd s) 1000 P.2)
/-! the loader in memory -/
/-- where the elements' rows lie -/
def LS (C L : Nat) (V1 V2 : Value) (k : Nat) : Prop := C ≤ k ∧ k < L ∧ V1.ownBlock ≠ some k ∧ V2.ownBlock ≠ some k
def Els (C : Nat) (w : World) (T sz : Nat) (V : Value) (n : Nat) (Q : Nat → List Value → Prop) (css : List (List Value)) : Prop :=
  css.length = n ∧ (∀ c ∈ css, c.length = sz) ∧ w.ownsRow C T sz V n css.flatten ∧ ∀ i, i < n → Q i (css.getD i [])
structure Ldr (C L : Nat) (w : World) (x m1 m2 : Nat) (V1 V2 : Value) (g : GV) : Prop where
  xC : x < C
  m1C : m1 < C
  m2C : m2 < C
  x1 : x ≠ m1
  x2 : x ≠ m2
  m12 : m1 ≠ m2
  CL : C ≤ L
  Lw : L ≤ w.heap.size
  hx : Blk w x 50 [V1, V2, .map (some m1), .map (some m2)]
  h1 : Mp w m1 (nmap (nnames g))
  h2 : Mp w m2 (nmap (enames g))
  r1 : ∃ css, Els C w 43 3 V1 g.ns.length (fun i cs => NodeC (LS C L V1 V2) w cs (g.ns.getD i nd0)) css
  r2 : ∃ css, Els C w 46 6 V2 g.es.length (fun i cs => EdgeC (LS C L V1 V2) w cs (g.es.getD i ed0)) css
  ap : Apart V1 V2
  v1 : ∀ k, V1.ownBlock = some k → C ≤ k ∧ k < L
  v2 : ∀ k, V2.ownBlock = some k → C ≤ k ∧ k < L
  oks : ∀ d ∈ g.ns, ∀ p ∈ d.ps, p.2.Ok
  oke : ∀ d ∈ g.es, ∀ p ∈ d.ps, p.2.Ok
  ln : g.ns.length ≤ 1000
  le : g.es.length ≤ 1000
theorem NodeAt.keep {S S' : Nat → Prop} {w w' : World} {A B : Option Addr} {c e : Nat} {d : ND} (h : NodeAt S w A c B e d) (hk : ∀ k, S k → w'.heap[k]? = w.heap[k]?) (hS : ∀ k, S k → S' k) : NodeAt S' w' A c B e d :=
  ⟨h.lc, h.pc, h.rl.same fun q e _ => hk _ (h.sl q e), h.rp.same fun q e _ => hk _ (h.sp q e), fun q e => hS _ (h.sl q e), fun q e => hS _ (h.sp q e)⟩
theorem NodeC.keep {S S' : Nat → Prop} {w w' : World} {cs : List Value} {d : ND} (h : NodeC S w cs d) (hk : ∀ k, S k → w'.heap[k]? = w.heap[k]?) (hS : ∀ k, S k → S' k) : NodeC S' w' cs d := let ⟨A, c, B, e, h1, h2⟩ := h; ⟨A, c, B, e, h1, h2.keep hk hS⟩
theorem EdgeC.keep {S S' : Nat → Prop} {w w' : World} {cs : List Value} {d : ED} (h : EdgeC S w cs d) (hk : ∀ k, S k → w'.heap[k]? = w.heap[k]?) (hS : ∀ k, S k → S' k) : EdgeC S' w' cs d := let ⟨A, c, B, e, h1, h2⟩ := h; ⟨A, c, B, e, h1, h2.keep hk hS⟩
section
variable {C L x m1 m2 : Nat} {w w' : World} {V1 V2 : Value} {g : GV}
theorem Ldr.keep (h : Ldr C L w x m1 m2 V1 V2 g) (hs : w.heap.size ≤ w'.heap.size) (hk : ∀ k, k < L → (C ≤ k ∨ k = x ∨ k = m1 ∨ k = m2) → w'.heap[k]? = w.heap[k]?) : Ldr C L w' x m1 m2 V1 V2 g :=
  { h with
    Lw := Nat.le_trans h.Lw hs
    hx := (hk x (by have := h.xC; have := h.CL; omega) (.inr (.inl rfl))).trans h.hx
    h1 := (hk m1 (by have := h.m1C; have := h.CL; omega) (.inr (.inr (.inl rfl)))).trans h.h1
    h2 := (hk m2 (by have := h.m2C; have := h.CL; omega) (.inr (.inr (.inr rfl)))).trans h.h2
    r1 := let ⟨css, a, b, c, d⟩ := h.r1; ⟨css, a, b, own_same c fun k e _ => hk k (h.v1 k e).2 (.inl (h.v1 k e).1), fun i hi => (d i hi).keep (fun k hS => hk k hS.2.1 (.inl hS.1)) (fun _ h => h)⟩
    r2 := let ⟨css, a, b, c, d⟩ := h.r2; ⟨css, a, b, own_same c fun k e _ => hk k (h.v2 k e).2 (.inl (h.v2 k e).1), fun i hi => (d i hi).keep (fun k hS => hk k hS.2.1 (.inl hS.1)) (fun _ h => h)⟩ }
theorem Ldr.other {q : Nat} (h : Ldr C L w x m1 m2 V1 V2 g) (hg : w.grownBy w' (some q)) (hq : q < C) (hx : q ≠ x) (h1 : q ≠ m1) (h2 : q ≠ m2) : Ldr C L w' x m1 m2 V1 V2 g := h.keep hg.size fun k hk hc => hg.block k (by have := h.Lw; omega) (fun e => by
    cases e
    rcases hc with e | e | e | e
    · omega
    · exact hx e
    · exact h1 e
    · exact h2 e)
theorem Ldr.below (h : Ldr C L w x m1 m2 V1 V2 g) (hb : Below w.heap.size w w') : Ldr C L w' x m1 m2 V1 V2 g := h.keep hb.size fun k hk _ => hb.block k (by have := h.Lw; omega)
theorem Ldr.kp {p : Nat} (h : Ldr C L w x m1 m2 V1 V2 g) (hb : Kp p w w') (hp : L ≤ p := by omega) : Ldr C L w' x m1 m2 V1 V2 g := h.keep hb.size fun k hk _ => hb.block k (by have := h.Lw; omega) (fun e => by cases e; omega)
theorem Ldr.over {q : Nat} (h : Ldr C L w x m1 m2 V1 V2 g) (hb : w.grownBy w' (some q)) (hp : L ≤ q) : Ldr C L w' x m1 m2 V1 V2 g := h.kp hb hp
theorem NodeAt.own {S : Nat → Prop} {w : World} {nm : List UInt8} {ls : List (List UInt8)} {ps : List Pr} {Al Ap : Option Addr} {n m cl cp b1 b2 : Nat} (hOl : w.ownsRow b1 9 1 (.slice Al n cl) n (strs ls)) (hn : ls.length = n) (hOp : w.ownsRow b2 105 5 (.slice Ap m cp) m (propsC ps)) (hm : ps.length = m)
    (hSl : ∀ k, (Value.slice Al n cl).ownBlock = some k → S k) (hSp : ∀ k, (Value.slice Ap m cp).ownBlock = some k → S k) : NodeAt S w Al cl Ap cp ⟨nm, ls, ps⟩ := by
  subst hn; subst hm
  have key : ∀ {b : Nat} {T sz n : Nat} {A : Option Addr} {c : Nat} {xs : List Value}, w.ownsRow b T sz (.slice A n c) n xs → n ≤ c := fun h => by
    obtain ⟨_, _, e, h1, _⟩ := own_form h
    injection e with e1 e2 e3; rw [e3]; exact h1
  exact ⟨key hOl, key hOp, Rd.of_own hOl, Rd.of_own hOp, fun q e => hSl _ (by rw [e]; rfl), fun q e => hSp _ (by rw [e]; rfl)⟩
/-- what a line may write -/
def SN (p x m : Nat) (V : Value) (k : Nat) : Prop := k = p ∨ k = x ∨ k = m ∨ V.ownBlock = some k
/-- what a line may write -/
def LQ (p x m1 m2 : Nat) (V1 V2 : Value) (k : Nat) : Prop := k = p ∨ k = x ∨ k = m1 ∨ k = m2 ∨ V1.ownBlock = some k ∨ V2.ownBlock = some k
theorem Ldr.lq {p : Nat} (h : Ldr C L w x m1 m2 V1 V2 g) (hp : L ≤ p) {k : Nat} (hk : k < C) (hx : k ≠ x) (h1 : k ≠ m1) (h2 : k ≠ m2) : ¬ LQ p x m1 m2 V1 V2 k := fun hq => by
  have := h.CL
  rcases hq with e | e | e | e | e | e
  · omega
  · exact hx e
  · exact h1 e
  · exact h2 e
  · have := (h.v1 k e).1; omega
  · have := (h.v2 k e).1; omega
theorem getD_snoc {α : Type} (l : List α) (a z : α) (i : Nat) : (l ++ [a]).getD i z = if i < l.length then l.getD i z else if i = l.length then a else z := by
  simp only [List.getD_eq_getElem?_getD, List.getElem?_append]
  split
  · rfl
  · rename_i h
    split
    · rename_i h2; subst h2; simp
    · rename_i h2
      obtain ⟨m, hm⟩ : ∃ m, i - l.length = m + 1 := ⟨i - l.length - 1, by omega⟩
      rw [hm]; simp
theorem Els.snoc {T sz n : Nat} {V V' : Value} {Q Q' : Nat → List Value → Prop} {css : List (List Value)} {cs : List Value} (h : Els C w T sz V n Q css) (hc : cs.length = sz) (hO : w'.ownsRow C T sz V' (n + 1) (css.flatten ++ cs)) (hQ : ∀ i cs, i < n → Q i cs → Q' i cs) (hn : Q' n cs) : Els C w' T sz V' (n + 1) Q' (css ++ [cs]) := by
  obtain ⟨a, b, c, d⟩ := h
  refine ⟨by simp [a], fun x hx => ?_, by rw [List.flatten_append]; simpa using hO, fun i hi => ?_⟩
  · rcases List.mem_append.1 hx with h | h
    · exact b x h
    · simp at h; rw [h]; exact hc
  · rw [getD_snoc, a]
    by_cases h1 : i < n
    · rw [if_pos h1]; exact hQ i _ h1 (d i h1)
    · have h2 : i = n := by omega
      rw [if_neg h1, if_pos h2, h2]; exact hn
/-- a line's end: a node more -/
theorem Ldr.node (h : Ldr C L w x m1 m2 V1 V2 g) {S : Nat → Prop} {css : List (List Value)} {V1' Vl Vp : Value} {d : ND} (hcs : Els C w 43 3 V1 g.ns.length (fun i cs => NodeC (LS C L V1 V2) w cs (g.ns.getD i nd0)) css)
    (hb : Kq S w w') (hS : ∀ k, S k → k < L → k = x ∨ k = m1 ∨ V1.ownBlock = some k) (hX : Blk w' x 50 [V1', V2, .map (some m1), .map (some m2)]) (hM : Mp w' m1 (nmap (nnames g ++ [d.n])))
    (hO : w'.ownsRow C 43 3 V1' (g.ns.length + 1) (css.flatten ++ [str d.n, Vl, Vp])) (ha : V1'.ownBlock = V1.ownBlock ∨ ∃ k, V1'.ownBlock = some k ∧ w.heap.size ≤ k) (hnew : NodeC (LS C w'.heap.size V1' V2) w' [str d.n, Vl, Vp] d)
    (hok : ∀ p ∈ d.ps, p.2.Ok) (hlen : g.ns.length < 1000) : Ldr C w'.heap.size w' x m1 m2 V1' V2 ⟨g.ns ++ [d], g.es⟩ := by
  have hCL := h.CL; have hLw := h.Lw; have hxC := h.xC; have h1C := h.m1C; have h2C := h.m2C; have hsz := hb.size
  have hkeep : ∀ k, C ≤ k → k < L → V1.ownBlock ≠ some k → w'.heap[k]? = w.heap[k]? := fun k h1 h2 h3 => hb.block k (by omega) (fun hs => by
    rcases hS k hs h2 with e | e | e
    · omega
    · omega
    · exact h3 e)
  have hS' : ∀ k, LS C L V1 V2 k → LS C w'.heap.size V1' V2 k := fun k ⟨a, b, c, d⟩ => ⟨a, by omega, fun e => by
    rcases ha with h3 | ⟨k0, h3, h4⟩
    · rw [h3] at e; exact c e
    · rw [h3] at e; cases e; omega, d⟩
  have hkl : ∀ k, LS C L V1 V2 k → w'.heap[k]? = w.heap[k]? := fun k hk => hkeep k hk.1 hk.2.1 hk.2.2.1
  have hv2 : ∀ k, V2.ownBlock = some k → V1.ownBlock ≠ some k := fun k hk e => h.ap k e hk
  refine { xC := hxC, m1C := h1C, m2C := h2C, x1 := h.x1, x2 := h.x2, m12 := h.m12, CL := by omega, Lw := Nat.le_refl _, hx := hX, h1 := by simpa [nnames] using hM, h2 := ?_, r1 := ⟨css ++ [[str d.n, Vl, Vp]], ?_⟩, r2 := ?_, ap := ?_, v1 := ?_, v2 := fun k hk => ⟨(h.v2 k hk).1, by have := (h.v2 k hk).2; omega⟩, oks := ?_, oke := h.oke, ln := by simp; omega, le := h.le }
  · exact (hb.block m2 (by omega) (fun hs => by
      rcases hS m2 hs (by omega) with e | e | e
      · exact h.x2 e.symm
      · exact h.m12 e.symm
      · have := (h.v1 m2 e).1; omega)).trans h.h2
  · have h5 := Els.snoc (Q' := fun i cs => NodeC (LS C w'.heap.size V1' V2) w' cs ((g.ns ++ [d]).getD i nd0)) hcs rfl hO (fun i cs hi hq => by
      rw [getD_snoc, if_pos hi]; exact hq.keep hkl hS') (by rw [getD_snoc, if_neg (by omega), if_pos rfl]; exact hnew)
    simpa using h5
  · obtain ⟨css2, a, b, c, e⟩ := h.r2
    exact ⟨css2, a, b, own_same c fun k e _ => hkeep k (h.v2 k e).1 (h.v2 k e).2 (hv2 k e), fun i hi => (e i hi).keep hkl hS'⟩
  · intro k hk e
    rcases ha with h3 | ⟨k0, h3, h4⟩
    · rw [h3] at hk; exact h.ap k hk e
    · rw [h3] at hk; cases hk; have := (h.v2 _ e).2; omega
  · intro k hk
    exact ⟨(own_ge hO k hk).1, (own_ge hO k hk).2⟩
  · intro x hx
    rcases List.mem_append.1 hx with h6 | h6
    · exact h.oks x h6
    · simp at h6; rw [h6]; exact hok
theorem Ldr.edge (h : Ldr C L w x m1 m2 V1 V2 g) {S : Nat → Prop} {css : List (List Value)} {V2' : Value} {d : ED} {cs : List Value} (hcl : cs.length = 6) (hcs : Els C w 46 6 V2 g.es.length (fun i cs => EdgeC (LS C L V1 V2) w cs (g.es.getD i ed0)) css)
    (hb : Kq S w w') (hS : ∀ k, S k → k < L → k = x ∨ k = m2 ∨ V2.ownBlock = some k) (hX : Blk w' x 50 [V1, V2', .map (some m1), .map (some m2)]) (hM : Mp w' m2 (nmap (enames g ++ [d.n])))
    (hO : w'.ownsRow C 46 6 V2' (g.es.length + 1) (css.flatten ++ cs)) (ha : V2'.ownBlock = V2.ownBlock ∨ ∃ k, V2'.ownBlock = some k ∧ w.heap.size ≤ k) (hnew : EdgeC (LS C w'.heap.size V1 V2') w' cs d)
    (hok : ∀ p ∈ d.ps, p.2.Ok) (hlen : g.es.length < 1000) : Ldr C w'.heap.size w' x m1 m2 V1 V2' ⟨g.ns, g.es ++ [d]⟩ := by
  have hCL := h.CL; have hLw := h.Lw; have hxC := h.xC; have h1C := h.m1C; have h2C := h.m2C; have hsz := hb.size
  have hkeep : ∀ k, C ≤ k → k < L → V2.ownBlock ≠ some k → w'.heap[k]? = w.heap[k]? := fun k h1 h2 h3 => hb.block k (by omega) (fun hs => by
    rcases hS k hs h2 with e | e | e
    · omega
    · omega
    · exact h3 e)
  have hS' : ∀ k, LS C L V1 V2 k → LS C w'.heap.size V1 V2' k := fun k ⟨a, b, c, d⟩ => ⟨a, by omega, c, fun e => by
    rcases ha with h3 | ⟨k0, h3, h4⟩
    · rw [h3] at e; exact d e
    · rw [h3] at e; cases e; omega⟩
  have hkl : ∀ k, LS C L V1 V2 k → w'.heap[k]? = w.heap[k]? := fun k hk => hkeep k hk.1 hk.2.1 hk.2.2.2
  have hv1 : ∀ k, V1.ownBlock = some k → V2.ownBlock ≠ some k := fun k hk e => h.ap k hk e
  refine { xC := hxC, m1C := h1C, m2C := h2C, x1 := h.x1, x2 := h.x2, m12 := h.m12, CL := by omega, Lw := Nat.le_refl _, hx := hX, h2 := by simpa [enames] using hM, h1 := ?_, r2 := ⟨css ++ [cs], ?_⟩, r1 := ?_, ap := ?_, v2 := ?_, v1 := fun k hk => ⟨(h.v1 k hk).1, by have := (h.v1 k hk).2; omega⟩, oke := ?_, oks := h.oks, le := by simp; omega, ln := h.ln }
  · exact (hb.block m1 (by omega) (fun hs => by
      rcases hS m1 hs (by omega) with e | e | e
      · exact h.x1 e.symm
      · exact h.m12 e
      · have := (h.v2 m1 e).1; omega)).trans h.h1
  · obtain ⟨css2, a, b, c, e⟩ := h.r1
    exact ⟨css2, a, b, own_same c fun k e _ => hkeep k (h.v1 k e).1 (h.v1 k e).2 (hv1 k e), fun i hi => (e i hi).keep hkl hS'⟩
  · have h5 := Els.snoc (Q' := fun i cs => EdgeC (LS C w'.heap.size V1 V2') w' cs ((g.es ++ [d]).getD i ed0)) hcs hcl hO (fun i cs hi hq => by
      rw [getD_snoc, if_pos hi]; exact hq.keep hkl hS') (by rw [getD_snoc, if_neg (by omega), if_pos rfl]; exact hnew)
    simpa using h5
  · intro k hk e
    rcases ha with h3 | ⟨k0, h3, h4⟩
    · rw [h3] at e; exact h.ap k hk e
    · rw [h3] at e; cases e; have := (h.v1 _ hk).2; omega
  · intro k hk
    exact ⟨(own_ge hO k hk).1, (own_ge hO k hk).2⟩
  · intro x hx
    rcases List.mem_append.1 hx with h6 | h6
    · exact h.oke x h6
    · simp at h6; rw [h6]; exact hok
end
end Go.Proofs.YtjmlknjbhbfneaaGreatDoor
namespace Go.Proofs.YtjmlknjbhbfneaaGreatDoor
open Go.RowKit Go.Bw Go.Bw.Fl
set_option linter.unusedVariables false
set_option linter.unusedSimpArgs false
theorem fa27_0LdK (p : Addr) (w : World) : (Instr.fieldAt 27 (.pointer (some p)) 0).run Tryz.prog w = .ok (.pointer (some (p.add 0))) w := run_fieldAt (i := 0) (sz := 0) Tryz.underlying27 rfl (by kernel_rfl) p w
theorem fa43_0LdK (p : Addr) (w : World) : (Instr.fieldAt 43 (.pointer (some p)) 0).run Tryz.prog w = .ok (.pointer (some (p.add 0))) w := run_fieldAt (i := 0) (sz := 0) Tryz.underlying43 rfl (by kernel_rfl) p w
theorem fa43_1LdK (p : Addr) (w : World) : (Instr.fieldAt 43 (.pointer (some p)) 1).run Tryz.prog w = .ok (.pointer (some (p.add 1))) w := run_fieldAt (i := 1) (sz := 0) Tryz.underlying43 rfl (by kernel_rfl) p w
theorem fa43_2LdK (p : Addr) (w : World) : (Instr.fieldAt 43 (.pointer (some p)) 2).run Tryz.prog w = .ok (.pointer (some (p.add 2))) w := run_fieldAt (i := 2) (sz := 0) Tryz.underlying43 rfl (by kernel_rfl) p w
theorem fa50_0LdK (p : Addr) (w : World) : (Instr.fieldAt 50 (.pointer (some p)) 0).run Tryz.prog w = .ok (.pointer (some (p.add 0))) w := run_fieldAt (i := 0) (sz := 1) Tryz.underlying50 rfl (by kernel_rfl) p w
theorem fa50_1LdK (p : Addr) (w : World) : (Instr.fieldAt 50 (.pointer (some p)) 1).run Tryz.prog w = .ok (.pointer (some (p.add 2))) w := run_fieldAt (i := 1) (sz := 0) Tryz.underlying50 rfl (by kernel_rfl) p w
theorem one24LdK : One Tryz.prog 24 := ⟨_, Tryz.underlying24, rfl, by kernel_rfl⟩
theorem one40LdK : One Tryz.prog 40 := ⟨_, Tryz.underlying40, rfl, by kernel_rfl⟩
theorem one41LdK : One Tryz.prog 41 := ⟨_, Tryz.underlying41, rfl, by kernel_rfl⟩
theorem one48LdK : One Tryz.prog 48 := ⟨_, Tryz.underlying48, rfl, by kernel_rfl⟩
theorem one9LdK : One Tryz.prog 9 := ⟨_, Tryz.underlying9, rfl, by kernel_rfl⟩
theorem txt19LdK : Txt Tryz.prog 19 := ⟨_, Tryz.func19, by kernel_rfl, rfl⟩   -- (*bridleway/load.line).word
theorem txt32LdK : Txt Tryz.prog 32 := ⟨_, Tryz.func32, by kernel_rfl, rfl⟩   -- (*bridleway/load.line).labels
theorem txt33LdK : Txt Tryz.prog 33 := ⟨_, Tryz.func33, by kernel_rfl, rfl⟩   -- (*bridleway/load.line).props
theorem txtNamed : Txt Tryz.prog 34 := ⟨_, Tryz.func34, by kernel_rfl, rfl⟩
theorem node_r (C L p x m1 m2 : Nat) (V1 V2 : Value) (g : GV) (s : List UInt8) (e : Int) (w : World) (hP : Blk w p 56 [str s, .int .i64 e]) (hD : Ldr C L w x m1 m2 V1 V2 g) (hp : L ≤ p) (hs : s.length ≤ 4294967296) (hL : Lb w) (hG : Gl p) :
    Ret Tryz.prog 15 [.pointer (some ⟨x, 0, none⟩), .pointer (some ⟨p, 0, none⟩)] w fun v w' => (v = .tuple #[] ∧ (∃ s', Blk w' p 56 [str s', .int .i64 (nodeStep s e g).2]) ∧ ((nodeStep s e g).2 = 0 → ∃ V1', Ldr C w'.heap.size w' x m1 m2 V1' V2 (nodeStep s e g).1)) ∧ Kq (LQ p x m1 m2 V1 V2) w w' := by
  have hpl := hP.lt
  have hLG : LbG p w := ⟨hL, hG⟩
  have hSp : SN p x m1 V1 p := .inl rfl
  have hSx : SN p x m1 V1 x := .inr (.inl rfl)
  have hSm : SN p x m1 V1 m1 := .inr (.inr (.inl rfl))
  have hSv : ∀ k, V1.ownBlock = some k → SN p x m1 V1 k := fun k h => .inr (.inr (.inr h))
  have hx1 := hD.x1; have hxC := hD.xC; have hmC := hD.m1C; have hCL := hD.CL; have hLw := hD.Lw; have hln := hD.ln
  have hwd := wdRest_le s
  obtain ⟨nm, hnm⟩ : ∃ nm, nm = wd s := ⟨_, rfl⟩
  obtain ⟨s1, hs1⟩ : ∃ s1, s1 = wdRest s := ⟨_, rfl⟩
  obtain ⟨e1, he1⟩ : ∃ e1, e1 = wdE s e := ⟨_, rfl⟩
  have hlb2 := (labelsOf_len s1 e1).1
  obtain ⟨Lo, hLo⟩ : ∃ Lo, Lo = labelsOf s1 e1 := ⟨_, rfl⟩
  obtain ⟨Pr_, hPo⟩ : ∃ Pr_, Pr_ = propsOf Lo.2.1 Lo.2.2 := ⟨_, rfl⟩
  have hstep : nodeStep s e g = (⟨g.ns ++ [⟨nm, sortS Lo.1, Pr_.1⟩], g.es⟩, nameE (nmap (nnames g)) nm 1000 Pr_.2) := by rw [hPo, hLo, hs1, he1, hnm]; rfl
  rw [← hLo] at hlb2
  rw [← hs1] at hwd
  have hb := Kq.refl (SN p x m1 V1) w
  refine enter Tryz.func15 rfl rfl rfl <| Wc.seq fun _ hK_1 => Wc.region <| Wl.mv rfl rfl <| Wl.call txt19LdK rfl rfl (word_r p s e _ hP (by omega)) rfl ?_
  rintro _ w_k0 ⟨⟨rfl, hP⟩, hs_k0⟩
  have hz_k0 := hs_k0.size
  have hD := Ldr.kp hD hs_k0
  have hLG := LbG.kp hLG hs_k0
  have hb := hb.trans (Kp.kq hs_k0 (by assumption))
  rw [← hnm, ← hs1, ← he1] at *
  refine Wl.y (y_buildS (z := [(str []), (.slice none 0 0), (.slice none 0 0)]) (pl := [(0, 1), (1, 1), (2, 1)]) (cs := [_, _, _]) Tryz.underlying43 (by kernel_rfl) (by kernel_rfl) rfl rfl rfl) rfl <| Wl.allocN (z := (.agg #[(str []), (.slice none 0 0), (.slice none 0 0)])) (by kernel_rfl) rfl ?_
  rintro g_o2 w_o2 hg_o2 hn_o2 hs_o2
  have hz_o2 := hs_o2.size
  have hP := hP.below hs_o2
  have hD := hD.below hs_o2
  have hLG := hLG.below hs_o2
  replace hs_o2 := Below.kp (p := p) hs_o2
  have hb := hb.trans (Kp.kq hs_o2 (by assumption))
  have hB_o2 := hn_o2
  have hl_o2 := hB_o2.lt
  refine Wl.storeS (by kernel_rfl) rfl rfl hB_o2 rfl rfl ?_
  rintro w_s0 hn_s0 hg_s0
  have hz_s0 := hg_s0.size
  have hb := kq_blk hb hg_s0 (by left; omega)
  have hP := hP.over hg_s0 (by omega)
  have hD := Ldr.over hD hg_s0 (by omega)
  have hLG := LbG.over hLG hg_s0 (by omega)
  have hB_o2 := hn_s0
  refine Wl.nil <| Wq.next hK_1 <| Wc.seq fun _ hK_6 => Wc.region <| Wl.mv rfl rfl <| Wl.call txt32LdK rfl rfl (labels_r p s1 e1 _ hP (by omega)) rfl ?_
  rintro Vl w_k1 ⟨⟨hOl, hP⟩, hs_k1⟩
  have hz_k1 := hs_k1.size
  have hD := Ldr.kp hD hs_k1
  have hLG := LbG.kp hLG hs_k1
  have hB_o2 := Blk.kp hB_o2 hs_k1 (by omega)
  have hb := hb.trans (Kp.kq hs_k1 (by assumption))
  refine Wl.mv rfl rfl ?_
  obtain ⟨Al, cl, hVl, hcl, _⟩ := own_form hOl
  subst hVl
  rw [← hLo] at *
  refine Wl.call txt33LdK rfl rfl (props_r p Lo.2.1 Lo.2.2 _ hP (by omega) hLG.lb hG) rfl ?_
  rintro Vp w_k2 ⟨⟨hOp, hP, hok⟩, hs_k2⟩
  have hz_k2 := hs_k2.size
  have hD := Ldr.kp hD hs_k2
  have hB_o2 := Blk.kp hB_o2 hs_k2 (by omega)
  have hOl := own_kp hOl hs_k2 (by omega)
  have hb := hb.trans (Kp.kq hs_k2 (by assumption))
  refine Wl.y (y_fieldAddr (fa43_1LdK _) rfl) rfl ?_
  obtain ⟨Ap, cp, hVp, hcp, _⟩ := own_form hOp
  subst hVp
  have hapl_ := own_below_p (p := g_o2) hOl (by omega)
  have happ_ := own_below_p (p := g_o2) hOp (by omega)
  refine Wl.storeB one40LdK rfl rfl rfl hB_o2 (by simp) ?_
  rintro w_s1 hn_s1 hg_s1
  have hz_s1 := hg_s1.size
  have hb := kq_blk hb hg_s1 (by left; omega)
  have hP := hP.over hg_s1 (by omega)
  have hD := Ldr.over hD hg_s1 (by omega)
  have hOl := World.ownsRow.kept hOl hg_s1 (by assumption)
  have hOp := World.ownsRow.kept hOp hg_s1 (by assumption)
  have hB_o2 := hn_s1
  refine Wl.y (y_fieldAddr (fa43_2LdK _) rfl) rfl <| Wl.storeB one41LdK rfl rfl rfl hB_o2 (by simp) ?_
  rintro w_s2 hn_s2 hg_s2
  have hz_s2 := hg_s2.size
  have hb := kq_blk hb hg_s2 (by left; omega)
  have hP := hP.over hg_s2 (by omega)
  have hD := Ldr.over hD hg_s2 (by omega)
  have hOl := World.ownsRow.kept hOl hg_s2 (by assumption)
  have hOp := World.ownsRow.kept hOp hg_s2 (by assumption)
  have hB_o2 := hn_s2
  refine Wl.nil <| Wq.next hK_6 <| Wc.seq fun _ hK_13 => ?_
  rw [← hPo] at *
  obtain ⟨css, hcs⟩ := hD.r1
  have hD2 := hD
  have hO := hcs.2.2.1
  have hX := hD.hx
  have hM := hD.h1
  have hL2 := hD.Lw
  have hv1 := hD.v1
  have hb2 := Kq.refl (SN p x m1 V1) w_s2
  refine Wc.any (n := 8) (fun w' => Kq (SN p x m1 V1) w_s2 w' ∧ Blk w' x 50 [V1, V2, .map (some m1), .map (some m2)] ∧ Blk w' g_o2 43 [str nm, .slice Al Lo.1.length cl, .slice Ap Pr_.1.length cp]) #[false, false, false, false, false, false, false, false] (by kernel_rfl) rfl (by kernel_rfl) <| Wa.drew ?_
  rintro w_g2 hs_g2
  have hz_g2 := hs_g2.size
  have hP := hP.below hs_g2
  have hB_o2 := hB_o2.below hs_g2
  have hOl := own_below hOl hs_g2
  have hOp := own_below hOp hs_g2
  have hX := hX.below hs_g2
  have hO := own_below hO hs_g2
  have hM := hM.below hs_g2
  replace hs_g2 := Below.kp (p := p) hs_g2
  have hb := hb.trans (Kp.kq hs_g2 (by assumption))
  have hb2 := hb2.trans (Kp.kq hs_g2 (by assumption))
  refine Wa.take (i := 0) #[true, false, false, false, false, false, false, false] rfl (by kernel_rfl) (fun _ _ _ h => h) rfl (fun wq hq => Yl.ld (y_move rfl)) ⟨hb2, hX, hB_o2⟩ <| Wa.take (i := 1) #[true, true, false, false, false, false, false, false] rfl (by kernel_rfl) (fun _ _ _ h => h) rfl (fun wq hq => Yl.ld (y_move rfl)) ⟨hb2, hX, hB_o2⟩ <| Wa.take (i := 2) #[true, true, true, false, false, false, false, false] rfl (by kernel_rfl) (fun _ _ _ h => h) rfl (fun wq hq => Yl.ld (y_nilCheck rfl)) ⟨hb2, hX, hB_o2⟩ <| Wa.take (i := 3) #[true, true, true, true, false, false, false, false] rfl (by kernel_rfl) (fun _ _ _ h => h) rfl (fun wq hq => Yl.ld (y_fieldAddr (fa50_1LdK _) rfl)) ⟨hb2, hX, hB_o2⟩ <| Wa.take (i := 4) #[true, true, true, true, true, false, false, false] rfl (by kernel_rfl) (fun _ _ _ h => h) rfl (fun wq hq => l_load one48LdK rfl (by obtain ⟨hq, hX, hB_o2⟩ := hq; exact hX.at (j := 2) rfl)) ⟨hb2, hX, hB_o2⟩ <| Wa.take (i := 5) #[true, true, true, true, true, true, false, false] rfl (by kernel_rfl) (fun _ _ _ h => h) rfl (fun wq hq => Yl.ld (y_fieldAddr (fa43_0LdK _) rfl)) ⟨hb2, hX, hB_o2⟩ <| Wa.take (i := 6) #[true, true, true, true, true, true, true, false] rfl (by kernel_rfl) (fun _ _ _ h => h) rfl (fun wq hq => l_load one9LdK rfl (by obtain ⟨hq, hX, hB_o2⟩ := hq; exact hB_o2.at (j := 0) rfl)) ⟨hb2, hX, hB_o2⟩ <| Wa.some (rs := [7]) (by kernel_rfl) rfl <| Ws.cons #[true, true, true, true, true, true, true, true] rfl rfl (fun _ hK_21 => ?_) ?_
  ·
   refine Wl.call txtNamed rfl rfl (named_r p m1 [] Pr_.2 (nmap (nnames g)) nm 1000 _ hP hM (by omega)) rfl ?_
   rintro _ w_k3 ⟨⟨rfl, hP, hM⟩, w1_, hk1_, hk2_⟩
   have hz1_ := hk1_.size
   have hz2_ := hk2_.size
   have hX := (hX.kp hk1_ (by omega)).over hk2_ hx1
   have hB_o2 := (hB_o2.kp hk1_ (by omega)).over hk2_ (by omega)
   have hO := own_same hO (fun k hk hkl => (hk2_.block k (by omega) (fun h => by have := (hv1 k hk).1; cases h; omega)).trans (hk1_.block k hkl (fun h => by have := (hv1 k hk).2; cases h; omega)))
   have hOl := World.ownsRow.kept (own_kp hOl hk1_ (by omega)) hk2_ (own_below_p hOl (by omega))
   have hOp := World.ownsRow.kept (own_kp hOp hk1_ (by omega)) hk2_ (own_below_p hOp (by omega))
   have hb := kq_blk (hb.trans (Kp.kq hk1_ hSp)) hk2_ (.inr hSm)
   have hb2 := kq_blk (hb2.trans (Kp.kq hk1_ hSp)) hk2_ (.inr hSm)
   refine Wl.nil <| Wq.back hK_21 ⟨hb2, hX, hB_o2⟩ <| Wa.done (by kernel_rfl) <| Wq.next hK_13 <| Wc.any (n := 13) (fun w' => Kq (SN p x m1 V1) w_s2 w' ∧ Blk w' g_o2 43 [str nm, .slice Al Lo.1.length cl, .slice Ap Pr_.1.length cp]) #[false, false, false, false, false, false, false, false, false, false, false, false, false] (by kernel_rfl) rfl (by kernel_rfl) <| Wa.drew ?_
   rintro w_g3 hs_g3
   have hz_g3 := hs_g3.size
   have hP := hP.below hs_g3
   have hB_o2 := hB_o2.below hs_g3
   have hOl := own_below hOl hs_g3
   have hOp := own_below hOp hs_g3
   have hX := hX.below hs_g3
   have hO := own_below hO hs_g3
   have hM := hM.below hs_g3
   replace hs_g3 := Below.kp (p := p) hs_g3
   have hb := hb.trans (Kp.kq hs_g3 (by assumption))
   have hb2 := hb2.trans (Kp.kq hs_g3 (by assumption))
   refine Wa.take (i := 0) #[true, false, false, false, false, false, false, false, false, false, false, false, false] rfl (by kernel_rfl) (fun _ _ _ h => h) rfl (fun wq hq => Yl.ld (y_move rfl)) ⟨hb2, hB_o2⟩ <| Wa.take (i := 1) #[true, true, false, false, false, false, false, false, false, false, false, false, false] rfl (by kernel_rfl) (fun _ _ _ h => h) rfl (fun wq hq => Yl.ld (y_move rfl)) ⟨hb2, hB_o2⟩ <| Wa.take (i := 2) #[true, true, true, false, false, false, false, false, false, false, false, false, false] rfl (by kernel_rfl) (fun _ _ _ h => h) rfl (fun wq hq => Yl.ld (y_nilCheck rfl)) ⟨hb2, hB_o2⟩ <| Wa.take (i := 3) #[true, true, true, true, false, false, false, false, false, false, false, false, false] rfl (by kernel_rfl) (fun _ _ _ h => h) rfl (fun wq hq => Yl.ld (y_fieldAddr (fa50_0LdK _) rfl)) ⟨hb2, hB_o2⟩ <| Wa.take (i := 4) #[true, true, true, true, true, false, false, false, false, false, false, false, false] rfl (by kernel_rfl) (fun _ _ _ h => h) rfl (fun wq hq => Yl.ld (y_fieldAddr (fa27_0LdK _) rfl)) ⟨hb2, hB_o2⟩ <| Wa.take (i := 6) #[true, true, true, true, true, false, true, false, false, false, false, false, false] rfl (by kernel_rfl) (fun _ _ _ h => h) rfl (fun wq hq => l_loadS Tryz.underlying43 (by kernel_rfl) rfl (by obtain ⟨hq, hB_o2⟩ := hq; exact fun j u hu => hB_o2.at hu)) ⟨hb2, hB_o2⟩ <| Wa.some (rs := [5, 7]) (by kernel_rfl) rfl <| Ws.cons #[true, true, true, true, true, true, true, false, false, false, false, false, false] rfl rfl (fun _ hK_29 => ?_) ?_
   ·
    refine Wl.l (l_load one24LdK rfl (by exact hX.at (j := 0) rfl)) rfl <| Wl.nil <| Wq.back hK_29 ⟨hb2, hB_o2⟩ <| Wa.some (rs := [7]) (by kernel_rfl) rfl <| Ws.cons #[true, true, true, true, true, true, true, true, false, false, false, false, false] rfl rfl (fun _ hK_31 => ?_) ?_
    ·
     refine Wl.litN (sz := 3) (vs := [_]) Tryz.underlying24 (by kernel_rfl) rfl rfl rfl rfl rfl rfl ?_
     rintro g_b0 w_b0 hg_b0 hn_b0 hs_b0
     have hz_b0 := hs_b0.size
     have hP := hP.below hs_b0
     have hB_o2 := hB_o2.below hs_b0
     have hOl := own_below hOl hs_b0
     have hOp := own_below hOp hs_b0
     have hX := hX.below hs_b0
     have hO := own_below hO hs_b0
     have hM := hM.below hs_b0
     replace hs_b0 := Below.kp (p := p) hs_b0
     have hb := hb.trans (Kp.kq hs_b0 (by assumption))
     have hb2 := hb2.trans (Kp.kq hs_b0 (by assumption))
     have hB_b0 := hn_b0
     have hl_b0 := hB_b0.lt
     refine Wl.nil <| Wq.back hK_31 ⟨hb2, hB_o2⟩ <| Wa.some (rs := [8]) (by kernel_rfl) rfl <| Ws.cons #[true, true, true, true, true, true, true, true, true, false, false, false, false] rfl rfl (fun _ hK_33 => ?_) ?_
     ·
      have hB3 : Blk _ g_b0 43 [str nm, .slice Al Lo.1.length cl, .slice Ap Pr_.1.length cp] := hB_b0
      have hgl := own_ge hOl
      have hgp := own_ge hOp
      refine Wl.append (z := .agg #[str [], .slice none 0 0, .slice none 0 0]) (sz := 3) (bytes := 64) Tryz.underlying24 (by kernel_rfl) rfl (by decide) C rfl hO rfl (hB3.rd 1 3 rfl) (three_one rfl rfl rfl) (by simp only [maxLen]; omega) (by omega) (by omega) rfl ?_
      rintro V1' w_b1 hO2 hg_b1 ha_b1
      have hz_b1 := hg_b1.size
      have hP := hP.grown hg_b1 (fun h => by have := (hv1 _ h.symm).2; omega)
      have hX := hX.grown hg_b1 (fun h => by have := (hv1 _ h.symm).1; omega)
      have hM := hM.grown hg_b1 (fun h => by have := (hv1 _ h.symm).1; omega)
      have hB_o2 := hB_o2.grown hg_b1 (fun h => by have := (hv1 _ h.symm).2; omega)
      have hOl := own_same hOl (fun k hk hkl => hg_b1.block k hkl (fun h => by have h1 := (hgl k hk).1; have := (hv1 _ h.symm).2; omega))
      have hOp := own_same hOp (fun k hk hkl => hg_b1.block k hkl (fun h => by have h1 := (hgp k hk).1; have := (hv1 _ h.symm).2; omega))
      have hb := kq_row hb hg_b1 (fun k hk => .inr (hSv k hk))
      have hb2 := kq_row hb2 hg_b1 (fun k hk => .inr (hSv k hk))
      obtain ⟨A1, c1, hV1e, hc1, _⟩ := own_form hO2
      have hv1n : ∀ k, V1'.ownBlock = some k → k ≠ x := fun k hk h => by rcases ha_b1 with h2 | h2; (· rw [h2] at hk; have := (hv1 k hk).1; omega); (· rw [h2] at hk; cases hk; omega)
      subst hV1e
      refine Wl.nil <| Wq.back hK_33 ⟨hb2, hB_o2⟩ <| Wa.take (i := 9) #[true, true, true, true, true, true, true, true, true, true, false, false, false] rfl (by kernel_rfl) (fun _ _ _ h => h) rfl (fun wq hq => Yl.ld (y_nilCheck rfl)) ⟨hb2, hB_o2⟩ <| Wa.take (i := 10) #[true, true, true, true, true, true, true, true, true, true, true, false, false] rfl (by kernel_rfl) (fun _ _ _ h => h) rfl (fun wq hq => Yl.ld (y_fieldAddr (fa50_0LdK _) rfl)) ⟨hb2, hB_o2⟩ <| Wa.take (i := 11) #[true, true, true, true, true, true, true, true, true, true, true, true, false] rfl (by kernel_rfl) (fun _ _ _ h => h) rfl (fun wq hq => Yl.ld (y_fieldAddr (fa27_0LdK _) rfl)) ⟨hb2, hB_o2⟩ <| Wa.some (rs := [12]) (by kernel_rfl) rfl <| Ws.cons #[true, true, true, true, true, true, true, true, true, true, true, true, true] rfl rfl (fun _ hK_38 => ?_) ?_
      ·
       have hgl2 := own_ge hOl
       have hgp2 := own_ge hOp
       refine Wl.storeB (one24LdK) rfl rfl rfl hX (by simp) ?_
       rintro w_s3 hX hg_s3
       have hz_s3 := hg_s3.size
       have hP := hP.over hg_s3 (by omega)
       have hM := hM.over hg_s3 (fun h => hx1 h.symm)
       have hB_o2 := hB_o2.over hg_s3 (by omega)
       have hO2 := own_same hO2 (fun k hk hkl => hg_s3.block k hkl (fun h => hv1n k hk (Option.some.inj h)))
       have hOl := own_same hOl (fun k hk hkl => hg_s3.block k hkl (fun h => by have h1 := (hgl k hk).1; cases h; omega))
       have hOp := own_same hOp (fun k hk hkl => hg_s3.block k hkl (fun h => by have h1 := (hgp k hk).1; cases h; omega))
       have hb := kq_blk hb hg_s3 (.inr hSx)
       have hb2 := kq_blk hb2 hg_s3 (.inr hSx)
       refine Wl.nil <| Wq.back hK_38 ⟨hb2, hB_o2⟩ <| Wa.done (by kernel_rfl) <| end0 rfl ?_
       exact ⟨_, rfl, ⟨rfl, ⟨[], by rw [hstep]; exact hP⟩, fun h0 => by
  rw [hstep] at h0 ⊢
  obtain ⟨_, hml, hlt⟩ := nameE_zero h0
  rw [nmap_len] at hlt
  have hlt2 : g.ns.length < 1000 := by have e0 : (nnames g).length = g.ns.length := (by unfold nnames; rw [List.length_map]); omega
  rw [mput_nmap hml] at hM
  refine ⟨_, Ldr.node hD2 hcs hb2 (fun k hk hkL => by rcases hk with h | h | h | h; (· omega); (· exact .inl h); (· exact .inr (.inl h)); (· exact .inr (.inr h))) hX hM hO2 ?_ ⟨Al, cl, Ap, cp, by rw [sortS_len], NodeAt.own hOl (sortS_len _) hOp rfl (fun k hk => ?_) (fun k hk => ?_)⟩ hok hlt2⟩
  · rcases ha_b1 with h2 | h2
    · exact .inl h2
    · exact .inr ⟨_, h2, by omega⟩
  · have h1 := hgl k hk; have h3 := own_ge hOl k hk
    exact ⟨by omega, h3.2, fun h => by rcases ha_b1 with h2 | h2; (· rw [h2] at h; have := (hv1 k h).2; omega); (· rw [h2] at h; cases h; omega), fun h => by have := (hD2.v2 k h).2; omega⟩
  · have h1 := hgp k hk; have h3 := own_ge hOp k hk
    exact ⟨by omega, h3.2, fun h => by rcases ha_b1 with h2 | h2; (· rw [h2] at h; have := (hv1 k h).2; omega); (· rw [h2] at h; cases h; omega), fun h => by have := (hD2.v2 k h).2; omega⟩⟩, hb.weak (fun k hk => by rcases hk with h | h | h | h; (· exact .inl h); (· exact .inr (.inl h)); (· exact .inr (.inr (.inl h))); (· exact .inr (.inr (.inr (.inr (.inl h))))))⟩
      exact Ws.nil
     exact Ws.nil
    exact Ws.nil
   refine Ws.cons #[true, true, true, true, true, false, true, true, false, false, false, false, false] rfl rfl (fun _ hK_39 => ?_) ?_
   ·
    refine Wl.litN (sz := 3) (vs := [_]) Tryz.underlying24 (by kernel_rfl) rfl rfl rfl rfl rfl rfl ?_
    rintro g_b0 w_b0 hg_b0 hn_b0 hs_b0
    have hz_b0 := hs_b0.size
    have hP := hP.below hs_b0
    have hB_o2 := hB_o2.below hs_b0
    have hOl := own_below hOl hs_b0
    have hOp := own_below hOp hs_b0
    have hX := hX.below hs_b0
    have hO := own_below hO hs_b0
    have hM := hM.below hs_b0
    replace hs_b0 := Below.kp (p := p) hs_b0
    have hb := hb.trans (Kp.kq hs_b0 (by assumption))
    have hb2 := hb2.trans (Kp.kq hs_b0 (by assumption))
    have hB_b0 := hn_b0
    have hl_b0 := hB_b0.lt
    refine Wl.nil <| Wq.back hK_39 ⟨hb2, hB_o2⟩ <| Wa.some (rs := [5]) (by kernel_rfl) rfl <| Ws.cons #[true, true, true, true, true, true, true, true, false, false, false, false, false] rfl rfl (fun _ hK_41 => ?_) ?_
    ·
     refine Wl.l (l_load one24LdK rfl (by exact hX.at (j := 0) rfl)) rfl <| Wl.nil <| Wq.back hK_41 ⟨hb2, hB_o2⟩ <| Wa.some (rs := [8]) (by kernel_rfl) rfl <| Ws.cons #[true, true, true, true, true, true, true, true, true, false, false, false, false] rfl rfl (fun _ hK_43 => ?_) ?_
     ·
      have hB3 : Blk _ g_b0 43 [str nm, .slice Al Lo.1.length cl, .slice Ap Pr_.1.length cp] := hB_b0
      have hgl := own_ge hOl
      have hgp := own_ge hOp
      refine Wl.append (z := .agg #[str [], .slice none 0 0, .slice none 0 0]) (sz := 3) (bytes := 64) Tryz.underlying24 (by kernel_rfl) rfl (by decide) C rfl hO rfl (hB3.rd 1 3 rfl) (three_one rfl rfl rfl) (by simp only [maxLen]; omega) (by omega) (by omega) rfl ?_
      rintro V1' w_b1 hO2 hg_b1 ha_b1
      have hz_b1 := hg_b1.size
      have hP := hP.grown hg_b1 (fun h => by have := (hv1 _ h.symm).2; omega)
      have hX := hX.grown hg_b1 (fun h => by have := (hv1 _ h.symm).1; omega)
      have hM := hM.grown hg_b1 (fun h => by have := (hv1 _ h.symm).1; omega)
      have hB_o2 := hB_o2.grown hg_b1 (fun h => by have := (hv1 _ h.symm).2; omega)
      have hOl := own_same hOl (fun k hk hkl => hg_b1.block k hkl (fun h => by have h1 := (hgl k hk).1; have := (hv1 _ h.symm).2; omega))
      have hOp := own_same hOp (fun k hk hkl => hg_b1.block k hkl (fun h => by have h1 := (hgp k hk).1; have := (hv1 _ h.symm).2; omega))
      have hb := kq_row hb hg_b1 (fun k hk => .inr (hSv k hk))
      have hb2 := kq_row hb2 hg_b1 (fun k hk => .inr (hSv k hk))
      obtain ⟨A1, c1, hV1e, hc1, _⟩ := own_form hO2
      have hv1n : ∀ k, V1'.ownBlock = some k → k ≠ x := fun k hk h => by rcases ha_b1 with h2 | h2; (· rw [h2] at hk; have := (hv1 k hk).1; omega); (· rw [h2] at hk; cases hk; omega)
      subst hV1e
      refine Wl.nil <| Wq.back hK_43 ⟨hb2, hB_o2⟩ <| Wa.take (i := 9) #[true, true, true, true, true, true, true, true, true, true, false, false, false] rfl (by kernel_rfl) (fun _ _ _ h => h) rfl (fun wq hq => Yl.ld (y_nilCheck rfl)) ⟨hb2, hB_o2⟩ <| Wa.take (i := 10) #[true, true, true, true, true, true, true, true, true, true, true, false, false] rfl (by kernel_rfl) (fun _ _ _ h => h) rfl (fun wq hq => Yl.ld (y_fieldAddr (fa50_0LdK _) rfl)) ⟨hb2, hB_o2⟩ <| Wa.take (i := 11) #[true, true, true, true, true, true, true, true, true, true, true, true, false] rfl (by kernel_rfl) (fun _ _ _ h => h) rfl (fun wq hq => Yl.ld (y_fieldAddr (fa27_0LdK _) rfl)) ⟨hb2, hB_o2⟩ <| Wa.some (rs := [12]) (by kernel_rfl) rfl <| Ws.cons #[true, true, true, true, true, true, true, true, true, true, true, true, true] rfl rfl (fun _ hK_48 => ?_) ?_
      ·
       have hgl2 := own_ge hOl
       have hgp2 := own_ge hOp
       refine Wl.storeB (one24LdK) rfl rfl rfl hX (by simp) ?_
       rintro w_s3 hX hg_s3
       have hz_s3 := hg_s3.size
       have hP := hP.over hg_s3 (by omega)
       have hM := hM.over hg_s3 (fun h => hx1 h.symm)
       have hB_o2 := hB_o2.over hg_s3 (by omega)
       have hO2 := own_same hO2 (fun k hk hkl => hg_s3.block k hkl (fun h => hv1n k hk (Option.some.inj h)))
       have hOl := own_same hOl (fun k hk hkl => hg_s3.block k hkl (fun h => by have h1 := (hgl k hk).1; cases h; omega))
       have hOp := own_same hOp (fun k hk hkl => hg_s3.block k hkl (fun h => by have h1 := (hgp k hk).1; cases h; omega))
       have hb := kq_blk hb hg_s3 (.inr hSx)
       have hb2 := kq_blk hb2 hg_s3 (.inr hSx)
       refine Wl.nil <| Wq.back hK_48 ⟨hb2, hB_o2⟩ <| Wa.done (by kernel_rfl) <| end0 rfl ?_
       exact ⟨_, rfl, ⟨rfl, ⟨[], by rw [hstep]; exact hP⟩, fun h0 => by
  rw [hstep] at h0 ⊢
  obtain ⟨_, hml, hlt⟩ := nameE_zero h0
  rw [nmap_len] at hlt
  have hlt2 : g.ns.length < 1000 := by have e0 : (nnames g).length = g.ns.length := (by unfold nnames; rw [List.length_map]); omega
  rw [mput_nmap hml] at hM
  refine ⟨_, Ldr.node hD2 hcs hb2 (fun k hk hkL => by rcases hk with h | h | h | h; (· omega); (· exact .inl h); (· exact .inr (.inl h)); (· exact .inr (.inr h))) hX hM hO2 ?_ ⟨Al, cl, Ap, cp, by rw [sortS_len], NodeAt.own hOl (sortS_len _) hOp rfl (fun k hk => ?_) (fun k hk => ?_)⟩ hok hlt2⟩
  · rcases ha_b1 with h2 | h2
    · exact .inl h2
    · exact .inr ⟨_, h2, by omega⟩
  · have h1 := hgl k hk; have h3 := own_ge hOl k hk
    exact ⟨by omega, h3.2, fun h => by rcases ha_b1 with h2 | h2; (· rw [h2] at h; have := (hv1 k h).2; omega); (· rw [h2] at h; cases h; omega), fun h => by have := (hD2.v2 k h).2; omega⟩
  · have h1 := hgp k hk; have h3 := own_ge hOp k hk
    exact ⟨by omega, h3.2, fun h => by rcases ha_b1 with h2 | h2; (· rw [h2] at h; have := (hv1 k h).2; omega); (· rw [h2] at h; cases h; omega), fun h => by have := (hD2.v2 k h).2; omega⟩⟩, hb.weak (fun k hk => by rcases hk with h | h | h | h; (· exact .inl h); (· exact .inr (.inl h)); (· exact .inr (.inr (.inl h))); (· exact .inr (.inr (.inr (.inr (.inl h))))))⟩
      exact Ws.nil
     exact Ws.nil
    exact Ws.nil
   exact Ws.nil
  exact Ws.nil
end Go.Proofs.YtjmlknjbhbfneaaGreatDoor
namespace Go.Proofs.YtjmlknjbhbfneaaGreatDoor
open Go.RowKit Go.Bw Go.Bw.Fl
set_option linter.unusedVariables false
set_option linter.unusedSimpArgs false
theorem fa27_1LdL (p : Addr) (w : World) : (Instr.fieldAt 27 (.pointer (some p)) 1).run Tryz.prog w = .ok (.pointer (some (p.add 1))) w := run_fieldAt (i := 1) (sz := 0) Tryz.underlying27 rfl (by kernel_rfl) p w
theorem fa46_0LdL (p : Addr) (w : World) : (Instr.fieldAt 46 (.pointer (some p)) 0).run Tryz.prog w = .ok (.pointer (some (p.add 0))) w := run_fieldAt (i := 0) (sz := 0) Tryz.underlying46 rfl (by kernel_rfl) p w
theorem fa46_1LdL (p : Addr) (w : World) : (Instr.fieldAt 46 (.pointer (some p)) 1).run Tryz.prog w = .ok (.pointer (some (p.add 1))) w := run_fieldAt (i := 1) (sz := 0) Tryz.underlying46 rfl (by kernel_rfl) p w
theorem fa46_2LdL (p : Addr) (w : World) : (Instr.fieldAt 46 (.pointer (some p)) 2).run Tryz.prog w = .ok (.pointer (some (p.add 2))) w := run_fieldAt (i := 2) (sz := 0) Tryz.underlying46 rfl (by kernel_rfl) p w
theorem fa46_3LdL (p : Addr) (w : World) : (Instr.fieldAt 46 (.pointer (some p)) 3).run Tryz.prog w = .ok (.pointer (some (p.add 3))) w := run_fieldAt (i := 3) (sz := 0) Tryz.underlying46 rfl (by kernel_rfl) p w
theorem fa46_4LdL (p : Addr) (w : World) : (Instr.fieldAt 46 (.pointer (some p)) 4).run Tryz.prog w = .ok (.pointer (some (p.add 4))) w := run_fieldAt (i := 4) (sz := 0) Tryz.underlying46 rfl (by kernel_rfl) p w
theorem fa46_5LdL (p : Addr) (w : World) : (Instr.fieldAt 46 (.pointer (some p)) 5).run Tryz.prog w = .ok (.pointer (some (p.add 5))) w := run_fieldAt (i := 5) (sz := 0) Tryz.underlying46 rfl (by kernel_rfl) p w
theorem fa50_0LdL (p : Addr) (w : World) : (Instr.fieldAt 50 (.pointer (some p)) 0).run Tryz.prog w = .ok (.pointer (some (p.add 0))) w := run_fieldAt (i := 0) (sz := 1) Tryz.underlying50 rfl (by kernel_rfl) p w
theorem fa50_2LdL (p : Addr) (w : World) : (Instr.fieldAt 50 (.pointer (some p)) 2).run Tryz.prog w = .ok (.pointer (some (p.add 3))) w := run_fieldAt (i := 2) (sz := 0) Tryz.underlying50 rfl (by kernel_rfl) p w
theorem fa56_0LdL (p : Addr) (w : World) : (Instr.fieldAt 56 (.pointer (some p)) 0).run Tryz.prog w = .ok (.pointer (some (p.add 0))) w := run_fieldAt (i := 0) (sz := 0) Tryz.underlying56 rfl (by kernel_rfl) p w
theorem one25LdL : One Tryz.prog 25 := ⟨_, Tryz.underlying25, rfl, by kernel_rfl⟩
theorem one3LdL : One Tryz.prog 3 := ⟨_, Tryz.underlying3, rfl, by kernel_rfl⟩
theorem one4LdL : One Tryz.prog 4 := ⟨_, Tryz.underlying4, rfl, by kernel_rfl⟩
theorem one40LdL : One Tryz.prog 40 := ⟨_, Tryz.underlying40, rfl, by kernel_rfl⟩
theorem one41LdL : One Tryz.prog 41 := ⟨_, Tryz.underlying41, rfl, by kernel_rfl⟩
theorem one48LdL : One Tryz.prog 48 := ⟨_, Tryz.underlying48, rfl, by kernel_rfl⟩
theorem one9LdL : One Tryz.prog 9 := ⟨_, Tryz.underlying9, rfl, by kernel_rfl⟩
theorem txt18LdL : Txt Tryz.prog 18 := ⟨_, Tryz.func18, by kernel_rfl, rfl⟩   -- (*bridleway/load.line).blanks
theorem txt19LdL : Txt Tryz.prog 19 := ⟨_, Tryz.func19, by kernel_rfl, rfl⟩   -- (*bridleway/load.line).word
theorem txt32LdL : Txt Tryz.prog 32 := ⟨_, Tryz.func32, by kernel_rfl, rfl⟩   -- (*bridleway/load.line).labels
theorem txt33LdL : Txt Tryz.prog 33 := ⟨_, Tryz.func33, by kernel_rfl, rfl⟩   -- (*bridleway/load.line).props
theorem txt35LdL : Txt Tryz.prog 35 := ⟨_, Tryz.func35, by kernel_rfl, rfl⟩   -- strings.CutPrefix
theorem txt36LdL : Txt Tryz.prog 36 := ⟨_, Tryz.func36, by kernel_rfl, rfl⟩   -- (*bridleway/load.line).bad
theorem txt37LdL : Txt Tryz.prog 37 := ⟨_, Tryz.func37, by kernel_rfl, rfl⟩   -- strings.TrimRight
theorem txt38LdL : Txt Tryz.prog 38 := ⟨_, Tryz.func38, by kernel_rfl, rfl⟩   -- (*bridleway/load.loader).find
theorem trimR_le (s : List UInt8) (c : UInt8) : (Lib.trimRightB s c).length ≤ s.length := by
  unfold Lib.trimRightB
  rw [List.length_reverse]
  exact Nat.le_trans (List.dropWhile_suffix _).sublist.length_le (by rw [List.length_reverse]; exact Nat.le_refl _)
theorem arrS_len (t : List UInt8) : (arrS t).1.length ≤ t.length := by
  unfold arrS
  split
  · simp
  · split <;> simp
theorem toS_len (s : List UInt8) : (toS s).length ≤ s.length + 1 := by
  have h1 := trimR_le (blanksV (arrA s).1) 32
  have h2 := blanksV_le (arrA s).1
  have h3 := arrS_len (wdRest (wdRest s) ++ [32])
  have h4 := wdRest_le (wdRest s)
  have h5 := wdRest_le s
  rw [List.length_append] at h3
  simp only [List.length_cons, List.length_nil] at h3
  show (Lib.trimRightB (blanksV (arrA s).1) 32).length ≤ _
  have h6 : (arrA s).1.length ≤ (wdRest (wdRest s)).length + (0 + 1) := h3
  omega
theorem find_x (p x m1 : Nat) (s : List UInt8) (e : Int) (l : List (List UInt8)) (nm : List UInt8) (xs : List Value) (w : World) (hP : Blk w p 56 [str s, .int .i64 e]) (hX : Blk w x 50 xs) (hx2 : xs[2]? = some (.map (some m1))) (hM : Mp w m1 (nmap l)) :
    Ret Tryz.prog 38 [.pointer (some ⟨x, 0, none⟩), .pointer (some ⟨p, 0, none⟩), str nm] w fun v w' => (v = .int .i64 (((idx nm l).getD 0 : Nat) : Int) ∧ Blk w' p 56 [str s, .int .i64 (scopeE (idx nm l) e)]) ∧ Kp p w w' :=
  (find_r p x m1 s e (nmap l) nm xs w hP hX hx2 hM).mono fun v w' ⟨⟨h1, h2⟩, h3⟩ => by
    rw [mlook_nmap] at h1 h2
    refine ⟨⟨?_, ?_⟩, h3⟩
    · rw [h1]; cases idx nm l <;> rfl
    · unfold scopeE; simpa using h2
theorem arrS_t {t : List UInt8} (h : Lib.hasPrefix t [45, 62, 32] = true) : arrS t = (Lib.trimPrefix t [45, 62, 32], true, true) := by unfold arrS Lib.trimPrefix; rw [if_pos h, if_pos h]; rfl
theorem arrS_f {t : List UInt8} (h : Lib.hasPrefix t [45, 62, 32] = false) : arrS t = (Lib.trimPrefix (Lib.trimPrefix t [45, 62, 32]) [45, 45, 32], false, Lib.hasPrefix (Lib.trimPrefix t [45, 62, 32]) [45, 45, 32]) := by
  have h1 : Lib.trimPrefix t [45, 62, 32] = t := by unfold Lib.trimPrefix; rw [if_neg (by rw [h]; simp)]
  rw [h1]
  unfold arrS
  rw [if_neg (by rw [h]; simp)]
  cases h2 : Lib.hasPrefix t [45, 45, 32] with
  | true => rw [if_pos rfl]; unfold Lib.trimPrefix; rw [if_pos h2]; rfl
  | false => rw [if_neg (by simp)]; unfold Lib.trimPrefix; rw [if_neg (by rw [h2]; simp)]
set_option maxHeartbeats 800000 in
theorem edge_r (C L p x m1 m2 : Nat) (V1 V2 : Value) (g : GV) (s : List UInt8) (e : Int) (w : World) (hP : Blk w p 56 [str s, .int .i64 e]) (hD : Ldr C L w x m1 m2 V1 V2 g) (hp : L ≤ p) (hs : s.length ≤ 4294967295) (hL : Lb w) (hG : Gl p) :
    Ret Tryz.prog 16 [.pointer (some ⟨x, 0, none⟩), .pointer (some ⟨p, 0, none⟩)] w fun v w' => (v = .tuple #[] ∧ (∃ s', Blk w' p 56 [str s', .int .i64 (edgeStep s e g).2]) ∧ ((edgeStep s e g).2 = 0 → ∃ V2', Ldr C w'.heap.size w' x m1 m2 V1 V2' (edgeStep s e g).1)) ∧ Kq (LQ p x m1 m2 V1 V2) w w' := by
  have hpl := hP.lt
  have hLG : LbG p w := ⟨hL, hG⟩
  have hSp : SN p x m2 V2 p := .inl rfl
  have hSx : SN p x m2 V2 x := .inr (.inl rfl)
  have hSm : SN p x m2 V2 m2 := .inr (.inr (.inl rfl))
  have hSv : ∀ k, V2.ownBlock = some k → SN p x m2 V2 k := fun k h => .inr (.inr (.inr h))
  have hx2 := hD.x2; have hxC := hD.xC; have hmC := hD.m2C; have hCL := hD.CL; have hLw := hD.Lw; have hln := hD.le
  have hwd := wdRest_le s
  have hwd2 := wdRest_le (wdRest s)
  have hts := toS_len s
  have hwd5 := wdRest_le (toS s)
  have h1len : ([32] : List UInt8).length = 1 := rfl
  obtain ⟨e6, he6⟩ : ∃ e6, e6 = scopeE (idx (wd (toS s)) (nnames g)) (scopeE (idx (wd (wdRest s)) (nnames g)) (headE s e)) := ⟨_, rfl⟩
  have hlb2 := (labelsOf_len (wdRest (toS s)) e6).1
  obtain ⟨Lo, hLo⟩ : ∃ Lo, Lo = labelsOf (wdRest (toS s)) e6 := ⟨_, rfl⟩
  obtain ⟨Pr_, hPo⟩ : ∃ Pr_, Pr_ = propsOf Lo.2.1 Lo.2.2 := ⟨_, rfl⟩
  have hstep : edgeStep s e g = (⟨g.ns, g.es ++ [⟨wd s, (((idx (wd (wdRest s)) (nnames g)).getD 0 : Nat) : Int), (((idx (wd (toS s)) (nnames g)).getD 0 : Nat) : Int), (arrA s).2.1, sortS Lo.1, Pr_.1⟩]⟩, nameE (nmap (enames g)) (wd s) 1000 Pr_.2) := by rw [hPo, hLo, he6]; rfl
  rw [← hLo] at hlb2
  have hb := Kq.refl (SN p x m2 V2) w
  refine enter Tryz.func16 rfl rfl rfl <| Wc.seq fun _ hK_1 => Wc.region <| Wl.mv rfl rfl <| Wl.call txt19LdL rfl rfl (word_r p s e _ hP (by omega)) rfl ?_
  rintro _ w_k0 ⟨⟨rfl, hP⟩, hs_k0⟩
  have hz_k0 := hs_k0.size
  have hD := Ldr.kp hD hs_k0
  have hLG := LbG.kp hLG hs_k0
  have hb := hb.trans (Kp.kq hs_k0 (by assumption))
  refine Wl.y (y_buildS (z := [(str []), (.int .i64 0), (.int .i64 0), (.bool false), (.slice none 0 0), (.slice none 0 0)]) (pl := [(0, 1), (1, 1), (2, 1), (3, 1), (4, 1), (5, 1)]) (cs := [_, _, _, _, _, _]) Tryz.underlying46 (by kernel_rfl) (by kernel_rfl) rfl rfl rfl) rfl <| Wl.allocN (z := (.agg #[(str []), (.int .i64 0), (.int .i64 0), (.bool false), (.slice none 0 0), (.slice none 0 0)])) (by kernel_rfl) rfl ?_
  rintro g_o2 w_o2 hg_o2 hn_o2 hs_o2
  have hz_o2 := hs_o2.size
  have hP := hP.below hs_o2
  have hD := hD.below hs_o2
  have hLG := hLG.below hs_o2
  replace hs_o2 := Below.kp (p := p) hs_o2
  have hb := hb.trans (Kp.kq hs_o2 (by assumption))
  have hB_o2 := hn_o2
  have hl_o2 := hB_o2.lt
  refine Wl.storeS (by kernel_rfl) rfl rfl hB_o2 rfl rfl ?_
  rintro w_s0 hn_s0 hg_s0
  have hz_s0 := hg_s0.size
  have hb := kq_blk hb hg_s0 (by left; omega)
  have hP := hP.over hg_s0 (by omega)
  have hD := Ldr.over hD hg_s0 (by omega)
  have hLG := LbG.over hLG hg_s0 (by omega)
  have hB_o2 := hn_s0
  refine Wl.nil <| Wq.next hK_1 <| Wc.seq fun _ hK_6 => Wc.region <| Wl.mv rfl rfl <| Wl.call txt19LdL rfl rfl (word_r p (wdRest s) (wdE s e) _ hP (by omega)) rfl ?_
  rintro _ w_k1 ⟨⟨rfl, hP⟩, hs_k1⟩
  have hz_k1 := hs_k1.size
  have hD := Ldr.kp hD hs_k1
  have hLG := LbG.kp hLG hs_k1
  have hB_o2 := Blk.kp hB_o2 hs_k1 (by omega)
  have hb := hb.trans (Kp.kq hs_k1 (by assumption))
  refine Wl.sg rfl rfl <| Wl.nil <| Wq.next hK_6 <| Wc.seq fun _ hK_10 => Wc.region <| Wl.sg rfl rfl <| Wl.sg rfl rfl <| Wl.nil <| Wq.next hK_10 <| Wc.seq fun _ hK_13 => Wc.seq fun _ hK_14 => Wc.region <| Wl.mv rfl rfl <| Wl.mv rfl rfl <| Wl.y (y_nilCheck rfl) rfl <| Wl.y (y_fieldAddr (fa56_0LdL _) rfl) rfl <| Wl.l (l_load one9LdL rfl (by exact hP.at (j := 0) rfl)) rfl <| Wl.y (y_adds rfl rfl (by rw [h1len]; omega)) rfl <| Wl.call txt35LdL rfl rfl (CutPrefix_r (wdRest (wdRest s) ++ [32]) [45, 62, 32] _) rfl ?_
  rintro _ w_ ⟨rfl, hw_⟩
  have hw_ := hw_.symm; subst hw_
  refine Wl.mv rfl rfl <| Wl.y (y_extract rfl rfl) rfl <| Wl.y (y_extract rfl rfl) rfl <| Wl.y (y_nilCheck rfl) rfl <| Wl.y (y_fieldAddr (fa56_0LdL _) rfl) rfl <| Wl.storeB one9LdL rfl rfl rfl hP (by simp) ?_
  rintro w_s1 hn_s1 hg_s1
  have hz_s1 := hg_s1.size
  have hb := kq_blk hb hg_s1 (by right; assumption)
  have hD := Ldr.over hD hg_s1 (by omega)
  have hLG := LbG.over hLG hg_s1 (by omega)
  have hB_o2 := hB_o2.over hg_s1 (by omega)
  have hP := hn_s1
  refine Wl.sg rfl rfl <| Wl.nil <| Wq.next hK_14 <| Wc.seq fun _ hK_28 => Wc.region <| Wl.mv rfl rfl <| Wl.y (y_not rfl) rfl <| Wl.nil <| Wq.next hK_28 <| Wc.meet (X := Bool) (fun fl => [(0, .pointer (some ⟨x, 0, none⟩)), (1, .pointer (some ⟨p, 0, none⟩)), (4, .pointer (some ⟨g_o2, 0, none⟩)), (5, str (wd (wdRest s))), (6, .bool (arrA s).2.1), (7, .bool fl)]) (fun fl wr => ((arrA s).2.1 || fl) = (arrA s).2.2 ∧ Kq (SN p x m2 V2) w wr ∧ Blk wr p 56 [str (arrA s).1, .int .i64 (wdE (wdRest s) (wdE s e))] ∧ Blk wr g_o2 46 [str (wd s), .int .i64 0, .int .i64 0, .bool false, .slice none 0 0, .slice none 0 0] ∧ Ldr C L wr x m1 m2 V1 V2 g ∧ LbG p wr) (fun _ hM_31 => ?_) ?_
  ·
   refine Wc.cond rfl (fun c0_32 => ?_) (fun c0_32 => ?_)
   ·
    have c0_32_ := c0_32
    simp only [DZ] at c0_32
    have har : arrA s = _ := arrS_f (by simpa using c0_32)
    refine Wc.region <| Wl.mv rfl rfl <| Wl.mv rfl rfl <| Wl.y (y_nilCheck rfl) rfl <| Wl.y (y_fieldAddr (fa56_0LdL _) rfl) rfl <| Wl.l (l_load one9LdL rfl (by exact hP.at (j := 0) rfl)) rfl <| Wl.call txt35LdL rfl rfl (CutPrefix_r (Lib.trimPrefix (wdRest (wdRest s) ++ [32]) [45, 62, 32]) [45, 45, 32] _) rfl ?_
    rintro _ w_ ⟨rfl, hw_⟩
    have hw_ := hw_.symm; subst hw_
    refine Wl.mv rfl rfl <| Wl.y (y_extract rfl rfl) rfl <| Wl.y (y_extract rfl rfl) rfl <| Wl.y (y_nilCheck rfl) rfl <| Wl.y (y_fieldAddr (fa56_0LdL _) rfl) rfl <| Wl.storeB one9LdL rfl rfl rfl hP (by simp) ?_
    rintro w_s2 hn_s2 hg_s2
    have hz_s2 := hg_s2.size
    have hb := kq_blk hb hg_s2 (by right; assumption)
    have hD := Ldr.over hD hg_s2 (by omega)
    have hLG := LbG.over hLG hg_s2 (by omega)
    have hB_o2 := hB_o2.over hg_s2 (by omega)
    have hP := hn_s2
    refine Wl.sg rfl rfl <| Wl.nil <| Wq.meet hM_31 ((arrA s).2.2 && !(arrA s).2.1) (by repeat first | exact Sub.nil | refine Sub.cons' rfl (by first | rfl | exact bool_eq (by rw [har]; simp_all)) ?_) ?_
    exact ⟨by rw [har]; simp, hb, by rw [har]; exact hP, hB_o2, hD, hLG⟩
   have c0_32_ := c0_32
   simp only [DZ] at c0_32
   have har : arrA s = _ := arrS_t (by simpa using c0_32)
   refine Wc.skip <| Wq.meet hM_31 ((arrA s).2.2 && !(arrA s).2.1) (by repeat first | exact Sub.nil | refine Sub.cons' rfl (by first | rfl | exact bool_eq (by rw [har]; simp_all)) ?_) ?_
   exact ⟨by rw [har]; simp, hb, by rw [har]; exact hP, hB_o2, hD, hLG⟩
  rintro fl wr hI_45
  replace hI_45 : ((arrA s).2.1 || fl) = (arrA s).2.2 ∧ Kq (SN p x m2 V2) w wr ∧ Blk wr p 56 [str (arrA s).1, .int .i64 (wdE (wdRest s) (wdE s e))] ∧ Blk wr g_o2 46 [str (wd s), .int .i64 0, .int .i64 0, .bool false, .slice none 0 0, .slice none 0 0] ∧ Ldr C L wr x m1 m2 V1 V2 g ∧ LbG p wr := hI_45
  obtain ⟨hfl, hb, hP, hB_o2, hD, hLG⟩ := hI_45
  show Wq _ _ _ _ [(0, .pointer (some ⟨x, 0, none⟩)), (1, .pointer (some ⟨p, 0, none⟩)), (4, .pointer (some ⟨g_o2, 0, none⟩)), (5, str (wd (wdRest s))), (6, .bool (arrA s).2.1), (7, .bool fl)] _
  have hzhb_c0 := hb.size
  have hlhP_c0 := hP.lt
  have hlhB_o2_c0 := hB_o2.lt
  refine Wq.next hK_13 <| Wc.seq fun _ hK_46 => Wc.seq fun _ hK_47 => Wc.meet (X := Bool) (fun q => [(0, .pointer (some ⟨x, 0, none⟩)), (1, .pointer (some ⟨p, 0, none⟩)), (4, .pointer (some ⟨g_o2, 0, none⟩)), (5, str (wd (wdRest s))), (6, .bool (arrA s).2.1), (44, .bool q)]) (fun q wn => q = !(arrA s).2.2 ∧ Kq (SN p x m2 V2) w wn ∧ Blk wn p 56 [str (arrA s).1, .int .i64 (wdE (wdRest s) (wdE s e))] ∧ Blk wn g_o2 46 [str (wd s), .int .i64 0, .int .i64 0, .bool false, .slice none 0 0, .slice none 0 0] ∧ Ldr C L wn x m1 m2 V1 V2 g ∧ LbG p wn) (fun _ hM_48 => ?_) ?_
  ·
   refine Wc.region <| Wl.mv rfl rfl <| Wl.y (y_not rfl) rfl <| Wl.mv rfl rfl <| Wl.guardT rfl rfl rfl (fun g_52 => ?_) (fun g_52 => ?_)
   ·
    have g_52_ := g_52
    simp only [DZ] at g_52
    refine Wl.mv rfl rfl <| Wl.on' rfl rfl g_52_ <| Wl.y (y_not rfl) rfl <| Wl.y (y_pickT rfl g_52_ rfl) rfl <| Wl.nil <| Wq.meet hM_48 (!(arrA s).2.2) (by repeat first | exact Sub.nil | refine Sub.cons' rfl (by first | rfl | exact bool_eq (by rw [← hfl]; simp_all)) ?_) ?_
    exact ⟨rfl, hb, hP, hB_o2, hD, hLG⟩
   have g_52_ := g_52
   simp only [DZ] at g_52
   refine Wl.off' rfl rfl g_52_ rfl rfl <| Wl.y (y_pickF rfl g_52_ rfl) rfl <| Wl.nil <| Wq.meet hM_48 (!(arrA s).2.2) (by repeat first | exact Sub.nil | refine Sub.cons' rfl (by first | rfl | exact bool_eq (by rw [← hfl]; simp_all)) ?_) ?_
   exact ⟨rfl, hb, hP, hB_o2, hD, hLG⟩
  rintro q wn hI_57
  replace hI_57 : q = !(arrA s).2.2 ∧ Kq (SN p x m2 V2) w wn ∧ Blk wn p 56 [str (arrA s).1, .int .i64 (wdE (wdRest s) (wdE s e))] ∧ Blk wn g_o2 46 [str (wd s), .int .i64 0, .int .i64 0, .bool false, .slice none 0 0, .slice none 0 0] ∧ Ldr C L wn x m1 m2 V1 V2 g ∧ LbG p wn := hI_57
  obtain ⟨hq, hb, hP, hB_o2, hD, hLG⟩ := hI_57
  show Wq _ _ _ _ [(0, .pointer (some ⟨x, 0, none⟩)), (1, .pointer (some ⟨p, 0, none⟩)), (4, .pointer (some ⟨g_o2, 0, none⟩)), (5, str (wd (wdRest s))), (6, .bool (arrA s).2.1), (44, .bool q)] _
  have hzhb_g6 := hb.size
  have hlhP_g6 := hP.lt
  have hlhB_o2_g6 := hB_o2.lt
  refine Wq.next hK_47 <| Wc.meet (X := Unit) (fun u_ => [(0, .pointer (some ⟨x, 0, none⟩)), (1, .pointer (some ⟨p, 0, none⟩)), (4, .pointer (some ⟨g_o2, 0, none⟩)), (5, str (wd (wdRest s))), (6, .bool (arrA s).2.1)]) (fun u_ wo => Kq (SN p x m2 V2) w wo ∧ Blk wo p 56 [str (arrA s).1, .int .i64 (if (arrA s).2.2 = true then wdE (wdRest s) (wdE s e) else badE (wdE (wdRest s) (wdE s e)) 2)] ∧ Blk wo g_o2 46 [str (wd s), .int .i64 0, .int .i64 0, .bool false, .slice none 0 0, .slice none 0 0] ∧ Ldr C L wo x m1 m2 V1 V2 g ∧ LbG p wo) (fun _ hM_58 => ?_) ?_
  ·
   refine Wc.cond rfl (fun c1_59 => ?_) (fun c1_59 => ?_)
   ·
    have c1_59_ := c1_59
    refine Wc.region <| Wl.mv rfl rfl <| Wl.call txt36LdL rfl rfl (bad_r p (arrA s).1 (wdE (wdRest s) (wdE s e)) 2 _ hP) rfl ?_
    rintro _ w_k4 ⟨⟨rfl, hP⟩, hs_k4⟩
    have hz_k4 := hs_k4.size
    have hB_o2 := Blk.kp hB_o2 hs_k4 (by omega)
    have hD := Ldr.kp hD hs_k4
    have hLG := LbG.kp hLG hs_k4
    have hb := hb.trans (Kp.kq hs_k4 (by assumption))
    refine Wl.nil <| Wq.meet hM_58 (()) (by repeat first | exact Sub.nil | refine Sub.cons' rfl (by first | rfl | exact int_eq (by omega) | exact int_eq (by simp) | (simp; done)) ?_) ?_
    exact ⟨hb, by first | (rw [if_pos (by simpa [hq] using c1_59)]; exact hP) | (rw [if_neg (by simpa [hq] using c1_59)]; exact hP), hB_o2, hD, hLG⟩
   have c1_59_ := c1_59
   refine Wc.skip <| Wq.meet hM_58 (()) (by repeat first | exact Sub.nil | refine Sub.cons' rfl (by first | rfl | exact int_eq (by omega) | exact int_eq (by simp) | (simp; done)) ?_) ?_
   exact ⟨hb, by first | (rw [if_pos (by simpa [hq] using c1_59)]; exact hP) | (rw [if_neg (by simpa [hq] using c1_59)]; exact hP), hB_o2, hD, hLG⟩
  rintro u_ wo hI_62
  replace hI_62 : Kq (SN p x m2 V2) w wo ∧ Blk wo p 56 [str (arrA s).1, .int .i64 (if (arrA s).2.2 = true then wdE (wdRest s) (wdE s e) else badE (wdE (wdRest s) (wdE s e)) 2)] ∧ Blk wo g_o2 46 [str (wd s), .int .i64 0, .int .i64 0, .bool false, .slice none 0 0, .slice none 0 0] ∧ Ldr C L wo x m1 m2 V1 V2 g ∧ LbG p wo := hI_62
  obtain ⟨hb, hP, hB_o2, hD, hLG⟩ := hI_62
  show Wq _ _ _ _ [(0, .pointer (some ⟨x, 0, none⟩)), (1, .pointer (some ⟨p, 0, none⟩)), (4, .pointer (some ⟨g_o2, 0, none⟩)), (5, str (wd (wdRest s))), (6, .bool (arrA s).2.1)] _
  have hzhb_c1 := hb.size
  have hlhP_c1 := hP.lt
  have hlhB_o2_c1 := hB_o2.lt
  refine Wq.next hK_46 <| Wc.seq fun _ hK_63 => Wc.region <| Wl.mv rfl rfl <| Wl.call txt18LdL rfl rfl (blanks_r p (arrA s).1 _ _ hP) rfl ?_
  rintro _ w_k5 ⟨⟨rfl, hP⟩, hs_k5⟩
  have hz_k5 := hs_k5.size
  have hB_o2 := Blk.kp hB_o2 hs_k5 (by omega)
  have hD := Ldr.kp hD hs_k5
  have hLG := LbG.kp hLG hs_k5
  have hb := hb.trans (Kp.kq hs_k5 (by assumption))
  refine Wl.nil <| Wq.next hK_63 <| Wc.seq fun _ hK_66 => Wc.region <| Wl.mv rfl rfl <| Wl.mv rfl rfl <| Wl.y (y_nilCheck rfl) rfl <| Wl.y (y_fieldAddr (fa56_0LdL _) rfl) rfl <| Wl.l (l_load one9LdL rfl (by exact hP.at (j := 0) rfl)) rfl <| Wl.call txt37LdL rfl rfl (TrimRight1_r (blanksV (arrA s).1) (by have h1 := blanksV_le (arrA s).1; have h2 := arrS_len (wdRest (wdRest s) ++ [32]); rw [List.length_append] at h2; have h3 : (arrA s).1.length ≤ _ := h2; omega) _) rfl ?_
  rintro _ w_ ⟨rfl, hw_⟩
  have hw_ := hw_.symm; subst hw_
  refine Wl.y (y_nilCheck rfl) rfl <| Wl.y (y_fieldAddr (fa56_0LdL _) rfl) rfl <| Wl.storeB one9LdL rfl rfl rfl hP (by simp) ?_
  rintro w_s3 hn_s3 hg_s3
  have hz_s3 := hg_s3.size
  have hb := kq_blk hb hg_s3 (by right; assumption)
  have hB_o2 := hB_o2.over hg_s3 (by omega)
  have hD := Ldr.over hD hg_s3 (by omega)
  have hLG := LbG.over hLG hg_s3 (by omega)
  have hP := hn_s3
  refine Wl.nil <| Wq.next hK_66 <| Wc.seq fun _ hK_75 => Wc.region <| Wl.mv rfl rfl <| Wl.call txt19LdL rfl rfl (word_r p (toS s) _ _ hP (by omega)) rfl ?_
  rintro _ w_k7 ⟨⟨rfl, hP⟩, hs_k7⟩
  have hz_k7 := hs_k7.size
  have hB_o2 := Blk.kp hB_o2 hs_k7 (by omega)
  have hD := Ldr.kp hD hs_k7
  have hLG := LbG.kp hLG hs_k7
  have hb := hb.trans (Kp.kq hs_k7 (by assumption))
  refine Wl.sg rfl rfl <| Wl.nil <| Wq.next hK_75 <| Wc.seq fun _ hK_79 => Wc.region <| Wl.mv rfl rfl <| Wl.mv rfl rfl <| Wl.mv rfl rfl <| Wl.mv rfl rfl <| Wl.call txt38LdL rfl rfl (find_x p x m1 (wdRest (toS s)) (headE s e) (nnames g) (wd (wdRest s)) _ _ hP hD.hx rfl hD.h1) rfl ?_
  rintro _ w_k8 ⟨⟨rfl, hP⟩, hs_k8⟩
  have hz_k8 := hs_k8.size
  have hB_o2 := Blk.kp hB_o2 hs_k8 (by omega)
  have hD := Ldr.kp hD hs_k8
  have hLG := LbG.kp hLG hs_k8
  have hb := hb.trans (Kp.kq hs_k8 (by assumption))
  refine Wl.mv rfl rfl <| Wl.mv rfl rfl <| Wl.mv rfl rfl <| Wl.call txt38LdL rfl rfl (find_x p x m1 (wdRest (toS s)) (scopeE (idx (wd (wdRest s)) (nnames g)) (headE s e)) (nnames g) (wd (toS s)) _ _ hP hD.hx rfl hD.h1) rfl ?_
  rintro _ w_k9 ⟨⟨rfl, hP⟩, hs_k9⟩
  have hz_k9 := hs_k9.size
  have hB_o2 := Blk.kp hB_o2 hs_k9 (by omega)
  have hD := Ldr.kp hD hs_k9
  have hLG := LbG.kp hLG hs_k9
  have hb := hb.trans (Kp.kq hs_k9 (by assumption))
  refine Wl.y (y_fieldAddr (fa46_3LdL _) rfl) rfl <| Wl.storeB one4LdL rfl rfl rfl hB_o2 (by simp) ?_
  rintro w_s4 hn_s4 hg_s4
  have hz_s4 := hg_s4.size
  have hb := kq_blk hb hg_s4 (by left; omega)
  have hP := hP.over hg_s4 (by omega)
  have hD := Ldr.over hD hg_s4 (by omega)
  have hLG := LbG.over hLG hg_s4 (by omega)
  have hB_o2 := hn_s4
  refine Wl.y (y_fieldAddr (fa46_1LdL _) rfl) rfl <| Wl.storeB one3LdL rfl rfl rfl hB_o2 (by simp) ?_
  rintro w_s5 hn_s5 hg_s5
  have hz_s5 := hg_s5.size
  have hb := kq_blk hb hg_s5 (by left; omega)
  have hP := hP.over hg_s5 (by omega)
  have hD := Ldr.over hD hg_s5 (by omega)
  have hLG := LbG.over hLG hg_s5 (by omega)
  have hB_o2 := hn_s5
  refine Wl.y (y_fieldAddr (fa46_2LdL _) rfl) rfl <| Wl.storeB one3LdL rfl rfl rfl hB_o2 (by simp) ?_
  rintro w_s6 hn_s6 hg_s6
  have hz_s6 := hg_s6.size
  have hb := kq_blk hb hg_s6 (by left; omega)
  have hP := hP.over hg_s6 (by omega)
  have hD := Ldr.over hD hg_s6 (by omega)
  have hLG := LbG.over hLG hg_s6 (by omega)
  have hB_o2 := hn_s6
  refine Wl.nil <| Wq.next hK_79 <| Wc.seq fun _ hK_92 => Wc.region <| Wl.mv rfl rfl <| Wl.call txt32LdL rfl rfl (labels_r p (wdRest (toS s)) e6 _ (by rw [he6]; exact hP) (by omega)) rfl ?_
  rintro Vl w_k10 ⟨⟨hOl, hP⟩, hs_k10⟩
  have hz_k10 := hs_k10.size
  have hB_o2 := Blk.kp hB_o2 hs_k10 (by omega)
  have hD := Ldr.kp hD hs_k10
  have hLG := LbG.kp hLG hs_k10
  have hb := hb.trans (Kp.kq hs_k10 (by assumption))
  refine Wl.mv rfl rfl ?_
  obtain ⟨Al, cl, hVl, hcl, _⟩ := own_form hOl
  subst hVl
  rw [← hLo] at *
  refine Wl.call txt33LdL rfl rfl (props_r p Lo.2.1 Lo.2.2 _ hP (by omega) hLG.lb hG) rfl ?_
  rintro Vp w_k11 ⟨⟨hOp, hP, hok⟩, hs_k11⟩
  have hz_k11 := hs_k11.size
  have hB_o2 := Blk.kp hB_o2 hs_k11 (by omega)
  have hD := Ldr.kp hD hs_k11
  have hOl := own_kp hOl hs_k11 (by omega)
  have hb := hb.trans (Kp.kq hs_k11 (by assumption))
  refine Wl.y (y_fieldAddr (fa46_4LdL _) rfl) rfl ?_
  obtain ⟨Ap, cp, hVp, hcp, _⟩ := own_form hOp
  subst hVp
  have hapl_ := own_below_p (p := g_o2) hOl (by omega)
  have happ_ := own_below_p (p := g_o2) hOp (by omega)
  refine Wl.storeB one40LdL rfl rfl rfl hB_o2 (by simp) ?_
  rintro w_s7 hn_s7 hg_s7
  have hz_s7 := hg_s7.size
  have hb := kq_blk hb hg_s7 (by left; omega)
  have hP := hP.over hg_s7 (by omega)
  have hD := Ldr.over hD hg_s7 (by omega)
  have hOl := World.ownsRow.kept hOl hg_s7 (by assumption)
  have hOp := World.ownsRow.kept hOp hg_s7 (by assumption)
  have hB_o2 := hn_s7
  refine Wl.y (y_fieldAddr (fa46_5LdL _) rfl) rfl <| Wl.storeB one41LdL rfl rfl rfl hB_o2 (by simp) ?_
  rintro w_s8 hn_s8 hg_s8
  have hz_s8 := hg_s8.size
  have hb := kq_blk hb hg_s8 (by left; omega)
  have hP := hP.over hg_s8 (by omega)
  have hD := Ldr.over hD hg_s8 (by omega)
  have hOl := World.ownsRow.kept hOl hg_s8 (by assumption)
  have hOp := World.ownsRow.kept hOp hg_s8 (by assumption)
  have hB_o2 := hn_s8
  refine Wl.nil <| Wq.next hK_92 <| Wc.seq fun _ hK_99 => ?_
  rw [← hPo] at *
  obtain ⟨css, hcs⟩ := hD.r2
  have hD2 := hD
  have hO := hcs.2.2.1
  have hX := hD.hx
  have hM := hD.h2
  have hL2 := hD.Lw
  have hv1 := hD.v2
  obtain ⟨fi, hfi⟩ : ∃ fi, fi = (((idx (wd (wdRest s)) (nnames g)).getD 0 : Nat) : Int) := ⟨_, rfl⟩
  obtain ⟨ti, hti⟩ : ∃ ti, ti = (((idx (wd (toS s)) (nnames g)).getD 0 : Nat) : Int) := ⟨_, rfl⟩
  have hB_o2 : Blk w_s8 g_o2 46 [str (wd s), .int .i64 fi, .int .i64 ti, .bool (arrA s).2.1, .slice Al Lo.1.length cl, .slice Ap Pr_.1.length cp] := by rw [hfi, hti]; exact hB_o2
  have hb2 := Kq.refl (SN p x m2 V2) w_s8
  refine Wc.any (n := 8) (fun w' => Kq (SN p x m2 V2) w_s8 w' ∧ Blk w' x 50 [V1, V2, .map (some m1), .map (some m2)] ∧ Blk w' g_o2 46 [str (wd s), .int .i64 fi, .int .i64 ti, .bool (arrA s).2.1, .slice Al Lo.1.length cl, .slice Ap Pr_.1.length cp]) #[false, false, false, false, false, false, false, false] (by kernel_rfl) rfl (by kernel_rfl) <| Wa.drew ?_
  rintro w_g13 hs_g13
  have hz_g13 := hs_g13.size
  have hP := hP.below hs_g13
  have hB_o2 := hB_o2.below hs_g13
  have hOl := own_below hOl hs_g13
  have hOp := own_below hOp hs_g13
  have hX := hX.below hs_g13
  have hO := own_below hO hs_g13
  have hM := hM.below hs_g13
  replace hs_g13 := Below.kp (p := p) hs_g13
  have hb := hb.trans (Kp.kq hs_g13 (by assumption))
  have hb2 := hb2.trans (Kp.kq hs_g13 (by assumption))
  refine Wa.take (i := 0) #[true, false, false, false, false, false, false, false] rfl (by kernel_rfl) (fun _ _ _ h => h) rfl (fun wq hq => Yl.ld (y_move rfl)) ⟨hb2, hX, hB_o2⟩ <| Wa.take (i := 1) #[true, true, false, false, false, false, false, false] rfl (by kernel_rfl) (fun _ _ _ h => h) rfl (fun wq hq => Yl.ld (y_move rfl)) ⟨hb2, hX, hB_o2⟩ <| Wa.take (i := 2) #[true, true, true, false, false, false, false, false] rfl (by kernel_rfl) (fun _ _ _ h => h) rfl (fun wq hq => Yl.ld (y_nilCheck rfl)) ⟨hb2, hX, hB_o2⟩ <| Wa.take (i := 3) #[true, true, true, true, false, false, false, false] rfl (by kernel_rfl) (fun _ _ _ h => h) rfl (fun wq hq => Yl.ld (y_fieldAddr (fa50_2LdL _) rfl)) ⟨hb2, hX, hB_o2⟩ <| Wa.take (i := 4) #[true, true, true, true, true, false, false, false] rfl (by kernel_rfl) (fun _ _ _ h => h) rfl (fun wq hq => l_load one48LdL rfl (by obtain ⟨hq, hX, hB_o2⟩ := hq; exact hX.at (j := 3) rfl)) ⟨hb2, hX, hB_o2⟩ <| Wa.take (i := 5) #[true, true, true, true, true, true, false, false] rfl (by kernel_rfl) (fun _ _ _ h => h) rfl (fun wq hq => Yl.ld (y_fieldAddr (fa46_0LdL _) rfl)) ⟨hb2, hX, hB_o2⟩ <| Wa.take (i := 6) #[true, true, true, true, true, true, true, false] rfl (by kernel_rfl) (fun _ _ _ h => h) rfl (fun wq hq => l_load one9LdL rfl (by obtain ⟨hq, hX, hB_o2⟩ := hq; exact hB_o2.at (j := 0) rfl)) ⟨hb2, hX, hB_o2⟩ <| Wa.some (rs := [7]) (by kernel_rfl) rfl <| Ws.cons #[true, true, true, true, true, true, true, true] rfl rfl (fun _ hK_107 => ?_) ?_
  ·
   refine Wl.call txtNamed rfl rfl (named_r p m2 [] Pr_.2 (nmap (enames g)) (wd s) 1000 _ hP hM (by omega)) rfl ?_
   rintro _ w_k12 ⟨⟨rfl, hP, hM⟩, w1_, hk1_, hk2_⟩
   have hz1_ := hk1_.size
   have hz2_ := hk2_.size
   have hX := (hX.kp hk1_ (by omega)).over hk2_ hx2
   have hB_o2 := (hB_o2.kp hk1_ (by omega)).over hk2_ (by omega)
   have hO := own_same hO (fun k hk hkl => (hk2_.block k (by omega) (fun h => by have := (hv1 k hk).1; cases h; omega)).trans (hk1_.block k hkl (fun h => by have := (hv1 k hk).2; cases h; omega)))
   have hOl := World.ownsRow.kept (own_kp hOl hk1_ (by omega)) hk2_ (own_below_p hOl (by omega))
   have hOp := World.ownsRow.kept (own_kp hOp hk1_ (by omega)) hk2_ (own_below_p hOp (by omega))
   have hb := kq_blk (hb.trans (Kp.kq hk1_ hSp)) hk2_ (.inr hSm)
   have hb2 := kq_blk (hb2.trans (Kp.kq hk1_ hSp)) hk2_ (.inr hSm)
   refine Wl.nil <| Wq.back hK_107 ⟨hb2, hX, hB_o2⟩ <| Wa.done (by kernel_rfl) <| Wq.next hK_99 <| Wc.any (n := 13) (fun w' => Kq (SN p x m2 V2) w_s8 w' ∧ Blk w' g_o2 46 [str (wd s), .int .i64 fi, .int .i64 ti, .bool (arrA s).2.1, .slice Al Lo.1.length cl, .slice Ap Pr_.1.length cp]) #[false, false, false, false, false, false, false, false, false, false, false, false, false] (by kernel_rfl) rfl (by kernel_rfl) <| Wa.drew ?_
   rintro w_g14 hs_g14
   have hz_g14 := hs_g14.size
   have hP := hP.below hs_g14
   have hB_o2 := hB_o2.below hs_g14
   have hOl := own_below hOl hs_g14
   have hOp := own_below hOp hs_g14
   have hX := hX.below hs_g14
   have hO := own_below hO hs_g14
   have hM := hM.below hs_g14
   replace hs_g14 := Below.kp (p := p) hs_g14
   have hb := hb.trans (Kp.kq hs_g14 (by assumption))
   have hb2 := hb2.trans (Kp.kq hs_g14 (by assumption))
   refine Wa.take (i := 0) #[true, false, false, false, false, false, false, false, false, false, false, false, false] rfl (by kernel_rfl) (fun _ _ _ h => h) rfl (fun wq hq => Yl.ld (y_move rfl)) ⟨hb2, hB_o2⟩ <| Wa.take (i := 1) #[true, true, false, false, false, false, false, false, false, false, false, false, false] rfl (by kernel_rfl) (fun _ _ _ h => h) rfl (fun wq hq => Yl.ld (y_move rfl)) ⟨hb2, hB_o2⟩ <| Wa.take (i := 2) #[true, true, true, false, false, false, false, false, false, false, false, false, false] rfl (by kernel_rfl) (fun _ _ _ h => h) rfl (fun wq hq => Yl.ld (y_nilCheck rfl)) ⟨hb2, hB_o2⟩ <| Wa.take (i := 3) #[true, true, true, true, false, false, false, false, false, false, false, false, false] rfl (by kernel_rfl) (fun _ _ _ h => h) rfl (fun wq hq => Yl.ld (y_fieldAddr (fa50_0LdL _) rfl)) ⟨hb2, hB_o2⟩ <| Wa.take (i := 4) #[true, true, true, true, true, false, false, false, false, false, false, false, false] rfl (by kernel_rfl) (fun _ _ _ h => h) rfl (fun wq hq => Yl.ld (y_fieldAddr (fa27_1LdL _) rfl)) ⟨hb2, hB_o2⟩ <| Wa.take (i := 6) #[true, true, true, true, true, false, true, false, false, false, false, false, false] rfl (by kernel_rfl) (fun _ _ _ h => h) rfl (fun wq hq => l_loadS Tryz.underlying46 (by kernel_rfl) rfl (by obtain ⟨hq, hB_o2⟩ := hq; exact fun j u hu => hB_o2.at hu)) ⟨hb2, hB_o2⟩ <| Wa.some (rs := [5, 7]) (by kernel_rfl) rfl <| Ws.cons #[true, true, true, true, true, true, true, false, false, false, false, false, false] rfl rfl (fun _ hK_115 => ?_) ?_
   ·
    refine Wl.l (l_load one25LdL rfl (by exact hX.at (j := 1) rfl)) rfl <| Wl.nil <| Wq.back hK_115 ⟨hb2, hB_o2⟩ <| Wa.some (rs := [7]) (by kernel_rfl) rfl <| Ws.cons #[true, true, true, true, true, true, true, true, false, false, false, false, false] rfl rfl (fun _ hK_117 => ?_) ?_
    ·
     refine Wl.litN (sz := 6) (vs := [_]) Tryz.underlying25 (by kernel_rfl) rfl rfl rfl rfl rfl rfl ?_
     rintro g_b0 w_b0 hg_b0 hn_b0 hs_b0
     have hz_b0 := hs_b0.size
     have hP := hP.below hs_b0
     have hB_o2 := hB_o2.below hs_b0
     have hOl := own_below hOl hs_b0
     have hOp := own_below hOp hs_b0
     have hX := hX.below hs_b0
     have hO := own_below hO hs_b0
     have hM := hM.below hs_b0
     replace hs_b0 := Below.kp (p := p) hs_b0
     have hb := hb.trans (Kp.kq hs_b0 (by assumption))
     have hb2 := hb2.trans (Kp.kq hs_b0 (by assumption))
     have hB_b0 := hn_b0
     have hl_b0 := hB_b0.lt
     refine Wl.nil <| Wq.back hK_117 ⟨hb2, hB_o2⟩ <| Wa.some (rs := [8]) (by kernel_rfl) rfl <| Ws.cons #[true, true, true, true, true, true, true, true, true, false, false, false, false] rfl rfl (fun _ hK_119 => ?_) ?_
     ·
      have hB3 : Blk _ g_b0 46 [str (wd s), .int .i64 fi, .int .i64 ti, .bool (arrA s).2.1, .slice Al Lo.1.length cl, .slice Ap Pr_.1.length cp] := hB_b0
      have hgl := own_ge hOl
      have hgp := own_ge hOp
      refine Wl.append (z := .agg #[str [], .int .i64 0, .int .i64 0, .bool false, .slice none 0 0, .slice none 0 0]) (sz := 6) (bytes := 88) Tryz.underlying25 (by kernel_rfl) rfl (by decide) C rfl hO rfl (hB3.rd 1 6 rfl) (six_one rfl rfl rfl rfl rfl rfl) (by simp only [maxLen]; omega) (by omega) (by omega) rfl ?_
      rintro V2' w_b1 hO2 hg_b1 ha_b1
      have hz_b1 := hg_b1.size
      have hP := hP.grown hg_b1 (fun h => by have := (hv1 _ h.symm).2; omega)
      have hX := hX.grown hg_b1 (fun h => by have := (hv1 _ h.symm).1; omega)
      have hM := hM.grown hg_b1 (fun h => by have := (hv1 _ h.symm).1; omega)
      have hB_o2 := hB_o2.grown hg_b1 (fun h => by have := (hv1 _ h.symm).2; omega)
      have hOl := own_same hOl (fun k hk hkl => hg_b1.block k hkl (fun h => by have h1 := (hgl k hk).1; have := (hv1 _ h.symm).2; omega))
      have hOp := own_same hOp (fun k hk hkl => hg_b1.block k hkl (fun h => by have h1 := (hgp k hk).1; have := (hv1 _ h.symm).2; omega))
      have hb := kq_row hb hg_b1 (fun k hk => .inr (hSv k hk))
      have hb2 := kq_row hb2 hg_b1 (fun k hk => .inr (hSv k hk))
      obtain ⟨A1, c1, hV1e, hc1, _⟩ := own_form hO2
      have hv1n : ∀ k, V2'.ownBlock = some k → k ≠ x := fun k hk h => by rcases ha_b1 with h2 | h2; (· rw [h2] at hk; have := (hv1 k hk).1; omega); (· rw [h2] at hk; cases hk; omega)
      subst hV1e
      refine Wl.nil <| Wq.back hK_119 ⟨hb2, hB_o2⟩ <| Wa.take (i := 9) #[true, true, true, true, true, true, true, true, true, true, false, false, false] rfl (by kernel_rfl) (fun _ _ _ h => h) rfl (fun wq hq => Yl.ld (y_nilCheck rfl)) ⟨hb2, hB_o2⟩ <| Wa.take (i := 10) #[true, true, true, true, true, true, true, true, true, true, true, false, false] rfl (by kernel_rfl) (fun _ _ _ h => h) rfl (fun wq hq => Yl.ld (y_fieldAddr (fa50_0LdL _) rfl)) ⟨hb2, hB_o2⟩ <| Wa.take (i := 11) #[true, true, true, true, true, true, true, true, true, true, true, true, false] rfl (by kernel_rfl) (fun _ _ _ h => h) rfl (fun wq hq => Yl.ld (y_fieldAddr (fa27_1LdL _) rfl)) ⟨hb2, hB_o2⟩ <| Wa.some (rs := [12]) (by kernel_rfl) rfl <| Ws.cons #[true, true, true, true, true, true, true, true, true, true, true, true, true] rfl rfl (fun _ hK_124 => ?_) ?_
      ·
       refine Wl.storeB (one25LdL) rfl rfl rfl hX (by simp) ?_
       rintro w_s9 hX hg_s9
       have hz_s9 := hg_s9.size
       have hP := hP.over hg_s9 (by omega)
       have hM := hM.over hg_s9 (fun h => hx2 h.symm)
       have hB_o2 := hB_o2.over hg_s9 (by omega)
       have hO2 := own_same hO2 (fun k hk hkl => hg_s9.block k hkl (fun h => hv1n k hk (Option.some.inj h)))
       have hOl := own_same hOl (fun k hk hkl => hg_s9.block k hkl (fun h => by have h1 := (hgl k hk).1; cases h; omega))
       have hOp := own_same hOp (fun k hk hkl => hg_s9.block k hkl (fun h => by have h1 := (hgp k hk).1; cases h; omega))
       have hb := kq_blk hb hg_s9 (.inr hSx)
       have hb2 := kq_blk hb2 hg_s9 (.inr hSx)
       refine Wl.nil <| Wq.back hK_124 ⟨hb2, hB_o2⟩ <| Wa.done (by kernel_rfl) <| end0 rfl ?_
       exact ⟨_, rfl, ⟨rfl, ⟨[], by rw [hstep]; exact hP⟩, fun h0 => by
  rw [hstep] at h0 ⊢
  obtain ⟨_, hml, hlt⟩ := nameE_zero h0
  rw [nmap_len] at hlt
  have hlt2 : g.es.length < 1000 := by have e0 : (enames g).length = g.es.length := (by unfold enames; rw [List.length_map]); omega
  rw [mput_nmap hml] at hM
  rw [← hfi, ← hti]
  refine ⟨_, Ldr.edge hD2 rfl hcs hb2 (fun k hk hkL => by rcases hk with h | h | h | h; (· omega); (· exact .inl h); (· exact .inr (.inl h)); (· exact .inr (.inr h))) hX hM hO2 ?_ ⟨Al, cl, Ap, cp, by rw [sortS_len], NodeAt.own hOl (sortS_len _) hOp rfl (fun k hk => ?_) (fun k hk => ?_)⟩ hok hlt2⟩
  · rcases ha_b1 with h2 | h2
    · exact .inl h2
    · exact .inr ⟨_, h2, by omega⟩
  · have h1 := hgl k hk; have h3 := own_ge hOl k hk
    exact ⟨by omega, h3.2, fun h => by have := (hD2.v1 k h).2; omega, fun h => by rcases ha_b1 with h2 | h2; (· rw [h2] at h; have := (hv1 k h).2; omega); (· rw [h2] at h; cases h; omega)⟩
  · have h1 := hgp k hk; have h3 := own_ge hOp k hk
    exact ⟨by omega, h3.2, fun h => by have := (hD2.v1 k h).2; omega, fun h => by rcases ha_b1 with h2 | h2; (· rw [h2] at h; have := (hv1 k h).2; omega); (· rw [h2] at h; cases h; omega)⟩⟩, hb.weak (fun k hk => by rcases hk with h | h | h | h; (· exact .inl h); (· exact .inr (.inl h)); (· exact .inr (.inr (.inr (.inl h)))); (· exact .inr (.inr (.inr (.inr (.inr h))))))⟩
      exact Ws.nil
     exact Ws.nil
    exact Ws.nil
   refine Ws.cons #[true, true, true, true, true, false, true, true, false, false, false, false, false] rfl rfl (fun _ hK_125 => ?_) ?_
   ·
    refine Wl.litN (sz := 6) (vs := [_]) Tryz.underlying25 (by kernel_rfl) rfl rfl rfl rfl rfl rfl ?_
    rintro g_b0 w_b0 hg_b0 hn_b0 hs_b0
    have hz_b0 := hs_b0.size
    have hP := hP.below hs_b0
    have hB_o2 := hB_o2.below hs_b0
    have hOl := own_below hOl hs_b0
    have hOp := own_below hOp hs_b0
    have hX := hX.below hs_b0
    have hO := own_below hO hs_b0
    have hM := hM.below hs_b0
    replace hs_b0 := Below.kp (p := p) hs_b0
    have hb := hb.trans (Kp.kq hs_b0 (by assumption))
    have hb2 := hb2.trans (Kp.kq hs_b0 (by assumption))
    have hB_b0 := hn_b0
    have hl_b0 := hB_b0.lt
    refine Wl.nil <| Wq.back hK_125 ⟨hb2, hB_o2⟩ <| Wa.some (rs := [5]) (by kernel_rfl) rfl <| Ws.cons #[true, true, true, true, true, true, true, true, false, false, false, false, false] rfl rfl (fun _ hK_127 => ?_) ?_
    ·
     refine Wl.l (l_load one25LdL rfl (by exact hX.at (j := 1) rfl)) rfl <| Wl.nil <| Wq.back hK_127 ⟨hb2, hB_o2⟩ <| Wa.some (rs := [8]) (by kernel_rfl) rfl <| Ws.cons #[true, true, true, true, true, true, true, true, true, false, false, false, false] rfl rfl (fun _ hK_129 => ?_) ?_
     ·
      have hB3 : Blk _ g_b0 46 [str (wd s), .int .i64 fi, .int .i64 ti, .bool (arrA s).2.1, .slice Al Lo.1.length cl, .slice Ap Pr_.1.length cp] := hB_b0
      have hgl := own_ge hOl
      have hgp := own_ge hOp
      refine Wl.append (z := .agg #[str [], .int .i64 0, .int .i64 0, .bool false, .slice none 0 0, .slice none 0 0]) (sz := 6) (bytes := 88) Tryz.underlying25 (by kernel_rfl) rfl (by decide) C rfl hO rfl (hB3.rd 1 6 rfl) (six_one rfl rfl rfl rfl rfl rfl) (by simp only [maxLen]; omega) (by omega) (by omega) rfl ?_
      rintro V2' w_b1 hO2 hg_b1 ha_b1
      have hz_b1 := hg_b1.size
      have hP := hP.grown hg_b1 (fun h => by have := (hv1 _ h.symm).2; omega)
      have hX := hX.grown hg_b1 (fun h => by have := (hv1 _ h.symm).1; omega)
      have hM := hM.grown hg_b1 (fun h => by have := (hv1 _ h.symm).1; omega)
      have hB_o2 := hB_o2.grown hg_b1 (fun h => by have := (hv1 _ h.symm).2; omega)
      have hOl := own_same hOl (fun k hk hkl => hg_b1.block k hkl (fun h => by have h1 := (hgl k hk).1; have := (hv1 _ h.symm).2; omega))
      have hOp := own_same hOp (fun k hk hkl => hg_b1.block k hkl (fun h => by have h1 := (hgp k hk).1; have := (hv1 _ h.symm).2; omega))
      have hb := kq_row hb hg_b1 (fun k hk => .inr (hSv k hk))
      have hb2 := kq_row hb2 hg_b1 (fun k hk => .inr (hSv k hk))
      obtain ⟨A1, c1, hV1e, hc1, _⟩ := own_form hO2
      have hv1n : ∀ k, V2'.ownBlock = some k → k ≠ x := fun k hk h => by rcases ha_b1 with h2 | h2; (· rw [h2] at hk; have := (hv1 k hk).1; omega); (· rw [h2] at hk; cases hk; omega)
      subst hV1e
      refine Wl.nil <| Wq.back hK_129 ⟨hb2, hB_o2⟩ <| Wa.take (i := 9) #[true, true, true, true, true, true, true, true, true, true, false, false, false] rfl (by kernel_rfl) (fun _ _ _ h => h) rfl (fun wq hq => Yl.ld (y_nilCheck rfl)) ⟨hb2, hB_o2⟩ <| Wa.take (i := 10) #[true, true, true, true, true, true, true, true, true, true, true, false, false] rfl (by kernel_rfl) (fun _ _ _ h => h) rfl (fun wq hq => Yl.ld (y_fieldAddr (fa50_0LdL _) rfl)) ⟨hb2, hB_o2⟩ <| Wa.take (i := 11) #[true, true, true, true, true, true, true, true, true, true, true, true, false] rfl (by kernel_rfl) (fun _ _ _ h => h) rfl (fun wq hq => Yl.ld (y_fieldAddr (fa27_1LdL _) rfl)) ⟨hb2, hB_o2⟩ <| Wa.some (rs := [12]) (by kernel_rfl) rfl <| Ws.cons #[true, true, true, true, true, true, true, true, true, true, true, true, true] rfl rfl (fun _ hK_134 => ?_) ?_
      ·
       refine Wl.storeB (one25LdL) rfl rfl rfl hX (by simp) ?_
       rintro w_s9 hX hg_s9
       have hz_s9 := hg_s9.size
       have hP := hP.over hg_s9 (by omega)
       have hM := hM.over hg_s9 (fun h => hx2 h.symm)
       have hB_o2 := hB_o2.over hg_s9 (by omega)
       have hO2 := own_same hO2 (fun k hk hkl => hg_s9.block k hkl (fun h => hv1n k hk (Option.some.inj h)))
       have hOl := own_same hOl (fun k hk hkl => hg_s9.block k hkl (fun h => by have h1 := (hgl k hk).1; cases h; omega))
       have hOp := own_same hOp (fun k hk hkl => hg_s9.block k hkl (fun h => by have h1 := (hgp k hk).1; cases h; omega))
       have hb := kq_blk hb hg_s9 (.inr hSx)
       have hb2 := kq_blk hb2 hg_s9 (.inr hSx)
       refine Wl.nil <| Wq.back hK_134 ⟨hb2, hB_o2⟩ <| Wa.done (by kernel_rfl) <| end0 rfl ?_
       exact ⟨_, rfl, ⟨rfl, ⟨[], by rw [hstep]; exact hP⟩, fun h0 => by
  rw [hstep] at h0 ⊢
  obtain ⟨_, hml, hlt⟩ := nameE_zero h0
  rw [nmap_len] at hlt
  have hlt2 : g.es.length < 1000 := by have e0 : (enames g).length = g.es.length := (by unfold enames; rw [List.length_map]); omega
  rw [mput_nmap hml] at hM
  rw [← hfi, ← hti]
  refine ⟨_, Ldr.edge hD2 rfl hcs hb2 (fun k hk hkL => by rcases hk with h | h | h | h; (· omega); (· exact .inl h); (· exact .inr (.inl h)); (· exact .inr (.inr h))) hX hM hO2 ?_ ⟨Al, cl, Ap, cp, by rw [sortS_len], NodeAt.own hOl (sortS_len _) hOp rfl (fun k hk => ?_) (fun k hk => ?_)⟩ hok hlt2⟩
  · rcases ha_b1 with h2 | h2
    · exact .inl h2
    · exact .inr ⟨_, h2, by omega⟩
  · have h1 := hgl k hk; have h3 := own_ge hOl k hk
    exact ⟨by omega, h3.2, fun h => by have := (hD2.v1 k h).2; omega, fun h => by rcases ha_b1 with h2 | h2; (· rw [h2] at h; have := (hv1 k h).2; omega); (· rw [h2] at h; cases h; omega)⟩
  · have h1 := hgp k hk; have h3 := own_ge hOp k hk
    exact ⟨by omega, h3.2, fun h => by have := (hD2.v1 k h).2; omega, fun h => by rcases ha_b1 with h2 | h2; (· rw [h2] at h; have := (hv1 k h).2; omega); (· rw [h2] at h; cases h; omega)⟩⟩, hb.weak (fun k hk => by rcases hk with h | h | h | h; (· exact .inl h); (· exact .inr (.inl h)); (· exact .inr (.inr (.inr (.inl h)))); (· exact .inr (.inr (.inr (.inr (.inr h))))))⟩
      exact Ws.nil
     exact Ws.nil
    exact Ws.nil
   exact Ws.nil
  exact Ws.nil
end Go.Proofs.YtjmlknjbhbfneaaGreatDoor
