/- Plain: what stands ahead of a pattern. · The statement ParseHeads, by the calculus. -/
import Derived.Test.YtjnabgddjogkbaaGreatDoorZP6
import Derived.Test.YtjnabgddjogkbaaGreatDoorZX
import Derived.Test.YtjnabgddjogkbaaGreatDoorZJ
import Derived.Test.YtjnabgddjogkbaaGreatDoorZPsY
import Derived.Test.YtjnabgddjogkbaaGreatDoorZK
namespace Go.Proofs.YtjnabgddjogkbaaGreatDoor
open Go.RowKit Go.Bw Go.Bw.Fl
set_option linter.unusedVariables false
set_option linter.unusedSimpArgs false
def modesH : List (List UInt8) := [[87, 65, 76, 75], [84, 82, 65, 73, 76], [65, 67, 89, 67, 76, 73, 67], [83, 73, 77, 80, 76, 69], []]
def selsH : List (List UInt8) := [[65, 76, 76], [65, 78, 89], [65, 76, 76, 32, 83, 72, 79, 82, 84, 69, 83, 84], [83, 72, 79, 82, 84, 69, 83, 84, 32], []]
def headS (m s : Nat) : List UInt8 := modesH.getD m [] ++ [32] ++ selsH.getD s []
def tailA : List UInt8 := [32, 40, 97, 41]
def nodeA : PatD := .mk 1 [97] 0 noE noE 0 0 []
theorem heads_c : ∀ m s : Nat, m < 5 → s < 5 → s ≠ 3 → parseV (headS m s ++ tailA) = (⟨((m % 4 : Nat) : Int), ((s % 4 : Nat) : Int), 0, nodeA⟩, 0, 0)
  | 0, 0, _, _, _ => by kernel_rfl
  | 0, 1, _, _, _ => by kernel_rfl
  | 0, 2, _, _, _ => by kernel_rfl
  | 0, 3, _, _, h => absurd rfl h
  | 0, 4, _, _, _ => by kernel_rfl
  | 1, 0, _, _, _ => by kernel_rfl
  | 1, 1, _, _, _ => by kernel_rfl
  | 1, 2, _, _, _ => by kernel_rfl
  | 1, 3, _, _, h => absurd rfl h
  | 1, 4, _, _, _ => by kernel_rfl
  | 2, 0, _, _, _ => by kernel_rfl
  | 2, 1, _, _, _ => by kernel_rfl
  | 2, 2, _, _, _ => by kernel_rfl
  | 2, 3, _, _, h => absurd rfl h
  | 2, 4, _, _, _ => by kernel_rfl
  | 3, 0, _, _, _ => by kernel_rfl
  | 3, 1, _, _, _ => by kernel_rfl
  | 3, 2, _, _, _ => by kernel_rfl
  | 3, 3, _, _, h => absurd rfl h
  | 3, 4, _, _, _ => by kernel_rfl
  | 4, 0, _, _, _ => by kernel_rfl
  | 4, 1, _, _, _ => by kernel_rfl
  | 4, 2, _, _, _ => by kernel_rfl
  | 4, 3, _, _, h => absurd rfl h
  | 4, 4, _, _, _ => by kernel_rfl
  | m + 5, _, h, _, _ => absurd h (by omega)
  | _, s + 5, _, h, _ => absurd h (by omega)
theorem dd_itoa (k : Nat) : Lib.decDigits k = Lib.itoa (k : Int) := by unfold Lib.itoa; rw [if_neg (by omega)]; rfl
theorem dd_lit {k : Nat} (hk : k < 4096) : litV (Lib.decDigits k) = some ⟨2, (k : Int), 0, []⟩ := by
  unfold litV
  rw [read_intV (dd_itoa k) (by omega) (by omega)]
  exact if_pos rfl
theorem dd_tok {k : Nat} (hk : k < 4096) (m : List UInt8) : tokV (Lib.decDigits k ++ 32 :: m) = (3, (Lib.decDigits k).length) ∧ blank ((Lib.decDigits k).getD 0 0) = false ∧ Lib.decDigits k ≠ [] := by
  obtain ⟨ha, _, hne⟩ := decDigits_spec k
  obtain ⟨c, r, hcr, hc⟩ := dig_head ha hne
  have hg : (Lib.decDigits k).getD 0 0 = c := by rw [hcr]; rfl
  have hpos := List.length_pos_iff.2 hne
  have h1 := rdN_some (read_intV (dd_itoa k) (by omega) (by omega))
  have h2 := rdN_le (45 :: Lib.decDigits k)
  simp only [List.length_cons] at h2
  have h39 : ((Lib.decDigits k).getD 0 0).toNat ≠ 39 := by rw [hg]; omega
  have ht : tokV (Lib.decDigits k) = (3, (Lib.decDigits k).length) := by
    rw [tokV_n (.inr (by rw [hg]; exact hc)) (fun h => h39 h.1) ⟨by omega, h39⟩]
    congr 1; omega
  refine ⟨tokV_blank m ht (by decide) hne, ?_, hne⟩
  rw [hg]; unfold blank
  rw [decide_eq_false_iff_not]
  intro hm
  simp only [List.mem_cons, List.not_mem_nil, or_false] at hm
  rcases hm with rfl | rfl | rfl | rfl <;> exact absurd hc.1 (by decide)
theorem dd4 {k : Nat} (h : 1000 ≤ k) (h2 : k < 10000) : (Lib.decDigits k).length = 4 := by
  rw [Lib.decDigits, dif_neg (by omega), Lib.decDigits, dif_neg (by omega), Lib.decDigits, dif_neg (by omega), Lib.decDigits, dif_pos (by omega)]
  simp
theorem dd1 : (Lib.decDigits 0).length = 1 := by rw [Lib.decDigits, dif_pos (by omega)]; rfl
/-- the number, and the node behind it -/
theorem lex_dd {k : Nat} (hk : k < 4096) (i : Nat) : lexV (Lib.decDigits k ++ tailA) i = .ok [⟨3, Lib.decDigits k, i⟩, ⟨5, [40], i + (Lib.decDigits k).length + 1⟩, ⟨1, [97], i + (Lib.decDigits k).length + 2⟩, ⟨5, [41], i + (Lib.decDigits k).length + 3⟩] := by
  obtain ⟨h1, h2, h3⟩ := dd_tok hk [40, 97, 41]
  have e : ∀ p, lexV [40, 97, 41] p = .ok [⟨5, [40], p⟩, ⟨1, [97], p + 1⟩, ⟨5, [41], p + 2⟩] := fun p => by
    rw [lexV_step (k := 5) (n := 1) (by kernel_rfl) (by decide) (by decide), show ([40, 97, 41] : List UInt8).drop 1 = [97, 41] from rfl, lexV_step (k := 1) (n := 1) (by kernel_rfl) (by decide) (by decide), show ([97, 41] : List UInt8).drop 1 = [41] from rfl, lexV_step (k := 5) (n := 1) (by kernel_rfl) (by decide) (by decide)]; rfl
  show lexV (Lib.decDigits k ++ 32 :: [40, 97, 41]) i = _
  rw [lexV_step h1 ⟨by simp, by rw [getD_app h3]; exact h2⟩ (by decide), List.drop_left, List.take_left, lexV_blank _ (by decide), e]; rfl
theorem lex_short {k : Nat} (hk : k < 4096) (i : Nat) : ∃ p3 p4 p5, lexV ([83, 72, 79, 82, 84, 69, 83, 84, 32] ++ (Lib.decDigits k ++ tailA)) i = .ok [⟨2, wShort, i⟩, ⟨3, Lib.decDigits k, i + 9⟩, ⟨5, [40], p3⟩, ⟨1, [97], p4⟩, ⟨5, [41], p5⟩] := by
  refine ⟨i + 9 + (Lib.decDigits k).length + 1, i + 9 + (Lib.decDigits k).length + 2, i + 9 + (Lib.decDigits k).length + 3, ?_⟩
  show lexV (wShort ++ 32 :: (Lib.decDigits k ++ tailA)) i = _
  have h1 : tokV (wShort ++ 32 :: (Lib.decDigits k ++ tailA)) = (2, 8) := tokV_blank _ (by kernel_rfl) (by decide) (by decide)
  rw [lexV_step h1 ⟨by simp [wShort], show blank 83 = false by decide⟩ (by decide), show (wShort ++ 32 :: (Lib.decDigits k ++ tailA)).drop 8 = 32 :: (Lib.decDigits k ++ tailA) from rfl, lexV_blank _ (by decide), lex_dd hk]; rfl
/-- the query, its tokens known -/
theorem query_num (en : Nat) {k : Nat} (hk : k < 4096) (a y p3 p4 p5 : Nat) : pSel en [⟨2, wShort, a⟩, ⟨3, Lib.decDigits k, y⟩, ⟨5, [40], p3⟩, ⟨1, [97], p4⟩, ⟨5, [41], p5⟩] = if (k : Int) < 1 then .err (y : Int) 2 else if 1000 < (k : Int) then .err (y : Int) 6 else .ok (3, (k : Int)) [⟨5, [40], p3⟩, ⟨1, [97], p4⟩, ⟨5, [41], p5⟩] := by
  have hw : ∀ z : Int, pWhole en z [⟨3, Lib.decDigits k, y⟩, ⟨5, [40], p3⟩, ⟨1, [97], p4⟩, ⟨5, [41], p5⟩] = .ok (k : Int) [⟨5, [40], p3⟩, ⟨1, [97], p4⟩, ⟨5, [41], p5⟩] := fun z => by
    have h1 : pKind en 3 [⟨3, Lib.decDigits k, y⟩, ⟨5, [40], p3⟩, ⟨1, [97], p4⟩, ⟨5, [41], p5⟩] = .ok ⟨3, Lib.decDigits k, y⟩ [⟨5, [40], p3⟩, ⟨1, [97], p4⟩, ⟨5, [41], p5⟩] := rfl
    unfold pWhole; rw [h1]; dsimp only; rw [dd_lit hk]; rfl
  unfold pSel
  rw [if_neg (by rw [show isT en [wAll] [⟨2, wShort, a⟩, ⟨3, Lib.decDigits k, y⟩, ⟨5, [40], p3⟩, ⟨1, [97], p4⟩, ⟨5, [41], p5⟩] = false by kernel_rfl]; decide), if_neg (by rw [show isT en [wAny] [⟨2, wShort, a⟩, ⟨3, Lib.decDigits k, y⟩, ⟨5, [40], p3⟩, ⟨1, [97], p4⟩, ⟨5, [41], p5⟩] = false by kernel_rfl]; decide), if_pos (by kernel_rfl)]
  simp only [List.tail_cons, nextT]
  rw [hw]
theorem pat_a (en m n p3 p4 p5 : Nat) : pPat en (m + 1) (n + 1) 0 [⟨5, [40], p3⟩, ⟨1, [97], p4⟩, ⟨5, [41], p5⟩] = .ok nodeA [] := by kernel_rfl
def headT (m s k : Nat) : List UInt8 := headS m s ++ (if s = 3 then Lib.decDigits k else [])
theorem heads_n (m : Nat) (hm : m < 5) {k : Nat} (hk : k < 4096) : parseV (headS m 3 ++ (Lib.decDigits k ++ tailA)) = if (k : Int) < 1 then (noQ, ((headS m 3).length : Int), 2) else if 1000 < (k : Int) then (noQ, ((headS m 3).length : Int), 6) else (⟨((m % 4 : Nat) : Int), 3, (k : Int), nodeA⟩, 0, 0) := by
  have hl : (headS m 3 ++ (Lib.decDigits k ++ tailA)).length ≤ 65536 := by
    have h1 : ∀ m, m < 5 → (headS m 3).length ≤ 100 := by decide
    have h2 := h1 m hm
    have h3 : (Lib.decDigits k).length ≤ 20 := decDigits_le k (by omega)
    simp only [List.length_append, tailA, List.length_cons, List.length_nil]; omega
  have key : ∃ l, lexV (headS m 3 ++ (Lib.decDigits k ++ tailA)) 0 = .ok l ∧ ∃ a p3 p4 p5 r, (∀ en, pMode en l = (((m % 4 : Nat) : Int), r)) ∧ r = [⟨2, wShort, a⟩, ⟨3, Lib.decDigits k, (headS m 3).length⟩, ⟨5, [40], p3⟩, ⟨1, [97], p4⟩, ⟨5, [41], p5⟩] ∧ ∃ n, l.length = n + 1 := by
    have c : m = 0 ∨ m = 1 ∨ m = 2 ∨ m = 3 ∨ m = 4 := by omega
    rcases c with rfl | rfl | rfl | rfl | rfl
    · obtain ⟨p3, p4, p5, h⟩ := lex_short hk (0 + 4 + 1)
      have h1 : tokV ([87, 65, 76, 75] ++ 32 :: ([83, 72, 79, 82, 84, 69, 83, 84, 32] ++ (Lib.decDigits k ++ tailA))) = (2, 4) := tokV_blank _ (by kernel_rfl) (by decide) (by decide)
      have h2 := lexV_step (i := 0) h1 ⟨by simp, show blank 87 = false by decide⟩ (by decide)
      rw [show ([87, 65, 76, 75] ++ 32 :: ([83, 72, 79, 82, 84, 69, 83, 84, 32] ++ (Lib.decDigits k ++ tailA)) : List UInt8).drop 4 = 32 :: ([83, 72, 79, 82, 84, 69, 83, 84, 32] ++ (Lib.decDigits k ++ tailA)) from rfl, lexV_blank _ (by decide), h] at h2
      refine ⟨_, h2, 0 + 4 + 1, p3, p4, p5, _, fun en => ?_, rfl, _, rfl⟩
      kernel_rfl
    · obtain ⟨p3, p4, p5, h⟩ := lex_short hk (0 + 5 + 1)
      have h1 : tokV ([84, 82, 65, 73, 76] ++ 32 :: ([83, 72, 79, 82, 84, 69, 83, 84, 32] ++ (Lib.decDigits k ++ tailA))) = (2, 5) := tokV_blank _ (by kernel_rfl) (by decide) (by decide)
      have h2 := lexV_step (i := 0) h1 ⟨by simp, show blank 84 = false by decide⟩ (by decide)
      rw [show ([84, 82, 65, 73, 76] ++ 32 :: ([83, 72, 79, 82, 84, 69, 83, 84, 32] ++ (Lib.decDigits k ++ tailA)) : List UInt8).drop 5 = 32 :: ([83, 72, 79, 82, 84, 69, 83, 84, 32] ++ (Lib.decDigits k ++ tailA)) from rfl, lexV_blank _ (by decide), h] at h2
      refine ⟨_, h2, 0 + 5 + 1, p3, p4, p5, _, fun en => ?_, rfl, _, rfl⟩
      kernel_rfl
    · obtain ⟨p3, p4, p5, h⟩ := lex_short hk (0 + 7 + 1)
      have h1 : tokV ([65, 67, 89, 67, 76, 73, 67] ++ 32 :: ([83, 72, 79, 82, 84, 69, 83, 84, 32] ++ (Lib.decDigits k ++ tailA))) = (2, 7) := tokV_blank _ (by kernel_rfl) (by decide) (by decide)
      have h2 := lexV_step (i := 0) h1 ⟨by simp, show blank 65 = false by decide⟩ (by decide)
      rw [show ([65, 67, 89, 67, 76, 73, 67] ++ 32 :: ([83, 72, 79, 82, 84, 69, 83, 84, 32] ++ (Lib.decDigits k ++ tailA)) : List UInt8).drop 7 = 32 :: ([83, 72, 79, 82, 84, 69, 83, 84, 32] ++ (Lib.decDigits k ++ tailA)) from rfl, lexV_blank _ (by decide), h] at h2
      refine ⟨_, h2, 0 + 7 + 1, p3, p4, p5, _, fun en => ?_, rfl, _, rfl⟩
      kernel_rfl
    · obtain ⟨p3, p4, p5, h⟩ := lex_short hk (0 + 6 + 1)
      have h1 : tokV ([83, 73, 77, 80, 76, 69] ++ 32 :: ([83, 72, 79, 82, 84, 69, 83, 84, 32] ++ (Lib.decDigits k ++ tailA))) = (2, 6) := tokV_blank _ (by kernel_rfl) (by decide) (by decide)
      have h2 := lexV_step (i := 0) h1 ⟨by simp, show blank 83 = false by decide⟩ (by decide)
      rw [show ([83, 73, 77, 80, 76, 69] ++ 32 :: ([83, 72, 79, 82, 84, 69, 83, 84, 32] ++ (Lib.decDigits k ++ tailA)) : List UInt8).drop 6 = 32 :: ([83, 72, 79, 82, 84, 69, 83, 84, 32] ++ (Lib.decDigits k ++ tailA)) from rfl, lexV_blank _ (by decide), h] at h2
      refine ⟨_, h2, 0 + 6 + 1, p3, p4, p5, _, fun en => ?_, rfl, _, rfl⟩
      kernel_rfl
    · obtain ⟨p3, p4, p5, h⟩ := lex_short hk (0 + 1)
      refine ⟨_, (lexV_blank 0 (by decide)).trans h, 0 + 1, p3, p4, p5, _, fun en => ?_, rfl, _, rfl⟩
      kernel_rfl
  obtain ⟨l, h1, a, p3, p4, p5, r, h2, h3, n, hn⟩ := key
  have e1 : parseV (headS m 3 ++ (Lib.decDigits k ++ tailA)) = parseT (headS m 3 ++ (Lib.decDigits k ++ tailA)).length l := by unfold parseV; rw [if_neg (by omega), h1]
  rw [e1]
  unfold parseT pQuery
  rw [h2, hn]
  dsimp only
  rw [h3, query_num _ hk]
  by_cases hk1 : (k : Int) < 1
  · rw [if_pos hk1, if_pos hk1]
  · rw [if_neg hk1, if_neg hk1]
    by_cases hk2 : 1000 < (k : Int)
    · rw [if_pos hk2, if_pos hk2]
    · rw [if_neg hk2, if_neg hk2]
      dsimp only
      rw [pat_a]
      dsimp only
      rw [if_neg (by decide)]
      show (if 50 < deepP nodeA ∨ tooDeep nodeA = true then _ else _) = _
      rw [if_neg (by decide)]
theorem heads_eq (m s : Nat) (hm : m < 5) (hs : s < 5) {k : Nat} (hk : k < 4096) : ∃ q a e, parseV (headT m s k ++ tailA) = (q, a, e) ∧ ((s = 3 ∧ k = 0 ∧ e = 2 ∧ a = ((headT m s k).length : Int) - 1) ∨ (s = 3 ∧ 1000 < k ∧ e = 6 ∧ a = ((headT m s k).length : Int) - 4) ∨ ((s ≠ 3 ∨ (1 ≤ k ∧ k ≤ 1000)) ∧ e = 0 ∧ q = ⟨((m % 4 : Nat) : Int), ((s % 4 : Nat) : Int), if s = 3 then (k : Int) else 0, nodeA⟩)) := by
  by_cases h3 : s = 3
  · subst h3
    have e : headT m 3 k = headS m 3 ++ Lib.decDigits k := by unfold headT; rw [if_pos rfl]
    have hn := heads_n m hm hk
    rw [e, List.append_assoc, hn]
    by_cases hk1 : (k : Int) < 1
    · have : k = 0 := by omega
      subst this
      rw [if_pos hk1]
      exact ⟨_, _, _, rfl, .inl ⟨rfl, rfl, rfl, by rw [List.length_append, dd1]; omega⟩⟩
    · rw [if_neg hk1]
      by_cases hk2 : 1000 < (k : Int)
      · rw [if_pos hk2]
        exact ⟨_, _, _, rfl, .inr (.inl ⟨rfl, by omega, rfl, by rw [List.length_append, dd4 (by omega) (by omega)]; omega⟩)⟩
      · rw [if_neg hk2]
        exact ⟨_, _, _, rfl, .inr (.inr ⟨.inr ⟨by omega, by omega⟩, rfl, rfl⟩)⟩
  · have e : headT m s k = headS m s := by unfold headT; rw [if_neg h3, List.append_nil]
    rw [e, heads_c m s hm hs h3]
    exact ⟨_, _, _, rfl, .inr (.inr ⟨.inl h3, rfl, by rw [if_neg h3]⟩)⟩
end Go.Proofs.YtjnabgddjogkbaaGreatDoor
namespace Go.Proofs.YtjnabgddjogkbaaGreatDoor
open Go.RowKit Go.Bw Go.Bw.Fl
set_option linter.unusedVariables false
set_option linter.unusedSimpArgs false
theorem fa33_2PlH (p : Addr) (w : World) : (Instr.fieldAt 33 (.pointer (some p)) 2).run Tryz.prog w = .ok (.pointer (some (p.add 2))) w := run_fieldAt (i := 2) (sz := 0) Tryz.underlying33 rfl (by kernel_rfl) p w
theorem one3PlH : One Tryz.prog 3 := ⟨_, Tryz.underlying3, rfl, by kernel_rfl⟩
theorem one9PlH : One Tryz.prog 9 := ⟨_, Tryz.underlying9, rfl, by kernel_rfl⟩
theorem sz9PlH : (Tryz.prog.info? 9).map (·.size) = some 1 := by kernel_rfl
theorem txt11PlH : Txt Tryz.prog 11 := ⟨_, Tryz.func11, by kernel_rfl, rfl⟩   -- bridleway/bridlewaylaw11.shown
theorem txt12PlH : Txt Tryz.prog 12 := ⟨_, Tryz.func12, by kernel_rfl, rfl⟩   -- bridleway/parse.Parse
theorem txt14PlH : Txt Tryz.prog 14 := ⟨_, Tryz.func14, by kernel_rfl, rfl⟩   -- bridleway/bridlewayref11.Same
theorem txt16PlH : Txt Tryz.prog 16 := ⟨_, Tryz.func16, by kernel_rfl, rfl⟩   -- bridleway/bridlewayref02.Int
abbrev zA : PC := ⟨1, [97], 0, ec0, ec0, 0, 0, none, 0, 0⟩
theorem nodeA_at (w : World) : PAt w (fun _ => False) nodeA zA.cells := PAt.nokids (noE_at w _) (noE_at w _)
theorem nodeA_ok : okP nodeA := ⟨noE_ok, noE_ok, trivial⟩
theorem and4095 (x : Int) : ∃ n : Nat, bits .and .i64 x 4095 = n ∧ n < 4096 := ⟨_, andm x 12 (by decide), Nat.mod_lt _ (by decide)⟩
theorem heads_len (m s k : Nat) (hm : m < 5) (hs : s < 5) (hk : k < 4096) : (headT m s k).length ≤ 60 ∧ (headS m s).length ≤ 40 ∧ (modesH.getD m []).length ≤ 10 ∧ (selsH.getD s []).length ≤ 15 := by
  have h1 : ∀ m, m < 5 → (modesH.getD m []).length ≤ 10 := by decide
  have h2 : ∀ m, m < 5 → (selsH.getD m []).length ≤ 15 := by decide
  have h3 := decDigits_le k (by omega)
  have h4 := h1 m hm
  have h5 := h2 s hs
  unfold headT headS
  refine ⟨?_, ?_, h4, h5⟩
  · split <;> simp only [List.length_append, List.length_cons, List.length_nil] <;> omega
  · simp only [List.length_append, List.length_cons, List.length_nil]; omega
theorem RIntN_r (a : Nat) (h : a < 4096) (w : World) : Ret Tryz.prog 16 [.int .i64 (a : Int)] w fun v w' => v = str (Lib.decDigits a) ∧ Below w.heap.size w w' := RInt_r a a (by omega) (by omega) (by omega) w
theorem Heads_r (a b d : Int) (w : World) (hX : Lx w) : Ret Tryz.prog 5 [.int .i64 a, .int .i64 b, .int .i64 d] w fun v w' => v = .bool true ∧ Below w.heap.size w w' := by
  obtain ⟨m1, hm1⟩ := and65535 a
  obtain ⟨s1, hs1⟩ := and65535 b
  obtain ⟨k, hk, hk4⟩ := and4095 d
  obtain ⟨m, hm⟩ : ∃ m, m = m1 % 5 := ⟨_, rfl⟩
  obtain ⟨s, hs⟩ : ∃ s, s = s1 % 5 := ⟨_, rfl⟩
  have hm5 : m < 5 := by omega
  have hs5 : s < 5 := by omega
  obtain ⟨q, at_, e, hq, hcase⟩ := heads_eq m s hm5 hs5 hk4
  obtain ⟨hl1, hl2, hl3, hl4⟩ := heads_len m s k hm5 hs5 hk4
  obtain ⟨mo, hmo⟩ : ∃ x, x = modesH.getD m [] := ⟨_, rfl⟩
  obtain ⟨se, hse⟩ : ∃ x, x = selsH.getD s [] := ⟨_, rfl⟩
  rw [← hmo] at hl3
  rw [← hse] at hl4
  have hhs : headS m s = mo ++ [32] ++ se := by rw [hmo, hse]; rfl
  have htl : (headT m s k ++ tailA).length ≤ 70 := by simp only [List.length_append, tailA, List.length_cons, List.length_nil]; omega
  have hdl := decDigits_le k (by omega)
  have hb := Below.refl w.heap.size w
  have hX_hb := hX
  refine enter Tryz.func5 rfl rfl rfl ?_
  refine Wc.seq fun _ hK_1 => Wc.region <| Wl.sg rfl rfl <| Wl.nil <| Wq.next hK_1 <| Wc.seq fun _ hK_3 => Wc.region ?_
  refine Wl.call txt11PlH rfl rfl (pshown_r _ hX) rfl ?_
  rintro _ w_k0 ⟨rfl, hs_k0⟩
  have hz_k0 := hs_k0.size
  have hb := hb.trans (hs_k0.mono hb.size)
  have hX := hX_hb.below hb
  refine Wl.sg rfl rfl <| Wl.nil <| Wq.next hK_3 <| Wc.seq fun _ hK_6 => Wc.region ?_
  refine Wl.litN (sz := 1) (vs := [_, _, _, _, _]) Tryz.underlying45 (by kernel_rfl) rfl rfl rfl rfl rfl rfl ?_
  rintro g_b0 w_b0 hg_b0 hn_b0 hs_b0
  have hz_b0 := hs_b0.size
  have hb := hb.trans (hs_b0.mono hb.size)
  have hX := hX_hb.below hb
  have hB_b0 := hn_b0
  have hl_b0 := hB_b0.lt
  refine Wl.sg rfl rfl <| Wl.nil <| Wq.next hK_6 <| Wc.seq fun _ hK_9 => Wc.region ?_
  refine Wl.litN (sz := 1) (vs := [_, _, _, _, _]) Tryz.underlying45 (by kernel_rfl) rfl rfl rfl rfl rfl rfl ?_
  rintro g_b1 w_b1 hg_b1 hn_b1 hs_b1
  have hz_b1 := hs_b1.size
  have hb := hb.trans (hs_b1.mono hb.size)
  have hX := hX_hb.below hb
  try have hB_b0 := Blk.below hB_b0 hs_b1
  have hB_b1 := hn_b1
  have hl_b1 := hB_b1.lt
  refine Wl.sg rfl rfl <| Wl.nil <| Wq.next hK_9 <| Wc.seq fun _ hK_12 => Wc.region <| Wl.mv rfl rfl ?_
  refine Wl.y (y_eq (y_and rfl rfl) (int_eq (show _ = (m1 : Int) from hm1))) rfl ?_
  refine Wl.y (y_eq (y_rem rfl rfl (by first | decide | omega)) (int_eq (show _ = (m : Int) by rw [hm]; rfl))) rfl ?_
  refine Wl.sg rfl rfl <| Wl.nil <| Wq.next hK_12 <| Wc.seq fun _ hK_17 => Wc.region <| Wl.mv rfl rfl ?_
  refine Wl.y (y_eq (y_and rfl rfl) (int_eq (show _ = (s1 : Int) from hs1))) rfl ?_
  refine Wl.y (y_eq (y_rem rfl rfl (by first | decide | omega)) (int_eq (show _ = (s : Int) by rw [hs]; rfl))) rfl ?_
  refine Wl.sg rfl rfl <| Wl.nil <| Wq.next hK_17 <| Wc.seq fun _ hK_22 => Wc.region <| Wl.mv rfl rfl ?_
  refine Wl.y (y_eq (y_and rfl rfl) (int_eq (show _ = (k : Int) from hk))) rfl ?_
  refine Wl.sg rfl rfl <| Wl.nil <| Wq.next hK_22 <| Wc.seq fun _ hK_26 => ?_
  refine Wc.quiet (by kernel_rfl) (by kernel_rfl) ?_
  refine Wy.y (y_move rfl) rfl <| Wy.y (y_move rfl) rfl ?_
  refine Wy.y (y_indexAddr Tryz.underlying45 sz9PlH rfl rfl (by omega) (by omega)) rfl ?_
  refine Wy.l (fun wq hq => l_load one9PlH rfl (by have hX := hX.below hq; have hB_b0 := Blk.below hB_b0 hq; have hB_b1 := Blk.below hB_b1 hq; exact (show _ = some (str mo) by rw [hmo]; exact lit1 (l := modesH) hB_b0 hm5))) rfl ?_
  refine Wy.y (y_adds rfl rfl (by first | omega | (simp; done) | (simp; omega))) rfl ?_
  refine Wy.y (y_move rfl) rfl <| Wy.y (y_move rfl) rfl ?_
  refine Wy.y (y_indexAddr Tryz.underlying45 sz9PlH rfl rfl (by omega) (by omega)) rfl ?_
  refine Wy.l (fun wq hq => l_load one9PlH rfl (by have hX := hX.below hq; have hB_b0 := Blk.below hB_b0 hq; have hB_b1 := Blk.below hB_b1 hq; exact (show _ = some (str se) by rw [hse]; exact lit1 (l := selsH) hB_b1 hs5))) rfl ?_
  refine Wy.y (y_adds rfl rfl (by first | omega | (simp; done) | (simp; omega))) rfl ?_
  refine Wy.y (y_assign rfl) rfl ?_
  refine Wy.nil fun w_g7 hs_g7 => ?_
  have hz_g7 := hs_g7.size
  have hb := hb.trans (hs_g7.mono hb.size)
  have hX := hX_hb.below hb
  refine Wq.next hK_26 <| Wc.seq fun _ hK_38 => Wc.seq fun _ hK_39 => Wc.region <| Wl.mv rfl rfl <| Wl.y (y_eqli rfl rfl) rfl <| Wl.nil <| Wq.next hK_39 ?_
  refine Wc.meet (X := List UInt8) (fun tx => [(2, .int .i64 (k : Int)), (7, .bool true), (10, .int .i64 (m : Int)), (11, .int .i64 (s : Int)), (12, str tx)]) (fun tx wr => tx = headT m s k ∧ Below w.heap.size w wr) (fun _ hM_42 => ?_) ?_
  ·
   refine Wc.cond rfl (fun c0_43 => ?_) (fun c0_43 => ?_)
   ·
    have c0_43_ := c0_43
    try simp only [DZ] at c0_43
    have hs3 : s = 3 := by have := c0_43; omega
    have ht : headT m s k = mo ++ [32] ++ se ++ Lib.decDigits k := by unfold headT; rw [if_pos hs3, hhs]
    refine Wc.region <| Wl.mv rfl rfl <| Wl.mv rfl rfl ?_
    refine Wl.call txt16PlH rfl rfl (RIntN_r k hk4 _) rfl ?_
    rintro _ w_k1 ⟨rfl, hs_k1⟩
    have hz_k1 := hs_k1.size
    have hb := hb.trans (hs_k1.mono hb.size)
    have hX := hX_hb.below hb
    refine Wl.y (y_adds rfl rfl (by first | omega | (simp; done) | (simp; omega))) rfl ?_
    refine Wl.sg rfl rfl <| Wl.nil ?_
    refine Wq.meet hM_42 (headT m s k) (by repeat first | exact Sub.nil | refine Sub.cons' rfl (by first | rfl | exact str_eq ht.symm) ?_) ?_
    exact ⟨rfl, hb⟩
   have c0_43_ := c0_43
   try simp only [DZ] at c0_43
   have hs3 : s ≠ 3 := by have := c0_43; omega
   have ht : headT m s k = mo ++ [32] ++ se := by unfold headT; rw [if_neg hs3, List.append_nil, hhs]
   refine Wc.skip ?_
   refine Wq.meet hM_42 (headT m s k) (by repeat first | exact Sub.nil | refine Sub.cons' rfl (by first | rfl | exact str_eq ht.symm) ?_) ?_
   exact ⟨rfl, hb⟩
  rintro tx wr hI_49
  replace hI_49 : tx = headT m s k ∧ Below w.heap.size w wr := hI_49
  obtain ⟨htx, hb⟩ := hI_49
  show Wq _ _ _ _ [(2, .int .i64 (k : Int)), (7, .bool true), (10, .int .i64 (m : Int)), (11, .int .i64 (s : Int)), (12, str tx)] _
  have hX := hX_hb.below hb
  try have hzhb_c0 := hb.size
  refine Wq.next hK_38 <| Wc.seq fun _ hK_50 => ?_
  have htxl : tx.length ≤ 60 := by rw [htx]; exact hl1
  have htl2 : (tx ++ tailA).length ≤ 70 := by rw [htx]; exact htl
  rw [← htx] at hq hcase
  refine Wc.region <| Wl.mv rfl rfl ?_
  refine Wl.y (y_adds rfl rfl (by first | omega | (simp; done) | (simp; omega))) rfl ?_
  refine Wl.call txt12PlH rfl rfl (ParseT_r hq (by omega) _ hX) rfl ?_
  rintro _ w_k2 ⟨⟨z, Sz, rfl, hz, hz_S⟩, hs_k2⟩
  have hz_k2 := hs_k2.size
  have hb := hb.trans (hs_k2.mono hb.size)
  have hX := hX_hb.below hb
  refine Wl.mv rfl rfl <| Wl.y (y_extract rfl rfl) rfl <| Wl.y (y_extract rfl rfl) rfl <| Wl.y (y_extract rfl rfl) rfl ?_
  refine Wl.allocN (z := (.agg #[(.int .i64 0), (.int .i64 0), (.int .i64 0), (.int .i64 0), (str []), (.int .i64 0), (.int .i64 0), (str []), (.int .i64 0), (.int .i64 0), (.float .f64 0), (str []), (.slice none 0 0), (.int .i64 0), (str []), (.int .i64 0), (.int .i64 0), (.float .f64 0), (str []), (.slice none 0 0), (.int .i64 0), (.int .i64 0), (.slice none 0 0)])) (by kernel_rfl) rfl ?_
  rintro g_o34 w_o34 hg_o34 hn_o34 hs_o34
  have hz_o34 := hs_o34.size
  have hb := hb.trans (hs_o34.mono hb.size)
  have hX := hX_hb.below hb
  try have hz := PAt.below hz hs_o34
  have hB_o34 := hn_o34
  have hl_o34 := hB_o34.lt
  refine Wl.storeS (by kernel_rfl) rfl rfl hB_o34 rfl rfl ?_
  rintro w_s0 hn_s0 hg_s0
  have hz_s0 := hg_s0.size
  have hb := below_blk hb hg_s0 hb.size (by omega)
  have hX := hX_hb.below hb
  try have hz := PAt.kp hz hg_s0 (fun h_ => by have h2_ := hz_S _ h_; first | omega | (rcases h2_ with h3_ | h3_; (have h4_ := hS _ h3_; omega); omega))
  have hB_o34 := hn_s0
  refine Wl.sg rfl rfl <| Wl.sg rfl rfl <| Wl.nil <| Wq.next hK_50 <| Wc.seq fun _ hK_61 => Wc.seq fun _ hK_62 => Wc.region <| Wl.mv rfl rfl <| Wl.y (y_eqli rfl rfl) rfl <| Wl.mv rfl rfl ?_
  refine Wl.guardT rfl rfl rfl (fun g_66 => ?_) (fun g_66 => ?_)
  ·
   have g_66_ := g_66
   try simp only [DZ] at g_66
   have hs3 : s = 3 := by have := g_66; omega
   refine Wl.mv rfl rfl <| Wl.on' rfl rfl g_66_ <| Wl.y (y_eqli rfl rfl) rfl ?_
   refine Wl.y (y_pickT rfl g_66_ rfl) rfl ?_
   refine Wl.nil <| Wq.next hK_62 ?_
   refine Wc.cond rfl (fun c1_70 => ?_) (fun c1_70 => ?_)
   ·
    have c1_70_ := c1_70
    try simp only [DZ] at c1_70
    have hcc : e = 2 ∧ at_ = (tx.length : Int) - 1 := by have := c1_70; rcases hcase with h | h | h <;> omega
    refine Wc.seq fun _ hK_71 => Wc.region <| Wl.mv rfl rfl <| Wl.mv rfl rfl ?_
    refine Wl.guardT rfl rfl rfl (fun g_74 => ?_) (fun g_74 => ?_)
    ·
     have g_74_ := g_74
     try simp only [DZ] at g_74
     refine Wl.mv rfl rfl <| Wl.on' rfl rfl g_74_ <| Wl.y (y_eqli rfl rfl) rfl ?_
     refine Wl.y (y_pickT rfl g_74_ rfl) rfl ?_
     refine Wl.mv rfl rfl ?_
     refine Wl.guardT rfl rfl rfl (fun g_79 => ?_) (fun g_79 => ?_)
     ·
      have g_79_ := g_79
      try simp only [DZ] at g_79
      refine Wl.mv rfl rfl <| Wl.on' rfl rfl g_79_ <| Wl.mv rfl rfl <| Wl.on' rfl rfl g_79_ ?_
      refine Wl.y (y_lens Tryz.underlying9 (by omega) rfl) rfl ?_
      refine Wl.on' rfl rfl g_79_ ?_
      refine Wl.y (y_subI rfl rfl (by first | omega | (simp; done) | (simp; omega)) (by first | omega | (simp; done) | (simp; omega))) rfl ?_
      refine Wl.on' rfl rfl g_79_ <| Wl.y (y_eqli rfl rfl) rfl ?_
      refine Wl.y (y_pickT rfl g_79_ rfl) rfl ?_
      refine Wl.sg rfl rfl <| Wl.nil <| Wq.next hK_71 <| Wc.ret <| Wq.then_ret ?_
      refine ret1 rfl rfl ?_
      first | exact ⟨_, rfl, rfl, hb⟩ | exact ⟨_, rfl, bool_eq (by rw [hcc.2]; simp), hb⟩ | exact ⟨_, rfl, bool_eq (by rw [hcd.2]; simp), hb⟩
     have g_79_ := g_79
     try simp only [DZ] at g_79
     exact absurd g_79_ (by rw [hcc.1]; decide)
    have g_74_ := g_74
    try simp only [DZ] at g_74
    exact absurd g_74_ (by decide)
   have c1_70_ := c1_70
   try simp only [DZ] at c1_70
   have hk0 : k ≠ 0 := by have := c1_70; omega
   refine Wc.skip <| Wq.next hK_61 <| Wc.seq fun _ hK_87 => Wc.seq fun _ hK_88 => Wc.region <| Wl.mv rfl rfl <| Wl.y (y_eqli rfl rfl) rfl <| Wl.mv rfl rfl ?_
   refine Wl.guardT rfl rfl rfl (fun g_92 => ?_) (fun g_92 => ?_)
   ·
    have g_92_ := g_92
    try simp only [DZ] at g_92
    have hs3 : s = 3 := by have := g_92; omega
    refine Wl.mv rfl rfl <| Wl.on' rfl rfl g_92_ <| Wl.y (y_gtri rfl rfl) rfl ?_
    refine Wl.y (y_pickT rfl g_92_ rfl) rfl ?_
    refine Wl.nil <| Wq.next hK_88 ?_
    refine Wc.cond rfl (fun c2_96 => ?_) (fun c2_96 => ?_)
    ·
     have c2_96_ := c2_96
     try simp only [DZ] at c2_96
     have hcd : e = 6 ∧ at_ = (tx.length : Int) - 4 := by have := c2_96; rcases hcase with h | h | h <;> omega
     refine Wc.seq fun _ hK_97 => Wc.region <| Wl.mv rfl rfl <| Wl.mv rfl rfl ?_
     refine Wl.guardT rfl rfl rfl (fun g_100 => ?_) (fun g_100 => ?_)
     ·
      have g_100_ := g_100
      try simp only [DZ] at g_100
      refine Wl.mv rfl rfl <| Wl.on' rfl rfl g_100_ <| Wl.y (y_eqli rfl rfl) rfl ?_
      refine Wl.y (y_pickT rfl g_100_ rfl) rfl ?_
      refine Wl.mv rfl rfl ?_
      refine Wl.guardT rfl rfl rfl (fun g_105 => ?_) (fun g_105 => ?_)
      ·
       have g_105_ := g_105
       try simp only [DZ] at g_105
       refine Wl.mv rfl rfl <| Wl.on' rfl rfl g_105_ <| Wl.mv rfl rfl <| Wl.on' rfl rfl g_105_ ?_
       refine Wl.y (y_lens Tryz.underlying9 (by omega) rfl) rfl ?_
       refine Wl.on' rfl rfl g_105_ ?_
       refine Wl.y (y_subI rfl rfl (by first | omega | (simp; done) | (simp; omega)) (by first | omega | (simp; done) | (simp; omega))) rfl ?_
       refine Wl.on' rfl rfl g_105_ <| Wl.y (y_eqli rfl rfl) rfl ?_
       refine Wl.y (y_pickT rfl g_105_ rfl) rfl ?_
       refine Wl.sg rfl rfl <| Wl.nil <| Wq.next hK_97 <| Wc.ret <| Wq.then_ret ?_
       refine ret1 rfl rfl ?_
       first | exact ⟨_, rfl, rfl, hb⟩ | exact ⟨_, rfl, bool_eq (by rw [hcc.2]; simp), hb⟩ | exact ⟨_, rfl, bool_eq (by rw [hcd.2]; simp), hb⟩
      have g_105_ := g_105
      try simp only [DZ] at g_105
      exact absurd g_105_ (by rw [hcd.1]; decide)
     have g_100_ := g_100
     try simp only [DZ] at g_100
     exact absurd g_100_ (by decide)
    have c2_96_ := c2_96
    try simp only [DZ] at c2_96
    have hk0 : ¬ 1000 < k := by have := c2_96; omega
    refine Wc.skip <| Wq.next hK_87 <| Wc.seq fun _ hK_113 => ?_
    obtain ⟨he0, hqe⟩ : e = 0 ∧ q = ⟨((m % 4 : Nat) : Int), ((s % 4 : Nat) : Int), if s = 3 then (k : Int) else 0, nodeA⟩ := by rcases hcase with h | h | h; (· omega); (· omega); (· exact h.2)
    refine Wc.region <| Wl.mv rfl rfl ?_
    refine Wl.y (y_eq (y_rem rfl rfl (by first | decide | omega)) (int_eq (show _ = ((m % 4 : Nat) : Int) by rfl))) rfl ?_
    refine Wl.mv rfl rfl ?_
    refine Wl.y (y_eq (y_rem rfl rfl (by first | decide | omega)) (int_eq (show _ = ((s % 4 : Nat) : Int) by rfl))) rfl ?_
    refine Wl.y (y_buildS (z := [(.int .i64 0), (str []), (.int .i64 0), (.int .i64 0), (str []), (.int .i64 0), (.int .i64 0), (.float .f64 0), (str []), (.slice none 0 0), (.int .i64 0), (str []), (.int .i64 0), (.int .i64 0), (.float .f64 0), (str []), (.slice none 0 0), (.int .i64 0), (.int .i64 0), (.slice none 0 0)]) (pl := [(0, 1), (1, 1), (2, 1), (3, 7), (10, 7), (17, 1), (18, 1), (19, 1)]) (cs := [_, _, _, _, _, _, _, _, _, _, _, _, _, _, _, _, _, _, _, _]) Tryz.underlying31 (by kernel_rfl) (by kernel_rfl) rfl rfl rfl) rfl ?_
    refine Wl.y (y_buildS (z := [(.int .i64 0), (.int .i64 0), (.int .i64 0), (.int .i64 0), (str []), (.int .i64 0), (.int .i64 0), (str []), (.int .i64 0), (.int .i64 0), (.float .f64 0), (str []), (.slice none 0 0), (.int .i64 0), (str []), (.int .i64 0), (.int .i64 0), (.float .f64 0), (str []), (.slice none 0 0), (.int .i64 0), (.int .i64 0), (.slice none 0 0)]) (pl := [(0, 1), (1, 1), (2, 1), (3, 20)]) (cs := [_, _, _, _, _, _, _, _, _, _, _, _, _, _, _, _, _, _, _, _, _, _, _]) Tryz.underlying33 (by kernel_rfl) (by kernel_rfl) rfl rfl rfl) rfl ?_
    refine Wl.allocN (z := (.agg #[(.int .i64 0), (.int .i64 0), (.int .i64 0), (.int .i64 0), (str []), (.int .i64 0), (.int .i64 0), (str []), (.int .i64 0), (.int .i64 0), (.float .f64 0), (str []), (.slice none 0 0), (.int .i64 0), (str []), (.int .i64 0), (.int .i64 0), (.float .f64 0), (str []), (.slice none 0 0), (.int .i64 0), (.int .i64 0), (.slice none 0 0)])) (by kernel_rfl) rfl ?_
    rintro g_o79 w_o79 hg_o79 hn_o79 hs_o79
    have hz_o79 := hs_o79.size
    have hb := hb.trans (hs_o79.mono hb.size)
    have hX := hX_hb.below hb
    try have hz := PAt.below hz hs_o79
    try have hB_o34 := Blk.below hB_o34 hs_o79
    have hB_o79 := hn_o79
    have hl_o79 := hB_o79.lt
    refine Wl.storeS (by kernel_rfl) rfl rfl hB_o79 rfl rfl ?_
    rintro w_s1 hn_s1 hg_s1
    have hz_s1 := hg_s1.size
    have hb := below_blk hb hg_s1 hb.size (by omega)
    have hX := hX_hb.below hb
    try have hz := PAt.kp hz hg_s1 (fun h_ => by have h2_ := hz_S _ h_; first | omega | (rcases h2_ with h3_ | h3_; (have h4_ := hS _ h3_; omega); omega))
    try have hB_o34 := hB_o34.over hg_s1 (by omega)
    have hB_o79 := hn_s1
    refine Wl.nil <| Wq.next hK_113 <| Wc.seq fun _ hK_121 => Wc.seq fun _ hK_122 => Wc.region <| Wl.mv rfl rfl <| Wl.y (y_eqli rfl rfl) rfl <| Wl.nil <| Wq.next hK_122 ?_
    refine Wc.meet (X := Int) (fun kk => [(7, .bool true), (13, .pointer (some ⟨g_o34, 0, none⟩)), (15, .int .i64 e), (16, .pointer (some ⟨g_o79, 0, none⟩))]) (fun kk wr => kk = (if s = 3 then (k : Int) else 0) ∧ Below w.heap.size w wr ∧ Blk wr g_o34 33 (qcells q.mode q.sel q.kk z) ∧ Blk wr g_o79 33 (qcells ((m % 4 : Nat) : Int) ((s % 4 : Nat) : Int) kk zA) ∧ PAt wr Sz q.pat z.cells) (fun _ hM_125 => ?_) ?_
    ·
     refine Wc.cond rfl (fun c3_126 => ?_) (fun c3_126 => ?_)
     ·
      have c3_126_ := c3_126
      try simp only [DZ] at c3_126
      have hs3 : s = 3 := by have := c3_126; omega
      have hkk : (if s = 3 then (k : Int) else 0) = (k : Int) := if_pos hs3
      refine Wc.region <| Wl.mv rfl rfl ?_
      refine Wl.y (y_fieldAddr (fa33_2PlH _) rfl) rfl ?_
      refine Wl.storeB one3PlH rfl rfl rfl hB_o79 (by show 2 < 23; decide) ?_
      rintro w_s2 hn_s2 hg_s2
      have hz_s2 := hg_s2.size
      have hb := below_blk hb hg_s2 hb.size (by omega)
      have hX := hX_hb.below hb
      try have hz := PAt.kp hz hg_s2 (fun h_ => by have h2_ := hz_S _ h_; first | omega | (rcases h2_ with h3_ | h3_; (have h4_ := hS _ h3_; omega); omega))
      try have hB_o34 := hB_o34.over hg_s2 (by omega)
      have hB_o79 := hn_s2
      refine Wl.nil ?_
      refine Wq.meet hM_125 (if s = 3 then (k : Int) else 0) (Sub.cons' rfl (by first | rfl) (Sub.cons' rfl (by first | rfl) (Sub.cons' rfl (by first | rfl) (Sub.cons' rfl (by first | rfl) (Sub.nil))))) ?_
      exact ⟨rfl, hb, hB_o34, by rw [hkk]; exact hB_o79, hz⟩
     have c3_126_ := c3_126
     try simp only [DZ] at c3_126
     have hs3 : s ≠ 3 := by have := c3_126; omega
     have hkk : (if s = 3 then (k : Int) else 0) = 0 := if_neg hs3
     refine Wc.skip ?_
     refine Wq.meet hM_125 (if s = 3 then (k : Int) else 0) (Sub.cons' rfl (by first | rfl) (Sub.cons' rfl (by first | rfl) (Sub.cons' rfl (by first | rfl) (Sub.cons' rfl (by first | rfl) (Sub.nil))))) ?_
     exact ⟨rfl, hb, hB_o34, by rw [hkk]; exact hB_o79, hz⟩
    rintro kk wr hI_129
    replace hI_129 : kk = (if s = 3 then (k : Int) else 0) ∧ Below w.heap.size w wr ∧ Blk wr g_o34 33 (qcells q.mode q.sel q.kk z) ∧ Blk wr g_o79 33 (qcells ((m % 4 : Nat) : Int) ((s % 4 : Nat) : Int) kk zA) ∧ PAt wr Sz q.pat z.cells := hI_129
    obtain ⟨hkv, hb, hB_o34, hB_o79, hz⟩ := hI_129
    show Wq _ _ _ _ [(7, .bool true), (13, .pointer (some ⟨g_o34, 0, none⟩)), (15, .int .i64 e), (16, .pointer (some ⟨g_o79, 0, none⟩))] _
    have hX := hX_hb.below hb
    try have hzhb_c3 := hb.size
    have hlhB_o34_c3 := hB_o34.lt
    have hlhB_o79_c3 := hB_o79.lt
    refine Wq.next hK_121 <| Wc.seq fun _ hK_130 => Wc.region <| Wl.mv rfl rfl <| Wl.mv rfl rfl ?_
    refine Wl.guardT rfl rfl rfl (fun g_133 => ?_) (fun g_133 => ?_)
    ·
     have g_133_ := g_133
     try simp only [DZ] at g_133
     refine Wl.mv rfl rfl <| Wl.on' rfl rfl g_133_ <| Wl.y (y_eqli rfl rfl) rfl ?_
     refine Wl.y (y_pickT rfl g_133_ rfl) rfl ?_
     refine Wl.mv rfl rfl ?_
     refine Wl.guardT rfl rfl rfl (fun g_138 => ?_) (fun g_138 => ?_)
     ·
      have g_138_ := g_138
      try simp only [DZ] at g_138
      refine Wl.l (l_loadS Tryz.underlying33 (by kernel_rfl) rfl (by exact fun j u hu => hB_o34.at hu)) rfl ?_
      refine Wl.on' rfl rfl g_138_ ?_
      refine Wl.l (l_loadS Tryz.underlying33 (by kernel_rfl) rfl (by exact fun j u hu => hB_o79.at hu)) rfl ?_
      refine Wl.on' rfl rfl g_138_ ?_
      rw [hqe] at hz
      rw [← hkv] at hqe
      refine Wl.call txt14PlH rfl rfl ((show Ret _ _ _ _ _ by rw [hqe]; exact SameQ_r ((m % 4 : Nat) : Int) ((s % 4 : Nat) : Int) kk nodeA z zA Sz _ _ nodeA_ok hz (nodeA_at _))) rfl ?_
      rintro _ w_k3 ⟨rfl, hs_k3⟩
      have hz_k3 := hs_k3.size
      have hb := hb.trans (hs_k3.mono hb.size)
      have hX := hX_hb.below hb
      try have hz := PAt.below hz hs_k3
      refine Wl.y (y_pickT rfl g_138_ rfl) rfl ?_
      refine Wl.sg rfl rfl <| Wl.nil <| Wq.next hK_130 <| Wc.ret ?_
      refine ret1 rfl rfl ?_
      first | exact ⟨_, rfl, rfl, hb⟩ | exact ⟨_, rfl, bool_eq (by rw [hcc.2]; simp), hb⟩ | exact ⟨_, rfl, bool_eq (by rw [hcd.2]; simp), hb⟩
     have g_138_ := g_138
     try simp only [DZ] at g_138
     exact absurd g_138_ (by rw [he0]; decide)
    have g_133_ := g_133
    try simp only [DZ] at g_133
    exact absurd g_133_ (by decide)
   have g_92_ := g_92
   try simp only [DZ] at g_92
   have hs3 : s ≠ 3 := by have := g_92; omega
   refine Wl.off' rfl rfl g_92_ rfl rfl ?_
   refine Wl.y (y_pickF rfl g_92_ rfl) rfl ?_
   refine Wl.nil <| Wq.next hK_88 ?_
   refine Wc.condF rfl rfl ?_
   refine Wc.skip <| Wq.next hK_87 <| Wc.seq fun _ hK_145 => ?_
   obtain ⟨he0, hqe⟩ : e = 0 ∧ q = ⟨((m % 4 : Nat) : Int), ((s % 4 : Nat) : Int), if s = 3 then (k : Int) else 0, nodeA⟩ := by rcases hcase with h | h | h; (· omega); (· omega); (· exact h.2)
   refine Wc.region <| Wl.mv rfl rfl ?_
   refine Wl.y (y_eq (y_rem rfl rfl (by first | decide | omega)) (int_eq (show _ = ((m % 4 : Nat) : Int) by rfl))) rfl ?_
   refine Wl.mv rfl rfl ?_
   refine Wl.y (y_eq (y_rem rfl rfl (by first | decide | omega)) (int_eq (show _ = ((s % 4 : Nat) : Int) by rfl))) rfl ?_
   refine Wl.y (y_buildS (z := [(.int .i64 0), (str []), (.int .i64 0), (.int .i64 0), (str []), (.int .i64 0), (.int .i64 0), (.float .f64 0), (str []), (.slice none 0 0), (.int .i64 0), (str []), (.int .i64 0), (.int .i64 0), (.float .f64 0), (str []), (.slice none 0 0), (.int .i64 0), (.int .i64 0), (.slice none 0 0)]) (pl := [(0, 1), (1, 1), (2, 1), (3, 7), (10, 7), (17, 1), (18, 1), (19, 1)]) (cs := [_, _, _, _, _, _, _, _, _, _, _, _, _, _, _, _, _, _, _, _]) Tryz.underlying31 (by kernel_rfl) (by kernel_rfl) rfl rfl rfl) rfl ?_
   refine Wl.y (y_buildS (z := [(.int .i64 0), (.int .i64 0), (.int .i64 0), (.int .i64 0), (str []), (.int .i64 0), (.int .i64 0), (str []), (.int .i64 0), (.int .i64 0), (.float .f64 0), (str []), (.slice none 0 0), (.int .i64 0), (str []), (.int .i64 0), (.int .i64 0), (.float .f64 0), (str []), (.slice none 0 0), (.int .i64 0), (.int .i64 0), (.slice none 0 0)]) (pl := [(0, 1), (1, 1), (2, 1), (3, 20)]) (cs := [_, _, _, _, _, _, _, _, _, _, _, _, _, _, _, _, _, _, _, _, _, _, _]) Tryz.underlying33 (by kernel_rfl) (by kernel_rfl) rfl rfl rfl) rfl ?_
   refine Wl.allocN (z := (.agg #[(.int .i64 0), (.int .i64 0), (.int .i64 0), (.int .i64 0), (str []), (.int .i64 0), (.int .i64 0), (str []), (.int .i64 0), (.int .i64 0), (.float .f64 0), (str []), (.slice none 0 0), (.int .i64 0), (str []), (.int .i64 0), (.int .i64 0), (.float .f64 0), (str []), (.slice none 0 0), (.int .i64 0), (.int .i64 0), (.slice none 0 0)])) (by kernel_rfl) rfl ?_
   rintro g_o79 w_o79 hg_o79 hn_o79 hs_o79
   have hz_o79 := hs_o79.size
   have hb := hb.trans (hs_o79.mono hb.size)
   have hX := hX_hb.below hb
   try have hz := PAt.below hz hs_o79
   try have hB_o34 := Blk.below hB_o34 hs_o79
   have hB_o79 := hn_o79
   have hl_o79 := hB_o79.lt
   refine Wl.storeS (by kernel_rfl) rfl rfl hB_o79 rfl rfl ?_
   rintro w_s1 hn_s1 hg_s1
   have hz_s1 := hg_s1.size
   have hb := below_blk hb hg_s1 hb.size (by omega)
   have hX := hX_hb.below hb
   try have hz := PAt.kp hz hg_s1 (fun h_ => by have h2_ := hz_S _ h_; first | omega | (rcases h2_ with h3_ | h3_; (have h4_ := hS _ h3_; omega); omega))
   try have hB_o34 := hB_o34.over hg_s1 (by omega)
   have hB_o79 := hn_s1
   refine Wl.nil <| Wq.next hK_145 <| Wc.seq fun _ hK_153 => Wc.seq fun _ hK_154 => Wc.region <| Wl.mv rfl rfl <| Wl.y (y_eqli rfl rfl) rfl <| Wl.nil <| Wq.next hK_154 ?_
   refine Wc.meet (X := Int) (fun kk => [(7, .bool true), (13, .pointer (some ⟨g_o34, 0, none⟩)), (15, .int .i64 e), (16, .pointer (some ⟨g_o79, 0, none⟩))]) (fun kk wr => kk = (if s = 3 then (k : Int) else 0) ∧ Below w.heap.size w wr ∧ Blk wr g_o34 33 (qcells q.mode q.sel q.kk z) ∧ Blk wr g_o79 33 (qcells ((m % 4 : Nat) : Int) ((s % 4 : Nat) : Int) kk zA) ∧ PAt wr Sz q.pat z.cells) (fun _ hM_157 => ?_) ?_
   ·
    refine Wc.cond rfl (fun c3_158 => ?_) (fun c3_158 => ?_)
    ·
     have c3_158_ := c3_158
     try simp only [DZ] at c3_158
     have hs3 : s = 3 := by have := c3_158; omega
     have hkk : (if s = 3 then (k : Int) else 0) = (k : Int) := if_pos hs3
     refine Wc.region <| Wl.mv rfl rfl ?_
     refine Wl.y (y_fieldAddr (fa33_2PlH _) rfl) rfl ?_
     refine Wl.storeB one3PlH rfl rfl rfl hB_o79 (by show 2 < 23; decide) ?_
     rintro w_s2 hn_s2 hg_s2
     have hz_s2 := hg_s2.size
     have hb := below_blk hb hg_s2 hb.size (by omega)
     have hX := hX_hb.below hb
     try have hz := PAt.kp hz hg_s2 (fun h_ => by have h2_ := hz_S _ h_; first | omega | (rcases h2_ with h3_ | h3_; (have h4_ := hS _ h3_; omega); omega))
     try have hB_o34 := hB_o34.over hg_s2 (by omega)
     have hB_o79 := hn_s2
     refine Wl.nil ?_
     refine Wq.meet hM_157 (if s = 3 then (k : Int) else 0) (Sub.cons' rfl (by first | rfl) (Sub.cons' rfl (by first | rfl) (Sub.cons' rfl (by first | rfl) (Sub.cons' rfl (by first | rfl) (Sub.nil))))) ?_
     exact ⟨rfl, hb, hB_o34, by rw [hkk]; exact hB_o79, hz⟩
    have c3_158_ := c3_158
    try simp only [DZ] at c3_158
    have hs3 : s ≠ 3 := by have := c3_158; omega
    have hkk : (if s = 3 then (k : Int) else 0) = 0 := if_neg hs3
    refine Wc.skip ?_
    refine Wq.meet hM_157 (if s = 3 then (k : Int) else 0) (Sub.cons' rfl (by first | rfl) (Sub.cons' rfl (by first | rfl) (Sub.cons' rfl (by first | rfl) (Sub.cons' rfl (by first | rfl) (Sub.nil))))) ?_
    exact ⟨rfl, hb, hB_o34, by rw [hkk]; exact hB_o79, hz⟩
   rintro kk wr hI_161
   replace hI_161 : kk = (if s = 3 then (k : Int) else 0) ∧ Below w.heap.size w wr ∧ Blk wr g_o34 33 (qcells q.mode q.sel q.kk z) ∧ Blk wr g_o79 33 (qcells ((m % 4 : Nat) : Int) ((s % 4 : Nat) : Int) kk zA) ∧ PAt wr Sz q.pat z.cells := hI_161
   obtain ⟨hkv, hb, hB_o34, hB_o79, hz⟩ := hI_161
   show Wq _ _ _ _ [(7, .bool true), (13, .pointer (some ⟨g_o34, 0, none⟩)), (15, .int .i64 e), (16, .pointer (some ⟨g_o79, 0, none⟩))] _
   have hX := hX_hb.below hb
   try have hzhb_c3 := hb.size
   have hlhB_o34_c3 := hB_o34.lt
   have hlhB_o79_c3 := hB_o79.lt
   refine Wq.next hK_153 <| Wc.seq fun _ hK_162 => Wc.region <| Wl.mv rfl rfl <| Wl.mv rfl rfl ?_
   refine Wl.guardT rfl rfl rfl (fun g_165 => ?_) (fun g_165 => ?_)
   ·
    have g_165_ := g_165
    try simp only [DZ] at g_165
    refine Wl.mv rfl rfl <| Wl.on' rfl rfl g_165_ <| Wl.y (y_eqli rfl rfl) rfl ?_
    refine Wl.y (y_pickT rfl g_165_ rfl) rfl ?_
    refine Wl.mv rfl rfl ?_
    refine Wl.guardT rfl rfl rfl (fun g_170 => ?_) (fun g_170 => ?_)
    ·
     have g_170_ := g_170
     try simp only [DZ] at g_170
     refine Wl.l (l_loadS Tryz.underlying33 (by kernel_rfl) rfl (by exact fun j u hu => hB_o34.at hu)) rfl ?_
     refine Wl.on' rfl rfl g_170_ ?_
     refine Wl.l (l_loadS Tryz.underlying33 (by kernel_rfl) rfl (by exact fun j u hu => hB_o79.at hu)) rfl ?_
     refine Wl.on' rfl rfl g_170_ ?_
     rw [hqe] at hz
     rw [← hkv] at hqe
     refine Wl.call txt14PlH rfl rfl ((show Ret _ _ _ _ _ by rw [hqe]; exact SameQ_r ((m % 4 : Nat) : Int) ((s % 4 : Nat) : Int) kk nodeA z zA Sz _ _ nodeA_ok hz (nodeA_at _))) rfl ?_
     rintro _ w_k3 ⟨rfl, hs_k3⟩
     have hz_k3 := hs_k3.size
     have hb := hb.trans (hs_k3.mono hb.size)
     have hX := hX_hb.below hb
     try have hz := PAt.below hz hs_k3
     refine Wl.y (y_pickT rfl g_170_ rfl) rfl ?_
     refine Wl.sg rfl rfl <| Wl.nil <| Wq.next hK_162 <| Wc.ret ?_
     refine ret1 rfl rfl ?_
     first | exact ⟨_, rfl, rfl, hb⟩ | exact ⟨_, rfl, bool_eq (by rw [hcc.2]; simp), hb⟩ | exact ⟨_, rfl, bool_eq (by rw [hcd.2]; simp), hb⟩
    have g_170_ := g_170
    try simp only [DZ] at g_170
    exact absurd g_170_ (by rw [he0]; decide)
   have g_165_ := g_165
   try simp only [DZ] at g_165
   exact absurd g_165_ (by decide)
  have g_66_ := g_66
  try simp only [DZ] at g_66
  have hs3 : s ≠ 3 := by have := g_66; omega
  refine Wl.off' rfl rfl g_66_ rfl rfl ?_
  refine Wl.y (y_pickF rfl g_66_ rfl) rfl ?_
  refine Wl.nil <| Wq.next hK_62 ?_
  refine Wc.condF rfl rfl ?_
  refine Wc.skip <| Wq.next hK_61 <| Wc.seq fun _ hK_177 => Wc.seq fun _ hK_178 => Wc.region <| Wl.mv rfl rfl <| Wl.y (y_eqli rfl rfl) rfl <| Wl.mv rfl rfl ?_
  refine Wl.guardT rfl rfl rfl (fun g_182 => ?_) (fun g_182 => ?_)
  ·
   have g_182_ := g_182
   try simp only [DZ] at g_182
   have hs3 : s = 3 := by have := g_182; omega
   refine Wl.mv rfl rfl <| Wl.on' rfl rfl g_182_ <| Wl.y (y_gtri rfl rfl) rfl ?_
   refine Wl.y (y_pickT rfl g_182_ rfl) rfl ?_
   refine Wl.nil <| Wq.next hK_178 ?_
   refine Wc.cond rfl (fun c2_186 => ?_) (fun c2_186 => ?_)
   ·
    have c2_186_ := c2_186
    try simp only [DZ] at c2_186
    have hcd : e = 6 ∧ at_ = (tx.length : Int) - 4 := by have := c2_186; rcases hcase with h | h | h <;> omega
    refine Wc.seq fun _ hK_187 => Wc.region <| Wl.mv rfl rfl <| Wl.mv rfl rfl ?_
    refine Wl.guardT rfl rfl rfl (fun g_190 => ?_) (fun g_190 => ?_)
    ·
     have g_190_ := g_190
     try simp only [DZ] at g_190
     refine Wl.mv rfl rfl <| Wl.on' rfl rfl g_190_ <| Wl.y (y_eqli rfl rfl) rfl ?_
     refine Wl.y (y_pickT rfl g_190_ rfl) rfl ?_
     refine Wl.mv rfl rfl ?_
     refine Wl.guardT rfl rfl rfl (fun g_195 => ?_) (fun g_195 => ?_)
     ·
      have g_195_ := g_195
      try simp only [DZ] at g_195
      refine Wl.mv rfl rfl <| Wl.on' rfl rfl g_195_ <| Wl.mv rfl rfl <| Wl.on' rfl rfl g_195_ ?_
      refine Wl.y (y_lens Tryz.underlying9 (by omega) rfl) rfl ?_
      refine Wl.on' rfl rfl g_195_ ?_
      refine Wl.y (y_subI rfl rfl (by first | omega | (simp; done) | (simp; omega)) (by first | omega | (simp; done) | (simp; omega))) rfl ?_
      refine Wl.on' rfl rfl g_195_ <| Wl.y (y_eqli rfl rfl) rfl ?_
      refine Wl.y (y_pickT rfl g_195_ rfl) rfl ?_
      refine Wl.sg rfl rfl <| Wl.nil <| Wq.next hK_187 <| Wc.ret <| Wq.then_ret ?_
      refine ret1 rfl rfl ?_
      first | exact ⟨_, rfl, rfl, hb⟩ | exact ⟨_, rfl, bool_eq (by rw [hcc.2]; simp), hb⟩ | exact ⟨_, rfl, bool_eq (by rw [hcd.2]; simp), hb⟩
     have g_195_ := g_195
     try simp only [DZ] at g_195
     exact absurd g_195_ (by rw [hcd.1]; decide)
    have g_190_ := g_190
    try simp only [DZ] at g_190
    exact absurd g_190_ (by decide)
   have c2_186_ := c2_186
   try simp only [DZ] at c2_186
   have hk0 : ¬ 1000 < k := by have := c2_186; omega
   refine Wc.skip <| Wq.next hK_177 <| Wc.seq fun _ hK_203 => ?_
   obtain ⟨he0, hqe⟩ : e = 0 ∧ q = ⟨((m % 4 : Nat) : Int), ((s % 4 : Nat) : Int), if s = 3 then (k : Int) else 0, nodeA⟩ := by rcases hcase with h | h | h; (· omega); (· omega); (· exact h.2)
   refine Wc.region <| Wl.mv rfl rfl ?_
   refine Wl.y (y_eq (y_rem rfl rfl (by first | decide | omega)) (int_eq (show _ = ((m % 4 : Nat) : Int) by rfl))) rfl ?_
   refine Wl.mv rfl rfl ?_
   refine Wl.y (y_eq (y_rem rfl rfl (by first | decide | omega)) (int_eq (show _ = ((s % 4 : Nat) : Int) by rfl))) rfl ?_
   refine Wl.y (y_buildS (z := [(.int .i64 0), (str []), (.int .i64 0), (.int .i64 0), (str []), (.int .i64 0), (.int .i64 0), (.float .f64 0), (str []), (.slice none 0 0), (.int .i64 0), (str []), (.int .i64 0), (.int .i64 0), (.float .f64 0), (str []), (.slice none 0 0), (.int .i64 0), (.int .i64 0), (.slice none 0 0)]) (pl := [(0, 1), (1, 1), (2, 1), (3, 7), (10, 7), (17, 1), (18, 1), (19, 1)]) (cs := [_, _, _, _, _, _, _, _, _, _, _, _, _, _, _, _, _, _, _, _]) Tryz.underlying31 (by kernel_rfl) (by kernel_rfl) rfl rfl rfl) rfl ?_
   refine Wl.y (y_buildS (z := [(.int .i64 0), (.int .i64 0), (.int .i64 0), (.int .i64 0), (str []), (.int .i64 0), (.int .i64 0), (str []), (.int .i64 0), (.int .i64 0), (.float .f64 0), (str []), (.slice none 0 0), (.int .i64 0), (str []), (.int .i64 0), (.int .i64 0), (.float .f64 0), (str []), (.slice none 0 0), (.int .i64 0), (.int .i64 0), (.slice none 0 0)]) (pl := [(0, 1), (1, 1), (2, 1), (3, 20)]) (cs := [_, _, _, _, _, _, _, _, _, _, _, _, _, _, _, _, _, _, _, _, _, _, _]) Tryz.underlying33 (by kernel_rfl) (by kernel_rfl) rfl rfl rfl) rfl ?_
   refine Wl.allocN (z := (.agg #[(.int .i64 0), (.int .i64 0), (.int .i64 0), (.int .i64 0), (str []), (.int .i64 0), (.int .i64 0), (str []), (.int .i64 0), (.int .i64 0), (.float .f64 0), (str []), (.slice none 0 0), (.int .i64 0), (str []), (.int .i64 0), (.int .i64 0), (.float .f64 0), (str []), (.slice none 0 0), (.int .i64 0), (.int .i64 0), (.slice none 0 0)])) (by kernel_rfl) rfl ?_
   rintro g_o79 w_o79 hg_o79 hn_o79 hs_o79
   have hz_o79 := hs_o79.size
   have hb := hb.trans (hs_o79.mono hb.size)
   have hX := hX_hb.below hb
   try have hz := PAt.below hz hs_o79
   try have hB_o34 := Blk.below hB_o34 hs_o79
   have hB_o79 := hn_o79
   have hl_o79 := hB_o79.lt
   refine Wl.storeS (by kernel_rfl) rfl rfl hB_o79 rfl rfl ?_
   rintro w_s1 hn_s1 hg_s1
   have hz_s1 := hg_s1.size
   have hb := below_blk hb hg_s1 hb.size (by omega)
   have hX := hX_hb.below hb
   try have hz := PAt.kp hz hg_s1 (fun h_ => by have h2_ := hz_S _ h_; first | omega | (rcases h2_ with h3_ | h3_; (have h4_ := hS _ h3_; omega); omega))
   try have hB_o34 := hB_o34.over hg_s1 (by omega)
   have hB_o79 := hn_s1
   refine Wl.nil <| Wq.next hK_203 <| Wc.seq fun _ hK_211 => Wc.seq fun _ hK_212 => Wc.region <| Wl.mv rfl rfl <| Wl.y (y_eqli rfl rfl) rfl <| Wl.nil <| Wq.next hK_212 ?_
   refine Wc.meet (X := Int) (fun kk => [(7, .bool true), (13, .pointer (some ⟨g_o34, 0, none⟩)), (15, .int .i64 e), (16, .pointer (some ⟨g_o79, 0, none⟩))]) (fun kk wr => kk = (if s = 3 then (k : Int) else 0) ∧ Below w.heap.size w wr ∧ Blk wr g_o34 33 (qcells q.mode q.sel q.kk z) ∧ Blk wr g_o79 33 (qcells ((m % 4 : Nat) : Int) ((s % 4 : Nat) : Int) kk zA) ∧ PAt wr Sz q.pat z.cells) (fun _ hM_215 => ?_) ?_
   ·
    refine Wc.cond rfl (fun c3_216 => ?_) (fun c3_216 => ?_)
    ·
     have c3_216_ := c3_216
     try simp only [DZ] at c3_216
     have hs3 : s = 3 := by have := c3_216; omega
     have hkk : (if s = 3 then (k : Int) else 0) = (k : Int) := if_pos hs3
     refine Wc.region <| Wl.mv rfl rfl ?_
     refine Wl.y (y_fieldAddr (fa33_2PlH _) rfl) rfl ?_
     refine Wl.storeB one3PlH rfl rfl rfl hB_o79 (by show 2 < 23; decide) ?_
     rintro w_s2 hn_s2 hg_s2
     have hz_s2 := hg_s2.size
     have hb := below_blk hb hg_s2 hb.size (by omega)
     have hX := hX_hb.below hb
     try have hz := PAt.kp hz hg_s2 (fun h_ => by have h2_ := hz_S _ h_; first | omega | (rcases h2_ with h3_ | h3_; (have h4_ := hS _ h3_; omega); omega))
     try have hB_o34 := hB_o34.over hg_s2 (by omega)
     have hB_o79 := hn_s2
     refine Wl.nil ?_
     refine Wq.meet hM_215 (if s = 3 then (k : Int) else 0) (Sub.cons' rfl (by first | rfl) (Sub.cons' rfl (by first | rfl) (Sub.cons' rfl (by first | rfl) (Sub.cons' rfl (by first | rfl) (Sub.nil))))) ?_
     exact ⟨rfl, hb, hB_o34, by rw [hkk]; exact hB_o79, hz⟩
    have c3_216_ := c3_216
    try simp only [DZ] at c3_216
    have hs3 : s ≠ 3 := by have := c3_216; omega
    have hkk : (if s = 3 then (k : Int) else 0) = 0 := if_neg hs3
    refine Wc.skip ?_
    refine Wq.meet hM_215 (if s = 3 then (k : Int) else 0) (Sub.cons' rfl (by first | rfl) (Sub.cons' rfl (by first | rfl) (Sub.cons' rfl (by first | rfl) (Sub.cons' rfl (by first | rfl) (Sub.nil))))) ?_
    exact ⟨rfl, hb, hB_o34, by rw [hkk]; exact hB_o79, hz⟩
   rintro kk wr hI_219
   replace hI_219 : kk = (if s = 3 then (k : Int) else 0) ∧ Below w.heap.size w wr ∧ Blk wr g_o34 33 (qcells q.mode q.sel q.kk z) ∧ Blk wr g_o79 33 (qcells ((m % 4 : Nat) : Int) ((s % 4 : Nat) : Int) kk zA) ∧ PAt wr Sz q.pat z.cells := hI_219
   obtain ⟨hkv, hb, hB_o34, hB_o79, hz⟩ := hI_219
   show Wq _ _ _ _ [(7, .bool true), (13, .pointer (some ⟨g_o34, 0, none⟩)), (15, .int .i64 e), (16, .pointer (some ⟨g_o79, 0, none⟩))] _
   have hX := hX_hb.below hb
   try have hzhb_c3 := hb.size
   have hlhB_o34_c3 := hB_o34.lt
   have hlhB_o79_c3 := hB_o79.lt
   refine Wq.next hK_211 <| Wc.seq fun _ hK_220 => Wc.region <| Wl.mv rfl rfl <| Wl.mv rfl rfl ?_
   refine Wl.guardT rfl rfl rfl (fun g_223 => ?_) (fun g_223 => ?_)
   ·
    have g_223_ := g_223
    try simp only [DZ] at g_223
    refine Wl.mv rfl rfl <| Wl.on' rfl rfl g_223_ <| Wl.y (y_eqli rfl rfl) rfl ?_
    refine Wl.y (y_pickT rfl g_223_ rfl) rfl ?_
    refine Wl.mv rfl rfl ?_
    refine Wl.guardT rfl rfl rfl (fun g_228 => ?_) (fun g_228 => ?_)
    ·
     have g_228_ := g_228
     try simp only [DZ] at g_228
     refine Wl.l (l_loadS Tryz.underlying33 (by kernel_rfl) rfl (by exact fun j u hu => hB_o34.at hu)) rfl ?_
     refine Wl.on' rfl rfl g_228_ ?_
     refine Wl.l (l_loadS Tryz.underlying33 (by kernel_rfl) rfl (by exact fun j u hu => hB_o79.at hu)) rfl ?_
     refine Wl.on' rfl rfl g_228_ ?_
     rw [hqe] at hz
     rw [← hkv] at hqe
     refine Wl.call txt14PlH rfl rfl ((show Ret _ _ _ _ _ by rw [hqe]; exact SameQ_r ((m % 4 : Nat) : Int) ((s % 4 : Nat) : Int) kk nodeA z zA Sz _ _ nodeA_ok hz (nodeA_at _))) rfl ?_
     rintro _ w_k3 ⟨rfl, hs_k3⟩
     have hz_k3 := hs_k3.size
     have hb := hb.trans (hs_k3.mono hb.size)
     have hX := hX_hb.below hb
     try have hz := PAt.below hz hs_k3
     refine Wl.y (y_pickT rfl g_228_ rfl) rfl ?_
     refine Wl.sg rfl rfl <| Wl.nil <| Wq.next hK_220 <| Wc.ret ?_
     refine ret1 rfl rfl ?_
     first | exact ⟨_, rfl, rfl, hb⟩ | exact ⟨_, rfl, bool_eq (by rw [hcc.2]; simp), hb⟩ | exact ⟨_, rfl, bool_eq (by rw [hcd.2]; simp), hb⟩
    have g_228_ := g_228
    try simp only [DZ] at g_228
    exact absurd g_228_ (by rw [he0]; decide)
   have g_223_ := g_223
   try simp only [DZ] at g_223
   exact absurd g_223_ (by decide)
  have g_182_ := g_182
  try simp only [DZ] at g_182
  have hs3 : s ≠ 3 := by have := g_182; omega
  refine Wl.off' rfl rfl g_182_ rfl rfl ?_
  refine Wl.y (y_pickF rfl g_182_ rfl) rfl ?_
  refine Wl.nil <| Wq.next hK_178 ?_
  refine Wc.condF rfl rfl ?_
  refine Wc.skip <| Wq.next hK_177 <| Wc.seq fun _ hK_235 => ?_
  obtain ⟨he0, hqe⟩ : e = 0 ∧ q = ⟨((m % 4 : Nat) : Int), ((s % 4 : Nat) : Int), if s = 3 then (k : Int) else 0, nodeA⟩ := by rcases hcase with h | h | h; (· omega); (· omega); (· exact h.2)
  refine Wc.region <| Wl.mv rfl rfl ?_
  refine Wl.y (y_eq (y_rem rfl rfl (by first | decide | omega)) (int_eq (show _ = ((m % 4 : Nat) : Int) by rfl))) rfl ?_
  refine Wl.mv rfl rfl ?_
  refine Wl.y (y_eq (y_rem rfl rfl (by first | decide | omega)) (int_eq (show _ = ((s % 4 : Nat) : Int) by rfl))) rfl ?_
  refine Wl.y (y_buildS (z := [(.int .i64 0), (str []), (.int .i64 0), (.int .i64 0), (str []), (.int .i64 0), (.int .i64 0), (.float .f64 0), (str []), (.slice none 0 0), (.int .i64 0), (str []), (.int .i64 0), (.int .i64 0), (.float .f64 0), (str []), (.slice none 0 0), (.int .i64 0), (.int .i64 0), (.slice none 0 0)]) (pl := [(0, 1), (1, 1), (2, 1), (3, 7), (10, 7), (17, 1), (18, 1), (19, 1)]) (cs := [_, _, _, _, _, _, _, _, _, _, _, _, _, _, _, _, _, _, _, _]) Tryz.underlying31 (by kernel_rfl) (by kernel_rfl) rfl rfl rfl) rfl ?_
  refine Wl.y (y_buildS (z := [(.int .i64 0), (.int .i64 0), (.int .i64 0), (.int .i64 0), (str []), (.int .i64 0), (.int .i64 0), (str []), (.int .i64 0), (.int .i64 0), (.float .f64 0), (str []), (.slice none 0 0), (.int .i64 0), (str []), (.int .i64 0), (.int .i64 0), (.float .f64 0), (str []), (.slice none 0 0), (.int .i64 0), (.int .i64 0), (.slice none 0 0)]) (pl := [(0, 1), (1, 1), (2, 1), (3, 20)]) (cs := [_, _, _, _, _, _, _, _, _, _, _, _, _, _, _, _, _, _, _, _, _, _, _]) Tryz.underlying33 (by kernel_rfl) (by kernel_rfl) rfl rfl rfl) rfl ?_
  refine Wl.allocN (z := (.agg #[(.int .i64 0), (.int .i64 0), (.int .i64 0), (.int .i64 0), (str []), (.int .i64 0), (.int .i64 0), (str []), (.int .i64 0), (.int .i64 0), (.float .f64 0), (str []), (.slice none 0 0), (.int .i64 0), (str []), (.int .i64 0), (.int .i64 0), (.float .f64 0), (str []), (.slice none 0 0), (.int .i64 0), (.int .i64 0), (.slice none 0 0)])) (by kernel_rfl) rfl ?_
  rintro g_o79 w_o79 hg_o79 hn_o79 hs_o79
  have hz_o79 := hs_o79.size
  have hb := hb.trans (hs_o79.mono hb.size)
  have hX := hX_hb.below hb
  try have hz := PAt.below hz hs_o79
  try have hB_o34 := Blk.below hB_o34 hs_o79
  have hB_o79 := hn_o79
  have hl_o79 := hB_o79.lt
  refine Wl.storeS (by kernel_rfl) rfl rfl hB_o79 rfl rfl ?_
  rintro w_s1 hn_s1 hg_s1
  have hz_s1 := hg_s1.size
  have hb := below_blk hb hg_s1 hb.size (by omega)
  have hX := hX_hb.below hb
  try have hz := PAt.kp hz hg_s1 (fun h_ => by have h2_ := hz_S _ h_; first | omega | (rcases h2_ with h3_ | h3_; (have h4_ := hS _ h3_; omega); omega))
  try have hB_o34 := hB_o34.over hg_s1 (by omega)
  have hB_o79 := hn_s1
  refine Wl.nil <| Wq.next hK_235 <| Wc.seq fun _ hK_243 => Wc.seq fun _ hK_244 => Wc.region <| Wl.mv rfl rfl <| Wl.y (y_eqli rfl rfl) rfl <| Wl.nil <| Wq.next hK_244 ?_
  refine Wc.meet (X := Int) (fun kk => [(7, .bool true), (13, .pointer (some ⟨g_o34, 0, none⟩)), (15, .int .i64 e), (16, .pointer (some ⟨g_o79, 0, none⟩))]) (fun kk wr => kk = (if s = 3 then (k : Int) else 0) ∧ Below w.heap.size w wr ∧ Blk wr g_o34 33 (qcells q.mode q.sel q.kk z) ∧ Blk wr g_o79 33 (qcells ((m % 4 : Nat) : Int) ((s % 4 : Nat) : Int) kk zA) ∧ PAt wr Sz q.pat z.cells) (fun _ hM_247 => ?_) ?_
  ·
   refine Wc.cond rfl (fun c3_248 => ?_) (fun c3_248 => ?_)
   ·
    have c3_248_ := c3_248
    try simp only [DZ] at c3_248
    have hs3 : s = 3 := by have := c3_248; omega
    have hkk : (if s = 3 then (k : Int) else 0) = (k : Int) := if_pos hs3
    refine Wc.region <| Wl.mv rfl rfl ?_
    refine Wl.y (y_fieldAddr (fa33_2PlH _) rfl) rfl ?_
    refine Wl.storeB one3PlH rfl rfl rfl hB_o79 (by show 2 < 23; decide) ?_
    rintro w_s2 hn_s2 hg_s2
    have hz_s2 := hg_s2.size
    have hb := below_blk hb hg_s2 hb.size (by omega)
    have hX := hX_hb.below hb
    try have hz := PAt.kp hz hg_s2 (fun h_ => by have h2_ := hz_S _ h_; first | omega | (rcases h2_ with h3_ | h3_; (have h4_ := hS _ h3_; omega); omega))
    try have hB_o34 := hB_o34.over hg_s2 (by omega)
    have hB_o79 := hn_s2
    refine Wl.nil ?_
    refine Wq.meet hM_247 (if s = 3 then (k : Int) else 0) (Sub.cons' rfl (by first | rfl) (Sub.cons' rfl (by first | rfl) (Sub.cons' rfl (by first | rfl) (Sub.cons' rfl (by first | rfl) (Sub.nil))))) ?_
    exact ⟨rfl, hb, hB_o34, by rw [hkk]; exact hB_o79, hz⟩
   have c3_248_ := c3_248
   try simp only [DZ] at c3_248
   have hs3 : s ≠ 3 := by have := c3_248; omega
   have hkk : (if s = 3 then (k : Int) else 0) = 0 := if_neg hs3
   refine Wc.skip ?_
   refine Wq.meet hM_247 (if s = 3 then (k : Int) else 0) (Sub.cons' rfl (by first | rfl) (Sub.cons' rfl (by first | rfl) (Sub.cons' rfl (by first | rfl) (Sub.cons' rfl (by first | rfl) (Sub.nil))))) ?_
   exact ⟨rfl, hb, hB_o34, by rw [hkk]; exact hB_o79, hz⟩
  rintro kk wr hI_251
  replace hI_251 : kk = (if s = 3 then (k : Int) else 0) ∧ Below w.heap.size w wr ∧ Blk wr g_o34 33 (qcells q.mode q.sel q.kk z) ∧ Blk wr g_o79 33 (qcells ((m % 4 : Nat) : Int) ((s % 4 : Nat) : Int) kk zA) ∧ PAt wr Sz q.pat z.cells := hI_251
  obtain ⟨hkv, hb, hB_o34, hB_o79, hz⟩ := hI_251
  show Wq _ _ _ _ [(7, .bool true), (13, .pointer (some ⟨g_o34, 0, none⟩)), (15, .int .i64 e), (16, .pointer (some ⟨g_o79, 0, none⟩))] _
  have hX := hX_hb.below hb
  try have hzhb_c3 := hb.size
  have hlhB_o34_c3 := hB_o34.lt
  have hlhB_o79_c3 := hB_o79.lt
  refine Wq.next hK_243 <| Wc.seq fun _ hK_252 => Wc.region <| Wl.mv rfl rfl <| Wl.mv rfl rfl ?_
  refine Wl.guardT rfl rfl rfl (fun g_255 => ?_) (fun g_255 => ?_)
  ·
   have g_255_ := g_255
   try simp only [DZ] at g_255
   refine Wl.mv rfl rfl <| Wl.on' rfl rfl g_255_ <| Wl.y (y_eqli rfl rfl) rfl ?_
   refine Wl.y (y_pickT rfl g_255_ rfl) rfl ?_
   refine Wl.mv rfl rfl ?_
   refine Wl.guardT rfl rfl rfl (fun g_260 => ?_) (fun g_260 => ?_)
   ·
    have g_260_ := g_260
    try simp only [DZ] at g_260
    refine Wl.l (l_loadS Tryz.underlying33 (by kernel_rfl) rfl (by exact fun j u hu => hB_o34.at hu)) rfl ?_
    refine Wl.on' rfl rfl g_260_ ?_
    refine Wl.l (l_loadS Tryz.underlying33 (by kernel_rfl) rfl (by exact fun j u hu => hB_o79.at hu)) rfl ?_
    refine Wl.on' rfl rfl g_260_ ?_
    rw [hqe] at hz
    rw [← hkv] at hqe
    refine Wl.call txt14PlH rfl rfl ((show Ret _ _ _ _ _ by rw [hqe]; exact SameQ_r ((m % 4 : Nat) : Int) ((s % 4 : Nat) : Int) kk nodeA z zA Sz _ _ nodeA_ok hz (nodeA_at _))) rfl ?_
    rintro _ w_k3 ⟨rfl, hs_k3⟩
    have hz_k3 := hs_k3.size
    have hb := hb.trans (hs_k3.mono hb.size)
    have hX := hX_hb.below hb
    try have hz := PAt.below hz hs_k3
    refine Wl.y (y_pickT rfl g_260_ rfl) rfl ?_
    refine Wl.sg rfl rfl <| Wl.nil <| Wq.next hK_252 <| Wc.ret ?_
    refine ret1 rfl rfl ?_
    first | exact ⟨_, rfl, rfl, hb⟩ | exact ⟨_, rfl, bool_eq (by rw [hcc.2]; simp), hb⟩ | exact ⟨_, rfl, bool_eq (by rw [hcd.2]; simp), hb⟩
   have g_260_ := g_260
   try simp only [DZ] at g_260
   exact absurd g_260_ (by rw [he0]; decide)
  have g_255_ := g_255
  try simp only [DZ] at g_255
  exact absurd g_255_ (by decide)
end Go.Proofs.YtjnabgddjogkbaaGreatDoor
