/- Plain: what lex tells. · lex.letters, slices.Contains, slices.IndexFunc, label.Word at letters, by the calculus. · lex.token, by the calculus. · lex.Lex, by the calculus. -/
import Derived.Test.YtjnabgddjogkbaaGreatDoorZG
import Derived.Test.YtjnabgddjogkbaaGreatDoorZA
namespace Go.Proofs.YtjnabgddjogkbaaGreatDoor
open Go.RowKit Go.Bw Go.Bw.Fl
set_option linter.unusedVariables false
set_option linter.unusedSimpArgs false
def keysV : List (List UInt8) := [[87, 65, 76, 75], [84, 82, 65, 73, 76], [65, 67, 89, 67, 76, 73, 67], [83, 73, 77, 80, 76, 69], [65, 76, 76], [65, 78, 89], [83, 72, 79, 82, 84, 69, 83, 84], [87, 72, 69, 82, 69], [79, 82], [65, 78, 68], [78, 79, 84], [73, 83], [110, 117, 108, 108], [116, 114, 117, 101], [102, 97, 108, 115, 101], [105, 110, 102], [110, 97, 110]]
def signsV : List (List UInt8) := [[60, 45, 91], [60, 126, 91], [93, 45, 62], [93, 126, 62], [60, 45, 62], [45, 91], [126, 91], [93, 45], [93, 126], [45, 62], [60, 45], [60, 126], [126, 62], [60, 61], [62, 61], [60, 62], [40], [41], [91], [93], [123], [125], [44], [58], [124], [38], [33], [37], [42], [43], [63], [61], [60], [62], [45], [126]]
/-- a letter, a digit or _ -/
def isLet (c : UInt8) : Bool := decide (c.toNat = 95 ∨ (48 ≤ c.toNat ∧ c.toNat ≤ 57) ∨ (97 ≤ bits .or .u8 (c.toNat : Int) 32 ∧ bits .or .u8 (c.toNat : Int) 32 ≤ 122))
def letN (s : List UInt8) : Nat := (s.takeWhile isLet).length
theorem isLet_low (c : UInt8) (h : isLet c = true) : c.toNat < 123 := by
  have key : ∀ n : Fin 256, isLet (UInt8.ofNat n.val) = true → n.val < 123 := by decide +kernel
  have h2 := key ⟨c.toNat, UInt8.toNat_lt c⟩
  rw [show UInt8.ofNat c.toNat = c from UInt8.ofNat_toNat] at h2
  exact h2 h
theorem letN_le (s : List UInt8) : letN s ≤ s.length := (List.takeWhile_sublist _).length_le
theorem letN_of {s : List UInt8} {i : Nat} (hi : i ≤ s.length) (h : ∀ j, j < i → isLet (s.getD j 0) = true) (hn : i < s.length → isLet (s.getD i 0) = false) : letN s = i := by
  induction s generalizing i with
  | nil => simp at hi; subst hi; rfl
  | cons c r ih =>
    cases i with
    | zero =>
      have := hn (by simp)
      simp [List.getD] at this
      simp [letN, List.takeWhile_cons, this]
    | succ i =>
      have h0 := h 0 (by omega)
      simp [List.getD] at h0
      have hih := ih (i := i) (by simpa using hi) (fun j hj => by have := h (j + 1) (by omega); simpa [List.getD] using this) (fun hlt => by have := hn (by simpa using hlt); simpa [List.getD] using this)
      unfold letN at hih ⊢
      rw [List.takeWhile_cons, h0]; simp [hih]
theorem letN_all (s : List UInt8) : ∀ c, c ∈ s.take (letN s) → isLet c = true := by
  intro c hc
  have e : s.take (letN s) = s.takeWhile isLet := (List.prefix_iff_eq_take.1 (List.takeWhile_prefix isLet)).symm
  rw [e] at hc
  exact List.all_eq_true.1 List.all_takeWhile c hc
/-- a word (of letters, digits and _) -/
def wordV (s : List UInt8) : Bool := decide (s ≠ [] ∧ s.length ≤ 40 ∧ ¬ (48 ≤ (s.getD 0 0).toNat ∧ (s.getD 0 0).toNat ≤ 57))
/-- how many bytes Read takes -/
noncomputable def rdN (s : List UInt8) : Nat := ((readV pf uqV s).map (·.2)).getD 0
/-- the token at the beginning: its kind, and how many bytes it has -/
noncomputable def tokV (s : List UInt8) : Nat × Nat :=
  if (s.getD 0 0).toNat = 39 ∨ (48 ≤ (s.getD 0 0).toNat ∧ (s.getD 0 0).toNat ≤ 57) then
    (if (s.getD 0 0).toNat = 39 ∧ 0 < rdN s then (4, rdN s)
     else if 0 < max (rdN s) (rdN (45 :: s) - 1) ∧ (s.getD 0 0).toNat ≠ 39 then (3, max (rdN s) (rdN (45 :: s) - 1)) else (0, 0))
  else if 0 < letN s then (if s.take (letN s) ∈ keysV then (2, letN s) else if wordV (s.take (letN s)) = true then (1, letN s) else (0, 0))
  else match signsV.find? (fun x => Lib.hasPrefix s x) with
    | some x => (5, x.length)
    | none => (0, 0)
structure Tok where
  k : Nat
  t : List UInt8
  a : Nat
def Tok.cells (t : Tok) : List Value := [.int .i64 (t.k : Int), str t.t, .int .i64 (t.a : Int)]
def Tok.enc (t : Tok) : Value := .agg t.cells.toArray
def blank (c : UInt8) : Bool := decide (c ∈ ([32, 9, 13, 10] : List UInt8))
/-- the tokens from a place on, or where none is -/
noncomputable def lexR (s : List UInt8) (at_ : Nat) : Nat → Except Nat (List Tok)
  | 0 => .ok []
  | f + 1 => match s with
    | [] => .ok []
    | c :: r => if blank c = true then lexR r (at_ + 1) f
      else if (tokV (c :: r)).1 = 0 ∨ (tokV (c :: r)).2 = 0 then .error at_
      else (lexR ((c :: r).drop (tokV (c :: r)).2) (at_ + (tokV (c :: r)).2) f).map fun l => ⟨(tokV (c :: r)).1, (c :: r).take (tokV (c :: r)).2, at_⟩ :: l
theorem rdN_le (s : List UInt8) : rdN s ≤ s.length := by
  unfold rdN
  cases h : readV pf uqV s with
  | none => simp
  | some r => have := readV_len (v := r.1) (n := r.2) h; simpa using this.2
theorem find_sign {s x : List UInt8} (h : signsV.find? (fun x => Lib.hasPrefix s x) = some x) : Lib.hasPrefix s x = true ∧ 0 < x.length ∧ x.length ≤ 3 := by
  refine ⟨List.find?_some h, ?_⟩
  have hm := List.mem_of_find?_eq_some h
  have key : ∀ y, y ∈ signsV → 0 < y.length ∧ y.length ≤ 3 := by decide
  exact key x hm
theorem tokV_len (s : List UInt8) (hs : s ≠ []) : (tokV s).2 ≤ s.length ∧ ((tokV s).1 = 0 ↔ (tokV s).2 = 0) ∧ (tokV s).1 ≤ 5 := by
  have h1 := rdN_le s
  have h2 := rdN_le (45 :: s)
  simp only [List.length_cons] at h2
  have h3 := letN_le s
  unfold tokV
  split
  · split
    · simp only; omega
    · split
      · simp only; omega
      · simp
  · split
    · split
      · simp only; omega
      · split
        · simp only; omega
        · simp
    · split
      · rename_i x hx
        obtain ⟨hp, h0, _⟩ := find_sign hx
        have := pre_len hp
        simp only; omega
      · simp
/-- with more fuel, the same -/
theorem lexR_fuel : ∀ (f g : Nat) (s : List UInt8) (i : Nat), s.length ≤ f → f ≤ g → lexR s i g = lexR s i f
  | 0, 0, s, i, _, _ => rfl
  | 0, g + 1, s, i, h, _ => by
    have : s = [] := List.length_eq_zero_iff.1 (by omega)
    subst this; rfl
  | f + 1, 0, s, i, _, h => by omega
  | f + 1, g + 1, s, i, hs, hg => by
    cases s with
    | nil => rfl
    | cons c r =>
      simp only [List.length_cons] at hs
      rw [lexR, lexR]
      split
      · exact lexR_fuel f g r (i + 1) (by omega) (by omega)
      · split
        · rfl
        · rw [lexR_fuel f g _ _ (by simp only [List.length_drop, List.length_cons]; omega) (by omega)]
/-- the whole -/
noncomputable def lexV (s : List UInt8) (i : Nat) : Except Nat (List Tok) := lexR s i s.length
theorem lexV_nil (i : Nat) : lexV [] i = .ok [] := rfl
theorem lexV_blank {c : UInt8} {r : List UInt8} (i : Nat) (h : blank c = true) : lexV (c :: r) i = lexV r (i + 1) := by
  unfold lexV
  rw [List.length_cons, lexR, if_pos h]
theorem lexV_bad {c : UInt8} {r : List UInt8} (i : Nat) (h : blank c = false) (h0 : (tokV (c :: r)).1 = 0) : lexV (c :: r) i = .error i := by
  unfold lexV
  rw [List.length_cons, lexR, if_neg (by rw [h]; simp), if_pos (.inl h0)]
theorem lexV_tok {c : UInt8} {r : List UInt8} (i : Nat) (h : blank c = false) (h0 : (tokV (c :: r)).1 ≠ 0) : lexV (c :: r) i = (lexV ((c :: r).drop (tokV (c :: r)).2) (i + (tokV (c :: r)).2)).map fun l => ⟨(tokV (c :: r)).1, (c :: r).take (tokV (c :: r)).2, i⟩ :: l := by
  have hl := tokV_len (c :: r) (by simp)
  unfold lexV
  rw [List.length_cons, lexR, if_neg (by rw [h]; simp), if_neg (by omega), lexR_fuel _ r.length _ _ (Nat.le_refl _) (by simp only [List.length_drop, List.length_cons]; omega)]
end Go.Proofs.YtjnabgddjogkbaaGreatDoor
namespace Go.Proofs.YtjnabgddjogkbaaGreatDoor
open Go.RowKit Go.Bw Go.Bw.Fl
set_option linter.unusedVariables false
set_option linter.unusedSimpArgs false
theorem one9LexA : One Tryz.prog 9 := ⟨_, Tryz.underlying9, rfl, by kernel_rfl⟩
theorem sz9LexA : (Tryz.prog.info? 9).map (·.size) = some 1 := by kernel_rfl
theorem txt37LexA : Txt Tryz.prog 37 := ⟨_, Tryz.func37, by kernel_rfl, rfl⟩   -- slices.Index[[]string,string]
theorem txt61LexA : Txt Tryz.prog 61 := ⟨_, Tryz.func61, by kernel_rfl, rfl⟩   -- strings.HasPrefix
theorem letters_r (s : List UInt8) (hs : s.length ≤ 140737488355328) (w : World) : Ret Tryz.prog 55 [str s] w fun v w' => v = .int .i64 (letN s : Nat) ∧ Below w.heap.size w w' := by
  have hb := Below.refl w.heap.size w
  refine enter Tryz.func55 rfl rfl rfl ?_
  refine Wc.seq fun _ hK_1 => Wc.region <| Wl.sg rfl rfl <| Wl.nil <| Wq.next hK_1 <| Wc.seq fun _ hK_3 => Wc.region <| Wl.sg rfl rfl <| Wl.nil <| Wq.next hK_3 ?_
  refine Wc.seq fun _ hK_5 => Wc.block ?_
  refine Wc.loop (X := Nat) (fun i => [(0, str s), (3, .int .i64 (i : Int))]) (fun i wr => i ≤ s.length ∧ (∀ j, j < i → isLet (s.getD j 0) = true) ∧ Below w.heap.size w wr) (fun i => s.length - i) (0) ?_ ?_ ?_
  · exact by repeat first | exact Sub.nil | refine Sub.cons' rfl (by first | rfl | exact int_eq (by omega)) ?_
  · exact ⟨by omega, fun j h => by omega, hb⟩
  rintro i wr hI_7 _ hL_6
  replace hI_7 : i ≤ s.length ∧ (∀ j, j < i → isLet (s.getD j 0) = true) ∧ Below w.heap.size w wr := hI_7
  obtain ⟨hi, hall, hb⟩ := hI_7
  show Wc _ _ _ _ _ [(0, str s), (3, .int .i64 (i : Int))] _
  try have hzhb_L0 := hb.size
  refine Wc.seq fun _ hK_8 => Wc.seq fun _ hK_9 => ?_
  obtain ⟨c, hc⟩ : ∃ c, c = s.getD i 0 := ⟨_, rfl⟩
  refine Wc.meet (X := Bool × UInt8) (fun (q, c) => [(0, str s), (3, .int .i64 (i : Int)), (39, .bool q)]) (fun (q, c) wr => q = decide (i < s.length ∧ isLet c = true) ∧ c = s.getD i 0 ∧ Below w.heap.size w wr) (fun _ hM_10 => ?_) ?_
  ·
   refine Wc.region <| Wl.mv rfl rfl <| Wl.mv rfl rfl ?_
   refine Wl.y (y_lens Tryz.underlying9 (by omega) rfl) rfl ?_
   refine Wl.y (y_lssi rfl rfl) rfl <| Wl.mv rfl rfl ?_
   refine Wl.guardT rfl rfl rfl (fun g_16 => ?_) (fun g_16 => ?_)
   ·
    have g_16_ := g_16
    try simp only [DZ] at g_16
    refine Wl.mv rfl rfl <| Wl.on' rfl rfl g_16_ <| Wl.mv rfl rfl <| Wl.on' rfl rfl g_16_ ?_
    refine Wl.y (y_eq (y_indexs Tryz.underlying9 rfl rfl (by omega) (by omega)) (int_eq (show _ = (c.toNat : Int) by rw [hc, Int.toNat_natCast]))) rfl ?_
    refine Wl.on' rfl rfl g_16_ <| Wl.y (y_eqli rfl rfl) rfl <| Wl.on' rfl rfl g_16_ <| Wl.mv rfl rfl ?_
    refine Wl.guardF rfl rfl rfl (fun g_22 => ?_) (fun g_22 => ?_)
    ·
     have g_22_ := g_22
     try simp only [DZ] at g_22
     refine Wl.off' rfl rfl g_22_ rfl rfl <| Wl.off' rfl rfl g_22_ rfl rfl <| Wl.off' rfl rfl g_22_ rfl rfl <| Wl.off' rfl rfl g_22_ rfl rfl <| Wl.offU rfl rfl rfl <| Wl.offU rfl rfl rfl <| Wl.offU rfl rfl rfl <| Wl.offU rfl rfl rfl <| Wl.off' rfl rfl g_22_ rfl rfl <| Wl.on' rfl rfl g_16_ ?_
     refine Wl.y (y_pickT rfl g_22_ rfl) rfl ?_
     refine Wl.on' rfl rfl g_16_ <| Wl.mv rfl rfl <| Wl.off' rfl rfl rfl rfl rfl <| Wl.off' rfl rfl rfl rfl rfl <| Wl.off' rfl rfl rfl rfl rfl <| Wl.off' rfl rfl rfl rfl rfl <| Wl.off' rfl rfl rfl rfl rfl <| Wl.off' rfl rfl rfl rfl rfl <| Wl.offU rfl rfl rfl <| Wl.offU rfl rfl rfl ?_
     refine Wl.offU rfl rfl rfl <| Wl.offU rfl rfl rfl <| Wl.offU rfl rfl rfl <| Wl.off' rfl rfl rfl rfl rfl <| Wl.on' rfl rfl g_16_ <| Wl.y (y_pickT rfl rfl rfl) rfl ?_
     refine Wl.y (y_pickT rfl g_16_ rfl) rfl ?_
     refine Wl.nil ?_
     refine Wq.meet hM_10 (⟨decide (i < s.length ∧ isLet (s.getD i 0) = true), s.getD i 0⟩) (by repeat first | exact Sub.nil | refine Sub.cons' rfl (by first | rfl | exact bool_eq (by rw [← hc, Bool.eq_iff_iff]; unfold isLet; simp; omega)) ?_) ?_
     exact ⟨rfl, rfl, hb⟩
    have g_22_ := g_22
    try simp only [DZ] at g_22
    refine Wl.mv rfl rfl <| Wl.on' rfl rfl g_22_ <| Wl.mv rfl rfl <| Wl.on' rfl rfl g_22_ ?_
    refine Wl.y (y_eq (y_indexs Tryz.underlying9 rfl rfl (by omega) (by omega)) (int_eq (show _ = (c.toNat : Int) by rw [hc, Int.toNat_natCast]))) rfl ?_
    refine Wl.on' rfl rfl g_22_ <| Wl.y (y_geqi rfl rfl) rfl <| Wl.on' rfl rfl g_22_ <| Wl.mv rfl rfl ?_
    refine Wl.guardT rfl rfl rfl (fun g_32 => ?_) (fun g_32 => ?_)
    ·
     have g_32_ := g_32
     try simp only [DZ] at g_32
     refine Wl.mv rfl rfl <| Wl.on' rfl rfl g_32_ <| Wl.mv rfl rfl <| Wl.on' rfl rfl g_32_ ?_
     refine Wl.y (y_eq (y_indexs Tryz.underlying9 rfl rfl (by omega) (by omega)) (int_eq (show _ = (c.toNat : Int) by rw [hc, Int.toNat_natCast]))) rfl ?_
     refine Wl.on' rfl rfl g_32_ <| Wl.y (y_leqi rfl rfl) rfl <| Wl.on' rfl rfl g_22_ ?_
     refine Wl.y (y_pickT rfl g_32_ rfl) rfl ?_
     refine Wl.on' rfl rfl g_16_ ?_
     refine Wl.y (y_pickF rfl g_22_ rfl) rfl ?_
     refine Wl.on' rfl rfl g_16_ <| Wl.mv rfl rfl ?_
     refine Wl.guardF rfl rfl rfl (fun g_40 => ?_) (fun g_40 => ?_)
     ·
      have g_40_ := g_40
      try simp only [DZ] at g_40
      refine Wl.off' rfl rfl g_40_ rfl rfl <| Wl.off' rfl rfl g_40_ rfl rfl <| Wl.off' rfl rfl g_40_ rfl rfl <| Wl.off' rfl rfl g_40_ rfl rfl <| Wl.off' rfl rfl g_40_ rfl rfl <| Wl.offU rfl rfl rfl <| Wl.offU rfl rfl rfl <| Wl.offU rfl rfl rfl <| Wl.offU rfl rfl rfl <| Wl.offU rfl rfl rfl ?_
      refine Wl.off' rfl rfl g_40_ rfl rfl <| Wl.on' rfl rfl g_16_ ?_
      refine Wl.y (y_pickT rfl g_40_ rfl) rfl ?_
      refine Wl.y (y_pickT rfl g_16_ rfl) rfl ?_
      refine Wl.nil ?_
      refine Wq.meet hM_10 (⟨decide (i < s.length ∧ isLet (s.getD i 0) = true), s.getD i 0⟩) (by repeat first | exact Sub.nil | refine Sub.cons' rfl (by first | rfl | exact bool_eq (by rw [← hc, Bool.eq_iff_iff]; unfold isLet; simp; omega)) ?_) ?_
      exact ⟨rfl, rfl, hb⟩
     have g_40_ := g_40
     try simp only [DZ] at g_40
     refine Wl.mv rfl rfl <| Wl.on' rfl rfl g_40_ <| Wl.mv rfl rfl <| Wl.on' rfl rfl g_40_ ?_
     refine Wl.y (y_eq (y_indexs Tryz.underlying9 rfl rfl (by omega) (by omega)) (int_eq (show _ = (c.toNat : Int) by rw [hc, Int.toNat_natCast]))) rfl ?_
     refine Wl.on' rfl rfl g_40_ <| Wl.y (y_or rfl rfl) rfl <| Wl.on' rfl rfl g_40_ <| Wl.y (y_geqi rfl rfl) rfl <| Wl.on' rfl rfl g_40_ <| Wl.mv rfl rfl ?_
     refine Wl.guardT rfl rfl rfl (fun g_49 => ?_) (fun g_49 => ?_)
     ·
      have g_49_ := g_49
      try simp only [DZ] at g_49
      refine Wl.mv rfl rfl <| Wl.on' rfl rfl g_49_ <| Wl.mv rfl rfl <| Wl.on' rfl rfl g_49_ ?_
      refine Wl.y (y_eq (y_indexs Tryz.underlying9 rfl rfl (by omega) (by omega)) (int_eq (show _ = (c.toNat : Int) by rw [hc, Int.toNat_natCast]))) rfl ?_
      refine Wl.on' rfl rfl g_49_ <| Wl.y (y_or rfl rfl) rfl <| Wl.on' rfl rfl g_49_ <| Wl.y (y_leqi rfl rfl) rfl <| Wl.on' rfl rfl g_40_ ?_
      refine Wl.y (y_pickT rfl g_49_ rfl) rfl ?_
      refine Wl.on' rfl rfl g_16_ ?_
      refine Wl.y (y_pickF rfl g_40_ rfl) rfl ?_
      refine Wl.y (y_pickT rfl g_16_ rfl) rfl ?_
      refine Wl.nil ?_
      refine Wq.meet hM_10 (⟨decide (i < s.length ∧ isLet (s.getD i 0) = true), s.getD i 0⟩) (by repeat first | exact Sub.nil | refine Sub.cons' rfl (by first | rfl | exact bool_eq (by rw [← hc, Bool.eq_iff_iff]; unfold isLet; simp; omega)) ?_) ?_
      exact ⟨rfl, rfl, hb⟩
     have g_49_ := g_49
     try simp only [DZ] at g_49
     refine Wl.off' rfl rfl g_49_ rfl rfl <| Wl.off' rfl rfl g_49_ rfl rfl <| Wl.off' rfl rfl g_49_ rfl rfl <| Wl.off' rfl rfl g_49_ rfl rfl <| Wl.on' rfl rfl g_40_ ?_
     refine Wl.y (y_pickF rfl g_49_ rfl) rfl ?_
     refine Wl.on' rfl rfl g_16_ ?_
     refine Wl.y (y_pickF rfl g_40_ rfl) rfl ?_
     refine Wl.y (y_pickT rfl g_16_ rfl) rfl ?_
     refine Wl.nil ?_
     refine Wq.meet hM_10 (⟨decide (i < s.length ∧ isLet (s.getD i 0) = true), s.getD i 0⟩) (by repeat first | exact Sub.nil | refine Sub.cons' rfl (by first | rfl | exact bool_eq (by rw [← hc, Bool.eq_iff_iff]; unfold isLet; simp; omega)) ?_) ?_
     exact ⟨rfl, rfl, hb⟩
    have g_32_ := g_32
    try simp only [DZ] at g_32
    refine Wl.off' rfl rfl g_32_ rfl rfl <| Wl.off' rfl rfl g_32_ rfl rfl <| Wl.off' rfl rfl g_32_ rfl rfl <| Wl.on' rfl rfl g_22_ ?_
    refine Wl.y (y_pickF rfl g_32_ rfl) rfl ?_
    refine Wl.on' rfl rfl g_16_ ?_
    refine Wl.y (y_pickF rfl g_22_ rfl) rfl ?_
    refine Wl.on' rfl rfl g_16_ <| Wl.mv rfl rfl <| Wl.on' rfl rfl rfl <| Wl.mv rfl rfl <| Wl.on' rfl rfl rfl <| Wl.mv rfl rfl <| Wl.on' rfl rfl rfl ?_
    refine Wl.y (y_eq (y_indexs Tryz.underlying9 rfl rfl (by omega) (by omega)) (int_eq (show _ = (c.toNat : Int) by rw [hc, Int.toNat_natCast]))) rfl ?_
    refine Wl.on' rfl rfl rfl <| Wl.y (y_or rfl rfl) rfl <| Wl.on' rfl rfl rfl <| Wl.y (y_geqi rfl rfl) rfl <| Wl.on' rfl rfl rfl <| Wl.mv rfl rfl ?_
    refine Wl.guardT rfl rfl rfl (fun g_70 => ?_) (fun g_70 => ?_)
    ·
     have g_70_ := g_70
     try simp only [DZ] at g_70
     refine Wl.mv rfl rfl <| Wl.on' rfl rfl g_70_ <| Wl.mv rfl rfl <| Wl.on' rfl rfl g_70_ ?_
     refine Wl.y (y_eq (y_indexs Tryz.underlying9 rfl rfl (by omega) (by omega)) (int_eq (show _ = (c.toNat : Int) by rw [hc, Int.toNat_natCast]))) rfl ?_
     refine Wl.on' rfl rfl g_70_ <| Wl.y (y_or rfl rfl) rfl <| Wl.on' rfl rfl g_70_ <| Wl.y (y_leqi rfl rfl) rfl <| Wl.on' rfl rfl rfl ?_
     refine Wl.y (y_pickT rfl g_70_ rfl) rfl ?_
     refine Wl.on' rfl rfl g_16_ <| Wl.y (y_pickF rfl rfl rfl) rfl ?_
     refine Wl.y (y_pickT rfl g_16_ rfl) rfl ?_
     refine Wl.nil ?_
     refine Wq.meet hM_10 (⟨decide (i < s.length ∧ isLet (s.getD i 0) = true), s.getD i 0⟩) (by repeat first | exact Sub.nil | refine Sub.cons' rfl (by first | rfl | exact bool_eq (by rw [← hc, Bool.eq_iff_iff]; unfold isLet; simp; omega)) ?_) ?_
     exact ⟨rfl, rfl, hb⟩
    have g_70_ := g_70
    try simp only [DZ] at g_70
    refine Wl.off' rfl rfl g_70_ rfl rfl <| Wl.off' rfl rfl g_70_ rfl rfl <| Wl.off' rfl rfl g_70_ rfl rfl <| Wl.off' rfl rfl g_70_ rfl rfl <| Wl.on' rfl rfl rfl ?_
    refine Wl.y (y_pickF rfl g_70_ rfl) rfl ?_
    refine Wl.on' rfl rfl g_16_ <| Wl.y (y_pickF rfl rfl rfl) rfl ?_
    refine Wl.y (y_pickT rfl g_16_ rfl) rfl ?_
    refine Wl.nil ?_
    refine Wq.meet hM_10 (⟨decide (i < s.length ∧ isLet (s.getD i 0) = true), s.getD i 0⟩) (by repeat first | exact Sub.nil | refine Sub.cons' rfl (by first | rfl | exact bool_eq (by rw [← hc, Bool.eq_iff_iff]; unfold isLet; simp; omega)) ?_) ?_
    exact ⟨rfl, rfl, hb⟩
   have g_16_ := g_16
   try simp only [DZ] at g_16
   refine Wl.off' rfl rfl g_16_ rfl rfl <| Wl.off' rfl rfl g_16_ rfl rfl <| Wl.off' rfl rfl g_16_ rfl rfl <| Wl.off' rfl rfl g_16_ rfl rfl <| Wl.offU rfl rfl rfl <| Wl.offU rfl rfl rfl <| Wl.offU rfl rfl rfl <| Wl.offU rfl rfl rfl <| Wl.offU rfl rfl rfl <| Wl.offU rfl rfl rfl ?_
   refine Wl.offU rfl rfl rfl <| Wl.offU rfl rfl rfl <| Wl.offU rfl rfl rfl <| Wl.offU rfl rfl rfl <| Wl.off' rfl rfl g_16_ rfl rfl <| Wl.off' rfl rfl g_16_ rfl rfl <| Wl.offU rfl rfl rfl <| Wl.offU rfl rfl rfl <| Wl.offU rfl rfl rfl <| Wl.offU rfl rfl rfl ?_
   refine Wl.offU rfl rfl rfl <| Wl.offU rfl rfl rfl <| Wl.offU rfl rfl rfl <| Wl.offU rfl rfl rfl <| Wl.offU rfl rfl rfl <| Wl.offU rfl rfl rfl <| Wl.offU rfl rfl rfl <| Wl.offU rfl rfl rfl <| Wl.off' rfl rfl g_16_ rfl rfl ?_
   refine Wl.y (y_pickF rfl g_16_ rfl) rfl ?_
   refine Wl.nil ?_
   refine Wq.meet hM_10 (⟨decide (i < s.length ∧ isLet (s.getD i 0) = true), s.getD i 0⟩) (by repeat first | exact Sub.nil | refine Sub.cons' rfl (by first | rfl | exact bool_eq (by rw [← hc, Bool.eq_iff_iff]; unfold isLet; simp; omega)) ?_) ?_
   exact ⟨rfl, rfl, hb⟩
  rintro ⟨q, c⟩ wr hI_83
  replace hI_83 : q = decide (i < s.length ∧ isLet c = true) ∧ c = s.getD i 0 ∧ Below w.heap.size w wr := hI_83
  obtain ⟨hq, hc, hb⟩ := hI_83
  show Wq _ _ _ _ [(0, str s), (3, .int .i64 (i : Int)), (39, .bool q)] _
  try have hzhb_g2 := hb.size
  refine Wq.next hK_9 ?_
  have hq2 := hq
  refine Wc.cond rfl (fun c0_84 => ?_) (fun c0_84 => ?_)
  ·
   have c0_84_ := c0_84
   try simp only [DZ] at c0_84
   have hq2 : i < s.length ∧ isLet c = true := by have h := c0_84_; rw [hq] at h; exact of_decide_eq_true h
   refine Wc.skip <| Wq.next hK_8 <| Wc.block <| Wc.region <| Wl.mv rfl rfl ?_
   refine Wl.y (y_addI rfl rfl (by first | omega | (simp; done) | (simp; omega)) (by first | omega | (simp; done) | (simp; omega))) rfl ?_
   refine Wl.sg rfl rfl <| Wl.nil <| Wq.block_normal ?_
   refine fun a_ ha_ => hL_6 _ _ (i + 1) (by first | omega | (simp; omega)) (by repeat first | exact Sub.nil | refine Sub.cons' rfl (by first | rfl | exact int_eq (by omega)) ?_) ?_ a_ ha_
   exact ⟨by omega, fun j hj => by (by_cases e : j = i); (· rw [e, ← hc]; exact hq2.2); (· exact hall j (by omega)), hb⟩
  have c0_84_ := c0_84
  try simp only [DZ] at c0_84
  have hq2 : ¬ (i < s.length ∧ isLet c = true) := by have h := c0_84_; rw [hq] at h; exact of_decide_eq_false h
  refine Wc.exit ?_
  refine Wq.then_exit <| Wq.then_exit <| Wq.block_exit <| Wq.next hK_5 <| Wc.seq fun _ hK_88 => Wc.region <| Wl.mv rfl rfl <| Wl.sg rfl rfl <| Wl.nil <| Wq.next hK_88 ?_
  refine Wc.ret ?_
  refine ret1 rfl rfl ?_
  exact ⟨_, rfl, int_eq (by rw [letN_of hi hall (fun h => by rw [← hc]; cases hl : isLet c with | false => rfl | true => exact absurd ⟨h, hl⟩ hq2)]), hb⟩
/-- the texts in a row -/
def strs (l : List (List UInt8)) : List Value := l.map str
theorem strs_val {l : List (List UInt8)} {i : Nat} {v : Value} (hi : i < l.length) (h : (strs l)[i]? = some v) : v = str (l.getD i []) := by
  simp [strs, List.getElem?_eq_getElem hi] at h
  simp [List.getD, List.getElem?_eq_getElem hi, ← h]
theorem SIndex_r (A : Option Addr) (c : Nat) (l : List (List UInt8)) (x : List UInt8) (hl : l.length ≤ 281474976710656) (w : World) (hR : Rd w 1 A l.length (strs l)) : Ret Tryz.prog 37 [.slice A l.length c, str x] w fun v w' => (∃ z, v = .int .i64 z ∧ (0 ≤ z ↔ x ∈ l)) ∧ Below w.heap.size w w' := by
  have hb := Below.refl w.heap.size w
  have hR_hb := hR
  refine enter Tryz.func37 rfl rfl rfl ?_
  refine Wc.seq fun _ hK_1 => Wc.region <| Wl.sg rfl rfl <| Wl.nil <| Wq.next hK_1 <| Wc.seq fun _ hK_3 => Wc.seq fun _ hK_4 => Wc.region <| Wl.mv rfl rfl ?_
  refine Wl.y (y_lenl Tryz.underlying45 (by omega) rfl) rfl ?_
  refine Wl.mv rfl rfl <| Wl.nil <| Wq.next hK_4 <| Wc.block ?_
  refine Wc.loop (X := Nat) (fun i => [(0, .slice A l.length c), (1, str x), (7, .int .i64 (l.length : Int)), (8, .int .i64 (i : Int))]) (fun i wr => i ≤ l.length ∧ (∀ j, j < i → l.getD j [] ≠ x) ∧ Below w.heap.size w wr) (fun i => l.length - i) (0) ?_ ?_ ?_
  · exact by repeat first | exact Sub.nil | refine Sub.cons' rfl (by first | rfl | exact int_eq (by omega)) ?_
  · exact ⟨by omega, fun j h => by omega, hb⟩
  rintro i wr hI_9 _ hL_8
  replace hI_9 : i ≤ l.length ∧ (∀ j, j < i → l.getD j [] ≠ x) ∧ Below w.heap.size w wr := hI_9
  obtain ⟨hi, hall, hb⟩ := hI_9
  show Wc _ _ _ _ _ [(0, .slice A l.length c), (1, str x), (7, .int .i64 (l.length : Int)), (8, .int .i64 (i : Int))] _
  have hR := hR_hb.below hb
  try have hzhb_L0 := hb.size
  refine Wc.seq fun _ hK_10 => Wc.region <| Wl.y (y_lssi rfl rfl) rfl <| Wl.nil <| Wq.next hK_10 <| Wc.seq fun _ hK_12 => ?_
  refine Wc.cond rfl (fun c0_13 => ?_) (fun c0_13 => ?_)
  ·
   have c0_13_ := c0_13
   try simp only [DZ] at c0_13
   have hil : i < l.length := by have := c0_13; omega
   obtain ⟨p_, v_, hpe, hve, hcell⟩ := hR.one (i := i) hil
   subst hpe
   obtain rfl := strs_val hil hve
   refine Wc.skip <| Wq.next hK_12 <| Wc.seq fun _ hK_14 => Wc.block <| Wc.seq fun _ hK_15 => Wc.region <| Wl.mv rfl rfl <| Wl.sg rfl rfl <| Wl.nil <| Wq.next hK_15 ?_
   refine Wc.seq fun _ hK_18 => Wc.region <| Wl.mv rfl rfl <| Wl.mv rfl rfl <| Wl.mv rfl rfl ?_
   refine Wl.y (y_indexAddr Tryz.underlying45 sz9LexA rfl rfl (by omega) (by omega)) rfl ?_
   refine Wl.l (l_load one9LexA rfl (by exact at1 hcell)) rfl ?_
   refine Wl.y (y_eqls rfl rfl) rfl <| Wl.nil <| Wq.next hK_18 ?_
   refine Wc.cond rfl (fun c1_25 => ?_) (fun c1_25 => ?_)
   ·
    have c1_25_ := c1_25
    try simp only [DZ] at c1_25
    have heq : x = l.getD i [] := by have h := c1_25_; simpa using h
    refine Wc.seq fun _ hK_26 => Wc.region <| Wl.mv rfl rfl <| Wl.sg rfl rfl <| Wl.nil <| Wq.next hK_26 <| Wc.ret ?_
    refine Wq.block_ret (Wq.then_ret (Wq.then_ret (Wq.block_ret (Wq.then_ret ?_))))
    refine ret1 rfl rfl ?_
    exact ⟨_, rfl, ⟨_, rfl, ⟨fun _ => by rw [heq]; simp [List.getD, List.getElem?_eq_getElem hil], fun _ => by omega⟩⟩, hb⟩
   have c1_25_ := c1_25
   try simp only [DZ] at c1_25
   have hne : l.getD i [] ≠ x := fun e => by have h := c1_25_; rw [e] at h; simp at h
   refine Wc.skip <| Wq.block_normal <| Wq.next hK_14 <| Wc.region ?_
   refine Wl.y (y_addI rfl rfl (by first | omega | (simp; done) | (simp; omega)) (by first | omega | (simp; done) | (simp; omega))) rfl ?_
   refine Wl.mv rfl rfl <| Wl.nil ?_
   refine fun a_ ha_ => hL_8 _ _ (i + 1) (by first | omega | (simp; omega)) (by repeat first | exact Sub.nil | refine Sub.cons' rfl (by first | rfl | exact int_eq (by omega)) ?_) ?_ a_ ha_
   exact ⟨by omega, fun j hj => by (by_cases e : j = i); (· rw [e]; exact hne); (· exact hall j (by omega)), hb⟩
  have c0_13_ := c0_13
  try simp only [DZ] at c0_13
  refine Wc.exit ?_
  refine Wq.then_exit <| Wq.then_exit <| Wq.block_exit <| Wq.next hK_3 <| Wc.seq fun _ hK_31 => Wc.region <| Wl.sg rfl rfl <| Wl.nil <| Wq.next hK_31 <| Wc.ret ?_
  refine ret1 rfl rfl ?_
  exact ⟨_, rfl, ⟨_, rfl, ⟨fun h => by omega, fun h => by
  obtain ⟨j, hj, e⟩ := List.mem_iff_getElem.1 h
  exact absurd (by simp [List.getD, List.getElem?_eq_getElem hj, e]) (hall j (by have := c0_13; omega))⟩⟩, hb⟩
theorem SContains_r (A : Option Addr) (c : Nat) (l : List (List UInt8)) (x : List UInt8) (hl : l.length ≤ 281474976710656) (w : World) (hR : Rd w 1 A l.length (strs l)) : Ret Tryz.prog 57 [.slice A l.length c, str x] w fun v w' => v = .bool (decide (x ∈ l)) ∧ Below w.heap.size w w' := by
  have hb := Below.refl w.heap.size w
  refine enter Tryz.func57 rfl rfl rfl ?_
  refine Wc.seq fun _ hK_1 => Wc.region <| Wl.sg rfl rfl <| Wl.nil <| Wq.next hK_1 <| Wc.seq fun _ hK_3 => Wc.region <| Wl.mv rfl rfl <| Wl.mv rfl rfl ?_
  refine Wl.call txt37LexA rfl rfl (SIndex_r A c l x hl _ hR) rfl ?_
  rintro _ w_k0 ⟨⟨z, rfl, hz⟩, hs_k0⟩
  have hz_k0 := hs_k0.size
  have hb := hb.trans (hs_k0.mono hb.size)
  refine Wl.y (y_geqi rfl rfl) rfl <| Wl.sg rfl rfl <| Wl.nil <| Wq.next hK_3 <| Wc.ret ?_
  refine ret1 rfl rfl ?_
  exact ⟨_, rfl, bool_eq (by rw [Bool.eq_iff_iff, decide_eq_true_eq, decide_eq_true_eq]; exact hz), hb⟩
theorem tokenF_r (g : Nat) (s x : List UInt8) (w : World) (hB : Blk w g 9 [str s]) : Ret Tryz.prog 60 [str x, .pointer (some ⟨g, 0, none⟩)] w fun v w' => v = .bool (Lib.hasPrefix s x) ∧ Below w.heap.size w w' := by
  have hcell : w.cell? ⟨g, 0, none⟩ = some (str s) := hB.cell 0
  have hb := Below.refl w.heap.size w
  have hB_hb := hB
  refine enter Tryz.func60 rfl rfl rfl ?_
  refine Wc.seq fun _ hK_1 => Wc.region <| Wl.sg rfl rfl <| Wl.nil <| Wq.next hK_1 <| Wc.seq fun _ hK_3 => Wc.region ?_
  refine Wl.l (l_load one9LexA rfl (by exact (hB.cell 0))) rfl ?_
  refine Wl.mv rfl rfl ?_
  refine Wl.call txt61LexA rfl rfl (HasPrefix_r s x _) rfl ?_
  rintro _ w_ ⟨rfl, hw_⟩
  have hw_ := hw_.symm; subst hw_
  refine Wl.sg rfl rfl <| Wl.nil <| Wq.next hK_3 <| Wc.ret ?_
  refine ret1 rfl rfl ?_
  exact ⟨_, rfl, rfl, hb⟩
/-- where the first is that s begins with -/
def FindIs (l : List (List UInt8)) (s : List UInt8) (z : Int) : Prop := (z = -1 ∧ l.find? (fun x => Lib.hasPrefix s x) = none) ∨ ∃ k : Nat, z = k ∧ k < l.length ∧ l.find? (fun x => Lib.hasPrefix s x) = some (l.getD k [])
theorem find_at {l : List (List UInt8)} {p : List UInt8 → Bool} : ∀ {i : Nat}, i < l.length → (∀ j, j < i → p (l.getD j []) = false) → p (l.getD i []) = true → l.find? p = some (l.getD i []) := by
  induction l with
  | nil => intro i h; simp at h
  | cons a r ih =>
    intro i hi h0 h1
    rw [List.find?_cons]
    cases i with
    | zero => rw [show (a :: r).getD 0 [] = a from rfl] at h1 ⊢; rw [h1]
    | succ i =>
      have := h0 0 (by omega)
      rw [show (a :: r).getD 0 [] = a from rfl] at this
      rw [this]
      exact ih (by simpa using hi) (fun j hj => h0 (j + 1) (by omega)) h1
theorem find_no {l : List (List UInt8)} {p : List UInt8 → Bool} (h : ∀ j, j < l.length → p (l.getD j []) = false) : l.find? p = none := by
  rw [List.find?_eq_none]
  intro x hx
  obtain ⟨j, hj, e⟩ := List.mem_iff_getElem.1 hx
  have := h j hj
  rw [show l.getD j [] = x by simp [List.getD, List.getElem?_eq_getElem hj, e]] at this
  rw [this]; simp
theorem txtF : Txt Tryz.prog 60 := ⟨_, Tryz.func60, by kernel_rfl, rfl⟩
theorem SIndexFunc_r (A : Option Addr) (c : Nat) (l : List (List UInt8)) (g : Nat) (s : List UInt8) (hl : l.length ≤ 281474976710656) (w : World) (hR : Rd w 1 A l.length (strs l)) (hB : Blk w g 9 [str s]) : Ret Tryz.prog 59 [.slice A l.length c, .func (.func 60) #[] #[.pointer (some ⟨g, 0, none⟩)]] w fun v w' => (∃ z, v = .int .i64 z ∧ FindIs l s z) ∧ Below w.heap.size w w' := by
  have hb := Below.refl w.heap.size w
  have hR_hb := hR
  have hB_hb := hB
  refine enter Tryz.func59 rfl rfl rfl ?_
  refine Wc.seq fun _ hK_1 => Wc.region <| Wl.sg rfl rfl <| Wl.nil <| Wq.next hK_1 <| Wc.seq fun _ hK_3 => Wc.seq fun _ hK_4 => Wc.region <| Wl.mv rfl rfl ?_
  refine Wl.y (y_lenl Tryz.underlying45 (by omega) rfl) rfl ?_
  refine Wl.mv rfl rfl <| Wl.nil <| Wq.next hK_4 <| Wc.block ?_
  refine Wc.loop (X := Nat) (fun i => [(0, .slice A l.length c), (1, .func (.func 60) #[] #[.pointer (some ⟨g, 0, none⟩)]), (7, .int .i64 (l.length : Int)), (8, .int .i64 (i : Int))]) (fun i wr => i ≤ l.length ∧ (∀ j, j < i → Lib.hasPrefix s (l.getD j []) = false) ∧ Below w.heap.size w wr) (fun i => l.length - i) (0) ?_ ?_ ?_
  · exact by repeat first | exact Sub.nil | refine Sub.cons' rfl (by first | rfl | exact int_eq (by omega)) ?_
  · exact ⟨by omega, fun j h => by omega, hb⟩
  rintro i wr hI_9 _ hL_8
  replace hI_9 : i ≤ l.length ∧ (∀ j, j < i → Lib.hasPrefix s (l.getD j []) = false) ∧ Below w.heap.size w wr := hI_9
  obtain ⟨hi, hall, hb⟩ := hI_9
  show Wc _ _ _ _ _ [(0, .slice A l.length c), (1, .func (.func 60) #[] #[.pointer (some ⟨g, 0, none⟩)]), (7, .int .i64 (l.length : Int)), (8, .int .i64 (i : Int))] _
  have hR := hR_hb.below hb
  have hB := hB_hb.below hb
  try have hzhb_L0 := hb.size
  refine Wc.seq fun _ hK_10 => Wc.region <| Wl.y (y_lssi rfl rfl) rfl <| Wl.nil <| Wq.next hK_10 <| Wc.seq fun _ hK_12 => ?_
  refine Wc.cond rfl (fun c0_13 => ?_) (fun c0_13 => ?_)
  ·
   have c0_13_ := c0_13
   try simp only [DZ] at c0_13
   have hil : i < l.length := by have := c0_13; omega
   obtain ⟨p_, v_, hpe, hve, hcell⟩ := hR.one (i := i) hil
   subst hpe
   obtain rfl := strs_val hil hve
   refine Wc.skip <| Wq.next hK_12 <| Wc.seq fun _ hK_14 => Wc.block <| Wc.seq fun _ hK_15 => Wc.region <| Wl.mv rfl rfl <| Wl.sg rfl rfl <| Wl.nil <| Wq.next hK_15 ?_
   refine Wc.seq fun _ hK_18 => Wc.region <| Wl.mv rfl rfl <| Wl.mv rfl rfl <| Wl.mv rfl rfl ?_
   refine Wl.y (y_indexAddr Tryz.underlying45 sz9LexA rfl rfl (by omega) (by omega)) rfl ?_
   refine Wl.l (l_load one9LexA rfl (by exact at1 hcell)) rfl ?_
   refine Wl.call txtF rfl rfl (tokenF_r g s (l.getD i []) _ hB) rfl ?_
   rintro _ w_k0 ⟨rfl, hs_k0⟩
   have hb := hb.trans (hs_k0.mono hb.size)
   refine Wl.nil <| Wq.next hK_18 ?_
   refine Wc.cond rfl (fun c1_25 => ?_) (fun c1_25 => ?_)
   ·
    have c1_25_ := c1_25
    try simp only [DZ] at c1_25
    refine Wc.seq fun _ hK_26 => Wc.region <| Wl.mv rfl rfl <| Wl.sg rfl rfl <| Wl.nil <| Wq.next hK_26 <| Wc.ret ?_
    refine Wq.block_ret (Wq.then_ret (Wq.then_ret (Wq.block_ret (Wq.then_ret ?_))))
    refine ret1 rfl rfl ?_
    exact ⟨_, rfl, ⟨_, rfl, .inr ⟨i, rfl, hil, find_at hil hall c1_25_⟩⟩, hb⟩
   have c1_25_ := c1_25
   try simp only [DZ] at c1_25
   refine Wc.skip <| Wq.block_normal <| Wq.next hK_14 <| Wc.region ?_
   refine Wl.y (y_addI rfl rfl (by first | omega | (simp; done) | (simp; omega)) (by first | omega | (simp; done) | (simp; omega))) rfl ?_
   refine Wl.mv rfl rfl <| Wl.nil ?_
   refine fun a_ ha_ => hL_8 _ _ (i + 1) (by first | omega | (simp; omega)) (by repeat first | exact Sub.nil | refine Sub.cons' rfl (by first | rfl | exact int_eq (by omega)) ?_) ?_ a_ ha_
   exact ⟨by omega, fun j hj => by (by_cases e : j = i); (· rw [e]; exact c1_25_); (· exact hall j (by omega)), hb⟩
  have c0_13_ := c0_13
  try simp only [DZ] at c0_13
  refine Wc.exit ?_
  refine Wq.then_exit <| Wq.then_exit <| Wq.block_exit <| Wq.next hK_3 <| Wc.seq fun _ hK_31 => Wc.region <| Wl.sg rfl rfl <| Wl.nil <| Wq.next hK_31 <| Wc.ret ?_
  refine ret1 rfl rfl ?_
  exact ⟨_, rfl, ⟨_, rfl, .inl ⟨rfl, find_no fun j hj => hall j (by have := c0_13; omega)⟩⟩, hb⟩
theorem isLet_iff {c : UInt8} (h : isLet c = true) : c.toNat = 95 ∨ (48 ≤ c.toNat ∧ c.toNat ≤ 57) ∨ (65 ≤ c.toNat ∧ c.toNat ≤ 90) ∨ (97 ≤ c.toNat ∧ c.toNat ≤ 122) := by
  have key : ∀ n : Fin 256, isLet (UInt8.ofNat n.val) = true → n.val = 95 ∨ (48 ≤ n.val ∧ n.val ≤ 57) ∨ (65 ≤ n.val ∧ n.val ≤ 90) ∨ (97 ≤ n.val ∧ n.val ≤ 122) := by decide +kernel
  have h2 := key ⟨c.toNat, UInt8.toNat_lt c⟩
  rw [show UInt8.ofNat c.toNat = c from UInt8.ofNat_toNat] at h2
  exact h2 h
theorem Word_r (s : List UInt8) (hl : ∀ c, c ∈ s → isLet c = true) (hs : s.length ≤ 140737488355328) (w : World) : Ret Tryz.prog 58 [str s] w fun v w' => v = .bool (wordV s) ∧ Below w.heap.size w w' := by
  have hlow : ∀ c, c ∈ s → c.toNat < 128 := fun c hc => by have := isLet_low c (hl c hc); omega
  have hb := Below.refl w.heap.size w
  refine enter Tryz.func58 rfl rfl rfl ?_
  refine Wc.seq fun _ hK_1 => Wc.region <| Wl.sg rfl rfl <| Wl.nil <| Wq.next hK_1 <| Wc.seq fun _ hK_3 => Wc.seq fun _ hK_4 => Wc.region <| Wl.mv rfl rfl ?_
  refine Wl.ranges Tryz.underlying9 rfl rfl ?_
  rintro g_o2 w_o2 hg_o2 hn_o2 hs_o2
  have hz_o2 := hs_o2.size
  have hb := hb.trans (hs_o2.mono hb.size)
  have hI_o2 := hn_o2
  have hl_o2 := hI_o2.lt
  refine Wl.nil <| Wq.next hK_4 <| Wc.block ?_
  refine Wc.loop (X := Nat) (fun i => [(0, str s), (7, .pointer (some ⟨g_o2, 0, none⟩))]) (fun i wr => i ≤ s.length ∧ (0 < i → ¬ (48 ≤ (s.getD 0 0).toNat ∧ (s.getD 0 0).toNat ≤ 57)) ∧ Below w.heap.size w wr ∧ Its wr g_o2 s i) (fun i => s.length - i) (0) ?_ ?_ ?_
  · exact by repeat first | exact Sub.nil | refine Sub.cons' rfl (by first | rfl | exact int_eq (by omega) | exact int_eq (by simp) | (simp; done)) ?_
  · exact ⟨by omega, fun h => by omega, hb, hI_o2⟩
  rintro i wr hI_8 _ hL_7
  replace hI_8 : i ≤ s.length ∧ (0 < i → ¬ (48 ≤ (s.getD 0 0).toNat ∧ (s.getD 0 0).toNat ≤ 57)) ∧ Below w.heap.size w wr ∧ Its wr g_o2 s i := hI_8
  obtain ⟨hi, hd, hb, hI_o2⟩ := hI_8
  show Wc _ _ _ _ _ [(0, str s), (7, .pointer (some ⟨g_o2, 0, none⟩))] _
  try have hzhb_L0 := hb.size
  refine Wc.seq fun _ hK_9 => Wc.region ?_
  refine Wl.nexts rfl hI_o2 (hlow) rfl (fun hend_o3 => ?_) (fun hgo_o3 => ?_)
  ·
   refine Wl.y (y_extract rfl rfl) rfl <| Wl.nil <| Wq.next hK_9 <| Wc.seq fun _ hK_12 => ?_
   refine Wc.condF rfl rfl ?_
   refine Wc.exit ?_
   refine Wq.then_exit <| Wq.then_exit <| Wq.block_exit <| Wq.next hK_3 <| Wc.seq fun _ hK_13 => Wc.region <| Wl.mv rfl rfl <| Wl.y (y_neqs rfl rfl) rfl <| Wl.mv rfl rfl ?_
   refine Wl.guardT rfl rfl rfl (fun g_17 => ?_) (fun g_17 => ?_)
   ·
    have g_17_ := g_17
    try simp only [DZ] at g_17
    refine Wl.mv rfl rfl <| Wl.on' rfl rfl g_17_ ?_
    refine Wl.y (y_lens Tryz.underlying9 (by omega) rfl) rfl ?_
    refine Wl.on' rfl rfl g_17_ <| Wl.y (y_leqi rfl rfl) rfl ?_
    refine Wl.y (y_pickT rfl g_17_ rfl) rfl ?_
    refine Wl.sg rfl rfl <| Wl.nil <| Wq.next hK_13 <| Wc.ret ?_
    refine ret1 rfl rfl ?_
    exact ⟨_, rfl, bool_eq (by
  have hne : s ≠ [] := by have h := g_17_; simpa using h
  have hpos := List.length_pos_iff.2 hne
  have := hd (by omega)
  unfold wordV
  rw [decide_eq_decide]
  exact ⟨fun h => ⟨hne, by omega, this⟩, fun h => by have := h.2.1; omega⟩), hb⟩
   have g_17_ := g_17
   try simp only [DZ] at g_17
   refine Wl.off' rfl rfl g_17_ rfl rfl <| Wl.off' rfl rfl g_17_ rfl rfl ?_
   refine Wl.y (y_pickF rfl g_17_ rfl) rfl ?_
   refine Wl.sg rfl rfl <| Wl.nil <| Wq.next hK_13 <| Wc.ret ?_
   refine ret1 rfl rfl ?_
   exact ⟨_, rfl, bool_eq (by
  have he : s = [] := by have h := g_17_; simpa using h
  subst he; rfl), hb⟩
  rintro w_o3 hn_o3 hg_o3
  have hz_o3 := hg_o3.size
  have hb := below_blk hb hg_o3 hb.size (by omega)
  have hI_o2 := hn_o3
  refine Wl.y (y_extract rfl rfl) rfl <| Wl.nil <| Wq.next hK_9 <| Wc.seq fun _ hK_26 => ?_
  refine Wc.condT rfl rfl ?_
  refine Wc.skip <| Wq.next hK_26 <| Wc.block <| Wc.seq fun _ hK_27 => ?_
  obtain ⟨c, hc⟩ : ∃ c, c = (s.getD i 0).toNat := ⟨_, rfl⟩
  have hcl : c = 95 ∨ (48 ≤ c ∧ c ≤ 57) ∨ (65 ≤ c ∧ c ≤ 90) ∨ (97 ≤ c ∧ c ≤ 122) := by rw [hc]; exact isLet_iff (hl _ (by simp [List.getD, List.getElem?_eq_getElem hgo_o3]))
  refine Wc.region <| Wl.y (y_extract rfl rfl) rfl ?_
  refine Wl.y (y_eq (y_extract rfl rfl) (int_eq (show _ = (c : Int) by rw [hc]))) rfl ?_
  refine Wl.sg rfl rfl <| Wl.sg rfl rfl <| Wl.nil <| Wq.next hK_27 <| Wc.seq fun _ hK_32 => ?_
  refine Wc.meet (X := Bool) (fun q => [(0, str s), (3, .int .i64 (i : Int)), (4, .int .i32 (c : Int)), (5, .bool q), (7, .pointer (some ⟨g_o2, 0, none⟩))]) (fun q wr => q = decide ((65 ≤ c ∧ c ≤ 90) ∨ (97 ≤ c ∧ c ≤ 122) ∨ c = 95) ∧ Below w.heap.size w wr ∧ Its wr g_o2 s (i + 1)) (fun _ hM_33 => ?_) ?_
  ·
   refine Wc.region <| Wl.mv rfl rfl <| Wl.y (y_geqi rfl rfl) rfl <| Wl.mv rfl rfl ?_
   refine Wl.guardT rfl rfl rfl (fun g_37 => ?_) (fun g_37 => ?_)
   ·
    have g_37_ := g_37
    try simp only [DZ] at g_37
    refine Wl.mv rfl rfl <| Wl.on' rfl rfl g_37_ <| Wl.y (y_leqi rfl rfl) rfl ?_
    refine Wl.y (y_pickT rfl g_37_ rfl) rfl ?_
    refine Wl.mv rfl rfl ?_
    refine Wl.guardF rfl rfl rfl (fun g_42 => ?_) (fun g_42 => ?_)
    ·
     have g_42_ := g_42
     try simp only [DZ] at g_42
     refine Wl.off' rfl rfl g_42_ rfl rfl <| Wl.off' rfl rfl g_42_ rfl rfl <| Wl.offU rfl rfl rfl <| Wl.offU rfl rfl rfl <| Wl.off' rfl rfl g_42_ rfl rfl ?_
     refine Wl.y (y_pickT rfl g_42_ rfl) rfl ?_
     refine Wl.mv rfl rfl <| Wl.off' rfl rfl rfl rfl rfl <| Wl.off' rfl rfl rfl rfl rfl <| Wl.y (y_pickT rfl rfl rfl) rfl <| Wl.sg rfl rfl <| Wl.nil ?_
     refine Wq.meet hM_33 (decide ((65 ≤ c ∧ c ≤ 90) ∨ (97 ≤ c ∧ c ≤ 122) ∨ c = 95)) (by repeat first | exact Sub.nil | refine Sub.cons' rfl (by first | rfl | exact bool_eq (by rw [Bool.eq_iff_iff]; simp; omega)) ?_) ?_
     exact ⟨rfl, hb, hI_o2⟩
    have g_42_ := g_42
    try simp only [DZ] at g_42
    refine Wl.mv rfl rfl <| Wl.on' rfl rfl g_42_ <| Wl.y (y_geqi rfl rfl) rfl <| Wl.on' rfl rfl g_42_ <| Wl.mv rfl rfl ?_
    refine Wl.guardT rfl rfl rfl (fun g_50 => ?_) (fun g_50 => ?_)
    ·
     have g_50_ := g_50
     try simp only [DZ] at g_50
     refine Wl.mv rfl rfl <| Wl.on' rfl rfl g_50_ <| Wl.y (y_leqi rfl rfl) rfl <| Wl.on' rfl rfl g_42_ ?_
     refine Wl.y (y_pickT rfl g_50_ rfl) rfl ?_
     refine Wl.y (y_pickF rfl g_42_ rfl) rfl ?_
     refine Wl.mv rfl rfl ?_
     refine Wl.guardF rfl rfl rfl (fun g_56 => ?_) (fun g_56 => ?_)
     ·
      have g_56_ := g_56
      try simp only [DZ] at g_56
      refine Wl.off' rfl rfl g_56_ rfl rfl ?_
      refine Wl.y (y_pickT rfl g_56_ rfl) rfl ?_
      refine Wl.sg rfl rfl <| Wl.nil ?_
      refine Wq.meet hM_33 (decide ((65 ≤ c ∧ c ≤ 90) ∨ (97 ≤ c ∧ c ≤ 122) ∨ c = 95)) (by repeat first | exact Sub.nil | refine Sub.cons' rfl (by first | rfl | exact bool_eq (by rw [Bool.eq_iff_iff]; simp; omega)) ?_) ?_
      exact ⟨rfl, hb, hI_o2⟩
     have g_56_ := g_56
     try simp only [DZ] at g_56
     refine Wl.mv rfl rfl <| Wl.on' rfl rfl g_56_ <| Wl.y (y_eqli rfl rfl) rfl ?_
     refine Wl.y (y_pickF rfl g_56_ rfl) rfl ?_
     refine Wl.sg rfl rfl <| Wl.nil ?_
     refine Wq.meet hM_33 (decide ((65 ≤ c ∧ c ≤ 90) ∨ (97 ≤ c ∧ c ≤ 122) ∨ c = 95)) (by repeat first | exact Sub.nil | refine Sub.cons' rfl (by first | rfl | exact bool_eq (by rw [Bool.eq_iff_iff]; simp; omega)) ?_) ?_
     exact ⟨rfl, hb, hI_o2⟩
    have g_50_ := g_50
    try simp only [DZ] at g_50
    refine Wl.off' rfl rfl g_50_ rfl rfl <| Wl.on' rfl rfl g_42_ ?_
    refine Wl.y (y_pickF rfl g_50_ rfl) rfl ?_
    refine Wl.y (y_pickF rfl g_42_ rfl) rfl ?_
    refine Wl.mv rfl rfl <| Wl.on' rfl rfl rfl <| Wl.mv rfl rfl <| Wl.on' rfl rfl rfl <| Wl.y (y_eqli rfl rfl) rfl <| Wl.y (y_pickF rfl rfl rfl) rfl <| Wl.sg rfl rfl <| Wl.nil ?_
    refine Wq.meet hM_33 (decide ((65 ≤ c ∧ c ≤ 90) ∨ (97 ≤ c ∧ c ≤ 122) ∨ c = 95)) (by repeat first | exact Sub.nil | refine Sub.cons' rfl (by first | rfl | exact bool_eq (by rw [Bool.eq_iff_iff]; simp; omega)) ?_) ?_
    exact ⟨rfl, hb, hI_o2⟩
   have g_37_ := g_37
   try simp only [DZ] at g_37
   refine Wl.off' rfl rfl g_37_ rfl rfl ?_
   refine Wl.y (y_pickF rfl g_37_ rfl) rfl ?_
   refine Wl.mv rfl rfl <| Wl.on' rfl rfl rfl <| Wl.mv rfl rfl <| Wl.on' rfl rfl rfl <| Wl.y (y_geqi rfl rfl) rfl <| Wl.on' rfl rfl rfl <| Wl.mv rfl rfl ?_
   refine Wl.guardT rfl rfl rfl (fun g_75 => ?_) (fun g_75 => ?_)
   ·
    have g_75_ := g_75
    try simp only [DZ] at g_75
    refine Wl.mv rfl rfl <| Wl.on' rfl rfl g_75_ <| Wl.y (y_leqi rfl rfl) rfl <| Wl.on' rfl rfl rfl ?_
    refine Wl.y (y_pickT rfl g_75_ rfl) rfl ?_
    refine Wl.y (y_pickF rfl rfl rfl) rfl <| Wl.mv rfl rfl ?_
    refine Wl.guardF rfl rfl rfl (fun g_81 => ?_) (fun g_81 => ?_)
    ·
     have g_81_ := g_81
     try simp only [DZ] at g_81
     refine Wl.off' rfl rfl g_81_ rfl rfl ?_
     refine Wl.y (y_pickT rfl g_81_ rfl) rfl ?_
     refine Wl.sg rfl rfl <| Wl.nil ?_
     refine Wq.meet hM_33 (decide ((65 ≤ c ∧ c ≤ 90) ∨ (97 ≤ c ∧ c ≤ 122) ∨ c = 95)) (by repeat first | exact Sub.nil | refine Sub.cons' rfl (by first | rfl | exact bool_eq (by rw [Bool.eq_iff_iff]; simp; omega)) ?_) ?_
     exact ⟨rfl, hb, hI_o2⟩
    have g_81_ := g_81
    try simp only [DZ] at g_81
    refine Wl.mv rfl rfl <| Wl.on' rfl rfl g_81_ <| Wl.y (y_eqli rfl rfl) rfl ?_
    refine Wl.y (y_pickF rfl g_81_ rfl) rfl ?_
    refine Wl.sg rfl rfl <| Wl.nil ?_
    refine Wq.meet hM_33 (decide ((65 ≤ c ∧ c ≤ 90) ∨ (97 ≤ c ∧ c ≤ 122) ∨ c = 95)) (by repeat first | exact Sub.nil | refine Sub.cons' rfl (by first | rfl | exact bool_eq (by rw [Bool.eq_iff_iff]; simp; omega)) ?_) ?_
    exact ⟨rfl, hb, hI_o2⟩
   have g_75_ := g_75
   try simp only [DZ] at g_75
   refine Wl.off' rfl rfl g_75_ rfl rfl <| Wl.on' rfl rfl rfl ?_
   refine Wl.y (y_pickF rfl g_75_ rfl) rfl ?_
   refine Wl.y (y_pickF rfl rfl rfl) rfl <| Wl.mv rfl rfl <| Wl.on' rfl rfl rfl <| Wl.mv rfl rfl <| Wl.on' rfl rfl rfl <| Wl.y (y_eqli rfl rfl) rfl <| Wl.y (y_pickF rfl rfl rfl) rfl <| Wl.sg rfl rfl <| Wl.nil ?_
   refine Wq.meet hM_33 (decide ((65 ≤ c ∧ c ≤ 90) ∨ (97 ≤ c ∧ c ≤ 122) ∨ c = 95)) (by repeat first | exact Sub.nil | refine Sub.cons' rfl (by first | rfl | exact bool_eq (by rw [Bool.eq_iff_iff]; simp; omega)) ?_) ?_
   exact ⟨rfl, hb, hI_o2⟩
  rintro q wr hI_95
  replace hI_95 : q = decide ((65 ≤ c ∧ c ≤ 90) ∨ (97 ≤ c ∧ c ≤ 122) ∨ c = 95) ∧ Below w.heap.size w wr ∧ Its wr g_o2 s (i + 1) := hI_95
  obtain ⟨hq, hb, hI_o2⟩ := hI_95
  show Wq _ _ _ _ [(0, str s), (3, .int .i64 (i : Int)), (4, .int .i32 (c : Int)), (5, .bool q), (7, .pointer (some ⟨g_o2, 0, none⟩))] _
  try have hzhb_g4 := hb.size
  refine Wq.next hK_32 <| Wc.seq fun _ hK_96 => ?_
  refine Wc.meet (X := Bool) (fun q2 => [(0, str s), (7, .pointer (some ⟨g_o2, 0, none⟩)), (43, .bool q2)]) (fun q2 wr => q2 = decide (¬ ((65 ≤ c ∧ c ≤ 90) ∨ (97 ≤ c ∧ c ≤ 122) ∨ c = 95) ∧ (i = 0 ∨ c < 48 ∨ 57 < c)) ∧ Below w.heap.size w wr ∧ Its wr g_o2 s (i + 1)) (fun _ hM_97 => ?_) ?_
  ·
   refine Wc.region <| Wl.mv rfl rfl <| Wl.y (y_not rfl) rfl <| Wl.mv rfl rfl ?_
   refine Wl.guardT rfl rfl rfl (fun g_101 => ?_) (fun g_101 => ?_)
   ·
    have g_101_ := g_101
    try simp only [DZ] at g_101
    refine Wl.mv rfl rfl <| Wl.on' rfl rfl g_101_ <| Wl.y (y_eqli rfl rfl) rfl <| Wl.on' rfl rfl g_101_ <| Wl.mv rfl rfl ?_
    refine Wl.guardF rfl rfl rfl (fun g_105 => ?_) (fun g_105 => ?_)
    ·
     have g_105_ := g_105
     try simp only [DZ] at g_105
     refine Wl.off' rfl rfl g_105_ rfl rfl <| Wl.on' rfl rfl g_101_ ?_
     refine Wl.y (y_pickT rfl g_105_ rfl) rfl ?_
     refine Wl.on' rfl rfl g_101_ <| Wl.mv rfl rfl <| Wl.off' rfl rfl rfl rfl rfl <| Wl.off' rfl rfl rfl rfl rfl <| Wl.on' rfl rfl g_101_ <| Wl.y (y_pickT rfl rfl rfl) rfl ?_
     refine Wl.y (y_pickT rfl g_101_ rfl) rfl ?_
     refine Wl.nil ?_
     refine Wq.meet hM_97 (decide (¬ ((65 ≤ c ∧ c ≤ 90) ∨ (97 ≤ c ∧ c ≤ 122) ∨ c = 95) ∧ (i = 0 ∨ c < 48 ∨ 57 < c))) (by repeat first | exact Sub.nil | refine Sub.cons' rfl (by first | rfl | exact bool_eq (by have h1 := hq; rw [g_101] at h1; have h2 := h1.symm; simp only [decide_eq_true_eq, decide_eq_false_iff_not] at h2; rw [Bool.eq_iff_iff]; simp; omega)) ?_) ?_
     exact ⟨rfl, hb, hI_o2⟩
    have g_105_ := g_105
    try simp only [DZ] at g_105
    refine Wl.mv rfl rfl <| Wl.on' rfl rfl g_105_ <| Wl.y (y_lssi rfl rfl) rfl <| Wl.on' rfl rfl g_101_ ?_
    refine Wl.y (y_pickF rfl g_105_ rfl) rfl ?_
    refine Wl.on' rfl rfl g_101_ <| Wl.mv rfl rfl ?_
    refine Wl.guardF rfl rfl rfl (fun g_114 => ?_) (fun g_114 => ?_)
    ·
     have g_114_ := g_114
     try simp only [DZ] at g_114
     refine Wl.off' rfl rfl g_114_ rfl rfl <| Wl.on' rfl rfl g_101_ ?_
     refine Wl.y (y_pickT rfl g_114_ rfl) rfl ?_
     refine Wl.y (y_pickT rfl g_101_ rfl) rfl ?_
     refine Wl.nil ?_
     refine Wq.meet hM_97 (decide (¬ ((65 ≤ c ∧ c ≤ 90) ∨ (97 ≤ c ∧ c ≤ 122) ∨ c = 95) ∧ (i = 0 ∨ c < 48 ∨ 57 < c))) (by repeat first | exact Sub.nil | refine Sub.cons' rfl (by first | rfl | exact bool_eq (by have h1 := hq; rw [g_101] at h1; have h2 := h1.symm; simp only [decide_eq_true_eq, decide_eq_false_iff_not] at h2; rw [Bool.eq_iff_iff]; simp; omega)) ?_) ?_
     exact ⟨rfl, hb, hI_o2⟩
    have g_114_ := g_114
    try simp only [DZ] at g_114
    refine Wl.mv rfl rfl <| Wl.on' rfl rfl g_114_ <| Wl.y (y_gtri rfl rfl) rfl <| Wl.on' rfl rfl g_101_ ?_
    refine Wl.y (y_pickF rfl g_114_ rfl) rfl ?_
    refine Wl.y (y_pickT rfl g_101_ rfl) rfl ?_
    refine Wl.nil ?_
    refine Wq.meet hM_97 (decide (¬ ((65 ≤ c ∧ c ≤ 90) ∨ (97 ≤ c ∧ c ≤ 122) ∨ c = 95) ∧ (i = 0 ∨ c < 48 ∨ 57 < c))) (by repeat first | exact Sub.nil | refine Sub.cons' rfl (by first | rfl | exact bool_eq (by have h1 := hq; rw [g_101] at h1; have h2 := h1.symm; simp only [decide_eq_true_eq, decide_eq_false_iff_not] at h2; rw [Bool.eq_iff_iff]; simp; omega)) ?_) ?_
    exact ⟨rfl, hb, hI_o2⟩
   have g_101_ := g_101
   try simp only [DZ] at g_101
   refine Wl.off' rfl rfl g_101_ rfl rfl <| Wl.off' rfl rfl g_101_ rfl rfl <| Wl.offU rfl rfl rfl <| Wl.offU rfl rfl rfl <| Wl.off' rfl rfl g_101_ rfl rfl <| Wl.off' rfl rfl g_101_ rfl rfl <| Wl.offU rfl rfl rfl <| Wl.offU rfl rfl rfl <| Wl.off' rfl rfl g_101_ rfl rfl ?_
   refine Wl.y (y_pickF rfl g_101_ rfl) rfl ?_
   refine Wl.nil ?_
   refine Wq.meet hM_97 (decide (¬ ((65 ≤ c ∧ c ≤ 90) ∨ (97 ≤ c ∧ c ≤ 122) ∨ c = 95) ∧ (i = 0 ∨ c < 48 ∨ 57 < c))) (by repeat first | exact Sub.nil | refine Sub.cons' rfl (by first | rfl | exact bool_eq (by have h1 := hq; rw [g_101] at h1; have h2 := h1.symm; simp only [decide_eq_true_eq, decide_eq_false_iff_not] at h2; rw [Bool.eq_iff_iff]; simp; omega)) ?_) ?_
   exact ⟨rfl, hb, hI_o2⟩
  rintro q2 wr hI_122
  replace hI_122 : q2 = decide (¬ ((65 ≤ c ∧ c ≤ 90) ∨ (97 ≤ c ∧ c ≤ 122) ∨ c = 95) ∧ (i = 0 ∨ c < 48 ∨ 57 < c)) ∧ Below w.heap.size w wr ∧ Its wr g_o2 s (i + 1) := hI_122
  obtain ⟨hq2, hb, hI_o2⟩ := hI_122
  show Wq _ _ _ _ [(0, str s), (7, .pointer (some ⟨g_o2, 0, none⟩)), (43, .bool q2)] _
  try have hzhb_g5 := hb.size
  refine Wq.next hK_96 ?_
  refine Wc.cond rfl (fun c1_123 => ?_) (fun c1_123 => ?_)
  ·
   have c1_123_ := c1_123
   try simp only [DZ] at c1_123
   have hbad : ¬ ((65 ≤ c ∧ c ≤ 90) ∨ (97 ≤ c ∧ c ≤ 122) ∨ c = 95) ∧ (i = 0 ∨ c < 48 ∨ 57 < c) := by have h := c1_123_; rw [hq2] at h; exact of_decide_eq_true h
   refine Wc.seq fun _ hK_124 => Wc.region <| Wl.sg rfl rfl <| Wl.nil <| Wq.next hK_124 <| Wc.ret ?_
   refine Wq.block_ret (Wq.then_ret (Wq.block_ret (Wq.then_ret ?_)))
   refine ret1 rfl rfl ?_
   exact ⟨_, rfl, bool_eq (by unfold wordV; rw [eq_comm, decide_eq_false_iff_not]; rintro ⟨_, _, h⟩; have hi0 : i = 0 := (by omega); rw [hi0] at hc; omega), hb⟩
  have c1_123_ := c1_123
  try simp only [DZ] at c1_123
  have hgood : ¬ (¬ ((65 ≤ c ∧ c ≤ 90) ∨ (97 ≤ c ∧ c ≤ 122) ∨ c = 95) ∧ (i = 0 ∨ c < 48 ∨ 57 < c)) := by have h := c1_123_; rw [hq2] at h; exact of_decide_eq_false h
  refine Wc.skip <| Wq.block_normal ?_
  refine fun a_ ha_ => hL_7 _ _ (i + 1) (by first | omega | (simp; omega)) (by repeat first | exact Sub.nil | refine Sub.cons' rfl (by first | rfl | exact int_eq (by omega) | exact int_eq (by simp) | (simp; done)) ?_) ?_ a_ ha_
  exact ⟨by omega, fun _ => (by by_cases e : i = 0; (· rw [e] at hc; omega); (· exact hd (by omega))), hb, hI_o2⟩
end Go.Proofs.YtjnabgddjogkbaaGreatDoor
namespace Go.Proofs.YtjnabgddjogkbaaGreatDoor
open Go.RowKit Go.Bw Go.Bw.Fl
set_option linter.unusedVariables false
set_option linter.unusedSimpArgs false
theorem one45LexB : One Tryz.prog 45 := ⟨_, Tryz.underlying45, rfl, by kernel_rfl⟩
theorem one9LexB : One Tryz.prog 9 := ⟨_, Tryz.underlying9, rfl, by kernel_rfl⟩
theorem sz9LexB : (Tryz.prog.info? 9).map (·.size) = some 1 := by kernel_rfl
theorem txt55LexB : Txt Tryz.prog 55 := ⟨_, Tryz.func55, by kernel_rfl, rfl⟩   -- bridleway/lex.letters
theorem txt56LexB : Txt Tryz.prog 56 := ⟨_, Tryz.func56, by kernel_rfl, rfl⟩   -- bridleway/value.Read
theorem txt57LexB : Txt Tryz.prog 57 := ⟨_, Tryz.func57, by kernel_rfl, rfl⟩   -- slices.Contains[[]string,string]
theorem txt58LexB : Txt Tryz.prog 58 := ⟨_, Tryz.func58, by kernel_rfl, rfl⟩   -- bridleway/label.Word
theorem txt59LexB : Txt Tryz.prog 59 := ⟨_, Tryz.func59, by kernel_rfl, rfl⟩   -- slices.IndexFunc[[]string,string]
/-- a variable's one cell -/
def VarAt (w : World) (g : Nat) (v : Value) : Prop := w.cell? ⟨g, 0, none⟩ = some v
theorem VarAt.below {w w' : World} {g : Nat} {v : Value} (h : VarAt w g v) (hb : Below w.heap.size w w') : VarAt w' g v := cell_below hb h
/-- what the library's and lex's variables hold -/
structure Lx (w : World) : Prop where
  lb : Lb w
  keys : ∃ A c, VarAt w 0 (.slice A 17 c) ∧ Rd w 1 A 17 (strs keysV)
  signs : ∃ A c, VarAt w 1 (.slice A 36 c) ∧ Rd w 1 A 36 (strs signsV)
theorem Lx.below {w w' : World} (h : Lx w) (hb : Below w.heap.size w w') : Lx w' :=
  ⟨h.lb.below hb, h.keys.elim fun A h1 => h1.elim fun c h2 => ⟨A, c, h2.1.below hb, h2.2.below hb⟩, h.signs.elim fun A h1 => h1.elim fun c h2 => ⟨A, c, h2.1.below hb, h2.2.below hb⟩⟩
theorem RdIs.rdN {s : List UInt8} {u : Val} {n : Nat} {ok : Bool} (h : RdIs (readV pf uqV s) u n ok) : rdN s = n := by
  unfold Go.Proofs.YtjnabgddjogkbaaGreatDoor.rdN
  rcases h with ⟨_, h⟩ | ⟨_, h, _, h2⟩
  · rw [h]; rfl
  · rw [h, h2]; rfl
noncomputable def tokE (s : List UInt8) : Value := (Tok.mk (tokV s).1 (s.take (tokV s).2) 0).enc
theorem tok_of {s : List UInt8} {k n : Nat} (h : tokV s = (k, n)) : Value.agg #[.int .i64 (k : Int), str (s.take n), .int .i64 0] = tokE s := by unfold tokE; rw [h]; rfl
theorem tok_none {s : List UInt8} (h : tokV s = (0, 0)) : Value.agg #[.int .i64 0, str [], .int .i64 0] = tokE s := by unfold tokE; rw [h]; rfl
theorem tokV_q {s : List UInt8} (h : (s.getD 0 0).toNat = 39) (h0 : 0 < rdN s) : tokV s = (4, rdN s) := by unfold tokV; rw [if_pos (.inl h), if_pos ⟨h, h0⟩]
theorem tokV_n {s : List UInt8} (h : (s.getD 0 0).toNat = 39 ∨ (48 ≤ (s.getD 0 0).toNat ∧ (s.getD 0 0).toNat ≤ 57)) (h0 : ¬ ((s.getD 0 0).toNat = 39 ∧ 0 < rdN s)) (h1 : 0 < max (rdN s) (rdN (45 :: s) - 1) ∧ (s.getD 0 0).toNat ≠ 39) : tokV s = (3, max (rdN s) (rdN (45 :: s) - 1)) := by unfold tokV; rw [if_pos h, if_neg h0, if_pos h1]
theorem tokV_m {s : List UInt8} (h : (s.getD 0 0).toNat = 39 ∨ (48 ≤ (s.getD 0 0).toNat ∧ (s.getD 0 0).toNat ≤ 57)) (h0 : ¬ ((s.getD 0 0).toNat = 39 ∧ 0 < rdN s)) (h1 : ¬ (0 < max (rdN s) (rdN (45 :: s) - 1) ∧ (s.getD 0 0).toNat ≠ 39)) : tokV s = (0, 0) := by unfold tokV; rw [if_pos h, if_neg h0, if_neg h1]
theorem tokV_k {s : List UInt8} (h : ¬ ((s.getD 0 0).toNat = 39 ∨ (48 ≤ (s.getD 0 0).toNat ∧ (s.getD 0 0).toNat ≤ 57))) (h0 : 0 < letN s) (h1 : s.take (letN s) ∈ keysV) : tokV s = (2, letN s) := by unfold tokV; rw [if_neg h, if_pos h0, if_pos h1]
theorem tokV_w {s : List UInt8} (h : ¬ ((s.getD 0 0).toNat = 39 ∨ (48 ≤ (s.getD 0 0).toNat ∧ (s.getD 0 0).toNat ≤ 57))) (h0 : 0 < letN s) (h1 : ¬ s.take (letN s) ∈ keysV) (h2 : wordV (s.take (letN s)) = true) : tokV s = (1, letN s) := by unfold tokV; rw [if_neg h, if_pos h0, if_neg h1, if_pos h2]
theorem tokV_u {s : List UInt8} (h : ¬ ((s.getD 0 0).toNat = 39 ∨ (48 ≤ (s.getD 0 0).toNat ∧ (s.getD 0 0).toNat ≤ 57))) (h0 : 0 < letN s) (h1 : ¬ s.take (letN s) ∈ keysV) (h2 : ¬ wordV (s.take (letN s)) = true) : tokV s = (0, 0) := by unfold tokV; rw [if_neg h, if_pos h0, if_neg h1, if_neg h2]
theorem tokV_s {s x : List UInt8} (h : ¬ ((s.getD 0 0).toNat = 39 ∨ (48 ≤ (s.getD 0 0).toNat ∧ (s.getD 0 0).toNat ≤ 57))) (h0 : ¬ 0 < letN s) (h1 : signsV.find? (fun x => Lib.hasPrefix s x) = some x) : tokV s = (5, x.length) := by unfold tokV; rw [if_neg h, if_neg h0, h1]
theorem tokV_t {s : List UInt8} (h : ¬ ((s.getD 0 0).toNat = 39 ∨ (48 ≤ (s.getD 0 0).toNat ∧ (s.getD 0 0).toNat ≤ 57))) (h0 : ¬ 0 < letN s) (h1 : signsV.find? (fun x => Lib.hasPrefix s x) = none) : tokV s = (0, 0) := by unfold tokV; rw [if_neg h, if_neg h0, h1]
theorem sign_take {s x : List UInt8} (h : Lib.hasPrefix s x = true) : x = s.take x.length := List.prefix_iff_eq_take.1 ((pre_iff _ _).1 h)
theorem token_r (s : List UInt8) (hne : s ≠ []) (hs : s.length ≤ 70368744177664) (w : World) (hX : Lx w) : Ret Tryz.prog 31 [str s] w fun v w' => v = tokE s ∧ Below w.heap.size w w' := by
  have hL := hX.lb
  obtain ⟨A1, c1, hk1, hrk⟩ := hX.keys
  obtain ⟨A2, c2, hk2, hrs⟩ := hX.signs
  obtain ⟨c, hc⟩ : ∃ c, c = s.getD 0 0 := ⟨_, rfl⟩
  have hpos : 0 < s.length := List.length_pos_iff.2 hne
  have hlen := letN_le s
  have hd1 := rdN_le s
  have hd2 := rdN_le (45 :: s)
  simp only [List.length_cons] at hd2
  have hb := Below.refl w.heap.size w
  have hL_hb := hL
  have hk1_hb := hk1
  have hrk_hb := hrk
  have hk2_hb := hk2
  have hrs_hb := hrs
  refine enter Tryz.func31 rfl rfl rfl ?_
  refine Wc.seq fun _ hK_1 => Wc.region ?_
  refine Wl.boxN rfl rfl ?_
  rintro g_o0 w_o0 hg_o0 hn_o0 hs_o0
  have hz_o0 := hs_o0.size
  have hb := hb.trans (hs_o0.mono hb.size)
  have hL := hL_hb.below hb
  have hk1 := hk1_hb.below hb
  have hrk := hrk_hb.below hb
  have hk2 := hk2_hb.below hb
  have hrs := hrs_hb.below hb
  have hB_o0 := hn_o0
  have hl_o0 := hB_o0.lt
  refine Wl.allocN (z := (.agg #[(.int .i64 0), (str []), (.int .i64 0)])) (by kernel_rfl) rfl ?_
  rintro g_o1 w_o1 hg_o1 hn_o1 hs_o1
  have hz_o1 := hs_o1.size
  have hb := hb.trans (hs_o1.mono hb.size)
  have hL := hL_hb.below hb
  have hk1 := hk1_hb.below hb
  have hrk := hrk_hb.below hb
  have hk2 := hk2_hb.below hb
  have hrs := hrs_hb.below hb
  try have hB_o0 := Blk.below hB_o0 hs_o1
  have hB_o1 := hn_o1
  have hl_o1 := hB_o1.lt
  refine Wl.nil <| Wq.next hK_1 <| Wc.seq fun _ hK_4 => Wc.region ?_
  refine Wl.l (l_load one9LexB rfl (by first | exact hB_o0.at rfl | exact hB_o1.at rfl | exact hB_o0.cell 0 | exact hB_o1.cell 0 | assumption)) rfl ?_
  refine Wl.y (y_eq (y_indexs Tryz.underlying9 rfl rfl (by omega) (by omega)) (int_eq (show _ = (c.toNat : Int) by rw [hc]; rfl))) rfl ?_
  refine Wl.sg rfl rfl <| Wl.nil <| Wq.next hK_4 <| Wc.seq fun _ hK_8 => Wc.seq fun _ hK_9 => Wc.region ?_
  refine Wl.l (l_load one9LexB rfl (by first | exact hB_o0.at rfl | exact hB_o1.at rfl | exact hB_o0.cell 0 | exact hB_o1.cell 0 | assumption)) rfl ?_
  refine Wl.call txt55LexB rfl rfl (letters_r s (by omega) _) rfl ?_
  rintro _ w_k0 ⟨rfl, hs_k0⟩
  have hz_k0 := hs_k0.size
  have hb := hb.trans (hs_k0.mono hb.size)
  have hL := hL_hb.below hb
  have hk1 := hk1_hb.below hb
  have hrk := hrk_hb.below hb
  have hk2 := hk2_hb.below hb
  have hrs := hrs_hb.below hb
  try have hB_o0 := Blk.below hB_o0 hs_k0
  try have hB_o1 := Blk.below hB_o1 hs_k0
  refine Wl.sg rfl rfl <| Wl.nil <| Wq.next hK_9 <| Wc.block <| Wc.seq fun _ hK_13 => ?_
  refine Wc.meet (X := Bool) (fun q => [(1, .pointer (some ⟨g_o0, 0, none⟩)), (2, .pointer (some ⟨g_o1, 0, none⟩)), (3, .int .u8 (c.toNat : Int)), (4, .int .i64 (letN s : Nat)), (16, .bool q)]) (fun q wr => q = decide (c.toNat = 39 ∨ (48 ≤ c.toNat ∧ c.toNat ≤ 57)) ∧ Below w.heap.size w wr ∧ Blk wr g_o0 9 [str s] ∧ Blk wr g_o1 43 [.int .i64 0, str [], .int .i64 0]) (fun _ hM_14 => ?_) ?_
  ·
   refine Wc.region <| Wl.mv rfl rfl <| Wl.y (y_eqli rfl rfl) rfl <| Wl.mv rfl rfl ?_
   refine Wl.guardF rfl rfl rfl (fun g_18 => ?_) (fun g_18 => ?_)
   ·
    have g_18_ := g_18
    try simp only [DZ] at g_18
    refine Wl.off' rfl rfl g_18_ rfl rfl <| Wl.off' rfl rfl g_18_ rfl rfl <| Wl.offU rfl rfl rfl <| Wl.offU rfl rfl rfl <| Wl.off' rfl rfl g_18_ rfl rfl ?_
    refine Wl.y (y_pickT rfl g_18_ rfl) rfl ?_
    refine Wl.sg rfl rfl <| Wl.nil ?_
    refine Wq.meet hM_14 (decide (c.toNat = 39 ∨ (48 ≤ c.toNat ∧ c.toNat ≤ 57))) (by repeat first | exact Sub.nil | refine Sub.cons' rfl (by first | rfl | exact bool_eq (by rw [Bool.eq_iff_iff]; simp; omega)) ?_) ?_
    exact ⟨rfl, hb, hB_o0, hB_o1⟩
   have g_18_ := g_18
   try simp only [DZ] at g_18
   refine Wl.mv rfl rfl <| Wl.on' rfl rfl g_18_ <| Wl.y (y_geqi rfl rfl) rfl <| Wl.on' rfl rfl g_18_ <| Wl.mv rfl rfl ?_
   refine Wl.guardT rfl rfl rfl (fun g_24 => ?_) (fun g_24 => ?_)
   ·
    have g_24_ := g_24
    try simp only [DZ] at g_24
    refine Wl.mv rfl rfl <| Wl.on' rfl rfl g_24_ <| Wl.y (y_leqi rfl rfl) rfl <| Wl.on' rfl rfl g_18_ ?_
    refine Wl.y (y_pickT rfl g_24_ rfl) rfl ?_
    refine Wl.y (y_pickF rfl g_18_ rfl) rfl ?_
    refine Wl.sg rfl rfl <| Wl.nil ?_
    refine Wq.meet hM_14 (decide (c.toNat = 39 ∨ (48 ≤ c.toNat ∧ c.toNat ≤ 57))) (by repeat first | exact Sub.nil | refine Sub.cons' rfl (by first | rfl | exact bool_eq (by rw [Bool.eq_iff_iff]; simp; omega)) ?_) ?_
    exact ⟨rfl, hb, hB_o0, hB_o1⟩
   have g_24_ := g_24
   try simp only [DZ] at g_24
   refine Wl.off' rfl rfl g_24_ rfl rfl <| Wl.on' rfl rfl g_18_ ?_
   refine Wl.y (y_pickF rfl g_24_ rfl) rfl ?_
   refine Wl.y (y_pickF rfl g_18_ rfl) rfl ?_
   refine Wl.sg rfl rfl <| Wl.nil ?_
   refine Wq.meet hM_14 (decide (c.toNat = 39 ∨ (48 ≤ c.toNat ∧ c.toNat ≤ 57))) (by repeat first | exact Sub.nil | refine Sub.cons' rfl (by first | rfl | exact bool_eq (by rw [Bool.eq_iff_iff]; simp; omega)) ?_) ?_
   exact ⟨rfl, hb, hB_o0, hB_o1⟩
  rintro q wr hI_33
  replace hI_33 : q = decide (c.toNat = 39 ∨ (48 ≤ c.toNat ∧ c.toNat ≤ 57)) ∧ Below w.heap.size w wr ∧ Blk wr g_o0 9 [str s] ∧ Blk wr g_o1 43 [.int .i64 0, str [], .int .i64 0] := hI_33
  obtain ⟨hq, hb, hB_o0, hB_o1⟩ := hI_33
  show Wq _ _ _ _ [(1, .pointer (some ⟨g_o0, 0, none⟩)), (2, .pointer (some ⟨g_o1, 0, none⟩)), (3, .int .u8 (c.toNat : Int)), (4, .int .i64 (letN s : Nat)), (16, .bool q)] _
  have hL := hL_hb.below hb
  have hk1 := hk1_hb.below hb
  have hrk := hrk_hb.below hb
  have hk2 := hk2_hb.below hb
  have hrs := hrs_hb.below hb
  try have hzhb_g3 := hb.size
  have hlhB_o0_g3 := hB_o0.lt
  have hlhB_o1_g3 := hB_o1.lt
  refine Wq.next hK_13 ?_
  refine Wc.cond rfl (fun c0_34 => ?_) (fun c0_34 => ?_)
  ·
   have c0_34_ := c0_34
   try simp only [DZ] at c0_34
   have hq0 : c.toNat = 39 ∨ (48 ≤ c.toNat ∧ c.toNat ≤ 57) := by have h := c0_34_; rw [hq] at h; exact of_decide_eq_true h
   refine Wc.seq fun _ hK_35 => Wc.region ?_
   refine Wl.l (l_load one9LexB rfl (by first | exact hB_o0.at rfl | exact hB_o1.at rfl | exact hB_o0.cell 0 | exact hB_o1.cell 0 | assumption)) rfl ?_
   refine Wl.call txt56LexB rfl rfl (Read_x s (by omega) _ hL) rfl ?_
   rintro _ w_k1 ⟨⟨u, n, ok, rfl, hr⟩, hs_k1⟩
   have hz_k1 := hs_k1.size
   have hb := hb.trans (hs_k1.mono hb.size)
   have hL := hL_hb.below hb
   have hk1 := hk1_hb.below hb
   have hrk := hrk_hb.below hb
   have hk2 := hk2_hb.below hb
   have hrs := hrs_hb.below hb
   try have hB_o0 := Blk.below hB_o0 hs_k1
   try have hB_o1 := Blk.below hB_o1 hs_k1
   refine Wl.mv rfl rfl <| Wl.y (y_extract rfl rfl) rfl <| Wl.y (y_extract rfl rfl) rfl <| Wl.y (y_extract rfl rfl) rfl ?_
   refine Wl.allocN (z := (.agg #[(.int .i64 0), (.int .i64 0), (.float .f64 0), (str [])])) (by kernel_rfl) rfl ?_
   rintro g_o19 w_o19 hg_o19 hn_o19 hs_o19
   have hz_o19 := hs_o19.size
   have hb := hb.trans (hs_o19.mono hb.size)
   have hL := hL_hb.below hb
   have hk1 := hk1_hb.below hb
   have hrk := hrk_hb.below hb
   have hk2 := hk2_hb.below hb
   have hrs := hrs_hb.below hb
   try have hB_o0 := Blk.below hB_o0 hs_o19
   try have hB_o1 := Blk.below hB_o1 hs_o19
   have hB_o19 := hn_o19
   have hl_o19 := hB_o19.lt
   refine Wl.storeS (by kernel_rfl) rfl rfl hB_o19 rfl rfl ?_
   rintro w_s0 hn_s0 hg_s0
   have hz_s0 := hg_s0.size
   have hb := below_blk hb hg_s0 hb.size (by omega)
   have hL := hL_hb.below hb
   have hk1 := hk1_hb.below hb
   have hrk := hrk_hb.below hb
   have hk2 := hk2_hb.below hb
   have hrs := hrs_hb.below hb
   try have hB_o0 := hB_o0.over hg_s0 (by omega)
   try have hB_o1 := hB_o1.over hg_s0 (by omega)
   have hB_o19 := hn_s0
   refine Wl.sg rfl rfl <| Wl.sg rfl rfl <| Wl.nil <| Wq.next hK_35 <| Wc.seq fun _ hK_45 => Wc.seq fun _ hK_46 => ?_
   have hn := hr.rdN
   refine Wc.meet (X := Bool) (fun q1 => [(1, .pointer (some ⟨g_o0, 0, none⟩)), (2, .pointer (some ⟨g_o1, 0, none⟩)), (3, .int .u8 (c.toNat : Int)), (4, .int .i64 (letN s : Nat)), (6, .int .i64 (rdN s : Nat)), (38, .bool q1)]) (fun q1 wr => q1 = decide (c.toNat = 39 ∧ 0 < rdN s) ∧ Below w.heap.size w wr ∧ Blk wr g_o0 9 [str s] ∧ Blk wr g_o1 43 [.int .i64 0, str [], .int .i64 0]) (fun _ hM_47 => ?_) ?_
   ·
    refine Wc.region <| Wl.mv rfl rfl <| Wl.y (y_eqli rfl rfl) rfl <| Wl.mv rfl rfl ?_
    refine Wl.guardT rfl rfl rfl (fun g_51 => ?_) (fun g_51 => ?_)
    ·
     have g_51_ := g_51
     try simp only [DZ] at g_51
     refine Wl.mv rfl rfl <| Wl.on' rfl rfl g_51_ <| Wl.y (y_gtri rfl rfl) rfl ?_
     refine Wl.y (y_pickT rfl g_51_ rfl) rfl ?_
     refine Wl.nil ?_
     refine Wq.meet hM_47 (decide (c.toNat = 39 ∧ 0 < rdN s)) (by repeat first | exact Sub.nil | refine Sub.cons' rfl (by first | rfl | exact int_eq (by rw [hr.rdN]) | exact bool_eq (by rw [hr.rdN, Bool.eq_iff_iff]; simp; omega)) ?_) ?_
     exact ⟨rfl, hb, hB_o0, hB_o1⟩
    have g_51_ := g_51
    try simp only [DZ] at g_51
    refine Wl.off' rfl rfl g_51_ rfl rfl ?_
    refine Wl.y (y_pickF rfl g_51_ rfl) rfl ?_
    refine Wl.nil ?_
    refine Wq.meet hM_47 (decide (c.toNat = 39 ∧ 0 < rdN s)) (by repeat first | exact Sub.nil | refine Sub.cons' rfl (by first | rfl | exact int_eq (by rw [hr.rdN]) | exact bool_eq (by rw [hr.rdN, Bool.eq_iff_iff]; simp; omega)) ?_) ?_
    exact ⟨rfl, hb, hB_o0, hB_o1⟩
   rintro q1 wr hI_56
   replace hI_56 : q1 = decide (c.toNat = 39 ∧ 0 < rdN s) ∧ Below w.heap.size w wr ∧ Blk wr g_o0 9 [str s] ∧ Blk wr g_o1 43 [.int .i64 0, str [], .int .i64 0] := hI_56
   obtain ⟨hq1, hb, hB_o0, hB_o1⟩ := hI_56
   show Wq _ _ _ _ [(1, .pointer (some ⟨g_o0, 0, none⟩)), (2, .pointer (some ⟨g_o1, 0, none⟩)), (3, .int .u8 (c.toNat : Int)), (4, .int .i64 (letN s : Nat)), (6, .int .i64 (rdN s : Nat)), (38, .bool q1)] _
   have hL := hL_hb.below hb
   have hk1 := hk1_hb.below hb
   have hrk := hrk_hb.below hb
   have hk2 := hk2_hb.below hb
   have hrs := hrs_hb.below hb
   try have hzhb_g5 := hb.size
   have hlhB_o0_g5 := hB_o0.lt
   have hlhB_o1_g5 := hB_o1.lt
   refine Wq.next hK_46 ?_
   refine Wc.cond rfl (fun c1_57 => ?_) (fun c1_57 => ?_)
   ·
    have c1_57_ := c1_57
    try simp only [DZ] at c1_57
    have hq3 : c.toNat = 39 ∧ 0 < rdN s := by have h := c1_57_; rw [hq1] at h; exact of_decide_eq_true h
    refine Wc.seq fun _ hK_58 => Wc.region ?_
    refine Wl.l (l_load one9LexB rfl (by first | exact hB_o0.at rfl | exact hB_o1.at rfl | exact hB_o0.cell 0 | exact hB_o1.cell 0 | assumption)) rfl ?_
    refine Wl.mv rfl rfl ?_
    refine Wl.y (y_eq (y_slicesH Tryz.underlying9 rfl rfl (by omega) (by omega)) (str_eq (show _ = s.take (rdN s) by rw [Int.toNat_natCast]))) rfl ?_
    refine Wl.y (y_buildS (z := [(.int .i64 0), (str []), (.int .i64 0)]) (pl := [(0, 1), (1, 1), (2, 1)]) (cs := [_, _, _]) Tryz.underlying43 (by kernel_rfl) (by kernel_rfl) rfl rfl rfl) rfl ?_
    refine Wl.storeS (by kernel_rfl) rfl rfl hB_o1 rfl rfl ?_
    rintro w_s1 hn_s1 hg_s1
    have hz_s1 := hg_s1.size
    have hb := below_blk hb hg_s1 hb.size (by omega)
    have hL := hL_hb.below hb
    have hk1 := hk1_hb.below hb
    have hrk := hrk_hb.below hb
    have hk2 := hk2_hb.below hb
    have hrs := hrs_hb.below hb
    have hB_o1 := hn_s1
    refine Wl.nil <| Wq.next hK_58 <| Wc.ret ?_
    refine Wq.then_ret (Wq.block_ret (Wq.then_ret ?_))
    refine retN (rs := [.cell 2 43]) (vs := [_]) rfl (.cell rfl (loadS Tryz.underlying43 (by kernel_rfl) (fun j u hu => hB_o1.at hu)) .nil) ?_
    exact ⟨_, rfl, tok_of (tokV_q (by rw [← hc]; exact hq3.1) hq3.2), hb⟩
   have c1_57_ := c1_57
   try simp only [DZ] at c1_57
   have hq3 : ¬ (c.toNat = 39 ∧ 0 < rdN s) := by have h := c1_57_; rw [hq1] at h; exact of_decide_eq_false h
   refine Wc.skip <| Wq.next hK_45 <| Wc.seq fun _ hK_63 => Wc.region ?_
   refine Wl.l (l_load one9LexB rfl (by first | exact hB_o0.at rfl | exact hB_o1.at rfl | exact hB_o0.cell 0 | exact hB_o1.cell 0 | assumption)) rfl ?_
   refine Wl.y (y_eq (y_adds rfl rfl (by first | omega | (simp; done) | (simp; omega))) (str_eq (show _ = 45 :: s by rfl))) rfl ?_
   refine Wl.call txt56LexB rfl rfl (Read_x (45 :: s) (by show s.length + 1 ≤ _; omega) _ hL) rfl ?_
   rintro _ w_k2 ⟨⟨u2, m, ok2, rfl, hr2⟩, hs_k2⟩
   have hz_k2 := hs_k2.size
   have hb := hb.trans (hs_k2.mono hb.size)
   have hL := hL_hb.below hb
   have hk1 := hk1_hb.below hb
   have hrk := hrk_hb.below hb
   have hk2 := hk2_hb.below hb
   have hrs := hrs_hb.below hb
   try have hB_o0 := Blk.below hB_o0 hs_k2
   try have hB_o1 := Blk.below hB_o1 hs_k2
   refine Wl.mv rfl rfl <| Wl.y (y_extract rfl rfl) rfl <| Wl.y (y_extract rfl rfl) rfl <| Wl.y (y_extract rfl rfl) rfl ?_
   refine Wl.allocN (z := (.agg #[(.int .i64 0), (.int .i64 0), (.float .f64 0), (str [])])) (by kernel_rfl) rfl ?_
   rintro g_o35 w_o35 hg_o35 hn_o35 hs_o35
   have hz_o35 := hs_o35.size
   have hb := hb.trans (hs_o35.mono hb.size)
   have hL := hL_hb.below hb
   have hk1 := hk1_hb.below hb
   have hrk := hrk_hb.below hb
   have hk2 := hk2_hb.below hb
   have hrs := hrs_hb.below hb
   try have hB_o0 := Blk.below hB_o0 hs_o35
   try have hB_o1 := Blk.below hB_o1 hs_o35
   have hB_o35 := hn_o35
   have hl_o35 := hB_o35.lt
   refine Wl.storeS (by kernel_rfl) rfl rfl hB_o35 rfl rfl ?_
   rintro w_s2 hn_s2 hg_s2
   have hz_s2 := hg_s2.size
   have hb := below_blk hb hg_s2 hb.size (by omega)
   have hL := hL_hb.below hb
   have hk1 := hk1_hb.below hb
   have hrk := hrk_hb.below hb
   have hk2 := hk2_hb.below hb
   have hrs := hrs_hb.below hb
   try have hB_o0 := hB_o0.over hg_s2 (by omega)
   try have hB_o1 := hB_o1.over hg_s2 (by omega)
   have hB_o35 := hn_s2
   have hm_ := hr2.rdN
   refine Wl.sg rfl rfl <| Wl.sg rfl rfl <| Wl.nil <| Wq.next hK_63 <| Wc.seq fun _ hK_74 => ?_
   refine Wc.meet (X := Bool) (fun q4 => [(1, .pointer (some ⟨g_o0, 0, none⟩)), (2, .pointer (some ⟨g_o1, 0, none⟩)), (3, .int .u8 (c.toNat : Int)), (4, .int .i64 (letN s : Nat)), (6, .int .i64 (rdN s : Nat)), (9, .int .i64 (rdN (45 :: s) : Nat)), (58, .bool q4)]) (fun q4 wr => q4 = decide (0 < max (rdN s) (rdN (45 :: s) - 1) ∧ c.toNat ≠ 39) ∧ Below w.heap.size w wr ∧ Blk wr g_o0 9 [str s] ∧ Blk wr g_o1 43 [.int .i64 0, str [], .int .i64 0]) (fun _ hM_75 => ?_) ?_
   ·
    refine Wc.region <| Wl.mv rfl rfl <| Wl.mv rfl rfl ?_
    refine Wl.y (y_subI rfl rfl (by first | omega | (simp; done) | (simp; omega)) (by first | omega | (simp; done) | (simp; omega))) rfl ?_
    refine Wl.y (y_max rfl rfl) rfl <| Wl.y (y_gtri rfl rfl) rfl <| Wl.mv rfl rfl ?_
    refine Wl.guardT rfl rfl rfl (fun g_82 => ?_) (fun g_82 => ?_)
    ·
     have g_82_ := g_82
     try simp only [DZ] at g_82
     refine Wl.mv rfl rfl <| Wl.on' rfl rfl g_82_ <| Wl.y (y_neqi rfl rfl) rfl ?_
     refine Wl.y (y_pickT rfl g_82_ rfl) rfl ?_
     refine Wl.nil ?_
     refine Wq.meet hM_75 (decide (0 < max (rdN s) (rdN (45 :: s) - 1) ∧ c.toNat ≠ 39)) (by repeat first | exact Sub.nil | refine Sub.cons' rfl (by first | rfl | exact int_eq (by rw [hr2.rdN]) | exact bool_eq (by rw [hr2.rdN, Bool.eq_iff_iff]; simp; omega)) ?_) ?_
     exact ⟨rfl, hb, hB_o0, hB_o1⟩
    have g_82_ := g_82
    try simp only [DZ] at g_82
    refine Wl.off' rfl rfl g_82_ rfl rfl ?_
    refine Wl.y (y_pickF rfl g_82_ rfl) rfl ?_
    refine Wl.nil ?_
    refine Wq.meet hM_75 (decide (0 < max (rdN s) (rdN (45 :: s) - 1) ∧ c.toNat ≠ 39)) (by repeat first | exact Sub.nil | refine Sub.cons' rfl (by first | rfl | exact int_eq (by rw [hr2.rdN]) | exact bool_eq (by rw [hr2.rdN, Bool.eq_iff_iff]; simp; omega)) ?_) ?_
    exact ⟨rfl, hb, hB_o0, hB_o1⟩
   rintro q4 wr hI_87
   replace hI_87 : q4 = decide (0 < max (rdN s) (rdN (45 :: s) - 1) ∧ c.toNat ≠ 39) ∧ Below w.heap.size w wr ∧ Blk wr g_o0 9 [str s] ∧ Blk wr g_o1 43 [.int .i64 0, str [], .int .i64 0] := hI_87
   obtain ⟨hq4, hb, hB_o0, hB_o1⟩ := hI_87
   show Wq _ _ _ _ [(1, .pointer (some ⟨g_o0, 0, none⟩)), (2, .pointer (some ⟨g_o1, 0, none⟩)), (3, .int .u8 (c.toNat : Int)), (4, .int .i64 (letN s : Nat)), (6, .int .i64 (rdN s : Nat)), (9, .int .i64 (rdN (45 :: s) : Nat)), (58, .bool q4)] _
   have hL := hL_hb.below hb
   have hk1 := hk1_hb.below hb
   have hrk := hrk_hb.below hb
   have hk2 := hk2_hb.below hb
   have hrs := hrs_hb.below hb
   try have hzhb_g8 := hb.size
   have hlhB_o0_g8 := hB_o0.lt
   have hlhB_o1_g8 := hB_o1.lt
   refine Wq.next hK_74 ?_
   refine Wc.cond rfl (fun c2_88 => ?_) (fun c2_88 => ?_)
   ·
    have c2_88_ := c2_88
    try simp only [DZ] at c2_88
    have hq5 : 0 < max (rdN s) (rdN (45 :: s) - 1) ∧ c.toNat ≠ 39 := by have h := c2_88_; rw [hq4] at h; exact of_decide_eq_true h
    refine Wc.seq fun _ hK_89 => Wc.region ?_
    refine Wl.l (l_load one9LexB rfl (by first | exact hB_o0.at rfl | exact hB_o1.at rfl | exact hB_o0.cell 0 | exact hB_o1.cell 0 | assumption)) rfl ?_
    refine Wl.mv rfl rfl <| Wl.mv rfl rfl ?_
    refine Wl.y (y_subI rfl rfl (by first | omega | (simp; done) | (simp; omega)) (by first | omega | (simp; done) | (simp; omega))) rfl ?_
    refine Wl.y (y_eq (y_max rfl rfl) (int_eq (show _ = ((max (rdN s) (rdN (45 :: s) - 1) : Nat) : Int) by omega))) rfl ?_
    refine Wl.y (y_eq (y_slicesH Tryz.underlying9 rfl rfl (by omega) (by omega)) (str_eq (show _ = s.take (max (rdN s) (rdN (45 :: s) - 1)) by rw [Int.toNat_natCast]))) rfl ?_
    refine Wl.y (y_buildS (z := [(.int .i64 0), (str []), (.int .i64 0)]) (pl := [(0, 1), (1, 1), (2, 1)]) (cs := [_, _, _]) Tryz.underlying43 (by kernel_rfl) (by kernel_rfl) rfl rfl rfl) rfl ?_
    refine Wl.storeS (by kernel_rfl) rfl rfl hB_o1 rfl rfl ?_
    rintro w_s3 hn_s3 hg_s3
    have hz_s3 := hg_s3.size
    have hb := below_blk hb hg_s3 hb.size (by omega)
    have hL := hL_hb.below hb
    have hk1 := hk1_hb.below hb
    have hrk := hrk_hb.below hb
    have hk2 := hk2_hb.below hb
    have hrs := hrs_hb.below hb
    have hB_o1 := hn_s3
    refine Wl.nil <| Wq.next hK_89 <| Wc.ret ?_
    refine Wq.block_ret (Wq.then_ret ?_)
    refine retN (rs := [.cell 2 43]) (vs := [_]) rfl (.cell rfl (loadS Tryz.underlying43 (by kernel_rfl) (fun j u hu => hB_o1.at hu)) .nil) ?_
    exact ⟨_, rfl, tok_of (tokV_n (by rw [← hc]; exact hq0) (by rw [← hc]; exact hq3) (by rw [← hc]; exact hq5)), hb⟩
   have c2_88_ := c2_88
   try simp only [DZ] at c2_88
   have hq5 : ¬ (0 < max (rdN s) (rdN (45 :: s) - 1) ∧ c.toNat ≠ 39) := by have h := c2_88_; rw [hq4] at h; exact of_decide_eq_false h
   refine Wc.skip <| Wq.block_normal <| Wq.next hK_8 <| Wc.seq fun _ hK_97 => Wc.region ?_
   refine Wl.y (y_buildS (z := [(.int .i64 0), (str []), (.int .i64 0)]) (pl := [(0, 1), (1, 1), (2, 1)]) (cs := [_, _, _]) Tryz.underlying43 (by kernel_rfl) (by kernel_rfl) rfl rfl rfl) rfl ?_
   refine Wl.storeS (by kernel_rfl) rfl rfl hB_o1 rfl rfl ?_
   rintro w_s7 hn_s7 hg_s7
   have hz_s7 := hg_s7.size
   have hb := below_blk hb hg_s7 hb.size (by omega)
   have hL := hL_hb.below hb
   have hk1 := hk1_hb.below hb
   have hrk := hrk_hb.below hb
   have hk2 := hk2_hb.below hb
   have hrs := hrs_hb.below hb
   have hB_o1 := hn_s7
   refine Wl.nil <| Wq.next hK_97 <| Wc.ret ?_
   refine retN (rs := [.cell 2 43]) (vs := [_]) rfl (.cell rfl (loadS Tryz.underlying43 (by kernel_rfl) (fun j u hu => hB_o1.at hu)) .nil) ?_
   exact ⟨_, rfl, tok_none (tokV_m (by rw [← hc]; exact hq0) (by rw [← hc]; exact hq3) (by rw [← hc]; exact hq5)), hb⟩
  have c0_34_ := c0_34
  try simp only [DZ] at c0_34
  have hq0 : ¬ (c.toNat = 39 ∨ (48 ≤ c.toNat ∧ c.toNat ≤ 57)) := by have h := c0_34_; rw [hq] at h; exact of_decide_eq_false h
  refine Wc.seq fun _ hK_99 => ?_
  refine Wc.meet (X := Bool) (fun q6 => [(1, .pointer (some ⟨g_o0, 0, none⟩)), (2, .pointer (some ⟨g_o1, 0, none⟩)), (3, .int .u8 (c.toNat : Int)), (4, .int .i64 (letN s : Nat)), (66, .bool q6)]) (fun q6 wr => q6 = decide (0 < letN s ∧ s.take (letN s) ∈ keysV) ∧ Below w.heap.size w wr ∧ Blk wr g_o0 9 [str s] ∧ Blk wr g_o1 43 [.int .i64 0, str [], .int .i64 0]) (fun _ hM_100 => ?_) ?_
  ·
   refine Wc.any (n := 10) (fun w' => Below w.heap.size w w' ∧ Blk w' g_o0 9 [str s] ∧ Blk w' g_o1 43 [.int .i64 0, str [], .int .i64 0]) #[false, false, false, false, false, false, false, false, false, false] (by kernel_rfl) rfl (by kernel_rfl) ?_
   refine Wa.drew ?_
   rintro w_g10 hs_g10
   have hz_g10 := hs_g10.size
   have hb := hb.trans (hs_g10.mono hb.size)
   have hL := hL_hb.below hb
   have hk1 := hk1_hb.below hb
   have hrk := hrk_hb.below hb
   have hk2 := hk2_hb.below hb
   have hrs := hrs_hb.below hb
   try have hB_o0 := Blk.below hB_o0 hs_g10
   try have hB_o1 := Blk.below hB_o1 hs_g10
   refine Wa.take (i := 0) #[true, false, false, false, false, false, false, false, false, false] rfl (by kernel_rfl) (fun _ _ _ h => h) rfl (fun wq hq => Yl.ld (y_move rfl)) ⟨hb, hB_o0, hB_o1⟩ ?_
   refine Wa.take (i := 1) #[true, true, false, false, false, false, false, false, false, false] rfl (by kernel_rfl) (fun _ _ _ h => h) rfl (fun wq hq => Yl.ld (y_gtri rfl rfl)) ⟨hb, hB_o0, hB_o1⟩ ?_
   refine Wa.take (i := 2) #[true, true, true, false, false, false, false, false, false, false] rfl (by kernel_rfl) (fun _ _ _ h => h) rfl (fun wq hq => Yl.ld (y_move rfl)) ⟨hb, hB_o0, hB_o1⟩ ?_
   refine Wa.split (s := 69) rfl (fun g_104 => ?_) (fun g_104 => ?_)
   ·
    have g_104_ := g_104
    try simp only [DZ] at g_104
    refine Wa.takeOn (i := 3) #[true, true, true, true, false, false, false, false, false, false] rfl rfl rfl g_104_ (by kernel_rfl) (fun _ _ _ h => h) rfl (fun wq hq => l_load one45LexB rfl (by obtain ⟨hq, hB_o0, hB_o1⟩ := hq; exact hk1_hb.below hq)) ⟨hb, hB_o0, hB_o1⟩ ?_
    refine Wa.takeOn (i := 4) #[true, true, true, true, true, false, false, false, false, false] rfl rfl rfl g_104_ (by kernel_rfl) (fun _ _ _ h => h) rfl (fun wq hq => l_load one9LexB rfl (by obtain ⟨hq, hB_o0, hB_o1⟩ := hq; first | exact hB_o0.at rfl | exact hB_o1.at rfl | exact hB_o0.cell 0 | exact hB_o1.cell 0 | assumption)) ⟨hb, hB_o0, hB_o1⟩ ?_
    refine Wa.takeOn (i := 5) #[true, true, true, true, true, true, false, false, false, false] rfl rfl rfl g_104_ (by kernel_rfl) (fun _ _ _ h => h) rfl (fun wq hq => Yl.ld (y_move rfl)) ⟨hb, hB_o0, hB_o1⟩ ?_
    refine Wa.takeOn (i := 6) #[true, true, true, true, true, true, true, false, false, false] rfl rfl rfl g_104_ (by kernel_rfl) (fun _ _ _ h => h) rfl (fun wq hq => Yl.ld (y_eq (y_slicesH Tryz.underlying9 rfl rfl (by omega) (by omega)) (str_eq (show _ = s.take (letN s) by rw [Int.toNat_natCast])))) ⟨hb, hB_o0, hB_o1⟩ ?_
    refine Wa.some (rs := [7]) (by kernel_rfl) rfl ?_
    refine Ws.cons #[true, true, true, true, true, true, true, true, false, false] rfl rfl (fun _ hK_109 => ?_) ?_
    ·
     refine Wl.on' rfl rfl g_104_ ?_
     refine Wl.call txt57LexB rfl rfl (SContains_r A1 c1 keysV (s.take (letN s)) (by decide) _ hrk) rfl ?_
     rintro _ w_k3 ⟨rfl, hs_k3⟩
     have hz_k3 := hs_k3.size
     have hb := hb.trans (hs_k3.mono hb.size)
     have hL := hL_hb.below hb
     have hk1 := hk1_hb.below hb
     have hrk := hrk_hb.below hb
     have hk2 := hk2_hb.below hb
     have hrs := hrs_hb.below hb
     try have hB_o0 := Blk.below hB_o0 hs_k3
     try have hB_o1 := Blk.below hB_o1 hs_k3
     refine Wl.nil ?_
     refine Wq.back hK_109 ⟨hb, hB_o0, hB_o1⟩ ?_
     refine Wa.take (i := 8) #[true, true, true, true, true, true, true, true, true, false] rfl (by kernel_rfl) (fun _ _ _ h => h) rfl (fun wq hq => Yl.ld (y_pickT rfl g_104_ rfl)) ⟨hb, hB_o0, hB_o1⟩ ?_
     refine Wa.take (i := 9) #[true, true, true, true, true, true, true, true, true, true] rfl (by kernel_rfl) (fun _ _ _ h => h) rfl (fun wq hq => Yl.ld (y_assign rfl)) ⟨hb, hB_o0, hB_o1⟩ ?_
     refine Wa.done (by kernel_rfl) ?_
     refine Wq.meet hM_100 (decide (0 < letN s ∧ s.take (letN s) ∈ keysV)) (by repeat first | exact Sub.nil | refine Sub.cons' rfl (by first | rfl | exact bool_eq (by rw [Bool.eq_iff_iff]; simp_all)) ?_) ?_
     exact ⟨rfl, hb, hB_o0, hB_o1⟩
    exact Ws.nil
   have g_104_ := g_104
   try simp only [DZ] at g_104
   refine Wa.takeOff (i := 3) #[true, true, true, true, false, false, false, false, false, false] rfl rfl rfl g_104_ (by kernel_rfl) (fun _ _ _ h => h) rfl ⟨hb, hB_o0, hB_o1⟩ ?_
   refine Wa.takeOff (i := 4) #[true, true, true, true, true, false, false, false, false, false] rfl rfl rfl g_104_ (by kernel_rfl) (fun _ _ _ h => h) rfl ⟨hb, hB_o0, hB_o1⟩ ?_
   refine Wa.takeOff (i := 5) #[true, true, true, true, true, true, false, false, false, false] rfl rfl rfl g_104_ (by kernel_rfl) (fun _ _ _ h => h) rfl ⟨hb, hB_o0, hB_o1⟩ ?_
   refine Wa.takeOff (i := 6) #[true, true, true, true, true, true, true, false, false, false] rfl rfl rfl g_104_ (by kernel_rfl) (fun _ _ _ h => h) rfl ⟨hb, hB_o0, hB_o1⟩ ?_
   refine Wa.takeOff (i := 7) #[true, true, true, true, true, true, true, true, false, false] rfl rfl rfl g_104_ (by kernel_rfl) (fun _ _ _ h => h) rfl ⟨hb, hB_o0, hB_o1⟩ ?_
   refine Wa.take (i := 8) #[true, true, true, true, true, true, true, true, true, false] rfl (by kernel_rfl) (fun _ _ _ h => h) rfl (fun wq hq => Yl.ld (y_pickF rfl g_104_ rfl)) ⟨hb, hB_o0, hB_o1⟩ ?_
   refine Wa.take (i := 9) #[true, true, true, true, true, true, true, true, true, true] rfl (by kernel_rfl) (fun _ _ _ h => h) rfl (fun wq hq => Yl.ld (y_assign rfl)) ⟨hb, hB_o0, hB_o1⟩ ?_
   refine Wa.done (by kernel_rfl) ?_
   refine Wq.meet hM_100 (decide (0 < letN s ∧ s.take (letN s) ∈ keysV)) (by repeat first | exact Sub.nil | refine Sub.cons' rfl (by first | rfl | exact bool_eq (by rw [Bool.eq_iff_iff]; simp_all)) ?_) ?_
   exact ⟨rfl, hb, hB_o0, hB_o1⟩
  rintro q6 wr hI_115
  replace hI_115 : q6 = decide (0 < letN s ∧ s.take (letN s) ∈ keysV) ∧ Below w.heap.size w wr ∧ Blk wr g_o0 9 [str s] ∧ Blk wr g_o1 43 [.int .i64 0, str [], .int .i64 0] := hI_115
  obtain ⟨hq6, hb, hB_o0, hB_o1⟩ := hI_115
  show Wq _ _ _ _ [(1, .pointer (some ⟨g_o0, 0, none⟩)), (2, .pointer (some ⟨g_o1, 0, none⟩)), (3, .int .u8 (c.toNat : Int)), (4, .int .i64 (letN s : Nat)), (66, .bool q6)] _
  have hL := hL_hb.below hb
  have hk1 := hk1_hb.below hb
  have hrk := hrk_hb.below hb
  have hk2 := hk2_hb.below hb
  have hrs := hrs_hb.below hb
  try have hzhb_g10 := hb.size
  have hlhB_o0_g10 := hB_o0.lt
  have hlhB_o1_g10 := hB_o1.lt
  refine Wq.next hK_99 ?_
  refine Wc.cond rfl (fun c3_116 => ?_) (fun c3_116 => ?_)
  ·
   have c3_116_ := c3_116
   try simp only [DZ] at c3_116
   have hq7 : 0 < letN s ∧ s.take (letN s) ∈ keysV := by have h := c3_116_; rw [hq6] at h; exact of_decide_eq_true h
   refine Wc.seq fun _ hK_117 => Wc.region ?_
   refine Wl.l (l_load one9LexB rfl (by first | exact hB_o0.at rfl | exact hB_o1.at rfl | exact hB_o0.cell 0 | exact hB_o1.cell 0 | assumption)) rfl ?_
   refine Wl.mv rfl rfl ?_
   refine Wl.y (y_eq (y_slicesH Tryz.underlying9 rfl rfl (by omega) (by omega)) (str_eq (show _ = s.take (letN s) by rw [Int.toNat_natCast]))) rfl ?_
   refine Wl.y (y_buildS (z := [(.int .i64 0), (str []), (.int .i64 0)]) (pl := [(0, 1), (1, 1), (2, 1)]) (cs := [_, _, _]) Tryz.underlying43 (by kernel_rfl) (by kernel_rfl) rfl rfl rfl) rfl ?_
   refine Wl.storeS (by kernel_rfl) rfl rfl hB_o1 rfl rfl ?_
   rintro w_s4 hn_s4 hg_s4
   have hz_s4 := hg_s4.size
   have hb := below_blk hb hg_s4 hb.size (by omega)
   have hL := hL_hb.below hb
   have hk1 := hk1_hb.below hb
   have hrk := hrk_hb.below hb
   have hk2 := hk2_hb.below hb
   have hrs := hrs_hb.below hb
   have hB_o1 := hn_s4
   refine Wl.nil <| Wq.next hK_117 <| Wc.ret ?_
   refine Wq.block_ret (Wq.then_ret ?_)
   refine retN (rs := [.cell 2 43]) (vs := [_]) rfl (.cell rfl (loadS Tryz.underlying43 (by kernel_rfl) (fun j u hu => hB_o1.at hu)) .nil) ?_
   exact ⟨_, rfl, tok_of (tokV_k (by rw [← hc]; exact hq0) hq7.1 hq7.2), hb⟩
  have c3_116_ := c3_116
  try simp only [DZ] at c3_116
  have hq7 : ¬ (0 < letN s ∧ s.take (letN s) ∈ keysV) := by have h := c3_116_; rw [hq6] at h; exact of_decide_eq_false h
  refine Wc.seq fun _ hK_122 => ?_
  refine Wc.meet (X := Bool) (fun q8 => [(1, .pointer (some ⟨g_o0, 0, none⟩)), (2, .pointer (some ⟨g_o1, 0, none⟩)), (3, .int .u8 (c.toNat : Int)), (4, .int .i64 (letN s : Nat)), (80, .bool q8)]) (fun q8 wr => q8 = decide (0 < letN s ∧ wordV (s.take (letN s)) = true) ∧ Below w.heap.size w wr ∧ Blk wr g_o0 9 [str s] ∧ Blk wr g_o1 43 [.int .i64 0, str [], .int .i64 0]) (fun _ hM_123 => ?_) ?_
  ·
   refine Wc.region <| Wl.mv rfl rfl <| Wl.y (y_gtri rfl rfl) rfl <| Wl.mv rfl rfl ?_
   refine Wl.guardT rfl rfl rfl (fun g_127 => ?_) (fun g_127 => ?_)
   ·
    have g_127_ := g_127
    try simp only [DZ] at g_127
    refine Wl.l (l_load one9LexB rfl (by first | exact hB_o0.at rfl | exact hB_o1.at rfl | exact hB_o0.cell 0 | exact hB_o1.cell 0 | assumption)) rfl ?_
    refine Wl.on' rfl rfl g_127_ <| Wl.mv rfl rfl <| Wl.on' rfl rfl g_127_ ?_
    refine Wl.y (y_eq (y_slicesH Tryz.underlying9 rfl rfl (by omega) (by omega)) (str_eq (show _ = s.take (letN s) by rw [Int.toNat_natCast]))) rfl ?_
    refine Wl.on' rfl rfl g_127_ ?_
    refine Wl.call txt58LexB rfl rfl (Word_r (s.take (letN s)) (letN_all s) (Nat.le_trans (List.length_take_le _ _) (by omega)) _) rfl ?_
    rintro _ w_k4 ⟨rfl, hs_k4⟩
    have hz_k4 := hs_k4.size
    have hb := hb.trans (hs_k4.mono hb.size)
    have hL := hL_hb.below hb
    have hk1 := hk1_hb.below hb
    have hrk := hrk_hb.below hb
    have hk2 := hk2_hb.below hb
    have hrs := hrs_hb.below hb
    try have hB_o0 := Blk.below hB_o0 hs_k4
    try have hB_o1 := Blk.below hB_o1 hs_k4
    refine Wl.y (y_pickT rfl g_127_ rfl) rfl ?_
    refine Wl.sg rfl rfl <| Wl.nil ?_
    refine Wq.meet hM_123 (decide (0 < letN s ∧ wordV (s.take (letN s)) = true)) (by repeat first | exact Sub.nil | refine Sub.cons' rfl (by first | rfl | exact bool_eq (by rw [Bool.eq_iff_iff]; simp_all)) ?_) ?_
    exact ⟨rfl, hb, hB_o0, hB_o1⟩
   have g_127_ := g_127
   try simp only [DZ] at g_127
   refine Wl.off' rfl rfl g_127_ rfl rfl <| Wl.off' rfl rfl g_127_ rfl rfl <| Wl.off' rfl rfl g_127_ rfl rfl ?_
   refine Wl.y (y_pickF rfl g_127_ rfl) rfl ?_
   refine Wl.sg rfl rfl <| Wl.nil ?_
   refine Wq.meet hM_123 (decide (0 < letN s ∧ wordV (s.take (letN s)) = true)) (by repeat first | exact Sub.nil | refine Sub.cons' rfl (by first | rfl | exact bool_eq (by rw [Bool.eq_iff_iff]; simp_all)) ?_) ?_
   exact ⟨rfl, hb, hB_o0, hB_o1⟩
  rintro q8 wr hI_136
  replace hI_136 : q8 = decide (0 < letN s ∧ wordV (s.take (letN s)) = true) ∧ Below w.heap.size w wr ∧ Blk wr g_o0 9 [str s] ∧ Blk wr g_o1 43 [.int .i64 0, str [], .int .i64 0] := hI_136
  obtain ⟨hq8, hb, hB_o0, hB_o1⟩ := hI_136
  show Wq _ _ _ _ [(1, .pointer (some ⟨g_o0, 0, none⟩)), (2, .pointer (some ⟨g_o1, 0, none⟩)), (3, .int .u8 (c.toNat : Int)), (4, .int .i64 (letN s : Nat)), (80, .bool q8)] _
  have hL := hL_hb.below hb
  have hk1 := hk1_hb.below hb
  have hrk := hrk_hb.below hb
  have hk2 := hk2_hb.below hb
  have hrs := hrs_hb.below hb
  try have hzhb_g12 := hb.size
  have hlhB_o0_g12 := hB_o0.lt
  have hlhB_o1_g12 := hB_o1.lt
  refine Wq.next hK_122 ?_
  refine Wc.cond rfl (fun c4_137 => ?_) (fun c4_137 => ?_)
  ·
   have c4_137_ := c4_137
   try simp only [DZ] at c4_137
   have hq9 : 0 < letN s ∧ wordV (s.take (letN s)) = true := by have h := c4_137_; rw [hq8] at h; exact of_decide_eq_true h
   refine Wc.seq fun _ hK_138 => Wc.region ?_
   refine Wl.l (l_load one9LexB rfl (by first | exact hB_o0.at rfl | exact hB_o1.at rfl | exact hB_o0.cell 0 | exact hB_o1.cell 0 | assumption)) rfl ?_
   refine Wl.mv rfl rfl ?_
   refine Wl.y (y_eq (y_slicesH Tryz.underlying9 rfl rfl (by omega) (by omega)) (str_eq (show _ = s.take (letN s) by rw [Int.toNat_natCast]))) rfl ?_
   refine Wl.y (y_buildS (z := [(.int .i64 0), (str []), (.int .i64 0)]) (pl := [(0, 1), (1, 1), (2, 1)]) (cs := [_, _, _]) Tryz.underlying43 (by kernel_rfl) (by kernel_rfl) rfl rfl rfl) rfl ?_
   refine Wl.storeS (by kernel_rfl) rfl rfl hB_o1 rfl rfl ?_
   rintro w_s5 hn_s5 hg_s5
   have hz_s5 := hg_s5.size
   have hb := below_blk hb hg_s5 hb.size (by omega)
   have hL := hL_hb.below hb
   have hk1 := hk1_hb.below hb
   have hrk := hrk_hb.below hb
   have hk2 := hk2_hb.below hb
   have hrs := hrs_hb.below hb
   have hB_o1 := hn_s5
   refine Wl.nil <| Wq.next hK_138 <| Wc.ret ?_
   refine Wq.block_ret (Wq.then_ret ?_)
   refine retN (rs := [.cell 2 43]) (vs := [_]) rfl (.cell rfl (loadS Tryz.underlying43 (by kernel_rfl) (fun j u hu => hB_o1.at hu)) .nil) ?_
   exact ⟨_, rfl, tok_of (tokV_w (by rw [← hc]; exact hq0) hq9.1 (fun h => hq7 ⟨hq9.1, h⟩) hq9.2), hb⟩
  have c4_137_ := c4_137
  try simp only [DZ] at c4_137
  have hq9 : ¬ (0 < letN s ∧ wordV (s.take (letN s)) = true) := by have h := c4_137_; rw [hq8] at h; exact of_decide_eq_false h
  refine Wc.seq fun _ hK_143 => Wc.region <| Wl.mv rfl rfl <| Wl.y (y_eqli rfl rfl) rfl <| Wl.sg rfl rfl <| Wl.nil <| Wq.next hK_143 ?_
  refine Wc.cond rfl (fun c5_147 => ?_) (fun c5_147 => ?_)
  ·
   have c5_147_ := c5_147
   try simp only [DZ] at c5_147
   refine Wc.seq fun _ hK_148 => Wc.region ?_
   refine Wl.l (l_load one45LexB rfl (by exact hk2)) rfl ?_
   refine Wl.y (y_makeFunc rfl rfl) rfl ?_
   refine Wl.call txt59LexB rfl rfl (SIndexFunc_r A2 c2 signsV g_o0 s (by decide) _ hrs hB_o0) rfl ?_
   rintro _ w_k5 ⟨⟨z, rfl, hz⟩, hs_k5⟩
   have hz_k5 := hs_k5.size
   have hb := hb.trans (hs_k5.mono hb.size)
   have hL := hL_hb.below hb
   have hk1 := hk1_hb.below hb
   have hrk := hrk_hb.below hb
   have hk2 := hk2_hb.below hb
   have hrs := hrs_hb.below hb
   try have hB_o1 := Blk.below hB_o1 hs_k5
   refine Wl.sg rfl rfl <| Wl.nil <| Wq.next hK_148 <| Wc.seq fun _ hK_153 => Wc.region <| Wl.mv rfl rfl <| Wl.y (y_geqi rfl rfl) rfl <| Wl.nil <| Wq.next hK_153 ?_
   refine Wc.cond rfl (fun c6_156 => ?_) (fun c6_156 => ?_)
   ·
    have c6_156_ := c6_156
    try simp only [DZ] at c6_156
    obtain ⟨k, rfl, hk36, hfind⟩ : ∃ k : Nat, z = k ∧ k < 36 ∧ signsV.find? (fun x => Lib.hasPrefix s x) = some (signsV.getD k []) := by
      rcases hz with ⟨h, _⟩ | h
      · have := c6_156; omega
      · exact h
    obtain ⟨p_, v_, hpe, hve, hcell⟩ := hrs.one (i := k) hk36
    subst hpe
    obtain rfl := strs_val (l := signsV) hk36 hve
    refine Wc.seq fun _ hK_157 => Wc.region ?_
    refine Wl.l (l_load one45LexB rfl (by exact hk2)) rfl ?_
    refine Wl.mv rfl rfl ?_
    refine Wl.y (y_indexAddr Tryz.underlying45 sz9LexB rfl rfl (by omega) (by omega)) rfl ?_
    refine Wl.l (l_load one9LexB rfl (by exact at1 hcell)) rfl ?_
    refine Wl.y (y_buildS (z := [(.int .i64 0), (str []), (.int .i64 0)]) (pl := [(0, 1), (1, 1), (2, 1)]) (cs := [_, _, _]) Tryz.underlying43 (by kernel_rfl) (by kernel_rfl) rfl rfl rfl) rfl ?_
    refine Wl.storeS (by kernel_rfl) rfl rfl hB_o1 rfl rfl ?_
    rintro w_s6 hn_s6 hg_s6
    have hz_s6 := hg_s6.size
    have hb := below_blk hb hg_s6 hb.size (by omega)
    have hL := hL_hb.below hb
    have hk1 := hk1_hb.below hb
    have hrk := hrk_hb.below hb
    have hk2 := hk2_hb.below hb
    have hrs := hrs_hb.below hb
    have hB_o1 := hn_s6
    refine Wl.nil <| Wq.next hK_157 <| Wc.ret ?_
    refine Wq.block_ret (Wq.then_ret ?_)
    refine retN (rs := [.cell 2 43]) (vs := [_]) rfl (.cell rfl (loadS Tryz.underlying43 (by kernel_rfl) (fun j u hu => hB_o1.at hu)) .nil) ?_
    exact ⟨_, rfl, by rw [← tok_of (tokV_s (by rw [← hc]; exact hq0) (by have := c5_147; omega) hfind), ← sign_take (find_sign hfind).1]; rfl, hb⟩
   have c6_156_ := c6_156
   try simp only [DZ] at c6_156
   refine Wc.skip <| Wq.block_normal <| Wq.next hK_8 <| Wc.seq fun _ hK_163 => Wc.region ?_
   refine Wl.y (y_buildS (z := [(.int .i64 0), (str []), (.int .i64 0)]) (pl := [(0, 1), (1, 1), (2, 1)]) (cs := [_, _, _]) Tryz.underlying43 (by kernel_rfl) (by kernel_rfl) rfl rfl rfl) rfl ?_
   refine Wl.storeS (by kernel_rfl) rfl rfl hB_o1 rfl rfl ?_
   rintro w_s7 hn_s7 hg_s7
   have hz_s7 := hg_s7.size
   have hb := below_blk hb hg_s7 hb.size (by omega)
   have hL := hL_hb.below hb
   have hk1 := hk1_hb.below hb
   have hrk := hrk_hb.below hb
   have hk2 := hk2_hb.below hb
   have hrs := hrs_hb.below hb
   have hB_o1 := hn_s7
   refine Wl.nil <| Wq.next hK_163 <| Wc.ret ?_
   refine retN (rs := [.cell 2 43]) (vs := [_]) rfl (.cell rfl (loadS Tryz.underlying43 (by kernel_rfl) (fun j u hu => hB_o1.at hu)) .nil) ?_
   exact ⟨_, rfl, tok_none (tokV_t (by rw [← hc]; exact hq0) (by have := c5_147; omega) (by rcases hz with h | ⟨k, h, _⟩; (· exact h.2); (· have := c6_156; omega))), hb⟩
  have c5_147_ := c5_147
  try simp only [DZ] at c5_147
  refine Wc.skip <| Wq.block_normal <| Wq.next hK_8 <| Wc.seq fun _ hK_165 => Wc.region ?_
  refine Wl.y (y_buildS (z := [(.int .i64 0), (str []), (.int .i64 0)]) (pl := [(0, 1), (1, 1), (2, 1)]) (cs := [_, _, _]) Tryz.underlying43 (by kernel_rfl) (by kernel_rfl) rfl rfl rfl) rfl ?_
  refine Wl.storeS (by kernel_rfl) rfl rfl hB_o1 rfl rfl ?_
  rintro w_s7 hn_s7 hg_s7
  have hz_s7 := hg_s7.size
  have hb := below_blk hb hg_s7 hb.size (by omega)
  have hL := hL_hb.below hb
  have hk1 := hk1_hb.below hb
  have hrk := hrk_hb.below hb
  have hk2 := hk2_hb.below hb
  have hrs := hrs_hb.below hb
  have hB_o1 := hn_s7
  refine Wl.nil <| Wq.next hK_165 <| Wc.ret ?_
  refine retN (rs := [.cell 2 43]) (vs := [_]) rfl (.cell rfl (loadS Tryz.underlying43 (by kernel_rfl) (fun j u hu => hB_o1.at hu)) .nil) ?_
  exact ⟨_, rfl, tok_none (tokV_u (by rw [← hc]; exact hq0) (by have := c5_147; omega) (fun h => hq7 ⟨by have := c5_147; omega, h⟩) (fun h => hq9 ⟨by have := c5_147; omega, h⟩)), hb⟩
end Go.Proofs.YtjnabgddjogkbaaGreatDoor
namespace Go.Proofs.YtjnabgddjogkbaaGreatDoor
open Go.RowKit Go.Bw Go.Bw.Fl
set_option linter.unusedVariables false
set_option linter.unusedSimpArgs false
theorem fa43_0LexC (p : Addr) (w : World) : (Instr.fieldAt 43 (.pointer (some p)) 0).run Tryz.prog w = .ok (.pointer (some (p.add 0))) w := run_fieldAt (i := 0) (sz := 0) Tryz.underlying43 rfl (by kernel_rfl) p w
theorem fa43_1LexC (p : Addr) (w : World) : (Instr.fieldAt 43 (.pointer (some p)) 1).run Tryz.prog w = .ok (.pointer (some (p.add 1))) w := run_fieldAt (i := 1) (sz := 0) Tryz.underlying43 rfl (by kernel_rfl) p w
theorem fa43_2LexC (p : Addr) (w : World) : (Instr.fieldAt 43 (.pointer (some p)) 2).run Tryz.prog w = .ok (.pointer (some (p.add 2))) w := run_fieldAt (i := 2) (sz := 0) Tryz.underlying43 rfl (by kernel_rfl) p w
theorem one3LexC : One Tryz.prog 3 := ⟨_, Tryz.underlying3, rfl, by kernel_rfl⟩
theorem one9LexC : One Tryz.prog 9 := ⟨_, Tryz.underlying9, rfl, by kernel_rfl⟩
theorem txt30LexC : Txt Tryz.prog 30 := ⟨_, Tryz.func30, by kernel_rfl, rfl⟩   -- strings.IndexByte
theorem txt31LexC : Txt Tryz.prog 31 := ⟨_, Tryz.func31, by kernel_rfl, rfl⟩   -- bridleway/lex.token
theorem idx_mem (c : UInt8) : ∀ l : List UInt8, (0 ≤ Lib.indexByte l c ↔ c ∈ l) ∧ -1 ≤ Lib.indexByte l c
  | [] => by simp [Lib.indexByte]
  | b :: r => by
    have ih := idx_mem c r
    rw [Lib.indexByte]
    by_cases h : b = c
    · subst h; simp
    · have h1 : (b == c) = false := by simpa using h
      rw [h1, if_neg (by simp)]
      by_cases h2 : Lib.indexByte r c = -1
      · rw [h2, if_pos (by simp)]
        rw [h2] at ih
        refine ⟨⟨fun h => by omega, fun hm => ?_⟩, by omega⟩
        rcases List.mem_cons.1 hm with e | e
        · exact absurd e.symm h
        · exact ih.1.2 e
      · rw [if_neg (by simpa using h2)]
        refine ⟨⟨fun _ => List.mem_cons_of_mem _ (ih.1.1 (by omega)), fun _ => by omega⟩, by omega⟩
theorem token_x (s : List UInt8) (hne : s ≠ []) (hs : s.length ≤ 70368744177664) (w : World) (hX : Lx w) : Ret Tryz.prog 31 [str s] w fun v w' => (∃ k n : Nat, v = .agg #[.int .i64 (k : Int), str (s.take n), .int .i64 0] ∧ tokV s = (k, n)) ∧ Below w.heap.size w w' :=
  (token_r s hne hs w hX).mono fun v w' ⟨h1, h2⟩ => ⟨⟨(tokV s).1, (tokV s).2, h1, rfl⟩, h2⟩
/-- what Lex tells -/
def LexIs (s : List UInt8) (v : Value) (w' : World) : Prop :=
  (65536 < s.length ∧ v = .tuple #[.slice none 0 0, .int .i64 0, .int .i64 6]) ∨
  (s.length ≤ 65536 ∧ ∃ i : Nat, lexV s 0 = .error i ∧ v = .tuple #[.slice none 0 0, .int .i64 (i : Int), .int .i64 2]) ∨
  (s.length ≤ 65536 ∧ ∃ l A c, lexV s 0 = .ok l ∧ v = .tuple #[.slice A l.length c, .int .i64 0, .int .i64 0] ∧ l.length ≤ 65536 ∧ l.length ≤ c ∧ Rd w' 3 A l.length (l.flatMap Tok.cells) ∧ ∀ q, A = some q → q.block < w'.heap.size)
theorem lx_start {s : List UInt8} : lexV s 0 = (lexV (s.drop 0) 0).map ([] ++ ·) := by
  rw [List.drop_zero]
  cases lexV s 0 <;> rfl
theorem lx_blank {s : List UInt8} {i : Nat} {l : List Tok} (h : lexV s 0 = (lexV (s.drop i) i).map (l ++ ·)) (hi : i < s.length) (hb : blank (s.getD i 0) = true) : lexV s 0 = (lexV (s.drop (i + 1)) (i + 1)).map (l ++ ·) := by
  rw [h, drop_at hi, lexV_blank i hb]
theorem lx_bad {s : List UInt8} {i : Nat} {l : List Tok} (h : lexV s 0 = (lexV (s.drop i) i).map (l ++ ·)) (hi : i < s.length) (hb : blank (s.getD i 0) = false) (h0 : (tokV (s.drop i)).1 = 0) : lexV s 0 = .error i := by
  rw [drop_at hi] at h0
  rw [h, drop_at hi, lexV_bad i hb h0]; rfl
theorem lx_tok {s : List UInt8} {i k n : Nat} {l : List Tok} (h : lexV s 0 = (lexV (s.drop i) i).map (l ++ ·)) (hi : i < s.length) (hb : blank (s.getD i 0) = false) (h1 : tokV (s.drop i) = (k, n)) (h0 : k ≠ 0) : lexV s 0 = (lexV (s.drop (i + n)) (i + n)).map ((l ++ [⟨k, (s.drop i).take n, i⟩]) ++ ·) := by
  have h2 := h1
  rw [drop_at hi] at h2
  rw [h]
  conv => lhs; rw [drop_at hi]
  rw [lexV_tok i hb (by rw [h2]; exact h0), h2, ← drop_at hi, List.drop_drop]
  cases lexV (s.drop (i + n)) (i + n) with
  | error e => rfl
  | ok r => simp [Except.map]
theorem lx_end {s : List UInt8} {i : Nat} {l : List Tok} (h : lexV s 0 = (lexV (s.drop i) i).map (l ++ ·)) (hi : ¬ i < s.length) : lexV s 0 = .ok l := by
  rw [h, List.drop_eq_nil_of_le (by omega), lexV_nil]; simp [Except.map]
theorem lexIs_long {s : List UInt8} {w' : World} (h : 65536 < s.length) : LexIs s (.tuple #[.slice none 0 0, .int .i64 0, .int .i64 6]) w' := .inl ⟨h, rfl⟩
theorem Lex_r (s : List UInt8) (hs : s.length ≤ 70368744177664) (w : World) (hX : Lx w) : Ret Tryz.prog 15 [str s] w fun v w' => LexIs s v w' ∧ Below w.heap.size w w' := by
  have h44 : ([32, 9, 13, 10] : List UInt8).length = 4 := rfl
  have hb := Below.refl w.heap.size w
  have hX_hb := hX
  refine enter Tryz.func15 rfl rfl rfl ?_
  refine Wc.seq fun _ hK_1 => Wc.region <| Wl.sg rfl rfl <| Wl.sg rfl rfl <| Wl.sg rfl rfl <| Wl.nil <| Wq.next hK_1 <| Wc.seq fun _ hK_5 => Wc.seq fun _ hK_6 => Wc.region ?_
  refine Wl.mv rfl rfl ?_
  refine Wl.y (y_lens Tryz.underlying9 (by omega) rfl) rfl ?_
  refine Wl.y (y_gtri rfl rfl) rfl <| Wl.nil <| Wq.next hK_6 ?_
  refine Wc.cond rfl (fun c0_10 => ?_) (fun c0_10 => ?_)
  ·
   have c0_10_ := c0_10
   try simp only [DZ] at c0_10
   refine Wc.seq fun _ hK_11 => Wc.region <| Wl.sg rfl rfl <| Wl.sg rfl rfl <| Wl.sg rfl rfl <| Wl.nil <| Wq.next hK_11 <| Wc.ret <| Wq.then_ret ?_
   refine ret3 rfl rfl rfl rfl ?_
   exact ⟨_, rfl, lexIs_long (by have := c0_10; omega), hb⟩
  have c0_10_ := c0_10
  try simp only [DZ] at c0_10
  have hsl : s.length ≤ 65536 := by have := c0_10; omega
  refine Wc.skip <| Wq.next hK_5 <| Wc.seq fun _ hK_15 => Wc.region <| Wl.sg rfl rfl <| Wl.nil <| Wq.next hK_15 <| Wc.seq fun _ hK_17 => Wc.seq fun _ hK_18 => Wc.region ?_
  refine Wl.sg rfl rfl <| Wl.nil <| Wq.next hK_18 <| Wc.block ?_
  refine Wc.loop (X := Nat × List Tok × Value) (fun (i, l, v) => [(0, str s), (5, v), (6, .int .i64 (i : Int))]) (fun (i, l, v) wr => i ≤ s.length ∧ l.length ≤ i ∧ lexV s 0 = (lexV (s.drop i) i).map (l ++ ·) ∧ Below w.heap.size w wr ∧ wr.ownsRow w.heap.size 43 3 v l.length (l.flatMap Tok.cells)) (fun (i, l, v) => s.length - i) (⟨0, [], .slice none 0 0⟩) ?_ ?_ ?_
  · exact by repeat first | exact Sub.nil | refine Sub.cons' rfl (by first | rfl | exact int_eq (by omega)) ?_
  · exact ⟨by omega, Nat.le_refl _, lx_start, hb, World.ownsRow_nil _ _ _ _⟩
  rintro ⟨i, l, v⟩ wr hI_21 _ hL_20
  replace hI_21 : i ≤ s.length ∧ l.length ≤ i ∧ lexV s 0 = (lexV (s.drop i) i).map (l ++ ·) ∧ Below w.heap.size w wr ∧ wr.ownsRow w.heap.size 43 3 v l.length (l.flatMap Tok.cells) := hI_21
  obtain ⟨hi, hll, hlx, hb, hO⟩ := hI_21
  show Wc _ _ _ _ _ [(0, str s), (5, v), (6, .int .i64 (i : Int))] _
  have hX := hX_hb.below hb
  try have hzhb_L0 := hb.size
  refine Wc.seq fun _ hK_22 => Wc.seq fun _ hK_23 => Wc.region <| Wl.mv rfl rfl <| Wl.mv rfl rfl ?_
  refine Wl.y (y_lens Tryz.underlying9 (by omega) rfl) rfl ?_
  refine Wl.y (y_lssi rfl rfl) rfl <| Wl.nil <| Wq.next hK_23 ?_
  refine Wc.cond rfl (fun c1_28 => ?_) (fun c1_28 => ?_)
  ·
   have c1_28_ := c1_28
   try simp only [DZ] at c1_28
   have hil : i < s.length := by have := c1_28; omega
   obtain ⟨c, hc⟩ : ∃ c, c = s.getD i 0 := ⟨_, rfl⟩
   refine Wc.skip <| Wq.next hK_22 <| Wc.block <| Wc.seq fun _ hK_29 => Wc.seq fun _ hK_30 => Wc.region <| Wl.mv rfl rfl <| Wl.mv rfl rfl ?_
   refine Wl.y (y_eq (y_indexs Tryz.underlying9 rfl rfl (by omega) (by omega)) (int_eq (show _ = (c.toNat : Int) by rw [hc, Int.toNat_natCast]))) rfl ?_
   refine Wl.call txt30LexC rfl rfl (IndexByteU_r [32, 9, 13, 10] c _) rfl ?_
   rintro _ w_ ⟨⟨z, rfl, hz⟩, hw_⟩
   have hw_ := hw_.symm; subst hw_
   refine Wl.y (y_geqi rfl rfl) rfl <| Wl.nil <| Wq.next hK_30 ?_
   refine Wc.cond rfl (fun c2_36 => ?_) (fun c2_36 => ?_)
   ·
    have c2_36_ := c2_36
    try simp only [DZ] at c2_36
    have hbl : blank (s.getD i 0) = true := by unfold blank; rw [← hc, decide_eq_true_eq, ← (idx_mem c _).1, ← hz]; exact c2_36
    have hlx_ := lx_blank hlx hil hbl
    obtain ⟨j_, hj_⟩ : ∃ j, j = i + 1 := ⟨_, rfl⟩
    rw [← hj_] at hlx_
    have hj1_ : j_ ≤ s.length := by omega
    have hl1_ : l.length ≤ j_ := by omega
    have hO_ := hO
    obtain ⟨l_, hl_⟩ : ∃ l', l' = l := ⟨_, rfl⟩
    subst hl_
    obtain ⟨v_, hv_⟩ : ∃ v', v' = v := ⟨_, rfl⟩
    subst hv_
    refine Wc.seq fun _ hK_37 => Wc.region <| Wl.mv rfl rfl ?_
    refine Wl.y (y_addI rfl rfl (by first | omega | (simp; done) | (simp; omega)) (by first | omega | (simp; done) | (simp; omega))) rfl ?_
    refine Wl.sg rfl rfl <| Wl.nil <| Wq.next hK_37 ?_
    refine Wc.exit ?_
    refine Wq.then_exit <| Wq.block_exit ?_
    refine fun a_ ha_ => hL_20 _ _ (⟨j_, l_, v_⟩) (by show s.length - j_ < s.length - i; omega) (by repeat first | exact Sub.nil | refine Sub.cons' rfl (by first | rfl | exact int_eq (by omega)) ?_) ?_ a_ ha_
    exact ⟨hj1_, hl1_, hlx_, hb, hO_⟩
   have c2_36_ := c2_36
   try simp only [DZ] at c2_36
   have hbl : blank (s.getD i 0) = false := by unfold blank; rw [← hc, decide_eq_false_iff_not, ← (idx_mem c _).1, ← hz]; have := c2_36; omega
   have hO0 := hO
   refine Wc.skip <| Wq.next hK_29 <| Wc.seq fun _ hK_41 => Wc.region <| Wl.mv rfl rfl <| Wl.mv rfl rfl ?_
   refine Wl.y (y_eq (y_slicesL Tryz.underlying9 rfl rfl (by omega) (by omega)) (str_eq (show _ = s.drop i by rw [Int.toNat_natCast]))) rfl ?_
   refine Wl.call txt31LexC rfl rfl (token_x (s.drop i) (by rw [drop_at hil]; simp) (by rw [List.length_drop]; omega) _ hX) rfl ?_
   rintro _ w_k1 ⟨⟨k, n, rfl, htok⟩, hs_k1⟩
   have hz_k1 := hs_k1.size
   have hb := hb.trans (hs_k1.mono hb.size)
   have hX := hX_hb.below hb
   try have hO := own_below hO hs_k1
   refine Wl.allocN (z := (.agg #[(.int .i64 0), (str []), (.int .i64 0)])) (by kernel_rfl) rfl ?_
   rintro g_o21 w_o21 hg_o21 hn_o21 hs_o21
   have hz_o21 := hs_o21.size
   have hb := hb.trans (hs_o21.mono hb.size)
   have hX := hX_hb.below hb
   try have hO := own_below hO hs_o21
   have hB_o21 := hn_o21
   have hl_o21 := hB_o21.lt
   have hap_ : v.ownBlock = none ∨ v.ownBlock ≠ some g_o21 := by
     cases hv : v.ownBlock with
     | none => exact .inl rfl
     | some kk => exact .inr (fun e => by have := own_ge hO0 kk hv; cases e; omega)
   have hap3_ : some g_o21 ≠ v.ownBlock := by rcases hap_ with h | h; (· rw [h]; simp); (· exact fun e => h e.symm)
   refine Wl.storeS (by kernel_rfl) rfl rfl hB_o21 rfl rfl ?_
   rintro w_s0 hn_s0 hg_s0
   have hz_s0 := hg_s0.size
   have hb := below_blk hb hg_s0 hb.size (by omega)
   have hX := hX_hb.below hb
   try have hO := World.ownsRow.kept hO hg_s0 (by exact hap_)
   have hB_o21 := hn_s0
   refine Wl.nil <| Wq.next hK_41 <| Wc.seq fun _ hK_47 => Wc.seq fun _ hK_48 => Wc.region ?_
   refine Wl.y (y_fieldAddr (fa43_0LexC _) rfl) rfl ?_
   refine Wl.l (l_load one3LexC rfl (by exact hB_o21.at (j := 0) rfl)) rfl ?_
   refine Wl.y (y_eqli rfl rfl) rfl <| Wl.nil <| Wq.next hK_48 ?_
   refine Wc.cond rfl (fun c3_52 => ?_) (fun c3_52 => ?_)
   ·
    have c3_52_ := c3_52
    try simp only [DZ] at c3_52
    have herr := lx_bad hlx hil hbl (by rw [htok]; have := c3_52; show k = 0; omega)
    refine Wc.seq fun _ hK_53 => Wc.region <| Wl.mv rfl rfl <| Wl.sg rfl rfl <| Wl.sg rfl rfl <| Wl.sg rfl rfl <| Wl.nil <| Wq.next hK_53 <| Wc.ret ?_
    refine Wq.then_ret (Wq.block_ret (Wq.then_ret (Wq.block_ret (Wq.then_ret ?_))))
    refine ret3 rfl rfl rfl rfl ?_
    exact ⟨_, rfl, .inr (.inl ⟨hsl, i, herr, rfl⟩), hb⟩
   have c3_52_ := c3_52
   try simp only [DZ] at c3_52
   have hk0 : k ≠ 0 := by have := c3_52; omega
   have htl := tokV_len (s.drop i) (by rw [drop_at hil]; simp)
   rw [htok, List.length_drop] at htl
   simp only at htl
   have hn0 : 0 < n := by have := htl.2.1; omega
   have hlx2 := lx_tok hlx hil hbl htok hk0
   refine Wc.skip <| Wq.next hK_47 <| Wc.seq fun _ hK_58 => Wc.region <| Wl.mv rfl rfl ?_
   refine Wl.y (y_fieldAddr (fa43_2LexC _) rfl) rfl ?_
   refine Wl.storeB one3LexC rfl rfl rfl hB_o21 (show 2 < 3 from by decide) ?_
   rintro w_s1 hn_s1 hg_s1
   have hz_s1 := hg_s1.size
   have hb := below_blk hb hg_s1 hb.size (by omega)
   have hX := hX_hb.below hb
   try have hO := World.ownsRow.kept hO hg_s1 (by exact hap_)
   have hB_o21 := hn_s1
   refine Wl.nil <| Wq.next hK_58 <| Wc.seq fun _ hK_61 => Wc.region <| Wl.mv rfl rfl ?_
   refine Wl.l (l_loadS Tryz.underlying43 (by kernel_rfl) rfl (by exact fun j u hu => hB_o21.at hu)) rfl ?_
   refine Wl.litN (sz := 3) (vs := [_]) Tryz.underlying39 (by kernel_rfl) rfl rfl rfl rfl rfl rfl ?_
   rintro g_b2 w_b2 hg_b2 hn_b2 hs_b2
   have hz_b2 := hs_b2.size
   have hb := hb.trans (hs_b2.mono hb.size)
   have hX := hX_hb.below hb
   try have hO := own_below hO hs_b2
   try have hB_o21 := Blk.below hB_o21 hs_b2
   have hB_b2 := hn_b2
   have hl_b2 := hB_b2.lt
   refine Wl.append (z := (.agg #[(.int .i64 0), (str []), (.int .i64 0)])) (sz := 3) (bytes := 32) Tryz.underlying39 (by kernel_rfl) rfl (by decide) _ rfl hO rfl (hB_b2.rd 1 3 rfl) (fun u hu => by have h2 : u ∈ [Value.int .i64 (k : Int), str ((s.drop i).take n), .int .i64 (i : Int)] := hu; simp only [List.mem_cons, List.not_mem_nil, or_false] at h2; rcases h2 with rfl | rfl | rfl <;> rfl) (by simp only [maxLen]; omega) (by omega) (by first | exact hb.size | omega) rfl ?_
   rintro v_b3 w_b3 hn_b3 hg_b3 ha_b3
   have hz_b3 := hg_b3.size
   have hb := hb.grown hg_b3 hb.size (fun k_ hk_ => by have := (own_ge hO k_ hk_).1; omega)
   have hX := hX_hb.below hb
   try have hB_o21 := Blk.grown hB_o21 hg_b3 (by exact hap3_)
   have hO := hn_b3
   refine Wl.sg rfl rfl <| Wl.nil <| Wq.next hK_61 <| Wc.region <| Wl.mv rfl rfl ?_
   refine Wl.y (y_fieldAddr (fa43_1LexC _) rfl) rfl ?_
   refine Wl.l (l_load one9LexC rfl (by exact hB_o21.at (j := 1) rfl)) rfl ?_
   refine Wl.y (y_eq (y_lens Tryz.underlying9 (by rw [List.length_take, List.length_drop]; omega) rfl) (int_eq (show _ = (n : Int) by rw [List.length_take, List.length_drop]; omega))) rfl ?_
   refine Wl.y (y_addI rfl rfl (by first | omega | (simp; done) | (simp; omega)) (by first | omega | (simp; done) | (simp; omega))) rfl ?_
   have hlx_ := hlx2
   obtain ⟨j_, hj_⟩ : ∃ j, j = i + n := ⟨_, rfl⟩
   obtain ⟨l_, hl_⟩ : ∃ l', l' = l ++ [⟨k, (s.drop i).take n, i⟩] := ⟨_, rfl⟩
   rw [← hj_, ← hl_] at hlx_
   have hj1_ : j_ ≤ s.length := by omega
   have hl1_ : l_.length ≤ j_ := by rw [hl_, List.length_append]; show l.length + 1 ≤ _; omega
   obtain ⟨v_, hv_⟩ : ∃ v', v' = v_b3 := ⟨_, rfl⟩
   subst hv_
   have hO_ : World.ownsRow w_b3 w.heap.size 43 3 v_ l_.length (l_.flatMap Tok.cells) := by rw [hl_, List.length_append, List.flatMap_append]; exact hO
   refine Wl.sg rfl rfl <| Wl.nil <| Wq.block_normal ?_
   refine fun a_ ha_ => hL_20 _ _ (⟨j_, l_, v_⟩) (by show s.length - j_ < s.length - i; omega) (by repeat first | exact Sub.nil | refine Sub.cons' rfl (by first | rfl | exact int_eq (by omega)) ?_) ?_ a_ ha_
   exact ⟨hj1_, hl1_, hlx_, hb, hO_⟩
  have c1_28_ := c1_28
  try simp only [DZ] at c1_28
  refine Wc.exit ?_
  refine Wq.then_exit <| Wq.then_exit <| Wq.block_exit <| Wq.next hK_17 <| Wc.seq fun _ hK_73 => Wc.region ?_
  obtain ⟨A_, c_, rfl, hn1_, _⟩ := own_form hO
  refine Wl.mv rfl rfl <| Wl.sg rfl rfl <| Wl.sg rfl rfl <| Wl.sg rfl rfl <| Wl.nil <| Wq.next hK_73 <| Wc.ret ?_
  refine ret3 rfl rfl rfl rfl ?_
  exact ⟨_, rfl, .inr (.inr ⟨hsl, l, A_, c_, lx_end hlx (by have := c1_28; omega), rfl, by omega, hn1_, Rd.of_own hO, fun q e => by subst e; exact (own_ge hO q.block rfl).2⟩), hb⟩
end Go.Proofs.YtjnabgddjogkbaaGreatDoor
