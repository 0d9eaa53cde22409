/- Plain: texts in order, byte by byte. · What the library's variables hold, where one block is written. · Plain: a line's fields; load.line's small ways, by the calculus. · slices.Sort of texts in a row of one's own; slices.Contains; line.labels; loader.find. · loader.find; strings.Cut at '='; line.prop. -/
import Derived.Test.YtjmlknjbhbfneaaGreatDoorZE
import Derived.Lib.Bytealg
import Derived.Test.YtjmlknjbhbfneaaGreatDoorZD
import Derived.Test.YtjmlknjbhbfneaaGreatDoorZA
import Derived.Test.YtjmlknjbhbfneaaGreatDoorZGA
import Derived.Test.YtjmlknjbhbfneaaGreatDoorZShelfE
import Derived.Test.YtjmlknjbhbfneaaGreatDoorZG
import Derived.Test.YtjmlknjbhbfneaaGreatDoorZT
import Derived.Test.YtjmlknjbhbfneaaGreatDoorZJ
namespace Go.Proofs.YtjmlknjbhbfneaaGreatDoor
open Go.RowKit Go.Bw Go.Bw.Fl
set_option linter.unusedVariables false
set_option linter.unusedSimpArgs false
theorem bl_nil (x : List UInt8) : Op.bytesLess x [] = false := by cases x <;> rfl
theorem bl_cons (a b : UInt8) (x y : List UInt8) : Op.bytesLess (a :: x) (b :: y) = true ↔ a.toNat < b.toNat ∨ (a.toNat = b.toNat ∧ Op.bytesLess x y = true) := by
  show (decide (a < b) || (a == b && Op.bytesLess x y)) = true ↔ _
  simp only [Bool.or_eq_true, Bool.and_eq_true, decide_eq_true_eq, beq_iff_eq, UInt8.lt_iff_toNat_lt]
  constructor
  · rintro (h | ⟨h, h'⟩)
    · exact .inl h
    · exact .inr ⟨by rw [h], h'⟩
  · rintro (h | ⟨h, h'⟩)
    · exact .inl h
    · exact .inr ⟨UInt8.toNat_inj.1 h, h'⟩
theorem bl_trans : ∀ (x y z : List UInt8), Op.bytesLess x y = true → Op.bytesLess y z = true → Op.bytesLess x z = true
  | x, [], z, h, _ => by rw [bl_nil] at h; cases h
  | x, b :: y, [], _, h => by rw [bl_nil] at h; cases h
  | [], b :: y, c :: z, _, _ => rfl
  | a :: x, b :: y, c :: z, h, h' => by
    rw [bl_cons] at h h' ⊢
    rcases h with h | ⟨h, h1⟩ <;> rcases h' with h' | ⟨h', h2⟩
    · exact .inl (by omega)
    · exact .inl (by omega)
    · exact .inl (by omega)
    · exact .inr ⟨by omega, bl_trans x y z h1 h2⟩
theorem bl_total : ∀ (x y : List UInt8), Op.bytesLess x y = true ∨ x = y ∨ Op.bytesLess y x = true
  | [], [] => .inr (.inl rfl)
  | [], b :: y => .inl rfl
  | a :: x, [] => .inr (.inr rfl)
  | a :: x, b :: y => by
    rw [bl_cons, bl_cons]
    rcases Nat.lt_trichotomy a.toNat b.toNat with h | h | h
    · exact .inl (.inl h)
    · rcases bl_total x y with h1 | h1 | h1
      · exact .inl (.inr ⟨h, h1⟩)
      · exact .inr (.inl (by rw [UInt8.toNat_inj.1 h, h1]))
      · exact .inr (.inr (.inr ⟨h.symm, h1⟩))
    · exact .inr (.inr (.inl h))
theorem bl_irr : ∀ (x : List UInt8), Op.bytesLess x x = false
  | [] => rfl
  | a :: x => by
    cases h : Op.bytesLess (a :: x) (a :: x) with
    | false => rfl
    | true =>
      rw [bl_cons] at h
      rcases h with h | ⟨_, h⟩
      · omega
      · rw [bl_irr x] at h; cases h
theorem cmp_lt : ∀ (x y : List UInt8), Lib.compareBytes x y < 0 ↔ Op.bytesLess x y = true
  | [], [] => by simp [Lib.compareBytes, Op.bytesLess]
  | [], _ :: _ => by simp [Lib.compareBytes, Op.bytesLess]
  | _ :: _, [] => by simp [Lib.compareBytes, Op.bytesLess]
  | a :: x, b :: y => by
    have ih := cmp_lt x y
    rw [bl_cons]
    show (if a < b then (-1 : Int) else if b < a then 1 else Lib.compareBytes x y) < 0 ↔ _
    by_cases h1 : a < b
    · rw [if_pos h1]; have := UInt8.lt_iff_toNat_lt.1 h1; simp [this]
    · rw [if_neg h1]
      have h1' : ¬ a.toNat < b.toNat := fun h => h1 (UInt8.lt_iff_toNat_lt.2 h)
      by_cases h2 : b < a
      · rw [if_pos h2]; have := UInt8.lt_iff_toNat_lt.1 h2
        constructor
        · intro h; omega
        · rintro (h | ⟨h, _⟩) <;> omega
      · rw [if_neg h2, ih]
        have h2' : ¬ b.toNat < a.toNat := fun h => h2 (UInt8.lt_iff_toNat_lt.2 h)
        constructor
        · intro h; exact .inr ⟨by omega, h⟩
        · rintro (h | ⟨_, h⟩)
          · omega
          · exact h
theorem cmp_eq0 : ∀ (x y : List UInt8), Lib.compareBytes x y = 0 ↔ x = y
  | [], [] => by simp [Lib.compareBytes]
  | [], _ :: _ => by simp [Lib.compareBytes]
  | _ :: _, [] => by simp [Lib.compareBytes]
  | a :: x, b :: y => by
    have ih := cmp_eq0 x y
    show (if a < b then (-1 : Int) else if b < a then 1 else Lib.compareBytes x y) = 0 ↔ _
    by_cases h1 : a < b
    · rw [if_pos h1]; have := UInt8.lt_iff_toNat_lt.1 h1
      constructor
      · intro h; omega
      · intro h; injection h with h3 _; subst h3; omega
    · rw [if_neg h1]
      by_cases h2 : b < a
      · rw [if_pos h2]; have := UInt8.lt_iff_toNat_lt.1 h2
        constructor
        · intro h; omega
        · intro h; injection h with h3 _; subst h3; omega
      · rw [if_neg h2, ih]
        have e : a = b := UInt8.toNat_inj.1 (by
          have h1' : ¬ a.toNat < b.toNat := fun h => h1 (UInt8.lt_iff_toNat_lt.2 h)
          have h2' : ¬ b.toNat < a.toNat := fun h => h2 (UInt8.lt_iff_toNat_lt.2 h)
          omega)
        rw [e]; simp
end Go.Proofs.YtjmlknjbhbfneaaGreatDoor
namespace Go.Proofs.YtjmlknjbhbfneaaGreatDoor
open Go.RowKit Go.Bw Go.Bw.Fl
set_option linter.unusedVariables false
set_option linter.unusedSimpArgs false

theorem var_kp {w w' : World} {p g : Nat} {nm : String} {cs : Array Value} (h : World.var? Tryz.prog w nm = some cs) (hk : Kp p w w') (hg : Tryz.prog.globalNamed nm = some g) (hn : g ≠ p) : World.var? Tryz.prog w' nm = some cs := by
  unfold World.var? at h ⊢
  rw [hg] at h ⊢
  simp only [Option.bind_some] at h ⊢
  have hl : g < w.heap.size := by
    rcases Nat.lt_or_ge g w.heap.size with h1 | h1
    · exact h1
    · rw [Array.getElem?_eq_none h1] at h; cases h
  rw [hk.block g hl (fun e => hn (Option.some.inj e))]; exact h
theorem gPowP : Tryz.prog.globalNamed "internal/strconv.uint64pow10" = some 4 := by kernel_rfl
theorem gSynP : Tryz.prog.globalNamed "strconv.ErrSyntax" = some 5 := by kernel_rfl
theorem gRngP : Tryz.prog.globalNamed "strconv.ErrRange" = some 6 := by kernel_rfl
/-- the library's variables lie ahead of block p -/
def Gl (p : Nat) : Prop := 4 < p ∧ 5 < p ∧ 6 < p
theorem Lb.kp {w w' : World} {p : Nat} (h : Lb w) (hk : Kp p w w') (hg : Gl p) : Lb w' :=
  ⟨var_kp h.tab hk gPowP (Nat.ne_of_lt hg.1), h.syn.elim fun tp h1 => h1.elim fun q h2 => ⟨tp, q, var_kp h2 hk gSynP (Nat.ne_of_lt hg.2.1)⟩, h.rng.elim fun tp h1 => h1.elim fun q h2 => ⟨tp, q, var_kp h2 hk gRngP (Nat.ne_of_lt hg.2.2)⟩⟩
theorem Gl.mono {p q : Nat} (h : Gl p) (hq : p ≤ q) : Gl q := ⟨by have := h.1; omega, by have := h.2.1; omega, by have := h.2.2; omega⟩
theorem Lb.gl {w : World} (h : Lb w) : Gl w.heap.size := by
  have key : ∀ {nm : String} {g : Nat} {cs : Array Value}, World.var? Tryz.prog w nm = some cs → Tryz.prog.globalNamed nm = some g → g < w.heap.size := fun {nm g cs} hv hg => by
    unfold World.var? at hv
    rw [hg] at hv
    simp only [Option.bind_some] at hv
    rcases Nat.lt_or_ge g w.heap.size with h1 | h1
    · exact h1
    · rw [Array.getElem?_eq_none h1] at hv; cases hv
  obtain ⟨_, _, h2⟩ := h.syn
  obtain ⟨_, _, h3⟩ := h.rng
  exact ⟨key h.tab gPowP, key h2 gSynP, key h3 gRngP⟩
end Go.Proofs.YtjmlknjbhbfneaaGreatDoor
namespace Go.Proofs.YtjmlknjbhbfneaaGreatDoor
open Go.RowKit Go.Bw Go.Bw.Fl
set_option linter.unusedVariables false
set_option linter.unusedSimpArgs false
theorem fa56_0LdA (p : Addr) (w : World) : (Instr.fieldAt 56 (.pointer (some p)) 0).run Tryz.prog w = .ok (.pointer (some (p.add 0))) w := run_fieldAt (i := 0) (sz := 0) Tryz.underlying56 rfl (by kernel_rfl) p w
theorem fa56_1LdA (p : Addr) (w : World) : (Instr.fieldAt 56 (.pointer (some p)) 1).run Tryz.prog w = .ok (.pointer (some (p.add 1))) w := run_fieldAt (i := 1) (sz := 0) Tryz.underlying56 rfl (by kernel_rfl) p w
theorem one28LdA : One Tryz.prog 28 := ⟨_, Tryz.underlying28, rfl, by kernel_rfl⟩
theorem one9LdA : One Tryz.prog 9 := ⟨_, Tryz.underlying9, rfl, by kernel_rfl⟩
theorem txt18LdA : Txt Tryz.prog 18 := ⟨_, Tryz.func18, by kernel_rfl, rfl⟩   -- (*bridleway/load.line).blanks
theorem txt36LdA : Txt Tryz.prog 36 := ⟨_, Tryz.func36, by kernel_rfl, rfl⟩   -- (*bridleway/load.line).bad
theorem txt40LdA : Txt Tryz.prog 40 := ⟨_, Tryz.func40, by kernel_rfl, rfl⟩   -- strings.TrimLeft
theorem txt41LdA : Txt Tryz.prog 41 := ⟨_, Tryz.func41, by kernel_rfl, rfl⟩   -- strings.HasPrefix
theorem txt42LdA : Txt Tryz.prog 42 := ⟨_, Tryz.func42, by kernel_rfl, rfl⟩   -- strings.IndexByte
theorem txt43LdA : Txt Tryz.prog 43 := ⟨_, Tryz.func43, by kernel_rfl, rfl⟩   -- bridleway/label.Word
def badE (e b : Int) : Int := if e = 0 ∨ b < e then b else e
def blanksV (s : List UInt8) : List UInt8 := if Lib.hasPrefix (Lib.trimLeftB s 32) [35] = true then [] else Lib.trimLeftB s 32
def wd (s : List UInt8) : List UInt8 := s.takeWhile (· != 32)
def wdRest (s : List UInt8) : List UInt8 := blanksV (s.dropWhile (· != 32))
def wdE (s : List UInt8) (e : Int) : Int := if wordA (wd s) = true then e else badE e 2
theorem trimB_le (s : List UInt8) (c : UInt8) : (Lib.trimLeftB s c).length ≤ s.length := (List.dropWhile_suffix _).sublist.length_le
theorem blanksV_le (s : List UInt8) : (blanksV s).length ≤ s.length := by
  unfold blanksV; split
  · simp
  · exact trimB_le s 32
theorem wd_le (s : List UInt8) : (wd s).length ≤ s.length := (List.takeWhile_prefix _).length_le
theorem wdRest_le (s : List UInt8) : (wdRest s).length ≤ s.length := Nat.le_trans (blanksV_le _) (List.dropWhile_suffix _).sublist.length_le
theorem idx_blank : ∀ (s : List UInt8), Lib.indexByte (s ++ [32]) 32 = ((wd s).length : Int)
  | [] => by simp [Lib.indexByte, wd]
  | c :: r => by
    have ih := idx_blank r
    show (if c == 32 then 0 else if Lib.indexByte (r ++ [32]) 32 == -1 then -1 else Lib.indexByte (r ++ [32]) 32 + 1) = _
    unfold wd at ih ⊢
    by_cases h : c = 32
    · subst h; simp
    · have h1 : (c == 32) = false := by simpa using h
      have h2 : (c != 32) = true := by simp [h]
      rw [List.takeWhile_cons, h1, h2, ih, if_neg (by simp)]
      have h3 : (((List.takeWhile (fun x => x != 32) r).length : Int) == -1) = false := by rw [Bool.eq_false_iff]; intro h; have := eq_of_beq h; omega
      rw [h3]; simp
theorem take_wd (s : List UInt8) : s.take (wd s).length = wd s := (List.prefix_iff_eq_take.1 (List.takeWhile_prefix _)).symm
theorem drop_wd (s : List UInt8) : s.drop (wd s).length = s.dropWhile (· != 32) := by
  have h : wd s ++ s.dropWhile (· != 32) = s := List.takeWhile_append_dropWhile
  have h2 := congrArg (List.drop (wd s).length) h
  rw [List.drop_left] at h2; exact h2.symm
theorem TrimLeft1_r (s : List UInt8) (w : World) : Ret Tryz.prog 40 [str s, str [32]] w fun v w' => v = str (Lib.trimLeftB s 32) ∧ w' = w := Ret.pure (Tryz.strings_TrimLeft_one ⟨s.toArray⟩ 32 (by decide) w)
theorem TrimRight1_r (s : List UInt8) (hs : s.length ≤ 9223372036854775807) (w : World) : Ret Tryz.prog 37 [str s, str [32]] w fun v w' => v = str (Lib.trimRightB s 32) ∧ w' = w := Ret.pure (Tryz.strings_TrimRight_one ⟨s.toArray⟩ 32 (by decide) w (by rw [size_str]; exact hs))
theorem Compare_r (a b : List UInt8) (w : World) : Ret Tryz.prog 61 [str a, str b] w fun v w' => v = .int .i64 (Lib.compareBytes a b) ∧ w' = w := Ret.pure (Tryz.strings_Compare ⟨a.toArray⟩ ⟨b.toArray⟩ w)
theorem bad_r (p : Nat) (s : List UInt8) (e b : Int) (w : World) (hP : Blk w p 56 [str s, .int .i64 e]) : Ret Tryz.prog 36 [.pointer (some ⟨p, 0, none⟩), .int .i64 b] w fun v w' => (v = .tuple #[] ∧ Blk w' p 56 [str s, .int .i64 (badE e b)]) ∧ Kp p w w' := by
  have hpl := hP.lt
  have hb := Kp.refl p w
  refine enter Tryz.func36 rfl rfl rfl <| Wc.seq fun _ hK_1 => Wc.meet (X := Bool) (fun q => [(0, .pointer (some ⟨p, 0, none⟩)), (1, .int .i64 b), (16, .bool q)]) (fun q wr => q = decide (e = 0 ∨ b < e) ∧ Kp p w wr ∧ Blk wr p 56 [str s, .int .i64 e]) (fun _ hM_2 => ?_) ?_
  ·
   refine Wc.region <| Wl.mv rfl rfl <| Wl.y (y_nilCheck rfl) rfl <| Wl.y (y_fieldAddr (fa56_1LdA _) rfl) rfl <| Wl.l (l_load one28LdA rfl (by exact hP.at (j := 1) rfl)) rfl <| Wl.y (y_eqli rfl rfl) rfl <| Wl.mv rfl rfl <| Wl.guardF rfl rfl rfl (fun g_9 => ?_) (fun g_9 => ?_)
   ·
    have g_9_ := g_9
    simp only [DZ] at g_9
    refine Wl.off' rfl rfl g_9_ rfl rfl <| Wl.off' rfl rfl g_9_ rfl rfl <| Wl.off' rfl rfl g_9_ rfl rfl <| Wl.off' rfl rfl g_9_ rfl rfl <| Wl.off' rfl rfl g_9_ rfl rfl <| Wl.y (y_pickT rfl g_9_ rfl) rfl <| Wl.nil <| Wq.meet hM_2 (decide (e = 0 ∨ b < e)) (by repeat first | exact Sub.nil | refine Sub.cons' rfl (by first | rfl | exact bool_eq (by rw [Bool.eq_iff_iff]; simp; omega)) ?_) ?_
    exact ⟨rfl, hb, hP⟩
   have g_9_ := g_9
   simp only [DZ] at g_9
   refine Wl.mv rfl rfl <| Wl.on' rfl rfl g_9_ <| Wl.mv rfl rfl <| Wl.on' rfl rfl g_9_ <| Wl.y (y_nilCheck rfl) rfl <| Wl.on' rfl rfl g_9_ <| Wl.y (y_fieldAddr (fa56_1LdA _) rfl) rfl <| Wl.on' rfl rfl g_9_ <| Wl.l (l_load one28LdA rfl (by exact hP.at (j := 1) rfl)) rfl <| Wl.on' rfl rfl g_9_ <| Wl.y (y_lssi rfl rfl) rfl <| Wl.y (y_pickF rfl g_9_ rfl) rfl <| Wl.nil <| Wq.meet hM_2 (decide (e = 0 ∨ b < e)) (by repeat first | exact Sub.nil | refine Sub.cons' rfl (by first | rfl | exact bool_eq (by rw [Bool.eq_iff_iff]; simp; omega)) ?_) ?_
   exact ⟨rfl, hb, hP⟩
  rintro q wr hI_18
  replace hI_18 : q = decide (e = 0 ∨ b < e) ∧ Kp p w wr ∧ Blk wr p 56 [str s, .int .i64 e] := hI_18
  obtain ⟨hq, hb, hP⟩ := hI_18
  show Wq _ _ _ _ [(0, .pointer (some ⟨p, 0, none⟩)), (1, .int .i64 b), (16, .bool q)] _
  have hzhb_g0 := hb.size
  have hlhP_g0 := hP.lt
  refine Wq.next hK_1 <| Wc.cond rfl (fun c0_19 => ?_) (fun c0_19 => ?_)
  ·
   have c0_19_ := c0_19
   have hc : e = 0 ∨ b < e := by have h := c0_19_; rw [hq] at h; exact of_decide_eq_true h
   refine Wc.region <| Wl.mv rfl rfl <| Wl.mv rfl rfl <| Wl.y (y_nilCheck rfl) rfl <| Wl.y (y_fieldAddr (fa56_1LdA _) rfl) rfl <| Wl.storeB one28LdA rfl rfl rfl hP (by simp) ?_
   rintro w_s0 hn_s0 hg_s0
   have hz_s0 := hg_s0.size
   have hb := kp_blk hb hg_s0 (by omega)
   have hP := hn_s0
   refine Wl.nil <| end0 rfl ?_
   exact ⟨_, rfl, ⟨rfl, by unfold badE; rw [if_pos hc]; exact hP⟩, hb⟩
  have c0_19_ := c0_19
  have hc : ¬ (e = 0 ∨ b < e) := by have h := c0_19_; rw [hq] at h; exact of_decide_eq_false h
  refine Wc.skip <| end0 rfl ?_
  exact ⟨_, rfl, ⟨rfl, by unfold badE; rw [if_neg hc]; exact hP⟩, hb⟩
theorem blanks_r (p : Nat) (s : List UInt8) (e : Int) (w : World) (hP : Blk w p 56 [str s, .int .i64 e]) : Ret Tryz.prog 18 [.pointer (some ⟨p, 0, none⟩)] w fun v w' => (v = .tuple #[] ∧ Blk w' p 56 [str (blanksV s), .int .i64 e]) ∧ Kp p w w' := by
  have hpl := hP.lt
  have hb := Kp.refl p w
  refine enter Tryz.func18 rfl rfl rfl <| Wc.seq fun _ hK_1 => Wc.region <| Wl.mv rfl rfl <| Wl.mv rfl rfl <| Wl.y (y_nilCheck rfl) rfl <| Wl.y (y_fieldAddr (fa56_0LdA _) rfl) rfl <| Wl.l (l_load one9LdA rfl (by exact hP.at (j := 0) rfl)) rfl <| Wl.call txt40LdA rfl rfl (TrimLeft1_r s _) rfl ?_
  rintro _ w_ ⟨rfl, hw_⟩
  have hw_ := hw_.symm; subst hw_
  refine Wl.y (y_nilCheck rfl) rfl <| Wl.y (y_fieldAddr (fa56_0LdA _) rfl) rfl <| Wl.storeB one9LdA rfl rfl rfl hP (by simp) ?_
  rintro w_s0 hn_s0 hg_s0
  have hz_s0 := hg_s0.size
  have hb := kp_blk hb hg_s0 (by omega)
  have hP := hn_s0
  refine Wl.nil <| Wq.next hK_1 <| Wc.seq fun _ hK_10 => Wc.region <| Wl.mv rfl rfl <| Wl.y (y_nilCheck rfl) rfl <| Wl.y (y_fieldAddr (fa56_0LdA _) rfl) rfl <| Wl.l (l_load one9LdA rfl (by exact hP.at (j := 0) rfl)) rfl <| Wl.call txt41LdA rfl rfl (HasPrefix_r (Lib.trimLeftB s 32) [35] _) rfl ?_
  rintro _ w_ ⟨rfl, hw_⟩
  have hw_ := hw_.symm; subst hw_
  refine Wl.nil <| Wq.next hK_10 <| Wc.cond rfl (fun c0_16 => ?_) (fun c0_16 => ?_)
  ·
   have c0_16_ := c0_16
   refine Wc.region <| Wl.mv rfl rfl <| Wl.y (y_nilCheck rfl) rfl <| Wl.y (y_fieldAddr (fa56_0LdA _) rfl) rfl <| Wl.storeB one9LdA rfl rfl rfl hP (by simp) ?_
   rintro w_s1 hn_s1 hg_s1
   have hz_s1 := hg_s1.size
   have hb := kp_blk hb hg_s1 (by omega)
   have hP := hn_s1
   refine Wl.nil <| end0 rfl ?_
   exact ⟨_, rfl, ⟨rfl, by unfold blanksV; rw [if_pos c0_16_]; exact hP⟩, hb⟩
  have c0_16_ := c0_16
  refine Wc.skip <| end0 rfl ?_
  exact ⟨_, rfl, ⟨rfl, by unfold blanksV; rw [if_neg (by rw [c0_16_]; simp)]; exact hP⟩, hb⟩
theorem word_r (p : Nat) (s : List UInt8) (e : Int) (w : World) (hP : Blk w p 56 [str s, .int .i64 e]) (hs : s.length ≤ 1099511627776) : Ret Tryz.prog 19 [.pointer (some ⟨p, 0, none⟩)] w fun v w' => (v = str (wd s) ∧ Blk w' p 56 [str (wdRest s), .int .i64 (wdE s e)]) ∧ Kp p w w' := by
  have hpl := hP.lt
  have hwl := wd_le s
  have h1 : ([32] : List UInt8).length = 1 := rfl
  have hb := Kp.refl p w
  refine enter Tryz.func19 rfl rfl rfl <| Wc.seq fun _ hK_1 => Wc.region <| Wl.sg rfl rfl <| Wl.nil <| Wq.next hK_1 <| Wc.seq fun _ hK_3 => Wc.region <| Wl.mv rfl rfl <| Wl.y (y_nilCheck rfl) rfl <| Wl.y (y_fieldAddr (fa56_0LdA _) rfl) rfl <| Wl.l (l_load one9LdA rfl (by exact hP.at (j := 0) rfl)) rfl <| Wl.y (y_adds rfl rfl (by rw [h1]; omega)) rfl <| Wl.call txt42LdA rfl rfl (IndexByte_r (s ++ [32]) 32 _) rfl ?_
  rintro _ w_ ⟨rfl, hw_⟩
  have hw_ := hw_.symm; subst hw_
  refine Wl.y (y_eq (y_assign rfl) (int_eq (show _ = ((wd s).length : Int) from idx_blank s))) rfl <| Wl.nil <| Wq.next hK_3 <| Wc.seq fun _ hK_11 => Wc.region <| Wl.mv rfl rfl <| Wl.y (y_nilCheck rfl) rfl <| Wl.y (y_fieldAddr (fa56_0LdA _) rfl) rfl <| Wl.l (l_load one9LdA rfl (by exact hP.at (j := 0) rfl)) rfl <| Wl.mv rfl rfl <| Wl.y (y_eq (y_slicesH Tryz.underlying9 rfl rfl (by omega) (by omega)) (str_eq (by rw [Int.toNat_natCast, take_wd]))) rfl <| Wl.sg rfl rfl <| Wl.nil <| Wq.next hK_11 <| Wc.seq fun _ hK_19 => Wc.seq fun _ hK_20 => Wc.region <| Wl.mv rfl rfl <| Wl.call txt43LdA rfl rfl (WordA_r (wd s) (by omega) _) rfl ?_
  rintro _ w_k1 ⟨rfl, hs_k1⟩
  have hz_k1 := hs_k1.size
  have hP := Blk.below hP hs_k1
  replace hs_k1 := Below.kp (p := p) hs_k1
  have hb := hb.trans hs_k1
  refine Wl.y (y_not rfl) rfl <| Wl.nil <| Wq.next hK_20 <| Wc.meet (X := Unit) (fun u_ => [(0, .pointer (some ⟨p, 0, none⟩)), (3, .int .i64 ((wd s).length : Int)), (4, str (wd s))]) (fun u_ wr => Kp p w wr ∧ Blk wr p 56 [str s, .int .i64 (wdE s e)]) (fun _ hM_24 => ?_) ?_
  ·
   refine Wc.cond rfl (fun c0_25 => ?_) (fun c0_25 => ?_)
   ·
    have c0_25_ := c0_25
    simp only [DZ] at c0_25
    refine Wc.region <| Wl.mv rfl rfl <| Wl.call txt36LdA rfl rfl (bad_r p s e 2 _ hP) rfl ?_
    rintro _ w_k2 ⟨⟨rfl, hP⟩, hs_k2⟩
    have hz_k2 := hs_k2.size
    have hb := hb.trans hs_k2
    refine Wl.nil <| Wq.meet hM_24 (()) (by repeat first | exact Sub.nil | refine Sub.cons' rfl (by first | rfl | exact int_eq (by omega) | exact int_eq (by simp) | (simp; done)) ?_) ?_
    exact ⟨hb, by unfold wdE; first | (rw [if_pos (by simpa using c0_25)]; exact hP) | (rw [if_neg (by simpa using c0_25)]; exact hP)⟩
   have c0_25_ := c0_25
   simp only [DZ] at c0_25
   refine Wc.skip <| Wq.meet hM_24 (()) (by repeat first | exact Sub.nil | refine Sub.cons' rfl (by first | rfl | exact int_eq (by omega) | exact int_eq (by simp) | (simp; done)) ?_) ?_
   exact ⟨hb, by unfold wdE; first | (rw [if_pos (by simpa using c0_25)]; exact hP) | (rw [if_neg (by simpa using c0_25)]; exact hP)⟩
  rintro u_ wr hI_28
  replace hI_28 : Kp p w wr ∧ Blk wr p 56 [str s, .int .i64 (wdE s e)] := hI_28
  obtain ⟨hb, hP⟩ := hI_28
  show Wq _ _ _ _ [(0, .pointer (some ⟨p, 0, none⟩)), (3, .int .i64 ((wd s).length : Int)), (4, str (wd s))] _
  have hzhb_c0 := hb.size
  have hlhP_c0 := hP.lt
  refine Wq.next hK_19 <| Wc.seq fun _ hK_29 => Wc.region <| Wl.mv rfl rfl <| Wl.mv rfl rfl <| Wl.y (y_nilCheck rfl) rfl <| Wl.y (y_fieldAddr (fa56_0LdA _) rfl) rfl <| Wl.l (l_load one9LdA rfl (by exact hP.at (j := 0) rfl)) rfl <| Wl.mv rfl rfl <| Wl.y (y_eq (y_slicesL Tryz.underlying9 rfl rfl (by omega) (by omega)) (str_eq (by rw [Int.toNat_natCast, drop_wd]))) rfl <| Wl.y (y_nilCheck rfl) rfl <| Wl.y (y_fieldAddr (fa56_0LdA _) rfl) rfl <| Wl.storeB one9LdA rfl rfl rfl hP (by simp) ?_
  rintro w_s0 hn_s0 hg_s0
  have hz_s0 := hg_s0.size
  have hb := kp_blk hb hg_s0 (by omega)
  have hP := hn_s0
  refine Wl.nil <| Wq.next hK_29 <| Wc.seq fun _ hK_39 => Wc.region <| Wl.mv rfl rfl <| Wl.call txt18LdA rfl rfl (blanks_r p (s.dropWhile (· != 32)) (wdE s e) _ hP) rfl ?_
  rintro _ w_k3 ⟨⟨rfl, hP⟩, hs_k3⟩
  have hz_k3 := hs_k3.size
  have hb := hb.trans hs_k3
  refine Wl.nil <| Wq.next hK_39 <| Wc.seq fun _ hK_42 => Wc.region <| Wl.mv rfl rfl <| Wl.sg rfl rfl <| Wl.nil <| Wq.next hK_42 <| Wc.ret <| ret1 rfl rfl ?_
  exact ⟨_, rfl, ⟨rfl, hP⟩, hb⟩
end Go.Proofs.YtjmlknjbhbfneaaGreatDoor
namespace Go.Proofs.YtjmlknjbhbfneaaGreatDoor
open Go.RowKit Go.Bw Go.Bw.Fl
set_option linter.unusedVariables false
set_option linter.unusedSimpArgs false
theorem fa56_0LdB (p : Addr) (w : World) : (Instr.fieldAt 56 (.pointer (some p)) 0).run Tryz.prog w = .ok (.pointer (some (p.add 0))) w := run_fieldAt (i := 0) (sz := 0) Tryz.underlying56 rfl (by kernel_rfl) p w
theorem one9LdB : One Tryz.prog 9 := ⟨_, Tryz.underlying9, rfl, by kernel_rfl⟩
theorem sz9LdB : (Tryz.prog.info? 9).map (·.size) = some 1 := by kernel_rfl
theorem txt19LdB : Txt Tryz.prog 19 := ⟨_, Tryz.func19, by kernel_rfl, rfl⟩   -- (*bridleway/load.line).word
theorem txt36LdB : Txt Tryz.prog 36 := ⟨_, Tryz.func36, by kernel_rfl, rfl⟩   -- (*bridleway/load.line).bad
theorem txt41LdB : Txt Tryz.prog 41 := ⟨_, Tryz.func41, by kernel_rfl, rfl⟩   -- strings.HasPrefix
theorem txt56LdB : Txt Tryz.prog 56 := ⟨_, Tryz.func56, by kernel_rfl, rfl⟩   -- slices.Contains[[]string,string]
theorem txt92LdB : Txt Tryz.prog 92 := ⟨_, Tryz.func92, by kernel_rfl, rfl⟩   -- slices.Index[[]string,string]
theorem txtSort : Txt Tryz.prog 57 := ⟨_, Tryz.func57, by kernel_rfl, rfl⟩
def sortS (l : List (List UInt8)) : List (List UInt8) := l.mergeSort fun x y => decide (x ≤ y)
theorem sortS_len (l : List (List UInt8)) : (sortS l).length = l.length := List.length_mergeSort l
theorem put_take (d : List (List UInt8)) (cur : Array Value) (h : d.length ≤ cur.size) : (Sort.putCells encStr 0 d.toArray cur).toList.take d.length = strs d := by
  apply List.ext_getElem?
  intro i
  rw [List.getElem?_take]
  by_cases hi : i < d.length
  · rw [if_pos hi]
    have h1 : i < cur.size := by omega
    unfold Sort.putCells strs
    simp [hi, h1, encStr, str]
  · rw [if_neg hi, List.getElem?_eq_none (by simp [strs]; omega)]
theorem Sort_r (base : Nat) (v : Value) (l : List (List UInt8)) (w : World) (hO : w.ownsRow base 9 1 v l.length (strs l)) (hl : l.length < 4611686018427387904) : Ret Tryz.prog 57 [v] w fun u w' => u = .tuple #[] ∧ w'.ownsRow base 9 1 v l.length (strs (sortS l)) ∧ w.grownBy w' v.ownBlock := by
  rcases hO.2 with ⟨rfl, h0⟩ | ⟨g, cap, cur, rfl, hg, hh, hnc, hcm, hcs, htake⟩
  · have hn : l = [] := List.eq_nil_of_length_eq_zero h0
    subst hn
    exact Calls.mono (Tryz.slices_Sort_string_none none 0 w) fun e w' ⟨h1, h2⟩ => ⟨_, h1, rfl, by subst h2; rw [show sortS [] = [] by simp [sortS]]; exact ⟨own_nil _ _ _ _, World.grownBy.refl _ _⟩⟩
  · have hlt : g < w.heap.size := (Array.getElem?_eq_some_iff.1 hh).1
    rw [Nat.mul_one] at hcs htake
    have hcell : ∀ j (hj : j < l.length), cur[j]? = some (str l[j]) := fun j hj => by
      have h1 : (cur.toList.take l.length)[j]? = some (str l[j]) := by rw [htake]; simp [strs, List.getElem?_eq_getElem hj]
      rw [List.getElem?_take, if_pos hj] at h1
      simpa using h1
    refine Calls.mono (Tryz.slices_Sort_string g 0 cap l w (fun j hj => ?_) hlt hl) fun e w' ⟨h1, n, os, h2⟩ => ⟨_, h1, rfl, ?_⟩
    · have hj' : j < l.length := by simpa using hj
      refine ⟨?_, ?_⟩
      · rw [Nat.zero_add, Lib.cell_of_heap hh j, hcell j hj']; simp [encStr, str, hj']
      · rw [Nat.zero_add]; exact Lib.frozen_of_heap hh j
    · subst h2
      have hsl : (sortS l).length = l.length := sortS_len l
      have hheap : (Sort.grow (Sort.putRow encStr (Sort.ahead w n) g 0 (sortS l).toArray) os).heap[g]? = some (.cells (Sort.putCells encStr 0 (sortS l).toArray cur) 9 (0, 0)) := by
        show ((w.heap.modify g (Sort.onCells (Sort.putCells encStr 0 (sortS l).toArray))) ++ os)[g]? = _
        rw [Array.getElem?_append, if_pos (by simpa using hlt), Array.getElem?_modify, if_pos rfl, hh]; rfl
      refine ⟨⟨by rw [Nat.mul_one]; simp [strs, hsl], .inr ⟨g, cap, _, rfl, hg, hheap, hnc, hcm, by rw [Nat.mul_one]; simpa [Sort.putCells] using hcs, ?_⟩⟩, ⟨rfl, rfl, rfl, ?_, fun k hk hne => ?_⟩⟩
      · rw [Nat.mul_one, ← hsl]; exact put_take _ _ (by rw [hsl, hcs]; exact hnc)
      · show w.heap.size ≤ ((w.heap.modify g _) ++ os).size; simp
      · show ((w.heap.modify g _) ++ os)[k]? = _
        rw [Array.getElem?_append, if_pos (by simpa using hk), Array.getElem?_modify, if_neg (fun e => hne (by rw [← e]; rfl))]
theorem Index_sr (A : Option Addr) (c : Nat) (l : List (List UInt8)) (x : List UInt8) (hl : l.length ≤ 1099511627776) (w : World) (hR : Rd w 1 A l.length (strs l)) : Ret Tryz.prog 92 [.slice A l.length c, str x] w fun v w' => (∃ k : Int, v = .int .i64 k ∧ decide (0 ≤ k) = decide (x ∈ l)) ∧ Below w.heap.size w w' := by
  have hb := Below.refl w.heap.size w
  have hR_hb := hR
  refine enter Tryz.func92 rfl rfl rfl <| Wc.seq fun _ hK_1 => Wc.region <| Wl.sg rfl rfl <| Wl.nil <| Wq.next hK_1 <| Wc.seq fun _ hK_3 => Wc.seq fun _ hK_4 => Wc.region <| Wl.mv rfl rfl <| Wl.y (y_lenl Tryz.underlying40 (by omega) rfl) rfl <| Wl.mv rfl rfl <| Wl.nil <| Wq.next hK_4 <| Wc.block <| Wc.loop (X := Nat) (fun i => [(0, .slice A l.length c), (1, str x), (7, .int .i64 (l.length : Int)), (8, .int .i64 (i : Int))]) (fun i wr => i ≤ l.length ∧ (∀ j, j < i → l.getD j [] ≠ x) ∧ Below w.heap.size w wr) (fun i => l.length - i) (0) ?_ ?_ ?_
  · exact by repeat first | exact Sub.nil | refine Sub.cons' rfl (by first | rfl | exact int_eq (by omega) | exact int_eq (by simp) | (simp; done)) ?_
  · exact ⟨by omega, fun _ h => by omega, hb⟩
  rintro i wr hI_9 _ hL_8
  replace hI_9 : i ≤ l.length ∧ (∀ j, j < i → l.getD j [] ≠ x) ∧ Below w.heap.size w wr := hI_9
  obtain ⟨hi, hall, hb⟩ := hI_9
  show Wc _ _ _ _ _ [(0, .slice A l.length c), (1, str x), (7, .int .i64 (l.length : Int)), (8, .int .i64 (i : Int))] _
  have hR := hR_hb.below hb
  have hzhb_L0 := hb.size
  refine Wc.seq fun _ hK_10 => Wc.region <| Wl.y (y_lssi rfl rfl) rfl <| Wl.nil <| Wq.next hK_10 <| Wc.seq fun _ hK_12 => Wc.cond rfl (fun c0_13 => ?_) (fun c0_13 => ?_)
  ·
   have c0_13_ := c0_13
   simp only [DZ] at c0_13
   have hil : i < l.length := by have := c0_13; omega
   obtain ⟨p_, v_, hpe, hve, hcell⟩ := hR.one (i := i) hil
   obtain rfl := strs_val hil hve
   subst hpe
   refine Wc.skip <| Wq.next hK_12 <| Wc.seq fun _ hK_14 => Wc.block <| Wc.seq fun _ hK_15 => Wc.region <| Wl.mv rfl rfl <| Wl.sg rfl rfl <| Wl.nil <| Wq.next hK_15 <| Wc.seq fun _ hK_18 => Wc.region <| Wl.mv rfl rfl <| Wl.mv rfl rfl <| Wl.mv rfl rfl <| Wl.y (y_indexAddr Tryz.underlying40 sz9LdB rfl rfl (by omega) (by omega)) rfl <| Wl.l (l_load one9LdB rfl (by exact at1 hcell)) rfl <| Wl.y (y_eqls rfl rfl) rfl <| Wl.nil <| Wq.next hK_18 <| Wc.cond rfl (fun c1_25 => ?_) (fun c1_25 => ?_)
   ·
    have c1_25_ := c1_25
    simp only [DZ] at c1_25
    refine Wc.seq fun _ hK_26 => Wc.region <| Wl.mv rfl rfl <| Wl.sg rfl rfl <| Wl.nil <| Wq.next hK_26 <| Wc.ret <| Wq.block_ret (Wq.then_ret (Wq.then_ret (Wq.block_ret (Wq.then_ret ?_))))
    refine ret1 rfl rfl ?_
    exact ⟨_, rfl, ⟨_, rfl, by rw [decide_eq_true (by omega : (0 : Int) ≤ i), eq_comm, decide_eq_true_eq, c1_25, getD_at [] hil]; exact List.getElem_mem hil⟩, hb⟩
   have c1_25_ := c1_25
   simp only [DZ] at c1_25
   refine Wc.skip <| Wq.block_normal <| Wq.next hK_14 <| Wc.region <| Wl.y (y_addI rfl rfl (by omega) (by omega)) rfl <| Wl.mv rfl rfl <| Wl.nil <| fun a_ ha_ => hL_8 _ _ (i + 1) (by omega) (by repeat first | exact Sub.nil | refine Sub.cons' rfl (by first | rfl | exact int_eq (by omega) | exact int_eq (by simp) | (simp; done)) ?_) ?_ a_ ha_
   exact ⟨by omega, fun j hj => (by by_cases e : j = i; (· rw [e]; exact fun h => c1_25 h.symm); (· exact hall j (by omega))), hb⟩
  have c0_13_ := c0_13
  simp only [DZ] at c0_13
  refine Wc.exit <| Wq.then_exit <| Wq.then_exit <| Wq.block_exit <| Wq.next hK_3 <| Wc.seq fun _ hK_31 => Wc.region <| Wl.sg rfl rfl <| Wl.nil <| Wq.next hK_31 <| Wc.ret <| ret1 rfl rfl ?_
  exact ⟨_, rfl, ⟨_, rfl, by rw [decide_eq_false (by omega : ¬ (0 : Int) ≤ -1), eq_comm, decide_eq_false_iff_not]; intro hx; obtain ⟨j, hj, he⟩ := List.getElem_of_mem hx; exact hall j (by have := c0_13; omega) (by rw [getD_at [] hj]; exact he)⟩, hb⟩
theorem Contains_r (A : Option Addr) (c n : Nat) (l : List (List UInt8)) (x : List UInt8) (hn : l.length = n) (hl : n ≤ 1099511627776) (w : World) (hR : Rd w 1 A n (strs l)) : Ret Tryz.prog 56 [.slice A n c, str x] w fun v w' => v = .bool (decide (x ∈ l)) ∧ Below w.heap.size w w' := by
  subst hn
  have hb := Below.refl w.heap.size w
  have hR_hb := hR
  refine enter Tryz.func56 rfl rfl rfl <| Wc.seq fun _ hK_1 => Wc.region <| Wl.sg rfl rfl <| Wl.nil <| Wq.next hK_1 <| Wc.seq fun _ hK_3 => Wc.region <| Wl.mv rfl rfl <| Wl.mv rfl rfl <| Wl.call txt92LdB rfl rfl (Index_sr A c l x hl _ hR) rfl ?_
  rintro _ w_k0 ⟨⟨k, rfl, hk⟩, hs_k0⟩
  have hz_k0 := hs_k0.size
  have hb := hb.trans (hs_k0.mono hb.size)
  have hR := hR_hb.below hb
  refine Wl.y (y_geqi rfl rfl) rfl <| Wl.sg rfl rfl <| Wl.nil <| Wq.next hK_3 <| Wc.ret <| ret1 rfl rfl ?_
  exact ⟨_, rfl, bool_eq hk, hb⟩
def labelsGo : Nat → List (List UInt8) → List UInt8 → Int → List (List UInt8) × List UInt8 × Int
  | 0, o, s, e => (o, s, e)
  | n + 1, o, s, e => if Lib.hasPrefix s [58] = true then labelsGo n (o ++ [wd (s.drop 1)]) (wdRest (s.drop 1)) (if wd (s.drop 1) ∈ o then badE (wdE (s.drop 1) e) 3 else wdE (s.drop 1) e) else (o, s, e)
def labelsOf (s : List UInt8) (e : Int) : List (List UInt8) × List UInt8 × Int := labelsGo s.length [] s e
theorem labelsGo_no {s : List UInt8} (h : Lib.hasPrefix s [58] = false) : ∀ (n : Nat) (o : List (List UInt8)) (e : Int), labelsGo n o s e = (o, s, e)
  | 0, _, _ => rfl
  | n + 1, o, e => by show (if _ then _ else _) = _; rw [if_neg (by rw [h]; simp)]
theorem colon_cons {s : List UInt8} (h : Lib.hasPrefix s [58] = true) : 0 < s.length := by
  cases s with
  | nil => exact absurd h (by decide)
  | cons c r => simp
theorem labelsGo_len : ∀ (n : Nat) (o : List (List UInt8)) (s : List UInt8) (e : Int), s.length ≤ n → (labelsGo n o s e).2.1.length ≤ s.length ∧ (labelsGo n o s e).1.length ≤ o.length + s.length
  | 0, o, s, e, h => by simp [labelsGo]
  | n + 1, o, s, e, h => by
    show (if _ then _ else _ : List (List UInt8) × List UInt8 × Int).2.1.length ≤ _ ∧ (if _ then _ else _ : List (List UInt8) × List UInt8 × Int).1.length ≤ _
    split
    · rename_i hc
      have h0 := colon_cons hc
      have h1 := wdRest_le (s.drop 1)
      have h2 : (s.drop 1).length = s.length - 1 := List.length_drop
      have ih := labelsGo_len n (o ++ [wd (s.drop 1)]) (wdRest (s.drop 1)) (if wd (s.drop 1) ∈ o then badE (wdE (s.drop 1) e) 3 else wdE (s.drop 1) e) (by omega)
      rw [List.length_append] at ih
      simp only [List.length_cons, List.length_nil] at ih
      omega
    · exact ⟨Nat.le_refl _, by show o.length ≤ _; omega⟩
theorem own_below_p {w : World} {base p : Nat} {e : TypeId} {sz n : Nat} {v : Value} {xs : List Value} (h : w.ownsRow base e sz v n xs) (hp : p < base) : v.ownBlock = none ∨ v.ownBlock ≠ some p := by
  cases hv : v.ownBlock with
  | none => exact .inl rfl
  | some k => have := (own_ge h k hv).1; exact .inr (fun e => by cases e; omega)
theorem labels_r (p : Nat) (s : List UInt8) (e : Int) (w : World) (hP : Blk w p 56 [str s, .int .i64 e]) (hs : s.length ≤ 4294967296) : Ret Tryz.prog 32 [.pointer (some ⟨p, 0, none⟩)] w fun v w' => (w'.ownsRow w.heap.size 9 1 v (labelsOf s e).1.length (strs (sortS (labelsOf s e).1)) ∧ Blk w' p 56 [str (labelsOf s e).2.1, .int .i64 (labelsOf s e).2.2]) ∧ Kp p w w' := by
  have hpl := hP.lt
  have hb := Kp.refl p w
  refine enter Tryz.func32 rfl rfl rfl <| Wc.seq fun _ hK_1 => Wc.region <| Wl.sg rfl rfl <| Wl.nil <| Wq.next hK_1 <| Wc.seq fun _ hK_3 => Wc.block <| Wc.loop (X := Nat × Value × List (List UInt8) × List UInt8 × Int) (fun (n, v, o, t, f) => [(0, .pointer (some ⟨p, 0, none⟩)), (2, v)]) (fun (n, v, o, t, f) wr => t.length ≤ n ∧ o.length + t.length ≤ s.length ∧ labelsGo n o t f = labelsOf s e ∧ Kp p w wr ∧ Blk wr p 56 [str t, .int .i64 f] ∧ wr.ownsRow w.heap.size 9 1 v o.length (strs o)) (fun (n, v, o, t, f) => t.length) (⟨s.length, .slice none 0 0, [], s, e⟩) ?_ ?_ ?_
  · exact by repeat first | exact Sub.nil | refine Sub.cons' rfl (by first | rfl | exact int_eq (by omega) | exact int_eq (by simp) | (simp; done)) ?_
  · exact ⟨Nat.le_refl _, by simp, rfl, hb, hP, own_nil _ _ _ _⟩
  rintro ⟨n, v, o, t, f⟩ wr hI_5 _ hL_4
  replace hI_5 : t.length ≤ n ∧ o.length + t.length ≤ s.length ∧ labelsGo n o t f = labelsOf s e ∧ Kp p w wr ∧ Blk wr p 56 [str t, .int .i64 f] ∧ wr.ownsRow w.heap.size 9 1 v o.length (strs o) := hI_5
  obtain ⟨hn, hol, hgo, hb, hP, hO⟩ := hI_5
  show Wc _ _ _ _ _ [(0, .pointer (some ⟨p, 0, none⟩)), (2, v)] _
  have hzhb_L0 := hb.size
  have hlhP_L0 := hP.lt
  refine Wc.seq fun _ hK_6 => Wc.seq fun _ hK_7 => Wc.region <| Wl.mv rfl rfl <| Wl.y (y_nilCheck rfl) rfl <| Wl.y (y_fieldAddr (fa56_0LdB _) rfl) rfl <| Wl.l (l_load one9LdB rfl (by exact hP.at (j := 0) rfl)) rfl <| Wl.call txt41LdB rfl rfl (HasPrefix_r t [58] _) rfl ?_
  rintro _ w_ ⟨rfl, hw_⟩
  have hw_ := hw_.symm; subst hw_
  refine Wl.nil <| Wq.next hK_7 <| Wc.cond rfl (fun c0_13 => ?_) (fun c0_13 => ?_)
  ·
   have c0_13_ := c0_13
   have hc : Lib.hasPrefix t [58] = true := c0_13_
   have hap_ : v.ownBlock = none ∨ v.ownBlock ≠ some p := own_below_p hO hpl
   have hap2 : some p ≠ v.ownBlock := fun h => by rcases hap_ with h2 | h2; (· rw [h2] at h; cases h); (· exact h2 h.symm)
   have h0 := colon_cons hc
   have h1 := wdRest_le (t.drop 1)
   have h2 : (t.drop 1).length = t.length - 1 := List.length_drop
   refine Wc.skip <| Wq.next hK_6 <| Wc.block <| Wc.seq fun _ hK_14 => Wc.region <| Wl.mv rfl rfl <| Wl.mv rfl rfl <| Wl.y (y_nilCheck rfl) rfl <| Wl.y (y_fieldAddr (fa56_0LdB _) rfl) rfl <| Wl.l (l_load one9LdB rfl (by exact hP.at (j := 0) rfl)) rfl <| Wl.y (y_slicesL Tryz.underlying9 rfl rfl (by omega) (by omega)) rfl <| Wl.y (y_nilCheck rfl) rfl <| Wl.y (y_fieldAddr (fa56_0LdB _) rfl) rfl <| Wl.storeB one9LdB rfl rfl rfl hP (by simp) ?_
   rintro w_s0 hn_s0 hg_s0
   have hz_s0 := hg_s0.size
   have hb := kp_blk hb hg_s0 (by omega)
   have hO := World.ownsRow.kept hO hg_s0 (by assumption)
   have hP := hn_s0
   refine Wl.nil <| Wq.next hK_14 <| Wc.seq fun _ hK_23 => Wc.region <| Wl.mv rfl rfl ?_
   obtain ⟨Ao, co, hve, hoc, _⟩ := own_form hO
   subst hve
   refine Wl.call txt19LdB rfl rfl (word_r p (t.drop 1) f _ hP (by omega)) rfl ?_
   rintro _ w_k1 ⟨⟨rfl, hP⟩, hs_k1⟩
   have hz_k1 := hs_k1.size
   have hO := own_kp hO hs_k1 (by omega)
   have hb := hb.trans hs_k1
   refine Wl.sg rfl rfl <| Wl.nil <| Wq.next hK_23 <| Wc.seq fun _ hK_27 => Wc.seq fun _ hK_28 => Wc.region <| Wl.mv rfl rfl <| Wl.mv rfl rfl <| Wl.call txt56LdB rfl rfl (Contains_r Ao co o.length o (wd (t.drop 1)) rfl (by omega) _ (Rd.of_own hO)) rfl ?_
   rintro _ w_k2 ⟨rfl, hs_k2⟩
   have hz_k2 := hs_k2.size
   have hP := Blk.below hP hs_k2
   have hO := own_below hO hs_k2
   replace hs_k2 := Below.kp (p := p) hs_k2
   have hb := hb.trans hs_k2
   refine Wl.nil <| Wq.next hK_28 <| Wc.meet (X := Unit) (fun u_ => [(0, .pointer (some ⟨p, 0, none⟩)), (2, .slice Ao o.length co), (3, str (wd (t.drop 1)))]) (fun u_ wm => Kp p w wm ∧ Blk wm p 56 [str (wdRest (t.drop 1)), .int .i64 (if wd (t.drop 1) ∈ o then badE (wdE (t.drop 1) f) 3 else wdE (t.drop 1) f)] ∧ wm.ownsRow w.heap.size 9 1 (.slice Ao o.length co) o.length (strs o)) (fun _ hM_32 => ?_) ?_
   ·
    refine Wc.cond rfl (fun c1_33 => ?_) (fun c1_33 => ?_)
    ·
     have c1_33_ := c1_33
     simp only [DZ] at c1_33
     refine Wc.region <| Wl.mv rfl rfl <| Wl.call txt36LdB rfl rfl (bad_r p (wdRest (t.drop 1)) (wdE (t.drop 1) f) 3 _ hP) rfl ?_
     rintro _ w_k3 ⟨⟨rfl, hP⟩, hs_k3⟩
     have hz_k3 := hs_k3.size
     have hO := own_kp hO hs_k3 (by omega)
     have hb := hb.trans hs_k3
     refine Wl.nil <| Wq.meet hM_32 (()) (by repeat first | exact Sub.nil | refine Sub.cons' rfl (by first | rfl | exact int_eq (by omega) | exact int_eq (by simp) | (simp; done)) ?_) ?_
     exact ⟨hb, by first | (rw [if_pos (by simpa using c1_33)]; exact hP) | (rw [if_neg (by simpa using c1_33)]; exact hP), hO⟩
    have c1_33_ := c1_33
    simp only [DZ] at c1_33
    refine Wc.skip <| Wq.meet hM_32 (()) (by repeat first | exact Sub.nil | refine Sub.cons' rfl (by first | rfl | exact int_eq (by omega) | exact int_eq (by simp) | (simp; done)) ?_) ?_
    exact ⟨hb, by first | (rw [if_pos (by simpa using c1_33)]; exact hP) | (rw [if_neg (by simpa using c1_33)]; exact hP), hO⟩
   rintro u_ wm hI_36
   replace hI_36 : Kp p w wm ∧ Blk wm p 56 [str (wdRest (t.drop 1)), .int .i64 (if wd (t.drop 1) ∈ o then badE (wdE (t.drop 1) f) 3 else wdE (t.drop 1) f)] ∧ wm.ownsRow w.heap.size 9 1 (.slice Ao o.length co) o.length (strs o) := hI_36
   obtain ⟨hb, hP, hO⟩ := hI_36
   show Wq _ _ _ _ [(0, .pointer (some ⟨p, 0, none⟩)), (2, .slice Ao o.length co), (3, str (wd (t.drop 1)))] _
   have hzhb_c1 := hb.size
   have hlhP_c1 := hP.lt
   refine Wq.next hK_27 <| Wc.region <| Wl.mv rfl rfl <| Wl.mv rfl rfl <| Wl.litN (sz := 1) (vs := [_]) Tryz.underlying40 (by kernel_rfl) rfl rfl rfl rfl rfl rfl ?_
   rintro g_b0 w_b0 hg_b0 hn_b0 hs_b0
   have hz_b0 := hs_b0.size
   have hP := hP.below hs_b0
   have hO := own_below hO hs_b0
   replace hs_b0 := Below.kp (p := p) hs_b0
   have hb := hb.trans hs_b0
   have hB_b0 := hn_b0
   have hl_b0 := hB_b0.lt
   refine Wl.append (z := (str [])) (sz := 1) (bytes := 16) Tryz.underlying40 (by kernel_rfl) rfl (by decide) _ rfl hO rfl (hB_b0.rd 1 1 rfl) (one_str _) (by simp only [maxLen]; omega) (by omega) (by exact hb.size) rfl ?_
   rintro v_b1 w_b1 hn_b1 hg_b1 ha_b1
   have hz_b1 := hg_b1.size
   have hb := kp_row hb hg_b1 (fun k_ hk_ => by have := (own_ge hO k_ hk_).1; omega)
   have hP := Blk.grown hP hg_b1 (by first | assumption | (simp [Value.ownBlock]; omega))
   have hO := hn_b1
   refine Wl.sg rfl rfl <| Wl.nil <| Wq.block_normal <| fun a_ ha_ => hL_4 _ _ (⟨n - 1, v_b1, o ++ [wd (t.drop 1)], wdRest (t.drop 1), if wd (t.drop 1) ∈ o then badE (wdE (t.drop 1) f) 3 else wdE (t.drop 1) f⟩) (by show (wdRest (t.drop 1)).length < t.length; omega) (by repeat first | exact Sub.nil | refine Sub.cons' rfl (by first | rfl | exact int_eq (by omega) | exact int_eq (by simp) | (simp; done)) ?_) ?_ a_ ha_
   exact ⟨(show (wdRest (t.drop 1)).length ≤ n - 1 by omega), (show (o ++ [wd (t.drop 1)]).length + (wdRest (t.drop 1)).length ≤ s.length by rw [List.length_append]; simp only [List.length_cons, List.length_nil]; omega), by rw [← hgo]; obtain ⟨m, rfl⟩ : ∃ m, n = m + 1 := ⟨n - 1, by omega⟩; show _ = (if _ then _ else _); rw [if_pos hc]; rfl, hb, hP, by rw [List.length_append, strs_snoc]; exact hO⟩
  have c0_13_ := c0_13
  have hdone : labelsOf s e = (o, t, f) := by rw [← hgo, labelsGo_no c0_13_]
  refine Wc.exit <| Wq.then_exit <| Wq.then_exit <| Wq.block_exit <| Wq.next hK_3 <| Wc.seq fun _ hK_42 => Wc.region <| Wl.mv rfl rfl <| Wl.call txtSort rfl rfl (Sort_r w.heap.size v o _ hO (by omega)) rfl ?_
  rintro _ w_k4 ⟨rfl, hO2, hg_k4⟩
  have hP := hP.grown hg_k4 (fun h => by rcases own_below_p hO hpl with h2 | h2; (· rw [h2] at h; cases h); (· exact h2 h.symm))
  have hb := kp_row hb hg_k4 (fun k_ hk_ => by have := (own_ge hO k_ hk_).1; omega)
  refine Wl.nil <| Wq.next hK_42 <| Wc.seq fun _ hK_45 => Wc.region <| Wl.mv rfl rfl <| Wl.sg rfl rfl <| Wl.nil <| Wq.next hK_45 <| Wc.ret <| ret1 rfl rfl ?_
  exact ⟨_, rfl, by rw [hdone]; exact ⟨hO2, hP⟩, hb⟩
end Go.Proofs.YtjmlknjbhbfneaaGreatDoor
namespace Go.Proofs.YtjmlknjbhbfneaaGreatDoor
open Go.RowKit Go.Bw Go.Bw.Fl
set_option linter.unusedVariables false
set_option linter.unusedSimpArgs false
theorem fa50_1LdC (p : Addr) (w : World) : (Instr.fieldAt 50 (.pointer (some p)) 1).run Tryz.prog w = .ok (.pointer (some (p.add 2))) w := run_fieldAt (i := 1) (sz := 0) Tryz.underlying50 rfl (by kernel_rfl) p w
theorem fa56_0LdC (p : Addr) (w : World) : (Instr.fieldAt 56 (.pointer (some p)) 0).run Tryz.prog w = .ok (.pointer (some (p.add 0))) w := run_fieldAt (i := 0) (sz := 0) Tryz.underlying56 rfl (by kernel_rfl) p w
theorem fa96_0LdC (p : Addr) (w : World) : (Instr.fieldAt 96 (.pointer (some p)) 0).run Tryz.prog w = .ok (.pointer (some (p.add 0))) w := run_fieldAt (i := 0) (sz := 0) Tryz.underlying96 rfl (by kernel_rfl) p w
theorem one3LdC : One Tryz.prog 3 := ⟨_, Tryz.underlying3, rfl, by kernel_rfl⟩
theorem one48LdC : One Tryz.prog 48 := ⟨_, Tryz.underlying48, rfl, by kernel_rfl⟩
theorem one9LdC : One Tryz.prog 9 := ⟨_, Tryz.underlying9, rfl, by kernel_rfl⟩
theorem txt106LdC : Txt Tryz.prog 106 := ⟨_, Tryz.func106, by kernel_rfl, rfl⟩   -- internal/stringslite.Index
theorem txt136LdC : Txt Tryz.prog 136 := ⟨_, Tryz.func136, by kernel_rfl, rfl⟩   -- internal/stringslite.Cut
theorem txt18LdC : Txt Tryz.prog 18 := ⟨_, Tryz.func18, by kernel_rfl, rfl⟩   -- (*bridleway/load.line).blanks
theorem txt36LdC : Txt Tryz.prog 36 := ⟨_, Tryz.func36, by kernel_rfl, rfl⟩   -- (*bridleway/load.line).bad
theorem txt43LdC : Txt Tryz.prog 43 := ⟨_, Tryz.func43, by kernel_rfl, rfl⟩   -- bridleway/label.Word
theorem txt95LdC : Txt Tryz.prog 95 := ⟨_, Tryz.func95, by kernel_rfl, rfl⟩   -- strings.Cut
theorem txt96LdC : Txt Tryz.prog 96 := ⟨_, Tryz.func96, by kernel_rfl, rfl⟩   -- bridleway/value.Read
theorem find_r (p x m1 : Nat) (s : List UInt8) (e : Int) (kv : List (List UInt8 × Value)) (nm : List UInt8) (xs : List Value) (w : World) (hP : Blk w p 56 [str s, .int .i64 e]) (hX : Blk w x 50 xs) (hx2 : xs[2]? = some (.map (some m1))) (hM : Mp w m1 kv) : Ret Tryz.prog 38 [.pointer (some ⟨x, 0, none⟩), .pointer (some ⟨p, 0, none⟩), str nm] w fun v w' => (v = (mlook kv nm).getD (.int .i64 0) ∧ Blk w' p 56 [str s, .int .i64 (if (mlook kv nm).isSome = true then e else badE e 3)]) ∧ Kp p w w' := by
  have hpl := hP.lt
  have hb := Kp.refl p w
  refine enter Tryz.func38 rfl rfl rfl <| Wc.seq fun _ hK_1 => Wc.region <| Wl.sg rfl rfl <| Wl.nil <| Wq.next hK_1 <| Wc.seq fun _ hK_3 => Wc.region <| Wl.mv rfl rfl <| Wl.y (y_nilCheck rfl) rfl <| Wl.y (y_fieldAddr (fa50_1LdC _) rfl) rfl <| Wl.l (l_load one48LdC rfl (by exact hX.at (j := 2) hx2)) rfl <| Wl.mv rfl rfl <| Wl.l (l_lookup (z := (.int .i64 0)) Tryz.underlying48 Tryz.underlying9 (by kernel_rfl) rfl rfl (by exact hM)) rfl <| Wl.mv rfl rfl <| Wl.y (y_extract rfl rfl) rfl <| Wl.y (y_extract rfl rfl) rfl <| Wl.sg rfl rfl <| Wl.sg rfl rfl <| Wl.nil <| Wq.next hK_3 <| Wc.seq fun _ hK_15 => Wc.seq fun _ hK_16 => Wc.region <| Wl.mv rfl rfl <| Wl.y (y_not rfl) rfl <| Wl.nil <| Wq.next hK_16 <| Wc.cond rfl (fun c0_19 => ?_) (fun c0_19 => ?_)
  ·
   have c0_19_ := c0_19
   simp only [DZ] at c0_19
   refine Wc.region <| Wl.mv rfl rfl <| Wl.call txt36LdC rfl rfl (bad_r p s e 3 _ hP) rfl ?_
   rintro _ w_k0 ⟨⟨rfl, hP⟩, hs_k0⟩
   have hz_k0 := hs_k0.size
   have hb := hb.trans hs_k0
   refine Wl.nil <| Wq.next hK_15 <| Wc.seq fun _ hK_22 => Wc.region <| Wl.mv rfl rfl <| Wl.sg rfl rfl <| Wl.nil <| Wq.next hK_22 <| Wc.ret <| ret1 rfl rfl ?_
   exact ⟨_, rfl, ⟨rfl, by rw [if_neg (by simpa using c0_19)]; exact hP⟩, hb⟩
  have c0_19_ := c0_19
  simp only [DZ] at c0_19
  refine Wc.skip <| Wq.next hK_15 <| Wc.seq fun _ hK_25 => Wc.region <| Wl.mv rfl rfl <| Wl.sg rfl rfl <| Wl.nil <| Wq.next hK_25 <| Wc.ret <| ret1 rfl rfl ?_
  exact ⟨_, rfl, ⟨rfl, by rw [if_pos (by simpa using c0_19)]; exact hP⟩, hb⟩
/-- what stands ahead of the first '=', and behind it -/
def cutE (s : List UInt8) : List UInt8 × List UInt8 := if 0 ≤ Lib.indexByte s 61 then (s.take (Lib.indexByte s 61).toNat, s.drop ((Lib.indexByte s 61).toNat + 1)) else (s, [])
theorem cutE_len (s : List UInt8) : (cutE s).1.length ≤ s.length ∧ (cutE s).2.length ≤ s.length ∧ (s ≠ [] → (cutE s).2.length < s.length) := by
  unfold cutE; split
  · refine ⟨by simp; omega, by simp, fun h => ?_⟩
    have := List.length_pos_iff.2 h
    simp; omega
  · exact ⟨Nat.le_refl _, by simp, fun h => List.length_pos_iff.2 h⟩
theorem IndexE_r (s : List UInt8) (w : World) : Ret Tryz.prog 106 [str s, str [61]] w fun v w' => (∃ z, v = .int .i64 z ∧ z = Lib.indexByte s 61) ∧ w' = w :=
  Calls.mono (Tryz.stringslite_Index_one ⟨s.toArray⟩ 61 w) fun e w' ⟨h1, h2⟩ => ⟨_, h1, ⟨_, rfl, rfl⟩, h2⟩
theorem idxE_lt {s : List UInt8} {o : Nat} (h : Lib.indexByte s 61 = (o : Int)) : o < s.length := (List.getElem?_eq_some_iff.1 (Lib.indexByte_some h).1).1
theorem iCutE_r (s : List UInt8) (hs : s.length ≤ 281474976710656) (w : World) : Ret Tryz.prog 136 [str s, str [61]] w fun v w' => (∃ b, v = .tuple #[str (cutE s).1, str (cutE s).2, .bool b]) ∧ Below w.heap.size w w' := by
  have h11 : ([61] : List UInt8).length = 1 := rfl
  have hb := Below.refl w.heap.size w
  refine enter Tryz.func136 rfl rfl rfl <| Wc.seq fun _ hK_1 => Wc.region <| Wl.sg rfl rfl <| Wl.sg rfl rfl <| Wl.sg rfl rfl <| Wl.nil <| Wq.next hK_1 <| Wc.seq fun _ hK_5 => Wc.seq fun _ hK_6 => Wc.region <| Wl.mv rfl rfl <| Wl.mv rfl rfl <| Wl.call txt106LdC rfl rfl (IndexE_r s _) rfl ?_
  rintro _ w_ ⟨⟨z, rfl, hz⟩, hw_⟩
  have hw_ := hw_.symm; subst hw_
  refine Wl.sg rfl rfl <| Wl.nil <| Wq.next hK_6 <| Wc.seq fun _ hK_11 => Wc.region <| Wl.mv rfl rfl <| Wl.y (y_geqi rfl rfl) rfl <| Wl.nil <| Wq.next hK_11 <| Wc.cond rfl (fun c0_14 => ?_) (fun c0_14 => ?_)
  ·
   have c0_14_ := c0_14
   simp only [DZ] at c0_14
   obtain ⟨o, rfl⟩ : ∃ o : Nat, z = o := ⟨z.toNat, by have := c0_14; omega⟩
   have ho := idxE_lt hz.symm
   refine Wc.seq fun _ hK_15 => Wc.quiet (by kernel_rfl) (by kernel_rfl) <| Wy.y (y_move rfl) rfl <| Wy.y (y_move rfl) rfl <| Wy.y (y_slicesH Tryz.underlying9 rfl rfl (by omega) (by omega)) rfl <| Wy.y (y_move rfl) rfl <| Wy.y (y_move rfl) rfl <| Wy.y (y_move rfl) rfl <| Wy.y (y_lens Tryz.underlying9 (by omega) rfl) rfl <| Wy.y (y_addI rfl rfl (by omega) (by omega)) rfl <| Wy.y (y_slicesL Tryz.underlying9 rfl rfl (by omega) (by omega)) rfl <| Wy.y (y_assign rfl) rfl <| Wy.y (y_assign rfl) rfl <| Wy.y (y_assign rfl) rfl <| Wy.nil fun w_g3 hs_g3 => ?_
   have hz_g3 := hs_g3.size
   have hb := hb.trans (hs_g3.mono hb.size)
   refine Wq.next hK_15 <| Wc.ret <| Wq.then_ret <| ret3 rfl rfl rfl rfl ?_
   exact ⟨_, rfl, ⟨true, by unfold cutE; rw [← hz, if_pos (by omega), Int.toNat_natCast]; rfl⟩, hb⟩
  have c0_14_ := c0_14
  simp only [DZ] at c0_14
  refine Wc.skip <| Wq.next hK_5 <| Wc.seq fun _ hK_28 => Wc.region <| Wl.mv rfl rfl <| Wl.sg rfl rfl <| Wl.sg rfl rfl <| Wl.sg rfl rfl <| Wl.nil <| Wq.next hK_28 <| Wc.ret <| ret3 rfl rfl rfl rfl ?_
  exact ⟨_, rfl, ⟨false, by unfold cutE; rw [← hz, if_neg (by have := c0_14; omega)]; rfl⟩, hb⟩
theorem CutE_r (s : List UInt8) (hs : s.length ≤ 281474976710656) (w : World) : Ret Tryz.prog 95 [str s, str [61]] w fun v w' => (∃ b, v = .tuple #[str (cutE s).1, str (cutE s).2, .bool b]) ∧ Below w.heap.size w w' := by
  have hb := Below.refl w.heap.size w
  refine enter Tryz.func95 rfl rfl rfl <| Wc.seq fun _ hK_1 => Wc.region <| Wl.sg rfl rfl <| Wl.sg rfl rfl <| Wl.sg rfl rfl <| Wl.nil <| Wq.next hK_1 <| Wc.seq fun _ hK_5 => Wc.region <| Wl.mv rfl rfl <| Wl.mv rfl rfl <| Wl.call txt136LdC rfl rfl (iCutE_r s hs _) rfl ?_
  rintro _ w_k0 ⟨⟨b, rfl⟩, hs_k0⟩
  have hz_k0 := hs_k0.size
  have hb := hb.trans (hs_k0.mono hb.size)
  refine Wl.y (y_extract rfl rfl) rfl <| Wl.y (y_extract rfl rfl) rfl <| Wl.y (y_extract rfl rfl) rfl <| Wl.sg rfl rfl <| Wl.sg rfl rfl <| Wl.sg rfl rfl <| Wl.nil <| Wq.next hK_5 <| Wc.ret <| ret3 rfl rfl rfl rfl ?_
  exact ⟨_, rfl, ⟨b, rfl⟩, hb⟩
/-- may a property not be? -/
def propNo (nm rest : List UInt8) (n : Nat) (ok : Bool) : Bool := !wordA nm || !ok || (decide (n < rest.length) && decide (rest.getD n 0 ≠ 32))
noncomputable def propOf (s : List UInt8) (e : Int) : Pr × List UInt8 × Int :=
  let r := readV pf uqV (cutE s).2
  let u := (r.map (·.1)).getD nullV
  let n := (r.map (·.2)).getD 0
  if propNo (cutE s).1 (cutE s).2 n r.isSome = true then (pr0, [], badE e 2) else (((cutE s).1, u), blanksV ((cutE s).2.drop n), if u.k = 0 then badE e 4 else e)
theorem propOf_len {s : List UInt8} (hs : s ≠ []) (e : Int) : (propOf s e).2.1.length < s.length := by
  have h := cutE_len s
  have h1 := h.2.2 hs
  have h0 := List.length_pos_iff.2 hs
  unfold propOf
  dsimp only
  split
  · exact h0
  · have := blanksV_le ((cutE s).2.drop ((Option.map (fun x => x.2) (readV pf uqV (cutE s).2)).getD 0))
    rw [List.length_drop] at this
    show (blanksV _).length < _; omega
theorem propOf_ok (s : List UInt8) (e : Int) : (propOf s e).1.2.Ok := by
  have h0 : nullV.Ok := ⟨by decide, by decide, by decide⟩
  unfold propOf
  dsimp only
  split
  · exact h0
  · show ((Option.map (fun x => x.1) (readV pf uqV (cutE s).2)).getD nullV).Ok
    cases h : readV pf uqV (cutE s).2 with
    | none => exact h0
    | some r => exact readV_ok (n := r.2) (v := r.1) h
theorem u8ne (c : UInt8) : ((c.toNat : Int) != 32) = decide (c ≠ 32) := by
  rw [Bool.eq_iff_iff]; simp only [bne_iff_ne, ne_eq, decide_eq_true_eq]
  exact ⟨fun h e => h (by rw [e]; rfl), fun h e => h (UInt8.toNat_inj.1 (by show c.toNat = 32; omega))⟩
theorem prop_r (p : Nat) (s : List UInt8) (e : Int) (w : World) (hP : Blk w p 56 [str s, .int .i64 e]) (hs : s.length ≤ 1099511627776) (hL : Lb w) : Ret Tryz.prog 58 [.pointer (some ⟨p, 0, none⟩)] w fun v w' => (v = .agg (propC (propOf s e).1).toArray ∧ Blk w' p 56 [str (propOf s e).2.1, .int .i64 (propOf s e).2.2]) ∧ Kp p w w' := by
  have hpl := hP.lt
  have hcl := cutE_len s
  have hb := Kp.refl p w
  refine enter Tryz.func58 rfl rfl rfl <| Wc.seq fun _ hK_1 => Wc.region <| Wl.allocN (z := (.agg #[(str []), (.int .i64 0), (.int .i64 0), (.float .f64 0), (str [])])) (by kernel_rfl) rfl ?_
  rintro g_o0 w_o0 hg_o0 hn_o0 hs_o0
  have hz_o0 := hs_o0.size
  have hP := hP.below hs_o0
  have hL := hL.below hs_o0
  replace hs_o0 := Below.kp (p := p) hs_o0
  have hb := hb.trans hs_o0
  have hB_o0 := hn_o0
  have hl_o0 := hB_o0.lt
  refine Wl.nil <| Wq.next hK_1 <| Wc.seq fun _ hK_3 => Wc.region <| Wl.mv rfl rfl <| Wl.y (y_nilCheck rfl) rfl <| Wl.y (y_fieldAddr (fa56_0LdC _) rfl) rfl <| Wl.l (l_load one9LdC rfl (by exact hP.at (j := 0) rfl)) rfl <| Wl.call txt95LdC rfl rfl (CutE_r s (by omega) _) rfl ?_
  rintro _ w_k0 ⟨⟨bc, rfl⟩, hs_k0⟩
  have hz_k0 := hs_k0.size
  have hP := Blk.below hP hs_k0
  have hL := Lb.below hL hs_k0
  have hB_o0 := Blk.below hB_o0 hs_k0
  replace hs_k0 := Below.kp (p := p) hs_k0
  have hb := hb.trans hs_k0
  refine Wl.mv rfl rfl <| Wl.y (y_extract rfl rfl) rfl <| Wl.y (y_extract rfl rfl) rfl <| Wl.y (y_extract rfl rfl) rfl <| Wl.sg rfl rfl <| Wl.sg rfl rfl <| Wl.sg rfl rfl <| Wl.nil <| Wq.next hK_3 <| Wc.seq fun _ hK_16 => ?_
  obtain ⟨c1, hc1⟩ : ∃ c1, c1 = cutE s := ⟨_, rfl⟩
  refine Wc.region <| Wl.mv rfl rfl <| Wl.call txt96LdC rfl rfl (Read_x (cutE s).2 (by omega) _ hL) rfl ?_
  rintro _ w_k1 ⟨⟨u, n, ok, rfl, hr⟩, hs_k1⟩
  have hz_k1 := hs_k1.size
  have hP := Blk.below hP hs_k1
  have hB_o0 := Blk.below hB_o0 hs_k1
  replace hs_k1 := Below.kp (p := p) hs_k1
  have hb := hb.trans hs_k1
  refine Wl.mv rfl rfl <| Wl.y (y_extract rfl rfl) rfl <| Wl.y (y_extract rfl rfl) rfl <| Wl.y (y_extract rfl rfl) rfl <| Wl.allocN (z := (.agg #[(.int .i64 0), (.int .i64 0), (.float .f64 0), (str [])])) (by kernel_rfl) rfl ?_
  rintro g_o16 w_o16 hg_o16 hn_o16 hs_o16
  have hz_o16 := hs_o16.size
  have hP := hP.below hs_o16
  have hB_o0 := hB_o0.below hs_o16
  replace hs_o16 := Below.kp (p := p) hs_o16
  have hb := hb.trans hs_o16
  have hB_o16 := hn_o16
  have hl_o16 := hB_o16.lt
  refine Wl.storeS (by kernel_rfl) rfl rfl hB_o16 rfl rfl ?_
  rintro w_s0 hn_s0 hg_s0
  have hz_s0 := hg_s0.size
  have hb := kp_blk hb hg_s0 (by omega)
  have hP := hP.over hg_s0 (by omega)
  have hB_o0 := hB_o0.over hg_s0 (by omega)
  have hB_o16 := hn_s0
  refine Wl.sg rfl rfl <| Wl.sg rfl rfl <| Wl.nil <| Wq.next hK_16 <| Wc.seq fun _ hK_26 => Wc.seq fun _ hK_27 => ?_
  have hrd : (Option.map (fun x => x.1) (readV pf uqV (cutE s).2)).getD nullV = u ∧ (Option.map (fun x => x.2) (readV pf uqV (cutE s).2)).getD 0 = n ∧ (readV pf uqV (cutE s).2).isSome = ok ∧ n ≤ (cutE s).2.length := by
    rcases hr with ⟨h1, h2⟩ | ⟨h1, h2, h3, h4⟩
    · rw [h2, h1]; exact ⟨rfl, rfl, rfl, (readV_len h2).2⟩
    · rw [h2, h1, h3, h4]; exact ⟨rfl, rfl, rfl, Nat.zero_le _⟩
  obtain ⟨hu, hn, hok, hnl⟩ := hrd
  have hpo : propOf s e = if propNo (cutE s).1 (cutE s).2 n ok = true then (pr0, [], badE e 2) else (((cutE s).1, u), blanksV ((cutE s).2.drop n), if u.k = 0 then badE e 4 else e) := by unfold propOf; dsimp only; rw [hu, hn, hok]
  refine Wc.meet (X := Bool) (fun q => [(0, .pointer (some ⟨p, 0, none⟩)), (2, .pointer (some ⟨g_o0, 0, none⟩)), (3, str (cutE s).1), (4, str (cutE s).2), (6, .pointer (some ⟨g_o16, 0, none⟩)), (7, .int .i64 (n : Int)), (42, .bool q)]) (fun q wr => q = propNo (cutE s).1 (cutE s).2 n ok ∧ Kp p w wr ∧ Blk wr p 56 [str s, .int .i64 e] ∧ Blk wr g_o0 105 (propC pr0) ∧ Blk wr g_o16 96 u.cells) (fun _ hM_28 => ?_) ?_
  ·
   refine Wc.region <| Wl.mv rfl rfl <| Wl.call txt43LdC rfl rfl (WordA_r (cutE s).1 (by omega) _) rfl ?_
   rintro _ w_k2 ⟨rfl, hs_k2⟩
   have hz_k2 := hs_k2.size
   have hP := Blk.below hP hs_k2
   have hB_o0 := Blk.below hB_o0 hs_k2
   have hB_o16 := Blk.below hB_o16 hs_k2
   replace hs_k2 := Below.kp (p := p) hs_k2
   have hb := hb.trans hs_k2
   refine Wl.y (y_not rfl) rfl <| Wl.mv rfl rfl <| Wl.guardF rfl rfl rfl (fun g_33 => ?_) (fun g_33 => ?_)
   ·
    have g_33_ := g_33
    simp only [DZ] at g_33
    refine Wl.off' rfl rfl g_33_ rfl rfl <| Wl.y (y_pickT rfl g_33_ rfl) rfl <| Wl.mv rfl rfl <| Wl.off' rfl rfl rfl rfl rfl <| Wl.off' rfl rfl rfl rfl rfl <| Wl.off' rfl rfl rfl rfl rfl <| Wl.off' rfl rfl rfl rfl rfl <| Wl.off' rfl rfl rfl rfl rfl <| Wl.offU rfl rfl rfl <| Wl.offU rfl rfl rfl <| Wl.offU rfl rfl rfl <| Wl.offU rfl rfl rfl <| Wl.off' rfl rfl rfl rfl rfl <| Wl.y (y_pickT rfl rfl rfl) rfl <| Wl.nil <| Wq.meet hM_28 (propNo (cutE s).1 (cutE s).2 n ok) (by repeat first | exact Sub.nil | refine Sub.cons' rfl (by first | rfl | exact bool_eq (by unfold propNo; simp_all [u8ne])) ?_) ?_
    exact ⟨rfl, hb, hP, hB_o0, hB_o16⟩
   have g_33_ := g_33
   simp only [DZ] at g_33
   refine Wl.mv rfl rfl <| Wl.on' rfl rfl g_33_ <| Wl.y (y_not rfl) rfl <| Wl.y (y_pickF rfl g_33_ rfl) rfl <| Wl.mv rfl rfl <| Wl.guardF rfl rfl rfl (fun g_41 => ?_) (fun g_41 => ?_)
   ·
    have g_41_ := g_41
    simp only [DZ] at g_41
    refine Wl.off' rfl rfl g_41_ rfl rfl <| Wl.off' rfl rfl g_41_ rfl rfl <| Wl.off' rfl rfl g_41_ rfl rfl <| Wl.off' rfl rfl g_41_ rfl rfl <| Wl.offU rfl rfl rfl <| Wl.offU rfl rfl rfl <| Wl.offU rfl rfl rfl <| Wl.offU rfl rfl rfl <| Wl.off' rfl rfl g_41_ rfl rfl <| Wl.y (y_pickT rfl g_41_ rfl) rfl <| Wl.nil <| Wq.meet hM_28 (propNo (cutE s).1 (cutE s).2 n ok) (by repeat first | exact Sub.nil | refine Sub.cons' rfl (by first | rfl | exact bool_eq (by unfold propNo; simp_all [u8ne])) ?_) ?_
    exact ⟨rfl, hb, hP, hB_o0, hB_o16⟩
   have g_41_ := g_41
   simp only [DZ] at g_41
   refine Wl.mv rfl rfl <| Wl.on' rfl rfl g_41_ <| Wl.mv rfl rfl <| Wl.on' rfl rfl g_41_ <| Wl.y (y_lens Tryz.underlying9 (by omega) rfl) rfl <| Wl.on' rfl rfl g_41_ <| Wl.y (y_lssi rfl rfl) rfl <| Wl.on' rfl rfl g_41_ <| Wl.mv rfl rfl <| Wl.guardT rfl rfl rfl (fun g_48 => ?_) (fun g_48 => ?_)
   ·
    have g_48_ := g_48
    simp only [DZ] at g_48
    refine Wl.mv rfl rfl <| Wl.on' rfl rfl g_48_ <| Wl.mv rfl rfl <| Wl.on' rfl rfl g_48_ <| Wl.y (y_indexs Tryz.underlying9 rfl rfl (by omega) (by omega)) rfl <| Wl.on' rfl rfl g_48_ <| Wl.y (y_neqi rfl rfl) rfl <| Wl.on' rfl rfl g_41_ <| Wl.y (y_pickT rfl g_48_ rfl) rfl <| Wl.y (y_pickF rfl g_41_ rfl) rfl <| Wl.nil <| Wq.meet hM_28 (propNo (cutE s).1 (cutE s).2 n ok) (by repeat first | exact Sub.nil | refine Sub.cons' rfl (by first | rfl | exact bool_eq (by unfold propNo; simp_all [u8ne])) ?_) ?_
    exact ⟨rfl, hb, hP, hB_o0, hB_o16⟩
   have g_48_ := g_48
   simp only [DZ] at g_48
   refine Wl.off' rfl rfl g_48_ rfl rfl <| Wl.off' rfl rfl g_48_ rfl rfl <| Wl.off' rfl rfl g_48_ rfl rfl <| Wl.on' rfl rfl g_41_ <| Wl.y (y_pickF rfl g_48_ rfl) rfl <| Wl.y (y_pickF rfl g_41_ rfl) rfl <| Wl.nil <| Wq.meet hM_28 (propNo (cutE s).1 (cutE s).2 n ok) (by repeat first | exact Sub.nil | refine Sub.cons' rfl (by first | rfl | exact bool_eq (by unfold propNo; simp_all [u8ne])) ?_) ?_
   exact ⟨rfl, hb, hP, hB_o0, hB_o16⟩
  rintro q wr hI_57
  replace hI_57 : q = propNo (cutE s).1 (cutE s).2 n ok ∧ Kp p w wr ∧ Blk wr p 56 [str s, .int .i64 e] ∧ Blk wr g_o0 105 (propC pr0) ∧ Blk wr g_o16 96 u.cells := hI_57
  obtain ⟨hq, hb, hP, hB_o0, hB_o16⟩ := hI_57
  show Wq _ _ _ _ [(0, .pointer (some ⟨p, 0, none⟩)), (2, .pointer (some ⟨g_o0, 0, none⟩)), (3, str (cutE s).1), (4, str (cutE s).2), (6, .pointer (some ⟨g_o16, 0, none⟩)), (7, .int .i64 (n : Int)), (42, .bool q)] _
  have hzhb_g3 := hb.size
  have hlhP_g3 := hP.lt
  have hlhB_o0_g3 := hB_o0.lt
  have hlhB_o16_g3 := hB_o16.lt
  refine Wq.next hK_27 <| Wc.cond rfl (fun c0_58 => ?_) (fun c0_58 => ?_)
  ·
   have c0_58_ := c0_58
   have hno : propNo (cutE s).1 (cutE s).2 n ok = true := hq.symm.trans c0_58_
   rw [if_pos hno] at hpo
   refine Wc.seq fun _ hK_59 => Wc.region <| Wl.mv rfl rfl <| Wl.call txt36LdC rfl rfl (bad_r p s e 2 _ hP) rfl ?_
   rintro _ w_k3 ⟨⟨rfl, hP⟩, hs_k3⟩
   have hz_k3 := hs_k3.size
   have hB_o0 := Blk.kp hB_o0 hs_k3 (by omega)
   have hb := hb.trans hs_k3
   refine Wl.nil <| Wq.next hK_59 <| Wc.seq fun _ hK_62 => Wc.region <| Wl.mv rfl rfl <| Wl.y (y_nilCheck rfl) rfl <| Wl.y (y_fieldAddr (fa56_0LdC _) rfl) rfl <| Wl.storeB one9LdC rfl rfl rfl hP (by simp) ?_
   rintro w_s1 hn_s1 hg_s1
   have hz_s1 := hg_s1.size
   have hb := kp_blk hb hg_s1 (by omega)
   have hB_o0 := hB_o0.over hg_s1 (by omega)
   have hP := hn_s1
   refine Wl.nil <| Wq.next hK_62 <| Wc.seq fun _ hK_66 => Wc.region <| Wl.l (l_loadS Tryz.underlying105 (by kernel_rfl) rfl (by exact fun j u hu => hB_o0.at hu)) rfl <| Wl.storeS (by kernel_rfl) rfl rfl hB_o0 rfl rfl ?_
   rintro w_s2 hn_s2 hg_s2
   have hz_s2 := hg_s2.size
   have hb := kp_blk hb hg_s2 (by omega)
   have hP := hP.over hg_s2 (by omega)
   have hB_o0 := hn_s2
   refine Wl.nil <| Wq.next hK_66 <| Wc.ret <| Wq.then_ret <| retN (rs := [.cell 2 105]) (vs := [_]) rfl (.cell rfl (loadS Tryz.underlying105 (by kernel_rfl) (fun j u hu => hB_o0.at hu)) .nil) ?_
   exact ⟨_, rfl, ⟨by rw [hpo]; rfl, by rw [hpo]; exact hP⟩, hb⟩
  have c0_58_ := c0_58
  have hyes : ¬ propNo (cutE s).1 (cutE s).2 n ok = true := by rw [← hq, c0_58_]; simp
  rw [if_neg hyes] at hpo
  refine Wc.skip <| Wq.next hK_26 <| Wc.seq fun _ hK_68 => Wc.seq fun _ hK_69 => Wc.region <| Wl.y (y_fieldAddr (fa96_0LdC _) rfl) rfl <| Wl.l (l_load one3LdC rfl (by exact hB_o16.at (j := 0) rfl)) rfl <| Wl.y (y_eqli rfl rfl) rfl <| Wl.nil <| Wq.next hK_69 <| Wc.meet (X := Unit) (fun u_ => [(0, .pointer (some ⟨p, 0, none⟩)), (2, .pointer (some ⟨g_o0, 0, none⟩)), (3, str (cutE s).1), (4, str (cutE s).2), (6, .pointer (some ⟨g_o16, 0, none⟩)), (7, .int .i64 (n : Int))]) (fun u_ wr => Kp p w wr ∧ Blk wr p 56 [str s, .int .i64 (if u.k = 0 then badE e 4 else e)] ∧ Blk wr g_o0 105 (propC pr0) ∧ Blk wr g_o16 96 u.cells) (fun _ hM_73 => ?_) ?_
  ·
   refine Wc.cond rfl (fun c1_74 => ?_) (fun c1_74 => ?_)
   ·
    have c1_74_ := c1_74
    simp only [DZ] at c1_74
    refine Wc.region <| Wl.mv rfl rfl <| Wl.call txt36LdC rfl rfl (bad_r p s e 4 _ hP) rfl ?_
    rintro _ w_k4 ⟨⟨rfl, hP⟩, hs_k4⟩
    have hz_k4 := hs_k4.size
    have hB_o0 := Blk.kp hB_o0 hs_k4 (by omega)
    have hB_o16 := Blk.kp hB_o16 hs_k4 (by omega)
    have hb := hb.trans hs_k4
    refine Wl.nil <| Wq.meet hM_73 (()) (by repeat first | exact Sub.nil | refine Sub.cons' rfl (by first | rfl | exact int_eq (by omega) | exact int_eq (by simp) | (simp; done)) ?_) ?_
    exact ⟨hb, by first | (rw [if_pos c1_74]; exact hP) | (rw [if_neg c1_74]; exact hP), hB_o0, hB_o16⟩
   have c1_74_ := c1_74
   simp only [DZ] at c1_74
   refine Wc.skip <| Wq.meet hM_73 (()) (by repeat first | exact Sub.nil | refine Sub.cons' rfl (by first | rfl | exact int_eq (by omega) | exact int_eq (by simp) | (simp; done)) ?_) ?_
   exact ⟨hb, by first | (rw [if_pos c1_74]; exact hP) | (rw [if_neg c1_74]; exact hP), hB_o0, hB_o16⟩
  rintro u_ wr hI_77
  replace hI_77 : Kp p w wr ∧ Blk wr p 56 [str s, .int .i64 (if u.k = 0 then badE e 4 else e)] ∧ Blk wr g_o0 105 (propC pr0) ∧ Blk wr g_o16 96 u.cells := hI_77
  obtain ⟨hb, hP, hB_o0, hB_o16⟩ := hI_77
  show Wq _ _ _ _ [(0, .pointer (some ⟨p, 0, none⟩)), (2, .pointer (some ⟨g_o0, 0, none⟩)), (3, str (cutE s).1), (4, str (cutE s).2), (6, .pointer (some ⟨g_o16, 0, none⟩)), (7, .int .i64 (n : Int))] _
  have hzhb_c1 := hb.size
  have hlhP_c1 := hP.lt
  have hlhB_o0_c1 := hB_o0.lt
  have hlhB_o16_c1 := hB_o16.lt
  refine Wq.next hK_68 <| Wc.seq fun _ hK_78 => Wc.region <| Wl.mv rfl rfl <| Wl.mv rfl rfl <| Wl.mv rfl rfl <| Wl.y (y_slicesL Tryz.underlying9 rfl rfl (by omega) (by omega)) rfl <| Wl.y (y_nilCheck rfl) rfl <| Wl.y (y_fieldAddr (fa56_0LdC _) rfl) rfl <| Wl.storeB one9LdC rfl rfl rfl hP (by simp) ?_
  rintro w_s3 hn_s3 hg_s3
  have hz_s3 := hg_s3.size
  have hb := kp_blk hb hg_s3 (by omega)
  have hB_o0 := hB_o0.over hg_s3 (by omega)
  have hB_o16 := hB_o16.over hg_s3 (by omega)
  have hP := hn_s3
  refine Wl.nil <| Wq.next hK_78 <| Wc.seq fun _ hK_85 => Wc.region <| Wl.mv rfl rfl <| Wl.call txt18LdC rfl rfl (blanks_r p ((cutE s).2.drop n) (if u.k = 0 then badE e 4 else e) _ hP) rfl ?_
  rintro _ w_k5 ⟨⟨rfl, hP⟩, hs_k5⟩
  have hz_k5 := hs_k5.size
  have hB_o0 := Blk.kp hB_o0 hs_k5 (by omega)
  have hB_o16 := Blk.kp hB_o16 hs_k5 (by omega)
  have hb := hb.trans hs_k5
  refine Wl.nil <| Wq.next hK_85 <| Wc.seq fun _ hK_88 => Wc.region <| Wl.mv rfl rfl <| Wl.l (l_loadS Tryz.underlying96 (by kernel_rfl) rfl (by exact fun j u hu => hB_o16.at hu)) rfl ?_
  refine Wl.y (y_buildS (z := [(str []), (.int .i64 0), (.int .i64 0), (.float .f64 0), (str [])]) (pl := [(0, 1), (1, 4)]) (cs := [_, _, _, _, _]) Tryz.underlying105 (by kernel_rfl) (by kernel_rfl) rfl rfl rfl) rfl <| Wl.storeS (by kernel_rfl) rfl rfl hB_o0 rfl rfl ?_
  rintro w_s4 hn_s4 hg_s4
  have hz_s4 := hg_s4.size
  have hb := kp_blk hb hg_s4 (by omega)
  have hP := hP.over hg_s4 (by omega)
  have hB_o0 := hn_s4
  refine Wl.nil <| Wq.next hK_88 <| Wc.ret <| retN (rs := [.cell 2 105]) (vs := [_]) rfl (.cell rfl (loadS Tryz.underlying105 (by kernel_rfl) (fun j u hu => hB_o0.at hu)) .nil) ?_
  exact ⟨_, rfl, ⟨by rw [hpo]; rfl, by rw [hpo]; exact hP⟩, hb⟩
end Go.Proofs.YtjmlknjbhbfneaaGreatDoor
