/- Plain: how often, in small numbers. · The statement ParseTimes, by the calculus. -/
import Derived.Test.YtjnabgddjogkbaaGreatDoorZP6
import Derived.Test.YtjnabgddjogkbaaGreatDoorZX
import Derived.Test.YtjnabgddjogkbaaGreatDoorZK
namespace Go.Proofs.YtjnabgddjogkbaaGreatDoor
open Go.RowKit Go.Bw Go.Bw.Fl
set_option linter.unusedVariables false
set_option linter.unusedSimpArgs false

def PatD.mnP : PatD → Int
  | .mk _ _ _ _ _ mn _ _ => mn
def PatD.mxP : PatD → Int
  | .mk _ _ _ _ _ _ mx _ => mx
def PatD.kidsP : PatD → List PatD
  | .mk _ _ _ _ _ _ _ kids => kids
theorem PAt.seeP {w : World} {S : Nat → Prop} {x : PatD} {z : PC} (h : PAt w S x z.cells) : z.mn = x.mnP ∧ z.mx = x.mxP ∧ ∃ A c, z.cells[19]? = some (.slice A x.kidsP.length c) ∧ ∀ (i : Nat) (hi : i < x.kidsP.length), ∃ (p : Addr) (z' : PC), A = some p ∧ PAt w S x.kidsP[i] z'.cells ∧ ∀ (j : Nat) (u : Value), z'.cells[j]? = some u → w.cell? ((p.add (i * 20)).add j) = some u := by
  obtain ⟨k, var, dir, l, wh, mn, mx, kids⟩ := x
  obtain ⟨_, _, _, h1, h2, _, _, A, c, h3, _, _, h4⟩ := PAt.see h
  exact ⟨h1, h2, A, c, h3, h4⟩
def dgV (a : Nat) : List UInt8 := if a < 10 then [UInt8.ofNat (48 + a)] else [UInt8.ofNat (48 + a / 10), UInt8.ofNat (48 + a % 10)]
theorem dg_eq {a : Nat} (h : a < 100) : Lib.decDigits a = dgV a := by
  unfold dgV
  rw [Lib.decDigits]
  by_cases h1 : a < 10
  · rw [dif_pos h1, if_pos h1]
  · rw [dif_neg h1, if_neg h1, Lib.decDigits, dif_pos (by omega)]; rfl
theorem dg_len (a : Nat) : (dgV a).length ≤ 2 := by unfold dgV; split <;> simp
def tmB (a b : Nat) : List UInt8 := [40, 97, 41, 45, 62, 123] ++ dgV a ++ [44] ++ dgV b ++ [125]
def tmO (a : Nat) : List UInt8 := [45, 62, 123] ++ dgV a ++ [125]
def tmP (a : Nat) : List UInt8 := [45, 62, 123] ++ dgV a ++ [44, 125]
def wantE (a b : Nat) : Int := if b < a ∨ b = 0 then 2 else if 20 < b then 6 else 0
set_option maxRecDepth 100000 in
theorem tmB_eq : ∀ a : Fin 32, ∀ b : Fin 32, (parseV (tmB a.val b.val)).2.2 = wantE a.val b.val ∧ ((parseV (tmB a.val b.val)).2.2 = 0 → (parseV (tmB a.val b.val)).1.pat.kidsP.length = 2 ∧ ((parseV (tmB a.val b.val)).1.pat.kidsP.getD 1 noP).mnP = (a.val : Int) ∧ ((parseV (tmB a.val b.val)).1.pat.kidsP.getD 1 noP).mxP = (b.val : Int)) ∧ ((parseV (tmB a.val b.val)).2.2 ≠ 0 → (parseV (tmB a.val b.val)).2.1 = 5) := by decide +kernel
set_option maxRecDepth 100000 in
theorem tmO_eq : ∀ a : Fin 32, ((parseV (tmO a.val)).2.2 = 0 ↔ (1 ≤ a.val ∧ a.val ≤ 20)) ∧ ((parseV (tmO a.val)).2.2 = 0 → (parseV (tmO a.val)).1.pat.mnP = (a.val : Int) ∧ (parseV (tmO a.val)).1.pat.mxP = (a.val : Int)) := by decide +kernel
set_option maxRecDepth 100000 in
theorem tmP_eq : ∀ a : Fin 32, ((parseV (tmP a.val)).2.2 = 0 ↔ a.val ≤ 20) ∧ ((parseV (tmP a.val)).2.2 = 0 → (parseV (tmP a.val)).1.pat.mnP = (a.val : Int) ∧ (parseV (tmP a.val)).1.pat.mxP = -1) := by decide +kernel
theorem and31 (x : Int) : ∃ n : Nat, bits .and .i64 x 31 = n ∧ n < 32 := ⟨_, andm x 5 (by decide), Nat.mod_lt _ (by decide)⟩
theorem getD1 {l : List PatD} (h : l.length = 2) (h1 : 1 < l.length) : l.getD 1 noP = l[1] := by simp [List.getD, h1]
end Go.Proofs.YtjnabgddjogkbaaGreatDoor
namespace Go.Proofs.YtjnabgddjogkbaaGreatDoor
open Go.RowKit Go.Bw Go.Bw.Fl
set_option linter.unusedVariables false
set_option linter.unusedSimpArgs false
theorem fa31_5PlT (p : Addr) (w : World) : (Instr.fieldAt 31 (.pointer (some p)) 5).run Tryz.prog w = .ok (.pointer (some (p.add 17))) w := run_fieldAt (i := 5) (sz := 0) Tryz.underlying31 rfl (by kernel_rfl) p w
theorem fa31_6PlT (p : Addr) (w : World) : (Instr.fieldAt 31 (.pointer (some p)) 6).run Tryz.prog w = .ok (.pointer (some (p.add 18))) w := run_fieldAt (i := 6) (sz := 0) Tryz.underlying31 rfl (by kernel_rfl) p w
theorem fa31_7PlT (p : Addr) (w : World) : (Instr.fieldAt 31 (.pointer (some p)) 7).run Tryz.prog w = .ok (.pointer (some (p.add 19))) w := run_fieldAt (i := 7) (sz := 0) Tryz.underlying31 rfl (by kernel_rfl) p w
theorem fa33_3PlT (p : Addr) (w : World) : (Instr.fieldAt 33 (.pointer (some p)) 3).run Tryz.prog w = .ok (.pointer (some (p.add 3))) w := run_fieldAt (i := 3) (sz := 19) Tryz.underlying33 rfl (by kernel_rfl) p w
theorem one29PlT : One Tryz.prog 29 := ⟨_, Tryz.underlying29, rfl, by kernel_rfl⟩
theorem one3PlT : One Tryz.prog 3 := ⟨_, Tryz.underlying3, rfl, by kernel_rfl⟩
theorem sz31PlT : (Tryz.prog.info? 31).map (·.size) = some 20 := by kernel_rfl
theorem txt11PlT : Txt Tryz.prog 11 := ⟨_, Tryz.func11, by kernel_rfl, rfl⟩   -- bridleway/bridlewaylaw11.shown
theorem txt12PlT : Txt Tryz.prog 12 := ⟨_, Tryz.func12, by kernel_rfl, rfl⟩   -- bridleway/parse.Parse
theorem txt16PlT : Txt Tryz.prog 16 := ⟨_, Tryz.func16, by kernel_rfl, rfl⟩   -- bridleway/bridlewayref02.Int
theorem neb' {e : Int} {p : Prop} [Decidable p] (hp : e = 0 ↔ p) : ((e == 0) != decide p) = false := by
  have : (e == 0) = decide p := by rw [Bool.eq_iff_iff]; simp [hp]
  rw [this]; simp
theorem neb {e : Int} {p : Prop} [Decidable p] (h : ((e == 0) != decide p) = true) (hp : e = 0 ↔ p) : False := by rw [neb' hp] at h; cases h
theorem RIntS_r (a : Nat) (h : a < 100) (w : World) : Ret Tryz.prog 16 [.int .i64 (a : Int)] w fun v w' => v = str (dgV a) ∧ Below w.heap.size w w' :=
  (RInt_r a a (by omega) (by omega) (by omega) w).mono fun v w' h2 => by rw [dg_eq h] at h2; exact h2
theorem Times_r (a b : Int) (w : World) (hX : Lx w) : Ret Tryz.prog 6 [.int .i64 a, .int .i64 b] w fun v w' => v = .bool true ∧ Below w.heap.size w w' := by
  obtain ⟨n1, hn1, hn132⟩ := and31 a
  obtain ⟨n2, hn2, hn232⟩ := and31 b
  obtain ⟨q1, at1_, e1, hq1⟩ : ∃ q a e, parseV (tmB n1 n2) = (q, a, e) := ⟨_, _, _, rfl⟩
  obtain ⟨q2, at2_, e2, hq2⟩ : ∃ q a e, parseV (tmO n1) = (q, a, e) := ⟨_, _, _, rfl⟩
  obtain ⟨q3, at3_, e3, hq3⟩ : ∃ q a e, parseV (tmP n1) = (q, a, e) := ⟨_, _, _, rfl⟩
  have hB1 := tmB_eq ⟨n1, hn132⟩ ⟨n2, hn232⟩
  have hB2 := tmO_eq ⟨n1, hn132⟩
  have hB3 := tmP_eq ⟨n1, hn132⟩
  simp only [hq1] at hB1
  simp only [hq2] at hB2
  simp only [hq3] at hB3
  obtain ⟨hw1, hok1, hat1⟩ := hB1
  obtain ⟨hw2, hok2⟩ := hB2
  obtain ⟨hw3, hok3⟩ := hB3
  have hw2' : (e2 = 0 ∧ 1 ≤ n1 ∧ n1 ≤ 20) ∨ (e2 ≠ 0 ∧ (n1 < 1 ∨ 20 < n1)) := by
    by_cases h : e2 = 0
    · exact .inl ⟨h, hw2.1 h⟩
    · refine .inr ⟨h, ?_⟩
      rcases Nat.lt_or_ge n1 1 with h1 | h1
      · exact .inl h1
      · rcases Nat.lt_or_ge 20 n1 with h2 | h2
        · exact .inr h2
        · exact absurd (hw2.2 ⟨h1, h2⟩) h
  have hw3' : (e3 = 0 ∧ n1 ≤ 20) ∨ (e3 ≠ 0 ∧ 20 < n1) := by
    by_cases h : e3 = 0
    · exact .inl ⟨h, hw3.1 h⟩
    · refine .inr ⟨h, ?_⟩
      rcases Nat.lt_or_ge 20 n1 with h2 | h2
      · exact h2
      · exact absurd (hw3.2 h2) h
  have hl1 : (tmB n1 n2).length ≤ 100 := by have := dg_len n1; have := dg_len n2; unfold tmB; simp; omega
  have hl2 : (tmO n1).length ≤ 100 := by have := dg_len n1; unfold tmO; simp; omega
  have hl3 : (tmP n1).length ≤ 100 := by have := dg_len n1; unfold tmP; simp; omega
  have hdl1 := dg_len n1
  have hdl2 := dg_len n2
  have hb := Below.refl w.heap.size w
  have hX_hb := hX
  refine enter Tryz.func6 rfl rfl rfl ?_
  refine Wc.seq fun _ hK_1 => Wc.region <| Wl.sg rfl rfl <| Wl.nil <| Wq.next hK_1 <| Wc.seq fun _ hK_3 => Wc.region ?_
  refine Wl.call txt11PlT rfl rfl (pshown_r _ hX) rfl ?_
  rintro _ w_k0 ⟨rfl, hs_k0⟩
  have hz_k0 := hs_k0.size
  have hb := hb.trans (hs_k0.mono hb.size)
  have hX := hX_hb.below hb
  refine Wl.sg rfl rfl <| Wl.nil <| Wq.next hK_3 <| Wc.seq fun _ hK_6 => Wc.region <| Wl.mv rfl rfl ?_
  refine Wl.y (y_eq (y_and rfl rfl) (int_eq (show _ = (n1 : Int) from hn1))) rfl ?_
  refine Wl.sg rfl rfl <| Wl.nil <| Wq.next hK_6 <| Wc.seq fun _ hK_10 => Wc.region <| Wl.mv rfl rfl ?_
  refine Wl.y (y_eq (y_and rfl rfl) (int_eq (show _ = (n2 : Int) from hn2))) rfl ?_
  refine Wl.sg rfl rfl <| Wl.nil <| Wq.next hK_10 <| Wc.seq fun _ hK_14 => Wc.region <| Wl.mv rfl rfl ?_
  refine Wl.call txt16PlT rfl rfl (RIntS_r n1 (by omega) _) rfl ?_
  rintro _ w_k1 ⟨rfl, hs_k1⟩
  have hz_k1 := hs_k1.size
  have hb := hb.trans (hs_k1.mono hb.size)
  have hX := hX_hb.below hb
  refine Wl.sg rfl rfl <| Wl.nil <| Wq.next hK_14 <| Wc.seq fun _ hK_18 => Wc.region <| Wl.mv rfl rfl ?_
  refine Wl.call txt16PlT rfl rfl (RIntS_r n2 (by omega) _) rfl ?_
  rintro _ w_k2 ⟨rfl, hs_k2⟩
  have hz_k2 := hs_k2.size
  have hb := hb.trans (hs_k2.mono hb.size)
  have hX := hX_hb.below hb
  refine Wl.sg rfl rfl <| Wl.nil <| Wq.next hK_18 <| Wc.seq fun _ hK_22 => Wc.region <| Wl.mv rfl rfl ?_
  refine Wl.y (y_adds rfl rfl (by first | omega | (simp; done) | (simp; omega))) rfl ?_
  refine Wl.y (y_adds rfl rfl (by first | omega | (simp; done) | (simp; omega))) rfl ?_
  refine Wl.mv rfl rfl ?_
  refine Wl.y (y_adds rfl rfl (by first | omega | (simp; done) | (simp; omega))) rfl ?_
  refine Wl.y (y_adds rfl rfl (by first | omega | (simp; done) | (simp; omega))) rfl ?_
  refine Wl.call txt12PlT rfl rfl (ParseT_r hq1 (by omega) _ hX) rfl ?_
  rintro _ w_k3 ⟨⟨z1, S1, rfl, hz1, hz1_S⟩, hs_k3⟩
  have hz_k3 := hs_k3.size
  have hb := hb.trans (hs_k3.mono hb.size)
  have hX := hX_hb.below hb
  refine Wl.mv rfl rfl <| Wl.y (y_extract rfl rfl) rfl <| Wl.y (y_extract rfl rfl) rfl <| Wl.y (y_extract rfl rfl) rfl ?_
  refine Wl.allocN (z := (.agg #[(.int .i64 0), (.int .i64 0), (.int .i64 0), (.int .i64 0), (str []), (.int .i64 0), (.int .i64 0), (str []), (.int .i64 0), (.int .i64 0), (.float .f64 0), (str []), (.slice none 0 0), (.int .i64 0), (str []), (.int .i64 0), (.int .i64 0), (.float .f64 0), (str []), (.slice none 0 0), (.int .i64 0), (.int .i64 0), (.slice none 0 0)])) (by kernel_rfl) rfl ?_
  rintro g_o22 w_o22 hg_o22 hn_o22 hs_o22
  have hz_o22 := hs_o22.size
  have hb := hb.trans (hs_o22.mono hb.size)
  have hX := hX_hb.below hb
  try have hz1 := PAt.below hz1 hs_o22
  have hB_o22 := hn_o22
  have hl_o22 := hB_o22.lt
  refine Wl.storeS (by kernel_rfl) rfl rfl hB_o22 rfl rfl ?_
  rintro w_s0 hn_s0 hg_s0
  have hz_s0 := hg_s0.size
  have hb := below_blk hb hg_s0 hb.size (by omega)
  have hX := hX_hb.below hb
  try have hz1 := PAt.kp hz1 hg_s0 (fun h_ => by have h2_ := hz1_S _ h_; first | omega | (rcases h2_ with h3_ | h3_; (have h4_ := hS _ h3_; omega); omega))
  have hB_o22 := hn_s0
  refine Wl.sg rfl rfl <| Wl.sg rfl rfl <| Wl.nil <| Wq.next hK_22 <| Wc.seq fun _ hK_37 => Wc.region <| Wl.mv rfl rfl ?_
  refine Wl.y (y_adds rfl rfl (by first | omega | (simp; done) | (simp; omega))) rfl ?_
  refine Wl.y (y_adds rfl rfl (by first | omega | (simp; done) | (simp; omega))) rfl ?_
  refine Wl.call txt12PlT rfl rfl (ParseT_r hq2 (by omega) _ hX) rfl ?_
  rintro _ w_k4 ⟨⟨z2, S2, rfl, hz2, hz2_S⟩, hs_k4⟩
  have hz_k4 := hs_k4.size
  have hb := hb.trans (hs_k4.mono hb.size)
  have hX := hX_hb.below hb
  try have hz1 := PAt.below hz1 hs_k4
  try have hB_o22 := Blk.below hB_o22 hs_k4
  refine Wl.mv rfl rfl <| Wl.y (y_extract rfl rfl) rfl <| Wl.y (y_extract rfl rfl) rfl <| Wl.y (y_extract rfl rfl) rfl ?_
  refine Wl.allocN (z := (.agg #[(.int .i64 0), (.int .i64 0), (.int .i64 0), (.int .i64 0), (str []), (.int .i64 0), (.int .i64 0), (str []), (.int .i64 0), (.int .i64 0), (.float .f64 0), (str []), (.slice none 0 0), (.int .i64 0), (str []), (.int .i64 0), (.int .i64 0), (.float .f64 0), (str []), (.slice none 0 0), (.int .i64 0), (.int .i64 0), (.slice none 0 0)])) (by kernel_rfl) rfl ?_
  rintro g_o32 w_o32 hg_o32 hn_o32 hs_o32
  have hz_o32 := hs_o32.size
  have hb := hb.trans (hs_o32.mono hb.size)
  have hX := hX_hb.below hb
  try have hz1 := PAt.below hz1 hs_o32
  try have hB_o22 := Blk.below hB_o22 hs_o32
  try have hz2 := PAt.below hz2 hs_o32
  have hB_o32 := hn_o32
  have hl_o32 := hB_o32.lt
  refine Wl.storeS (by kernel_rfl) rfl rfl hB_o32 rfl rfl ?_
  rintro w_s1 hn_s1 hg_s1
  have hz_s1 := hg_s1.size
  have hb := below_blk hb hg_s1 hb.size (by omega)
  have hX := hX_hb.below hb
  try have hz1 := PAt.kp hz1 hg_s1 (fun h_ => by have h2_ := hz1_S _ h_; first | omega | (rcases h2_ with h3_ | h3_; (have h4_ := hS _ h3_; omega); omega))
  try have hB_o22 := hB_o22.over hg_s1 (by omega)
  try have hz2 := PAt.kp hz2 hg_s1 (fun h_ => by have h2_ := hz2_S _ h_; first | omega | (rcases h2_ with h3_ | h3_; (have h4_ := hS _ h3_; omega); omega))
  have hB_o32 := hn_s1
  refine Wl.sg rfl rfl <| Wl.sg rfl rfl <| Wl.nil <| Wq.next hK_37 <| Wc.seq fun _ hK_49 => Wc.region <| Wl.mv rfl rfl ?_
  refine Wl.y (y_adds rfl rfl (by first | omega | (simp; done) | (simp; omega))) rfl ?_
  refine Wl.y (y_adds rfl rfl (by first | omega | (simp; done) | (simp; omega))) rfl ?_
  refine Wl.call txt12PlT rfl rfl (ParseT_r hq3 (by omega) _ hX) rfl ?_
  rintro _ w_k5 ⟨⟨z3, S3, rfl, hz3, hz3_S⟩, hs_k5⟩
  have hz_k5 := hs_k5.size
  have hb := hb.trans (hs_k5.mono hb.size)
  have hX := hX_hb.below hb
  try have hz1 := PAt.below hz1 hs_k5
  try have hB_o22 := Blk.below hB_o22 hs_k5
  try have hz2 := PAt.below hz2 hs_k5
  try have hB_o32 := Blk.below hB_o32 hs_k5
  refine Wl.mv rfl rfl <| Wl.y (y_extract rfl rfl) rfl <| Wl.y (y_extract rfl rfl) rfl <| Wl.y (y_extract rfl rfl) rfl ?_
  refine Wl.allocN (z := (.agg #[(.int .i64 0), (.int .i64 0), (.int .i64 0), (.int .i64 0), (str []), (.int .i64 0), (.int .i64 0), (str []), (.int .i64 0), (.int .i64 0), (.float .f64 0), (str []), (.slice none 0 0), (.int .i64 0), (str []), (.int .i64 0), (.int .i64 0), (.float .f64 0), (str []), (.slice none 0 0), (.int .i64 0), (.int .i64 0), (.slice none 0 0)])) (by kernel_rfl) rfl ?_
  rintro g_o42 w_o42 hg_o42 hn_o42 hs_o42
  have hz_o42 := hs_o42.size
  have hb := hb.trans (hs_o42.mono hb.size)
  have hX := hX_hb.below hb
  try have hz1 := PAt.below hz1 hs_o42
  try have hB_o22 := Blk.below hB_o22 hs_o42
  try have hz2 := PAt.below hz2 hs_o42
  try have hB_o32 := Blk.below hB_o32 hs_o42
  try have hz3 := PAt.below hz3 hs_o42
  have hB_o42 := hn_o42
  have hl_o42 := hB_o42.lt
  refine Wl.storeS (by kernel_rfl) rfl rfl hB_o42 rfl rfl ?_
  rintro w_s2 hn_s2 hg_s2
  have hz_s2 := hg_s2.size
  have hb := below_blk hb hg_s2 hb.size (by omega)
  have hX := hX_hb.below hb
  try have hz1 := PAt.kp hz1 hg_s2 (fun h_ => by have h2_ := hz1_S _ h_; first | omega | (rcases h2_ with h3_ | h3_; (have h4_ := hS _ h3_; omega); omega))
  try have hB_o22 := hB_o22.over hg_s2 (by omega)
  try have hz2 := PAt.kp hz2 hg_s2 (fun h_ => by have h2_ := hz2_S _ h_; first | omega | (rcases h2_ with h3_ | h3_; (have h4_ := hS _ h3_; omega); omega))
  try have hB_o32 := hB_o32.over hg_s2 (by omega)
  try have hz3 := PAt.kp hz3 hg_s2 (fun h_ => by have h2_ := hz3_S _ h_; first | omega | (rcases h2_ with h3_ | h3_; (have h4_ := hS _ h3_; omega); omega))
  have hB_o42 := hn_s2
  refine Wl.sg rfl rfl <| Wl.sg rfl rfl <| Wl.nil <| Wq.next hK_49 <| Wc.seq fun _ hK_61 => Wc.region <| Wl.sg rfl rfl <| Wl.nil <| Wq.next hK_61 <| Wc.seq fun _ hK_63 => ?_
  refine Wc.seq fun _ hK_64 => Wc.region <| Wl.mv rfl rfl <| Wl.mv rfl rfl <| Wl.y (y_gtri rfl rfl) rfl <| Wl.mv rfl rfl ?_
  refine Wl.guardF rfl rfl rfl (fun g_69 => ?_) (fun g_69 => ?_)
  ·
   have g_69_ := g_69
   try simp only [DZ] at g_69
   have hgt : n2 < n1 := by have := g_69; omega
   have hw : wantE n1 n2 = 2 := if_pos (.inl hgt)
   refine Wl.off' rfl rfl g_69_ rfl rfl ?_
   refine Wl.y (y_pickT rfl g_69_ rfl) rfl ?_
   refine Wl.nil <| Wq.next hK_64 ?_
   refine Wc.meet (X := Int) (fun wv => [(0, .int .i64 (n1 : Int)), (1, .int .i64 (n2 : Int)), (5, .bool true), (8, .pointer (some ⟨g_o22, 0, none⟩)), (9, .int .i64 at1_), (10, .int .i64 e1), (11, .pointer (some ⟨g_o32, 0, none⟩)), (13, .int .i64 e2), (14, .pointer (some ⟨g_o42, 0, none⟩)), (16, .int .i64 e3), (17, .int .i64 wv)]) (fun wv wr => wv = wantE n1 n2 ∧ Below w.heap.size w wr ∧ Blk wr g_o22 33 (qcells q1.mode q1.sel q1.kk z1) ∧ Blk wr g_o32 33 (qcells q2.mode q2.sel q2.kk z2) ∧ Blk wr g_o42 33 (qcells q3.mode q3.sel q3.kk z3) ∧ PAt wr S1 q1.pat z1.cells ∧ PAt wr S2 q2.pat z2.cells ∧ PAt wr S3 q3.pat z3.cells) (fun _ hM_71 => ?_) ?_
   ·
    refine Wc.condT rfl rfl ?_
    refine Wc.region <| Wl.sg rfl rfl <| Wl.nil ?_
    refine Wq.meet hM_71 (wantE n1 n2) (by repeat first | exact Sub.nil | refine Sub.cons' rfl (by first | rfl | exact int_eq hw.symm) ?_) ?_
    exact ⟨rfl, hb, hB_o22, hB_o32, hB_o42, hz1, hz2, hz3⟩
   rintro wv wr hI_73
   replace hI_73 : wv = wantE n1 n2 ∧ Below w.heap.size w wr ∧ Blk wr g_o22 33 (qcells q1.mode q1.sel q1.kk z1) ∧ Blk wr g_o32 33 (qcells q2.mode q2.sel q2.kk z2) ∧ Blk wr g_o42 33 (qcells q3.mode q3.sel q3.kk z3) ∧ PAt wr S1 q1.pat z1.cells ∧ PAt wr S2 q2.pat z2.cells ∧ PAt wr S3 q3.pat z3.cells := hI_73
   obtain ⟨hwv, hb, hB_o22, hB_o32, hB_o42, hz1, hz2, hz3⟩ := hI_73
   show Wq _ _ _ _ [(0, .int .i64 (n1 : Int)), (1, .int .i64 (n2 : Int)), (5, .bool true), (8, .pointer (some ⟨g_o22, 0, none⟩)), (9, .int .i64 at1_), (10, .int .i64 e1), (11, .pointer (some ⟨g_o32, 0, none⟩)), (13, .int .i64 e2), (14, .pointer (some ⟨g_o42, 0, none⟩)), (16, .int .i64 e3), (17, .int .i64 wv)] _
   have hX := hX_hb.below hb
   try have hzhb_c0 := hb.size
   have hlhB_o22_c0 := hB_o22.lt
   have hlhB_o32_c0 := hB_o32.lt
   have hlhB_o42_c0 := hB_o42.lt
   refine Wq.next hK_63 <| Wc.seq fun _ hK_74 => Wc.seq fun _ hK_75 => ?_
   refine Wc.meet (X := Bool) (fun qv => [(0, .int .i64 (n1 : Int)), (1, .int .i64 (n2 : Int)), (5, .bool true), (8, .pointer (some ⟨g_o22, 0, none⟩)), (9, .int .i64 at1_), (10, .int .i64 e1), (11, .pointer (some ⟨g_o32, 0, none⟩)), (13, .int .i64 e2), (14, .pointer (some ⟨g_o42, 0, none⟩)), (16, .int .i64 e3), (83, .bool qv)]) (fun qv wr => qv = false ∧ Below w.heap.size w wr ∧ Blk wr g_o22 33 (qcells q1.mode q1.sel q1.kk z1) ∧ Blk wr g_o32 33 (qcells q2.mode q2.sel q2.kk z2) ∧ Blk wr g_o42 33 (qcells q3.mode q3.sel q3.kk z3) ∧ PAt wr S1 q1.pat z1.cells ∧ PAt wr S2 q2.pat z2.cells ∧ PAt wr S3 q3.pat z3.cells) (fun _ hM_76 => ?_) ?_
   ·
    refine Wc.region <| Wl.mv rfl rfl <| Wl.mv rfl rfl <| Wl.y (y_neqi rfl rfl) rfl <| Wl.mv rfl rfl ?_
    refine Wl.guardF rfl rfl rfl (fun g_81 => ?_) (fun g_81 => ?_)
    ·
     have g_81_ := g_81
     try simp only [DZ] at g_81
     exact absurd g_81_ (by rw [hw1, hwv]; simp)
    have g_81_ := g_81
    try simp only [DZ] at g_81
    refine Wl.mv rfl rfl <| Wl.on' rfl rfl g_81_ <| Wl.y (y_eqli rfl rfl) rfl <| Wl.on' rfl rfl g_81_ <| Wl.mv rfl rfl <| Wl.on' rfl rfl g_81_ <| Wl.y (y_geqi rfl rfl) rfl <| Wl.on' rfl rfl g_81_ <| Wl.mv rfl rfl ?_
    refine Wl.guardT rfl rfl rfl (fun g_87 => ?_) (fun g_87 => ?_)
    ·
     have g_87_ := g_87
     try simp only [DZ] at g_87
     refine Wl.mv rfl rfl <| Wl.on' rfl rfl g_87_ <| Wl.y (y_leqi rfl rfl) rfl <| Wl.on' rfl rfl g_81_ ?_
     refine Wl.y (y_pickT rfl g_87_ rfl) rfl ?_
     refine Wl.on' rfl rfl g_81_ ?_
     refine Wl.y (y_neqb Tryz.underlying4 rfl rfl) rfl ?_
     refine Wl.y (y_pickF rfl g_81_ rfl) rfl ?_
     refine Wl.mv rfl rfl ?_
     refine Wl.guardF rfl rfl rfl (fun g_94 => ?_) (fun g_94 => ?_)
     ·
      have g_94_ := g_94
      try simp only [DZ] at g_94
      (have h := g_94_; first | (simp at h; omega) | exact (neb h ⟨fun h_ => by omega, fun h_ => by omega⟩).elim)
     have g_94_ := g_94
     try simp only [DZ] at g_94
     refine Wl.mv rfl rfl <| Wl.on' rfl rfl g_94_ <| Wl.y (y_eqli rfl rfl) rfl <| Wl.on' rfl rfl g_94_ <| Wl.mv rfl rfl <| Wl.on' rfl rfl g_94_ <| Wl.y (y_leqi rfl rfl) rfl <| Wl.on' rfl rfl g_94_ ?_
     refine Wl.y (y_neqb Tryz.underlying4 rfl rfl) rfl ?_
     refine Wl.y (y_pickF rfl g_94_ rfl) rfl ?_
     refine Wl.nil ?_
     refine Wq.meet hM_76 (false) (by repeat first | exact Sub.nil | refine Sub.cons' rfl (by first | rfl | exact bool_eq (neb' (by constructor <;> intro h_ <;> omega))) ?_) ?_
     exact ⟨rfl, hb, hB_o22, hB_o32, hB_o42, hz1, hz2, hz3⟩
    have g_87_ := g_87
    try simp only [DZ] at g_87
    refine Wl.off' rfl rfl g_87_ rfl rfl <| Wl.on' rfl rfl g_81_ ?_
    refine Wl.y (y_pickF rfl g_87_ rfl) rfl ?_
    refine Wl.on' rfl rfl g_81_ ?_
    refine Wl.y (y_neqb Tryz.underlying4 rfl rfl) rfl ?_
    refine Wl.y (y_pickF rfl g_81_ rfl) rfl ?_
    refine Wl.mv rfl rfl ?_
    refine Wl.guardF rfl rfl rfl (fun g_105 => ?_) (fun g_105 => ?_)
    ·
     have g_105_ := g_105
     try simp only [DZ] at g_105
     (have h := g_105_; first | (simp at h; omega) | exact (neb h ⟨fun h_ => by omega, fun h_ => by omega⟩).elim)
    have g_105_ := g_105
    try simp only [DZ] at g_105
    refine Wl.mv rfl rfl <| Wl.on' rfl rfl g_105_ <| Wl.y (y_eqli rfl rfl) rfl <| Wl.on' rfl rfl g_105_ <| Wl.mv rfl rfl <| Wl.on' rfl rfl g_105_ <| Wl.y (y_leqi rfl rfl) rfl <| Wl.on' rfl rfl g_105_ ?_
    refine Wl.y (y_neqb Tryz.underlying4 rfl rfl) rfl ?_
    refine Wl.y (y_pickF rfl g_105_ rfl) rfl ?_
    refine Wl.nil ?_
    refine Wq.meet hM_76 (false) (by repeat first | exact Sub.nil | refine Sub.cons' rfl (by first | rfl | exact bool_eq (neb' (by constructor <;> intro h_ <;> omega))) ?_) ?_
    exact ⟨rfl, hb, hB_o22, hB_o32, hB_o42, hz1, hz2, hz3⟩
   rintro qv wr hI_112
   replace hI_112 : qv = false ∧ Below w.heap.size w wr ∧ Blk wr g_o22 33 (qcells q1.mode q1.sel q1.kk z1) ∧ Blk wr g_o32 33 (qcells q2.mode q2.sel q2.kk z2) ∧ Blk wr g_o42 33 (qcells q3.mode q3.sel q3.kk z3) ∧ PAt wr S1 q1.pat z1.cells ∧ PAt wr S2 q2.pat z2.cells ∧ PAt wr S3 q3.pat z3.cells := hI_112
   obtain ⟨hqv, hb, hB_o22, hB_o32, hB_o42, hz1, hz2, hz3⟩ := hI_112
   show Wq _ _ _ _ [(0, .int .i64 (n1 : Int)), (1, .int .i64 (n2 : Int)), (5, .bool true), (8, .pointer (some ⟨g_o22, 0, none⟩)), (9, .int .i64 at1_), (10, .int .i64 e1), (11, .pointer (some ⟨g_o32, 0, none⟩)), (13, .int .i64 e2), (14, .pointer (some ⟨g_o42, 0, none⟩)), (16, .int .i64 e3), (83, .bool qv)] _
   have hX := hX_hb.below hb
   try have hzhb_g14 := hb.size
   have hlhB_o22_g14 := hB_o22.lt
   have hlhB_o32_g14 := hB_o32.lt
   have hlhB_o42_g14 := hB_o42.lt
   refine Wq.next hK_75 ?_
   refine Wc.cond rfl (fun c2_113 => ?_) (fun c2_113 => ?_)
   ·
    have c2_113_ := c2_113
    try simp only [DZ] at c2_113
    exact absurd c2_113_ (by rw [hqv]; decide)
   have c2_113_ := c2_113
   try simp only [DZ] at c2_113
   refine Wc.skip <| Wq.next hK_74 <| Wc.seq fun _ hK_114 => Wc.seq fun _ hK_115 => ?_
   refine Wc.meet (X := Bool) (fun qw => [(0, .int .i64 (n1 : Int)), (1, .int .i64 (n2 : Int)), (5, .bool true), (8, .pointer (some ⟨g_o22, 0, none⟩)), (9, .int .i64 at1_), (10, .int .i64 e1), (11, .pointer (some ⟨g_o32, 0, none⟩)), (13, .int .i64 e2), (14, .pointer (some ⟨g_o42, 0, none⟩)), (16, .int .i64 e3), (120, .bool qw)]) (fun qw wr => qw = false ∧ Below w.heap.size w wr ∧ Blk wr g_o22 33 (qcells q1.mode q1.sel q1.kk z1) ∧ Blk wr g_o32 33 (qcells q2.mode q2.sel q2.kk z2) ∧ Blk wr g_o42 33 (qcells q3.mode q3.sel q3.kk z3) ∧ PAt wr S1 q1.pat z1.cells ∧ PAt wr S2 q2.pat z2.cells ∧ PAt wr S3 q3.pat z3.cells) (fun _ hM_116 => ?_) ?_
   ·
    refine Wc.region <| Wl.mv rfl rfl <| Wl.y (y_eqli rfl rfl) rfl <| Wl.mv rfl rfl ?_
    refine Wl.guardT rfl rfl rfl (fun g_120 => ?_) (fun g_120 => ?_)
    ·
     have g_120_ := g_120
     try simp only [DZ] at g_120
     have he1 : e1 = 0 := by have := g_120; omega
     obtain ⟨hk2, hmn, hmx⟩ := hok1 he1
     have hk1 : 1 < q1.pat.kidsP.length := by omega
     rw [getD1 hk2 hk1] at hmn hmx
     obtain ⟨_, _, A, c, hcA, hkA⟩ := PAt.seeP hz1
     obtain ⟨p, zk, rfl, hzk, hck⟩ := hkA 1 hk1
     obtain ⟨hzmn, hzmx, _⟩ := PAt.seeP hzk
     refine Wl.y (y_fieldAddr (fa33_3PlT _) rfl) rfl ?_
     refine Wl.on' rfl rfl g_120_ ?_
     refine Wl.y (y_fieldAddr (fa31_7PlT _) rfl) rfl ?_
     refine Wl.on' rfl rfl g_120_ ?_
     refine Wl.l (l_load one29PlT rfl (by exact hB_o22.at (j := 22) (qcells_pat _ _ _ z1 hcA))) rfl ?_
     refine Wl.on' rfl rfl g_120_ ?_
     refine Wl.y (y_lenl Tryz.underlying29 (by omega) rfl) rfl ?_
     refine Wl.on' rfl rfl g_120_ <| Wl.y (y_neqi rfl rfl) rfl <| Wl.on' rfl rfl g_120_ <| Wl.mv rfl rfl ?_
     refine Wl.guardF rfl rfl rfl (fun g_127 => ?_) (fun g_127 => ?_)
     ·
      have g_127_ := g_127
      try simp only [DZ] at g_127
      exact absurd g_127_ (by rw [hk2]; decide)
     have g_127_ := g_127
     try simp only [DZ] at g_127
     refine Wl.y (y_fieldAddr (fa33_3PlT _) rfl) rfl ?_
     refine Wl.on' rfl rfl g_127_ ?_
     refine Wl.y (y_fieldAddr (fa31_7PlT _) rfl) rfl ?_
     refine Wl.on' rfl rfl g_127_ ?_
     refine Wl.l (l_load one29PlT rfl (by exact hB_o22.at (j := 22) (qcells_pat _ _ _ z1 hcA))) rfl ?_
     refine Wl.on' rfl rfl g_127_ ?_
     refine Wl.y (y_indexAddr Tryz.underlying29 sz31PlT rfl rfl (by omega) (by omega)) rfl ?_
     refine Wl.on' rfl rfl g_127_ ?_
     refine Wl.y (y_fieldAddr (fa31_5PlT _) rfl) rfl ?_
     refine Wl.on' rfl rfl g_127_ ?_
     refine Wl.l (l_load one3PlT rfl (by exact hck 17 _ rfl)) rfl ?_
     refine Wl.on' rfl rfl g_127_ <| Wl.mv rfl rfl <| Wl.on' rfl rfl g_127_ <| Wl.y (y_neqi rfl rfl) rfl <| Wl.on' rfl rfl g_120_ ?_
     refine Wl.y (y_pickF rfl g_127_ rfl) rfl ?_
     refine Wl.on' rfl rfl g_120_ <| Wl.mv rfl rfl ?_
     refine Wl.guardF rfl rfl rfl (fun g_138 => ?_) (fun g_138 => ?_)
     ·
      have g_138_ := g_138
      try simp only [DZ] at g_138
      exact absurd g_138_ (by rw [hzmn, hmn]; simp)
     have g_138_ := g_138
     try simp only [DZ] at g_138
     refine Wl.y (y_fieldAddr (fa33_3PlT _) rfl) rfl ?_
     refine Wl.on' rfl rfl g_138_ ?_
     refine Wl.y (y_fieldAddr (fa31_7PlT _) rfl) rfl ?_
     refine Wl.on' rfl rfl g_138_ ?_
     refine Wl.l (l_load one29PlT rfl (by exact hB_o22.at (j := 22) (qcells_pat _ _ _ z1 hcA))) rfl ?_
     refine Wl.on' rfl rfl g_138_ ?_
     refine Wl.y (y_indexAddr Tryz.underlying29 sz31PlT rfl rfl (by omega) (by omega)) rfl ?_
     refine Wl.on' rfl rfl g_138_ ?_
     refine Wl.y (y_fieldAddr (fa31_6PlT _) rfl) rfl ?_
     refine Wl.on' rfl rfl g_138_ ?_
     refine Wl.l (l_load one3PlT rfl (by exact hck 18 _ rfl)) rfl ?_
     refine Wl.on' rfl rfl g_138_ <| Wl.mv rfl rfl <| Wl.on' rfl rfl g_138_ <| Wl.y (y_neqi rfl rfl) rfl <| Wl.on' rfl rfl g_120_ ?_
     refine Wl.y (y_pickF rfl g_138_ rfl) rfl ?_
     refine Wl.y (y_pickT rfl g_120_ rfl) rfl ?_
     refine Wl.mv rfl rfl ?_
     refine Wl.guardF rfl rfl rfl (fun g_150 => ?_) (fun g_150 => ?_)
     ·
      have g_150_ := g_150
      try simp only [DZ] at g_150
      refine Wl.off' rfl rfl g_150_ rfl rfl <| Wl.off' rfl rfl g_150_ rfl rfl <| Wl.offU rfl rfl rfl <| Wl.offU rfl rfl rfl <| Wl.off' rfl rfl g_150_ rfl rfl ?_
      refine Wl.y (y_pickT rfl g_150_ rfl) rfl ?_
      refine Wl.nil ?_
      refine Wq.meet hM_116 (false) (by repeat first | exact Sub.nil | refine Sub.cons' rfl (by first | rfl | exact bool_eq (by rw [Bool.eq_iff_iff]; simp_all)) ?_) ?_
      exact ⟨rfl, hb, hB_o22, hB_o32, hB_o42, hz1, hz2, hz3⟩
     have g_150_ := g_150
     try simp only [DZ] at g_150
     refine Wl.mv rfl rfl <| Wl.on' rfl rfl g_150_ <| Wl.y (y_neqi rfl rfl) rfl <| Wl.on' rfl rfl g_150_ <| Wl.mv rfl rfl ?_
     refine Wl.guardT rfl rfl rfl (fun g_155 => ?_) (fun g_155 => ?_)
     ·
      have g_155_ := g_155
      try simp only [DZ] at g_155
      refine Wl.mv rfl rfl <| Wl.on' rfl rfl g_155_ <| Wl.y (y_neqi rfl rfl) rfl <| Wl.on' rfl rfl g_150_ ?_
      refine Wl.y (y_pickT rfl g_155_ rfl) rfl ?_
      refine Wl.y (y_pickF rfl g_150_ rfl) rfl ?_
      refine Wl.nil ?_
      refine Wq.meet hM_116 (false) (by repeat first | exact Sub.nil | refine Sub.cons' rfl (by first | rfl | exact bool_eq (by rw [Bool.eq_iff_iff]; simp_all)) ?_) ?_
      exact ⟨rfl, hb, hB_o22, hB_o32, hB_o42, hz1, hz2, hz3⟩
     have g_155_ := g_155
     try simp only [DZ] at g_155
     refine Wl.off' rfl rfl g_155_ rfl rfl <| Wl.on' rfl rfl g_150_ ?_
     refine Wl.y (y_pickF rfl g_155_ rfl) rfl ?_
     refine Wl.y (y_pickF rfl g_150_ rfl) rfl ?_
     refine Wl.nil ?_
     refine Wq.meet hM_116 (false) (by repeat first | exact Sub.nil | refine Sub.cons' rfl (by first | rfl | exact bool_eq (by rw [Bool.eq_iff_iff]; simp_all)) ?_) ?_
     exact ⟨rfl, hb, hB_o22, hB_o32, hB_o42, hz1, hz2, hz3⟩
    have g_120_ := g_120
    try simp only [DZ] at g_120
    have he1 : e1 ≠ 0 := by have := g_120; omega
    have hat1' := hat1 he1
    refine Wl.off' rfl rfl g_120_ rfl rfl <| Wl.off' rfl rfl g_120_ rfl rfl <| Wl.off' rfl rfl g_120_ rfl rfl <| Wl.off' rfl rfl g_120_ rfl rfl <| Wl.off' rfl rfl g_120_ rfl rfl <| Wl.offU rfl rfl rfl <| Wl.offU rfl rfl rfl <| Wl.offU rfl rfl rfl <| Wl.offU rfl rfl rfl <| Wl.offU rfl rfl rfl ?_
    refine Wl.offU rfl rfl rfl <| Wl.offU rfl rfl rfl <| Wl.offU rfl rfl rfl <| Wl.off' rfl rfl g_120_ rfl rfl <| Wl.off' rfl rfl g_120_ rfl rfl <| Wl.offU rfl rfl rfl <| Wl.offU rfl rfl rfl <| Wl.offU rfl rfl rfl <| Wl.offU rfl rfl rfl <| Wl.offU rfl rfl rfl ?_
    refine Wl.offU rfl rfl rfl <| Wl.offU rfl rfl rfl <| Wl.offU rfl rfl rfl <| Wl.off' rfl rfl g_120_ rfl rfl ?_
    refine Wl.y (y_pickF rfl g_120_ rfl) rfl ?_
    refine Wl.mv rfl rfl <| Wl.on' rfl rfl rfl <| Wl.mv rfl rfl <| Wl.on' rfl rfl rfl <| Wl.y (y_neqi rfl rfl) rfl <| Wl.on' rfl rfl rfl <| Wl.mv rfl rfl ?_
    refine Wl.guardT rfl rfl rfl (fun g_167 => ?_) (fun g_167 => ?_)
    ·
     have g_167_ := g_167
     try simp only [DZ] at g_167
     refine Wl.mv rfl rfl <| Wl.on' rfl rfl g_167_ <| Wl.y (y_neqi rfl rfl) rfl <| Wl.on' rfl rfl rfl ?_
     refine Wl.y (y_pickT rfl g_167_ rfl) rfl ?_
     refine Wl.y (y_pickF rfl rfl rfl) rfl <| Wl.nil ?_
     refine Wq.meet hM_116 (false) (by repeat first | exact Sub.nil | refine Sub.cons' rfl (by first | rfl | exact bool_eq (by rw [Bool.eq_iff_iff]; simp_all)) ?_) ?_
     exact ⟨rfl, hb, hB_o22, hB_o32, hB_o42, hz1, hz2, hz3⟩
    have g_167_ := g_167
    try simp only [DZ] at g_167
    refine Wl.off' rfl rfl g_167_ rfl rfl <| Wl.on' rfl rfl rfl ?_
    refine Wl.y (y_pickF rfl g_167_ rfl) rfl ?_
    refine Wl.y (y_pickF rfl rfl rfl) rfl <| Wl.nil ?_
    refine Wq.meet hM_116 (false) (by repeat first | exact Sub.nil | refine Sub.cons' rfl (by first | rfl | exact bool_eq (by rw [Bool.eq_iff_iff]; simp_all)) ?_) ?_
    exact ⟨rfl, hb, hB_o22, hB_o32, hB_o42, hz1, hz2, hz3⟩
   rintro qw wr hI_174
   replace hI_174 : qw = false ∧ Below w.heap.size w wr ∧ Blk wr g_o22 33 (qcells q1.mode q1.sel q1.kk z1) ∧ Blk wr g_o32 33 (qcells q2.mode q2.sel q2.kk z2) ∧ Blk wr g_o42 33 (qcells q3.mode q3.sel q3.kk z3) ∧ PAt wr S1 q1.pat z1.cells ∧ PAt wr S2 q2.pat z2.cells ∧ PAt wr S3 q3.pat z3.cells := hI_174
   obtain ⟨hqw, hb, hB_o22, hB_o32, hB_o42, hz1, hz2, hz3⟩ := hI_174
   show Wq _ _ _ _ [(0, .int .i64 (n1 : Int)), (1, .int .i64 (n2 : Int)), (5, .bool true), (8, .pointer (some ⟨g_o22, 0, none⟩)), (9, .int .i64 at1_), (10, .int .i64 e1), (11, .pointer (some ⟨g_o32, 0, none⟩)), (13, .int .i64 e2), (14, .pointer (some ⟨g_o42, 0, none⟩)), (16, .int .i64 e3), (120, .bool qw)] _
   have hX := hX_hb.below hb
   try have hzhb_g16 := hb.size
   have hlhB_o22_g16 := hB_o22.lt
   have hlhB_o32_g16 := hB_o32.lt
   have hlhB_o42_g16 := hB_o42.lt
   refine Wq.next hK_115 ?_
   refine Wc.cond rfl (fun c3_175 => ?_) (fun c3_175 => ?_)
   ·
    have c3_175_ := c3_175
    try simp only [DZ] at c3_175
    exact absurd c3_175_ (by rw [hqw]; decide)
   have c3_175_ := c3_175
   try simp only [DZ] at c3_175
   refine Wc.skip <| Wq.next hK_114 <| Wc.seq fun _ hK_176 => Wc.region <| Wl.mv rfl rfl <| Wl.mv rfl rfl ?_
   refine Wl.guardT rfl rfl rfl (fun g_179 => ?_) (fun g_179 => ?_)
   ·
    have g_179_ := g_179
    try simp only [DZ] at g_179
    refine Wl.mv rfl rfl <| Wl.on' rfl rfl g_179_ <| Wl.y (y_neqi rfl rfl) rfl <| Wl.on' rfl rfl g_179_ <| Wl.mv rfl rfl ?_
    refine Wl.guardF rfl rfl rfl (fun g_183 => ?_) (fun g_183 => ?_)
    ·
     have g_183_ := g_183
     try simp only [DZ] at g_183
     refine Wl.off' rfl rfl g_183_ rfl rfl <| Wl.off' rfl rfl g_183_ rfl rfl <| Wl.off' rfl rfl g_183_ rfl rfl <| Wl.off' rfl rfl g_183_ rfl rfl <| Wl.off' rfl rfl g_183_ rfl rfl <| Wl.offU rfl rfl rfl <| Wl.offU rfl rfl rfl <| Wl.offU rfl rfl rfl <| Wl.offU rfl rfl rfl <| Wl.offU rfl rfl rfl ?_
     refine Wl.off' rfl rfl g_183_ rfl rfl <| Wl.off' rfl rfl g_183_ rfl rfl <| Wl.offU rfl rfl rfl <| Wl.offU rfl rfl rfl <| Wl.offU rfl rfl rfl <| Wl.offU rfl rfl rfl <| Wl.offU rfl rfl rfl <| Wl.off' rfl rfl g_183_ rfl rfl <| Wl.off' rfl rfl g_183_ rfl rfl <| Wl.offU rfl rfl rfl ?_
     refine Wl.offU rfl rfl rfl <| Wl.offU rfl rfl rfl <| Wl.offU rfl rfl rfl <| Wl.off' rfl rfl g_183_ rfl rfl <| Wl.on' rfl rfl g_179_ ?_
     refine Wl.y (y_pickT rfl g_183_ rfl) rfl ?_
     refine Wl.y (y_pickT rfl g_179_ rfl) rfl ?_
     refine Wl.sg rfl rfl <| Wl.nil <| Wq.next hK_176 <| Wc.ret ?_
     refine ret1 rfl rfl ?_
     first | exact ⟨_, rfl, rfl, hb⟩ | exact ⟨_, rfl, bool_eq (by rw [g3x, h3x]; simp), hb⟩
    have g_183_ := g_183
    try simp only [DZ] at g_183
    have he2 : e2 = 0 := by have := g_183; omega
    obtain ⟨h20, h2x⟩ := hok2 he2
    obtain ⟨h30, h3x⟩ := hok3 (hw3.2 (hw2.1 he2).2)
    obtain ⟨g20, g2x, _⟩ := PAt.seeP hz2
    obtain ⟨g30, g3x, _⟩ := PAt.seeP hz3
    refine Wl.y (y_fieldAddr (fa33_3PlT _) rfl) rfl ?_
    refine Wl.on' rfl rfl g_183_ ?_
    refine Wl.y (y_fieldAddr (fa31_5PlT _) rfl) rfl ?_
    refine Wl.on' rfl rfl g_183_ ?_
    refine Wl.l (l_load one3PlT rfl (by exact hB_o32.at (j := 20) rfl)) rfl ?_
    refine Wl.on' rfl rfl g_183_ <| Wl.mv rfl rfl <| Wl.on' rfl rfl g_183_ <| Wl.y (y_eqli rfl rfl) rfl <| Wl.on' rfl rfl g_183_ <| Wl.mv rfl rfl ?_
    refine Wl.guardT rfl rfl rfl (fun g_193 => ?_) (fun g_193 => ?_)
    ·
     have g_193_ := g_193
     try simp only [DZ] at g_193
     refine Wl.y (y_fieldAddr (fa33_3PlT _) rfl) rfl ?_
     refine Wl.on' rfl rfl g_193_ ?_
     refine Wl.y (y_fieldAddr (fa31_6PlT _) rfl) rfl ?_
     refine Wl.on' rfl rfl g_193_ ?_
     refine Wl.l (l_load one3PlT rfl (by exact hB_o32.at (j := 21) rfl)) rfl ?_
     refine Wl.on' rfl rfl g_193_ <| Wl.mv rfl rfl <| Wl.on' rfl rfl g_193_ <| Wl.y (y_eqli rfl rfl) rfl <| Wl.on' rfl rfl g_183_ ?_
     refine Wl.y (y_pickT rfl g_193_ rfl) rfl ?_
     refine Wl.on' rfl rfl g_183_ <| Wl.mv rfl rfl ?_
     refine Wl.guardT rfl rfl rfl (fun g_201 => ?_) (fun g_201 => ?_)
     ·
      have g_201_ := g_201
      try simp only [DZ] at g_201
      refine Wl.y (y_fieldAddr (fa33_3PlT _) rfl) rfl ?_
      refine Wl.on' rfl rfl g_201_ ?_
      refine Wl.y (y_fieldAddr (fa31_5PlT _) rfl) rfl ?_
      refine Wl.on' rfl rfl g_201_ ?_
      refine Wl.l (l_load one3PlT rfl (by exact hB_o42.at (j := 20) rfl)) rfl ?_
      refine Wl.on' rfl rfl g_201_ <| Wl.mv rfl rfl <| Wl.on' rfl rfl g_201_ <| Wl.y (y_eqli rfl rfl) rfl <| Wl.on' rfl rfl g_183_ ?_
      refine Wl.y (y_pickT rfl g_201_ rfl) rfl ?_
      refine Wl.on' rfl rfl g_183_ <| Wl.mv rfl rfl ?_
      refine Wl.guardT rfl rfl rfl (fun g_209 => ?_) (fun g_209 => ?_)
      ·
       have g_209_ := g_209
       try simp only [DZ] at g_209
       refine Wl.y (y_fieldAddr (fa33_3PlT _) rfl) rfl ?_
       refine Wl.on' rfl rfl g_209_ ?_
       refine Wl.y (y_fieldAddr (fa31_6PlT _) rfl) rfl ?_
       refine Wl.on' rfl rfl g_209_ ?_
       refine Wl.l (l_load one3PlT rfl (by exact hB_o42.at (j := 21) rfl)) rfl ?_
       refine Wl.on' rfl rfl g_209_ <| Wl.y (y_eqli rfl rfl) rfl <| Wl.on' rfl rfl g_183_ ?_
       refine Wl.y (y_pickT rfl g_209_ rfl) rfl ?_
       refine Wl.on' rfl rfl g_179_ ?_
       refine Wl.y (y_pickF rfl g_183_ rfl) rfl ?_
       refine Wl.y (y_pickT rfl g_179_ rfl) rfl ?_
       refine Wl.sg rfl rfl <| Wl.nil <| Wq.next hK_176 <| Wc.ret ?_
       refine ret1 rfl rfl ?_
       first | exact ⟨_, rfl, rfl, hb⟩ | exact ⟨_, rfl, bool_eq (by rw [g3x, h3x]; simp), hb⟩
      have g_209_ := g_209
      try simp only [DZ] at g_209
      exact absurd g_209_ (by rw [g30, h30]; simp)
     have g_201_ := g_201
     try simp only [DZ] at g_201
     exact absurd g_201_ (by rw [g2x, h2x]; simp)
    have g_193_ := g_193
    try simp only [DZ] at g_193
    exact absurd g_193_ (by rw [g20, h20]; simp)
   have g_179_ := g_179
   try simp only [DZ] at g_179
   exact absurd g_179_ (by decide)
  have g_69_ := g_69
  try simp only [DZ] at g_69
  have hgt : ¬ n2 < n1 := by have := g_69; omega
  refine Wl.mv rfl rfl <| Wl.on' rfl rfl g_69_ <| Wl.y (y_eqli rfl rfl) rfl ?_
  refine Wl.y (y_pickF rfl g_69_ rfl) rfl ?_
  refine Wl.nil <| Wq.next hK_64 ?_
  refine Wc.meet (X := Int) (fun wv => [(0, .int .i64 (n1 : Int)), (1, .int .i64 (n2 : Int)), (5, .bool true), (8, .pointer (some ⟨g_o22, 0, none⟩)), (9, .int .i64 at1_), (10, .int .i64 e1), (11, .pointer (some ⟨g_o32, 0, none⟩)), (13, .int .i64 e2), (14, .pointer (some ⟨g_o42, 0, none⟩)), (16, .int .i64 e3), (17, .int .i64 wv)]) (fun wv wr => wv = wantE n1 n2 ∧ Below w.heap.size w wr ∧ Blk wr g_o22 33 (qcells q1.mode q1.sel q1.kk z1) ∧ Blk wr g_o32 33 (qcells q2.mode q2.sel q2.kk z2) ∧ Blk wr g_o42 33 (qcells q3.mode q3.sel q3.kk z3) ∧ PAt wr S1 q1.pat z1.cells ∧ PAt wr S2 q2.pat z2.cells ∧ PAt wr S3 q3.pat z3.cells) (fun _ hM_221 => ?_) ?_
  ·
   refine Wc.cond rfl (fun c0_222 => ?_) (fun c0_222 => ?_)
   ·
    have c0_222_ := c0_222
    try simp only [DZ] at c0_222
    have hw : wantE n1 n2 = 2 := if_pos (.inr (by have := c0_222; omega))
    refine Wc.region <| Wl.sg rfl rfl <| Wl.nil ?_
    refine Wq.meet hM_221 (wantE n1 n2) (by repeat first | exact Sub.nil | refine Sub.cons' rfl (by first | rfl | exact int_eq hw.symm) ?_) ?_
    exact ⟨rfl, hb, hB_o22, hB_o32, hB_o42, hz1, hz2, hz3⟩
   have c0_222_ := c0_222
   try simp only [DZ] at c0_222
   have hng : ¬ (n2 < n1 ∨ n2 = 0) := by have := c0_222; omega
   refine Wc.seq fun _ hK_224 => Wc.region <| Wl.mv rfl rfl <| Wl.y (y_gtri rfl rfl) rfl <| Wl.nil <| Wq.next hK_224 ?_
   refine Wc.cond rfl (fun c1_227 => ?_) (fun c1_227 => ?_)
   ·
    have c1_227_ := c1_227
    try simp only [DZ] at c1_227
    have hw : wantE n1 n2 = 6 := by unfold wantE; rw [if_neg hng, if_pos (by have := c1_227; omega)]
    refine Wc.region <| Wl.sg rfl rfl <| Wl.nil ?_
    refine Wq.meet hM_221 (wantE n1 n2) (by repeat first | exact Sub.nil | refine Sub.cons' rfl (by first | rfl | exact int_eq hw.symm) ?_) ?_
    exact ⟨rfl, hb, hB_o22, hB_o32, hB_o42, hz1, hz2, hz3⟩
   have c1_227_ := c1_227
   try simp only [DZ] at c1_227
   have hw : wantE n1 n2 = 0 := by unfold wantE; rw [if_neg hng, if_neg (by have := c1_227; omega)]
   refine Wc.skip ?_
   refine Wq.meet hM_221 (wantE n1 n2) (by repeat first | exact Sub.nil | refine Sub.cons' rfl (by first | rfl | exact int_eq hw.symm) ?_) ?_
   exact ⟨rfl, hb, hB_o22, hB_o32, hB_o42, hz1, hz2, hz3⟩
  rintro wv wr hI_229
  replace hI_229 : wv = wantE n1 n2 ∧ Below w.heap.size w wr ∧ Blk wr g_o22 33 (qcells q1.mode q1.sel q1.kk z1) ∧ Blk wr g_o32 33 (qcells q2.mode q2.sel q2.kk z2) ∧ Blk wr g_o42 33 (qcells q3.mode q3.sel q3.kk z3) ∧ PAt wr S1 q1.pat z1.cells ∧ PAt wr S2 q2.pat z2.cells ∧ PAt wr S3 q3.pat z3.cells := hI_229
  obtain ⟨hwv, hb, hB_o22, hB_o32, hB_o42, hz1, hz2, hz3⟩ := hI_229
  show Wq _ _ _ _ [(0, .int .i64 (n1 : Int)), (1, .int .i64 (n2 : Int)), (5, .bool true), (8, .pointer (some ⟨g_o22, 0, none⟩)), (9, .int .i64 at1_), (10, .int .i64 e1), (11, .pointer (some ⟨g_o32, 0, none⟩)), (13, .int .i64 e2), (14, .pointer (some ⟨g_o42, 0, none⟩)), (16, .int .i64 e3), (17, .int .i64 wv)] _
  have hX := hX_hb.below hb
  try have hzhb_c0 := hb.size
  have hlhB_o22_c0 := hB_o22.lt
  have hlhB_o32_c0 := hB_o32.lt
  have hlhB_o42_c0 := hB_o42.lt
  refine Wq.next hK_63 <| Wc.seq fun _ hK_230 => Wc.seq fun _ hK_231 => ?_
  refine Wc.meet (X := Bool) (fun qv => [(0, .int .i64 (n1 : Int)), (1, .int .i64 (n2 : Int)), (5, .bool true), (8, .pointer (some ⟨g_o22, 0, none⟩)), (9, .int .i64 at1_), (10, .int .i64 e1), (11, .pointer (some ⟨g_o32, 0, none⟩)), (13, .int .i64 e2), (14, .pointer (some ⟨g_o42, 0, none⟩)), (16, .int .i64 e3), (83, .bool qv)]) (fun qv wr => qv = false ∧ Below w.heap.size w wr ∧ Blk wr g_o22 33 (qcells q1.mode q1.sel q1.kk z1) ∧ Blk wr g_o32 33 (qcells q2.mode q2.sel q2.kk z2) ∧ Blk wr g_o42 33 (qcells q3.mode q3.sel q3.kk z3) ∧ PAt wr S1 q1.pat z1.cells ∧ PAt wr S2 q2.pat z2.cells ∧ PAt wr S3 q3.pat z3.cells) (fun _ hM_232 => ?_) ?_
  ·
   refine Wc.region <| Wl.mv rfl rfl <| Wl.mv rfl rfl <| Wl.y (y_neqi rfl rfl) rfl <| Wl.mv rfl rfl ?_
   refine Wl.guardF rfl rfl rfl (fun g_237 => ?_) (fun g_237 => ?_)
   ·
    have g_237_ := g_237
    try simp only [DZ] at g_237
    exact absurd g_237_ (by rw [hw1, hwv]; simp)
   have g_237_ := g_237
   try simp only [DZ] at g_237
   refine Wl.mv rfl rfl <| Wl.on' rfl rfl g_237_ <| Wl.y (y_eqli rfl rfl) rfl <| Wl.on' rfl rfl g_237_ <| Wl.mv rfl rfl <| Wl.on' rfl rfl g_237_ <| Wl.y (y_geqi rfl rfl) rfl <| Wl.on' rfl rfl g_237_ <| Wl.mv rfl rfl ?_
   refine Wl.guardT rfl rfl rfl (fun g_243 => ?_) (fun g_243 => ?_)
   ·
    have g_243_ := g_243
    try simp only [DZ] at g_243
    refine Wl.mv rfl rfl <| Wl.on' rfl rfl g_243_ <| Wl.y (y_leqi rfl rfl) rfl <| Wl.on' rfl rfl g_237_ ?_
    refine Wl.y (y_pickT rfl g_243_ rfl) rfl ?_
    refine Wl.on' rfl rfl g_237_ ?_
    refine Wl.y (y_neqb Tryz.underlying4 rfl rfl) rfl ?_
    refine Wl.y (y_pickF rfl g_237_ rfl) rfl ?_
    refine Wl.mv rfl rfl ?_
    refine Wl.guardF rfl rfl rfl (fun g_250 => ?_) (fun g_250 => ?_)
    ·
     have g_250_ := g_250
     try simp only [DZ] at g_250
     (have h := g_250_; first | (simp at h; omega) | exact (neb h ⟨fun h_ => by omega, fun h_ => by omega⟩).elim)
    have g_250_ := g_250
    try simp only [DZ] at g_250
    refine Wl.mv rfl rfl <| Wl.on' rfl rfl g_250_ <| Wl.y (y_eqli rfl rfl) rfl <| Wl.on' rfl rfl g_250_ <| Wl.mv rfl rfl <| Wl.on' rfl rfl g_250_ <| Wl.y (y_leqi rfl rfl) rfl <| Wl.on' rfl rfl g_250_ ?_
    refine Wl.y (y_neqb Tryz.underlying4 rfl rfl) rfl ?_
    refine Wl.y (y_pickF rfl g_250_ rfl) rfl ?_
    refine Wl.nil ?_
    refine Wq.meet hM_232 (false) (by repeat first | exact Sub.nil | refine Sub.cons' rfl (by first | rfl | exact bool_eq (neb' (by constructor <;> intro h_ <;> omega))) ?_) ?_
    exact ⟨rfl, hb, hB_o22, hB_o32, hB_o42, hz1, hz2, hz3⟩
   have g_243_ := g_243
   try simp only [DZ] at g_243
   refine Wl.off' rfl rfl g_243_ rfl rfl <| Wl.on' rfl rfl g_237_ ?_
   refine Wl.y (y_pickF rfl g_243_ rfl) rfl ?_
   refine Wl.on' rfl rfl g_237_ ?_
   refine Wl.y (y_neqb Tryz.underlying4 rfl rfl) rfl ?_
   refine Wl.y (y_pickF rfl g_237_ rfl) rfl ?_
   refine Wl.mv rfl rfl ?_
   refine Wl.guardF rfl rfl rfl (fun g_261 => ?_) (fun g_261 => ?_)
   ·
    have g_261_ := g_261
    try simp only [DZ] at g_261
    (have h := g_261_; first | (simp at h; omega) | exact (neb h ⟨fun h_ => by omega, fun h_ => by omega⟩).elim)
   have g_261_ := g_261
   try simp only [DZ] at g_261
   refine Wl.mv rfl rfl <| Wl.on' rfl rfl g_261_ <| Wl.y (y_eqli rfl rfl) rfl <| Wl.on' rfl rfl g_261_ <| Wl.mv rfl rfl <| Wl.on' rfl rfl g_261_ <| Wl.y (y_leqi rfl rfl) rfl <| Wl.on' rfl rfl g_261_ ?_
   refine Wl.y (y_neqb Tryz.underlying4 rfl rfl) rfl ?_
   refine Wl.y (y_pickF rfl g_261_ rfl) rfl ?_
   refine Wl.nil ?_
   refine Wq.meet hM_232 (false) (by repeat first | exact Sub.nil | refine Sub.cons' rfl (by first | rfl | exact bool_eq (neb' (by constructor <;> intro h_ <;> omega))) ?_) ?_
   exact ⟨rfl, hb, hB_o22, hB_o32, hB_o42, hz1, hz2, hz3⟩
  rintro qv wr hI_268
  replace hI_268 : qv = false ∧ Below w.heap.size w wr ∧ Blk wr g_o22 33 (qcells q1.mode q1.sel q1.kk z1) ∧ Blk wr g_o32 33 (qcells q2.mode q2.sel q2.kk z2) ∧ Blk wr g_o42 33 (qcells q3.mode q3.sel q3.kk z3) ∧ PAt wr S1 q1.pat z1.cells ∧ PAt wr S2 q2.pat z2.cells ∧ PAt wr S3 q3.pat z3.cells := hI_268
  obtain ⟨hqv, hb, hB_o22, hB_o32, hB_o42, hz1, hz2, hz3⟩ := hI_268
  show Wq _ _ _ _ [(0, .int .i64 (n1 : Int)), (1, .int .i64 (n2 : Int)), (5, .bool true), (8, .pointer (some ⟨g_o22, 0, none⟩)), (9, .int .i64 at1_), (10, .int .i64 e1), (11, .pointer (some ⟨g_o32, 0, none⟩)), (13, .int .i64 e2), (14, .pointer (some ⟨g_o42, 0, none⟩)), (16, .int .i64 e3), (83, .bool qv)] _
  have hX := hX_hb.below hb
  try have hzhb_g14 := hb.size
  have hlhB_o22_g14 := hB_o22.lt
  have hlhB_o32_g14 := hB_o32.lt
  have hlhB_o42_g14 := hB_o42.lt
  refine Wq.next hK_231 ?_
  refine Wc.cond rfl (fun c2_269 => ?_) (fun c2_269 => ?_)
  ·
   have c2_269_ := c2_269
   try simp only [DZ] at c2_269
   exact absurd c2_269_ (by rw [hqv]; decide)
  have c2_269_ := c2_269
  try simp only [DZ] at c2_269
  refine Wc.skip <| Wq.next hK_230 <| Wc.seq fun _ hK_270 => Wc.seq fun _ hK_271 => ?_
  refine Wc.meet (X := Bool) (fun qw => [(0, .int .i64 (n1 : Int)), (1, .int .i64 (n2 : Int)), (5, .bool true), (8, .pointer (some ⟨g_o22, 0, none⟩)), (9, .int .i64 at1_), (10, .int .i64 e1), (11, .pointer (some ⟨g_o32, 0, none⟩)), (13, .int .i64 e2), (14, .pointer (some ⟨g_o42, 0, none⟩)), (16, .int .i64 e3), (120, .bool qw)]) (fun qw wr => qw = false ∧ Below w.heap.size w wr ∧ Blk wr g_o22 33 (qcells q1.mode q1.sel q1.kk z1) ∧ Blk wr g_o32 33 (qcells q2.mode q2.sel q2.kk z2) ∧ Blk wr g_o42 33 (qcells q3.mode q3.sel q3.kk z3) ∧ PAt wr S1 q1.pat z1.cells ∧ PAt wr S2 q2.pat z2.cells ∧ PAt wr S3 q3.pat z3.cells) (fun _ hM_272 => ?_) ?_
  ·
   refine Wc.region <| Wl.mv rfl rfl <| Wl.y (y_eqli rfl rfl) rfl <| Wl.mv rfl rfl ?_
   refine Wl.guardT rfl rfl rfl (fun g_276 => ?_) (fun g_276 => ?_)
   ·
    have g_276_ := g_276
    try simp only [DZ] at g_276
    have he1 : e1 = 0 := by have := g_276; omega
    obtain ⟨hk2, hmn, hmx⟩ := hok1 he1
    have hk1 : 1 < q1.pat.kidsP.length := by omega
    rw [getD1 hk2 hk1] at hmn hmx
    obtain ⟨_, _, A, c, hcA, hkA⟩ := PAt.seeP hz1
    obtain ⟨p, zk, rfl, hzk, hck⟩ := hkA 1 hk1
    obtain ⟨hzmn, hzmx, _⟩ := PAt.seeP hzk
    refine Wl.y (y_fieldAddr (fa33_3PlT _) rfl) rfl ?_
    refine Wl.on' rfl rfl g_276_ ?_
    refine Wl.y (y_fieldAddr (fa31_7PlT _) rfl) rfl ?_
    refine Wl.on' rfl rfl g_276_ ?_
    refine Wl.l (l_load one29PlT rfl (by exact hB_o22.at (j := 22) (qcells_pat _ _ _ z1 hcA))) rfl ?_
    refine Wl.on' rfl rfl g_276_ ?_
    refine Wl.y (y_lenl Tryz.underlying29 (by omega) rfl) rfl ?_
    refine Wl.on' rfl rfl g_276_ <| Wl.y (y_neqi rfl rfl) rfl <| Wl.on' rfl rfl g_276_ <| Wl.mv rfl rfl ?_
    refine Wl.guardF rfl rfl rfl (fun g_283 => ?_) (fun g_283 => ?_)
    ·
     have g_283_ := g_283
     try simp only [DZ] at g_283
     exact absurd g_283_ (by rw [hk2]; decide)
    have g_283_ := g_283
    try simp only [DZ] at g_283
    refine Wl.y (y_fieldAddr (fa33_3PlT _) rfl) rfl ?_
    refine Wl.on' rfl rfl g_283_ ?_
    refine Wl.y (y_fieldAddr (fa31_7PlT _) rfl) rfl ?_
    refine Wl.on' rfl rfl g_283_ ?_
    refine Wl.l (l_load one29PlT rfl (by exact hB_o22.at (j := 22) (qcells_pat _ _ _ z1 hcA))) rfl ?_
    refine Wl.on' rfl rfl g_283_ ?_
    refine Wl.y (y_indexAddr Tryz.underlying29 sz31PlT rfl rfl (by omega) (by omega)) rfl ?_
    refine Wl.on' rfl rfl g_283_ ?_
    refine Wl.y (y_fieldAddr (fa31_5PlT _) rfl) rfl ?_
    refine Wl.on' rfl rfl g_283_ ?_
    refine Wl.l (l_load one3PlT rfl (by exact hck 17 _ rfl)) rfl ?_
    refine Wl.on' rfl rfl g_283_ <| Wl.mv rfl rfl <| Wl.on' rfl rfl g_283_ <| Wl.y (y_neqi rfl rfl) rfl <| Wl.on' rfl rfl g_276_ ?_
    refine Wl.y (y_pickF rfl g_283_ rfl) rfl ?_
    refine Wl.on' rfl rfl g_276_ <| Wl.mv rfl rfl ?_
    refine Wl.guardF rfl rfl rfl (fun g_294 => ?_) (fun g_294 => ?_)
    ·
     have g_294_ := g_294
     try simp only [DZ] at g_294
     exact absurd g_294_ (by rw [hzmn, hmn]; simp)
    have g_294_ := g_294
    try simp only [DZ] at g_294
    refine Wl.y (y_fieldAddr (fa33_3PlT _) rfl) rfl ?_
    refine Wl.on' rfl rfl g_294_ ?_
    refine Wl.y (y_fieldAddr (fa31_7PlT _) rfl) rfl ?_
    refine Wl.on' rfl rfl g_294_ ?_
    refine Wl.l (l_load one29PlT rfl (by exact hB_o22.at (j := 22) (qcells_pat _ _ _ z1 hcA))) rfl ?_
    refine Wl.on' rfl rfl g_294_ ?_
    refine Wl.y (y_indexAddr Tryz.underlying29 sz31PlT rfl rfl (by omega) (by omega)) rfl ?_
    refine Wl.on' rfl rfl g_294_ ?_
    refine Wl.y (y_fieldAddr (fa31_6PlT _) rfl) rfl ?_
    refine Wl.on' rfl rfl g_294_ ?_
    refine Wl.l (l_load one3PlT rfl (by exact hck 18 _ rfl)) rfl ?_
    refine Wl.on' rfl rfl g_294_ <| Wl.mv rfl rfl <| Wl.on' rfl rfl g_294_ <| Wl.y (y_neqi rfl rfl) rfl <| Wl.on' rfl rfl g_276_ ?_
    refine Wl.y (y_pickF rfl g_294_ rfl) rfl ?_
    refine Wl.y (y_pickT rfl g_276_ rfl) rfl ?_
    refine Wl.mv rfl rfl ?_
    refine Wl.guardF rfl rfl rfl (fun g_306 => ?_) (fun g_306 => ?_)
    ·
     have g_306_ := g_306
     try simp only [DZ] at g_306
     refine Wl.off' rfl rfl g_306_ rfl rfl <| Wl.off' rfl rfl g_306_ rfl rfl <| Wl.offU rfl rfl rfl <| Wl.offU rfl rfl rfl <| Wl.off' rfl rfl g_306_ rfl rfl ?_
     refine Wl.y (y_pickT rfl g_306_ rfl) rfl ?_
     refine Wl.nil ?_
     refine Wq.meet hM_272 (false) (by repeat first | exact Sub.nil | refine Sub.cons' rfl (by first | rfl | exact bool_eq (by rw [Bool.eq_iff_iff]; simp_all)) ?_) ?_
     exact ⟨rfl, hb, hB_o22, hB_o32, hB_o42, hz1, hz2, hz3⟩
    have g_306_ := g_306
    try simp only [DZ] at g_306
    refine Wl.mv rfl rfl <| Wl.on' rfl rfl g_306_ <| Wl.y (y_neqi rfl rfl) rfl <| Wl.on' rfl rfl g_306_ <| Wl.mv rfl rfl ?_
    refine Wl.guardT rfl rfl rfl (fun g_311 => ?_) (fun g_311 => ?_)
    ·
     have g_311_ := g_311
     try simp only [DZ] at g_311
     refine Wl.mv rfl rfl <| Wl.on' rfl rfl g_311_ <| Wl.y (y_neqi rfl rfl) rfl <| Wl.on' rfl rfl g_306_ ?_
     refine Wl.y (y_pickT rfl g_311_ rfl) rfl ?_
     refine Wl.y (y_pickF rfl g_306_ rfl) rfl ?_
     refine Wl.nil ?_
     refine Wq.meet hM_272 (false) (by repeat first | exact Sub.nil | refine Sub.cons' rfl (by first | rfl | exact bool_eq (by rw [Bool.eq_iff_iff]; simp_all)) ?_) ?_
     exact ⟨rfl, hb, hB_o22, hB_o32, hB_o42, hz1, hz2, hz3⟩
    have g_311_ := g_311
    try simp only [DZ] at g_311
    refine Wl.off' rfl rfl g_311_ rfl rfl <| Wl.on' rfl rfl g_306_ ?_
    refine Wl.y (y_pickF rfl g_311_ rfl) rfl ?_
    refine Wl.y (y_pickF rfl g_306_ rfl) rfl ?_
    refine Wl.nil ?_
    refine Wq.meet hM_272 (false) (by repeat first | exact Sub.nil | refine Sub.cons' rfl (by first | rfl | exact bool_eq (by rw [Bool.eq_iff_iff]; simp_all)) ?_) ?_
    exact ⟨rfl, hb, hB_o22, hB_o32, hB_o42, hz1, hz2, hz3⟩
   have g_276_ := g_276
   try simp only [DZ] at g_276
   have he1 : e1 ≠ 0 := by have := g_276; omega
   have hat1' := hat1 he1
   refine Wl.off' rfl rfl g_276_ rfl rfl <| Wl.off' rfl rfl g_276_ rfl rfl <| Wl.off' rfl rfl g_276_ rfl rfl <| Wl.off' rfl rfl g_276_ rfl rfl <| Wl.off' rfl rfl g_276_ rfl rfl <| Wl.offU rfl rfl rfl <| Wl.offU rfl rfl rfl <| Wl.offU rfl rfl rfl <| Wl.offU rfl rfl rfl <| Wl.offU rfl rfl rfl ?_
   refine Wl.offU rfl rfl rfl <| Wl.offU rfl rfl rfl <| Wl.offU rfl rfl rfl <| Wl.off' rfl rfl g_276_ rfl rfl <| Wl.off' rfl rfl g_276_ rfl rfl <| Wl.offU rfl rfl rfl <| Wl.offU rfl rfl rfl <| Wl.offU rfl rfl rfl <| Wl.offU rfl rfl rfl <| Wl.offU rfl rfl rfl ?_
   refine Wl.offU rfl rfl rfl <| Wl.offU rfl rfl rfl <| Wl.offU rfl rfl rfl <| Wl.off' rfl rfl g_276_ rfl rfl ?_
   refine Wl.y (y_pickF rfl g_276_ rfl) rfl ?_
   refine Wl.mv rfl rfl <| Wl.on' rfl rfl rfl <| Wl.mv rfl rfl <| Wl.on' rfl rfl rfl <| Wl.y (y_neqi rfl rfl) rfl <| Wl.on' rfl rfl rfl <| Wl.mv rfl rfl ?_
   refine Wl.guardT rfl rfl rfl (fun g_323 => ?_) (fun g_323 => ?_)
   ·
    have g_323_ := g_323
    try simp only [DZ] at g_323
    refine Wl.mv rfl rfl <| Wl.on' rfl rfl g_323_ <| Wl.y (y_neqi rfl rfl) rfl <| Wl.on' rfl rfl rfl ?_
    refine Wl.y (y_pickT rfl g_323_ rfl) rfl ?_
    refine Wl.y (y_pickF rfl rfl rfl) rfl <| Wl.nil ?_
    refine Wq.meet hM_272 (false) (by repeat first | exact Sub.nil | refine Sub.cons' rfl (by first | rfl | exact bool_eq (by rw [Bool.eq_iff_iff]; simp_all)) ?_) ?_
    exact ⟨rfl, hb, hB_o22, hB_o32, hB_o42, hz1, hz2, hz3⟩
   have g_323_ := g_323
   try simp only [DZ] at g_323
   refine Wl.off' rfl rfl g_323_ rfl rfl <| Wl.on' rfl rfl rfl ?_
   refine Wl.y (y_pickF rfl g_323_ rfl) rfl ?_
   refine Wl.y (y_pickF rfl rfl rfl) rfl <| Wl.nil ?_
   refine Wq.meet hM_272 (false) (by repeat first | exact Sub.nil | refine Sub.cons' rfl (by first | rfl | exact bool_eq (by rw [Bool.eq_iff_iff]; simp_all)) ?_) ?_
   exact ⟨rfl, hb, hB_o22, hB_o32, hB_o42, hz1, hz2, hz3⟩
  rintro qw wr hI_330
  replace hI_330 : qw = false ∧ Below w.heap.size w wr ∧ Blk wr g_o22 33 (qcells q1.mode q1.sel q1.kk z1) ∧ Blk wr g_o32 33 (qcells q2.mode q2.sel q2.kk z2) ∧ Blk wr g_o42 33 (qcells q3.mode q3.sel q3.kk z3) ∧ PAt wr S1 q1.pat z1.cells ∧ PAt wr S2 q2.pat z2.cells ∧ PAt wr S3 q3.pat z3.cells := hI_330
  obtain ⟨hqw, hb, hB_o22, hB_o32, hB_o42, hz1, hz2, hz3⟩ := hI_330
  show Wq _ _ _ _ [(0, .int .i64 (n1 : Int)), (1, .int .i64 (n2 : Int)), (5, .bool true), (8, .pointer (some ⟨g_o22, 0, none⟩)), (9, .int .i64 at1_), (10, .int .i64 e1), (11, .pointer (some ⟨g_o32, 0, none⟩)), (13, .int .i64 e2), (14, .pointer (some ⟨g_o42, 0, none⟩)), (16, .int .i64 e3), (120, .bool qw)] _
  have hX := hX_hb.below hb
  try have hzhb_g16 := hb.size
  have hlhB_o22_g16 := hB_o22.lt
  have hlhB_o32_g16 := hB_o32.lt
  have hlhB_o42_g16 := hB_o42.lt
  refine Wq.next hK_271 ?_
  refine Wc.cond rfl (fun c3_331 => ?_) (fun c3_331 => ?_)
  ·
   have c3_331_ := c3_331
   try simp only [DZ] at c3_331
   exact absurd c3_331_ (by rw [hqw]; decide)
  have c3_331_ := c3_331
  try simp only [DZ] at c3_331
  refine Wc.skip <| Wq.next hK_270 <| Wc.seq fun _ hK_332 => Wc.region <| Wl.mv rfl rfl <| Wl.mv rfl rfl ?_
  refine Wl.guardT rfl rfl rfl (fun g_335 => ?_) (fun g_335 => ?_)
  ·
   have g_335_ := g_335
   try simp only [DZ] at g_335
   refine Wl.mv rfl rfl <| Wl.on' rfl rfl g_335_ <| Wl.y (y_neqi rfl rfl) rfl <| Wl.on' rfl rfl g_335_ <| Wl.mv rfl rfl ?_
   refine Wl.guardF rfl rfl rfl (fun g_339 => ?_) (fun g_339 => ?_)
   ·
    have g_339_ := g_339
    try simp only [DZ] at g_339
    refine Wl.off' rfl rfl g_339_ rfl rfl <| Wl.off' rfl rfl g_339_ rfl rfl <| Wl.off' rfl rfl g_339_ rfl rfl <| Wl.off' rfl rfl g_339_ rfl rfl <| Wl.off' rfl rfl g_339_ rfl rfl <| Wl.offU rfl rfl rfl <| Wl.offU rfl rfl rfl <| Wl.offU rfl rfl rfl <| Wl.offU rfl rfl rfl <| Wl.offU rfl rfl rfl ?_
    refine Wl.off' rfl rfl g_339_ rfl rfl <| Wl.off' rfl rfl g_339_ rfl rfl <| Wl.offU rfl rfl rfl <| Wl.offU rfl rfl rfl <| Wl.offU rfl rfl rfl <| Wl.offU rfl rfl rfl <| Wl.offU rfl rfl rfl <| Wl.off' rfl rfl g_339_ rfl rfl <| Wl.off' rfl rfl g_339_ rfl rfl <| Wl.offU rfl rfl rfl ?_
    refine Wl.offU rfl rfl rfl <| Wl.offU rfl rfl rfl <| Wl.offU rfl rfl rfl <| Wl.off' rfl rfl g_339_ rfl rfl <| Wl.on' rfl rfl g_335_ ?_
    refine Wl.y (y_pickT rfl g_339_ rfl) rfl ?_
    refine Wl.y (y_pickT rfl g_335_ rfl) rfl ?_
    refine Wl.sg rfl rfl <| Wl.nil <| Wq.next hK_332 <| Wc.ret ?_
    refine ret1 rfl rfl ?_
    first | exact ⟨_, rfl, rfl, hb⟩ | exact ⟨_, rfl, bool_eq (by rw [g3x, h3x]; simp), hb⟩
   have g_339_ := g_339
   try simp only [DZ] at g_339
   have he2 : e2 = 0 := by have := g_339; omega
   obtain ⟨h20, h2x⟩ := hok2 he2
   obtain ⟨h30, h3x⟩ := hok3 (hw3.2 (hw2.1 he2).2)
   obtain ⟨g20, g2x, _⟩ := PAt.seeP hz2
   obtain ⟨g30, g3x, _⟩ := PAt.seeP hz3
   refine Wl.y (y_fieldAddr (fa33_3PlT _) rfl) rfl ?_
   refine Wl.on' rfl rfl g_339_ ?_
   refine Wl.y (y_fieldAddr (fa31_5PlT _) rfl) rfl ?_
   refine Wl.on' rfl rfl g_339_ ?_
   refine Wl.l (l_load one3PlT rfl (by exact hB_o32.at (j := 20) rfl)) rfl ?_
   refine Wl.on' rfl rfl g_339_ <| Wl.mv rfl rfl <| Wl.on' rfl rfl g_339_ <| Wl.y (y_eqli rfl rfl) rfl <| Wl.on' rfl rfl g_339_ <| Wl.mv rfl rfl ?_
   refine Wl.guardT rfl rfl rfl (fun g_349 => ?_) (fun g_349 => ?_)
   ·
    have g_349_ := g_349
    try simp only [DZ] at g_349
    refine Wl.y (y_fieldAddr (fa33_3PlT _) rfl) rfl ?_
    refine Wl.on' rfl rfl g_349_ ?_
    refine Wl.y (y_fieldAddr (fa31_6PlT _) rfl) rfl ?_
    refine Wl.on' rfl rfl g_349_ ?_
    refine Wl.l (l_load one3PlT rfl (by exact hB_o32.at (j := 21) rfl)) rfl ?_
    refine Wl.on' rfl rfl g_349_ <| Wl.mv rfl rfl <| Wl.on' rfl rfl g_349_ <| Wl.y (y_eqli rfl rfl) rfl <| Wl.on' rfl rfl g_339_ ?_
    refine Wl.y (y_pickT rfl g_349_ rfl) rfl ?_
    refine Wl.on' rfl rfl g_339_ <| Wl.mv rfl rfl ?_
    refine Wl.guardT rfl rfl rfl (fun g_357 => ?_) (fun g_357 => ?_)
    ·
     have g_357_ := g_357
     try simp only [DZ] at g_357
     refine Wl.y (y_fieldAddr (fa33_3PlT _) rfl) rfl ?_
     refine Wl.on' rfl rfl g_357_ ?_
     refine Wl.y (y_fieldAddr (fa31_5PlT _) rfl) rfl ?_
     refine Wl.on' rfl rfl g_357_ ?_
     refine Wl.l (l_load one3PlT rfl (by exact hB_o42.at (j := 20) rfl)) rfl ?_
     refine Wl.on' rfl rfl g_357_ <| Wl.mv rfl rfl <| Wl.on' rfl rfl g_357_ <| Wl.y (y_eqli rfl rfl) rfl <| Wl.on' rfl rfl g_339_ ?_
     refine Wl.y (y_pickT rfl g_357_ rfl) rfl ?_
     refine Wl.on' rfl rfl g_339_ <| Wl.mv rfl rfl ?_
     refine Wl.guardT rfl rfl rfl (fun g_365 => ?_) (fun g_365 => ?_)
     ·
      have g_365_ := g_365
      try simp only [DZ] at g_365
      refine Wl.y (y_fieldAddr (fa33_3PlT _) rfl) rfl ?_
      refine Wl.on' rfl rfl g_365_ ?_
      refine Wl.y (y_fieldAddr (fa31_6PlT _) rfl) rfl ?_
      refine Wl.on' rfl rfl g_365_ ?_
      refine Wl.l (l_load one3PlT rfl (by exact hB_o42.at (j := 21) rfl)) rfl ?_
      refine Wl.on' rfl rfl g_365_ <| Wl.y (y_eqli rfl rfl) rfl <| Wl.on' rfl rfl g_339_ ?_
      refine Wl.y (y_pickT rfl g_365_ rfl) rfl ?_
      refine Wl.on' rfl rfl g_335_ ?_
      refine Wl.y (y_pickF rfl g_339_ rfl) rfl ?_
      refine Wl.y (y_pickT rfl g_335_ rfl) rfl ?_
      refine Wl.sg rfl rfl <| Wl.nil <| Wq.next hK_332 <| Wc.ret ?_
      refine ret1 rfl rfl ?_
      first | exact ⟨_, rfl, rfl, hb⟩ | exact ⟨_, rfl, bool_eq (by rw [g3x, h3x]; simp), hb⟩
     have g_365_ := g_365
     try simp only [DZ] at g_365
     exact absurd g_365_ (by rw [g30, h30]; simp)
    have g_357_ := g_357
    try simp only [DZ] at g_357
    exact absurd g_357_ (by rw [g2x, h2x]; simp)
   have g_349_ := g_349
   try simp only [DZ] at g_349
   exact absurd g_349_ (by rw [g20, h20]; simp)
  have g_335_ := g_335
  try simp only [DZ] at g_335
  exact absurd g_335_ (by decide)
end Go.Proofs.YtjnabgddjogkbaaGreatDoor
