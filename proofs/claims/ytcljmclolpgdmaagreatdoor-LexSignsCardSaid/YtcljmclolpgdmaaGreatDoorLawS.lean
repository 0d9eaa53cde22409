/- The statement LexSigns, by the calculus. -/
import Derived.Test.YtcljmclolpgdmaaGreatDoorLexY
namespace Go.Proofs.YtcljmclolpgdmaaGreatDoor
open Go.RowKit Go.Bw Go.Bw.Fl
set_option linter.unusedVariables false
set_option linter.unusedSimpArgs false
theorem fa49_0LawS (p : Addr) (w : World) : (Instr.fieldAt 49 (.pointer (some p)) 0).run Tryz.prog w = .ok (.pointer (some (p.add 0))) w := run_fieldAt (i := 0) (sz := 0) Tryz.underlying49 rfl (by kernel_rfl) p w
theorem fa49_1LawS (p : Addr) (w : World) : (Instr.fieldAt 49 (.pointer (some p)) 1).run Tryz.prog w = .ok (.pointer (some (p.add 1))) w := run_fieldAt (i := 1) (sz := 0) Tryz.underlying49 rfl (by kernel_rfl) p w
theorem one3LawS : One Tryz.prog 3 := ⟨_, Tryz.underlying3, rfl, by kernel_rfl⟩
theorem one9LawS : One Tryz.prog 9 := ⟨_, Tryz.underlying9, rfl, by kernel_rfl⟩
theorem sz49LawS : (Tryz.prog.info? 49).map (·.size) = some 3 := by kernel_rfl
theorem sz9LawS : (Tryz.prog.info? 9).map (·.size) = some 1 := by kernel_rfl
theorem txt21LawS : Txt Tryz.prog 21 := ⟨_, Tryz.func21, by kernel_rfl, rfl⟩   -- bridleway/bridlewaylaw10.shown
theorem txt22LawS : Txt Tryz.prog 22 := ⟨_, Tryz.func22, by kernel_rfl, rfl⟩   -- bridleway/lex.Lex
/-! ### plain -/
def sgc (c : UInt8) : Bool := !isLet c && !(c == 39) && !blank c
theorem signs_sgc : (signsV.all fun x => x.all sgc) = true := by decide +kernel
theorem sgc_of {x : List UInt8} (hx : x ∈ signsV) : ∀ c, c ∈ x → sgc c = true := fun c hc => List.all_eq_true.1 (List.all_eq_true.1 signs_sgc x hx) c hc
theorem sgc_head {c : UInt8} {r : List UInt8} (h : sgc c = true) : ¬ (((c :: r).getD 0 0).toNat = 39 ∨ (48 ≤ ((c :: r).getD 0 0).toNat ∧ ((c :: r).getD 0 0).toNat ≤ 57)) ∧ letN (c :: r) = 0 ∧ blank c = false := by
  unfold sgc at h
  simp only [Bool.and_eq_true, Bool.not_eq_true', beq_eq_false_iff_ne] at h
  obtain ⟨⟨h1, h2⟩, h3⟩ := h
  refine ⟨?_, by rw [letN_cons, h1]; rfl, h3⟩
  show ¬ (c.toNat = 39 ∨ (48 ≤ c.toNat ∧ c.toNat ≤ 57))
  rintro (h | h)
  · exact h2 (UInt8.toNat_inj.1 h)
  · unfold isLet at h1; rw [decide_eq_false_iff_not] at h1; exact h1 (.inr (.inl h))
/-- signs alone -/
def sgR : Nat → List UInt8 → Option (List (List UInt8))
  | 0, _ => some []
  | f + 1, [] => some []
  | f + 1, c :: r => match signsV.find? (fun x => Lib.hasPrefix (c :: r) x) with
    | none => none
    | some x => (sgR f ((c :: r).drop x.length)).map (x :: ·)
theorem sgR_lex : ∀ (f : Nat) (s : List UInt8) (i : Nat) (ts : List (List UInt8)), s.length ≤ f → (∀ c, c ∈ s → sgc c = true) → sgR f s = some ts → ∃ l, lexV s i = .ok l ∧ txts l = ts
  | f, [], i, ts, _, _, h => by
    have : ts = [] := by cases f <;> (rw [sgR] at h; cases h; rfl)
    subst this; exact ⟨[], rfl, rfl⟩
  | 0, c :: r, i, ts, h, _, _ => by simp at h
  | f + 1, c :: r, i, ts, hf, hc, h => by
    simp only [List.length_cons] at hf
    rw [sgR] at h
    obtain ⟨h1, h2, h3⟩ := sgc_head (r := r) (hc c (List.mem_cons_self ..))
    cases hx : signsV.find? (fun x => Lib.hasPrefix (c :: r) x) with
    | none => rw [hx] at h; cases h
    | some x =>
      rw [hx] at h
      obtain ⟨ts', hts, rfl⟩ := Option.map_eq_some_iff.1 h
      have ht := tokV_s h1 (by omega) hx
      obtain ⟨hp, hx0, _⟩ := find_sign hx
      obtain ⟨l, hl, hlt⟩ := sgR_lex f ((c :: r).drop x.length) (i + x.length) ts' (by rw [List.length_drop]; simp only [List.length_cons]; omega) (fun d hd => hc d (List.mem_of_mem_drop hd)) hts
      refine ⟨⟨5, x, i⟩ :: l, ?_, by rw [← hlt]; rfl⟩
      rw [lexV_tok i h3 (by rw [ht]; show (5 : Nat) ≠ 0; decide), ht]
      show Except.map _ (lexV ((c :: r).drop x.length) (i + x.length)) = _
      rw [hl, ← sign_take hp]; rfl
/-- the longest of the first i signs that stands at the beginning -/
def beats (s z b : List UInt8) : Bool := decide (z.length ≤ s.length ∧ s.take z.length = z ∧ b.length < z.length)
def bestF (s : List UInt8) : Nat → List UInt8
  | 0 => []
  | i + 1 => if beats s (signsV.getD i []) (bestF s i) = true then signsV.getD i [] else bestF s i
theorem bestF_len (s : List UInt8) : ∀ i, (bestF s i).length ≤ 3
  | 0 => by simp [bestF]
  | i + 1 => by
    rw [bestF]
    split
    · by_cases h : i < 36
      · have key : ∀ z, z ∈ signsV → z.length ≤ 3 := by decide
        exact key _ (by simp [List.getD, List.getElem?_eq_getElem (show i < signsV.length from h)])
      · rw [show signsV.getD i [] = [] by simp [List.getD, List.getElem?_eq_none (show signsV.length ≤ i by show 36 ≤ i; omega)]]; simp
    · exact bestF_len s i
def okPair (x y : List UInt8) : Bool := match sgR 6 (x ++ y) with
  | some (t :: _) => t == bestF (x ++ y) 36
  | _ => false
theorem pairs : (signsV.all fun x => signsV.all fun y => okPair x y) = true := by decide +kernel
theorem signs_len : ∀ x, x ∈ signsV → 0 < x.length ∧ x.length ≤ 3 := by decide
theorem one_eq {x y : List UInt8} (hx : x ∈ signsV) (hy : y ∈ signsV) : ∃ l, lexV (x ++ y) 0 = .ok l ∧ ∃ (h : 0 < l.length), (l[0]).t = bestF (x ++ y) 36 := by
  have h := List.all_eq_true.1 (List.all_eq_true.1 pairs x hx) y hy
  unfold okPair at h
  have hl := signs_len x hx
  have hl2 := signs_len y hy
  cases hs : sgR 6 (x ++ y) with
  | none => rw [hs] at h; cases h
  | some ts =>
    rw [hs] at h
    obtain ⟨l, h1, h2⟩ := sgR_lex 6 (x ++ y) 0 ts (by rw [List.length_append]; omega) (fun c hc => by
      rcases List.mem_append.1 hc with h | h
      · exact sgc_of hx c h
      · exact sgc_of hy c h) hs
    subst h2
    cases l with
    | nil => cases h
    | cons t r => exact ⟨_, h1, by simp, by simpa [txts] using h⟩
theorem stop9 : Stop 9 := ⟨by decide, by decide, by decide, by decide, by decide, by decide, by decide, by decide⟩
theorem sign_self : ∀ x, x ∈ signsV → signsV.find? (fun y => Lib.hasPrefix x y) = some x := by decide +kernel
theorem tok_sign {x : List UInt8} (hx : x ∈ signsV) : tokV x = (5, x.length) := by
  have hl := signs_len x hx
  cases x with
  | nil => simp at hl
  | cons c r =>
    obtain ⟨h1, h2, h3⟩ := sgc_head (r := r) (sgc_of hx c (List.mem_cons_self ..))
    exact tokV_s h1 (by omega) (sign_self _ hx)
theorem lexV_blanks : ∀ (g s : List UInt8) (i : Nat), (∀ c, c ∈ g → blank c = true) → lexV (g ++ s) i = lexV s (i + g.length)
  | [], s, i, _ => rfl
  | c :: g, s, i, h => by
    rw [List.cons_append, lexV_blank i (h c (List.mem_cons_self ..)), lexV_blanks g s (i + 1) (fun d hd => h d (List.mem_cons_of_mem _ hd))]
    congr 1; simp only [List.length_cons]; omega
def gapsV : List (List UInt8) := [[32], [9], [10], [32, 13, 10, 32]]
theorem gap_of {g : List UInt8} (h : g ∈ gapsV) : (∀ c, c ∈ g → blank c = true) ∧ ∃ c m, g = c :: m ∧ Stop c ∧ isLet c = false ∧ (∀ x, x ∈ signsV → c ∉ x) := by
  simp only [gapsV, List.mem_cons, List.not_mem_nil, or_false] at h
  rcases h with rfl | rfl | rfl | rfl
  · exact ⟨by decide, 32, [], rfl, stop32, by decide +kernel, by decide⟩
  · exact ⟨by decide, 9, [], rfl, stop9, by decide +kernel, by decide⟩
  · exact ⟨by decide, 10, [], rfl, stop10, by decide +kernel, by decide⟩
  · exact ⟨by decide, 32, [13, 10, 32], rfl, stop32, by decide +kernel, by decide⟩
theorem sign_gap {x g : List UInt8} (hx : x ∈ signsV) (hg : g ∈ gapsV) (m : List UInt8) (i : Nat) : lexV (x ++ (g ++ m)) i = (lexV m (i + x.length + g.length)).map fun l => ⟨5, x, i⟩ :: l := by
  obtain ⟨hb, c, g', rfl, h1, h2, h3⟩ := gap_of hg
  have hl := signs_len x hx
  have hne : x ≠ [] := fun e => by rw [e] at hl; simp at hl
  have ht : tokV (x ++ (c :: g' ++ m)) = (5, x.length) := by
    rw [List.cons_append, tokV_appc (g' ++ m) h1 h2 h3 hne (fun h => absurd h (by
      cases x with
      | nil => exact absurd rfl hne
      | cons d r => exact fun h => (sgc_head (r := r) (sgc_of hx d (List.mem_cons_self ..))).1 (.inl h))), tok_sign hx]
  have hbl : blank ((x ++ (c :: g' ++ m)).getD 0 0) = false := by
    rw [getD_app hne]
    cases x with
    | nil => exact absurd rfl hne
    | cons d r => exact (sgc_head (r := r) (sgc_of hx d (List.mem_cons_self ..))).2.2
  rw [lexV_step ht ⟨by simp [hne], hbl⟩ (by decide), List.drop_left, List.take_left, lexV_blanks _ _ _ hb]
theorem two_eq {x y g : List UInt8} (hx : x ∈ signsV) (hy : y ∈ signsV) (hg : g ∈ gapsV) : lexV (g ++ x ++ g ++ y ++ g) 0 = .ok [⟨5, x, 0 + g.length⟩, ⟨5, y, 0 + g.length + x.length + g.length⟩] := by
  have e : g ++ x ++ g ++ y ++ g = g ++ (x ++ (g ++ (y ++ (g ++ [])))) := by simp
  rw [e, lexV_blanks _ _ _ (gap_of hg).1, sign_gap hx hg, sign_gap hy hg, lexV_nil]; rfl
theorem getD_mem {l : List (List UInt8)} {k : Nat} (h : k < l.length) : l.getD k [] ∈ l := by simp [List.getD, List.getElem?_eq_getElem h]

theorem Signs_r (a b d : Int) (w : World) (hX : Lx w) : Ret Tryz.prog 11 [.int .i64 a, .int .i64 b, .int .i64 d] w fun v w' => v = .bool true ∧ Below w.heap.size w w' := by
  obtain ⟨n1, hn1⟩ := and65535 a
  obtain ⟨n2, hn2⟩ := and65535 b
  obtain ⟨n3, hn3, hn34⟩ := and3 d
  obtain ⟨k1, hk1⟩ : ∃ k, k = n1 % 36 := ⟨_, rfl⟩
  obtain ⟨k2, hk2⟩ : ∃ k, k = n2 % 36 := ⟨_, rfl⟩
  have hk1l : k1 < 36 := by omega
  have hk2l : k2 < 36 := by omega
  obtain ⟨x, hx⟩ : ∃ x, x = signsV.getD k1 [] := ⟨_, rfl⟩
  obtain ⟨y, hy⟩ : ∃ y, y = signsV.getD k2 [] := ⟨_, rfl⟩
  obtain ⟨g, hg⟩ : ∃ g, g = gapsV.getD n3 [] := ⟨_, rfl⟩
  have hxm : x ∈ signsV := by rw [hx]; exact getD_mem hk1l
  have hym : y ∈ signsV := by rw [hy]; exact getD_mem hk2l
  have hgm : g ∈ gapsV := by rw [hg]; exact getD_mem hn34
  have hxl := signs_len x hxm
  have hyl := signs_len y hym
  have hgl : g.length ≤ 4 := (show ∀ z, z ∈ gapsV → z.length ≤ 4 by decide) g hgm
  have hone := one_eq hxm hym
  have htwo := two_eq hxm hym hgm
  obtain ⟨s, hs⟩ : ∃ s, s = x ++ y := ⟨_, rfl⟩
  have hsl : s.length ≤ 6 := by rw [hs, List.length_append]; omega
  rw [← hs] at hone
  obtain ⟨l1, hl1, hl10, hbest⟩ := hone
  have hcat : (g ++ x ++ g ++ y ++ g).length ≤ 100 := by simp; omega
  have hb := Below.refl w.heap.size w
  have hX_hb := hX
  refine enter Tryz.func11 rfl rfl rfl ?_
  refine Wc.seq fun _ hK_1 => ?_
  refine Wc.region ?_
  refine Wl.y (y_assign rfl) rfl ?_
  refine Wl.nil ?_
  refine Wq.next hK_1 ?_
  refine Wc.seq fun _ hK_3 => ?_
  refine Wc.region ?_
  refine Wl.call txt21LawS rfl rfl (lshown_r _ hX) rfl ?_
  rintro _ w_k0 ⟨rfl, hs_k0⟩
  have hz_k0 := hs_k0.size
  have hb := hb.trans (hs_k0.mono hb.size)
  have hX := hX_hb.below hb
  refine Wl.y (y_assign rfl) rfl ?_
  refine Wl.nil ?_
  refine Wq.next hK_3 ?_
  refine Wc.seq fun _ hK_6 => ?_
  refine Wc.region ?_
  refine Wl.litN (sz := 1) (vs := [_, _, _, _, _, _, _, _, _, _, _, _, _, _, _, _, _, _, _, _, _, _, _, _, _, _, _, _, _, _, _, _, _, _, _, _]) Tryz.underlying53 (by kernel_rfl) rfl rfl rfl rfl rfl rfl ?_
  rintro g_b0 w_b0 hg_b0 hn_b0 hs_b0
  have hz_b0 := hs_b0.size
  have hb := hb.trans (hs_b0.mono hb.size)
  have hX := hX_hb.below hb
  have hB_b0 := hn_b0
  have hl_b0 := hB_b0.lt
  refine Wl.y (y_assign rfl) rfl ?_
  refine Wl.nil ?_
  refine Wq.next hK_6 ?_
  refine Wc.seq fun _ hK_9 => ?_
  have hR : Rd w_b0 1 (some ⟨g_b0, 0, none⟩) 36 (strs signsV) := hB_b0.rd 36 1 rfl
  obtain ⟨p_, v_, hpe, hve, hcx⟩ := hR.one (i := k1) hk1l
  cases hpe
  obtain rfl := strs_val (l := signsV) hk1l hve
  rw [← hx] at hcx
  obtain ⟨p_, v_, hpe, hve, hcy⟩ := hR.one (i := k2) hk2l
  cases hpe
  obtain rfl := strs_val (l := signsV) hk2l hve
  rw [← hy] at hcy
  refine Wc.region ?_
  refine Wl.y (y_move rfl) rfl ?_
  refine Wl.y (y_move rfl) rfl ?_
  refine Wl.y (y_eq (y_and rfl rfl) (int_eq (show _ = (n1 : Int) from hn1))) rfl ?_
  refine Wl.y (y_move rfl) rfl ?_
  refine Wl.y (y_lenl Tryz.underlying53 (by omega) rfl) rfl ?_
  refine Wl.y (y_eq (y_rem rfl rfl (by first | decide | omega)) (int_eq (show _ = (k1 : Int) by rw [hk1]; rfl))) rfl ?_
  refine Wl.y (y_indexAddr Tryz.underlying53 sz9LawS rfl rfl (by omega) (by omega)) rfl ?_
  refine Wl.l (l_load one9LawS rfl (by exact at1 hcx)) rfl ?_
  refine Wl.y (y_assign rfl) rfl ?_
  refine Wl.nil ?_
  refine Wq.next hK_9 ?_
  refine Wc.seq fun _ hK_19 => ?_
  refine Wc.region ?_
  refine Wl.y (y_move rfl) rfl ?_
  refine Wl.y (y_move rfl) rfl ?_
  refine Wl.y (y_eq (y_and rfl rfl) (int_eq (show _ = (n2 : Int) from hn2))) rfl ?_
  refine Wl.y (y_move rfl) rfl ?_
  refine Wl.y (y_lenl Tryz.underlying53 (by omega) rfl) rfl ?_
  refine Wl.y (y_eq (y_rem rfl rfl (by first | decide | omega)) (int_eq (show _ = (k2 : Int) by rw [hk2]; rfl))) rfl ?_
  refine Wl.y (y_indexAddr Tryz.underlying53 sz9LawS rfl rfl (by omega) (by omega)) rfl ?_
  refine Wl.l (l_load one9LawS rfl (by exact at1 hcy)) rfl ?_
  refine Wl.y (y_assign rfl) rfl ?_
  refine Wl.nil ?_
  refine Wq.next hK_19 ?_
  refine Wc.seq fun _ hK_29 => ?_
  refine Wc.region ?_
  refine Wl.litN (sz := 1) (vs := [_, _, _, _]) Tryz.underlying53 (by kernel_rfl) rfl rfl rfl rfl rfl rfl ?_
  rintro g_b3 w_b3 hg_b3 hn_b3 hs_b3
  have hz_b3 := hs_b3.size
  have hb := hb.trans (hs_b3.mono hb.size)
  have hX := hX_hb.below hb
  try have hB_b0 := Blk.below hB_b0 hs_b3
  have hB_b3 := hn_b3
  have hl_b3 := hB_b3.lt
  have hRg : Rd w_b3 1 (some ⟨g_b3, 0, none⟩) 4 (strs gapsV) := hB_b3.rd 4 1 rfl
  have hR : Rd w_b3 1 (some ⟨g_b0, 0, none⟩) 36 (strs signsV) := hB_b0.rd 36 1 rfl
  obtain ⟨p_, v_, hpe, hve, hcg⟩ := hRg.one (i := n3) hn34
  cases hpe
  obtain rfl := strs_val (l := gapsV) hn34 hve
  rw [← hg] at hcg
  refine Wl.y (y_move rfl) rfl ?_
  refine Wl.y (y_eq (y_and rfl rfl) (int_eq (show _ = (n3 : Int) from hn3))) rfl ?_
  refine Wl.y (y_indexAddr Tryz.underlying53 sz9LawS rfl rfl (by omega) (by omega)) rfl ?_
  refine Wl.l (l_load one9LawS rfl (by exact at1 hcg)) rfl ?_
  refine Wl.y (y_assign rfl) rfl ?_
  refine Wl.nil ?_
  refine Wq.next hK_29 ?_
  refine Wc.seq fun _ hK_36 => ?_
  refine Wc.region ?_
  refine Wl.y (y_move rfl) rfl ?_
  refine Wl.y (y_move rfl) rfl ?_
  refine Wl.y (y_adds rfl rfl (by first | omega | (simp; done) | (simp; omega))) rfl ?_
  refine Wl.y (y_move rfl) rfl ?_
  refine Wl.y (y_adds rfl rfl (by first | omega | (simp; done) | (simp; omega))) rfl ?_
  refine Wl.y (y_move rfl) rfl ?_
  refine Wl.y (y_adds rfl rfl (by first | omega | (simp; done) | (simp; omega))) rfl ?_
  refine Wl.y (y_move rfl) rfl ?_
  refine Wl.y (y_adds rfl rfl (by first | omega | (simp; done) | (simp; omega))) rfl ?_
  refine Wl.call txt22LawS rfl rfl (Lex_ok htwo (by omega) _ hX) rfl ?_
  rintro _ w_k1 ⟨⟨A2, c2, rfl, _, hc2, hR2⟩, hs_k1⟩
  have hz_k1 := hs_k1.size
  have hb := hb.trans (hs_k1.mono hb.size)
  have hX := hX_hb.below hb
  try have hB_b0 := Blk.below hB_b0 hs_k1
  refine Wl.y (y_move rfl) rfl ?_
  refine Wl.y (y_extract rfl rfl) rfl ?_
  refine Wl.y (y_extract rfl rfl) rfl ?_
  refine Wl.y (y_extract rfl rfl) rfl ?_
  refine Wl.y (y_assign rfl) rfl ?_
  refine Wl.y (y_assign rfl) rfl ?_
  refine Wl.y (y_assign rfl) rfl ?_
  refine Wl.nil ?_
  refine Wq.next hK_36 ?_
  refine Wc.seq fun _ hK_54 => ?_
  refine Wc.region ?_
  refine Wl.y (y_move rfl) rfl ?_
  refine Wl.y (y_move rfl) rfl ?_
  refine Wl.y (y_eq (y_adds rfl rfl (by first | omega | (simp; done) | (simp; omega))) (str_eq (show _ = s by rw [hs]))) rfl ?_
  refine Wl.call txt22LawS rfl rfl (Lex_ok hl1 (by omega) _ hX) rfl ?_
  rintro _ w_k2 ⟨⟨A1, c1, rfl, hl1b, hc1, hR1⟩, hs_k2⟩
  have hz_k2 := hs_k2.size
  have hb := hb.trans (hs_k2.mono hb.size)
  have hX := hX_hb.below hb
  try have hB_b0 := Blk.below hB_b0 hs_k2
  try have hR2 := Rd.below hR2 hs_k2
  refine Wl.y (y_move rfl) rfl ?_
  refine Wl.y (y_extract rfl rfl) rfl ?_
  refine Wl.y (y_extract rfl rfl) rfl ?_
  refine Wl.y (y_extract rfl rfl) rfl ?_
  refine Wl.y (y_assign rfl) rfl ?_
  refine Wl.y (y_assign rfl) rfl ?_
  refine Wl.y (y_assign rfl) rfl ?_
  refine Wl.nil ?_
  refine Wq.next hK_54 ?_
  refine Wc.seq fun _ hK_66 => ?_
  refine Wc.seq fun _ hK_67 => ?_
  obtain ⟨p2, hp2, _⟩ := Rd.tok (l := [(⟨5, x, 0 + g.length⟩ : Tok), ⟨5, y, 0 + g.length + x.length + g.length⟩]) hR2 (i := 0) (show 0 < 2 by decide)
  subst hp2
  obtain ⟨p1, hp1, _⟩ := Rd.tok hR1 (i := 0) hl10
  subst hp1
  have hR : Rd w_k2 1 (some ⟨g_b0, 0, none⟩) 36 (strs signsV) := hB_b0.rd 36 1 rfl
  refine Wc.region ?_
  refine Wl.y (y_move rfl) rfl ?_
  refine Wl.y (y_neqi rfl rfl) rfl ?_
  refine Wl.y (y_move rfl) rfl ?_
  refine Wl.guardF rfl rfl rfl (fun g_71 => ?_) (fun g_71 => ?_)
  ·
   have g_71_ := g_71
   try simp only [decide_eq_true_eq, decide_eq_false_iff_not, beq_iff_eq, beq_eq_false_iff_ne, bne_iff_ne, bne_eq_false_iff_eq, Bool.not_eq_true', Bool.not_eq_false', Bool.not_eq_eq_eq_not, Bool.not_true, Bool.not_false, ne_eq, Int.not_lt, Int.not_le] at g_71
   exact absurd g_71_ (by decide)
  ·
   have g_71_ := g_71
   try simp only [decide_eq_true_eq, decide_eq_false_iff_not, beq_iff_eq, beq_eq_false_iff_ne, bne_iff_ne, bne_eq_false_iff_eq, Bool.not_eq_true', Bool.not_eq_false', Bool.not_eq_eq_eq_not, Bool.not_true, Bool.not_false, ne_eq, Int.not_lt, Int.not_le] at g_71
   refine Wl.y (y_move rfl) rfl ?_
   refine Wl.on' rfl rfl g_71_ ?_
   refine Wl.y (y_neqi rfl rfl) rfl ?_
   refine Wl.y (y_pickF rfl g_71_ rfl) rfl ?_
   refine Wl.y (y_move rfl) rfl ?_
   refine Wl.guardF rfl rfl rfl (fun g_76 => ?_) (fun g_76 => ?_)
   ·
    have g_76_ := g_76
    try simp only [decide_eq_true_eq, decide_eq_false_iff_not, beq_iff_eq, beq_eq_false_iff_ne, bne_iff_ne, bne_eq_false_iff_eq, Bool.not_eq_true', Bool.not_eq_false', Bool.not_eq_eq_eq_not, Bool.not_true, Bool.not_false, ne_eq, Int.not_lt, Int.not_le] at g_76
    exact absurd g_76_ (by decide)
   ·
    have g_76_ := g_76
    try simp only [decide_eq_true_eq, decide_eq_false_iff_not, beq_iff_eq, beq_eq_false_iff_ne, bne_iff_ne, bne_eq_false_iff_eq, Bool.not_eq_true', Bool.not_eq_false', Bool.not_eq_eq_eq_not, Bool.not_true, Bool.not_false, ne_eq, Int.not_lt, Int.not_le] at g_76
    refine Wl.y (y_move rfl) rfl ?_
    refine Wl.on' rfl rfl g_76_ ?_
    refine Wl.y (y_lenl Tryz.underlying39 (by omega) rfl) rfl ?_
    refine Wl.on' rfl rfl g_76_ ?_
    refine Wl.y (y_neqi rfl rfl) rfl ?_
    refine Wl.y (y_pickF rfl g_76_ rfl) rfl ?_
    refine Wl.y (y_move rfl) rfl ?_
    refine Wl.guardF rfl rfl rfl (fun g_82 => ?_) (fun g_82 => ?_)
    ·
     have g_82_ := g_82
     try simp only [decide_eq_true_eq, decide_eq_false_iff_not, beq_iff_eq, beq_eq_false_iff_ne, bne_iff_ne, bne_eq_false_iff_eq, Bool.not_eq_true', Bool.not_eq_false', Bool.not_eq_eq_eq_not, Bool.not_true, Bool.not_false, ne_eq, Int.not_lt, Int.not_le] at g_82
     exact absurd g_82_ (by simp)
    ·
     have g_82_ := g_82
     try simp only [decide_eq_true_eq, decide_eq_false_iff_not, beq_iff_eq, beq_eq_false_iff_ne, bne_iff_ne, bne_eq_false_iff_eq, Bool.not_eq_true', Bool.not_eq_false', Bool.not_eq_eq_eq_not, Bool.not_true, Bool.not_false, ne_eq, Int.not_lt, Int.not_le] at g_82
     refine Wl.y (y_move rfl) rfl ?_
     refine Wl.on' rfl rfl g_82_ ?_
     refine Wl.y (y_lenl Tryz.underlying39 (by omega) rfl) rfl ?_
     refine Wl.on' rfl rfl g_82_ ?_
     refine Wl.y (y_eqli rfl rfl) rfl ?_
     refine Wl.y (y_pickF rfl g_82_ rfl) rfl ?_
     refine Wl.nil ?_
     refine Wq.next hK_67 ?_
     refine Wc.cond rfl (fun c0_87 => ?_) (fun c0_87 => ?_)
     ·
      have c0_87_ := c0_87
      try simp only [decide_eq_true_eq, decide_eq_false_iff_not, beq_iff_eq, beq_eq_false_iff_ne, bne_iff_ne, bne_eq_false_iff_eq, Bool.not_eq_true', Bool.not_eq_false', Bool.not_eq_eq_eq_not, Bool.not_true, Bool.not_false, ne_eq, Int.not_lt, Int.not_le] at c0_87
      (have h := c0_87; omega)
     ·
      have c0_87_ := c0_87
      try simp only [decide_eq_true_eq, decide_eq_false_iff_not, beq_iff_eq, beq_eq_false_iff_ne, bne_iff_ne, bne_eq_false_iff_eq, Bool.not_eq_true', Bool.not_eq_false', Bool.not_eq_eq_eq_not, Bool.not_true, Bool.not_false, ne_eq, Int.not_lt, Int.not_le] at c0_87
      refine Wc.skip ?_
      refine Wq.next hK_66 ?_
      refine Wc.seq fun _ hK_88 => ?_
      refine Wc.region ?_
      refine Wl.y (y_assign rfl) rfl ?_
      refine Wl.nil ?_
      refine Wq.next hK_88 ?_
      refine Wc.seq fun _ hK_90 => ?_
      refine Wc.seq fun _ hK_91 => ?_
      refine Wc.region ?_
      refine Wl.y (y_assign rfl) rfl ?_
      refine Wl.nil ?_
      refine Wq.next hK_91 ?_
      refine Wc.block ?_
      refine Wc.loop (X := Nat) (fun i => [(7, .bool true), (8, .slice (some ⟨g_b0, 0, none⟩) 36 36), (9, str x), (10, str y), (12, .slice (some p2) 2 c2), (15, .slice (some p1) l1.length c1), (18, str (bestF s i)), (19, .int .i64 (i : Int))]) (fun i wr => i ≤ 36 ∧ Below w.heap.size w wr ∧ Rd wr 1 (some ⟨g_b0, 0, none⟩) 36 (strs signsV) ∧ Rd wr 3 (some p2) 2 ([(⟨5, x, 0 + g.length⟩ : Tok), ⟨5, y, 0 + g.length + x.length + g.length⟩].flatMap Tok.cells) ∧ Rd wr 3 (some p1) l1.length (l1.flatMap Tok.cells)) (fun i => 36 - i) (0) ?_ ?_ ?_
      · exact Sub.cons' rfl (by first | rfl | exact int_eq (by omega) | exact str_eq (by rw [bestF, if_pos hbt]) | exact str_eq (by rw [bestF, if_neg (by rw [hbt]; simp)])) (Sub.cons' rfl (by first | rfl | exact int_eq (by omega) | exact str_eq (by rw [bestF, if_pos hbt]) | exact str_eq (by rw [bestF, if_neg (by rw [hbt]; simp)])) (Sub.cons' rfl (by first | rfl | exact int_eq (by omega) | exact str_eq (by rw [bestF, if_pos hbt]) | exact str_eq (by rw [bestF, if_neg (by rw [hbt]; simp)])) (Sub.cons' rfl (by first | rfl | exact int_eq (by omega) | exact str_eq (by rw [bestF, if_pos hbt]) | exact str_eq (by rw [bestF, if_neg (by rw [hbt]; simp)])) (Sub.cons' rfl (by first | rfl | exact int_eq (by omega) | exact str_eq (by rw [bestF, if_pos hbt]) | exact str_eq (by rw [bestF, if_neg (by rw [hbt]; simp)])) (Sub.cons' rfl (by first | rfl | exact int_eq (by omega) | exact str_eq (by rw [bestF, if_pos hbt]) | exact str_eq (by rw [bestF, if_neg (by rw [hbt]; simp)])) (Sub.cons' rfl (by first | rfl | exact int_eq (by omega) | exact str_eq (by rw [bestF, if_pos hbt]) | exact str_eq (by rw [bestF, if_neg (by rw [hbt]; simp)])) (Sub.cons' rfl (by first | rfl | exact int_eq (by omega) | exact str_eq (by rw [bestF, if_pos hbt]) | exact str_eq (by rw [bestF, if_neg (by rw [hbt]; simp)])) (Sub.nil))))))))
      · exact ⟨by omega, hb, hR, hR2, hR1⟩
      ·
       rintro i wr hI_94 _ hL_93
       replace hI_94 : i ≤ 36 ∧ Below w.heap.size w wr ∧ Rd wr 1 (some ⟨g_b0, 0, none⟩) 36 (strs signsV) ∧ Rd wr 3 (some p2) 2 ([(⟨5, x, 0 + g.length⟩ : Tok), ⟨5, y, 0 + g.length + x.length + g.length⟩].flatMap Tok.cells) ∧ Rd wr 3 (some p1) l1.length (l1.flatMap Tok.cells) := hI_94
       obtain ⟨hi, hb, hR, hR2, hR1⟩ := hI_94
       show Wc _ _ _ _ _ [(7, .bool true), (8, .slice (some ⟨g_b0, 0, none⟩) 36 36), (9, str x), (10, str y), (12, .slice (some p2) 2 c2), (15, .slice (some p1) l1.length c1), (18, str (bestF s i)), (19, .int .i64 (i : Int))] _
       have hX := hX_hb.below hb
       try have hzhb_L0 := hb.size
       refine Wc.seq fun _ hK_95 => ?_
       refine Wc.seq fun _ hK_96 => ?_
       refine Wc.region ?_
       refine Wl.y (y_move rfl) rfl ?_
       refine Wl.y (y_move rfl) rfl ?_
       refine Wl.y (y_lenl Tryz.underlying53 (by omega) rfl) rfl ?_
       refine Wl.y (y_lssi rfl rfl) rfl ?_
       refine Wl.nil ?_
       refine Wq.next hK_96 ?_
       refine Wc.cond rfl (fun c1_101 => ?_) (fun c1_101 => ?_)
       ·
        have c1_101_ := c1_101
        try simp only [decide_eq_true_eq, decide_eq_false_iff_not, beq_iff_eq, beq_eq_false_iff_ne, bne_iff_ne, bne_eq_false_iff_eq, Bool.not_eq_true', Bool.not_eq_false', Bool.not_eq_eq_eq_not, Bool.not_true, Bool.not_false, ne_eq, Int.not_lt, Int.not_le] at c1_101
        have hi36 : i < 36 := by have := c1_101; omega
        refine Wc.skip ?_
        refine Wq.next hK_95 ?_
        refine Wc.seq fun _ hK_102 => ?_
        refine Wc.block ?_
        refine Wc.seq fun _ hK_103 => ?_
        refine Wc.region ?_
        refine Wl.y (y_move rfl) rfl ?_
        refine Wl.y (y_move rfl) rfl ?_
        refine Wl.y (y_eq (y_adds rfl rfl (by first | omega | (simp; done) | (simp; omega))) (str_eq (show _ = s by rw [hs]))) rfl ?_
        refine Wl.y (y_assign rfl) rfl ?_
        refine Wl.nil ?_
        refine Wq.next hK_103 ?_
        refine Wc.seq fun _ hK_108 => ?_
        obtain ⟨p_, v_, hpe, hve, hcz⟩ := hR.one (i := i) hi36
        cases hpe
        obtain rfl := strs_val (l := signsV) hi36 hve
        have hzl := signs_len _ (getD_mem (l := signsV) hi36)
        have hbsl := bestF_len s i
        have hb2 := Below.refl wr.heap.size wr
        have hR_hb2 := hR
        have hR2_hb2 := hR2
        have hR1_hb2 := hR1
        refine Wc.meet (X := Bool) (fun q => [(7, .bool true), (8, .slice (some ⟨g_b0, 0, none⟩) 36 36), (9, str x), (10, str y), (12, .slice (some p2) 2 c2), (15, .slice (some p1) l1.length c1), (18, str (bestF s i)), (19, .int .i64 (i : Int)), (122, .bool q)]) (fun q wr => q = beats s (signsV.getD i []) (bestF s i) ∧ Below w.heap.size w wr ∧ Rd wr 1 (some ⟨g_b0, 0, none⟩) 36 (strs signsV) ∧ Rd wr 3 (some p2) 2 ([(⟨5, x, 0 + g.length⟩ : Tok), ⟨5, y, 0 + g.length + x.length + g.length⟩].flatMap Tok.cells) ∧ Rd wr 3 (some p1) l1.length (l1.flatMap Tok.cells)) (fun _ hM_109 => ?_) ?_
        ·
         refine Wc.any (n := 32) (fun w' => Below wr.heap.size wr w') #[false, false, false, false, false, false, false, false, false, false, false, false, false, false, false, false, false, false, false, false, false, false, false, false, false, false, false, false, false, false, false, false] (by kernel_rfl) rfl (by kernel_rfl) ?_
         refine Wa.drew ?_
         rintro w_g14 hs_g14
         have hz_g14 := hs_g14.size
         have hb := hb.trans (hs_g14.mono hb.size)
         have hX := hX_hb.below hb
         have hb2 := hb2.trans (hs_g14.mono hb2.size)
         have hR := hR_hb2.below hb2
         have hR2 := hR2_hb2.below hb2
         have hR1 := hR1_hb2.below hb2
         refine Wa.take (i := 0) #[true, false, false, false, false, false, false, false, false, false, false, false, false, false, false, false, false, false, false, false, false, false, false, false, false, false, false, false, false, false, false, false] rfl (by kernel_rfl) (fun _ _ _ h => h) rfl (fun wq hq => Yl.ld (y_move rfl)) hb2 ?_
         refine Wa.take (i := 1) #[true, true, false, false, false, false, false, false, false, false, false, false, false, false, false, false, false, false, false, false, false, false, false, false, false, false, false, false, false, false, false, false] rfl (by kernel_rfl) (fun _ _ _ h => h) rfl (fun wq hq => Yl.ld (y_move rfl)) hb2 ?_
         refine Wa.take (i := 2) #[true, true, true, false, false, false, false, false, false, false, false, false, false, false, false, false, false, false, false, false, false, false, false, false, false, false, false, false, false, false, false, false] rfl (by kernel_rfl) (fun _ _ _ h => h) rfl (fun wq hq => Yl.ld (y_indexAddr Tryz.underlying53 sz9LawS rfl rfl (by omega) (by omega))) hb2 ?_
         refine Wa.take (i := 3) #[true, true, true, true, false, false, false, false, false, false, false, false, false, false, false, false, false, false, false, false, false, false, false, false, false, false, false, false, false, false, false, false] rfl (by kernel_rfl) (fun _ _ _ h => h) rfl (fun wq hq => l_load one9LawS rfl (by have hR := hR_hb2.below hq; have hR2 := hR2_hb2.below hq; have hR1 := hR1_hb2.below hq; exact at1 (cell_below hq hcz))) hb2 ?_
         refine Wa.take (i := 4) #[true, true, true, true, true, false, false, false, false, false, false, false, false, false, false, false, false, false, false, false, false, false, false, false, false, false, false, false, false, false, false, false] rfl (by kernel_rfl) (fun _ _ _ h => h) rfl (fun wq hq => Yl.ld (y_lens Tryz.underlying9 (by omega) rfl)) hb2 ?_
         refine Wa.take (i := 5) #[true, true, true, true, true, true, false, false, false, false, false, false, false, false, false, false, false, false, false, false, false, false, false, false, false, false, false, false, false, false, false, false] rfl (by kernel_rfl) (fun _ _ _ h => h) rfl (fun wq hq => Yl.ld (y_move rfl)) hb2 ?_
         refine Wa.take (i := 6) #[true, true, true, true, true, true, true, false, false, false, false, false, false, false, false, false, false, false, false, false, false, false, false, false, false, false, false, false, false, false, false, false] rfl (by kernel_rfl) (fun _ _ _ h => h) rfl (fun wq hq => Yl.ld (y_lens Tryz.underlying9 (by omega) rfl)) hb2 ?_
         refine Wa.take (i := 7) #[true, true, true, true, true, true, true, true, false, false, false, false, false, false, false, false, false, false, false, false, false, false, false, false, false, false, false, false, false, false, false, false] rfl (by kernel_rfl) (fun _ _ _ h => h) rfl (fun wq hq => Yl.ld (y_leqi rfl rfl)) hb2 ?_
         refine Wa.take (i := 8) #[true, true, true, true, true, true, true, true, true, false, false, false, false, false, false, false, false, false, false, false, false, false, false, false, false, false, false, false, false, false, false, false] rfl (by kernel_rfl) (fun _ _ _ h => h) rfl (fun wq hq => Yl.ld (y_move rfl)) hb2 ?_
         refine Wa.split (s := 99) rfl (fun g_119 => ?_) (fun g_119 => ?_)
         ·
          have g_119_ := g_119
          try simp only [decide_eq_true_eq, decide_eq_false_iff_not, beq_iff_eq, beq_eq_false_iff_ne, bne_iff_ne, bne_eq_false_iff_eq, Bool.not_eq_true', Bool.not_eq_false', Bool.not_eq_eq_eq_not, Bool.not_true, Bool.not_false, ne_eq, Int.not_lt, Int.not_le] at g_119
          have hA : (signsV.getD i []).length ≤ s.length := by have := g_119; omega
          refine Wa.takeOn (i := 9) #[true, true, true, true, true, true, true, true, true, true, false, false, false, false, false, false, false, false, false, false, false, false, false, false, false, false, false, false, false, false, false, false] rfl rfl rfl g_119_ (by kernel_rfl) (fun _ _ _ h => h) rfl (fun wq hq => Yl.ld (y_move rfl)) hb2 ?_
          refine Wa.takeOn (i := 10) #[true, true, true, true, true, true, true, true, true, true, true, false, false, false, false, false, false, false, false, false, false, false, false, false, false, false, false, false, false, false, false, false] rfl rfl rfl g_119_ (by kernel_rfl) (fun _ _ _ h => h) rfl (fun wq hq => Yl.ld (y_move rfl)) hb2 ?_
          refine Wa.takeOn (i := 11) #[true, true, true, true, true, true, true, true, true, true, true, true, false, false, false, false, false, false, false, false, false, false, false, false, false, false, false, false, false, false, false, false] rfl rfl rfl g_119_ (by kernel_rfl) (fun _ _ _ h => h) rfl (fun wq hq => Yl.ld (y_move rfl)) hb2 ?_
          refine Wa.takeOn (i := 12) #[true, true, true, true, true, true, true, true, true, true, true, true, true, false, false, false, false, false, false, false, false, false, false, false, false, false, false, false, false, false, false, false] rfl rfl rfl g_119_ (by kernel_rfl) (fun _ _ _ h => h) rfl (fun wq hq => Yl.ld (y_indexAddr Tryz.underlying53 sz9LawS rfl rfl (by omega) (by omega))) hb2 ?_
          refine Wa.takeOn (i := 13) #[true, true, true, true, true, true, true, true, true, true, true, true, true, true, false, false, false, false, false, false, false, false, false, false, false, false, false, false, false, false, false, false] rfl rfl rfl g_119_ (by kernel_rfl) (fun _ _ _ h => h) rfl (fun wq hq => l_load one9LawS rfl (by have hR := hR_hb2.below hq; have hR2 := hR2_hb2.below hq; have hR1 := hR1_hb2.below hq; exact at1 (cell_below hq hcz))) hb2 ?_
          refine Wa.takeOn (i := 14) #[true, true, true, true, true, true, true, true, true, true, true, true, true, true, true, false, false, false, false, false, false, false, false, false, false, false, false, false, false, false, false, false] rfl rfl rfl g_119_ (by kernel_rfl) (fun _ _ _ h => h) rfl (fun wq hq => Yl.ld (y_lens Tryz.underlying9 (by omega) rfl)) hb2 ?_
          refine Wa.takeOn (i := 15) #[true, true, true, true, true, true, true, true, true, true, true, true, true, true, true, true, false, false, false, false, false, false, false, false, false, false, false, false, false, false, false, false] rfl rfl rfl g_119_ (by kernel_rfl) (fun _ _ _ h => h) rfl (fun wq hq => Yl.ld (y_eq (y_slicesH Tryz.underlying9 rfl rfl (by omega) (by omega)) (str_eq (show _ = s.take (signsV.getD i []).length by rw [Int.toNat_natCast])))) hb2 ?_
          refine Wa.takeOn (i := 16) #[true, true, true, true, true, true, true, true, true, true, true, true, true, true, true, true, true, false, false, false, false, false, false, false, false, false, false, false, false, false, false, false] rfl rfl rfl g_119_ (by kernel_rfl) (fun _ _ _ h => h) rfl (fun wq hq => Yl.ld (y_move rfl)) hb2 ?_
          refine Wa.takeOn (i := 17) #[true, true, true, true, true, true, true, true, true, true, true, true, true, true, true, true, true, true, false, false, false, false, false, false, false, false, false, false, false, false, false, false] rfl rfl rfl g_119_ (by kernel_rfl) (fun _ _ _ h => h) rfl (fun wq hq => Yl.ld (y_move rfl)) hb2 ?_
          refine Wa.takeOn (i := 18) #[true, true, true, true, true, true, true, true, true, true, true, true, true, true, true, true, true, true, true, false, false, false, false, false, false, false, false, false, false, false, false, false] rfl rfl rfl g_119_ (by kernel_rfl) (fun _ _ _ h => h) rfl (fun wq hq => Yl.ld (y_indexAddr Tryz.underlying53 sz9LawS rfl rfl (by omega) (by omega))) hb2 ?_
          refine Wa.takeOn (i := 19) #[true, true, true, true, true, true, true, true, true, true, true, true, true, true, true, true, true, true, true, true, false, false, false, false, false, false, false, false, false, false, false, false] rfl rfl rfl g_119_ (by kernel_rfl) (fun _ _ _ h => h) rfl (fun wq hq => l_load one9LawS rfl (by have hR := hR_hb2.below hq; have hR2 := hR2_hb2.below hq; have hR1 := hR1_hb2.below hq; exact at1 (cell_below hq hcz))) hb2 ?_
          refine Wa.takeOn (i := 20) #[true, true, true, true, true, true, true, true, true, true, true, true, true, true, true, true, true, true, true, true, true, false, false, false, false, false, false, false, false, false, false, false] rfl rfl rfl g_119_ (by kernel_rfl) (fun _ _ _ h => h) rfl (fun wq hq => Yl.ld (y_eqls rfl rfl)) hb2 ?_
          refine Wa.take (i := 21) #[true, true, true, true, true, true, true, true, true, true, true, true, true, true, true, true, true, true, true, true, true, true, false, false, false, false, false, false, false, false, false, false] rfl (by kernel_rfl) (fun _ _ _ h => h) rfl (fun wq hq => Yl.ld (y_pickT rfl g_119_ rfl)) hb2 ?_
          refine Wa.take (i := 22) #[true, true, true, true, true, true, true, true, true, true, true, true, true, true, true, true, true, true, true, true, true, true, true, false, false, false, false, false, false, false, false, false] rfl (by kernel_rfl) (fun _ _ _ h => h) rfl (fun wq hq => Yl.ld (y_move rfl)) hb2 ?_
          refine Wa.split (s := 113) rfl (fun g_134 => ?_) (fun g_134 => ?_)
          ·
           have g_134_ := g_134
           try simp only [decide_eq_true_eq, decide_eq_false_iff_not, beq_iff_eq, beq_eq_false_iff_ne, bne_iff_ne, bne_eq_false_iff_eq, Bool.not_eq_true', Bool.not_eq_false', Bool.not_eq_eq_eq_not, Bool.not_true, Bool.not_false, ne_eq, Int.not_lt, Int.not_le] at g_134
           have hC : s.take (signsV.getD i []).length = signsV.getD i [] := by have h := g_134_; simpa using h
           refine Wa.takeOn (i := 23) #[true, true, true, true, true, true, true, true, true, true, true, true, true, true, true, true, true, true, true, true, true, true, true, true, false, false, false, false, false, false, false, false] rfl rfl rfl g_134_ (by kernel_rfl) (fun _ _ _ h => h) rfl (fun wq hq => Yl.ld (y_move rfl)) hb2 ?_
           refine Wa.takeOn (i := 24) #[true, true, true, true, true, true, true, true, true, true, true, true, true, true, true, true, true, true, true, true, true, true, true, true, true, false, false, false, false, false, false, false] rfl rfl rfl g_134_ (by kernel_rfl) (fun _ _ _ h => h) rfl (fun wq hq => Yl.ld (y_move rfl)) hb2 ?_
           refine Wa.takeOn (i := 25) #[true, true, true, true, true, true, true, true, true, true, true, true, true, true, true, true, true, true, true, true, true, true, true, true, true, true, false, false, false, false, false, false] rfl rfl rfl g_134_ (by kernel_rfl) (fun _ _ _ h => h) rfl (fun wq hq => Yl.ld (y_indexAddr Tryz.underlying53 sz9LawS rfl rfl (by omega) (by omega))) hb2 ?_
           refine Wa.takeOn (i := 26) #[true, true, true, true, true, true, true, true, true, true, true, true, true, true, true, true, true, true, true, true, true, true, true, true, true, true, true, false, false, false, false, false] rfl rfl rfl g_134_ (by kernel_rfl) (fun _ _ _ h => h) rfl (fun wq hq => l_load one9LawS rfl (by have hR := hR_hb2.below hq; have hR2 := hR2_hb2.below hq; have hR1 := hR1_hb2.below hq; exact at1 (cell_below hq hcz))) hb2 ?_
           refine Wa.takeOn (i := 27) #[true, true, true, true, true, true, true, true, true, true, true, true, true, true, true, true, true, true, true, true, true, true, true, true, true, true, true, true, false, false, false, false] rfl rfl rfl g_134_ (by kernel_rfl) (fun _ _ _ h => h) rfl (fun wq hq => Yl.ld (y_lens Tryz.underlying9 (by omega) rfl)) hb2 ?_
           refine Wa.takeOn (i := 28) #[true, true, true, true, true, true, true, true, true, true, true, true, true, true, true, true, true, true, true, true, true, true, true, true, true, true, true, true, true, false, false, false] rfl rfl rfl g_134_ (by kernel_rfl) (fun _ _ _ h => h) rfl (fun wq hq => Yl.ld (y_move rfl)) hb2 ?_
           refine Wa.takeOn (i := 29) #[true, true, true, true, true, true, true, true, true, true, true, true, true, true, true, true, true, true, true, true, true, true, true, true, true, true, true, true, true, true, false, false] rfl rfl rfl g_134_ (by kernel_rfl) (fun _ _ _ h => h) rfl (fun wq hq => Yl.ld (y_lens Tryz.underlying9 (by omega) rfl)) hb2 ?_
           refine Wa.takeOn (i := 30) #[true, true, true, true, true, true, true, true, true, true, true, true, true, true, true, true, true, true, true, true, true, true, true, true, true, true, true, true, true, true, true, false] rfl rfl rfl g_134_ (by kernel_rfl) (fun _ _ _ h => h) rfl (fun wq hq => Yl.ld (y_gtri rfl rfl)) hb2 ?_
           refine Wa.take (i := 31) #[true, true, true, true, true, true, true, true, true, true, true, true, true, true, true, true, true, true, true, true, true, true, true, true, true, true, true, true, true, true, true, true] rfl (by kernel_rfl) (fun _ _ _ h => h) rfl (fun wq hq => Yl.ld (y_pickT rfl g_134_ rfl)) hb2 ?_
           refine Wa.done (by kernel_rfl) ?_
           refine Wq.meet hM_109 (beats s (signsV.getD i []) (bestF s i)) (Sub.cons' rfl (by first | rfl | exact bool_eq (by unfold beats; rw [eq_comm, decide_eq_false_iff_not]; exact fun h => hA h.1) | exact bool_eq (by unfold beats; rw [eq_comm, decide_eq_false_iff_not]; exact fun h => hC h.2.1) | exact bool_eq (by unfold beats; rw [decide_eq_decide]; exact ⟨fun h => ⟨hA, hC, by omega⟩, fun h => by have := h.2.2; omega⟩)) (Sub.cons' rfl (by first | rfl | exact bool_eq (by unfold beats; rw [eq_comm, decide_eq_false_iff_not]; exact fun h => hA h.1) | exact bool_eq (by unfold beats; rw [eq_comm, decide_eq_false_iff_not]; exact fun h => hC h.2.1) | exact bool_eq (by unfold beats; rw [decide_eq_decide]; exact ⟨fun h => ⟨hA, hC, by omega⟩, fun h => by have := h.2.2; omega⟩)) (Sub.cons' rfl (by first | rfl | exact bool_eq (by unfold beats; rw [eq_comm, decide_eq_false_iff_not]; exact fun h => hA h.1) | exact bool_eq (by unfold beats; rw [eq_comm, decide_eq_false_iff_not]; exact fun h => hC h.2.1) | exact bool_eq (by unfold beats; rw [decide_eq_decide]; exact ⟨fun h => ⟨hA, hC, by omega⟩, fun h => by have := h.2.2; omega⟩)) (Sub.cons' rfl (by first | rfl | exact bool_eq (by unfold beats; rw [eq_comm, decide_eq_false_iff_not]; exact fun h => hA h.1) | exact bool_eq (by unfold beats; rw [eq_comm, decide_eq_false_iff_not]; exact fun h => hC h.2.1) | exact bool_eq (by unfold beats; rw [decide_eq_decide]; exact ⟨fun h => ⟨hA, hC, by omega⟩, fun h => by have := h.2.2; omega⟩)) (Sub.cons' rfl (by first | rfl | exact bool_eq (by unfold beats; rw [eq_comm, decide_eq_false_iff_not]; exact fun h => hA h.1) | exact bool_eq (by unfold beats; rw [eq_comm, decide_eq_false_iff_not]; exact fun h => hC h.2.1) | exact bool_eq (by unfold beats; rw [decide_eq_decide]; exact ⟨fun h => ⟨hA, hC, by omega⟩, fun h => by have := h.2.2; omega⟩)) (Sub.cons' rfl (by first | rfl | exact bool_eq (by unfold beats; rw [eq_comm, decide_eq_false_iff_not]; exact fun h => hA h.1) | exact bool_eq (by unfold beats; rw [eq_comm, decide_eq_false_iff_not]; exact fun h => hC h.2.1) | exact bool_eq (by unfold beats; rw [decide_eq_decide]; exact ⟨fun h => ⟨hA, hC, by omega⟩, fun h => by have := h.2.2; omega⟩)) (Sub.cons' rfl (by first | rfl | exact bool_eq (by unfold beats; rw [eq_comm, decide_eq_false_iff_not]; exact fun h => hA h.1) | exact bool_eq (by unfold beats; rw [eq_comm, decide_eq_false_iff_not]; exact fun h => hC h.2.1) | exact bool_eq (by unfold beats; rw [decide_eq_decide]; exact ⟨fun h => ⟨hA, hC, by omega⟩, fun h => by have := h.2.2; omega⟩)) (Sub.cons' rfl (by first | rfl | exact bool_eq (by unfold beats; rw [eq_comm, decide_eq_false_iff_not]; exact fun h => hA h.1) | exact bool_eq (by unfold beats; rw [eq_comm, decide_eq_false_iff_not]; exact fun h => hC h.2.1) | exact bool_eq (by unfold beats; rw [decide_eq_decide]; exact ⟨fun h => ⟨hA, hC, by omega⟩, fun h => by have := h.2.2; omega⟩)) (Sub.cons' rfl (by first | rfl | exact bool_eq (by unfold beats; rw [eq_comm, decide_eq_false_iff_not]; exact fun h => hA h.1) | exact bool_eq (by unfold beats; rw [eq_comm, decide_eq_false_iff_not]; exact fun h => hC h.2.1) | exact bool_eq (by unfold beats; rw [decide_eq_decide]; exact ⟨fun h => ⟨hA, hC, by omega⟩, fun h => by have := h.2.2; omega⟩)) (Sub.nil)))))))))) ?_
           exact ⟨rfl, hb, hR, hR2, hR1⟩
          ·
           have g_134_ := g_134
           try simp only [decide_eq_true_eq, decide_eq_false_iff_not, beq_iff_eq, beq_eq_false_iff_ne, bne_iff_ne, bne_eq_false_iff_eq, Bool.not_eq_true', Bool.not_eq_false', Bool.not_eq_eq_eq_not, Bool.not_true, Bool.not_false, ne_eq, Int.not_lt, Int.not_le] at g_134
           have hC : ¬ s.take (signsV.getD i []).length = signsV.getD i [] := by have h := g_134_; simpa using h
           refine Wa.takeOff (i := 23) #[true, true, true, true, true, true, true, true, true, true, true, true, true, true, true, true, true, true, true, true, true, true, true, true, false, false, false, false, false, false, false, false] rfl rfl rfl g_134_ (by kernel_rfl) (fun _ _ _ h => h) rfl hb2 ?_
           refine Wa.takeOff (i := 24) #[true, true, true, true, true, true, true, true, true, true, true, true, true, true, true, true, true, true, true, true, true, true, true, true, true, false, false, false, false, false, false, false] rfl rfl rfl g_134_ (by kernel_rfl) (fun _ _ _ h => h) rfl hb2 ?_
           refine Wa.takeOff (i := 25) #[true, true, true, true, true, true, true, true, true, true, true, true, true, true, true, true, true, true, true, true, true, true, true, true, true, true, false, false, false, false, false, false] rfl rfl rfl g_134_ (by kernel_rfl) (fun _ _ _ h => h) rfl hb2 ?_
           refine Wa.takeOff (i := 26) #[true, true, true, true, true, true, true, true, true, true, true, true, true, true, true, true, true, true, true, true, true, true, true, true, true, true, true, false, false, false, false, false] rfl rfl rfl g_134_ (by kernel_rfl) (fun _ _ _ h => h) rfl hb2 ?_
           refine Wa.takeOff (i := 27) #[true, true, true, true, true, true, true, true, true, true, true, true, true, true, true, true, true, true, true, true, true, true, true, true, true, true, true, true, false, false, false, false] rfl rfl rfl g_134_ (by kernel_rfl) (fun _ _ _ h => h) rfl hb2 ?_
           refine Wa.takeOff (i := 28) #[true, true, true, true, true, true, true, true, true, true, true, true, true, true, true, true, true, true, true, true, true, true, true, true, true, true, true, true, true, false, false, false] rfl rfl rfl g_134_ (by kernel_rfl) (fun _ _ _ h => h) rfl hb2 ?_
           refine Wa.takeOff (i := 29) #[true, true, true, true, true, true, true, true, true, true, true, true, true, true, true, true, true, true, true, true, true, true, true, true, true, true, true, true, true, true, false, false] rfl rfl rfl g_134_ (by kernel_rfl) (fun _ _ _ h => h) rfl hb2 ?_
           refine Wa.takeOff (i := 30) #[true, true, true, true, true, true, true, true, true, true, true, true, true, true, true, true, true, true, true, true, true, true, true, true, true, true, true, true, true, true, true, false] rfl rfl rfl g_134_ (by kernel_rfl) (fun _ _ _ h => h) rfl hb2 ?_
           refine Wa.take (i := 31) #[true, true, true, true, true, true, true, true, true, true, true, true, true, true, true, true, true, true, true, true, true, true, true, true, true, true, true, true, true, true, true, true] rfl (by kernel_rfl) (fun _ _ _ h => h) rfl (fun wq hq => Yl.ld (y_pickF rfl g_134_ rfl)) hb2 ?_
           refine Wa.done (by kernel_rfl) ?_
           refine Wq.meet hM_109 (beats s (signsV.getD i []) (bestF s i)) (Sub.cons' rfl (by first | rfl | exact bool_eq (by unfold beats; rw [eq_comm, decide_eq_false_iff_not]; exact fun h => hA h.1) | exact bool_eq (by unfold beats; rw [eq_comm, decide_eq_false_iff_not]; exact fun h => hC h.2.1) | exact bool_eq (by unfold beats; rw [decide_eq_decide]; exact ⟨fun h => ⟨hA, hC, by omega⟩, fun h => by have := h.2.2; omega⟩)) (Sub.cons' rfl (by first | rfl | exact bool_eq (by unfold beats; rw [eq_comm, decide_eq_false_iff_not]; exact fun h => hA h.1) | exact bool_eq (by unfold beats; rw [eq_comm, decide_eq_false_iff_not]; exact fun h => hC h.2.1) | exact bool_eq (by unfold beats; rw [decide_eq_decide]; exact ⟨fun h => ⟨hA, hC, by omega⟩, fun h => by have := h.2.2; omega⟩)) (Sub.cons' rfl (by first | rfl | exact bool_eq (by unfold beats; rw [eq_comm, decide_eq_false_iff_not]; exact fun h => hA h.1) | exact bool_eq (by unfold beats; rw [eq_comm, decide_eq_false_iff_not]; exact fun h => hC h.2.1) | exact bool_eq (by unfold beats; rw [decide_eq_decide]; exact ⟨fun h => ⟨hA, hC, by omega⟩, fun h => by have := h.2.2; omega⟩)) (Sub.cons' rfl (by first | rfl | exact bool_eq (by unfold beats; rw [eq_comm, decide_eq_false_iff_not]; exact fun h => hA h.1) | exact bool_eq (by unfold beats; rw [eq_comm, decide_eq_false_iff_not]; exact fun h => hC h.2.1) | exact bool_eq (by unfold beats; rw [decide_eq_decide]; exact ⟨fun h => ⟨hA, hC, by omega⟩, fun h => by have := h.2.2; omega⟩)) (Sub.cons' rfl (by first | rfl | exact bool_eq (by unfold beats; rw [eq_comm, decide_eq_false_iff_not]; exact fun h => hA h.1) | exact bool_eq (by unfold beats; rw [eq_comm, decide_eq_false_iff_not]; exact fun h => hC h.2.1) | exact bool_eq (by unfold beats; rw [decide_eq_decide]; exact ⟨fun h => ⟨hA, hC, by omega⟩, fun h => by have := h.2.2; omega⟩)) (Sub.cons' rfl (by first | rfl | exact bool_eq (by unfold beats; rw [eq_comm, decide_eq_false_iff_not]; exact fun h => hA h.1) | exact bool_eq (by unfold beats; rw [eq_comm, decide_eq_false_iff_not]; exact fun h => hC h.2.1) | exact bool_eq (by unfold beats; rw [decide_eq_decide]; exact ⟨fun h => ⟨hA, hC, by omega⟩, fun h => by have := h.2.2; omega⟩)) (Sub.cons' rfl (by first | rfl | exact bool_eq (by unfold beats; rw [eq_comm, decide_eq_false_iff_not]; exact fun h => hA h.1) | exact bool_eq (by unfold beats; rw [eq_comm, decide_eq_false_iff_not]; exact fun h => hC h.2.1) | exact bool_eq (by unfold beats; rw [decide_eq_decide]; exact ⟨fun h => ⟨hA, hC, by omega⟩, fun h => by have := h.2.2; omega⟩)) (Sub.cons' rfl (by first | rfl | exact bool_eq (by unfold beats; rw [eq_comm, decide_eq_false_iff_not]; exact fun h => hA h.1) | exact bool_eq (by unfold beats; rw [eq_comm, decide_eq_false_iff_not]; exact fun h => hC h.2.1) | exact bool_eq (by unfold beats; rw [decide_eq_decide]; exact ⟨fun h => ⟨hA, hC, by omega⟩, fun h => by have := h.2.2; omega⟩)) (Sub.cons' rfl (by first | rfl | exact bool_eq (by unfold beats; rw [eq_comm, decide_eq_false_iff_not]; exact fun h => hA h.1) | exact bool_eq (by unfold beats; rw [eq_comm, decide_eq_false_iff_not]; exact fun h => hC h.2.1) | exact bool_eq (by unfold beats; rw [decide_eq_decide]; exact ⟨fun h => ⟨hA, hC, by omega⟩, fun h => by have := h.2.2; omega⟩)) (Sub.nil)))))))))) ?_
           exact ⟨rfl, hb, hR, hR2, hR1⟩
         ·
          have g_119_ := g_119
          try simp only [decide_eq_true_eq, decide_eq_false_iff_not, beq_iff_eq, beq_eq_false_iff_ne, bne_iff_ne, bne_eq_false_iff_eq, Bool.not_eq_true', Bool.not_eq_false', Bool.not_eq_eq_eq_not, Bool.not_true, Bool.not_false, ne_eq, Int.not_lt, Int.not_le] at g_119
          have hA : ¬ (signsV.getD i []).length ≤ s.length := by have := g_119; omega
          refine Wa.takeOff (i := 9) #[true, true, true, true, true, true, true, true, true, true, false, false, false, false, false, false, false, false, false, false, false, false, false, false, false, false, false, false, false, false, false, false] rfl rfl rfl g_119_ (by kernel_rfl) (fun _ _ _ h => h) rfl hb2 ?_
          refine Wa.takeOff (i := 10) #[true, true, true, true, true, true, true, true, true, true, true, false, false, false, false, false, false, false, false, false, false, false, false, false, false, false, false, false, false, false, false, false] rfl rfl rfl g_119_ (by kernel_rfl) (fun _ _ _ h => h) rfl hb2 ?_
          refine Wa.takeOff (i := 11) #[true, true, true, true, true, true, true, true, true, true, true, true, false, false, false, false, false, false, false, false, false, false, false, false, false, false, false, false, false, false, false, false] rfl rfl rfl g_119_ (by kernel_rfl) (fun _ _ _ h => h) rfl hb2 ?_
          refine Wa.takeOff (i := 12) #[true, true, true, true, true, true, true, true, true, true, true, true, true, false, false, false, false, false, false, false, false, false, false, false, false, false, false, false, false, false, false, false] rfl rfl rfl g_119_ (by kernel_rfl) (fun _ _ _ h => h) rfl hb2 ?_
          refine Wa.takeOff (i := 13) #[true, true, true, true, true, true, true, true, true, true, true, true, true, true, false, false, false, false, false, false, false, false, false, false, false, false, false, false, false, false, false, false] rfl rfl rfl g_119_ (by kernel_rfl) (fun _ _ _ h => h) rfl hb2 ?_
          refine Wa.takeOff (i := 14) #[true, true, true, true, true, true, true, true, true, true, true, true, true, true, true, false, false, false, false, false, false, false, false, false, false, false, false, false, false, false, false, false] rfl rfl rfl g_119_ (by kernel_rfl) (fun _ _ _ h => h) rfl hb2 ?_
          refine Wa.takeOff (i := 15) #[true, true, true, true, true, true, true, true, true, true, true, true, true, true, true, true, false, false, false, false, false, false, false, false, false, false, false, false, false, false, false, false] rfl rfl rfl g_119_ (by kernel_rfl) (fun _ _ _ h => h) rfl hb2 ?_
          refine Wa.takeOff (i := 16) #[true, true, true, true, true, true, true, true, true, true, true, true, true, true, true, true, true, false, false, false, false, false, false, false, false, false, false, false, false, false, false, false] rfl rfl rfl g_119_ (by kernel_rfl) (fun _ _ _ h => h) rfl hb2 ?_
          refine Wa.takeOff (i := 17) #[true, true, true, true, true, true, true, true, true, true, true, true, true, true, true, true, true, true, false, false, false, false, false, false, false, false, false, false, false, false, false, false] rfl rfl rfl g_119_ (by kernel_rfl) (fun _ _ _ h => h) rfl hb2 ?_
          refine Wa.takeOff (i := 18) #[true, true, true, true, true, true, true, true, true, true, true, true, true, true, true, true, true, true, true, false, false, false, false, false, false, false, false, false, false, false, false, false] rfl rfl rfl g_119_ (by kernel_rfl) (fun _ _ _ h => h) rfl hb2 ?_
          refine Wa.takeOff (i := 19) #[true, true, true, true, true, true, true, true, true, true, true, true, true, true, true, true, true, true, true, true, false, false, false, false, false, false, false, false, false, false, false, false] rfl rfl rfl g_119_ (by kernel_rfl) (fun _ _ _ h => h) rfl hb2 ?_
          refine Wa.takeOff (i := 20) #[true, true, true, true, true, true, true, true, true, true, true, true, true, true, true, true, true, true, true, true, true, false, false, false, false, false, false, false, false, false, false, false] rfl rfl rfl g_119_ (by kernel_rfl) (fun _ _ _ h => h) rfl hb2 ?_
          refine Wa.take (i := 21) #[true, true, true, true, true, true, true, true, true, true, true, true, true, true, true, true, true, true, true, true, true, true, false, false, false, false, false, false, false, false, false, false] rfl (by kernel_rfl) (fun _ _ _ h => h) rfl (fun wq hq => Yl.ld (y_pickF rfl g_119_ rfl)) hb2 ?_
          refine Wa.take (i := 22) #[true, true, true, true, true, true, true, true, true, true, true, true, true, true, true, true, true, true, true, true, true, true, true, false, false, false, false, false, false, false, false, false] rfl (by kernel_rfl) (fun _ _ _ h => h) rfl (fun wq hq => Yl.ld (y_move rfl)) hb2 ?_
          refine Wa.takeOff (i := 23) #[true, true, true, true, true, true, true, true, true, true, true, true, true, true, true, true, true, true, true, true, true, true, true, true, false, false, false, false, false, false, false, false] rfl rfl rfl rfl (by kernel_rfl) (fun _ _ _ h => h) rfl hb2 ?_
          refine Wa.takeOff (i := 24) #[true, true, true, true, true, true, true, true, true, true, true, true, true, true, true, true, true, true, true, true, true, true, true, true, true, false, false, false, false, false, false, false] rfl rfl rfl rfl (by kernel_rfl) (fun _ _ _ h => h) rfl hb2 ?_
          refine Wa.takeOff (i := 25) #[true, true, true, true, true, true, true, true, true, true, true, true, true, true, true, true, true, true, true, true, true, true, true, true, true, true, false, false, false, false, false, false] rfl rfl rfl rfl (by kernel_rfl) (fun _ _ _ h => h) rfl hb2 ?_
          refine Wa.takeOff (i := 26) #[true, true, true, true, true, true, true, true, true, true, true, true, true, true, true, true, true, true, true, true, true, true, true, true, true, true, true, false, false, false, false, false] rfl rfl rfl rfl (by kernel_rfl) (fun _ _ _ h => h) rfl hb2 ?_
          refine Wa.takeOff (i := 27) #[true, true, true, true, true, true, true, true, true, true, true, true, true, true, true, true, true, true, true, true, true, true, true, true, true, true, true, true, false, false, false, false] rfl rfl rfl rfl (by kernel_rfl) (fun _ _ _ h => h) rfl hb2 ?_
          refine Wa.takeOff (i := 28) #[true, true, true, true, true, true, true, true, true, true, true, true, true, true, true, true, true, true, true, true, true, true, true, true, true, true, true, true, true, false, false, false] rfl rfl rfl rfl (by kernel_rfl) (fun _ _ _ h => h) rfl hb2 ?_
          refine Wa.takeOff (i := 29) #[true, true, true, true, true, true, true, true, true, true, true, true, true, true, true, true, true, true, true, true, true, true, true, true, true, true, true, true, true, true, false, false] rfl rfl rfl rfl (by kernel_rfl) (fun _ _ _ h => h) rfl hb2 ?_
          refine Wa.takeOff (i := 30) #[true, true, true, true, true, true, true, true, true, true, true, true, true, true, true, true, true, true, true, true, true, true, true, true, true, true, true, true, true, true, true, false] rfl rfl rfl rfl (by kernel_rfl) (fun _ _ _ h => h) rfl hb2 ?_
          refine Wa.take (i := 31) #[true, true, true, true, true, true, true, true, true, true, true, true, true, true, true, true, true, true, true, true, true, true, true, true, true, true, true, true, true, true, true, true] rfl (by kernel_rfl) (fun _ _ _ h => h) rfl (fun wq hq => Yl.ld (y_pickF rfl rfl rfl)) hb2 ?_
          refine Wa.done (by kernel_rfl) ?_
          refine Wq.meet hM_109 (beats s (signsV.getD i []) (bestF s i)) (Sub.cons' rfl (by first | rfl | exact bool_eq (by unfold beats; rw [eq_comm, decide_eq_false_iff_not]; exact fun h => hA h.1) | exact bool_eq (by unfold beats; rw [eq_comm, decide_eq_false_iff_not]; exact fun h => hC h.2.1) | exact bool_eq (by unfold beats; rw [decide_eq_decide]; exact ⟨fun h => ⟨hA, hC, by omega⟩, fun h => by have := h.2.2; omega⟩)) (Sub.cons' rfl (by first | rfl | exact bool_eq (by unfold beats; rw [eq_comm, decide_eq_false_iff_not]; exact fun h => hA h.1) | exact bool_eq (by unfold beats; rw [eq_comm, decide_eq_false_iff_not]; exact fun h => hC h.2.1) | exact bool_eq (by unfold beats; rw [decide_eq_decide]; exact ⟨fun h => ⟨hA, hC, by omega⟩, fun h => by have := h.2.2; omega⟩)) (Sub.cons' rfl (by first | rfl | exact bool_eq (by unfold beats; rw [eq_comm, decide_eq_false_iff_not]; exact fun h => hA h.1) | exact bool_eq (by unfold beats; rw [eq_comm, decide_eq_false_iff_not]; exact fun h => hC h.2.1) | exact bool_eq (by unfold beats; rw [decide_eq_decide]; exact ⟨fun h => ⟨hA, hC, by omega⟩, fun h => by have := h.2.2; omega⟩)) (Sub.cons' rfl (by first | rfl | exact bool_eq (by unfold beats; rw [eq_comm, decide_eq_false_iff_not]; exact fun h => hA h.1) | exact bool_eq (by unfold beats; rw [eq_comm, decide_eq_false_iff_not]; exact fun h => hC h.2.1) | exact bool_eq (by unfold beats; rw [decide_eq_decide]; exact ⟨fun h => ⟨hA, hC, by omega⟩, fun h => by have := h.2.2; omega⟩)) (Sub.cons' rfl (by first | rfl | exact bool_eq (by unfold beats; rw [eq_comm, decide_eq_false_iff_not]; exact fun h => hA h.1) | exact bool_eq (by unfold beats; rw [eq_comm, decide_eq_false_iff_not]; exact fun h => hC h.2.1) | exact bool_eq (by unfold beats; rw [decide_eq_decide]; exact ⟨fun h => ⟨hA, hC, by omega⟩, fun h => by have := h.2.2; omega⟩)) (Sub.cons' rfl (by first | rfl | exact bool_eq (by unfold beats; rw [eq_comm, decide_eq_false_iff_not]; exact fun h => hA h.1) | exact bool_eq (by unfold beats; rw [eq_comm, decide_eq_false_iff_not]; exact fun h => hC h.2.1) | exact bool_eq (by unfold beats; rw [decide_eq_decide]; exact ⟨fun h => ⟨hA, hC, by omega⟩, fun h => by have := h.2.2; omega⟩)) (Sub.cons' rfl (by first | rfl | exact bool_eq (by unfold beats; rw [eq_comm, decide_eq_false_iff_not]; exact fun h => hA h.1) | exact bool_eq (by unfold beats; rw [eq_comm, decide_eq_false_iff_not]; exact fun h => hC h.2.1) | exact bool_eq (by unfold beats; rw [decide_eq_decide]; exact ⟨fun h => ⟨hA, hC, by omega⟩, fun h => by have := h.2.2; omega⟩)) (Sub.cons' rfl (by first | rfl | exact bool_eq (by unfold beats; rw [eq_comm, decide_eq_false_iff_not]; exact fun h => hA h.1) | exact bool_eq (by unfold beats; rw [eq_comm, decide_eq_false_iff_not]; exact fun h => hC h.2.1) | exact bool_eq (by unfold beats; rw [decide_eq_decide]; exact ⟨fun h => ⟨hA, hC, by omega⟩, fun h => by have := h.2.2; omega⟩)) (Sub.cons' rfl (by first | rfl | exact bool_eq (by unfold beats; rw [eq_comm, decide_eq_false_iff_not]; exact fun h => hA h.1) | exact bool_eq (by unfold beats; rw [eq_comm, decide_eq_false_iff_not]; exact fun h => hC h.2.1) | exact bool_eq (by unfold beats; rw [decide_eq_decide]; exact ⟨fun h => ⟨hA, hC, by omega⟩, fun h => by have := h.2.2; omega⟩)) (Sub.nil)))))))))) ?_
          exact ⟨rfl, hb, hR, hR2, hR1⟩
        ·
         rintro q wr hI_148
         replace hI_148 : q = beats s (signsV.getD i []) (bestF s i) ∧ Below w.heap.size w wr ∧ Rd wr 1 (some ⟨g_b0, 0, none⟩) 36 (strs signsV) ∧ Rd wr 3 (some p2) 2 ([(⟨5, x, 0 + g.length⟩ : Tok), ⟨5, y, 0 + g.length + x.length + g.length⟩].flatMap Tok.cells) ∧ Rd wr 3 (some p1) l1.length (l1.flatMap Tok.cells) := hI_148
         obtain ⟨hq, hb, hR, hR2, hR1⟩ := hI_148
         show Wq _ _ _ _ [(7, .bool true), (8, .slice (some ⟨g_b0, 0, none⟩) 36 36), (9, str x), (10, str y), (12, .slice (some p2) 2 c2), (15, .slice (some p1) l1.length c1), (18, str (bestF s i)), (19, .int .i64 (i : Int)), (122, .bool q)] _
         have hX := hX_hb.below hb
         try have hzhb_g14 := hb.size
         refine Wq.next hK_108 ?_
         refine Wc.cond rfl (fun c2_149 => ?_) (fun c2_149 => ?_)
         ·
          have c2_149_ := c2_149
          try simp only [decide_eq_true_eq, decide_eq_false_iff_not, beq_iff_eq, beq_eq_false_iff_ne, bne_iff_ne, bne_eq_false_iff_eq, Bool.not_eq_true', Bool.not_eq_false', Bool.not_eq_eq_eq_not, Bool.not_true, Bool.not_false, ne_eq, Int.not_lt, Int.not_le] at c2_149
          have hbt : beats s (signsV.getD i []) (bestF s i) = true := by rw [← hq]; exact c2_149_
          obtain ⟨p_, v_, hpe, hve, hcz2⟩ := hR.one (i := i) hi36
          cases hpe
          obtain rfl := strs_val (l := signsV) hi36 hve
          refine Wc.region ?_
          refine Wl.y (y_move rfl) rfl ?_
          refine Wl.y (y_move rfl) rfl ?_
          refine Wl.y (y_indexAddr Tryz.underlying53 sz9LawS rfl rfl (by omega) (by omega)) rfl ?_
          refine Wl.l (l_load one9LawS rfl (by exact at1 hcz2)) rfl ?_
          refine Wl.y (y_assign rfl) rfl ?_
          refine Wl.nil ?_
          refine Wq.block_normal ?_
          refine Wq.next hK_102 ?_
          refine Wc.region ?_
          refine Wl.y (y_move rfl) rfl ?_
          refine Wl.y (y_addI rfl rfl (by first | omega | (simp; done) | (simp; omega)) (by first | omega | (simp; done) | (simp; omega))) rfl ?_
          refine Wl.y (y_assign rfl) rfl ?_
          refine Wl.nil ?_
          refine fun a_ ha_ => hL_93 _ _ (i + 1) (by first | omega | (simp; omega)) (Sub.cons' rfl (by first | rfl | exact int_eq (by omega) | exact str_eq (by rw [bestF, if_pos hbt]) | exact str_eq (by rw [bestF, if_neg (by rw [hbt]; simp)])) (Sub.cons' rfl (by first | rfl | exact int_eq (by omega) | exact str_eq (by rw [bestF, if_pos hbt]) | exact str_eq (by rw [bestF, if_neg (by rw [hbt]; simp)])) (Sub.cons' rfl (by first | rfl | exact int_eq (by omega) | exact str_eq (by rw [bestF, if_pos hbt]) | exact str_eq (by rw [bestF, if_neg (by rw [hbt]; simp)])) (Sub.cons' rfl (by first | rfl | exact int_eq (by omega) | exact str_eq (by rw [bestF, if_pos hbt]) | exact str_eq (by rw [bestF, if_neg (by rw [hbt]; simp)])) (Sub.cons' rfl (by first | rfl | exact int_eq (by omega) | exact str_eq (by rw [bestF, if_pos hbt]) | exact str_eq (by rw [bestF, if_neg (by rw [hbt]; simp)])) (Sub.cons' rfl (by first | rfl | exact int_eq (by omega) | exact str_eq (by rw [bestF, if_pos hbt]) | exact str_eq (by rw [bestF, if_neg (by rw [hbt]; simp)])) (Sub.cons' rfl (by first | rfl | exact int_eq (by omega) | exact str_eq (by rw [bestF, if_pos hbt]) | exact str_eq (by rw [bestF, if_neg (by rw [hbt]; simp)])) (Sub.cons' rfl (by first | rfl | exact int_eq (by omega) | exact str_eq (by rw [bestF, if_pos hbt]) | exact str_eq (by rw [bestF, if_neg (by rw [hbt]; simp)])) (Sub.nil))))))))) ?_ a_ ha_
          exact ⟨by omega, hb, hR, hR2, hR1⟩
         ·
          have c2_149_ := c2_149
          try simp only [decide_eq_true_eq, decide_eq_false_iff_not, beq_iff_eq, beq_eq_false_iff_ne, bne_iff_ne, bne_eq_false_iff_eq, Bool.not_eq_true', Bool.not_eq_false', Bool.not_eq_eq_eq_not, Bool.not_true, Bool.not_false, ne_eq, Int.not_lt, Int.not_le] at c2_149
          have hbt : beats s (signsV.getD i []) (bestF s i) = false := by rw [← hq]; exact c2_149_
          refine Wc.skip ?_
          refine Wq.block_normal ?_
          refine Wq.next hK_102 ?_
          refine Wc.region ?_
          refine Wl.y (y_move rfl) rfl ?_
          refine Wl.y (y_addI rfl rfl (by first | omega | (simp; done) | (simp; omega)) (by first | omega | (simp; done) | (simp; omega))) rfl ?_
          refine Wl.y (y_assign rfl) rfl ?_
          refine Wl.nil ?_
          refine fun a_ ha_ => hL_93 _ _ (i + 1) (by first | omega | (simp; omega)) (Sub.cons' rfl (by first | rfl | exact int_eq (by omega) | exact str_eq (by rw [bestF, if_pos hbt]) | exact str_eq (by rw [bestF, if_neg (by rw [hbt]; simp)])) (Sub.cons' rfl (by first | rfl | exact int_eq (by omega) | exact str_eq (by rw [bestF, if_pos hbt]) | exact str_eq (by rw [bestF, if_neg (by rw [hbt]; simp)])) (Sub.cons' rfl (by first | rfl | exact int_eq (by omega) | exact str_eq (by rw [bestF, if_pos hbt]) | exact str_eq (by rw [bestF, if_neg (by rw [hbt]; simp)])) (Sub.cons' rfl (by first | rfl | exact int_eq (by omega) | exact str_eq (by rw [bestF, if_pos hbt]) | exact str_eq (by rw [bestF, if_neg (by rw [hbt]; simp)])) (Sub.cons' rfl (by first | rfl | exact int_eq (by omega) | exact str_eq (by rw [bestF, if_pos hbt]) | exact str_eq (by rw [bestF, if_neg (by rw [hbt]; simp)])) (Sub.cons' rfl (by first | rfl | exact int_eq (by omega) | exact str_eq (by rw [bestF, if_pos hbt]) | exact str_eq (by rw [bestF, if_neg (by rw [hbt]; simp)])) (Sub.cons' rfl (by first | rfl | exact int_eq (by omega) | exact str_eq (by rw [bestF, if_pos hbt]) | exact str_eq (by rw [bestF, if_neg (by rw [hbt]; simp)])) (Sub.cons' rfl (by first | rfl | exact int_eq (by omega) | exact str_eq (by rw [bestF, if_pos hbt]) | exact str_eq (by rw [bestF, if_neg (by rw [hbt]; simp)])) (Sub.nil))))))))) ?_ a_ ha_
          exact ⟨by omega, hb, hR, hR2, hR1⟩
       ·
        have c1_101_ := c1_101
        try simp only [decide_eq_true_eq, decide_eq_false_iff_not, beq_iff_eq, beq_eq_false_iff_ne, bne_iff_ne, bne_eq_false_iff_eq, Bool.not_eq_true', Bool.not_eq_false', Bool.not_eq_eq_eq_not, Bool.not_true, Bool.not_false, ne_eq, Int.not_lt, Int.not_le] at c1_101
        refine Wc.exit ?_
        refine Wq.then_exit ?_
        refine Wq.then_exit ?_
        refine Wq.block_exit ?_
        refine Wq.next hK_90 ?_
        refine Wc.seq fun _ hK_161 => ?_
        have hi36 : i = 36 := by have := c1_101; omega
        subst hi36
        obtain ⟨q_, hq_, ht0⟩ := Rd.tok (l := [(⟨5, x, 0 + g.length⟩ : Tok), ⟨5, y, 0 + g.length + x.length + g.length⟩]) hR2 (i := 0) (show 0 < 2 by decide)
        cases hq_
        obtain ⟨q_, hq_, ht1⟩ := Rd.tok (l := [(⟨5, x, 0 + g.length⟩ : Tok), ⟨5, y, 0 + g.length + x.length + g.length⟩]) hR2 (i := 1) (show 1 < 2 by decide)
        cases hq_
        obtain ⟨q_, hq_, ht2⟩ := Rd.tok hR1 (i := 0) hl10
        cases hq_
        refine Wc.region ?_
        refine Wl.y (y_move rfl) rfl ?_
        refine Wl.y (y_move rfl) rfl ?_
        refine Wl.guardT rfl rfl rfl (fun g_164 => ?_) (fun g_164 => ?_)
        ·
         have g_164_ := g_164
         try simp only [decide_eq_true_eq, decide_eq_false_iff_not, beq_iff_eq, beq_eq_false_iff_ne, bne_iff_ne, bne_eq_false_iff_eq, Bool.not_eq_true', Bool.not_eq_false', Bool.not_eq_eq_eq_not, Bool.not_true, Bool.not_false, ne_eq, Int.not_lt, Int.not_le] at g_164
         refine Wl.y (y_move rfl) rfl ?_
         refine Wl.on' rfl rfl g_164_ ?_
         refine Wl.y (y_indexAddr Tryz.underlying39 sz49LawS rfl rfl (by omega) (by omega)) rfl ?_
         refine Wl.on' rfl rfl g_164_ ?_
         refine Wl.y (y_fieldAddr (fa49_1LawS _) rfl) rfl ?_
         refine Wl.on' rfl rfl g_164_ ?_
         refine Wl.l (l_load one9LawS rfl (by exact (ht0 1 (str x) rfl))) rfl ?_
         refine Wl.on' rfl rfl g_164_ ?_
         refine Wl.y (y_move rfl) rfl ?_
         refine Wl.on' rfl rfl g_164_ ?_
         refine Wl.y (y_eqls rfl rfl) rfl ?_
         refine Wl.y (y_pickT rfl g_164_ rfl) rfl ?_
         refine Wl.y (y_move rfl) rfl ?_
         refine Wl.guardT rfl rfl rfl (fun g_173 => ?_) (fun g_173 => ?_)
         ·
          have g_173_ := g_173
          try simp only [decide_eq_true_eq, decide_eq_false_iff_not, beq_iff_eq, beq_eq_false_iff_ne, bne_iff_ne, bne_eq_false_iff_eq, Bool.not_eq_true', Bool.not_eq_false', Bool.not_eq_eq_eq_not, Bool.not_true, Bool.not_false, ne_eq, Int.not_lt, Int.not_le] at g_173
          refine Wl.y (y_move rfl) rfl ?_
          refine Wl.on' rfl rfl g_173_ ?_
          refine Wl.y (y_indexAddr Tryz.underlying39 sz49LawS rfl rfl (by omega) (by omega)) rfl ?_
          refine Wl.on' rfl rfl g_173_ ?_
          refine Wl.y (y_fieldAddr (fa49_1LawS _) rfl) rfl ?_
          refine Wl.on' rfl rfl g_173_ ?_
          refine Wl.l (l_load one9LawS rfl (by exact (ht1 1 (str y) rfl))) rfl ?_
          refine Wl.on' rfl rfl g_173_ ?_
          refine Wl.y (y_move rfl) rfl ?_
          refine Wl.on' rfl rfl g_173_ ?_
          refine Wl.y (y_eqls rfl rfl) rfl ?_
          refine Wl.y (y_pickT rfl g_173_ rfl) rfl ?_
          refine Wl.y (y_move rfl) rfl ?_
          refine Wl.guardT rfl rfl rfl (fun g_182 => ?_) (fun g_182 => ?_)
          ·
           have g_182_ := g_182
           try simp only [decide_eq_true_eq, decide_eq_false_iff_not, beq_iff_eq, beq_eq_false_iff_ne, bne_iff_ne, bne_eq_false_iff_eq, Bool.not_eq_true', Bool.not_eq_false', Bool.not_eq_eq_eq_not, Bool.not_true, Bool.not_false, ne_eq, Int.not_lt, Int.not_le] at g_182
           refine Wl.y (y_move rfl) rfl ?_
           refine Wl.on' rfl rfl g_182_ ?_
           refine Wl.y (y_indexAddr Tryz.underlying39 sz49LawS rfl rfl (by omega) (by omega)) rfl ?_
           refine Wl.on' rfl rfl g_182_ ?_
           refine Wl.y (y_fieldAddr (fa49_0LawS _) rfl) rfl ?_
           refine Wl.on' rfl rfl g_182_ ?_
           refine Wl.l (l_load one3LawS rfl (by exact (ht0 0 (.int .i64 5) rfl))) rfl ?_
           refine Wl.on' rfl rfl g_182_ ?_
           refine Wl.y (y_eqli rfl rfl) rfl ?_
           refine Wl.y (y_pickT rfl g_182_ rfl) rfl ?_
           refine Wl.y (y_move rfl) rfl ?_
           refine Wl.guardT rfl rfl rfl (fun g_190 => ?_) (fun g_190 => ?_)
           ·
            have g_190_ := g_190
            try simp only [decide_eq_true_eq, decide_eq_false_iff_not, beq_iff_eq, beq_eq_false_iff_ne, bne_iff_ne, bne_eq_false_iff_eq, Bool.not_eq_true', Bool.not_eq_false', Bool.not_eq_eq_eq_not, Bool.not_true, Bool.not_false, ne_eq, Int.not_lt, Int.not_le] at g_190
            refine Wl.y (y_move rfl) rfl ?_
            refine Wl.on' rfl rfl g_190_ ?_
            refine Wl.y (y_indexAddr Tryz.underlying39 sz49LawS rfl rfl (by omega) (by omega)) rfl ?_
            refine Wl.on' rfl rfl g_190_ ?_
            refine Wl.y (y_fieldAddr (fa49_0LawS _) rfl) rfl ?_
            refine Wl.on' rfl rfl g_190_ ?_
            refine Wl.l (l_load one3LawS rfl (by exact (ht1 0 (.int .i64 5) rfl))) rfl ?_
            refine Wl.on' rfl rfl g_190_ ?_
            refine Wl.y (y_eqli rfl rfl) rfl ?_
            refine Wl.y (y_pickT rfl g_190_ rfl) rfl ?_
            refine Wl.y (y_move rfl) rfl ?_
            refine Wl.guardT rfl rfl rfl (fun g_198 => ?_) (fun g_198 => ?_)
            ·
             have g_198_ := g_198
             try simp only [decide_eq_true_eq, decide_eq_false_iff_not, beq_iff_eq, beq_eq_false_iff_ne, bne_iff_ne, bne_eq_false_iff_eq, Bool.not_eq_true', Bool.not_eq_false', Bool.not_eq_eq_eq_not, Bool.not_true, Bool.not_false, ne_eq, Int.not_lt, Int.not_le] at g_198
             refine Wl.y (y_move rfl) rfl ?_
             refine Wl.on' rfl rfl g_198_ ?_
             refine Wl.y (y_indexAddr Tryz.underlying39 sz49LawS rfl rfl (by omega) (by omega)) rfl ?_
             refine Wl.on' rfl rfl g_198_ ?_
             refine Wl.y (y_fieldAddr (fa49_1LawS _) rfl) rfl ?_
             refine Wl.on' rfl rfl g_198_ ?_
             refine Wl.l (l_load one9LawS rfl (by exact (ht2 1 (str (l1[0]).t) rfl))) rfl ?_
             refine Wl.on' rfl rfl g_198_ ?_
             refine Wl.y (y_move rfl) rfl ?_
             refine Wl.on' rfl rfl g_198_ ?_
             refine Wl.y (y_eqls rfl rfl) rfl ?_
             refine Wl.y (y_pickT rfl g_198_ rfl) rfl ?_
             refine Wl.y (y_assign rfl) rfl ?_
             refine Wl.nil ?_
             refine Wq.next hK_161 ?_
             refine Wc.ret ?_
             refine ret1 rfl rfl ?_
             exact ⟨_, rfl, bool_eq (by rw [hbest]; simp), hb⟩
            ·
             have g_198_ := g_198
             try simp only [decide_eq_true_eq, decide_eq_false_iff_not, beq_iff_eq, beq_eq_false_iff_ne, bne_iff_ne, bne_eq_false_iff_eq, Bool.not_eq_true', Bool.not_eq_false', Bool.not_eq_eq_eq_not, Bool.not_true, Bool.not_false, ne_eq, Int.not_lt, Int.not_le] at g_198
             exact absurd g_198_ (by decide)
           ·
            have g_190_ := g_190
            try simp only [decide_eq_true_eq, decide_eq_false_iff_not, beq_iff_eq, beq_eq_false_iff_ne, bne_iff_ne, bne_eq_false_iff_eq, Bool.not_eq_true', Bool.not_eq_false', Bool.not_eq_eq_eq_not, Bool.not_true, Bool.not_false, ne_eq, Int.not_lt, Int.not_le] at g_190
            exact absurd g_190_ (by decide)
          ·
           have g_182_ := g_182
           try simp only [decide_eq_true_eq, decide_eq_false_iff_not, beq_iff_eq, beq_eq_false_iff_ne, bne_iff_ne, bne_eq_false_iff_eq, Bool.not_eq_true', Bool.not_eq_false', Bool.not_eq_eq_eq_not, Bool.not_true, Bool.not_false, ne_eq, Int.not_lt, Int.not_le] at g_182
           exact absurd g_182_ (by simp)
         ·
          have g_173_ := g_173
          try simp only [decide_eq_true_eq, decide_eq_false_iff_not, beq_iff_eq, beq_eq_false_iff_ne, bne_iff_ne, bne_eq_false_iff_eq, Bool.not_eq_true', Bool.not_eq_false', Bool.not_eq_eq_eq_not, Bool.not_true, Bool.not_false, ne_eq, Int.not_lt, Int.not_le] at g_173
          exact absurd g_173_ (by simp)
        ·
         have g_164_ := g_164
         try simp only [decide_eq_true_eq, decide_eq_false_iff_not, beq_iff_eq, beq_eq_false_iff_ne, bne_iff_ne, bne_eq_false_iff_eq, Bool.not_eq_true', Bool.not_eq_false', Bool.not_eq_eq_eq_not, Bool.not_true, Bool.not_false, ne_eq, Int.not_lt, Int.not_le] at g_164
         exact absurd g_164_ (by decide)
end Go.Proofs.YtcljmclolpgdmaaGreatDoor
