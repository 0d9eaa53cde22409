/- lex.Text; what each statement about lex begins with. -/
import Derived.Test.YtcljmclolpgdmaaGreatDoorJoin
namespace Go.Proofs.YtcljmclolpgdmaaGreatDoor
open Go.RowKit Go.Bw Go.Bw.Fl Go.Shelf
set_option linter.unusedVariables false
set_option linter.unusedSimpArgs false
theorem fa49_0LexT (p : Addr) (w : World) : (Instr.fieldAt 49 (.pointer (some p)) 0).run Tryz.prog w = .ok (.pointer (some (p.add 0))) w := run_fieldAt (i := 0) (sz := 0) Tryz.underlying49 rfl (by kernel_rfl) p w
theorem fa49_1LexT (p : Addr) (w : World) : (Instr.fieldAt 49 (.pointer (some p)) 1).run Tryz.prog w = .ok (.pointer (some (p.add 1))) w := run_fieldAt (i := 1) (sz := 0) Tryz.underlying49 rfl (by kernel_rfl) p w
theorem one3LexT : One Tryz.prog 3 := ⟨_, Tryz.underlying3, rfl, by kernel_rfl⟩
theorem one9LexT : One Tryz.prog 9 := ⟨_, Tryz.underlying9, rfl, by kernel_rfl⟩
theorem sz49LexT : (Tryz.prog.info? 49).map (·.size) = some 3 := by kernel_rfl
theorem txt22LexT : Txt Tryz.prog 22 := ⟨_, Tryz.func22, by kernel_rfl, rfl⟩   -- bridleway/lex.Lex
theorem txt25LexT : Txt Tryz.prog 25 := ⟨_, Tryz.func25, by kernel_rfl, rfl⟩   -- bridleway/lex.Text
theorem txt58LexT : Txt Tryz.prog 58 := ⟨_, Tryz.func58, by kernel_rfl, rfl⟩   -- strings.Join
/-! ### rows of tokens -/
theorem flat_at : ∀ (l : List Tok) (i j : Nat) (hi : i < l.length), j < 3 → (l.flatMap Tok.cells)[i * 3 + j]? = (l[i]).cells[j]?
  | [], i, j, h, _ => by simp at h
  | t :: r, 0, j, _, hj => by
    rw [List.flatMap_cons, Nat.zero_mul, Nat.zero_add, List.getElem?_append_left (by show j < 3; exact hj)]; rfl
  | t :: r, i + 1, j, h, hj => by
    have h' : i < r.length := by simpa using h
    rw [List.flatMap_cons, List.getElem?_append_right (by show 3 ≤ _; omega), show (i + 1) * 3 + j - (Tok.cells t).length = i * 3 + j by show (i + 1) * 3 + j - 3 = _; omega, flat_at r i j h' hj]; rfl
theorem flat_length (l : List Tok) : (l.flatMap Tok.cells).length = l.length * 3 := by
  induction l with
  | nil => rfl
  | cons t r ih => rw [List.flatMap_cons, List.length_append, ih, List.length_cons]; show 3 + _ = _; omega
theorem Rd.tok {w : World} {A : Option Addr} {l : List Tok} (h : Rd w 3 A l.length (l.flatMap Tok.cells)) {i : Nat} (hi : i < l.length) : ∃ p, A = some p ∧ ∀ (j : Nat) (u : Value), (l[i]).cells[j]? = some u → w.cell? ((p.add (i * 3)).add j) = some u := by
  obtain ⟨p, e, hc⟩ := h.2 (by rw [flat_length]; omega)
  refine ⟨p, e, fun j u hu => ?_⟩
  have hj : j < 3 := (List.getElem?_eq_some_iff.1 hu).1
  rw [addr_add_add]
  exact hc _ u (by rw [flat_at l i j hi hj]; exact hu)
theorem flat_take3 (l : List Tok) (m : Nat) : (l.flatMap Tok.cells).take (m * 3) = (l.take m).flatMap Tok.cells := by
  induction l generalizing m with
  | nil => simp
  | cons t r ih =>
    cases m with
    | zero => simp
    | succ m =>
      rw [List.take_succ_cons, List.flatMap_cons, List.flatMap_cons, ← ih, show (m + 1) * 3 = (Tok.cells t).length + m * 3 by show _ = 3 + _; omega, List.take_length_add_append]
theorem Rd.toks {w : World} {A : Option Addr} {l : List Tok} {m : Nat} (h : Rd w 3 A l.length (l.flatMap Tok.cells)) (hm : m ≤ l.length) : Rd w 3 A m ((l.take m).flatMap Tok.cells) := by
  have := h.take hm
  rwa [flat_take3] at this
def txts (l : List Tok) : List (List UInt8) := l.map Tok.t
theorem LText_r (A : Option Addr) (c : Nat) (l : List Tok) (hl : l.length ≤ 65536) (ht : tot (txts l) ≤ 1099511627776) (w : World) (hR : Rd w 3 A l.length (l.flatMap Tok.cells)) : Ret Tryz.prog 25 [.slice A l.length c] w fun v w' => v = str (joinV (txts l)) ∧ Below w.heap.size w w' := by
  have hb := Below.refl w.heap.size w
  have hR_hb := hR
  refine enter Tryz.func25 rfl rfl rfl ?_
  refine Wc.seq fun _ hK_1 => ?_
  refine Wc.region ?_
  refine Wl.y (y_assign rfl) rfl ?_
  refine Wl.nil ?_
  refine Wq.next hK_1 ?_
  refine Wc.seq fun _ hK_3 => ?_
  refine Wc.region ?_
  refine Wl.y (y_assign rfl) rfl ?_
  refine Wl.nil ?_
  refine Wq.next hK_3 ?_
  refine Wc.seq fun _ hK_5 => ?_
  refine Wc.seq fun _ hK_6 => ?_
  refine Wc.region ?_
  refine Wl.y (y_move rfl) rfl ?_
  refine Wl.y (y_lenl Tryz.underlying39 (by omega) rfl) rfl ?_
  refine Wl.y (y_move rfl) rfl ?_
  refine Wl.nil ?_
  refine Wq.next hK_6 ?_
  refine Wc.block ?_
  refine Wc.loop (X := Nat × Value) (fun (i, v) => [(3, v), (6, .slice A l.length c), (7, .int .i64 (l.length : Int)), (8, .int .i64 (i : Int))]) (fun (i, v) wr => i ≤ l.length ∧ Below w.heap.size w wr ∧ wr.ownsRow w.heap.size 9 1 v i (strs (txts (l.take i)))) (fun (i, v) => l.length - i) (⟨0, .slice none 0 0⟩) ?_ ?_ ?_
  · exact Sub.cons' rfl (by first | rfl | exact int_eq (by omega)) (Sub.cons' rfl (by first | rfl | exact int_eq (by omega)) (Sub.cons' rfl (by first | rfl | exact int_eq (by omega)) (Sub.cons' rfl (by first | rfl | exact int_eq (by omega)) (Sub.nil))))
  · exact ⟨by omega, hb, World.ownsRow_nil _ _ _ _⟩
  ·
   rintro ⟨i, v⟩ wr hI_11 _ hL_10
   replace hI_11 : i ≤ l.length ∧ Below w.heap.size w wr ∧ wr.ownsRow w.heap.size 9 1 v i (strs (txts (l.take i))) := hI_11
   obtain ⟨hi, hb, hO⟩ := hI_11
   show Wc _ _ _ _ _ [(3, v), (6, .slice A l.length c), (7, .int .i64 (l.length : Int)), (8, .int .i64 (i : Int))] _
   have hR := hR_hb.below hb
   try have hzhb_L0 := hb.size
   refine Wc.seq fun _ hK_12 => ?_
   refine Wc.region ?_
   refine Wl.y (y_lssi rfl rfl) rfl ?_
   refine Wl.nil ?_
   refine Wq.next hK_12 ?_
   refine Wc.seq fun _ hK_14 => ?_
   refine Wc.cond rfl (fun c0_15 => ?_) (fun c0_15 => ?_)
   ·
    have c0_15_ := c0_15
    try simp only [decide_eq_true_eq, decide_eq_false_iff_not, beq_iff_eq, beq_eq_false_iff_ne, bne_iff_ne, bne_eq_false_iff_eq, Bool.not_eq_true', Bool.not_eq_false', Bool.not_eq_eq_eq_not, Bool.not_true, Bool.not_false, ne_eq, Int.not_lt, Int.not_le] at c0_15
    have hil : i < l.length := by have := c0_15; omega
    obtain ⟨p_, hpe, hcell⟩ := Rd.tok hR hil
    subst hpe
    obtain ⟨t, htk⟩ : ∃ t, t = l[i] := ⟨_, rfl⟩
    have hge : l.getD i ⟨0, [], 0⟩ = t := by rw [htk]; simp [List.getD, List.getElem?_eq_getElem hil]
    rw [← htk] at hcell
    have hO0 := hO
    refine Wc.skip ?_
    refine Wq.next hK_14 ?_
    refine Wc.seq fun _ hK_16 => ?_
    refine Wc.block ?_
    refine Wc.seq fun _ hK_17 => ?_
    refine Wc.region ?_
    refine Wl.y (y_indexAddr Tryz.underlying39 sz49LexT rfl rfl (by omega) (by omega)) rfl ?_
    refine Wl.l (l_loadS Tryz.underlying49 (by kernel_rfl) rfl (by exact fun j u hu => hcell j u hu)) rfl ?_
    refine Wl.allocN (z := (.agg #[(.int .i64 0), (str []), (.int .i64 0)])) (by kernel_rfl) rfl ?_
    rintro g_o5 w_o5 hg_o5 hn_o5 hs_o5
    have hz_o5 := hs_o5.size
    have hb := hb.trans (hs_o5.mono hb.size)
    have hR := hR_hb.below hb
    try have hO := own_below hO hs_o5
    have hB_o5 := hn_o5
    have hl_o5 := hB_o5.lt
    have hap_ : v.ownBlock = none ∨ v.ownBlock ≠ some g_o5 := by
      cases hv : v.ownBlock with
      | none => exact .inl rfl
      | some kk => exact .inr (fun e => by have := own_ge hO0 kk hv; cases e; omega)
    refine Wl.storeS (by kernel_rfl) rfl rfl hB_o5 rfl rfl ?_
    rintro w_s0 hn_s0 hg_s0
    have hz_s0 := hg_s0.size
    have hb := below_blk hb hg_s0 hb.size (by omega)
    have hR := hR_hb.below hb
    try have hO := World.ownsRow.kept hO hg_s0 (by exact hap_)
    have hB_o5 := hn_s0
    refine Wl.nil ?_
    refine Wq.next hK_17 ?_
    refine Wc.region ?_
    refine Wl.y (y_move rfl) rfl ?_
    refine Wl.y (y_fieldAddr (fa49_1LexT _) rfl) rfl ?_
    refine Wl.l (l_load one9LexT rfl (by exact hB_o5.at (j := 1) rfl)) rfl ?_
    refine Wl.litN (sz := 1) (vs := [_]) Tryz.underlying53 (by kernel_rfl) rfl rfl rfl rfl rfl rfl ?_
    rintro g_b1 w_b1 hg_b1 hn_b1 hs_b1
    have hz_b1 := hs_b1.size
    have hb := hb.trans (hs_b1.mono hb.size)
    have hR := hR_hb.below hb
    try have hO := own_below hO hs_b1
    have hB_b1 := hn_b1
    have hl_b1 := hB_b1.lt
    refine Wl.append (z := (str [])) (sz := 1) (bytes := 16) Tryz.underlying53 (by kernel_rfl) rfl (by decide) _ rfl hO rfl (hB_b1.rd 1 1 rfl) (fun u hu => by rcases List.mem_singleton.1 (show u ∈ [str t.t] from hu) with rfl; rfl) (by simp only [maxLen]; omega) (by omega) (by first | exact hb.size | omega) rfl ?_
    rintro v_b2 w_b2 hn_b2 hg_b2 ha_b2
    have hz_b2 := hg_b2.size
    have hb := hb.grown hg_b2 hb.size (fun k_ hk_ => by have := (own_ge hO k_ hk_).1; omega)
    have hR := hR_hb.below hb
    have hO := hn_b2
    refine Wl.y (y_assign rfl) rfl ?_
    refine Wl.nil ?_
    refine Wq.block_normal ?_
    refine Wq.next hK_16 ?_
    refine Wc.region ?_
    refine Wl.y (y_addI rfl rfl (by first | omega | (simp; done) | (simp; omega)) (by first | omega | (simp; done) | (simp; omega))) rfl ?_
    refine Wl.y (y_move rfl) rfl ?_
    refine Wl.nil ?_
    refine fun a_ ha_ => hL_10 _ _ (⟨i + 1, v_b2⟩) (by first | omega | (simp; omega)) (Sub.cons' rfl (by first | rfl | exact int_eq (by omega)) (Sub.cons' rfl (by first | rfl | exact int_eq (by omega)) (Sub.cons' rfl (by first | rfl | exact int_eq (by omega)) (Sub.cons' rfl (by first | rfl | exact int_eq (by omega)) (Sub.nil))))) ?_ a_ ha_
    exact ⟨by omega, hb, by rw [take_snoc ⟨0, [], 0⟩ hil, hge]; unfold txts strs; rw [List.map_append, List.map_append]; exact hO⟩
   ·
    have c0_15_ := c0_15
    try simp only [decide_eq_true_eq, decide_eq_false_iff_not, beq_iff_eq, beq_eq_false_iff_ne, bne_iff_ne, bne_eq_false_iff_eq, Bool.not_eq_true', Bool.not_eq_false', Bool.not_eq_eq_eq_not, Bool.not_true, Bool.not_false, ne_eq, Int.not_lt, Int.not_le] at c0_15
    have hil : i = l.length := by have := c0_15; omega
    subst hil
    rw [List.take_length] at hO
    obtain ⟨A2, c2, rfl, hc2, _⟩ := own_form hO
    have htl : (txts l).length = l.length := by simp [txts]
    refine Wc.exit ?_
    refine Wq.then_exit ?_
    refine Wq.then_exit ?_
    refine Wq.block_exit ?_
    refine Wq.next hK_5 ?_
    refine Wc.seq fun _ hK_29 => ?_
    refine Wc.region ?_
    refine Wl.y (y_move rfl) rfl ?_
    refine Wl.call txt58LexT rfl rfl (Join_n A2 c2 l.length (txts l) htl hl hc2 ht _ (Rd.of_own hO)) rfl ?_
    rintro _ w_k0 ⟨rfl, hs_k0⟩
    have hz_k0 := hs_k0.size
    have hb := hb.trans (hs_k0.mono hb.size)
    have hR := hR_hb.below hb
    refine Wl.y (y_assign rfl) rfl ?_
    refine Wl.nil ?_
    refine Wq.next hK_29 ?_
    refine Wc.ret ?_
    refine ret1 rfl rfl ?_
    exact ⟨_, rfl, rfl, hb⟩
/-! ### two texts -/
theorem lexV_step {s : List UInt8} {i k n : Nat} (h : tokV s = (k, n)) (hb : (s ≠ [] ∧ blank (s.getD 0 0) = false)) (hk : k ≠ 0) : lexV s i = (lexV (s.drop n) (i + n)).map fun l => ⟨k, s.take n, i⟩ :: l := by
  cases s with
  | nil => exact absurd rfl hb.1
  | cons c r =>
    have hb2 : blank c = false := hb.2
    rw [lexV_tok i hb2 (by rw [h]; exact hk), h]
theorem od_half : od (mant0 4609434218613702656) = 3 ∧ v2 (mant0 4609434218613702656) = 51 := by
  rw [show mant0 4609434218613702656 = 3 * 2 ^ 51 by decide +kernel]
  exact ⟨(od_unique (by decide)).2, (od_unique (by decide)).1⟩
theorem pf_half : pf [51, 112, 45, 49] = some 4609434218613702656 := pf_hit ⟨by decide, by decide⟩ (by
  rw [text_num (by decide) (by decide) (by decide), show rung 4609434218613702656 = 4609434218613702656 by decide, od_half.1, od_half.2]
  decide +kernel)
theorem pf_minus : pf [45, 51, 112, 45, 49] = some 13832806255468478464 := pf_hit ⟨by decide, by decide⟩ (by
  rw [text_num (by decide) (by decide) (by decide), show rung 13832806255468478464 = 4609434218613702656 by decide, od_half.1, od_half.2]
  decide +kernel)
theorem readV_flt {pf' : List UInt8 → Option Nat} {s : List UInt8} {r : Val × Nat} (h0 : Lib.hasPrefix s [39] = false) (h1 : Lib.hasPrefix s wNull = false) (h2 : Lib.hasPrefix s wFalse = false) (h3 : Lib.hasPrefix s wTrue = false) (h4 : words3.find? (fun x => Lib.hasPrefix s x) = none) (h5 : floatAt pf' s = some r) : readV pf' uqV s = some r := by
  unfold readV; rw [h0, h1, h2, h3, h4, h5]; rfl
theorem floatAt_one {pf' : List UInt8 → Option Nat} {s x : List UInt8} {K f : Nat} (h0 : s[lead s]? = some 112) (hK : floatK s = K) (hM : floatM s = 1) (hx : s.take (K + 0 + 1) = x) (hf : pf' x = some f) : floatAt pf' s = some (⟨3, 0, f, []⟩, K + 0 + 1) := by
  unfold floatAt; rw [if_pos h0, hK, hM, downF, hx, hf]
theorem rd_half : rdN [51, 112, 45, 49, 32, 39, 120, 39] = 4 := by
  unfold rdN
  rw [readV_flt (by decide) (by decide) (by decide) (by decide) (by decide) (floatAt_one (K := 3) (by decide) (by decide) (by decide) rfl pf_half)]; rfl
theorem rd_minus : rdN [45, 51, 112, 45, 49, 32, 39, 120, 39] = 5 := by
  unfold rdN
  rw [readV_flt (by decide) (by decide) (by decide) (by decide) (by decide) (floatAt_one (K := 4) (by decide) (by decide) (by decide) rfl pf_minus)]; rfl
theorem tk_19 : tokV [51, 112, 45, 49, 32, 39, 120, 39] = (3, 4) := by
  have h1 : rdN [51, 112, 45, 49, 32, 39, 120, 39] = 4 := rd_half
  have h2 : rdN (45 :: [51, 112, 45, 49, 32, 39, 120, 39]) = 5 := rd_minus
  rw [tokV_n (by decide) (by rw [h1]; decide) (by rw [h1, h2]; decide), h1, h2]; rfl
def lx1S : List UInt8 := [40, 97, 41, 45, 91, 101, 93, 45, 62, 40, 98, 41, 32, 87, 72, 69, 82, 69, 32, 51, 112, 45, 49, 32, 39, 120, 39]
def lx1T : List Tok := [⟨5, [40], 0⟩, ⟨1, [97], 1⟩, ⟨5, [41], 2⟩, ⟨5, [45, 91], 3⟩, ⟨1, [101], 5⟩, ⟨5, [93, 45, 62], 6⟩, ⟨5, [40], 9⟩, ⟨1, [98], 10⟩, ⟨5, [41], 11⟩, ⟨2, [87, 72, 69, 82, 69], 13⟩, ⟨3, [51, 112, 45, 49], 19⟩, ⟨4, [39, 120, 39], 24⟩]
theorem lx1_eq : lexV lx1S 0 = .ok lx1T := by
  have e27 : lexV [] 27 = .ok [] := rfl
  have e24 : lexV [39, 120, 39] 24 = .ok [⟨4, [39, 120, 39], 24⟩] := (lexV_step (k := 4) (n := 3) (by kernel_rfl) (by decide) (by decide)).trans (congrArg (Except.map _) e27)
  have e23 : lexV [32, 39, 120, 39] 23 = .ok [⟨4, [39, 120, 39], 24⟩] := (lexV_blank 23 (by decide)).trans e24
  have e19 : lexV [51, 112, 45, 49, 32, 39, 120, 39] 19 = .ok [⟨3, [51, 112, 45, 49], 19⟩, ⟨4, [39, 120, 39], 24⟩] := (lexV_step (k := 3) (n := 4) tk_19 (by decide) (by decide)).trans (congrArg (Except.map _) e23)
  have e18 : lexV [32, 51, 112, 45, 49, 32, 39, 120, 39] 18 = .ok [⟨3, [51, 112, 45, 49], 19⟩, ⟨4, [39, 120, 39], 24⟩] := (lexV_blank 18 (by decide)).trans e19
  have e13 : lexV [87, 72, 69, 82, 69, 32, 51, 112, 45, 49, 32, 39, 120, 39] 13 = .ok [⟨2, [87, 72, 69, 82, 69], 13⟩, ⟨3, [51, 112, 45, 49], 19⟩, ⟨4, [39, 120, 39], 24⟩] := (lexV_step (k := 2) (n := 5) (by kernel_rfl) (by decide) (by decide)).trans (congrArg (Except.map _) e18)
  have e12 : lexV [32, 87, 72, 69, 82, 69, 32, 51, 112, 45, 49, 32, 39, 120, 39] 12 = .ok [⟨2, [87, 72, 69, 82, 69], 13⟩, ⟨3, [51, 112, 45, 49], 19⟩, ⟨4, [39, 120, 39], 24⟩] := (lexV_blank 12 (by decide)).trans e13
  have e11 : lexV [41, 32, 87, 72, 69, 82, 69, 32, 51, 112, 45, 49, 32, 39, 120, 39] 11 = .ok [⟨5, [41], 11⟩, ⟨2, [87, 72, 69, 82, 69], 13⟩, ⟨3, [51, 112, 45, 49], 19⟩, ⟨4, [39, 120, 39], 24⟩] := (lexV_step (k := 5) (n := 1) (by kernel_rfl) (by decide) (by decide)).trans (congrArg (Except.map _) e12)
  have e10 : lexV [98, 41, 32, 87, 72, 69, 82, 69, 32, 51, 112, 45, 49, 32, 39, 120, 39] 10 = .ok [⟨1, [98], 10⟩, ⟨5, [41], 11⟩, ⟨2, [87, 72, 69, 82, 69], 13⟩, ⟨3, [51, 112, 45, 49], 19⟩, ⟨4, [39, 120, 39], 24⟩] := (lexV_step (k := 1) (n := 1) (by kernel_rfl) (by decide) (by decide)).trans (congrArg (Except.map _) e11)
  have e9 : lexV [40, 98, 41, 32, 87, 72, 69, 82, 69, 32, 51, 112, 45, 49, 32, 39, 120, 39] 9 = .ok [⟨5, [40], 9⟩, ⟨1, [98], 10⟩, ⟨5, [41], 11⟩, ⟨2, [87, 72, 69, 82, 69], 13⟩, ⟨3, [51, 112, 45, 49], 19⟩, ⟨4, [39, 120, 39], 24⟩] := (lexV_step (k := 5) (n := 1) (by kernel_rfl) (by decide) (by decide)).trans (congrArg (Except.map _) e10)
  have e6 : lexV [93, 45, 62, 40, 98, 41, 32, 87, 72, 69, 82, 69, 32, 51, 112, 45, 49, 32, 39, 120, 39] 6 = .ok [⟨5, [93, 45, 62], 6⟩, ⟨5, [40], 9⟩, ⟨1, [98], 10⟩, ⟨5, [41], 11⟩, ⟨2, [87, 72, 69, 82, 69], 13⟩, ⟨3, [51, 112, 45, 49], 19⟩, ⟨4, [39, 120, 39], 24⟩] := (lexV_step (k := 5) (n := 3) (by kernel_rfl) (by decide) (by decide)).trans (congrArg (Except.map _) e9)
  have e5 : lexV [101, 93, 45, 62, 40, 98, 41, 32, 87, 72, 69, 82, 69, 32, 51, 112, 45, 49, 32, 39, 120, 39] 5 = .ok [⟨1, [101], 5⟩, ⟨5, [93, 45, 62], 6⟩, ⟨5, [40], 9⟩, ⟨1, [98], 10⟩, ⟨5, [41], 11⟩, ⟨2, [87, 72, 69, 82, 69], 13⟩, ⟨3, [51, 112, 45, 49], 19⟩, ⟨4, [39, 120, 39], 24⟩] := (lexV_step (k := 1) (n := 1) (by kernel_rfl) (by decide) (by decide)).trans (congrArg (Except.map _) e6)
  have e3 : lexV [45, 91, 101, 93, 45, 62, 40, 98, 41, 32, 87, 72, 69, 82, 69, 32, 51, 112, 45, 49, 32, 39, 120, 39] 3 = .ok [⟨5, [45, 91], 3⟩, ⟨1, [101], 5⟩, ⟨5, [93, 45, 62], 6⟩, ⟨5, [40], 9⟩, ⟨1, [98], 10⟩, ⟨5, [41], 11⟩, ⟨2, [87, 72, 69, 82, 69], 13⟩, ⟨3, [51, 112, 45, 49], 19⟩, ⟨4, [39, 120, 39], 24⟩] := (lexV_step (k := 5) (n := 2) (by kernel_rfl) (by decide) (by decide)).trans (congrArg (Except.map _) e5)
  have e2 : lexV [41, 45, 91, 101, 93, 45, 62, 40, 98, 41, 32, 87, 72, 69, 82, 69, 32, 51, 112, 45, 49, 32, 39, 120, 39] 2 = .ok [⟨5, [41], 2⟩, ⟨5, [45, 91], 3⟩, ⟨1, [101], 5⟩, ⟨5, [93, 45, 62], 6⟩, ⟨5, [40], 9⟩, ⟨1, [98], 10⟩, ⟨5, [41], 11⟩, ⟨2, [87, 72, 69, 82, 69], 13⟩, ⟨3, [51, 112, 45, 49], 19⟩, ⟨4, [39, 120, 39], 24⟩] := (lexV_step (k := 5) (n := 1) (by kernel_rfl) (by decide) (by decide)).trans (congrArg (Except.map _) e3)
  have e1 : lexV [97, 41, 45, 91, 101, 93, 45, 62, 40, 98, 41, 32, 87, 72, 69, 82, 69, 32, 51, 112, 45, 49, 32, 39, 120, 39] 1 = .ok [⟨1, [97], 1⟩, ⟨5, [41], 2⟩, ⟨5, [45, 91], 3⟩, ⟨1, [101], 5⟩, ⟨5, [93, 45, 62], 6⟩, ⟨5, [40], 9⟩, ⟨1, [98], 10⟩, ⟨5, [41], 11⟩, ⟨2, [87, 72, 69, 82, 69], 13⟩, ⟨3, [51, 112, 45, 49], 19⟩, ⟨4, [39, 120, 39], 24⟩] := (lexV_step (k := 1) (n := 1) (by kernel_rfl) (by decide) (by decide)).trans (congrArg (Except.map _) e2)
  have e0 : lexV [40, 97, 41, 45, 91, 101, 93, 45, 62, 40, 98, 41, 32, 87, 72, 69, 82, 69, 32, 51, 112, 45, 49, 32, 39, 120, 39] 0 = .ok [⟨5, [40], 0⟩, ⟨1, [97], 1⟩, ⟨5, [41], 2⟩, ⟨5, [45, 91], 3⟩, ⟨1, [101], 5⟩, ⟨5, [93, 45, 62], 6⟩, ⟨5, [40], 9⟩, ⟨1, [98], 10⟩, ⟨5, [41], 11⟩, ⟨2, [87, 72, 69, 82, 69], 13⟩, ⟨3, [51, 112, 45, 49], 19⟩, ⟨4, [39, 120, 39], 24⟩] := (lexV_step (k := 5) (n := 1) (by kernel_rfl) (by decide) (by decide)).trans (congrArg (Except.map _) e1)
  exact e0
def lx2S : List UInt8 := [97, 32, 36]
theorem lx2_eq : lexV lx2S 0 = .error 2 := by
  have e2 : lexV [36] 2 = .error 2 := lexV_bad 2 (by decide) (by kernel_rfl)
  have e1 : lexV [32, 36] 1 = .error 2 := (lexV_blank 1 (by decide)).trans e2
  have e0 : lexV [97, 32, 36] 0 = .error 2 := (lexV_step (k := 1) (n := 1) (by kernel_rfl) (by decide) (by decide)).trans (congrArg (Except.map _) e1)
  exact e0
/-! ### Lex at a text whose tokens are known -/
theorem Lex_ok {s : List UInt8} {l : List Tok} (h : lexV s 0 = .ok l) (hs : s.length ≤ 65536) (w : World) (hX : Lx w) : Ret Tryz.prog 22 [str s] w fun v w' => (∃ A c, v = .tuple #[.slice A l.length c, .int .i64 0, .int .i64 0] ∧ l.length ≤ 65536 ∧ l.length ≤ c ∧ Rd w' 3 A l.length (l.flatMap Tok.cells)) ∧ Below w.heap.size w w' :=
  (Lex_r s (by omega) w hX).mono fun v w' ⟨h1, h2⟩ => by
    rcases h1 with ⟨h3, _⟩ | ⟨_, i, h3, _⟩ | ⟨_, l', A, c, h3, h4, h5, h6, h7⟩
    · omega
    · rw [h] at h3; cases h3
    · rw [h] at h3; cases h3; exact ⟨⟨A, c, h4, h5, h6, h7⟩, h2⟩
theorem Lex_no {s : List UInt8} {i : Nat} (h : lexV s 0 = .error i) (hs : s.length ≤ 65536) (w : World) (hX : Lx w) : Ret Tryz.prog 22 [str s] w fun v w' => v = .tuple #[.slice none 0 0, .int .i64 (i : Int), .int .i64 2] ∧ Below w.heap.size w w' :=
  (Lex_r s (by omega) w hX).mono fun v w' ⟨h1, h2⟩ => by
    rcases h1 with ⟨h3, _⟩ | ⟨_, j, h3, h4⟩ | ⟨_, l', A, c, h3, _⟩
    · omega
    · rw [h] at h3; cases h3; exact ⟨h4, h2⟩
    · rw [h] at h3; cases h3
theorem lshown_r (w : World) (hX : Lx w) : Ret Tryz.prog 21 [] w fun v w' => v = .bool true ∧ Below w.heap.size w w' := by
  have hb := Below.refl w.heap.size w
  have hX_hb := hX
  refine enter Tryz.func21 rfl rfl rfl ?_
  refine Wc.seq fun _ hK_1 => ?_
  refine Wc.region ?_
  refine Wl.y (y_assign rfl) rfl ?_
  refine Wl.nil ?_
  refine Wq.next hK_1 ?_
  refine Wc.seq fun _ hK_3 => ?_
  refine Wc.region ?_
  refine Wl.call txt22LexT rfl rfl (Lex_ok (s := lx1S) lx1_eq (by decide) _ hX) rfl ?_
  rintro _ w_k0 ⟨⟨A1, c1, rfl, hz1, hz2, hR⟩, hs_k0⟩
  have hz_k0 := hs_k0.size
  have hb := hb.trans (hs_k0.mono hb.size)
  have hX := hX_hb.below hb
  refine Wl.y (y_move rfl) rfl ?_
  refine Wl.y (y_extract rfl rfl) rfl ?_
  refine Wl.y (y_extract rfl rfl) rfl ?_
  refine Wl.y (y_extract rfl rfl) rfl ?_
  refine Wl.y (y_assign rfl) rfl ?_
  refine Wl.y (y_assign rfl) rfl ?_
  refine Wl.y (y_assign rfl) rfl ?_
  refine Wl.nil ?_
  refine Wq.next hK_3 ?_
  refine Wc.seq fun _ hK_12 => ?_
  refine Wc.region ?_
  refine Wl.call txt22LexT rfl rfl (Lex_no (s := lx2S) lx2_eq (by decide) _ hX) rfl ?_
  rintro _ w_k1 ⟨rfl, hs_k1⟩
  have hz_k1 := hs_k1.size
  have hb := hb.trans (hs_k1.mono hb.size)
  have hX := hX_hb.below hb
  try have hR := Rd.below hR hs_k1
  refine Wl.y (y_move rfl) rfl ?_
  refine Wl.y (y_extract rfl rfl) rfl ?_
  refine Wl.y (y_extract rfl rfl) rfl ?_
  refine Wl.y (y_extract rfl rfl) rfl ?_
  refine Wl.y (y_assign rfl) rfl ?_
  refine Wl.y (y_assign rfl) rfl ?_
  refine Wl.y (y_assign rfl) rfl ?_
  refine Wl.nil ?_
  refine Wq.next hK_12 ?_
  refine Wc.seq fun _ hK_21 => ?_
  refine Wc.region ?_
  obtain ⟨p, hpe, _⟩ := Rd.tok hR (i := 0) (by decide)
  subst hpe
  have hcl : ∀ (i j : Nat) (hi : i < lx1T.length) (u : Value), (lx1T[i]).cells[j]? = some u → w_k1.cell? ((p.add (i * 3)).add j) = some u := fun i j hi u hu => by
    obtain ⟨p', e, h⟩ := Rd.tok hR hi
    cases e; exact h j u hu
  refine Wl.y (y_move rfl) rfl ?_
  refine Wl.y (y_lenl Tryz.underlying39 (by omega) rfl) rfl ?_
  refine Wl.y (y_eqli rfl rfl) rfl ?_
  refine Wl.y (y_move rfl) rfl ?_
  refine Wl.guardT rfl rfl rfl (fun g_26 => ?_) (fun g_26 => ?_)
  ·
   have g_26_ := g_26
   try simp only [decide_eq_true_eq, decide_eq_false_iff_not, beq_iff_eq, beq_eq_false_iff_ne, bne_iff_ne, bne_eq_false_iff_eq, Bool.not_eq_true', Bool.not_eq_false', Bool.not_eq_eq_eq_not, Bool.not_true, Bool.not_false, ne_eq, Int.not_lt, Int.not_le] at g_26
   refine Wl.y (y_move rfl) rfl ?_
   refine Wl.on' rfl rfl g_26_ ?_
   refine Wl.y (y_eqli rfl rfl) rfl ?_
   refine Wl.y (y_pickT rfl g_26_ rfl) rfl ?_
   refine Wl.y (y_move rfl) rfl ?_
   refine Wl.guardT rfl rfl rfl (fun g_31 => ?_) (fun g_31 => ?_)
   ·
    have g_31_ := g_31
    try simp only [decide_eq_true_eq, decide_eq_false_iff_not, beq_iff_eq, beq_eq_false_iff_ne, bne_iff_ne, bne_eq_false_iff_eq, Bool.not_eq_true', Bool.not_eq_false', Bool.not_eq_eq_eq_not, Bool.not_true, Bool.not_false, ne_eq, Int.not_lt, Int.not_le] at g_31
    refine Wl.y (y_move rfl) rfl ?_
    refine Wl.on' rfl rfl g_31_ ?_
    refine Wl.y (y_eqli rfl rfl) rfl ?_
    refine Wl.y (y_pickT rfl g_31_ rfl) rfl ?_
    refine Wl.y (y_move rfl) rfl ?_
    refine Wl.guardT rfl rfl rfl (fun g_36 => ?_) (fun g_36 => ?_)
    ·
     have g_36_ := g_36
     try simp only [decide_eq_true_eq, decide_eq_false_iff_not, beq_iff_eq, beq_eq_false_iff_ne, bne_iff_ne, bne_eq_false_iff_eq, Bool.not_eq_true', Bool.not_eq_false', Bool.not_eq_eq_eq_not, Bool.not_true, Bool.not_false, ne_eq, Int.not_lt, Int.not_le] at g_36
     refine Wl.y (y_move rfl) rfl ?_
     refine Wl.on' rfl rfl g_36_ ?_
     refine Wl.y (y_indexAddr Tryz.underlying39 sz49LexT rfl rfl (by omega) (by omega)) rfl ?_
     refine Wl.on' rfl rfl g_36_ ?_
     refine Wl.y (y_fieldAddr (fa49_1LexT _) rfl) rfl ?_
     refine Wl.on' rfl rfl g_36_ ?_
     refine Wl.l (l_load one9LexT rfl (by exact (hcl 3 1 (by decide) _ rfl))) rfl ?_
     refine Wl.on' rfl rfl g_36_ ?_
     refine Wl.y (y_eqls rfl rfl) rfl ?_
     refine Wl.y (y_pickT rfl g_36_ rfl) rfl ?_
     refine Wl.y (y_move rfl) rfl ?_
     refine Wl.guardT rfl rfl rfl (fun g_44 => ?_) (fun g_44 => ?_)
     ·
      have g_44_ := g_44
      try simp only [decide_eq_true_eq, decide_eq_false_iff_not, beq_iff_eq, beq_eq_false_iff_ne, bne_iff_ne, bne_eq_false_iff_eq, Bool.not_eq_true', Bool.not_eq_false', Bool.not_eq_eq_eq_not, Bool.not_true, Bool.not_false, ne_eq, Int.not_lt, Int.not_le] at g_44
      refine Wl.y (y_move rfl) rfl ?_
      refine Wl.on' rfl rfl g_44_ ?_
      refine Wl.y (y_indexAddr Tryz.underlying39 sz49LexT rfl rfl (by omega) (by omega)) rfl ?_
      refine Wl.on' rfl rfl g_44_ ?_
      refine Wl.y (y_fieldAddr (fa49_1LexT _) rfl) rfl ?_
      refine Wl.on' rfl rfl g_44_ ?_
      refine Wl.l (l_load one9LexT rfl (by exact (hcl 5 1 (by decide) _ rfl))) rfl ?_
      refine Wl.on' rfl rfl g_44_ ?_
      refine Wl.y (y_eqls rfl rfl) rfl ?_
      refine Wl.y (y_pickT rfl g_44_ rfl) rfl ?_
      refine Wl.y (y_move rfl) rfl ?_
      refine Wl.guardT rfl rfl rfl (fun g_52 => ?_) (fun g_52 => ?_)
      ·
       have g_52_ := g_52
       try simp only [decide_eq_true_eq, decide_eq_false_iff_not, beq_iff_eq, beq_eq_false_iff_ne, bne_iff_ne, bne_eq_false_iff_eq, Bool.not_eq_true', Bool.not_eq_false', Bool.not_eq_eq_eq_not, Bool.not_true, Bool.not_false, ne_eq, Int.not_lt, Int.not_le] at g_52
       refine Wl.y (y_move rfl) rfl ?_
       refine Wl.on' rfl rfl g_52_ ?_
       refine Wl.y (y_indexAddr Tryz.underlying39 sz49LexT rfl rfl (by omega) (by omega)) rfl ?_
       refine Wl.on' rfl rfl g_52_ ?_
       refine Wl.y (y_fieldAddr (fa49_0LexT _) rfl) rfl ?_
       refine Wl.on' rfl rfl g_52_ ?_
       refine Wl.l (l_load one3LexT rfl (by exact (hcl 9 0 (by decide) _ rfl))) rfl ?_
       refine Wl.on' rfl rfl g_52_ ?_
       refine Wl.y (y_eqli rfl rfl) rfl ?_
       refine Wl.y (y_pickT rfl g_52_ rfl) rfl ?_
       refine Wl.y (y_move rfl) rfl ?_
       refine Wl.guardT rfl rfl rfl (fun g_60 => ?_) (fun g_60 => ?_)
       ·
        have g_60_ := g_60
        try simp only [decide_eq_true_eq, decide_eq_false_iff_not, beq_iff_eq, beq_eq_false_iff_ne, bne_iff_ne, bne_eq_false_iff_eq, Bool.not_eq_true', Bool.not_eq_false', Bool.not_eq_eq_eq_not, Bool.not_true, Bool.not_false, ne_eq, Int.not_lt, Int.not_le] at g_60
        refine Wl.y (y_move rfl) rfl ?_
        refine Wl.on' rfl rfl g_60_ ?_
        refine Wl.y (y_indexAddr Tryz.underlying39 sz49LexT rfl rfl (by omega) (by omega)) rfl ?_
        refine Wl.on' rfl rfl g_60_ ?_
        refine Wl.y (y_fieldAddr (fa49_1LexT _) rfl) rfl ?_
        refine Wl.on' rfl rfl g_60_ ?_
        refine Wl.l (l_load one9LexT rfl (by exact (hcl 10 1 (by decide) _ rfl))) rfl ?_
        refine Wl.on' rfl rfl g_60_ ?_
        refine Wl.y (y_eqls rfl rfl) rfl ?_
        refine Wl.y (y_pickT rfl g_60_ rfl) rfl ?_
        refine Wl.y (y_move rfl) rfl ?_
        refine Wl.guardT rfl rfl rfl (fun g_68 => ?_) (fun g_68 => ?_)
        ·
         have g_68_ := g_68
         try simp only [decide_eq_true_eq, decide_eq_false_iff_not, beq_iff_eq, beq_eq_false_iff_ne, bne_iff_ne, bne_eq_false_iff_eq, Bool.not_eq_true', Bool.not_eq_false', Bool.not_eq_eq_eq_not, Bool.not_true, Bool.not_false, ne_eq, Int.not_lt, Int.not_le] at g_68
         refine Wl.y (y_move rfl) rfl ?_
         refine Wl.on' rfl rfl g_68_ ?_
         refine Wl.y (y_indexAddr Tryz.underlying39 sz49LexT rfl rfl (by omega) (by omega)) rfl ?_
         refine Wl.on' rfl rfl g_68_ ?_
         refine Wl.y (y_fieldAddr (fa49_0LexT _) rfl) rfl ?_
         refine Wl.on' rfl rfl g_68_ ?_
         refine Wl.l (l_load one3LexT rfl (by exact (hcl 11 0 (by decide) _ rfl))) rfl ?_
         refine Wl.on' rfl rfl g_68_ ?_
         refine Wl.y (y_eqli rfl rfl) rfl ?_
         refine Wl.y (y_pickT rfl g_68_ rfl) rfl ?_
         refine Wl.y (y_move rfl) rfl ?_
         refine Wl.guardT rfl rfl rfl (fun g_76 => ?_) (fun g_76 => ?_)
         ·
          have g_76_ := g_76
          try simp only [decide_eq_true_eq, decide_eq_false_iff_not, beq_iff_eq, beq_eq_false_iff_ne, bne_iff_ne, bne_eq_false_iff_eq, Bool.not_eq_true', Bool.not_eq_false', Bool.not_eq_eq_eq_not, Bool.not_true, Bool.not_false, ne_eq, Int.not_lt, Int.not_le] at g_76
          refine Wl.y (y_move rfl) rfl ?_
          refine Wl.on' rfl rfl g_76_ ?_
          refine Wl.y (y_eqli rfl rfl) rfl ?_
          refine Wl.y (y_pickT rfl g_76_ rfl) rfl ?_
          refine Wl.y (y_move rfl) rfl ?_
          refine Wl.guardT rfl rfl rfl (fun g_81 => ?_) (fun g_81 => ?_)
          ·
           have g_81_ := g_81
           try simp only [decide_eq_true_eq, decide_eq_false_iff_not, beq_iff_eq, beq_eq_false_iff_ne, bne_iff_ne, bne_eq_false_iff_eq, Bool.not_eq_true', Bool.not_eq_false', Bool.not_eq_eq_eq_not, Bool.not_true, Bool.not_false, ne_eq, Int.not_lt, Int.not_le] at g_81
           refine Wl.y (y_move rfl) rfl ?_
           refine Wl.on' rfl rfl g_81_ ?_
           refine Wl.y (y_eqli rfl rfl) rfl ?_
           refine Wl.y (y_pickT rfl g_81_ rfl) rfl ?_
           refine Wl.y (y_move rfl) rfl ?_
           refine Wl.guardT rfl rfl rfl (fun g_86 => ?_) (fun g_86 => ?_)
           ·
            have g_86_ := g_86
            try simp only [decide_eq_true_eq, decide_eq_false_iff_not, beq_iff_eq, beq_eq_false_iff_ne, bne_iff_ne, bne_eq_false_iff_eq, Bool.not_eq_true', Bool.not_eq_false', Bool.not_eq_eq_eq_not, Bool.not_true, Bool.not_false, ne_eq, Int.not_lt, Int.not_le] at g_86
            refine Wl.y (y_move rfl) rfl ?_
            refine Wl.on' rfl rfl g_86_ ?_
            refine Wl.y (y_slicelH Tryz.underlying39 sz49LexT rfl rfl (by omega) (by omega)) rfl ?_
            refine Wl.on' rfl rfl g_86_ ?_
            refine Wl.call txt25LexT rfl rfl (LText_r (some p) c1 (lx1T.take 3) (by decide) (by decide) _ (Rd.toks hR (by decide))) rfl ?_
            rintro _ w_k2 ⟨rfl, hs_k2⟩
            have hz_k2 := hs_k2.size
            have hb := hb.trans (hs_k2.mono hb.size)
            have hX := hX_hb.below hb
            refine Wl.on' rfl rfl g_86_ ?_
            refine Wl.y (y_eqls rfl rfl) rfl ?_
            refine Wl.y (y_pickT rfl g_86_ rfl) rfl ?_
            refine Wl.y (y_assign rfl) rfl ?_
            refine Wl.nil ?_
            refine Wq.next hK_21 ?_
            refine Wc.ret ?_
            refine ret1 rfl rfl ?_
            exact ⟨_, rfl, rfl, hb⟩
           ·
            have g_86_ := g_86
            try simp only [decide_eq_true_eq, decide_eq_false_iff_not, beq_iff_eq, beq_eq_false_iff_ne, bne_iff_ne, bne_eq_false_iff_eq, Bool.not_eq_true', Bool.not_eq_false', Bool.not_eq_eq_eq_not, Bool.not_true, Bool.not_false, ne_eq, Int.not_lt, Int.not_le] at g_86
            exact absurd g_86_ (by decide)
          ·
           have g_81_ := g_81
           try simp only [decide_eq_true_eq, decide_eq_false_iff_not, beq_iff_eq, beq_eq_false_iff_ne, bne_iff_ne, bne_eq_false_iff_eq, Bool.not_eq_true', Bool.not_eq_false', Bool.not_eq_eq_eq_not, Bool.not_true, Bool.not_false, ne_eq, Int.not_lt, Int.not_le] at g_81
           exact absurd g_81_ (by decide)
         ·
          have g_76_ := g_76
          try simp only [decide_eq_true_eq, decide_eq_false_iff_not, beq_iff_eq, beq_eq_false_iff_ne, bne_iff_ne, bne_eq_false_iff_eq, Bool.not_eq_true', Bool.not_eq_false', Bool.not_eq_eq_eq_not, Bool.not_true, Bool.not_false, ne_eq, Int.not_lt, Int.not_le] at g_76
          exact absurd g_76_ (by decide)
        ·
         have g_68_ := g_68
         try simp only [decide_eq_true_eq, decide_eq_false_iff_not, beq_iff_eq, beq_eq_false_iff_ne, bne_iff_ne, bne_eq_false_iff_eq, Bool.not_eq_true', Bool.not_eq_false', Bool.not_eq_eq_eq_not, Bool.not_true, Bool.not_false, ne_eq, Int.not_lt, Int.not_le] at g_68
         exact absurd g_68_ (by decide)
       ·
        have g_60_ := g_60
        try simp only [decide_eq_true_eq, decide_eq_false_iff_not, beq_iff_eq, beq_eq_false_iff_ne, bne_iff_ne, bne_eq_false_iff_eq, Bool.not_eq_true', Bool.not_eq_false', Bool.not_eq_eq_eq_not, Bool.not_true, Bool.not_false, ne_eq, Int.not_lt, Int.not_le] at g_60
        exact absurd g_60_ (by decide)
      ·
       have g_52_ := g_52
       try simp only [decide_eq_true_eq, decide_eq_false_iff_not, beq_iff_eq, beq_eq_false_iff_ne, bne_iff_ne, bne_eq_false_iff_eq, Bool.not_eq_true', Bool.not_eq_false', Bool.not_eq_eq_eq_not, Bool.not_true, Bool.not_false, ne_eq, Int.not_lt, Int.not_le] at g_52
       exact absurd g_52_ (by decide)
     ·
      have g_44_ := g_44
      try simp only [decide_eq_true_eq, decide_eq_false_iff_not, beq_iff_eq, beq_eq_false_iff_ne, bne_iff_ne, bne_eq_false_iff_eq, Bool.not_eq_true', Bool.not_eq_false', Bool.not_eq_eq_eq_not, Bool.not_true, Bool.not_false, ne_eq, Int.not_lt, Int.not_le] at g_44
      exact absurd g_44_ (by decide)
    ·
     have g_36_ := g_36
     try simp only [decide_eq_true_eq, decide_eq_false_iff_not, beq_iff_eq, beq_eq_false_iff_ne, bne_iff_ne, bne_eq_false_iff_eq, Bool.not_eq_true', Bool.not_eq_false', Bool.not_eq_eq_eq_not, Bool.not_true, Bool.not_false, ne_eq, Int.not_lt, Int.not_le] at g_36
     exact absurd g_36_ (by decide)
   ·
    have g_31_ := g_31
    try simp only [decide_eq_true_eq, decide_eq_false_iff_not, beq_iff_eq, beq_eq_false_iff_ne, bne_iff_ne, bne_eq_false_iff_eq, Bool.not_eq_true', Bool.not_eq_false', Bool.not_eq_eq_eq_not, Bool.not_true, Bool.not_false, ne_eq, Int.not_lt, Int.not_le] at g_31
    exact absurd g_31_ (by decide)
  ·
   have g_26_ := g_26
   try simp only [decide_eq_true_eq, decide_eq_false_iff_not, beq_iff_eq, beq_eq_false_iff_ne, bne_iff_ne, bne_eq_false_iff_eq, Bool.not_eq_true', Bool.not_eq_false', Bool.not_eq_eq_eq_not, Bool.not_true, Bool.not_false, ne_eq, Int.not_lt, Int.not_le] at g_26
   exact absurd g_26_ (by decide)
end Go.Proofs.YtcljmclolpgdmaaGreatDoor
