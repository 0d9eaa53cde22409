/- bridlewayref11.Dir, by the calculus. -/
import Derived.Test.YtjnabgddjogkbaaGreatDoorZP6
namespace Go.Proofs.YtjnabgddjogkbaaGreatDoor
open Go.RowKit Go.Bw Go.Bw.Fl
set_option linter.unusedVariables false
set_option linter.unusedSimpArgs false
theorem one3PsY : One Tryz.prog 3 := ⟨_, Tryz.underlying3, rfl, by kernel_rfl⟩
theorem one9PsY : One Tryz.prog 9 := ⟨_, Tryz.underlying9, rfl, by kernel_rfl⟩
theorem sz3PsY : (Tryz.prog.info? 3).map (·.size) = some 1 := by kernel_rfl
theorem sz9PsY : (Tryz.prog.info? 9).map (·.size) = some 1 := by kernel_rfl
def dOpens : List (List UInt8) := [[45, 91], [60, 45, 91], [126, 91], [60, 45, 91], [60, 126, 91], [126, 91], [45, 91]]
def dCloses : List (List UInt8) := [[93, 45, 62], [93, 45], [93, 126], [93, 45, 62], [93, 126], [93, 126, 62], [93, 45]]
def dShorts : List (List UInt8) := [[45, 62], [60, 45], [126], [60, 45, 62], [60, 126], [126, 62], [45]]
def dDirs : List Int := [4, 1, 2, 5, 3, 6, 7]
def dirI (o c : List UInt8) (i : Nat) : Bool := decide ((c = [] ∧ dShorts.getD i [] = o) ∨ (c ≠ [] ∧ dOpens.getD i [] = o ∧ dCloses.getD i [] = c))
/-- the direction of an open and a close, or of a short form -/
def dirR (o c : List UInt8) : Int := match (List.range 7).find? (dirI o c) with
  | some i => dDirs.getD i 0
  | none => 0
theorem dirR_at {o c : List UInt8} {i : Nat} (hi : i < 7) (h : dirI o c i = true) (hn : ∀ j, j < i → dirI o c j = false) : dirR o c = dDirs.getD i 0 := by
  have e : (List.range 7).find? (dirI o c) = some i := by
    rw [List.find?_eq_some_iff_getElem]
    exact ⟨h, i, by simpa using hi, by simp, fun j hj => by have := hn j hj; simp [this]⟩
  unfold dirR; rw [e]
theorem dirR_no {o c : List UInt8} (hn : ∀ j, j < 7 → dirI o c j = false) : dirR o c = 0 := by
  have e : (List.range 7).find? (dirI o c) = none := by
    rw [List.find?_eq_none]; intro x hx; rw [hn x (by simpa using hx)]; simp
  unfold dirR; rw [e]
theorem strs_at {l : List (List UInt8)} {i : Nat} (hi : i < l.length) : (strs l)[i]? = some (str (l.getD i [])) := by
  simp [strs, List.getD, List.getElem?_eq_getElem hi]
theorem lit1 {w : World} {g i : Nat} {t : TypeId} {l : List (List UInt8)} (h : Blk w g t (strs l)) (hi : i < l.length) : w.cell? ((⟨g, 0, none⟩ : Addr).add ((i : Int).toNat * 1)) = some (str (l.getD i [])) := by
  rw [Int.toNat_natCast, Nat.mul_one]; exact h.at (strs_at hi)
theorem ints_at : ∀ {i : Nat}, i < 7 → ([.int .i64 4, .int .i64 1, .int .i64 2, .int .i64 5, .int .i64 3, .int .i64 6, .int .i64 7] : List Value)[i]? = some (.int .i64 (dDirs.getD i 0)) := fun {i} hi => by
  have : i = 0 ∨ i = 1 ∨ i = 2 ∨ i = 3 ∨ i = 4 ∨ i = 5 ∨ i = 6 := by omega
  rcases this with rfl | rfl | rfl | rfl | rfl | rfl | rfl <;> rfl
theorem RDir_r (o c : List UInt8) (w : World) : Ret Tryz.prog 17 [str o, str c] w fun v w' => v = .int .i64 (dirR o c) ∧ Below w.heap.size w w' := by
  have hb := Below.refl w.heap.size w
  refine enter Tryz.func17 rfl rfl rfl ?_
  refine Wc.seq fun _ hK_1 => Wc.region <| Wl.sg rfl rfl <| Wl.nil <| Wq.next hK_1 <| Wc.seq fun _ hK_3 => Wc.region ?_
  refine Wl.litN (sz := 1) (vs := [_, _, _, _, _, _, _]) Tryz.underlying45 (by kernel_rfl) rfl rfl rfl rfl rfl rfl ?_
  rintro g_b0 w_b0 hg_b0 hn_b0 hs_b0
  have hz_b0 := hs_b0.size
  have hb := hb.trans (hs_b0.mono hb.size)
  have hB_b0 := hn_b0
  have hl_b0 := hB_b0.lt
  refine Wl.sg rfl rfl <| Wl.nil <| Wq.next hK_3 <| Wc.seq fun _ hK_6 => Wc.region ?_
  refine Wl.litN (sz := 1) (vs := [_, _, _, _, _, _, _]) Tryz.underlying45 (by kernel_rfl) rfl rfl rfl rfl rfl rfl ?_
  rintro g_b1 w_b1 hg_b1 hn_b1 hs_b1
  have hz_b1 := hs_b1.size
  have hb := hb.trans (hs_b1.mono hb.size)
  try have hB_b0 := Blk.below hB_b0 hs_b1
  have hB_b1 := hn_b1
  have hl_b1 := hB_b1.lt
  refine Wl.sg rfl rfl <| Wl.nil <| Wq.next hK_6 <| Wc.seq fun _ hK_9 => Wc.region ?_
  refine Wl.litN (sz := 1) (vs := [_, _, _, _, _, _, _]) Tryz.underlying45 (by kernel_rfl) rfl rfl rfl rfl rfl rfl ?_
  rintro g_b2 w_b2 hg_b2 hn_b2 hs_b2
  have hz_b2 := hs_b2.size
  have hb := hb.trans (hs_b2.mono hb.size)
  try have hB_b0 := Blk.below hB_b0 hs_b2
  try have hB_b1 := Blk.below hB_b1 hs_b2
  have hB_b2 := hn_b2
  have hl_b2 := hB_b2.lt
  refine Wl.sg rfl rfl <| Wl.nil <| Wq.next hK_9 <| Wc.seq fun _ hK_12 => Wc.region ?_
  refine Wl.litN (sz := 1) (vs := [_, _, _, _, _, _, _]) Tryz.underlying76 (by kernel_rfl) rfl rfl rfl rfl rfl rfl ?_
  rintro g_b3 w_b3 hg_b3 hn_b3 hs_b3
  have hz_b3 := hs_b3.size
  have hb := hb.trans (hs_b3.mono hb.size)
  try have hB_b0 := Blk.below hB_b0 hs_b3
  try have hB_b1 := Blk.below hB_b1 hs_b3
  try have hB_b2 := Blk.below hB_b2 hs_b3
  have hB_b3 := hn_b3
  have hl_b3 := hB_b3.lt
  refine Wl.sg rfl rfl <| Wl.nil <| Wq.next hK_12 <| Wc.seq fun _ hK_15 => Wc.seq fun _ hK_16 => Wc.region <| Wl.sg rfl rfl <| Wl.nil <| Wq.next hK_16 <| Wc.block ?_
  refine Wc.loop (X := Nat) (fun i => [(0, str o), (1, str c), (5, .slice (some ⟨g_b0, 0, none⟩) 7 7), (6, .slice (some ⟨g_b1, 0, none⟩) 7 7), (7, .slice (some ⟨g_b2, 0, none⟩) 7 7), (8, .slice (some ⟨g_b3, 0, none⟩) 7 7), (9, .int .i64 (i : Int))]) (fun i wr => i ≤ 7 ∧ (∀ j, j < i → dirI o c j = false) ∧ Below w.heap.size w wr ∧ Blk wr g_b0 9 (strs dOpens) ∧ Blk wr g_b1 9 (strs dCloses) ∧ Blk wr g_b2 9 (strs dShorts) ∧ Blk wr g_b3 3 [.int .i64 4, .int .i64 1, .int .i64 2, .int .i64 5, .int .i64 3, .int .i64 6, .int .i64 7]) (fun i => 7 - i) (0) ?_ ?_ ?_
  · exact by repeat first | exact Sub.nil | refine Sub.cons' rfl (by first | rfl | exact int_eq (by omega)) ?_
  · exact ⟨by omega, fun j h => by omega, hb, hB_b0, hB_b1, hB_b2, hB_b3⟩
  rintro i wr hI_19 _ hL_18
  replace hI_19 : i ≤ 7 ∧ (∀ j, j < i → dirI o c j = false) ∧ Below w.heap.size w wr ∧ Blk wr g_b0 9 (strs dOpens) ∧ Blk wr g_b1 9 (strs dCloses) ∧ Blk wr g_b2 9 (strs dShorts) ∧ Blk wr g_b3 3 [.int .i64 4, .int .i64 1, .int .i64 2, .int .i64 5, .int .i64 3, .int .i64 6, .int .i64 7] := hI_19
  obtain ⟨hi, hall, hb, hB_b0, hB_b1, hB_b2, hB_b3⟩ := hI_19
  show Wc _ _ _ _ _ [(0, str o), (1, str c), (5, .slice (some ⟨g_b0, 0, none⟩) 7 7), (6, .slice (some ⟨g_b1, 0, none⟩) 7 7), (7, .slice (some ⟨g_b2, 0, none⟩) 7 7), (8, .slice (some ⟨g_b3, 0, none⟩) 7 7), (9, .int .i64 (i : Int))] _
  try have hzhb_L0 := hb.size
  have hlhB_b0_L0 := hB_b0.lt
  have hlhB_b1_L0 := hB_b1.lt
  have hlhB_b2_L0 := hB_b2.lt
  have hlhB_b3_L0 := hB_b3.lt
  refine Wc.seq fun _ hK_20 => Wc.seq fun _ hK_21 => Wc.region <| Wl.mv rfl rfl <| Wl.y (y_lssi rfl rfl) rfl <| Wl.nil <| Wq.next hK_21 ?_
  refine Wc.cond rfl (fun c0_24 => ?_) (fun c0_24 => ?_)
  ·
   have c0_24_ := c0_24
   try simp only [DZ] at c0_24
   have hi7 : i < 7 := by have := c0_24; omega
   refine Wc.skip <| Wq.next hK_20 <| Wc.seq fun _ hK_25 => Wc.block <| Wc.seq fun _ hK_26 => ?_
   refine Wc.meet (X := Bool) (fun q => [(0, str o), (1, str c), (5, .slice (some ⟨g_b0, 0, none⟩) 7 7), (6, .slice (some ⟨g_b1, 0, none⟩) 7 7), (7, .slice (some ⟨g_b2, 0, none⟩) 7 7), (8, .slice (some ⟨g_b3, 0, none⟩) 7 7), (9, .int .i64 (i : Int)), (47, .bool q)]) (fun q wr => q = dirI o c i ∧ Below w.heap.size w wr ∧ Blk wr g_b0 9 (strs dOpens) ∧ Blk wr g_b1 9 (strs dCloses) ∧ Blk wr g_b2 9 (strs dShorts) ∧ Blk wr g_b3 3 [.int .i64 4, .int .i64 1, .int .i64 2, .int .i64 5, .int .i64 3, .int .i64 6, .int .i64 7]) (fun _ hM_27 => ?_) ?_
   ·
    refine Wc.region <| Wl.mv rfl rfl <| Wl.y (y_eqls rfl rfl) rfl <| Wl.mv rfl rfl ?_
    refine Wl.guardT rfl rfl rfl (fun g_31 => ?_) (fun g_31 => ?_)
    ·
     have g_31_ := g_31
     try simp only [DZ] at g_31
     refine Wl.mv rfl rfl <| Wl.on' rfl rfl g_31_ <| Wl.mv rfl rfl <| Wl.on' rfl rfl g_31_ ?_
     refine Wl.y (y_indexAddr Tryz.underlying45 sz9PsY rfl rfl (by omega) (by omega)) rfl ?_
     refine Wl.on' rfl rfl g_31_ ?_
     refine Wl.l (l_load one9PsY rfl (by exact lit1 hB_b2 (show i < dShorts.length from hi7))) rfl ?_
     refine Wl.on' rfl rfl g_31_ <| Wl.mv rfl rfl <| Wl.on' rfl rfl g_31_ <| Wl.y (y_eqls rfl rfl) rfl ?_
     refine Wl.y (y_pickT rfl g_31_ rfl) rfl ?_
     refine Wl.mv rfl rfl ?_
     refine Wl.guardF rfl rfl rfl (fun g_40 => ?_) (fun g_40 => ?_)
     ·
      have g_40_ := g_40
      try simp only [DZ] at g_40
      refine Wl.off' rfl rfl g_40_ rfl rfl <| Wl.off' rfl rfl g_40_ rfl rfl <| Wl.offU rfl rfl rfl <| Wl.offU rfl rfl rfl <| Wl.offU rfl rfl rfl <| Wl.offU rfl rfl rfl <| Wl.offU rfl rfl rfl <| Wl.offU rfl rfl rfl <| Wl.off' rfl rfl g_40_ rfl rfl <| Wl.off' rfl rfl g_40_ rfl rfl ?_
      refine Wl.offU rfl rfl rfl <| Wl.offU rfl rfl rfl <| Wl.offU rfl rfl rfl <| Wl.offU rfl rfl rfl <| Wl.offU rfl rfl rfl <| Wl.offU rfl rfl rfl <| Wl.off' rfl rfl g_40_ rfl rfl ?_
      refine Wl.y (y_pickT rfl g_40_ rfl) rfl ?_
      refine Wl.nil ?_
      refine Wq.meet hM_27 (dirI o c i) (by repeat first | exact Sub.nil | refine Sub.cons' rfl (by first | rfl | exact bool_eq (by unfold dirI; rw [Bool.eq_iff_iff]; simp_all)) ?_) ?_
      exact ⟨rfl, hb, hB_b0, hB_b1, hB_b2, hB_b3⟩
     have g_40_ := g_40
     try simp only [DZ] at g_40
     refine Wl.mv rfl rfl <| Wl.on' rfl rfl g_40_ <| Wl.y (y_neqs rfl rfl) rfl <| Wl.on' rfl rfl g_40_ <| Wl.mv rfl rfl ?_
     refine Wl.guardT rfl rfl rfl (fun g_45 => ?_) (fun g_45 => ?_)
     ·
      have g_45_ := g_45
      try simp only [DZ] at g_45
      refine Wl.mv rfl rfl <| Wl.on' rfl rfl g_45_ <| Wl.mv rfl rfl <| Wl.on' rfl rfl g_45_ ?_
      refine Wl.y (y_indexAddr Tryz.underlying45 sz9PsY rfl rfl (by omega) (by omega)) rfl ?_
      refine Wl.on' rfl rfl g_45_ ?_
      refine Wl.l (l_load one9PsY rfl (by exact lit1 hB_b0 (show i < dOpens.length from hi7))) rfl ?_
      refine Wl.on' rfl rfl g_45_ <| Wl.mv rfl rfl <| Wl.on' rfl rfl g_45_ <| Wl.y (y_eqls rfl rfl) rfl <| Wl.on' rfl rfl g_40_ ?_
      refine Wl.y (y_pickT rfl g_45_ rfl) rfl ?_
      refine Wl.on' rfl rfl g_40_ <| Wl.mv rfl rfl ?_
      refine Wl.guardT rfl rfl rfl (fun g_54 => ?_) (fun g_54 => ?_)
      ·
       have g_54_ := g_54
       try simp only [DZ] at g_54
       refine Wl.mv rfl rfl <| Wl.on' rfl rfl g_54_ <| Wl.mv rfl rfl <| Wl.on' rfl rfl g_54_ ?_
       refine Wl.y (y_indexAddr Tryz.underlying45 sz9PsY rfl rfl (by omega) (by omega)) rfl ?_
       refine Wl.on' rfl rfl g_54_ ?_
       refine Wl.l (l_load one9PsY rfl (by exact lit1 hB_b1 (show i < dCloses.length from hi7))) rfl ?_
       refine Wl.on' rfl rfl g_54_ <| Wl.mv rfl rfl <| Wl.on' rfl rfl g_54_ <| Wl.y (y_eqls rfl rfl) rfl <| Wl.on' rfl rfl g_40_ ?_
       refine Wl.y (y_pickT rfl g_54_ rfl) rfl ?_
       refine Wl.y (y_pickF rfl g_40_ rfl) rfl ?_
       refine Wl.nil ?_
       refine Wq.meet hM_27 (dirI o c i) (by repeat first | exact Sub.nil | refine Sub.cons' rfl (by first | rfl | exact bool_eq (by unfold dirI; rw [Bool.eq_iff_iff]; simp_all)) ?_) ?_
       exact ⟨rfl, hb, hB_b0, hB_b1, hB_b2, hB_b3⟩
      have g_54_ := g_54
      try simp only [DZ] at g_54
      refine Wl.off' rfl rfl g_54_ rfl rfl <| Wl.off' rfl rfl g_54_ rfl rfl <| Wl.off' rfl rfl g_54_ rfl rfl <| Wl.off' rfl rfl g_54_ rfl rfl <| Wl.off' rfl rfl g_54_ rfl rfl <| Wl.on' rfl rfl g_40_ ?_
      refine Wl.y (y_pickF rfl g_54_ rfl) rfl ?_
      refine Wl.y (y_pickF rfl g_40_ rfl) rfl ?_
      refine Wl.nil ?_
      refine Wq.meet hM_27 (dirI o c i) (by repeat first | exact Sub.nil | refine Sub.cons' rfl (by first | rfl | exact bool_eq (by unfold dirI; rw [Bool.eq_iff_iff]; simp_all)) ?_) ?_
      exact ⟨rfl, hb, hB_b0, hB_b1, hB_b2, hB_b3⟩
     have g_45_ := g_45
     try simp only [DZ] at g_45
     refine Wl.off' rfl rfl g_45_ rfl rfl <| Wl.off' rfl rfl g_45_ rfl rfl <| Wl.off' rfl rfl g_45_ rfl rfl <| Wl.off' rfl rfl g_45_ rfl rfl <| Wl.off' rfl rfl g_45_ rfl rfl <| Wl.on' rfl rfl g_40_ ?_
     refine Wl.y (y_pickF rfl g_45_ rfl) rfl ?_
     refine Wl.on' rfl rfl g_40_ <| Wl.mv rfl rfl <| Wl.off' rfl rfl rfl rfl rfl <| Wl.off' rfl rfl rfl rfl rfl <| Wl.off' rfl rfl rfl rfl rfl <| Wl.off' rfl rfl rfl rfl rfl <| Wl.off' rfl rfl rfl rfl rfl <| Wl.off' rfl rfl rfl rfl rfl <| Wl.on' rfl rfl g_40_ <| Wl.y (y_pickF rfl rfl rfl) rfl ?_
     refine Wl.y (y_pickF rfl g_40_ rfl) rfl ?_
     refine Wl.nil ?_
     refine Wq.meet hM_27 (dirI o c i) (by repeat first | exact Sub.nil | refine Sub.cons' rfl (by first | rfl | exact bool_eq (by unfold dirI; rw [Bool.eq_iff_iff]; simp_all)) ?_) ?_
     exact ⟨rfl, hb, hB_b0, hB_b1, hB_b2, hB_b3⟩
    have g_31_ := g_31
    try simp only [DZ] at g_31
    refine Wl.off' rfl rfl g_31_ rfl rfl <| Wl.off' rfl rfl g_31_ rfl rfl <| Wl.off' rfl rfl g_31_ rfl rfl <| Wl.off' rfl rfl g_31_ rfl rfl <| Wl.off' rfl rfl g_31_ rfl rfl ?_
    refine Wl.y (y_pickF rfl g_31_ rfl) rfl ?_
    refine Wl.mv rfl rfl <| Wl.on' rfl rfl rfl <| Wl.mv rfl rfl <| Wl.on' rfl rfl rfl <| Wl.y (y_neqs rfl rfl) rfl <| Wl.on' rfl rfl rfl <| Wl.mv rfl rfl ?_
    refine Wl.guardT rfl rfl rfl (fun g_74 => ?_) (fun g_74 => ?_)
    ·
     have g_74_ := g_74
     try simp only [DZ] at g_74
     refine Wl.mv rfl rfl <| Wl.on' rfl rfl g_74_ <| Wl.mv rfl rfl <| Wl.on' rfl rfl g_74_ ?_
     refine Wl.y (y_indexAddr Tryz.underlying45 sz9PsY rfl rfl (by omega) (by omega)) rfl ?_
     refine Wl.on' rfl rfl g_74_ ?_
     refine Wl.l (l_load one9PsY rfl (by exact lit1 hB_b0 (show i < dOpens.length from hi7))) rfl ?_
     refine Wl.on' rfl rfl g_74_ <| Wl.mv rfl rfl <| Wl.on' rfl rfl g_74_ <| Wl.y (y_eqls rfl rfl) rfl <| Wl.on' rfl rfl rfl ?_
     refine Wl.y (y_pickT rfl g_74_ rfl) rfl ?_
     refine Wl.on' rfl rfl rfl <| Wl.mv rfl rfl ?_
     refine Wl.guardT rfl rfl rfl (fun g_83 => ?_) (fun g_83 => ?_)
     ·
      have g_83_ := g_83
      try simp only [DZ] at g_83
      refine Wl.mv rfl rfl <| Wl.on' rfl rfl g_83_ <| Wl.mv rfl rfl <| Wl.on' rfl rfl g_83_ ?_
      refine Wl.y (y_indexAddr Tryz.underlying45 sz9PsY rfl rfl (by omega) (by omega)) rfl ?_
      refine Wl.on' rfl rfl g_83_ ?_
      refine Wl.l (l_load one9PsY rfl (by exact lit1 hB_b1 (show i < dCloses.length from hi7))) rfl ?_
      refine Wl.on' rfl rfl g_83_ <| Wl.mv rfl rfl <| Wl.on' rfl rfl g_83_ <| Wl.y (y_eqls rfl rfl) rfl <| Wl.on' rfl rfl rfl ?_
      refine Wl.y (y_pickT rfl g_83_ rfl) rfl ?_
      refine Wl.y (y_pickF rfl rfl rfl) rfl <| Wl.nil ?_
      refine Wq.meet hM_27 (dirI o c i) (by repeat first | exact Sub.nil | refine Sub.cons' rfl (by first | rfl | exact bool_eq (by unfold dirI; rw [Bool.eq_iff_iff]; simp_all)) ?_) ?_
      exact ⟨rfl, hb, hB_b0, hB_b1, hB_b2, hB_b3⟩
     have g_83_ := g_83
     try simp only [DZ] at g_83
     refine Wl.off' rfl rfl g_83_ rfl rfl <| Wl.off' rfl rfl g_83_ rfl rfl <| Wl.off' rfl rfl g_83_ rfl rfl <| Wl.off' rfl rfl g_83_ rfl rfl <| Wl.off' rfl rfl g_83_ rfl rfl <| Wl.on' rfl rfl rfl ?_
     refine Wl.y (y_pickF rfl g_83_ rfl) rfl ?_
     refine Wl.y (y_pickF rfl rfl rfl) rfl <| Wl.nil ?_
     refine Wq.meet hM_27 (dirI o c i) (by repeat first | exact Sub.nil | refine Sub.cons' rfl (by first | rfl | exact bool_eq (by unfold dirI; rw [Bool.eq_iff_iff]; simp_all)) ?_) ?_
     exact ⟨rfl, hb, hB_b0, hB_b1, hB_b2, hB_b3⟩
    have g_74_ := g_74
    try simp only [DZ] at g_74
    refine Wl.off' rfl rfl g_74_ rfl rfl <| Wl.off' rfl rfl g_74_ rfl rfl <| Wl.off' rfl rfl g_74_ rfl rfl <| Wl.off' rfl rfl g_74_ rfl rfl <| Wl.off' rfl rfl g_74_ rfl rfl <| Wl.on' rfl rfl rfl ?_
    refine Wl.y (y_pickF rfl g_74_ rfl) rfl ?_
    refine Wl.on' rfl rfl rfl <| Wl.mv rfl rfl <| Wl.off' rfl rfl rfl rfl rfl <| Wl.off' rfl rfl rfl rfl rfl <| Wl.off' rfl rfl rfl rfl rfl <| Wl.off' rfl rfl rfl rfl rfl <| Wl.off' rfl rfl rfl rfl rfl <| Wl.off' rfl rfl rfl rfl rfl <| Wl.on' rfl rfl rfl <| Wl.y (y_pickF rfl rfl rfl) rfl ?_
    refine Wl.y (y_pickF rfl rfl rfl) rfl <| Wl.nil ?_
    refine Wq.meet hM_27 (dirI o c i) (by repeat first | exact Sub.nil | refine Sub.cons' rfl (by first | rfl | exact bool_eq (by unfold dirI; rw [Bool.eq_iff_iff]; simp_all)) ?_) ?_
    exact ⟨rfl, hb, hB_b0, hB_b1, hB_b2, hB_b3⟩
   rintro q wr hI_98
   replace hI_98 : q = dirI o c i ∧ Below w.heap.size w wr ∧ Blk wr g_b0 9 (strs dOpens) ∧ Blk wr g_b1 9 (strs dCloses) ∧ Blk wr g_b2 9 (strs dShorts) ∧ Blk wr g_b3 3 [.int .i64 4, .int .i64 1, .int .i64 2, .int .i64 5, .int .i64 3, .int .i64 6, .int .i64 7] := hI_98
   obtain ⟨hq, hb, hB_b0, hB_b1, hB_b2, hB_b3⟩ := hI_98
   show Wq _ _ _ _ [(0, str o), (1, str c), (5, .slice (some ⟨g_b0, 0, none⟩) 7 7), (6, .slice (some ⟨g_b1, 0, none⟩) 7 7), (7, .slice (some ⟨g_b2, 0, none⟩) 7 7), (8, .slice (some ⟨g_b3, 0, none⟩) 7 7), (9, .int .i64 (i : Int)), (47, .bool q)] _
   try have hzhb_g7 := hb.size
   have hlhB_b0_g7 := hB_b0.lt
   have hlhB_b1_g7 := hB_b1.lt
   have hlhB_b2_g7 := hB_b2.lt
   have hlhB_b3_g7 := hB_b3.lt
   refine Wq.next hK_26 ?_
   refine Wc.cond rfl (fun c1_99 => ?_) (fun c1_99 => ?_)
   ·
    have c1_99_ := c1_99
    try simp only [DZ] at c1_99
    have hyes : dirI o c i = true := hq.symm.trans c1_99_
    refine Wc.seq fun _ hK_100 => Wc.region <| Wl.mv rfl rfl <| Wl.mv rfl rfl ?_
    refine Wl.y (y_indexAddr Tryz.underlying76 sz3PsY rfl rfl (by omega) (by omega)) rfl ?_
    refine Wl.l (l_load one3PsY rfl (by exact by rw [Int.toNat_natCast, Nat.mul_one]; exact hB_b3.at (ints_at hi7))) rfl ?_
    refine Wl.sg rfl rfl <| Wl.nil <| Wq.next hK_100 <| Wc.ret ?_
    refine Wq.block_ret (Wq.then_ret (Wq.then_ret (Wq.block_ret (Wq.then_ret ?_))))
    refine ret1 rfl rfl ?_
    exact ⟨_, rfl, int_eq (dirR_at hi7 hyes hall).symm, hb⟩
   have c1_99_ := c1_99
   try simp only [DZ] at c1_99
   have hno : dirI o c i = false := hq.symm.trans c1_99_
   refine Wc.skip <| Wq.block_normal <| Wq.next hK_25 <| Wc.region <| Wl.mv rfl rfl ?_
   refine Wl.y (y_addI rfl rfl (by first | omega | (simp; done) | (simp; omega)) (by first | omega | (simp; done) | (simp; omega))) rfl ?_
   refine Wl.sg rfl rfl <| Wl.nil ?_
   refine fun a_ ha_ => hL_18 _ _ (i + 1) (by first | omega | (simp; omega)) (by repeat first | exact Sub.nil | refine Sub.cons' rfl (by first | rfl | exact int_eq (by omega)) ?_) ?_ a_ ha_
   exact ⟨by omega, fun j hj => by (by_cases e : j = i); (· rw [e]; exact hno); (· exact hall j (by omega)), hb, hB_b0, hB_b1, hB_b2, hB_b3⟩
  have c0_24_ := c0_24
  try simp only [DZ] at c0_24
  refine Wc.exit ?_
  refine Wq.then_exit <| Wq.then_exit <| Wq.block_exit <| Wq.next hK_15 <| Wc.seq fun _ hK_109 => Wc.region <| Wl.sg rfl rfl <| Wl.nil <| Wq.next hK_109 <| Wc.ret ?_
  refine ret1 rfl rfl ?_
  exact ⟨_, rfl, int_eq (dirR_no (fun j hj => hall j (by have := c0_24; omega))).symm, hb⟩
end Go.Proofs.YtjnabgddjogkbaaGreatDoor
