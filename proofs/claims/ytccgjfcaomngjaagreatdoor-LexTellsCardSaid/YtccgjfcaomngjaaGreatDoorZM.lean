/- The reference of package lex, by the calculus: one, Lex. · The reference of package lex, by the calculus: one token. -/
import Derived.Test.YtccgjfcaomngjaaGreatDoorZL
import Derived.Test.YtccgjfcaomngjaaGreatDoorZQ
namespace Go.Proofs.YtccgjfcaomngjaaGreatDoor
open Go.RowKit Go.Bw Go.Bw.Fl
set_option linter.unusedVariables false
set_option linter.unusedSimpArgs false
theorem one9RLex : One Tryz.prog 9 := ⟨_, Tryz.underlying9, rfl, by kernel_rfl⟩
theorem sz9RLex : (Tryz.prog.info? 9).map (·.size) = some 1 := by kernel_rfl
theorem RIn_r (A : Option Addr) (c : Nat) (l : List (List UInt8)) (x : List UInt8) (hl : l.length ≤ 281474976710656) (w : World) (hR : Rd w 1 A l.length (strs l)) : Ret Tryz.prog 82 [.slice A l.length c, str x] w fun v w' => v = .bool (decide (x ∈ l)) ∧ Below w.heap.size w w' := by
  have hb := Below.refl w.heap.size w
  have hR_hb := hR
  refine enter Tryz.func82 rfl rfl rfl ?_
  refine Wc.seq fun _ hK_1 => Wc.region <| Wl.sg rfl rfl <| Wl.nil <| Wq.next hK_1 <| Wc.seq fun _ hK_3 => Wc.seq fun _ hK_4 => Wc.region <| Wl.sg rfl rfl <| Wl.nil ?_
  refine Wq.next hK_4 <| Wc.block ?_
  refine Wc.loop (X := Nat) (fun i => [(0, .slice A l.length c), (1, str x), (5, .int .i64 (i : Int))]) (fun i wr => i ≤ l.length ∧ (∀ j, j < i → l.getD j [] ≠ x) ∧ Below w.heap.size w wr) (fun i => l.length - i) (0) ?_ ?_ ?_
  · exact Sub.cons' rfl (by first | rfl | exact int_eq (by omega)) (Sub.cons' rfl (by first | rfl | exact int_eq (by omega)) (Sub.cons' rfl (by first | rfl | exact int_eq (by omega)) (Sub.nil)))
  · exact ⟨by omega, fun j h => by omega, hb⟩
  rintro i wr hI_7 _ hL_6
  replace hI_7 : i ≤ l.length ∧ (∀ j, j < i → l.getD j [] ≠ x) ∧ Below w.heap.size w wr := hI_7
  obtain ⟨hi, hall, hb⟩ := hI_7
  show Wc _ _ _ _ _ [(0, .slice A l.length c), (1, str x), (5, .int .i64 (i : Int))] _
  have hR := hR_hb.below hb
  try have hzhb_L0 := hb.size
  refine Wc.seq fun _ hK_8 => Wc.seq fun _ hK_9 => Wc.region <| Wl.mv rfl rfl <| Wl.mv rfl rfl ?_
  refine Wl.y (y_lenl Tryz.underlying67 (by omega) rfl) rfl ?_
  refine Wl.y (y_lssi rfl rfl) rfl <| Wl.nil <| Wq.next hK_9 ?_
  refine Wc.cond rfl (fun c0_14 => ?_) (fun c0_14 => ?_)
  ·
   have c0_14_ := c0_14
   try simp only [DZ] at c0_14
   have hil : i < l.length := by have := c0_14; omega
   obtain ⟨p_, v_, hpe, hve, hcell⟩ := hR.one (i := i) hil
   subst hpe
   obtain rfl := strs_val hil hve
   refine Wc.skip <| Wq.next hK_8 <| Wc.seq fun _ hK_15 => Wc.block <| Wc.seq fun _ hK_16 => Wc.region <| Wl.mv rfl rfl <| Wl.mv rfl rfl ?_
   refine Wl.y (y_indexAddr Tryz.underlying67 sz9RLex rfl rfl (by omega) (by omega)) rfl ?_
   refine Wl.l (l_load one9RLex rfl (by exact at1 hcell)) rfl ?_
   refine Wl.mv rfl rfl <| Wl.y (y_eqls rfl rfl) rfl <| Wl.nil <| Wq.next hK_16 ?_
   refine Wc.cond rfl (fun c1_23 => ?_) (fun c1_23 => ?_)
   ·
    have c1_23_ := c1_23
    try simp only [DZ] at c1_23
    have heq : l.getD i [] = x := c1_23
    refine Wc.seq fun _ hK_24 => Wc.region <| Wl.sg rfl rfl <| Wl.nil <| Wq.next hK_24 <| Wc.ret ?_
    refine Wq.block_ret (Wq.then_ret (Wq.then_ret (Wq.block_ret (Wq.then_ret ?_))))
    refine ret1 rfl rfl ?_
    exact ⟨_, rfl, bool_eq (by rw [eq_comm, decide_eq_true_eq, ← heq]; simp [List.getD, List.getElem?_eq_getElem hil]), hb⟩
   have c1_23_ := c1_23
   try simp only [DZ] at c1_23
   have hne : l.getD i [] ≠ x := c1_23
   refine Wc.skip <| Wq.block_normal <| Wq.next hK_15 <| Wc.region <| Wl.mv rfl rfl ?_
   refine Wl.y (y_addI rfl rfl (by first | omega | (simp; done) | (simp; omega)) (by first | omega | (simp; done) | (simp; omega))) rfl ?_
   refine Wl.sg rfl rfl <| Wl.nil ?_
   refine fun a_ ha_ => hL_6 _ _ (i + 1) (by first | omega | (simp; omega)) (Sub.cons' rfl (by first | rfl | exact int_eq (by omega)) (Sub.cons' rfl (by first | rfl | exact int_eq (by omega)) (Sub.cons' rfl (by first | rfl | exact int_eq (by omega)) (Sub.nil)))) ?_ a_ ha_
   exact ⟨by omega, fun j hj => by (by_cases e : j = i); (· rw [e]; exact hne); (· exact hall j (by omega)), hb⟩
  have c0_14_ := c0_14
  try simp only [DZ] at c0_14
  refine Wc.exit ?_
  refine Wq.then_exit <| Wq.then_exit <| Wq.block_exit <| Wq.next hK_3 <| Wc.seq fun _ hK_29 => Wc.region <| Wl.sg rfl rfl <| Wl.nil <| Wq.next hK_29 <| Wc.ret ?_
  refine ret1 rfl rfl ?_
  exact ⟨_, rfl, bool_eq (by
  rw [eq_comm, decide_eq_false_iff_not]
  intro h
  obtain ⟨j, hj, e⟩ := List.mem_iff_getElem.1 h
  exact absurd (by simp [List.getD, List.getElem?_eq_getElem hj, e]) (hall j (by have := c0_14; omega))), hb⟩
theorem isLet_eq (c : UInt8) : isLet c = decide (c.toNat = 95 ∨ (48 ≤ c.toNat ∧ c.toNat ≤ 57) ∨ (65 ≤ c.toNat ∧ c.toNat ≤ 90) ∨ (97 ≤ c.toNat ∧ c.toNat ≤ 122)) := by
  have key : ∀ n : Fin 256, isLet (UInt8.ofNat n.val) = decide (n.val = 95 ∨ (48 ≤ n.val ∧ n.val ≤ 57) ∨ (65 ≤ n.val ∧ n.val ≤ 90) ∨ (97 ≤ n.val ∧ n.val ≤ 122)) := by decide +kernel
  have h2 := key ⟨c.toNat, UInt8.toNat_lt c⟩
  rw [show UInt8.ofNat c.toNat = c from UInt8.ofNat_toNat] at h2
  exact h2
theorem RPart_r (c : UInt8) (w : World) : Ret Tryz.prog 129 [.int .u8 (c.toNat : Int)] w fun v w' => v = .bool (isLet c) ∧ Below w.heap.size w w' := by
  have hcl := UInt8.toNat_lt c
  have hb := Below.refl w.heap.size w
  refine enter Tryz.func129 rfl rfl rfl ?_
  refine Wc.seq fun _ hK_1 => Wc.region <| Wl.sg rfl rfl <| Wl.nil <| Wq.next hK_1 <| Wc.seq fun _ hK_3 => ?_
  refine Wc.meet (X := Bool) (fun q => [(2, .bool q)]) (fun q wr => q = isLet c ∧ Below w.heap.size w wr) (fun _ hM_4 => ?_) ?_
  ·
   refine Wc.region <| Wl.mv rfl rfl <| Wl.y (y_eqli rfl rfl) rfl <| Wl.mv rfl rfl ?_
   refine Wl.guardF rfl rfl rfl (fun g_8 => ?_) (fun g_8 => ?_)
   ·
    have g_8_ := g_8
    try simp only [DZ] at g_8
    refine Wl.off' rfl rfl g_8_ rfl rfl <| Wl.off' rfl rfl g_8_ rfl rfl <| Wl.offU rfl rfl rfl <| Wl.offU rfl rfl rfl <| Wl.off' rfl rfl g_8_ rfl rfl ?_
    refine Wl.y (y_pickT rfl g_8_ rfl) rfl ?_
    refine Wl.mv rfl rfl <| Wl.off' rfl rfl rfl rfl rfl <| Wl.off' rfl rfl rfl rfl rfl <| Wl.off' rfl rfl rfl rfl rfl <| Wl.offU rfl rfl rfl <| Wl.offU rfl rfl rfl <| Wl.off' rfl rfl rfl rfl rfl <| Wl.y (y_pickT rfl rfl rfl) rfl <| Wl.mv rfl rfl <| Wl.off' rfl rfl rfl rfl rfl ?_
    refine Wl.off' rfl rfl rfl rfl rfl <| Wl.off' rfl rfl rfl rfl rfl <| Wl.offU rfl rfl rfl <| Wl.offU rfl rfl rfl <| Wl.off' rfl rfl rfl rfl rfl <| Wl.y (y_pickT rfl rfl rfl) rfl <| Wl.sg rfl rfl <| Wl.nil ?_
    refine Wq.meet hM_4 (isLet c) (Sub.cons' rfl (by first | rfl | exact bool_eq (by rw [isLet_eq, Bool.eq_iff_iff]; simp <;> omega)) (Sub.nil)) ?_
    exact ⟨rfl, hb⟩
   have g_8_ := g_8
   try simp only [DZ] at g_8
   refine Wl.mv rfl rfl <| Wl.on' rfl rfl g_8_ <| Wl.y (y_geqi rfl rfl) rfl <| Wl.on' rfl rfl g_8_ <| Wl.mv rfl rfl ?_
   refine Wl.guardT rfl rfl rfl (fun g_18 => ?_) (fun g_18 => ?_)
   ·
    have g_18_ := g_18
    try simp only [DZ] at g_18
    refine Wl.mv rfl rfl <| Wl.on' rfl rfl g_18_ <| Wl.y (y_leqi rfl rfl) rfl <| Wl.on' rfl rfl g_8_ ?_
    refine Wl.y (y_pickT rfl g_18_ rfl) rfl ?_
    refine Wl.y (y_pickF rfl g_8_ rfl) rfl ?_
    refine Wl.mv rfl rfl ?_
    refine Wl.guardF rfl rfl rfl (fun g_24 => ?_) (fun g_24 => ?_)
    ·
     have g_24_ := g_24
     try simp only [DZ] at g_24
     refine Wl.off' rfl rfl g_24_ rfl rfl <| Wl.off' rfl rfl g_24_ rfl rfl <| Wl.offU rfl rfl rfl <| Wl.offU rfl rfl rfl <| Wl.off' rfl rfl g_24_ rfl rfl ?_
     refine Wl.y (y_pickT rfl g_24_ rfl) rfl ?_
     refine Wl.mv rfl rfl <| Wl.off' rfl rfl rfl rfl rfl <| Wl.off' rfl rfl rfl rfl rfl <| Wl.off' rfl rfl rfl rfl rfl <| Wl.offU rfl rfl rfl <| Wl.offU rfl rfl rfl <| Wl.off' rfl rfl rfl rfl rfl <| Wl.y (y_pickT rfl rfl rfl) rfl <| Wl.sg rfl rfl <| Wl.nil ?_
     refine Wq.meet hM_4 (isLet c) (Sub.cons' rfl (by first | rfl | exact bool_eq (by rw [isLet_eq, Bool.eq_iff_iff]; simp <;> omega)) (Sub.nil)) ?_
     exact ⟨rfl, hb⟩
    have g_24_ := g_24
    try simp only [DZ] at g_24
    refine Wl.mv rfl rfl <| Wl.on' rfl rfl g_24_ <| Wl.y (y_geqi rfl rfl) rfl <| Wl.on' rfl rfl g_24_ <| Wl.mv rfl rfl ?_
    refine Wl.guardT rfl rfl rfl (fun g_32 => ?_) (fun g_32 => ?_)
    ·
     have g_32_ := g_32
     try simp only [DZ] at g_32
     refine Wl.mv rfl rfl <| Wl.on' rfl rfl g_32_ <| Wl.y (y_leqi rfl rfl) rfl <| Wl.on' rfl rfl g_24_ ?_
     refine Wl.y (y_pickT rfl g_32_ rfl) rfl ?_
     refine Wl.y (y_pickF rfl g_24_ rfl) rfl ?_
     refine Wl.mv rfl rfl ?_
     refine Wl.guardF rfl rfl rfl (fun g_38 => ?_) (fun g_38 => ?_)
     ·
      have g_38_ := g_38
      try simp only [DZ] at g_38
      refine Wl.off' rfl rfl g_38_ rfl rfl <| Wl.off' rfl rfl g_38_ rfl rfl <| Wl.offU rfl rfl rfl <| Wl.offU rfl rfl rfl <| Wl.off' rfl rfl g_38_ rfl rfl ?_
      refine Wl.y (y_pickT rfl g_38_ rfl) rfl ?_
      refine Wl.sg rfl rfl <| Wl.nil ?_
      refine Wq.meet hM_4 (isLet c) (Sub.cons' rfl (by first | rfl | exact bool_eq (by rw [isLet_eq, Bool.eq_iff_iff]; simp <;> omega)) (Sub.nil)) ?_
      exact ⟨rfl, hb⟩
     have g_38_ := g_38
     try simp only [DZ] at g_38
     refine Wl.mv rfl rfl <| Wl.on' rfl rfl g_38_ <| Wl.y (y_geqi rfl rfl) rfl <| Wl.on' rfl rfl g_38_ <| Wl.mv rfl rfl ?_
     refine Wl.guardT rfl rfl rfl (fun g_44 => ?_) (fun g_44 => ?_)
     ·
      have g_44_ := g_44
      try simp only [DZ] at g_44
      refine Wl.mv rfl rfl <| Wl.on' rfl rfl g_44_ <| Wl.y (y_leqi rfl rfl) rfl <| Wl.on' rfl rfl g_38_ ?_
      refine Wl.y (y_pickT rfl g_44_ rfl) rfl ?_
      refine Wl.y (y_pickF rfl g_38_ rfl) rfl ?_
      refine Wl.sg rfl rfl <| Wl.nil ?_
      refine Wq.meet hM_4 (isLet c) (Sub.cons' rfl (by first | rfl | exact bool_eq (by rw [isLet_eq, Bool.eq_iff_iff]; simp <;> omega)) (Sub.nil)) ?_
      exact ⟨rfl, hb⟩
     have g_44_ := g_44
     try simp only [DZ] at g_44
     refine Wl.off' rfl rfl g_44_ rfl rfl <| Wl.on' rfl rfl g_38_ ?_
     refine Wl.y (y_pickF rfl g_44_ rfl) rfl ?_
     refine Wl.y (y_pickF rfl g_38_ rfl) rfl ?_
     refine Wl.sg rfl rfl <| Wl.nil ?_
     refine Wq.meet hM_4 (isLet c) (Sub.cons' rfl (by first | rfl | exact bool_eq (by rw [isLet_eq, Bool.eq_iff_iff]; simp <;> omega)) (Sub.nil)) ?_
     exact ⟨rfl, hb⟩
    have g_32_ := g_32
    try simp only [DZ] at g_32
    refine Wl.off' rfl rfl g_32_ rfl rfl <| Wl.on' rfl rfl g_24_ ?_
    refine Wl.y (y_pickF rfl g_32_ rfl) rfl ?_
    refine Wl.y (y_pickF rfl g_24_ rfl) rfl ?_
    refine Wl.mv rfl rfl <| Wl.on' rfl rfl rfl <| Wl.mv rfl rfl <| Wl.on' rfl rfl rfl <| Wl.y (y_geqi rfl rfl) rfl <| Wl.on' rfl rfl rfl <| Wl.mv rfl rfl ?_
    refine Wl.guardT rfl rfl rfl (fun g_59 => ?_) (fun g_59 => ?_)
    ·
     have g_59_ := g_59
     try simp only [DZ] at g_59
     refine Wl.mv rfl rfl <| Wl.on' rfl rfl g_59_ <| Wl.y (y_leqi rfl rfl) rfl <| Wl.on' rfl rfl rfl ?_
     refine Wl.y (y_pickT rfl g_59_ rfl) rfl ?_
     refine Wl.y (y_pickF rfl rfl rfl) rfl <| Wl.sg rfl rfl <| Wl.nil ?_
     refine Wq.meet hM_4 (isLet c) (Sub.cons' rfl (by first | rfl | exact bool_eq (by rw [isLet_eq, Bool.eq_iff_iff]; simp <;> omega)) (Sub.nil)) ?_
     exact ⟨rfl, hb⟩
    have g_59_ := g_59
    try simp only [DZ] at g_59
    refine Wl.off' rfl rfl g_59_ rfl rfl <| Wl.on' rfl rfl rfl ?_
    refine Wl.y (y_pickF rfl g_59_ rfl) rfl ?_
    refine Wl.y (y_pickF rfl rfl rfl) rfl <| Wl.sg rfl rfl <| Wl.nil ?_
    refine Wq.meet hM_4 (isLet c) (Sub.cons' rfl (by first | rfl | exact bool_eq (by rw [isLet_eq, Bool.eq_iff_iff]; simp <;> omega)) (Sub.nil)) ?_
    exact ⟨rfl, hb⟩
   have g_18_ := g_18
   try simp only [DZ] at g_18
   refine Wl.off' rfl rfl g_18_ rfl rfl <| Wl.on' rfl rfl g_8_ ?_
   refine Wl.y (y_pickF rfl g_18_ rfl) rfl ?_
   refine Wl.y (y_pickF rfl g_8_ rfl) rfl ?_
   refine Wl.mv rfl rfl <| Wl.on' rfl rfl rfl <| Wl.mv rfl rfl <| Wl.on' rfl rfl rfl <| Wl.y (y_geqi rfl rfl) rfl <| Wl.on' rfl rfl rfl <| Wl.mv rfl rfl ?_
   refine Wl.guardT rfl rfl rfl (fun g_74 => ?_) (fun g_74 => ?_)
   ·
    have g_74_ := g_74
    try simp only [DZ] at g_74
    refine Wl.mv rfl rfl <| Wl.on' rfl rfl g_74_ <| Wl.y (y_leqi rfl rfl) rfl <| Wl.on' rfl rfl rfl ?_
    refine Wl.y (y_pickT rfl g_74_ rfl) rfl ?_
    refine Wl.y (y_pickF rfl rfl rfl) rfl <| Wl.mv rfl rfl ?_
    refine Wl.guardF rfl rfl rfl (fun g_80 => ?_) (fun g_80 => ?_)
    ·
     have g_80_ := g_80
     try simp only [DZ] at g_80
     refine Wl.off' rfl rfl g_80_ rfl rfl <| Wl.off' rfl rfl g_80_ rfl rfl <| Wl.offU rfl rfl rfl <| Wl.offU rfl rfl rfl <| Wl.off' rfl rfl g_80_ rfl rfl ?_
     refine Wl.y (y_pickT rfl g_80_ rfl) rfl ?_
     refine Wl.sg rfl rfl <| Wl.nil ?_
     refine Wq.meet hM_4 (isLet c) (Sub.cons' rfl (by first | rfl | exact bool_eq (by rw [isLet_eq, Bool.eq_iff_iff]; simp <;> omega)) (Sub.nil)) ?_
     exact ⟨rfl, hb⟩
    have g_80_ := g_80
    try simp only [DZ] at g_80
    refine Wl.mv rfl rfl <| Wl.on' rfl rfl g_80_ <| Wl.y (y_geqi rfl rfl) rfl <| Wl.on' rfl rfl g_80_ <| Wl.mv rfl rfl ?_
    refine Wl.guardT rfl rfl rfl (fun g_86 => ?_) (fun g_86 => ?_)
    ·
     have g_86_ := g_86
     try simp only [DZ] at g_86
     refine Wl.mv rfl rfl <| Wl.on' rfl rfl g_86_ <| Wl.y (y_leqi rfl rfl) rfl <| Wl.on' rfl rfl g_80_ ?_
     refine Wl.y (y_pickT rfl g_86_ rfl) rfl ?_
     refine Wl.y (y_pickF rfl g_80_ rfl) rfl ?_
     refine Wl.sg rfl rfl <| Wl.nil ?_
     refine Wq.meet hM_4 (isLet c) (Sub.cons' rfl (by first | rfl | exact bool_eq (by rw [isLet_eq, Bool.eq_iff_iff]; simp <;> omega)) (Sub.nil)) ?_
     exact ⟨rfl, hb⟩
    have g_86_ := g_86
    try simp only [DZ] at g_86
    refine Wl.off' rfl rfl g_86_ rfl rfl <| Wl.on' rfl rfl g_80_ ?_
    refine Wl.y (y_pickF rfl g_86_ rfl) rfl ?_
    refine Wl.y (y_pickF rfl g_80_ rfl) rfl ?_
    refine Wl.sg rfl rfl <| Wl.nil ?_
    refine Wq.meet hM_4 (isLet c) (Sub.cons' rfl (by first | rfl | exact bool_eq (by rw [isLet_eq, Bool.eq_iff_iff]; simp <;> omega)) (Sub.nil)) ?_
    exact ⟨rfl, hb⟩
   have g_74_ := g_74
   try simp only [DZ] at g_74
   refine Wl.off' rfl rfl g_74_ rfl rfl <| Wl.on' rfl rfl rfl ?_
   refine Wl.y (y_pickF rfl g_74_ rfl) rfl ?_
   refine Wl.y (y_pickF rfl rfl rfl) rfl <| Wl.mv rfl rfl <| Wl.on' rfl rfl rfl <| Wl.mv rfl rfl <| Wl.on' rfl rfl rfl <| Wl.y (y_geqi rfl rfl) rfl <| Wl.on' rfl rfl rfl <| Wl.mv rfl rfl ?_
   refine Wl.guardT rfl rfl rfl (fun g_101 => ?_) (fun g_101 => ?_)
   ·
    have g_101_ := g_101
    try simp only [DZ] at g_101
    refine Wl.mv rfl rfl <| Wl.on' rfl rfl g_101_ <| Wl.y (y_leqi rfl rfl) rfl <| Wl.on' rfl rfl rfl ?_
    refine Wl.y (y_pickT rfl g_101_ rfl) rfl ?_
    refine Wl.y (y_pickF rfl rfl rfl) rfl <| Wl.sg rfl rfl <| Wl.nil ?_
    refine Wq.meet hM_4 (isLet c) (Sub.cons' rfl (by first | rfl | exact bool_eq (by rw [isLet_eq, Bool.eq_iff_iff]; simp <;> omega)) (Sub.nil)) ?_
    exact ⟨rfl, hb⟩
   have g_101_ := g_101
   try simp only [DZ] at g_101
   refine Wl.off' rfl rfl g_101_ rfl rfl <| Wl.on' rfl rfl rfl ?_
   refine Wl.y (y_pickF rfl g_101_ rfl) rfl ?_
   refine Wl.y (y_pickF rfl rfl rfl) rfl <| Wl.sg rfl rfl <| Wl.nil ?_
   refine Wq.meet hM_4 (isLet c) (Sub.cons' rfl (by first | rfl | exact bool_eq (by rw [isLet_eq, Bool.eq_iff_iff]; simp <;> omega)) (Sub.nil)) ?_
   exact ⟨rfl, hb⟩
  rintro q wr hI_110
  replace hI_110 : q = isLet c ∧ Below w.heap.size w wr := hI_110
  obtain ⟨hq, hb⟩ := hI_110
  show Wq _ _ _ _ [(2, .bool q)] _
  try have hzhb_g1 := hb.size
  refine Wq.next hK_3 <| Wc.ret ?_
  refine ret1 rfl rfl ?_
  exact ⟨_, rfl, bool_eq hq, hb⟩
def wordA (s : List UInt8) : Bool := wordV s && s.all isLet
theorem wordA_let {s : List UInt8} (h : ∀ c, c ∈ s → isLet c = true) : wordA s = wordV s := by
  unfold wordA; rw [List.all_eq_true.2 h, Bool.and_true]
theorem RWord_r (s : List UInt8) (hs : s.length ≤ 281474976710656) (w : World) : Ret Tryz.prog 81 [str s] w fun v w' => v = .bool (wordA s) ∧ Below w.heap.size w w' := by
  have hb := Below.refl w.heap.size w
  refine enter Tryz.func81 rfl rfl rfl ?_
  refine Wc.seq fun _ hK_1 => Wc.region <| Wl.sg rfl rfl <| Wl.nil <| Wq.next hK_1 <| Wc.seq fun _ hK_3 => Wc.seq fun _ hK_4 => ?_
  refine Wc.meet (X := Bool) (fun q => [(0, str s), (21, .bool q)]) (fun q wr => q = (!wordV s) ∧ Below w.heap.size w wr) (fun _ hM_5 => ?_) ?_
  ·
   refine Wc.region <| Wl.mv rfl rfl <| Wl.y (y_eqls rfl rfl) rfl <| Wl.mv rfl rfl ?_
   refine Wl.guardF rfl rfl rfl (fun g_9 => ?_) (fun g_9 => ?_)
   ·
    have g_9_ := g_9
    try simp only [DZ] at g_9
    refine Wl.off' rfl rfl g_9_ rfl rfl <| Wl.off' rfl rfl g_9_ rfl rfl ?_
    refine Wl.y (y_pickT rfl g_9_ rfl) rfl ?_
    refine Wl.mv rfl rfl <| Wl.off' rfl rfl rfl rfl rfl <| Wl.off' rfl rfl rfl rfl rfl <| Wl.off' rfl rfl rfl rfl rfl <| Wl.off' rfl rfl rfl rfl rfl <| Wl.offU rfl rfl rfl <| Wl.offU rfl rfl rfl <| Wl.offU rfl rfl rfl <| Wl.off' rfl rfl rfl rfl rfl <| Wl.y (y_pickT rfl rfl rfl) rfl ?_
    refine Wl.nil ?_
    refine Wq.meet hM_5 (!wordV s) (Sub.cons' rfl (by first | rfl | exact bool_eq (by unfold wordV; rw [Bool.eq_iff_iff]; simp_all <;> omega)) (Sub.cons' rfl (by first | rfl | exact bool_eq (by unfold wordV; rw [Bool.eq_iff_iff]; simp_all <;> omega)) (Sub.nil))) ?_
    exact ⟨rfl, hb⟩
   have g_9_ := g_9
   try simp only [DZ] at g_9
   have hl0 : 0 < s.length := List.length_pos_iff.2 g_9
   refine Wl.mv rfl rfl <| Wl.on' rfl rfl g_9_ ?_
   refine Wl.y (y_lens Tryz.underlying9 (by omega) rfl) rfl ?_
   refine Wl.on' rfl rfl g_9_ <| Wl.y (y_gtri rfl rfl) rfl ?_
   refine Wl.y (y_pickF rfl g_9_ rfl) rfl ?_
   refine Wl.mv rfl rfl ?_
   refine Wl.guardF rfl rfl rfl (fun g_18 => ?_) (fun g_18 => ?_)
   ·
    have g_18_ := g_18
    try simp only [DZ] at g_18
    refine Wl.off' rfl rfl g_18_ rfl rfl <| Wl.off' rfl rfl g_18_ rfl rfl <| Wl.off' rfl rfl g_18_ rfl rfl <| Wl.offU rfl rfl rfl <| Wl.offU rfl rfl rfl <| Wl.offU rfl rfl rfl <| Wl.off' rfl rfl g_18_ rfl rfl ?_
    refine Wl.y (y_pickT rfl g_18_ rfl) rfl ?_
    refine Wl.nil ?_
    refine Wq.meet hM_5 (!wordV s) (Sub.cons' rfl (by first | rfl | exact bool_eq (by unfold wordV; rw [Bool.eq_iff_iff]; simp_all <;> omega)) (Sub.cons' rfl (by first | rfl | exact bool_eq (by unfold wordV; rw [Bool.eq_iff_iff]; simp_all <;> omega)) (Sub.nil))) ?_
    exact ⟨rfl, hb⟩
   have g_18_ := g_18
   try simp only [DZ] at g_18
   refine Wl.mv rfl rfl <| Wl.on' rfl rfl g_18_ ?_
   refine Wl.y (y_eq (y_indexs Tryz.underlying9 rfl rfl (by omega) (by omega)) ((show Value.int .u8 ((s.getD (0 : Int).toNat 0).toNat : Int) = .int .u8 ((s.getD 0 0).toNat : Int) from rfl))) rfl ?_
   refine Wl.on' rfl rfl g_18_ <| Wl.y (y_geqi rfl rfl) rfl <| Wl.on' rfl rfl g_18_ <| Wl.mv rfl rfl ?_
   refine Wl.guardT rfl rfl rfl (fun g_24 => ?_) (fun g_24 => ?_)
   ·
    have g_24_ := g_24
    try simp only [DZ] at g_24
    refine Wl.mv rfl rfl <| Wl.on' rfl rfl g_24_ ?_
    refine Wl.y (y_eq (y_indexs Tryz.underlying9 rfl rfl (by omega) (by omega)) ((show Value.int .u8 ((s.getD (0 : Int).toNat 0).toNat : Int) = .int .u8 ((s.getD 0 0).toNat : Int) from rfl))) rfl ?_
    refine Wl.on' rfl rfl g_24_ <| Wl.y (y_leqi rfl rfl) rfl <| Wl.on' rfl rfl g_18_ ?_
    refine Wl.y (y_pickT rfl g_24_ rfl) rfl ?_
    refine Wl.y (y_pickF rfl g_18_ rfl) rfl ?_
    refine Wl.nil ?_
    refine Wq.meet hM_5 (!wordV s) (Sub.cons' rfl (by first | rfl | exact bool_eq (by unfold wordV; rw [Bool.eq_iff_iff]; simp_all <;> omega)) (Sub.cons' rfl (by first | rfl | exact bool_eq (by unfold wordV; rw [Bool.eq_iff_iff]; simp_all <;> omega)) (Sub.nil))) ?_
    exact ⟨rfl, hb⟩
   have g_24_ := g_24
   try simp only [DZ] at g_24
   refine Wl.off' rfl rfl g_24_ rfl rfl <| Wl.off' rfl rfl g_24_ rfl rfl <| Wl.on' rfl rfl g_18_ ?_
   refine Wl.y (y_pickF rfl g_24_ rfl) rfl ?_
   refine Wl.y (y_pickF rfl g_18_ rfl) rfl ?_
   refine Wl.nil ?_
   refine Wq.meet hM_5 (!wordV s) (Sub.cons' rfl (by first | rfl | exact bool_eq (by unfold wordV; rw [Bool.eq_iff_iff]; simp_all <;> omega)) (Sub.cons' rfl (by first | rfl | exact bool_eq (by unfold wordV; rw [Bool.eq_iff_iff]; simp_all <;> omega)) (Sub.nil))) ?_
   exact ⟨rfl, hb⟩
  rintro q wr hI_32
  replace hI_32 : q = (!wordV s) ∧ Below w.heap.size w wr := hI_32
  obtain ⟨hq, hb⟩ := hI_32
  show Wq _ _ _ _ [(0, str s), (21, .bool q)] _
  try have hzhb_g1 := hb.size
  refine Wq.next hK_4 ?_
  refine Wc.cond rfl (fun c0_33 => ?_) (fun c0_33 => ?_)
  ·
   have c0_33_ := c0_33
   try simp only [DZ] at c0_33
   have hw : wordV s = false := by have h := hq.symm.trans c0_33_; simpa using h
   refine Wc.seq fun _ hK_34 => Wc.region <| Wl.sg rfl rfl <| Wl.nil <| Wq.next hK_34 <| Wc.ret <| Wq.then_ret ?_
   refine ret1 rfl rfl ?_
   exact ⟨_, rfl, bool_eq (by unfold wordA; rw [hw]; rfl), hb⟩
  have c0_33_ := c0_33
  try simp only [DZ] at c0_33
  have hw : wordV s = true := by have h := hq.symm.trans c0_33_; simpa using h
  refine Wc.skip <| Wq.next hK_3 <| Wc.seq fun _ hK_36 => Wc.seq fun _ hK_37 => Wc.region <| Wl.sg rfl rfl <| Wl.nil <| Wq.next hK_37 <| Wc.block ?_
  refine Wc.loop (X := Nat) (fun i => [(0, str s), (3, .int .i64 (i : Int))]) (fun i wr => i ≤ s.length ∧ (∀ j, j < i → isLet (s.getD j 0) = true) ∧ Below w.heap.size w wr) (fun i => s.length - i) (0) ?_ ?_ ?_
  · exact Sub.cons' rfl (by first | rfl | exact int_eq (by omega) | exact int_eq (by simp) | (simp; done)) (Sub.cons' rfl (by first | rfl | exact int_eq (by omega) | exact int_eq (by simp) | (simp; done)) (Sub.nil))
  · exact ⟨by omega, fun j h => by omega, hb⟩
  rintro i wr hI_40 _ hL_39
  replace hI_40 : i ≤ s.length ∧ (∀ j, j < i → isLet (s.getD j 0) = true) ∧ Below w.heap.size w wr := hI_40
  obtain ⟨hi, hall, hb⟩ := hI_40
  show Wc _ _ _ _ _ [(0, str s), (3, .int .i64 (i : Int))] _
  try have hzhb_L0 := hb.size
  refine Wc.seq fun _ hK_41 => Wc.seq fun _ hK_42 => Wc.region <| Wl.mv rfl rfl <| Wl.mv rfl rfl ?_
  refine Wl.y (y_lens Tryz.underlying9 (by omega) rfl) rfl ?_
  refine Wl.y (y_lssi rfl rfl) rfl <| Wl.nil <| Wq.next hK_42 ?_
  refine Wc.cond rfl (fun c1_47 => ?_) (fun c1_47 => ?_)
  ·
   have c1_47_ := c1_47
   try simp only [DZ] at c1_47
   have hil : i < s.length := by have := c1_47; omega
   obtain ⟨c, hc⟩ : ∃ c, c = (s.getD i 0).toNat := ⟨_, rfl⟩
   refine Wc.skip <| Wq.next hK_41 <| Wc.seq fun _ hK_48 => Wc.block <| Wc.seq fun _ hK_49 => Wc.region <| Wl.mv rfl rfl <| Wl.mv rfl rfl ?_
   refine Wl.y (y_eq (y_indexs Tryz.underlying9 rfl rfl (by omega) (by omega)) (int_eq (show _ = (c : Int) by rw [hc, Int.toNat_natCast]))) rfl ?_
   refine Wl.sg rfl rfl <| Wl.nil <| Wq.next hK_49 <| Wc.seq fun _ hK_54 => ?_
   refine Wc.meet (X := Bool) (fun q => [(0, str s), (3, .int .i64 (i : Int)), (56, .bool q)]) (fun q wr => q = (!isLet (s.getD i 0)) ∧ Below w.heap.size w wr) (fun _ hM_55 => ?_) ?_
   ·
    refine Wc.region <| Wl.mv rfl rfl <| Wl.y (y_neqi rfl rfl) rfl <| Wl.mv rfl rfl ?_
    refine Wl.guardT rfl rfl rfl (fun g_59 => ?_) (fun g_59 => ?_)
    ·
     have g_59_ := g_59
     try simp only [DZ] at g_59
     refine Wl.mv rfl rfl <| Wl.on' rfl rfl g_59_ <| Wl.y (y_lssi rfl rfl) rfl <| Wl.on' rfl rfl g_59_ <| Wl.mv rfl rfl ?_
     refine Wl.guardF rfl rfl rfl (fun g_63 => ?_) (fun g_63 => ?_)
     ·
      have g_63_ := g_63
      try simp only [DZ] at g_63
      refine Wl.off' rfl rfl g_63_ rfl rfl <| Wl.on' rfl rfl g_59_ ?_
      refine Wl.y (y_pickT rfl g_63_ rfl) rfl ?_
      refine Wl.y (y_pickT rfl g_59_ rfl) rfl ?_
      refine Wl.mv rfl rfl <| Wl.on' rfl rfl rfl <| Wl.mv rfl rfl <| Wl.on' rfl rfl rfl <| Wl.y (y_lssi rfl rfl) rfl <| Wl.on' rfl rfl rfl <| Wl.mv rfl rfl ?_
      refine Wl.guardF rfl rfl rfl (fun g_70 => ?_) (fun g_70 => ?_)
      ·
       have g_70_ := g_70
       try simp only [DZ] at g_70
       refine Wl.off' rfl rfl g_70_ rfl rfl <| Wl.on' rfl rfl rfl ?_
       refine Wl.y (y_pickT rfl g_70_ rfl) rfl ?_
       refine Wl.y (y_pickT rfl rfl rfl) rfl <| Wl.mv rfl rfl <| Wl.on' rfl rfl rfl <| Wl.mv rfl rfl <| Wl.on' rfl rfl rfl <| Wl.y (y_lssi rfl rfl) rfl <| Wl.on' rfl rfl rfl <| Wl.mv rfl rfl ?_
       refine Wl.guardF rfl rfl rfl (fun g_77 => ?_) (fun g_77 => ?_)
       ·
        have g_77_ := g_77
        try simp only [DZ] at g_77
        refine Wl.off' rfl rfl g_77_ rfl rfl <| Wl.on' rfl rfl rfl ?_
        refine Wl.y (y_pickT rfl g_77_ rfl) rfl ?_
        refine Wl.y (y_pickT rfl rfl rfl) rfl <| Wl.nil ?_
        refine Wq.meet hM_55 (!isLet (s.getD i 0)) (Sub.cons' rfl (by first | rfl | exact bool_eq (by rw [isLet_eq, ← hc, Bool.eq_iff_iff]; simp <;> omega)) (Sub.cons' rfl (by first | rfl | exact bool_eq (by rw [isLet_eq, ← hc, Bool.eq_iff_iff]; simp <;> omega)) (Sub.cons' rfl (by first | rfl | exact bool_eq (by rw [isLet_eq, ← hc, Bool.eq_iff_iff]; simp <;> omega)) (Sub.nil)))) ?_
        exact ⟨rfl, hb⟩
       have g_77_ := g_77
       try simp only [DZ] at g_77
       refine Wl.mv rfl rfl <| Wl.on' rfl rfl g_77_ <| Wl.y (y_gtri rfl rfl) rfl <| Wl.on' rfl rfl rfl ?_
       refine Wl.y (y_pickF rfl g_77_ rfl) rfl ?_
       refine Wl.y (y_pickT rfl rfl rfl) rfl <| Wl.nil ?_
       refine Wq.meet hM_55 (!isLet (s.getD i 0)) (Sub.cons' rfl (by first | rfl | exact bool_eq (by rw [isLet_eq, ← hc, Bool.eq_iff_iff]; simp <;> omega)) (Sub.cons' rfl (by first | rfl | exact bool_eq (by rw [isLet_eq, ← hc, Bool.eq_iff_iff]; simp <;> omega)) (Sub.cons' rfl (by first | rfl | exact bool_eq (by rw [isLet_eq, ← hc, Bool.eq_iff_iff]; simp <;> omega)) (Sub.nil)))) ?_
       exact ⟨rfl, hb⟩
      have g_70_ := g_70
      try simp only [DZ] at g_70
      refine Wl.mv rfl rfl <| Wl.on' rfl rfl g_70_ <| Wl.y (y_gtri rfl rfl) rfl <| Wl.on' rfl rfl rfl ?_
      refine Wl.y (y_pickF rfl g_70_ rfl) rfl ?_
      refine Wl.y (y_pickT rfl rfl rfl) rfl <| Wl.mv rfl rfl ?_
      refine Wl.guardT rfl rfl rfl (fun g_89 => ?_) (fun g_89 => ?_)
      ·
       have g_89_ := g_89
       try simp only [DZ] at g_89
       refine Wl.mv rfl rfl <| Wl.on' rfl rfl g_89_ <| Wl.y (y_lssi rfl rfl) rfl <| Wl.on' rfl rfl g_89_ <| Wl.mv rfl rfl ?_
       refine Wl.guardF rfl rfl rfl (fun g_93 => ?_) (fun g_93 => ?_)
       ·
        have g_93_ := g_93
        try simp only [DZ] at g_93
        refine Wl.off' rfl rfl g_93_ rfl rfl <| Wl.on' rfl rfl g_89_ ?_
        refine Wl.y (y_pickT rfl g_93_ rfl) rfl ?_
        refine Wl.y (y_pickT rfl g_89_ rfl) rfl ?_
        refine Wl.nil ?_
        refine Wq.meet hM_55 (!isLet (s.getD i 0)) (Sub.cons' rfl (by first | rfl | exact bool_eq (by rw [isLet_eq, ← hc, Bool.eq_iff_iff]; simp <;> omega)) (Sub.cons' rfl (by first | rfl | exact bool_eq (by rw [isLet_eq, ← hc, Bool.eq_iff_iff]; simp <;> omega)) (Sub.cons' rfl (by first | rfl | exact bool_eq (by rw [isLet_eq, ← hc, Bool.eq_iff_iff]; simp <;> omega)) (Sub.nil)))) ?_
        exact ⟨rfl, hb⟩
       have g_93_ := g_93
       try simp only [DZ] at g_93
       refine Wl.mv rfl rfl <| Wl.on' rfl rfl g_93_ <| Wl.y (y_gtri rfl rfl) rfl <| Wl.on' rfl rfl g_89_ ?_
       refine Wl.y (y_pickF rfl g_93_ rfl) rfl ?_
       refine Wl.y (y_pickT rfl g_89_ rfl) rfl ?_
       refine Wl.nil ?_
       refine Wq.meet hM_55 (!isLet (s.getD i 0)) (Sub.cons' rfl (by first | rfl | exact bool_eq (by rw [isLet_eq, ← hc, Bool.eq_iff_iff]; simp <;> omega)) (Sub.cons' rfl (by first | rfl | exact bool_eq (by rw [isLet_eq, ← hc, Bool.eq_iff_iff]; simp <;> omega)) (Sub.cons' rfl (by first | rfl | exact bool_eq (by rw [isLet_eq, ← hc, Bool.eq_iff_iff]; simp <;> omega)) (Sub.nil)))) ?_
       exact ⟨rfl, hb⟩
      have g_89_ := g_89
      try simp only [DZ] at g_89
      refine Wl.off' rfl rfl g_89_ rfl rfl <| Wl.off' rfl rfl g_89_ rfl rfl <| Wl.offU rfl rfl rfl <| Wl.offU rfl rfl rfl <| Wl.off' rfl rfl g_89_ rfl rfl ?_
      refine Wl.y (y_pickF rfl g_89_ rfl) rfl ?_
      refine Wl.nil ?_
      refine Wq.meet hM_55 (!isLet (s.getD i 0)) (Sub.cons' rfl (by first | rfl | exact bool_eq (by rw [isLet_eq, ← hc, Bool.eq_iff_iff]; simp <;> omega)) (Sub.cons' rfl (by first | rfl | exact bool_eq (by rw [isLet_eq, ← hc, Bool.eq_iff_iff]; simp <;> omega)) (Sub.cons' rfl (by first | rfl | exact bool_eq (by rw [isLet_eq, ← hc, Bool.eq_iff_iff]; simp <;> omega)) (Sub.nil)))) ?_
      exact ⟨rfl, hb⟩
     have g_63_ := g_63
     try simp only [DZ] at g_63
     refine Wl.mv rfl rfl <| Wl.on' rfl rfl g_63_ <| Wl.y (y_gtri rfl rfl) rfl <| Wl.on' rfl rfl g_59_ ?_
     refine Wl.y (y_pickF rfl g_63_ rfl) rfl ?_
     refine Wl.y (y_pickT rfl g_59_ rfl) rfl ?_
     refine Wl.mv rfl rfl ?_
     refine Wl.guardT rfl rfl rfl (fun g_106 => ?_) (fun g_106 => ?_)
     ·
      have g_106_ := g_106
      try simp only [DZ] at g_106
      refine Wl.mv rfl rfl <| Wl.on' rfl rfl g_106_ <| Wl.y (y_lssi rfl rfl) rfl <| Wl.on' rfl rfl g_106_ <| Wl.mv rfl rfl ?_
      refine Wl.guardF rfl rfl rfl (fun g_110 => ?_) (fun g_110 => ?_)
      ·
       have g_110_ := g_110
       try simp only [DZ] at g_110
       refine Wl.off' rfl rfl g_110_ rfl rfl <| Wl.on' rfl rfl g_106_ ?_
       refine Wl.y (y_pickT rfl g_110_ rfl) rfl ?_
       refine Wl.y (y_pickT rfl g_106_ rfl) rfl ?_
       refine Wl.mv rfl rfl <| Wl.on' rfl rfl rfl <| Wl.mv rfl rfl <| Wl.on' rfl rfl rfl <| Wl.y (y_lssi rfl rfl) rfl <| Wl.on' rfl rfl rfl <| Wl.mv rfl rfl ?_
       refine Wl.guardF rfl rfl rfl (fun g_117 => ?_) (fun g_117 => ?_)
       ·
        have g_117_ := g_117
        try simp only [DZ] at g_117
        refine Wl.off' rfl rfl g_117_ rfl rfl <| Wl.on' rfl rfl rfl ?_
        refine Wl.y (y_pickT rfl g_117_ rfl) rfl ?_
        refine Wl.y (y_pickT rfl rfl rfl) rfl <| Wl.nil ?_
        refine Wq.meet hM_55 (!isLet (s.getD i 0)) (Sub.cons' rfl (by first | rfl | exact bool_eq (by rw [isLet_eq, ← hc, Bool.eq_iff_iff]; simp <;> omega)) (Sub.cons' rfl (by first | rfl | exact bool_eq (by rw [isLet_eq, ← hc, Bool.eq_iff_iff]; simp <;> omega)) (Sub.cons' rfl (by first | rfl | exact bool_eq (by rw [isLet_eq, ← hc, Bool.eq_iff_iff]; simp <;> omega)) (Sub.nil)))) ?_
        exact ⟨rfl, hb⟩
       have g_117_ := g_117
       try simp only [DZ] at g_117
       refine Wl.mv rfl rfl <| Wl.on' rfl rfl g_117_ <| Wl.y (y_gtri rfl rfl) rfl <| Wl.on' rfl rfl rfl ?_
       refine Wl.y (y_pickF rfl g_117_ rfl) rfl ?_
       refine Wl.y (y_pickT rfl rfl rfl) rfl <| Wl.nil ?_
       refine Wq.meet hM_55 (!isLet (s.getD i 0)) (Sub.cons' rfl (by first | rfl | exact bool_eq (by rw [isLet_eq, ← hc, Bool.eq_iff_iff]; simp <;> omega)) (Sub.cons' rfl (by first | rfl | exact bool_eq (by rw [isLet_eq, ← hc, Bool.eq_iff_iff]; simp <;> omega)) (Sub.cons' rfl (by first | rfl | exact bool_eq (by rw [isLet_eq, ← hc, Bool.eq_iff_iff]; simp <;> omega)) (Sub.nil)))) ?_
       exact ⟨rfl, hb⟩
      have g_110_ := g_110
      try simp only [DZ] at g_110
      refine Wl.mv rfl rfl <| Wl.on' rfl rfl g_110_ <| Wl.y (y_gtri rfl rfl) rfl <| Wl.on' rfl rfl g_106_ ?_
      refine Wl.y (y_pickF rfl g_110_ rfl) rfl ?_
      refine Wl.y (y_pickT rfl g_106_ rfl) rfl ?_
      refine Wl.mv rfl rfl ?_
      refine Wl.guardT rfl rfl rfl (fun g_129 => ?_) (fun g_129 => ?_)
      ·
       have g_129_ := g_129
       try simp only [DZ] at g_129
       refine Wl.mv rfl rfl <| Wl.on' rfl rfl g_129_ <| Wl.y (y_lssi rfl rfl) rfl <| Wl.on' rfl rfl g_129_ <| Wl.mv rfl rfl ?_
       refine Wl.guardF rfl rfl rfl (fun g_133 => ?_) (fun g_133 => ?_)
       ·
        have g_133_ := g_133
        try simp only [DZ] at g_133
        refine Wl.off' rfl rfl g_133_ rfl rfl <| Wl.on' rfl rfl g_129_ ?_
        refine Wl.y (y_pickT rfl g_133_ rfl) rfl ?_
        refine Wl.y (y_pickT rfl g_129_ rfl) rfl ?_
        refine Wl.nil ?_
        refine Wq.meet hM_55 (!isLet (s.getD i 0)) (Sub.cons' rfl (by first | rfl | exact bool_eq (by rw [isLet_eq, ← hc, Bool.eq_iff_iff]; simp <;> omega)) (Sub.cons' rfl (by first | rfl | exact bool_eq (by rw [isLet_eq, ← hc, Bool.eq_iff_iff]; simp <;> omega)) (Sub.cons' rfl (by first | rfl | exact bool_eq (by rw [isLet_eq, ← hc, Bool.eq_iff_iff]; simp <;> omega)) (Sub.nil)))) ?_
        exact ⟨rfl, hb⟩
       have g_133_ := g_133
       try simp only [DZ] at g_133
       refine Wl.mv rfl rfl <| Wl.on' rfl rfl g_133_ <| Wl.y (y_gtri rfl rfl) rfl <| Wl.on' rfl rfl g_129_ ?_
       refine Wl.y (y_pickF rfl g_133_ rfl) rfl ?_
       refine Wl.y (y_pickT rfl g_129_ rfl) rfl ?_
       refine Wl.nil ?_
       refine Wq.meet hM_55 (!isLet (s.getD i 0)) (Sub.cons' rfl (by first | rfl | exact bool_eq (by rw [isLet_eq, ← hc, Bool.eq_iff_iff]; simp <;> omega)) (Sub.cons' rfl (by first | rfl | exact bool_eq (by rw [isLet_eq, ← hc, Bool.eq_iff_iff]; simp <;> omega)) (Sub.cons' rfl (by first | rfl | exact bool_eq (by rw [isLet_eq, ← hc, Bool.eq_iff_iff]; simp <;> omega)) (Sub.nil)))) ?_
       exact ⟨rfl, hb⟩
      have g_129_ := g_129
      try simp only [DZ] at g_129
      refine Wl.off' rfl rfl g_129_ rfl rfl <| Wl.off' rfl rfl g_129_ rfl rfl <| Wl.offU rfl rfl rfl <| Wl.offU rfl rfl rfl <| Wl.off' rfl rfl g_129_ rfl rfl ?_
      refine Wl.y (y_pickF rfl g_129_ rfl) rfl ?_
      refine Wl.nil ?_
      refine Wq.meet hM_55 (!isLet (s.getD i 0)) (Sub.cons' rfl (by first | rfl | exact bool_eq (by rw [isLet_eq, ← hc, Bool.eq_iff_iff]; simp <;> omega)) (Sub.cons' rfl (by first | rfl | exact bool_eq (by rw [isLet_eq, ← hc, Bool.eq_iff_iff]; simp <;> omega)) (Sub.cons' rfl (by first | rfl | exact bool_eq (by rw [isLet_eq, ← hc, Bool.eq_iff_iff]; simp <;> omega)) (Sub.nil)))) ?_
      exact ⟨rfl, hb⟩
     have g_106_ := g_106
     try simp only [DZ] at g_106
     refine Wl.off' rfl rfl g_106_ rfl rfl <| Wl.off' rfl rfl g_106_ rfl rfl <| Wl.offU rfl rfl rfl <| Wl.offU rfl rfl rfl <| Wl.off' rfl rfl g_106_ rfl rfl ?_
     refine Wl.y (y_pickF rfl g_106_ rfl) rfl ?_
     refine Wl.mv rfl rfl <| Wl.off' rfl rfl rfl rfl rfl <| Wl.off' rfl rfl rfl rfl rfl <| Wl.off' rfl rfl rfl rfl rfl <| Wl.offU rfl rfl rfl <| Wl.offU rfl rfl rfl <| Wl.off' rfl rfl rfl rfl rfl <| Wl.y (y_pickF rfl rfl rfl) rfl <| Wl.nil ?_
     refine Wq.meet hM_55 (!isLet (s.getD i 0)) (Sub.cons' rfl (by first | rfl | exact bool_eq (by rw [isLet_eq, ← hc, Bool.eq_iff_iff]; simp <;> omega)) (Sub.cons' rfl (by first | rfl | exact bool_eq (by rw [isLet_eq, ← hc, Bool.eq_iff_iff]; simp <;> omega)) (Sub.cons' rfl (by first | rfl | exact bool_eq (by rw [isLet_eq, ← hc, Bool.eq_iff_iff]; simp <;> omega)) (Sub.nil)))) ?_
     exact ⟨rfl, hb⟩
    have g_59_ := g_59
    try simp only [DZ] at g_59
    refine Wl.off' rfl rfl g_59_ rfl rfl <| Wl.off' rfl rfl g_59_ rfl rfl <| Wl.offU rfl rfl rfl <| Wl.offU rfl rfl rfl <| Wl.off' rfl rfl g_59_ rfl rfl ?_
    refine Wl.y (y_pickF rfl g_59_ rfl) rfl ?_
    refine Wl.mv rfl rfl <| Wl.off' rfl rfl rfl rfl rfl <| Wl.off' rfl rfl rfl rfl rfl <| Wl.off' rfl rfl rfl rfl rfl <| Wl.offU rfl rfl rfl <| Wl.offU rfl rfl rfl <| Wl.off' rfl rfl rfl rfl rfl <| Wl.y (y_pickF rfl rfl rfl) rfl <| Wl.mv rfl rfl <| Wl.off' rfl rfl rfl rfl rfl ?_
    refine Wl.off' rfl rfl rfl rfl rfl <| Wl.off' rfl rfl rfl rfl rfl <| Wl.offU rfl rfl rfl <| Wl.offU rfl rfl rfl <| Wl.off' rfl rfl rfl rfl rfl <| Wl.y (y_pickF rfl rfl rfl) rfl <| Wl.nil ?_
    refine Wq.meet hM_55 (!isLet (s.getD i 0)) (Sub.cons' rfl (by first | rfl | exact bool_eq (by rw [isLet_eq, ← hc, Bool.eq_iff_iff]; simp <;> omega)) (Sub.cons' rfl (by first | rfl | exact bool_eq (by rw [isLet_eq, ← hc, Bool.eq_iff_iff]; simp <;> omega)) (Sub.cons' rfl (by first | rfl | exact bool_eq (by rw [isLet_eq, ← hc, Bool.eq_iff_iff]; simp <;> omega)) (Sub.nil)))) ?_
    exact ⟨rfl, hb⟩
   rintro q wr hI_149
   replace hI_149 : q = (!isLet (s.getD i 0)) ∧ Below w.heap.size w wr := hI_149
   obtain ⟨hq, hb⟩ := hI_149
   show Wq _ _ _ _ [(0, str s), (3, .int .i64 (i : Int)), (56, .bool q)] _
   try have hzhb_g6 := hb.size
   refine Wq.next hK_54 ?_
   refine Wc.cond rfl (fun c2_150 => ?_) (fun c2_150 => ?_)
   ·
    have c2_150_ := c2_150
    try simp only [DZ] at c2_150
    have hlet : isLet (s.getD i 0) = false := by have h := hq.symm.trans c2_150_; simpa using h
    refine Wc.seq fun _ hK_151 => Wc.region <| Wl.sg rfl rfl <| Wl.nil <| Wq.next hK_151 <| Wc.ret ?_
    refine Wq.block_ret (Wq.then_ret (Wq.then_ret (Wq.block_ret (Wq.then_ret ?_))))
    refine ret1 rfl rfl ?_
    exact ⟨_, rfl, bool_eq (by unfold wordA; rw [eq_comm, Bool.and_eq_false_iff]; right; rw [List.all_eq_false]; exact ⟨_, getD_mem hil, by rw [hlet]; simp⟩), hb⟩
   have c2_150_ := c2_150
   try simp only [DZ] at c2_150
   have hlet : isLet (s.getD i 0) = true := by have h := hq.symm.trans c2_150_; simpa using h
   refine Wc.skip <| Wq.block_normal <| Wq.next hK_48 <| Wc.region <| Wl.mv rfl rfl ?_
   refine Wl.y (y_addI rfl rfl (by first | omega | (simp; done) | (simp; omega)) (by first | omega | (simp; done) | (simp; omega))) rfl ?_
   refine Wl.sg rfl rfl <| Wl.nil ?_
   refine fun a_ ha_ => hL_39 _ _ (i + 1) (by first | omega | (simp; omega)) (Sub.cons' rfl (by first | rfl | exact int_eq (by omega)) (Sub.cons' rfl (by first | rfl | exact int_eq (by omega)) (Sub.nil))) ?_ a_ ha_
   exact ⟨by omega, fun j hj => by (by_cases e : j = i); (· rw [e]; exact hlet); (· exact hall j (by omega)), hb⟩
  have c1_47_ := c1_47
  try simp only [DZ] at c1_47
  refine Wc.exit ?_
  refine Wq.then_exit <| Wq.then_exit <| Wq.block_exit <| Wq.next hK_36 <| Wc.seq fun _ hK_156 => Wc.region <| Wl.sg rfl rfl <| Wl.nil <| Wq.next hK_156 <| Wc.ret ?_
  refine ret1 rfl rfl ?_
  exact ⟨_, rfl, bool_eq (by
  unfold wordA; rw [hw, eq_comm, Bool.true_and, List.all_eq_true]
  intro c hc
  obtain ⟨j, hj, e⟩ := List.mem_iff_getElem.1 hc
  have := hall j (by have := c1_47; omega)
  simpa [List.getD, List.getElem?_eq_getElem hj, e] using this), hb⟩
def signsR : List (List UInt8) := [[40], [41], [91], [93], [123], [125], [44], [58], [124], [38], [33], [37], [42], [43], [63], [61], [60], [62], [45], [126], [45, 91], [126, 91], [93, 45], [93, 126], [45, 62], [60, 45], [60, 126], [126, 62], [60, 61], [62, 61], [60, 62], [60, 45, 91], [60, 126, 91], [93, 45, 62], [93, 126, 62], [60, 45, 62]]
theorem RKeys_r (w : World) : Ret Tryz.prog 83 [] w fun v w' => (∃ A, v = .slice A keysV.length 17 ∧ Rd w' 1 A keysV.length (strs keysV)) ∧ Below w.heap.size w w' := by
  have hb := Below.refl w.heap.size w
  refine enter Tryz.func83 rfl rfl rfl ?_
  refine Wc.seq fun _ hK_1 => Wc.region <| Wl.sg rfl rfl <| Wl.nil <| Wq.next hK_1 <| Wc.seq fun _ hK_3 => Wc.region ?_
  refine Wl.litN (sz := 1) (vs := [_, _, _, _, _, _, _, _, _, _, _, _, _, _, _, _, _]) Tryz.underlying67 (by kernel_rfl) rfl rfl rfl rfl rfl rfl ?_
  rintro g_b0 w_b0 hg_b0 hn_b0 hs_b0
  have hz_b0 := hs_b0.size
  have hb := hb.trans (hs_b0.mono hb.size)
  have hB_b0 := hn_b0
  have hl_b0 := hB_b0.lt
  refine Wl.sg rfl rfl <| Wl.nil <| Wq.next hK_3 <| Wc.ret ?_
  refine ret1 rfl rfl ?_
  exact ⟨_, rfl, ⟨_, rfl, hB_b0.rd 17 1 rfl⟩, hb⟩
theorem RSigns_r (w : World) : Ret Tryz.prog 130 [] w fun v w' => (∃ A, v = .slice A signsR.length 36 ∧ Rd w' 1 A signsR.length (strs signsR)) ∧ Below w.heap.size w w' := by
  have hb := Below.refl w.heap.size w
  refine enter Tryz.func130 rfl rfl rfl ?_
  refine Wc.seq fun _ hK_1 => Wc.region <| Wl.sg rfl rfl <| Wl.nil <| Wq.next hK_1 <| Wc.seq fun _ hK_3 => Wc.region ?_
  refine Wl.litN (sz := 1) (vs := [_, _, _, _, _, _, _, _, _, _, _, _, _, _, _, _, _, _, _, _, _, _, _, _, _, _, _, _, _, _, _, _, _, _, _, _]) Tryz.underlying67 (by kernel_rfl) rfl rfl rfl rfl rfl rfl ?_
  rintro g_b0 w_b0 hg_b0 hn_b0 hs_b0
  have hz_b0 := hs_b0.size
  have hb := hb.trans (hs_b0.mono hb.size)
  have hB_b0 := hn_b0
  have hl_b0 := hB_b0.lt
  refine Wl.sg rfl rfl <| Wl.nil <| Wq.next hK_3 <| Wc.ret ?_
  refine ret1 rfl rfl ?_
  exact ⟨_, rfl, ⟨_, rfl, hB_b0.rd 36 1 rfl⟩, hb⟩
end Go.Proofs.YtccgjfcaomngjaaGreatDoor
namespace Go.Proofs.YtccgjfcaomngjaaGreatDoor
open Go.RowKit Go.Bw Go.Bw.Fl
set_option linter.unusedVariables false
set_option linter.unusedSimpArgs false
theorem txt129RLexB : Txt Tryz.prog 129 := ⟨_, Tryz.func129, by kernel_rfl, rfl⟩   -- bridleway/bridlewayref10.part
theorem txt130RLexB : Txt Tryz.prog 130 := ⟨_, Tryz.func130, by kernel_rfl, rfl⟩   -- bridleway/bridlewayref10.signs
theorem txt19RLexB : Txt Tryz.prog 19 := ⟨_, Tryz.func19, by kernel_rfl, rfl⟩   -- bridleway/bridlewayref02.Read
theorem txt81RLexB : Txt Tryz.prog 81 := ⟨_, Tryz.func81, by kernel_rfl, rfl⟩   -- bridleway/bridlewayref06.Word
theorem txt82RLexB : Txt Tryz.prog 82 := ⟨_, Tryz.func82, by kernel_rfl, rfl⟩   -- bridleway/bridlewayref06.In
theorem txt83RLexB : Txt Tryz.prog 83 := ⟨_, Tryz.func83, by kernel_rfl, rfl⟩   -- bridleway/bridlewayref10.Keys
def S3 : List (List UInt8) := signsV.take 5
def S2 : List (List UInt8) := (signsV.drop 5).take 11
def S1 : List (List UInt8) := signsV.drop 16
theorem signs_split : signsV = S3 ++ (S2 ++ S1) := rfl
theorem s3_len : ∀ x, x ∈ S3 → x.length = 3 := by decide
theorem s2_len : ∀ x, x ∈ S2 → x.length = 2 := by decide
theorem s1_len : ∀ x, x ∈ S1 → x.length = 1 := by decide
theorem s3_iff : (∀ x, x ∈ S3 → x ∈ signsR) ∧ (∀ x, x ∈ signsR → x.length = 3 → x ∈ S3) := by decide
theorem s2_iff : (∀ x, x ∈ S2 → x ∈ signsR) ∧ (∀ x, x ∈ signsR → x.length = 2 → x ∈ S2) := by decide
theorem s1_iff : (∀ x, x ∈ S1 → x ∈ signsR) ∧ (∀ x, x ∈ signsR → x.length = 1 → x ∈ S1) := by decide
theorem findk {S : List (List UInt8)} {k : Nat} (hS : ∀ x, x ∈ S → x.length = k) (s : List UInt8) (hR : (∀ x, x ∈ S → x ∈ signsR) ∧ (∀ x, x ∈ signsR → x.length = k → x ∈ S)) :
    (k ≤ s.length ∧ s.take k ∈ signsR → S.find? (fun x => Lib.hasPrefix s x) = some (s.take k)) ∧ (¬ (k ≤ s.length ∧ s.take k ∈ signsR) → S.find? (fun x => Lib.hasPrefix s x) = none) := by
  have key : ∀ x, S.find? (fun x => Lib.hasPrefix s x) = some x → k ≤ s.length ∧ s.take k ∈ signsR ∧ x = s.take k := fun x h => by
    have h1 := List.find?_some h
    have h2 := List.mem_of_find?_eq_some h
    have h3 := hS x h2
    have h4 := List.prefix_iff_eq_take.1 ((pre_iff s x).1 h1)
    rw [h3] at h4
    have h5 := ((pre_iff s x).1 h1).length_le
    exact ⟨by omega, by rw [← h4]; exact hR.1 x h2, h4⟩
  constructor
  · rintro ⟨h1, h2⟩
    cases h : S.find? (fun x => Lib.hasPrefix s x) with
    | none =>
      have h3 := List.find?_eq_none.1 h _ (hR.2 _ h2 (by rw [List.length_take]; omega))
      exact absurd ((pre_iff s _).2 (List.take_prefix k s)) h3
    | some x => rw [(key x h).2.2]
  · intro hn
    cases h : S.find? (fun x => Lib.hasPrefix s x) with
    | none => rfl
    | some x => exact absurd ⟨(key x h).1, (key x h).2.1⟩ hn
def Sg (s : List UInt8) (m : Nat) : Prop := m ≤ s.length ∧ s.take m ∈ signsR
theorem sign_hit {s : List UInt8} {n : Nat} (h3 : n ≤ 3) (h0 : 0 < n) (h : Sg s n) (hn : ∀ m, n < m → m ≤ 3 → ¬ Sg s m) : signsV.find? (fun x => Lib.hasPrefix s x) = some (s.take n) := by
  rw [signs_split, List.find?_append, List.find?_append]
  have k3 := findk s3_len s s3_iff
  have k2 := findk s2_len s s2_iff
  have k1 := findk s1_len s s1_iff
  rcases (show n = 3 ∨ n = 2 ∨ n = 1 by omega) with e | e | e
  · subst e; rw [k3.1 h]; rfl
  · subst e; rw [k3.2 (hn 3 (by omega) (by omega)), k2.1 h]; rfl
  · subst e; rw [k3.2 (hn 3 (by omega) (by omega)), k2.2 (hn 2 (by omega) (by omega)), k1.1 h]; rfl
theorem sign_miss {s : List UInt8} (hn : ∀ m, 0 < m → m ≤ 3 → ¬ Sg s m) : signsV.find? (fun x => Lib.hasPrefix s x) = none := by
  rw [signs_split, List.find?_append, List.find?_append, (findk s3_len s s3_iff).2 (hn 3 (by omega) (by omega)), (findk s2_len s s2_iff).2 (hn 2 (by omega) (by omega)), (findk s1_len s s1_iff).2 (hn 1 (by omega) (by omega))]; rfl
theorem dig_rd {s : List UInt8} (hne : s ≠ []) (h : 48 ≤ (s.getD 0 0).toNat ∧ (s.getD 0 0).toNat ≤ 57) : 0 < rdN s := by
  cases s with
  | nil => exact absurd rfl hne
  | cons c r =>
    have h : 48 ≤ c.toNat ∧ c.toNat ≤ 57 := h
    have he : Lib.itoa ((c.toNat - 48 : Nat) : Int) = [c] := by
      rw [Lib.itoa_nonneg, Lib.decDigits_one (by omega), show 48 + (c.toNat - 48) = c.toNat by omega]
      exact congrArg (· :: []) UInt8.ofNat_toNat
    have h1 := one_int (n := ((c.toNat - 48 : Nat) : Int)) (by omega) (by omega)
    rw [he] at h1
    obtain ⟨u, m, h2, h3⟩ := read_ge h1 r
    unfold rdN
    rw [show c :: r = [c] ++ r from rfl, h2]
    exact h3
theorem RRead_y (s : List UInt8) (hs : s.length ≤ 140737488355328) (w : World) : Ret Tryz.prog 19 [str s] w fun v w' => (∃ u n ok, v = .tuple #[Val.enc u, .int .i64 (n : Nat), .bool ok] ∧ RdIs (readV pf uqV s) u n ok) ∧ Below w.heap.size w w' :=
  (RRead_r s hs w).mono fun v w' ⟨h1, h2⟩ => ⟨by
    subst h1
    cases h : readV pf uqV s with
    | none => exact ⟨nullV, 0, false, rfl, .inr ⟨rfl, rfl, rfl, rfl⟩⟩
    | some r => exact ⟨r.1, r.2, true, rfl, .inl ⟨rfl, rfl⟩⟩, h2⟩
/-- what one tells -/
def OneT (s : List UInt8) (a : Nat) (v : Value) : Prop := ∃ k n, tokV (s.drop a) = (k, n) ∧ ((k ≠ 0 ∧ v = .agg #[.int .i64 (k : Int), str ((s.drop a).take n), .int .i64 (a : Int)]) ∨ (k = 0 ∧ v = .agg #[.int .i64 0, str [], .int .i64 0]))
theorem OneT.no {s : List UInt8} {a : Nat} (h : tokV (s.drop a) = (0, 0)) : OneT s a (.agg #[.int .i64 0, str [], .int .i64 0]) := ⟨0, 0, h, .inr ⟨rfl, rfl⟩⟩
theorem OneT.yes {s t : List UInt8} {a k n : Nat} {z : Int} (h : tokV (s.drop a) = (k, n)) (hk : k ≠ 0) (ht : t = (s.drop a).take n) (hz : z = (k : Int)) : OneT s a (.agg #[.int .i64 z, str t, .int .i64 (a : Int)]) := ⟨k, n, h, .inl ⟨hk, by rw [ht, hz]⟩⟩
theorem drop_take_at (s : List UInt8) (a n : Nat) : (s.take (a + n)).drop a = (s.drop a).take n := by
  rw [List.drop_take]; congr 1; omega
theorem RTok_r (s : List UInt8) (a : Nat) (ha : a < s.length) (hs : s.length ≤ 70368744177664) (w : World) : Ret Tryz.prog 65 [str s, .int .i64 (a : Int)] w fun v w' => OneT s a v ∧ Below w.heap.size w w' := by
  obtain ⟨x, hx⟩ : ∃ x, x = s.drop a := ⟨_, rfl⟩
  have hxl : x.length = s.length - a := by rw [hx, List.length_drop]
  have hxne : x ≠ [] := by rw [hx, drop_at ha]; simp
  have hx0 : ∀ d, x.getD d 0 = s.getD (a + d) 0 := fun d => by rw [hx]; simp [List.getD, List.getElem?_drop]
  obtain ⟨c, hc⟩ : ∃ c, c = x.getD 0 0 := ⟨_, rfl⟩
  have hb := Below.refl w.heap.size w
  refine enter Tryz.func65 rfl rfl rfl ?_
  refine Wc.seq fun _ hK_1 => Wc.region ?_
  refine Wl.allocN (z := (.agg #[(.int .i64 0), (str []), (.int .i64 0)])) (by kernel_rfl) rfl ?_
  rintro g_o0 w_o0 hg_o0 hn_o0 hs_o0
  have hz_o0 := hs_o0.size
  have hb := hb.trans (hs_o0.mono hb.size)
  have hB_o0 := hn_o0
  have hl_o0 := hB_o0.lt
  refine Wl.nil <| Wq.next hK_1 <| Wc.seq fun _ hK_3 => Wc.region <| Wl.mv rfl rfl <| Wl.mv rfl rfl ?_
  refine Wl.y (y_eq (y_indexs Tryz.underlying9 rfl rfl (by omega) (by omega)) (int_eq (show _ = (c.toNat : Int) by rw [hc, hx0, Int.toNat_natCast]; rfl))) rfl ?_
  refine Wl.sg rfl rfl <| Wl.nil <| Wq.next hK_3 <| Wc.seq fun _ hK_8 => Wc.seq fun _ hK_9 => ?_
  refine Wc.meet (X := Bool) (fun q => [(0, str s), (1, .int .i64 (a : Int)), (4, .pointer (some ⟨g_o0, 0, none⟩)), (5, .int .u8 (c.toNat : Int)), (29, .bool q)]) (fun q wr => q = decide (c.toNat = 39 ∨ (48 ≤ c.toNat ∧ c.toNat ≤ 57)) ∧ Below w.heap.size w wr ∧ Blk wr g_o0 105 (Tok.cells ⟨0, [], 0⟩)) (fun _ hM_10 => ?_) ?_
  ·
   refine Wc.region <| Wl.mv rfl rfl <| Wl.y (y_eqli rfl rfl) rfl <| Wl.mv rfl rfl ?_
   refine Wl.guardF rfl rfl rfl (fun g_14 => ?_) (fun g_14 => ?_)
   ·
    have g_14_ := g_14
    try simp only [DZ] at g_14
    refine Wl.off' rfl rfl g_14_ rfl rfl <| Wl.off' rfl rfl g_14_ rfl rfl <| Wl.offU rfl rfl rfl <| Wl.offU rfl rfl rfl <| Wl.off' rfl rfl g_14_ rfl rfl ?_
    refine Wl.y (y_pickT rfl g_14_ rfl) rfl ?_
    refine Wl.nil ?_
    refine Wq.meet hM_10 (decide (c.toNat = 39 ∨ (48 ≤ c.toNat ∧ c.toNat ≤ 57))) (Sub.cons' rfl (by first | rfl | exact bool_eq (by rw [Bool.eq_iff_iff]; simp <;> omega)) (Sub.cons' rfl (by first | rfl | exact bool_eq (by rw [Bool.eq_iff_iff]; simp <;> omega)) (Sub.cons' rfl (by first | rfl | exact bool_eq (by rw [Bool.eq_iff_iff]; simp <;> omega)) (Sub.cons' rfl (by first | rfl | exact bool_eq (by rw [Bool.eq_iff_iff]; simp <;> omega)) (Sub.cons' rfl (by first | rfl | exact bool_eq (by rw [Bool.eq_iff_iff]; simp <;> omega)) (Sub.nil)))))) ?_
    exact ⟨rfl, hb, hB_o0⟩
   have g_14_ := g_14
   try simp only [DZ] at g_14
   refine Wl.mv rfl rfl <| Wl.on' rfl rfl g_14_ <| Wl.y (y_geqi rfl rfl) rfl <| Wl.on' rfl rfl g_14_ <| Wl.mv rfl rfl ?_
   refine Wl.guardT rfl rfl rfl (fun g_19 => ?_) (fun g_19 => ?_)
   ·
    have g_19_ := g_19
    try simp only [DZ] at g_19
    refine Wl.mv rfl rfl <| Wl.on' rfl rfl g_19_ <| Wl.y (y_leqi rfl rfl) rfl <| Wl.on' rfl rfl g_14_ ?_
    refine Wl.y (y_pickT rfl g_19_ rfl) rfl ?_
    refine Wl.y (y_pickF rfl g_14_ rfl) rfl ?_
    refine Wl.nil ?_
    refine Wq.meet hM_10 (decide (c.toNat = 39 ∨ (48 ≤ c.toNat ∧ c.toNat ≤ 57))) (Sub.cons' rfl (by first | rfl | exact bool_eq (by rw [Bool.eq_iff_iff]; simp <;> omega)) (Sub.cons' rfl (by first | rfl | exact bool_eq (by rw [Bool.eq_iff_iff]; simp <;> omega)) (Sub.cons' rfl (by first | rfl | exact bool_eq (by rw [Bool.eq_iff_iff]; simp <;> omega)) (Sub.cons' rfl (by first | rfl | exact bool_eq (by rw [Bool.eq_iff_iff]; simp <;> omega)) (Sub.cons' rfl (by first | rfl | exact bool_eq (by rw [Bool.eq_iff_iff]; simp <;> omega)) (Sub.nil)))))) ?_
    exact ⟨rfl, hb, hB_o0⟩
   have g_19_ := g_19
   try simp only [DZ] at g_19
   refine Wl.off' rfl rfl g_19_ rfl rfl <| Wl.on' rfl rfl g_14_ ?_
   refine Wl.y (y_pickF rfl g_19_ rfl) rfl ?_
   refine Wl.y (y_pickF rfl g_14_ rfl) rfl ?_
   refine Wl.nil ?_
   refine Wq.meet hM_10 (decide (c.toNat = 39 ∨ (48 ≤ c.toNat ∧ c.toNat ≤ 57))) (Sub.cons' rfl (by first | rfl | exact bool_eq (by rw [Bool.eq_iff_iff]; simp <;> omega)) (Sub.cons' rfl (by first | rfl | exact bool_eq (by rw [Bool.eq_iff_iff]; simp <;> omega)) (Sub.cons' rfl (by first | rfl | exact bool_eq (by rw [Bool.eq_iff_iff]; simp <;> omega)) (Sub.cons' rfl (by first | rfl | exact bool_eq (by rw [Bool.eq_iff_iff]; simp <;> omega)) (Sub.cons' rfl (by first | rfl | exact bool_eq (by rw [Bool.eq_iff_iff]; simp <;> omega)) (Sub.nil)))))) ?_
   exact ⟨rfl, hb, hB_o0⟩
  rintro q wr hI_26
  replace hI_26 : q = decide (c.toNat = 39 ∨ (48 ≤ c.toNat ∧ c.toNat ≤ 57)) ∧ Below w.heap.size w wr ∧ Blk wr g_o0 105 (Tok.cells ⟨0, [], 0⟩) := hI_26
  obtain ⟨hq, hb, hB_o0⟩ := hI_26
  show Wq _ _ _ _ [(0, str s), (1, .int .i64 (a : Int)), (4, .pointer (some ⟨g_o0, 0, none⟩)), (5, .int .u8 (c.toNat : Int)), (29, .bool q)] _
  try have hzhb_g2 := hb.size
  have hlhB_o0_g2 := hB_o0.lt
  refine Wq.next hK_9 ?_
  refine Wc.cond rfl (fun c0_27 => ?_) (fun c0_27 => ?_)
  ·
   have c0_27_ := c0_27
   try simp only [DZ] at c0_27
   have hq0 := of_decide_eq_true (hq.symm.trans c0_27_)
   have hqt : (x.getD 0 0).toNat = 39 ∨ (48 ≤ (x.getD 0 0).toNat ∧ (x.getD 0 0).toNat ≤ 57) := by rw [← hc]; exact hq0
   refine Wc.seq fun _ hK_28 => Wc.region <| Wl.mv rfl rfl <| Wl.mv rfl rfl ?_
   refine Wl.y (y_eq (y_slicesL Tryz.underlying9 rfl rfl (by omega) (by omega)) (str_eq (show _ = x by rw [hx, Int.toNat_natCast]))) rfl ?_
   refine Wl.call txt19RLexB rfl rfl (RRead_y x (by omega) _) rfl ?_
   rintro _ w_k0 ⟨⟨u, n, ok, rfl, hr⟩, hs_k0⟩
   have hz_k0 := hs_k0.size
   have hb := hb.trans (hs_k0.mono hb.size)
   try have hB_o0 := Blk.below hB_o0 hs_k0
   refine Wl.mv rfl rfl <| Wl.y (y_extract rfl rfl) rfl <| Wl.y (y_extract rfl rfl) rfl <| Wl.y (y_extract rfl rfl) rfl ?_
   refine Wl.allocN (z := (.agg #[(.int .i64 0), (.int .i64 0), (.float .f64 0), (str [])])) (by kernel_rfl) rfl ?_
   rintro g_o20 w_o20 hg_o20 hn_o20 hs_o20
   have hz_o20 := hs_o20.size
   have hb := hb.trans (hs_o20.mono hb.size)
   try have hB_o0 := Blk.below hB_o0 hs_o20
   have hB_o20 := hn_o20
   have hl_o20 := hB_o20.lt
   refine Wl.storeS (by kernel_rfl) rfl rfl hB_o20 rfl rfl ?_
   rintro w_s0 hn_s0 hg_s0
   have hz_s0 := hg_s0.size
   have hb := below_blk hb hg_s0 hb.size (by omega)
   try have hB_o0 := hB_o0.over hg_s0 (by omega)
   have hB_o20 := hn_s0
   refine Wl.sg rfl rfl <| Wl.sg rfl rfl <| Wl.nil <| Wq.next hK_28 <| Wc.seq fun _ hK_40 => Wc.seq fun _ hK_41 => ?_
   have hrd := hr.rdN
   have hrl := rdN_le x
   have hok : ok = true ↔ 0 < n := by
     rcases hr with h | h
     · have := readV_len h.2; simp [h.1]; omega
     · simp [h.1, h.2.2.2]
   refine Wc.meet (X := Bool) (fun q1 => [(0, str s), (1, .int .i64 (a : Int)), (4, .pointer (some ⟨g_o0, 0, none⟩)), (5, .int .u8 (c.toNat : Int)), (7, .int .i64 (n : Int)), (42, .bool q1)]) (fun q1 wr => q1 = decide (c.toNat = 39 ∧ 0 < n) ∧ Below w.heap.size w wr ∧ Blk wr g_o0 105 (Tok.cells ⟨0, [], 0⟩)) (fun _ hM_42 => ?_) ?_
   ·
    refine Wc.region <| Wl.mv rfl rfl <| Wl.y (y_eqli rfl rfl) rfl <| Wl.mv rfl rfl ?_
    refine Wl.guardT rfl rfl rfl (fun g_46 => ?_) (fun g_46 => ?_)
    ·
     have g_46_ := g_46
     try simp only [DZ] at g_46
     refine Wl.mv rfl rfl ?_
     refine Wl.y (y_pickT rfl g_46_ rfl) rfl ?_
     refine Wl.nil ?_
     refine Wq.meet hM_42 (decide (c.toNat = 39 ∧ 0 < n)) (Sub.cons' rfl (by first | rfl | exact bool_eq (by rw [Bool.eq_iff_iff, decide_eq_true_eq]; first | (rw [hok]; omega) | (simp only [Bool.false_eq_true, false_iff]; omega))) (Sub.cons' rfl (by first | rfl | exact bool_eq (by rw [Bool.eq_iff_iff, decide_eq_true_eq]; first | (rw [hok]; omega) | (simp only [Bool.false_eq_true, false_iff]; omega))) (Sub.cons' rfl (by first | rfl | exact bool_eq (by rw [Bool.eq_iff_iff, decide_eq_true_eq]; first | (rw [hok]; omega) | (simp only [Bool.false_eq_true, false_iff]; omega))) (Sub.cons' rfl (by first | rfl | exact bool_eq (by rw [Bool.eq_iff_iff, decide_eq_true_eq]; first | (rw [hok]; omega) | (simp only [Bool.false_eq_true, false_iff]; omega))) (Sub.cons' rfl (by first | rfl | exact bool_eq (by rw [Bool.eq_iff_iff, decide_eq_true_eq]; first | (rw [hok]; omega) | (simp only [Bool.false_eq_true, false_iff]; omega))) (Sub.cons' rfl (by first | rfl | exact bool_eq (by rw [Bool.eq_iff_iff, decide_eq_true_eq]; first | (rw [hok]; omega) | (simp only [Bool.false_eq_true, false_iff]; omega))) (Sub.nil))))))) ?_
     exact ⟨rfl, hb, hB_o0⟩
    have g_46_ := g_46
    try simp only [DZ] at g_46
    refine Wl.y (y_pickF rfl g_46_ rfl) rfl ?_
    refine Wl.nil ?_
    refine Wq.meet hM_42 (decide (c.toNat = 39 ∧ 0 < n)) (Sub.cons' rfl (by first | rfl | exact bool_eq (by rw [Bool.eq_iff_iff, decide_eq_true_eq]; first | (rw [hok]; omega) | (simp only [Bool.false_eq_true, false_iff]; omega))) (Sub.cons' rfl (by first | rfl | exact bool_eq (by rw [Bool.eq_iff_iff, decide_eq_true_eq]; first | (rw [hok]; omega) | (simp only [Bool.false_eq_true, false_iff]; omega))) (Sub.cons' rfl (by first | rfl | exact bool_eq (by rw [Bool.eq_iff_iff, decide_eq_true_eq]; first | (rw [hok]; omega) | (simp only [Bool.false_eq_true, false_iff]; omega))) (Sub.cons' rfl (by first | rfl | exact bool_eq (by rw [Bool.eq_iff_iff, decide_eq_true_eq]; first | (rw [hok]; omega) | (simp only [Bool.false_eq_true, false_iff]; omega))) (Sub.cons' rfl (by first | rfl | exact bool_eq (by rw [Bool.eq_iff_iff, decide_eq_true_eq]; first | (rw [hok]; omega) | (simp only [Bool.false_eq_true, false_iff]; omega))) (Sub.cons' rfl (by first | rfl | exact bool_eq (by rw [Bool.eq_iff_iff, decide_eq_true_eq]; first | (rw [hok]; omega) | (simp only [Bool.false_eq_true, false_iff]; omega))) (Sub.nil))))))) ?_
    exact ⟨rfl, hb, hB_o0⟩
   rintro q1 wr hI_50
   replace hI_50 : q1 = decide (c.toNat = 39 ∧ 0 < n) ∧ Below w.heap.size w wr ∧ Blk wr g_o0 105 (Tok.cells ⟨0, [], 0⟩) := hI_50
   obtain ⟨hq1, hb, hB_o0⟩ := hI_50
   show Wq _ _ _ _ [(0, str s), (1, .int .i64 (a : Int)), (4, .pointer (some ⟨g_o0, 0, none⟩)), (5, .int .u8 (c.toNat : Int)), (7, .int .i64 (n : Int)), (42, .bool q1)] _
   try have hzhb_g4 := hb.size
   have hlhB_o0_g4 := hB_o0.lt
   refine Wq.next hK_41 ?_
   refine Wc.cond rfl (fun c1_51 => ?_) (fun c1_51 => ?_)
   ·
    have c1_51_ := c1_51
    try simp only [DZ] at c1_51
    have hq1 := of_decide_eq_true (hq1.symm.trans c1_51_)
    have htok : tokV x = (4, n) := by rw [tokV_q (by rw [← hc]; exact hq1.1) (by rw [hrd]; exact hq1.2), hrd]
    refine Wc.seq fun _ hK_52 => Wc.region <| Wl.mv rfl rfl <| Wl.mv rfl rfl <| Wl.mv rfl rfl <| Wl.mv rfl rfl ?_
    refine Wl.y (y_addI rfl rfl (by first | omega | (simp; done) | (simp; omega)) (by first | omega | (simp; done) | (simp; omega))) rfl ?_
    refine Wl.y (y_eq (y_slices Tryz.underlying9 rfl rfl rfl (by omega) (by omega) (by omega)) (str_eq (show _ = x.take n by rw [hx, show ((a : Int) + (n : Int)).toNat = a + n by omega, Int.toNat_natCast, drop_take_at]))) rfl ?_
    refine Wl.mv rfl rfl ?_
    refine Wl.y (y_buildS (z := [(.int .i64 0), (str []), (.int .i64 0)]) (pl := [(0, 1), (1, 1), (2, 1)]) (cs := [_, _, _]) Tryz.underlying105 (by kernel_rfl) (by kernel_rfl) rfl rfl rfl) rfl ?_
    refine Wl.storeS (by kernel_rfl) rfl rfl hB_o0 rfl rfl ?_
    rintro w_s1 hn_s1 hg_s1
    have hz_s1 := hg_s1.size
    have hb := below_blk hb hg_s1 hb.size (by omega)
    have hB_o0 := hn_s1
    refine Wl.nil <| Wq.next hK_52 <| Wc.ret ?_
    refine Wq.then_ret (Wq.then_ret ?_)
    refine retN (rs := [.cell 4 105]) (vs := [_]) rfl (.cell rfl (loadS Tryz.underlying105 (by kernel_rfl) (fun j u hu => hB_o0.at hu)) .nil) ?_
    exact ⟨_, rfl, OneT.yes (n := n) (by rw [← hx]; exact htok) (by decide) (by rw [← hx]) rfl, hb⟩
   have c1_51_ := c1_51
   try simp only [DZ] at c1_51
   have hq1 := of_decide_eq_false (hq1.symm.trans c1_51_)
   have hno4 : ¬ ((x.getD 0 0).toNat = 39 ∧ 0 < rdN x) := by rw [← hc, hrd]; exact hq1
   refine Wc.skip <| Wq.next hK_40 <| Wc.seq fun _ hK_61 => Wc.seq fun _ hK_62 => Wc.region <| Wl.mv rfl rfl <| Wl.y (y_eqli rfl rfl) rfl <| Wl.nil <| Wq.next hK_62 ?_
   refine Wc.cond rfl (fun c2_65 => ?_) (fun c2_65 => ?_)
   ·
    have c2_65_ := c2_65
    try simp only [DZ] at c2_65
    have htok : tokV x = (0, 0) := tokV_m hqt hno4 (fun h => h.2 (by rw [← hc]; have := c2_65; omega))
    refine Wc.seq fun _ hK_66 => Wc.region ?_
    refine Wl.y (y_buildS (z := [(.int .i64 0), (str []), (.int .i64 0)]) (pl := [(0, 1), (1, 1), (2, 1)]) (cs := [_, _, _]) Tryz.underlying105 (by kernel_rfl) (by kernel_rfl) rfl rfl rfl) rfl ?_
    refine Wl.storeS (by kernel_rfl) rfl rfl hB_o0 rfl rfl ?_
    rintro w_s2 hn_s2 hg_s2
    have hz_s2 := hg_s2.size
    have hb := below_blk hb hg_s2 hb.size (by omega)
    have hB_o0 := hn_s2
    refine Wl.nil <| Wq.next hK_66 <| Wc.ret ?_
    refine Wq.then_ret (Wq.then_ret ?_)
    refine retN (rs := [.cell 4 105]) (vs := [_]) rfl (.cell rfl (loadS Tryz.underlying105 (by kernel_rfl) (fun j u hu => hB_o0.at hu)) .nil) ?_
    exact ⟨_, rfl, OneT.no (by rw [← hx]; exact htok), hb⟩
   have c2_65_ := c2_65
   try simp only [DZ] at c2_65
   have hcd : 48 ≤ c.toNat ∧ c.toNat ≤ 57 := by have := c2_65; omega
   have hrd0 := dig_rd hxne (by rw [← hc]; exact hcd)
   refine Wc.skip <| Wq.next hK_61 <| Wc.seq fun _ hK_68 => Wc.region <| Wl.mv rfl rfl <| Wl.mv rfl rfl ?_
   refine Wl.y (y_eq (y_slicesL Tryz.underlying9 rfl rfl (by omega) (by omega)) (str_eq (show _ = x by rw [hx, Int.toNat_natCast]))) rfl ?_
   refine Wl.y (y_adds rfl rfl (by simp only [List.length_cons, List.length_append, List.length_nil]; omega)) rfl ?_
   refine Wl.call txt19RLexB rfl rfl (RRead_y (45 :: x) (by rw [List.length_cons]; omega) _) rfl ?_
   rintro _ w_k1 ⟨⟨u2, n2, ok2, rfl, hr2⟩, hs_k1⟩
   have hz_k1 := hs_k1.size
   have hb := hb.trans (hs_k1.mono hb.size)
   try have hB_o0 := Blk.below hB_o0 hs_k1
   refine Wl.mv rfl rfl <| Wl.y (y_extract rfl rfl) rfl <| Wl.y (y_extract rfl rfl) rfl <| Wl.y (y_extract rfl rfl) rfl ?_
   refine Wl.allocN (z := (.agg #[(.int .i64 0), (.int .i64 0), (.float .f64 0), (str [])])) (by kernel_rfl) rfl ?_
   rintro g_o45 w_o45 hg_o45 hn_o45 hs_o45
   have hz_o45 := hs_o45.size
   have hb := hb.trans (hs_o45.mono hb.size)
   try have hB_o0 := Blk.below hB_o0 hs_o45
   have hB_o45 := hn_o45
   have hl_o45 := hB_o45.lt
   refine Wl.storeS (by kernel_rfl) rfl rfl hB_o45 rfl rfl ?_
   rintro w_s3 hn_s3 hg_s3
   have hz_s3 := hg_s3.size
   have hb := below_blk hb hg_s3 hb.size (by omega)
   try have hB_o0 := hB_o0.over hg_s3 (by omega)
   have hB_o45 := hn_s3
   refine Wl.sg rfl rfl <| Wl.sg rfl rfl <| Wl.nil <| Wq.next hK_68 <| Wc.seq fun _ hK_81 => ?_
   have hrd2 := hr2.rdN
   have hrl2 := rdN_le (45 :: x)
   rw [List.length_cons] at hrl2
   obtain ⟨n3, hn3⟩ : ∃ n3, n3 = max n (n2 - 1) := ⟨_, rfl⟩
   have hn30 : 0 < n3 := by omega
   have htok : tokV x = (3, n3) := by rw [tokV_n hqt hno4 ⟨by rw [hrd, hrd2, ← hn3]; exact hn30, by rw [← hc]; omega⟩, hrd, hrd2, ← hn3]
   refine Wc.region <| Wl.mv rfl rfl <| Wl.mv rfl rfl ?_
   refine Wl.y (y_subI rfl rfl (by first | omega | (simp; done) | (simp; omega)) (by first | omega | (simp; done) | (simp; omega))) rfl ?_
   refine Wl.y (y_eq (y_max rfl rfl) (int_eq (show _ = (n3 : Int) by omega))) rfl ?_
   refine Wl.sg rfl rfl <| Wl.nil <| Wq.next hK_81 <| Wc.seq fun _ hK_87 => Wc.region <| Wl.mv rfl rfl <| Wl.mv rfl rfl <| Wl.mv rfl rfl <| Wl.mv rfl rfl ?_
   refine Wl.y (y_addI rfl rfl (by first | omega | (simp; done) | (simp; omega)) (by first | omega | (simp; done) | (simp; omega))) rfl ?_
   refine Wl.y (y_eq (y_slices Tryz.underlying9 rfl rfl rfl (by omega) (by omega) (by omega)) (str_eq (show _ = x.take n3 by rw [hx, show ((a : Int) + (n3 : Int)).toNat = a + n3 by omega, Int.toNat_natCast, drop_take_at]))) rfl ?_
   refine Wl.mv rfl rfl ?_
   refine Wl.y (y_buildS (z := [(.int .i64 0), (str []), (.int .i64 0)]) (pl := [(0, 1), (1, 1), (2, 1)]) (cs := [_, _, _]) Tryz.underlying105 (by kernel_rfl) (by kernel_rfl) rfl rfl rfl) rfl ?_
   refine Wl.storeS (by kernel_rfl) rfl rfl hB_o0 rfl rfl ?_
   rintro w_s4 hn_s4 hg_s4
   have hz_s4 := hg_s4.size
   have hb := below_blk hb hg_s4 hb.size (by omega)
   have hB_o0 := hn_s4
   refine Wl.nil <| Wq.next hK_87 <| Wc.ret <| Wq.then_ret ?_
   refine retN (rs := [.cell 4 105]) (vs := [_]) rfl (.cell rfl (loadS Tryz.underlying105 (by kernel_rfl) (fun j u hu => hB_o0.at hu)) .nil) ?_
   exact ⟨_, rfl, OneT.yes (n := n3) (by rw [← hx]; exact htok) (by decide) (by rw [← hx]) rfl, hb⟩
  have c0_27_ := c0_27
  try simp only [DZ] at c0_27
  have hq0 := of_decide_eq_false (hq.symm.trans c0_27_)
  have hqt : ¬ ((x.getD 0 0).toNat = 39 ∨ (48 ≤ (x.getD 0 0).toNat ∧ (x.getD 0 0).toNat ≤ 57)) := by rw [← hc]; exact hq0
  refine Wc.skip <| Wq.next hK_8 <| Wc.seq fun _ hK_96 => Wc.region <| Wl.mv rfl rfl <| Wl.sg rfl rfl <| Wl.nil <| Wq.next hK_96 <| Wc.seq fun _ hK_99 => Wc.block ?_
  refine Wc.loop (X := Nat) (fun d => [(0, str s), (1, .int .i64 (a : Int)), (4, .pointer (some ⟨g_o0, 0, none⟩)), (12, .int .i64 ((a + d : Nat) : Int))]) (fun d wr => a + d ≤ s.length ∧ (∀ j, j < d → isLet (x.getD j 0) = true) ∧ Below w.heap.size w wr ∧ Blk wr g_o0 105 (Tok.cells ⟨0, [], 0⟩)) (fun d => s.length - d) (0) ?_ ?_ ?_
  · exact Sub.cons' rfl (by first | rfl | exact int_eq (by omega) | exact int_eq (by simp) | (simp; done)) (Sub.cons' rfl (by first | rfl | exact int_eq (by omega) | exact int_eq (by simp) | (simp; done)) (Sub.cons' rfl (by first | rfl | exact int_eq (by omega) | exact int_eq (by simp) | (simp; done)) (Sub.cons' rfl (by first | rfl | exact int_eq (by omega) | exact int_eq (by simp) | (simp; done)) (Sub.nil))))
  · exact ⟨by omega, fun j h => by omega, hb, hB_o0⟩
  rintro d wr hI_101 _ hL_100
  replace hI_101 : a + d ≤ s.length ∧ (∀ j, j < d → isLet (x.getD j 0) = true) ∧ Below w.heap.size w wr ∧ Blk wr g_o0 105 (Tok.cells ⟨0, [], 0⟩) := hI_101
  obtain ⟨hd, hall, hb, hB_o0⟩ := hI_101
  show Wc _ _ _ _ _ [(0, str s), (1, .int .i64 (a : Int)), (4, .pointer (some ⟨g_o0, 0, none⟩)), (12, .int .i64 ((a + d : Nat) : Int))] _
  try have hzhb_L0 := hb.size
  have hlhB_o0_L0 := hB_o0.lt
  refine Wc.seq fun _ hK_102 => Wc.seq fun _ hK_103 => ?_
  refine Wc.meet (X := Bool) (fun q => [(0, str s), (1, .int .i64 (a : Int)), (4, .pointer (some ⟨g_o0, 0, none⟩)), (12, .int .i64 ((a + d : Nat) : Int)), (85, .bool q)]) (fun q wr => q = decide (a + d < s.length ∧ isLet (x.getD d 0) = true) ∧ Below w.heap.size w wr ∧ Blk wr g_o0 105 (Tok.cells ⟨0, [], 0⟩)) (fun _ hM_104 => ?_) ?_
  ·
   refine Wc.region <| Wl.mv rfl rfl <| Wl.mv rfl rfl ?_
   refine Wl.y (y_lens Tryz.underlying9 (by omega) rfl) rfl ?_
   refine Wl.y (y_lssi rfl rfl) rfl <| Wl.mv rfl rfl ?_
   refine Wl.guardT rfl rfl rfl (fun g_110 => ?_) (fun g_110 => ?_)
   ·
    have g_110_ := g_110
    try simp only [DZ] at g_110
    refine Wl.mv rfl rfl <| Wl.on' rfl rfl g_110_ <| Wl.mv rfl rfl <| Wl.on' rfl rfl g_110_ ?_
    refine Wl.y (y_eq (y_indexs Tryz.underlying9 rfl rfl (by omega) (by omega)) (int_eq (show _ = ((x.getD d 0).toNat : Int) by rw [hx0, Int.toNat_natCast]))) rfl ?_
    refine Wl.on' rfl rfl g_110_ ?_
    refine Wl.call txt129RLexB rfl rfl (RPart_r _ _) rfl ?_
    rintro _ w_k2 ⟨rfl, hs_k2⟩
    have hz_k2 := hs_k2.size
    have hb := hb.trans (hs_k2.mono hb.size)
    try have hB_o0 := Blk.below hB_o0 hs_k2
    refine Wl.y (y_pickT rfl g_110_ rfl) rfl ?_
    refine Wl.nil ?_
    refine Wq.meet hM_104 (decide (a + d < s.length ∧ isLet (x.getD d 0) = true)) (Sub.cons' rfl (by first | rfl | exact bool_eq (by rw [Bool.eq_iff_iff]; simp <;> omega)) (Sub.cons' rfl (by first | rfl | exact bool_eq (by rw [Bool.eq_iff_iff]; simp <;> omega)) (Sub.cons' rfl (by first | rfl | exact bool_eq (by rw [Bool.eq_iff_iff]; simp <;> omega)) (Sub.cons' rfl (by first | rfl | exact bool_eq (by rw [Bool.eq_iff_iff]; simp <;> omega)) (Sub.cons' rfl (by first | rfl | exact bool_eq (by rw [Bool.eq_iff_iff]; simp <;> omega)) (Sub.nil)))))) ?_
    exact ⟨rfl, hb, hB_o0⟩
   have g_110_ := g_110
   try simp only [DZ] at g_110
   refine Wl.off' rfl rfl g_110_ rfl rfl <| Wl.off' rfl rfl g_110_ rfl rfl <| Wl.off' rfl rfl g_110_ rfl rfl ?_
   refine Wl.y (y_pickF rfl g_110_ rfl) rfl ?_
   refine Wl.nil ?_
   refine Wq.meet hM_104 (decide (a + d < s.length ∧ isLet (x.getD d 0) = true)) (Sub.cons' rfl (by first | rfl | exact bool_eq (by rw [Bool.eq_iff_iff]; simp <;> omega)) (Sub.cons' rfl (by first | rfl | exact bool_eq (by rw [Bool.eq_iff_iff]; simp <;> omega)) (Sub.cons' rfl (by first | rfl | exact bool_eq (by rw [Bool.eq_iff_iff]; simp <;> omega)) (Sub.cons' rfl (by first | rfl | exact bool_eq (by rw [Bool.eq_iff_iff]; simp <;> omega)) (Sub.cons' rfl (by first | rfl | exact bool_eq (by rw [Bool.eq_iff_iff]; simp <;> omega)) (Sub.nil)))))) ?_
   exact ⟨rfl, hb, hB_o0⟩
  rintro q wr hI_117
  replace hI_117 : q = decide (a + d < s.length ∧ isLet (x.getD d 0) = true) ∧ Below w.heap.size w wr ∧ Blk wr g_o0 105 (Tok.cells ⟨0, [], 0⟩) := hI_117
  obtain ⟨hq3, hb, hB_o0⟩ := hI_117
  show Wq _ _ _ _ [(0, str s), (1, .int .i64 (a : Int)), (4, .pointer (some ⟨g_o0, 0, none⟩)), (12, .int .i64 ((a + d : Nat) : Int)), (85, .bool q)] _
  try have hzhb_g12 := hb.size
  have hlhB_o0_g12 := hB_o0.lt
  refine Wq.next hK_103 ?_
  refine Wc.cond rfl (fun c3_118 => ?_) (fun c3_118 => ?_)
  ·
   have c3_118_ := c3_118
   try simp only [DZ] at c3_118
   have hq3 := of_decide_eq_true (hq3.symm.trans c3_118_)
   refine Wc.skip <| Wq.next hK_102 <| Wc.block <| Wc.region <| Wl.mv rfl rfl ?_
   refine Wl.y (y_addI rfl rfl (by first | omega | (simp; done) | (simp; omega)) (by first | omega | (simp; done) | (simp; omega))) rfl ?_
   refine Wl.sg rfl rfl <| Wl.nil <| Wq.block_normal ?_
   refine fun a_ ha_ => hL_100 _ _ (d + 1) (by first | omega | (simp; omega)) (Sub.cons' rfl (by first | rfl | exact int_eq (by omega)) (Sub.cons' rfl (by first | rfl | exact int_eq (by omega)) (Sub.cons' rfl (by first | rfl | exact int_eq (by omega)) (Sub.cons' rfl (by first | rfl | exact int_eq (by omega)) (Sub.nil))))) ?_ a_ ha_
   exact ⟨by omega, fun j hj => by (by_cases e : j = d); (· rw [e]; exact hq3.2); (· exact hall j (by omega)), hb, hB_o0⟩
  have c3_118_ := c3_118
  try simp only [DZ] at c3_118
  have hq3 := of_decide_eq_false (hq3.symm.trans c3_118_)
  have hlet : letN x = d := letN_of (by omega) hall (fun h => by cases hl : isLet (x.getD d 0) with | false => rfl | true => exact absurd ⟨by omega, hl⟩ hq3)
  refine Wc.exit ?_
  refine Wq.then_exit <| Wq.then_exit <| Wq.block_exit <| Wq.next hK_99 <| Wc.seq fun _ hK_122 => Wc.seq fun _ hK_123 => Wc.region <| Wl.mv rfl rfl <| Wl.mv rfl rfl <| Wl.y (y_gtri rfl rfl) rfl ?_
  refine Wl.nil <| Wq.next hK_123 ?_
  refine Wc.cond rfl (fun c4_127 => ?_) (fun c4_127 => ?_)
  ·
   have c4_127_ := c4_127
   try simp only [DZ] at c4_127
   have hd0 : 0 < d := by have := c4_127; omega
   have hl0 : 0 < letN x := by omega
   refine Wc.seq fun _ hK_128 => Wc.region <| Wl.mv rfl rfl <| Wl.mv rfl rfl <| Wl.mv rfl rfl ?_
   refine Wl.y (y_eq (y_slices Tryz.underlying9 rfl rfl rfl (by omega) (by omega) (by omega)) (str_eq (show _ = x.take d by rw [hx, Int.toNat_natCast, Int.toNat_natCast, drop_take_at]))) rfl ?_
   refine Wl.sg rfl rfl <| Wl.nil <| Wq.next hK_128 <| Wc.seq fun _ hK_134 => Wc.region ?_
   refine Wl.call txt83RLexB rfl rfl (RKeys_r _) rfl ?_
   rintro _ w_k3 ⟨⟨A, rfl, hRk⟩, hs_k3⟩
   have hz_k3 := hs_k3.size
   have hb := hb.trans (hs_k3.mono hb.size)
   try have hB_o0 := Blk.below hB_o0 hs_k3
   refine Wl.mv rfl rfl ?_
   refine Wl.call txt82RLexB rfl rfl (RIn_r A 17 keysV (x.take d) (by decide) _ hRk) rfl ?_
   rintro _ w_k4 ⟨rfl, hs_k4⟩
   have hz_k4 := hs_k4.size
   have hb := hb.trans (hs_k4.mono hb.size)
   try have hB_o0 := Blk.below hB_o0 hs_k4
   refine Wl.sg rfl rfl <| Wl.nil <| Wq.next hK_134 <| Wc.seq fun _ hK_139 => Wc.seq fun _ hK_140 => Wc.region <| Wl.mv rfl rfl <| Wl.nil <| Wq.next hK_140 ?_
   refine Wc.cond rfl (fun c5_142 => ?_) (fun c5_142 => ?_)
   ·
    have c5_142_ := c5_142
    try simp only [DZ] at c5_142
    have htok := tokV_k hqt hl0 (by rw [hlet]; simpa using c5_142_)
    rw [hlet] at htok
    refine Wc.seq fun _ hK_143 => Wc.region <| Wl.mv rfl rfl <| Wl.mv rfl rfl ?_
    refine Wl.y (y_buildS (z := [(.int .i64 0), (str []), (.int .i64 0)]) (pl := [(0, 1), (1, 1), (2, 1)]) (cs := [_, _, _]) Tryz.underlying105 (by kernel_rfl) (by kernel_rfl) rfl rfl rfl) rfl ?_
    refine Wl.storeS (by kernel_rfl) rfl rfl hB_o0 rfl rfl ?_
    rintro w_s5 hn_s5 hg_s5
    have hz_s5 := hg_s5.size
    have hb := below_blk hb hg_s5 hb.size (by omega)
    have hB_o0 := hn_s5
    refine Wl.nil <| Wq.next hK_143 <| Wc.ret ?_
    refine Wq.then_ret (Wq.then_ret ?_)
    refine retN (rs := [.cell 4 105]) (vs := [_]) rfl (.cell rfl (loadS Tryz.underlying105 (by kernel_rfl) (fun j u hu => hB_o0.at hu)) .nil) ?_
    exact ⟨_, rfl, OneT.yes (n := d) (by rw [← hx]; exact htok) (by decide) (by rw [← hx]) rfl, hb⟩
   have c5_142_ := c5_142
   try simp only [DZ] at c5_142
   have hnk : ¬ x.take (letN x) ∈ keysV := by rw [hlet]; simpa using c5_142_
   refine Wc.skip <| Wq.next hK_139 <| Wc.seq fun _ hK_147 => Wc.region <| Wl.mv rfl rfl ?_
   refine Wl.call txt81RLexB rfl rfl (RWord_r (x.take d) (by have := List.length_take_le' d x; omega) _) rfl ?_
   rintro _ w_k5 ⟨rfl, hs_k5⟩
   have hz_k5 := hs_k5.size
   have hb := hb.trans (hs_k5.mono hb.size)
   try have hB_o0 := Blk.below hB_o0 hs_k5
   refine Wl.sg rfl rfl <| Wl.nil <| Wq.next hK_147 <| Wc.seq fun _ hK_151 => Wc.seq fun _ hK_152 => ?_
   have hwl := wordA_let (letN_all x)
   rw [hlet] at hwl
   refine Wc.region <| Wl.mv rfl rfl <| Wl.nil <| Wq.next hK_152 ?_
   refine Wc.cond rfl (fun c6_154 => ?_) (fun c6_154 => ?_)
   ·
    have c6_154_ := c6_154
    try simp only [DZ] at c6_154
    have htok := tokV_w hqt hl0 hnk (by rw [hlet, ← hwl]; exact c6_154_)
    rw [hlet] at htok
    refine Wc.seq fun _ hK_155 => Wc.region <| Wl.mv rfl rfl <| Wl.mv rfl rfl ?_
    refine Wl.y (y_buildS (z := [(.int .i64 0), (str []), (.int .i64 0)]) (pl := [(0, 1), (1, 1), (2, 1)]) (cs := [_, _, _]) Tryz.underlying105 (by kernel_rfl) (by kernel_rfl) rfl rfl rfl) rfl ?_
    refine Wl.storeS (by kernel_rfl) rfl rfl hB_o0 rfl rfl ?_
    rintro w_s6 hn_s6 hg_s6
    have hz_s6 := hg_s6.size
    have hb := below_blk hb hg_s6 hb.size (by omega)
    have hB_o0 := hn_s6
    refine Wl.nil <| Wq.next hK_155 <| Wc.ret ?_
    refine Wq.then_ret (Wq.then_ret ?_)
    refine retN (rs := [.cell 4 105]) (vs := [_]) rfl (.cell rfl (loadS Tryz.underlying105 (by kernel_rfl) (fun j u hu => hB_o0.at hu)) .nil) ?_
    exact ⟨_, rfl, OneT.yes (n := d) (by rw [← hx]; exact htok) (by decide) (by rw [← hx]) rfl, hb⟩
   have c6_154_ := c6_154
   try simp only [DZ] at c6_154
   have htok := tokV_u hqt hl0 hnk (by rw [hlet, ← hwl, c6_154_]; simp)
   refine Wc.skip <| Wq.next hK_151 <| Wc.seq fun _ hK_159 => Wc.region ?_
   refine Wl.y (y_buildS (z := [(.int .i64 0), (str []), (.int .i64 0)]) (pl := [(0, 1), (1, 1), (2, 1)]) (cs := [_, _, _]) Tryz.underlying105 (by kernel_rfl) (by kernel_rfl) rfl rfl rfl) rfl ?_
   refine Wl.storeS (by kernel_rfl) rfl rfl hB_o0 rfl rfl ?_
   rintro w_s7 hn_s7 hg_s7
   have hz_s7 := hg_s7.size
   have hb := below_blk hb hg_s7 hb.size (by omega)
   have hB_o0 := hn_s7
   refine Wl.nil <| Wq.next hK_159 <| Wc.ret <| Wq.then_ret ?_
   refine retN (rs := [.cell 4 105]) (vs := [_]) rfl (.cell rfl (loadS Tryz.underlying105 (by kernel_rfl) (fun j u hu => hB_o0.at hu)) .nil) ?_
   exact ⟨_, rfl, OneT.no (by rw [← hx]; exact htok), hb⟩
  have c4_127_ := c4_127
  try simp only [DZ] at c4_127
  have hd0 : d = 0 := by have := c4_127; omega
  have hl0 : ¬ 0 < letN x := by omega
  refine Wc.skip <| Wq.next hK_122 <| Wc.seq fun _ hK_161 => Wc.seq fun _ hK_162 => Wc.region <| Wl.sg rfl rfl <| Wl.nil <| Wq.next hK_162 <| Wc.block ?_
  refine Wc.loop (X := Nat) (fun n => [(0, str s), (1, .int .i64 (a : Int)), (4, .pointer (some ⟨g_o0, 0, none⟩)), (16, .int .i64 (n : Int))]) (fun n wr => n ≤ 3 ∧ (∀ m, n < m → m ≤ 3 → ¬ Sg x m) ∧ Below w.heap.size w wr ∧ Blk wr g_o0 105 (Tok.cells ⟨0, [], 0⟩)) (fun n => n) (3) ?_ ?_ ?_
  · exact Sub.cons' rfl (by first | rfl | exact int_eq (by omega) | exact int_eq (by simp) | (simp; done)) (Sub.cons' rfl (by first | rfl | exact int_eq (by omega) | exact int_eq (by simp) | (simp; done)) (Sub.cons' rfl (by first | rfl | exact int_eq (by omega) | exact int_eq (by simp) | (simp; done)) (Sub.cons' rfl (by first | rfl | exact int_eq (by omega) | exact int_eq (by simp) | (simp; done)) (Sub.nil))))
  · exact ⟨by omega, fun m h1 h2 => by omega, hb, hB_o0⟩
  rintro n wr hI_165 _ hL_164
  replace hI_165 : n ≤ 3 ∧ (∀ m, n < m → m ≤ 3 → ¬ Sg x m) ∧ Below w.heap.size w wr ∧ Blk wr g_o0 105 (Tok.cells ⟨0, [], 0⟩) := hI_165
  obtain ⟨hn3, hno, hb, hB_o0⟩ := hI_165
  show Wc _ _ _ _ _ [(0, str s), (1, .int .i64 (a : Int)), (4, .pointer (some ⟨g_o0, 0, none⟩)), (16, .int .i64 (n : Int))] _
  try have hzhb_L1 := hb.size
  have hlhB_o0_L1 := hB_o0.lt
  refine Wc.seq fun _ hK_166 => Wc.seq fun _ hK_167 => Wc.region <| Wl.mv rfl rfl <| Wl.y (y_gtri rfl rfl) rfl <| Wl.nil <| Wq.next hK_167 ?_
  refine Wc.cond rfl (fun c7_170 => ?_) (fun c7_170 => ?_)
  ·
   have c7_170_ := c7_170
   try simp only [DZ] at c7_170
   have hn0 : 0 < n := by have := c7_170; omega
   refine Wc.skip <| Wq.next hK_166 <| Wc.seq fun _ hK_171 => Wc.block <| Wc.seq fun _ hK_172 => ?_
   refine Wc.meet (X := Bool) (fun q => [(0, str s), (1, .int .i64 (a : Int)), (4, .pointer (some ⟨g_o0, 0, none⟩)), (16, .int .i64 (n : Int)), (128, .bool q)]) (fun q wr => q = decide (n ≤ x.length ∧ x.take n ∈ signsR) ∧ Below w.heap.size w wr ∧ Blk wr g_o0 105 (Tok.cells ⟨0, [], 0⟩)) (fun _ hM_173 => ?_) ?_
   ·
    refine Wc.any (n := 16) (fun w' => Below w.heap.size w w' ∧ Blk w' g_o0 105 (Tok.cells ⟨0, [], 0⟩)) #[false, false, false, false, false, false, false, false, false, false, false, false, false, false, false, false] (by kernel_rfl) rfl (by kernel_rfl) ?_
    refine Wa.drew ?_
    rintro w_g25 hs_g25
    have hz_g25 := hs_g25.size
    have hb := hb.trans (hs_g25.mono hb.size)
    try have hB_o0 := Blk.below hB_o0 hs_g25
    refine Wa.take (i := 0) #[true, false, false, false, false, false, false, false, false, false, false, false, false, false, false, false] rfl (by kernel_rfl) (fun _ _ _ h => h) rfl (fun wq hq => Yl.ld (y_move rfl)) ⟨hb, hB_o0⟩ ?_
    refine Wa.take (i := 1) #[true, true, false, false, false, false, false, false, false, false, false, false, false, false, false, false] rfl (by kernel_rfl) (fun _ _ _ h => h) rfl (fun wq hq => Yl.ld (y_move rfl)) ⟨hb, hB_o0⟩ ?_
    refine Wa.take (i := 2) #[true, true, true, false, false, false, false, false, false, false, false, false, false, false, false, false] rfl (by kernel_rfl) (fun _ _ _ h => h) rfl (fun wq hq => Yl.ld (y_addI rfl rfl (by first | omega | (simp; done) | (simp; omega)) (by first | omega | (simp; done) | (simp; omega)))) ⟨hb, hB_o0⟩ ?_
    refine Wa.take (i := 3) #[true, true, true, true, false, false, false, false, false, false, false, false, false, false, false, false] rfl (by kernel_rfl) (fun _ _ _ h => h) rfl (fun wq hq => Yl.ld (y_move rfl)) ⟨hb, hB_o0⟩ ?_
    refine Wa.take (i := 4) #[true, true, true, true, true, false, false, false, false, false, false, false, false, false, false, false] rfl (by kernel_rfl) (fun _ _ _ h => h) rfl (fun wq hq => Yl.ld (y_lens Tryz.underlying9 (by omega) rfl)) ⟨hb, hB_o0⟩ ?_
    refine Wa.take (i := 5) #[true, true, true, true, true, true, false, false, false, false, false, false, false, false, false, false] rfl (by kernel_rfl) (fun _ _ _ h => h) rfl (fun wq hq => Yl.ld (y_leqi rfl rfl)) ⟨hb, hB_o0⟩ ?_
    refine Wa.take (i := 6) #[true, true, true, true, true, true, true, false, false, false, false, false, false, false, false, false] rfl (by kernel_rfl) (fun _ _ _ h => h) rfl (fun wq hq => Yl.ld (y_move rfl)) ⟨hb, hB_o0⟩ ?_
    refine Wa.split (s := 119) rfl (fun g_181 => ?_) (fun g_181 => ?_)
    ·
     have g_181_ := g_181
     try simp only [DZ] at g_181
     refine Wa.takeOn (i := 8) #[true, true, true, true, true, true, true, false, true, false, false, false, false, false, false, false] rfl rfl rfl g_181_ (by kernel_rfl) (fun _ _ _ h => h) rfl (fun wq hq => Yl.ld (y_move rfl)) ⟨hb, hB_o0⟩ ?_
     refine Wa.takeOn (i := 9) #[true, true, true, true, true, true, true, false, true, true, false, false, false, false, false, false] rfl rfl rfl g_181_ (by kernel_rfl) (fun _ _ _ h => h) rfl (fun wq hq => Yl.ld (y_move rfl)) ⟨hb, hB_o0⟩ ?_
     refine Wa.takeOn (i := 10) #[true, true, true, true, true, true, true, false, true, true, true, false, false, false, false, false] rfl rfl rfl g_181_ (by kernel_rfl) (fun _ _ _ h => h) rfl (fun wq hq => Yl.ld (y_move rfl)) ⟨hb, hB_o0⟩ ?_
     refine Wa.takeOn (i := 11) #[true, true, true, true, true, true, true, false, true, true, true, true, false, false, false, false] rfl rfl rfl g_181_ (by kernel_rfl) (fun _ _ _ h => h) rfl (fun wq hq => Yl.ld (y_move rfl)) ⟨hb, hB_o0⟩ ?_
     refine Wa.takeOn (i := 12) #[true, true, true, true, true, true, true, false, true, true, true, true, true, false, false, false] rfl rfl rfl g_181_ (by kernel_rfl) (fun _ _ _ h => h) rfl (fun wq hq => Yl.ld (y_addI rfl rfl (by first | omega | (simp; done) | (simp; omega)) (by first | omega | (simp; done) | (simp; omega)))) ⟨hb, hB_o0⟩ ?_
     refine Wa.takeOn (i := 13) #[true, true, true, true, true, true, true, false, true, true, true, true, true, true, false, false] rfl rfl rfl g_181_ (by kernel_rfl) (fun _ _ _ h => h) rfl (fun wq hq => Yl.ld (y_eq (y_slices Tryz.underlying9 rfl rfl rfl (by omega) (by omega) (by omega)) (str_eq (show _ = x.take n by rw [hx, show ((a : Int) + (n : Int)).toNat = a + n by omega, Int.toNat_natCast, drop_take_at])))) ⟨hb, hB_o0⟩ ?_
     refine Wa.some (rs := [7]) (by kernel_rfl) rfl ?_
     refine Ws.cons #[true, true, true, true, true, true, true, true, true, true, true, true, true, true, false, false] rfl rfl (fun _ hK_188 => ?_) ?_
     ·
      refine Wl.on' rfl rfl g_181_ ?_
      refine Wl.call txt130RLexB rfl rfl (RSigns_r _) rfl ?_
      rintro _ w_k6 ⟨⟨A, rfl, hRs⟩, hs_k6⟩
      have hz_k6 := hs_k6.size
      have hb := hb.trans (hs_k6.mono hb.size)
      try have hB_o0 := Blk.below hB_o0 hs_k6
      refine Wl.nil ?_
      refine Wq.back hK_188 ⟨hb, hB_o0⟩ ?_
      refine Wa.some (rs := [14]) (by kernel_rfl) rfl ?_
      refine Ws.cons #[true, true, true, true, true, true, true, true, true, true, true, true, true, true, true, false] rfl rfl (fun _ hK_190 => ?_) ?_
      ·
       refine Wl.on' rfl rfl g_181_ ?_
       refine Wl.call txt82RLexB rfl rfl (RIn_r A 36 signsR (x.take n) (by decide) _ hRs) rfl ?_
       rintro _ w_k7 ⟨rfl, hs_k7⟩
       have hz_k7 := hs_k7.size
       have hb := hb.trans (hs_k7.mono hb.size)
       try have hB_o0 := Blk.below hB_o0 hs_k7
       refine Wl.nil ?_
       refine Wq.back hK_190 ⟨hb, hB_o0⟩ ?_
       refine Wa.take (i := 15) #[true, true, true, true, true, true, true, true, true, true, true, true, true, true, true, true] rfl (by kernel_rfl) (fun _ _ _ h => h) rfl (fun wq hq => Yl.ld (y_pickT rfl g_181_ rfl)) ⟨hb, hB_o0⟩ ?_
       refine Wa.done (by kernel_rfl) ?_
       refine Wq.meet hM_173 (decide (n ≤ x.length ∧ x.take n ∈ signsR)) (Sub.cons' rfl (by first | rfl | exact bool_eq (by rw [Bool.eq_iff_iff]; simp <;> omega)) (Sub.cons' rfl (by first | rfl | exact bool_eq (by rw [Bool.eq_iff_iff]; simp <;> omega)) (Sub.cons' rfl (by first | rfl | exact bool_eq (by rw [Bool.eq_iff_iff]; simp <;> omega)) (Sub.cons' rfl (by first | rfl | exact bool_eq (by rw [Bool.eq_iff_iff]; simp <;> omega)) (Sub.cons' rfl (by first | rfl | exact bool_eq (by rw [Bool.eq_iff_iff]; simp <;> omega)) (Sub.nil)))))) ?_
       exact ⟨rfl, hb, hB_o0⟩
      exact Ws.nil
     exact Ws.nil
    have g_181_ := g_181
    try simp only [DZ] at g_181
    refine Wa.takeOff (i := 7) #[true, true, true, true, true, true, true, true, false, false, false, false, false, false, false, false] rfl rfl rfl g_181_ (by kernel_rfl) (fun _ _ _ h => h) rfl ⟨hb, hB_o0⟩ ?_
    refine Wa.takeOff (i := 8) #[true, true, true, true, true, true, true, true, true, false, false, false, false, false, false, false] rfl rfl rfl g_181_ (by kernel_rfl) (fun _ _ _ h => h) rfl ⟨hb, hB_o0⟩ ?_
    refine Wa.takeOff (i := 9) #[true, true, true, true, true, true, true, true, true, true, false, false, false, false, false, false] rfl rfl rfl g_181_ (by kernel_rfl) (fun _ _ _ h => h) rfl ⟨hb, hB_o0⟩ ?_
    refine Wa.takeOff (i := 10) #[true, true, true, true, true, true, true, true, true, true, true, false, false, false, false, false] rfl rfl rfl g_181_ (by kernel_rfl) (fun _ _ _ h => h) rfl ⟨hb, hB_o0⟩ ?_
    refine Wa.takeOff (i := 11) #[true, true, true, true, true, true, true, true, true, true, true, true, false, false, false, false] rfl rfl rfl g_181_ (by kernel_rfl) (fun _ _ _ h => h) rfl ⟨hb, hB_o0⟩ ?_
    refine Wa.takeOff (i := 12) #[true, true, true, true, true, true, true, true, true, true, true, true, true, false, false, false] rfl rfl rfl g_181_ (by kernel_rfl) (fun _ _ _ h => h) rfl ⟨hb, hB_o0⟩ ?_
    refine Wa.takeOff (i := 13) #[true, true, true, true, true, true, true, true, true, true, true, true, true, true, false, false] rfl rfl rfl g_181_ (by kernel_rfl) (fun _ _ _ h => h) rfl ⟨hb, hB_o0⟩ ?_
    refine Wa.takeOff (i := 14) #[true, true, true, true, true, true, true, true, true, true, true, true, true, true, true, false] rfl rfl rfl g_181_ (by kernel_rfl) (fun _ _ _ h => h) rfl ⟨hb, hB_o0⟩ ?_
    refine Wa.take (i := 15) #[true, true, true, true, true, true, true, true, true, true, true, true, true, true, true, true] rfl (by kernel_rfl) (fun _ _ _ h => h) rfl (fun wq hq => Yl.ld (y_pickF rfl g_181_ rfl)) ⟨hb, hB_o0⟩ ?_
    refine Wa.done (by kernel_rfl) ?_
    refine Wq.meet hM_173 (decide (n ≤ x.length ∧ x.take n ∈ signsR)) (Sub.cons' rfl (by first | rfl | exact bool_eq (by rw [Bool.eq_iff_iff]; simp <;> omega)) (Sub.cons' rfl (by first | rfl | exact bool_eq (by rw [Bool.eq_iff_iff]; simp <;> omega)) (Sub.cons' rfl (by first | rfl | exact bool_eq (by rw [Bool.eq_iff_iff]; simp <;> omega)) (Sub.cons' rfl (by first | rfl | exact bool_eq (by rw [Bool.eq_iff_iff]; simp <;> omega)) (Sub.cons' rfl (by first | rfl | exact bool_eq (by rw [Bool.eq_iff_iff]; simp <;> omega)) (Sub.nil)))))) ?_
    exact ⟨rfl, hb, hB_o0⟩
   rintro q wr hI_194
   replace hI_194 : q = decide (n ≤ x.length ∧ x.take n ∈ signsR) ∧ Below w.heap.size w wr ∧ Blk wr g_o0 105 (Tok.cells ⟨0, [], 0⟩) := hI_194
   obtain ⟨hq5, hb, hB_o0⟩ := hI_194
   show Wq _ _ _ _ [(0, str s), (1, .int .i64 (a : Int)), (4, .pointer (some ⟨g_o0, 0, none⟩)), (16, .int .i64 (n : Int)), (128, .bool q)] _
   try have hzhb_g25 := hb.size
   have hlhB_o0_g25 := hB_o0.lt
   refine Wq.next hK_172 ?_
   refine Wc.cond rfl (fun c8_195 => ?_) (fun c8_195 => ?_)
   ·
    have c8_195_ := c8_195
    try simp only [DZ] at c8_195
    have hq6 := of_decide_eq_true (hq5.symm.trans c8_195_)
    have hq5 : Sg x n := hq6
    have htok := tokV_s hqt hl0 (sign_hit hn3 hn0 hq5 hno)
    rw [List.length_take, Nat.min_eq_left hq5.1] at htok
    refine Wc.seq fun _ hK_196 => ?_
    have hnx := hq5.1
    refine Wc.region <| Wl.mv rfl rfl <| Wl.mv rfl rfl <| Wl.mv rfl rfl <| Wl.mv rfl rfl ?_
    refine Wl.y (y_addI rfl rfl (by first | omega | (simp; done) | (simp; omega)) (by first | omega | (simp; done) | (simp; omega))) rfl ?_
    refine Wl.y (y_eq (y_slices Tryz.underlying9 rfl rfl rfl (by omega) (by omega) (by omega)) (str_eq (show _ = x.take n by rw [hx, show ((a : Int) + (n : Int)).toNat = a + n by omega, Int.toNat_natCast, drop_take_at]))) rfl ?_
    refine Wl.mv rfl rfl ?_
    refine Wl.y (y_buildS (z := [(.int .i64 0), (str []), (.int .i64 0)]) (pl := [(0, 1), (1, 1), (2, 1)]) (cs := [_, _, _]) Tryz.underlying105 (by kernel_rfl) (by kernel_rfl) rfl rfl rfl) rfl ?_
    refine Wl.storeS (by kernel_rfl) rfl rfl hB_o0 rfl rfl ?_
    rintro w_s8 hn_s8 hg_s8
    have hz_s8 := hg_s8.size
    have hb := below_blk hb hg_s8 hb.size (by omega)
    have hB_o0 := hn_s8
    refine Wl.nil <| Wq.next hK_196 <| Wc.ret ?_
    refine Wq.block_ret (Wq.then_ret (Wq.then_ret (Wq.block_ret (Wq.then_ret ?_))))
    refine retN (rs := [.cell 4 105]) (vs := [_]) rfl (.cell rfl (loadS Tryz.underlying105 (by kernel_rfl) (fun j u hu => hB_o0.at hu)) .nil) ?_
    exact ⟨_, rfl, OneT.yes (n := n) (by rw [← hx]; exact htok) (by decide) (by rw [← hx]) rfl, hb⟩
   have c8_195_ := c8_195
   try simp only [DZ] at c8_195
   have hq6 := of_decide_eq_false (hq5.symm.trans c8_195_)
   have hq5 : ¬ Sg x n := hq6
   refine Wc.skip <| Wq.block_normal <| Wq.next hK_171 <| Wc.region <| Wl.mv rfl rfl ?_
   refine Wl.y (y_subI rfl rfl (by first | omega | (simp; done) | (simp; omega)) (by first | omega | (simp; done) | (simp; omega))) rfl ?_
   refine Wl.sg rfl rfl <| Wl.nil ?_
   refine fun a_ ha_ => hL_164 _ _ (n - 1) (by first | omega | (simp; omega)) (Sub.cons' rfl (by first | rfl | exact int_eq (by omega)) (Sub.cons' rfl (by first | rfl | exact int_eq (by omega)) (Sub.cons' rfl (by first | rfl | exact int_eq (by omega)) (Sub.cons' rfl (by first | rfl | exact int_eq (by omega)) (Sub.nil))))) ?_ a_ ha_
   exact ⟨by omega, fun m h1 h2 => by (by_cases e : m = n); (· rw [e]; exact hq5); (· exact hno m (by omega) h2), hb, hB_o0⟩
  have c7_170_ := c7_170
  try simp only [DZ] at c7_170
  have htok := tokV_t hqt hl0 (sign_miss fun m h1 h2 => hno m (by have := c7_170; omega) h2)
  refine Wc.exit ?_
  refine Wq.then_exit <| Wq.then_exit <| Wq.block_exit <| Wq.next hK_161 <| Wc.seq fun _ hK_208 => Wc.region ?_
  refine Wl.y (y_buildS (z := [(.int .i64 0), (str []), (.int .i64 0)]) (pl := [(0, 1), (1, 1), (2, 1)]) (cs := [_, _, _]) Tryz.underlying105 (by kernel_rfl) (by kernel_rfl) rfl rfl rfl) rfl ?_
  refine Wl.storeS (by kernel_rfl) rfl rfl hB_o0 rfl rfl ?_
  rintro w_s9 hn_s9 hg_s9
  have hz_s9 := hg_s9.size
  have hb := below_blk hb hg_s9 hb.size (by omega)
  have hB_o0 := hn_s9
  refine Wl.nil <| Wq.next hK_208 <| Wc.ret ?_
  refine retN (rs := [.cell 4 105]) (vs := [_]) rfl (.cell rfl (loadS Tryz.underlying105 (by kernel_rfl) (fun j u hu => hB_o0.at hu)) .nil) ?_
  exact ⟨_, rfl, OneT.no (by rw [← hx]; exact htok), hb⟩
end Go.Proofs.YtccgjfcaomngjaaGreatDoor
