/- Plain: what is read is right; the lines ahead of one that is wrong. · Plain: how great a graph is that is read; the lines ahead of one. -/
import Derived.Test.YtjmlknjbhbfneaaGreatDoorZLT
namespace Go.Proofs.YtjmlknjbhbfneaaGreatDoor
open Go.RowKit Go.Bw Go.Bw.Fl
set_option linter.unusedVariables false
set_option linter.unusedSimpArgs false
theorem prop_fine {s : List UInt8} {p : Pr} {r : List UInt8} (h : ∀ e, propOf s e = (p, r, if p.2.k = 0 then badE e 4 else e)) : PrOk p := by
  have h0 := h 0
  have hok := propOf_ok s 0
  rw [h0] at hok
  unfold propOf at h0
  dsimp only at h0
  split at h0
  · rename_i hno
    have h3 := congrArg (fun x => x.2.2) h0
    dsimp only at h3
    have e2 : badE 0 2 = 2 := rfl
    have e4 : badE 0 4 = 4 := rfl
    rw [e2, e4] at h3
    split at h3 <;> cases h3
  · rename_i hno
    have h1 := congrArg (fun x => x.1) h0
    dsimp only at h1
    have hw : wordA (cutE s).1 = true ∧ (readV pf uqV (cutE s).2).isSome = true := by
      unfold propNo at hno
      simp only [Bool.or_eq_true, Bool.not_eq_true', not_or] at hno
      exact ⟨by simpa using hno.1.1, by cases e : (readV pf uqV (cutE s).2).isSome with | true => rfl | false => exact absurd e hno.1.2⟩
    cases hr : readV pf uqV (cutE s).2 with
    | none => rw [hr] at hw; cases hw.2
    | some q =>
      rw [hr] at h1
      have hp1 : p.1 = (cutE s).1 := by rw [← h1]
      have hp2 : p.2 = q.1 := by rw [← h1]; rfl
      exact ⟨by rw [hp1]; exact hw.1, hok, by rw [hp2]; exact (readV_right (n := q.2) hr).1⟩
theorem props_fine : ∀ (n : Nat) (s : List UInt8) (ps : List Pr), s.length ≤ n → blanksV s = s → propsS s = some ps → ∀ p ∈ ps, PrOk p
  | n, s, ps, hn, ht, hps => by
    by_cases hs : s = []
    · subst hs
      have : propsS [] = some [] := by unfold propsS; rw [fields_nil rfl]; rfl
      rw [this] at hps; cases hps; intro p hp; cases hp
    · have h0 := List.length_pos_iff.2 hs
      obtain ⟨n, rfl⟩ : ∃ k, n = k + 1 := ⟨n - 1, by omega⟩
      rcases prop_step ht hs with ⟨p, r, h1, h2, h3, h4⟩ | ⟨h1, _⟩
      · rw [h1] at hps
        obtain ⟨ps', h5, rfl⟩ := Option.map_eq_some_iff.1 hps
        intro q hq
        rcases List.mem_cons.1 hq with rfl | hq
        · exact prop_fine h2
        · exact props_fine n r ps' (by omega) h3 h5 q hq
      · rw [h1] at hps; cases hps
theorem rest_fine : ∀ (n : Nat) (s : List UInt8) (ls : List (List UInt8)) (ps : List Pr), s.length ≤ n → blanksV s = s → restS s = some (ls, ps) → (∀ l ∈ ls, wordA l = true) ∧ ∀ p ∈ ps, PrOk p
  | n, s, ls, ps, hn, ht, hr => by
    cases hc : Lib.hasPrefix s [58] with
    | false =>
      rw [no_lab ht hc] at hr
      obtain ⟨q, h1, h2⟩ := Option.map_eq_some_iff.1 hr
      cases h2
      exact ⟨(fun l hl => by cases hl), props_fine _ s _ (Nat.le_refl _) ht h1⟩
    | true =>
      have h0 := colon_cons hc
      obtain ⟨n, rfl⟩ : ∃ k, n = k + 1 := ⟨n - 1, by omega⟩
      have h1 := wdRest_le (s.drop 1)
      have h2 : (s.drop 1).length = s.length - 1 := List.length_drop
      rcases lab_step ht hc with ⟨hw, h3⟩ | ⟨_, h3⟩
      · rw [h3] at hr
        obtain ⟨⟨ls', ps'⟩, h4, h5⟩ := Option.map_eq_some_iff.1 hr
        cases h5
        obtain ⟨h6, h7⟩ := rest_fine n (wdRest (s.drop 1)) ls' ps' (by omega) (wdRest_trim _) h4
        refine ⟨fun l hl => ?_, h7⟩
        rcases List.mem_cons.1 hl with rfl | hl
        · exact hw
        · exact h6 l hl
      · rw [h3] at hr; cases hr
/-! no error: all apart -/
theorem eL_zero : ∀ (ls o : List (List UInt8)) (e : Int), eL o ls e = 0 → e = 0 ∧ (∀ x ∈ o, ∀ y ∈ ls, x ≠ y) ∧ ls.Pairwise (· ≠ ·)
  | [], o, e, h => ⟨h, (fun x _ y hy => by cases hy), .nil⟩
  | w :: r, o, e, h => by
    unfold eL at h
    obtain ⟨h1, h2, h3⟩ := eL_zero r _ _ h
    by_cases hm : w ∈ o
    · rw [if_pos hm] at h1; exact absurd h1 (badE_ne (by decide))
    · rw [if_neg hm] at h1
      refine ⟨h1, fun x hx y hy => ?_, List.pairwise_cons.2 ⟨fun y hy => h2 w (by simp) y hy, h3⟩⟩
      rcases List.mem_cons.1 hy with rfl | hy
      · exact fun e => hm (e ▸ hx)
      · exact h2 x (List.mem_append_left _ hx) y hy
def Rise (o : List Pr) : Prop := o.Pairwise (fun p q => Op.bytesLess p.1 q.1 = true)
theorem ins_rise {o : List Pr} {p : Pr} (h : Rise o) (hf : foundP o p.1 = false) : Rise (insP o (lbP o p.1) p) := by
  obtain ⟨b, h1, h2, h3⟩ := tw_split (fun q : Pr => decide (Lib.compareBytes q.1 p.1 < 0)) o
  obtain ⟨a, ha⟩ : ∃ a, a = o.takeWhile (fun q : Pr => decide (Lib.compareBytes q.1 p.1 < 0)) := ⟨_, rfl⟩
  rw [← ha] at h1 h2
  have hl : lbP o p.1 = a.length := by unfold lbP; rw [ha]
  have hlt : ∀ q ∈ a, Op.bytesLess q.1 p.1 = true := fun q hq => (cmp_lt _ _).1 (of_decide_eq_true (h2 q hq))
  have hins : insP o (lbP o p.1) p = a ++ p :: b := by
    unfold insP
    rw [hl]
    conv => lhs; rw [h1]
    rw [List.take_left, List.drop_left]
  unfold Rise at h
  rw [h1, List.pairwise_append] at h
  have hgt : ∀ q ∈ b, Op.bytesLess p.1 q.1 = true := by
    cases b with
    | nil => intro q hq; cases hq
    | cons c r =>
      have h4 := h3 c rfl
      have h5 : Op.bytesLess c.1 p.1 = false := by
        cases e : Op.bytesLess c.1 p.1 with
        | false => rfl
        | true => rw [decide_eq_true ((cmp_lt _ _).2 e)] at h4; cases h4
      have h6 : c.1 ≠ p.1 := fun e => by
        unfold foundP at hf
        have h7 : o.getD a.length pr0 = c := by
          rw [h1]; simp [List.getD_eq_getElem?_getD]
        rw [hl, h7, decide_eq_true e] at hf
        have h8 : a.length < o.length := by rw [h1]; simp
        rw [decide_eq_true h8] at hf; cases hf
      have h7 : Op.bytesLess p.1 c.1 = true := by
        rcases bl_total c.1 p.1 with h | h | h
        · rw [h] at h5; cases h5
        · exact absurd h h6
        · exact h
      intro q hq
      rcases List.mem_cons.1 hq with rfl | hq
      · exact h7
      · exact bl_trans _ _ _ h7 ((List.pairwise_cons.1 h.2.1).1 q hq)
  rw [hins]
  refine List.pairwise_append.2 ⟨h.1, List.pairwise_cons.2 ⟨hgt, h.2.1⟩, fun x hx y hy => ?_⟩
  rcases List.mem_cons.1 hy with rfl | hy
  · exact hlt x hx
  · exact h.2.2 x hx y hy
theorem ins_mem {o : List Pr} {p q : Pr} {i : Nat} (h : q ∈ insP o i p) : q ∈ o ∨ q = p := by
  unfold insP at h
  rw [List.mem_append, List.mem_cons] at h
  rcases h with h | h | h
  · exact .inl (List.mem_of_mem_take h)
  · exact .inr h
  · exact .inl (List.mem_of_mem_drop h)
theorem nullE_zero {p : Pr} {e : Int} (h : nullE p e = 0) : e = 0 ∧ p.2.k ≠ 0 := by
  unfold nullE at h
  split at h
  · exact absurd h (badE_ne (by decide))
  · rename_i h1; exact ⟨h, h1⟩
theorem eP_zero : ∀ (ps o : List Pr) (e : Int), Rise o → eP o ps e = 0 → e = 0 ∧ Rise (insAll o ps) ∧ (∀ p ∈ ps, p.2.k ≠ 0) ∧ ∀ q ∈ insAll o ps, q ∈ o ∨ q ∈ ps
  | [], o, e, ho, h => ⟨h, ho, (fun p hp => by cases hp), fun q hq => .inl hq⟩
  | p :: r, o, e, ho, h => by
    unfold eP at h
    have key : foundP o p.1 = false ∧ nullE p e = 0 ∧ eP (insP o (lbP o p.1) p) r 0 = 0 := by
      cases hf : foundP o p.1 with
      | true =>
        rw [hf, if_pos rfl] at h
        exfalso
        have : ∀ (r o : List Pr) (e : Int), e ≠ 0 → eP o r e ≠ 0 := by
          intro r
          induction r with
          | nil => intro o e he; exact he
          | cons q r ih =>
            intro o e he
            unfold eP
            refine ih _ _ ?_
            have hn : nullE q e ≠ 0 := fun h => he (nullE_zero h).1
            split
            · exact badE_ne (by decide)
            · exact hn
        exact this r _ _ (badE_ne (by decide)) h
      | false =>
        rw [hf, if_neg (by simp)] at h
        by_cases hz : nullE p e = 0
        · rw [hz] at h; exact ⟨rfl, hz, h⟩
        · exfalso
          have : ∀ (r o : List Pr) (e : Int), e ≠ 0 → eP o r e ≠ 0 := by
            intro r
            induction r with
            | nil => intro o e he; exact he
            | cons q r ih =>
              intro o e he
              unfold eP
              refine ih _ _ ?_
              have hn : nullE q e ≠ 0 := fun h => he (nullE_zero h).1
              split
              · exact badE_ne (by decide)
              · exact hn
          exact this r _ _ hz h
    obtain ⟨hf, hz, hr⟩ := key
    obtain ⟨_, h2, h3, h4⟩ := eP_zero r _ 0 (ins_rise ho hf) hr
    refine ⟨(nullE_zero hz).1, h2, fun q hq => ?_, fun q hq => ?_⟩
    · rcases List.mem_cons.1 hq with rfl | hq
      · exact (nullE_zero hz).2
      · exact h3 q hq
    · rcases h4 q hq with h5 | h5
      · rcases ins_mem h5 with h6 | h6
        · exact .inl h6
        · exact .inr (by rw [h6]; exact List.mem_cons_self ..)
      · exact .inr (List.mem_cons_of_mem _ h5)
theorem sort_rise {ls : List (List UInt8)} (h : ls.Pairwise (· ≠ ·)) : (sortS ls).Pairwise (fun x y => Op.bytesLess x y = true) := by
  have h1 : (sortS ls).Pairwise (fun x y => decide (x ≤ y) = true) := by
    have := List.pairwise_mergeSort (le := fun x y : List UInt8 => decide (x ≤ y)) (fun a b c h1 h2 => by
      rw [decide_eq_true_eq] at h1 h2 ⊢
      intro hc
      have h1' : ¬ b < a := h1
      have h2' : ¬ c < b := h2
      have k1 : Op.bytesLess c a = true := by rw [bytesLess_eq]; exact decide_eq_true hc
      rcases bl_total a b with e | e | e
      · exact h2' (by have := bl_trans _ _ _ k1 e; rw [bytesLess_eq] at this; exact of_decide_eq_true this)
      · subst e; exact h2' hc
      · exact h1' (by rw [bytesLess_eq] at e; exact of_decide_eq_true e)) (fun a b => by
      rw [Bool.or_eq_true, decide_eq_true_eq, decide_eq_true_eq]
      rcases bl_total a b with e | e | e
      · exact .inl (of_decide_eq_true (le_of_less e))
      · subst e; exact .inl (fun hc => by have : Op.bytesLess a a = true := (by rw [bytesLess_eq]; exact decide_eq_true hc); rw [bl_irr] at this; cases this)
      · exact .inr (of_decide_eq_true (le_of_less e))) ls
    exact this
  have h2 : (sortS ls).Pairwise (· ≠ ·) := List.Perm.pairwise (List.mergeSort_perm ls _).symm h (fun h e => h e.symm)
  refine (h1.and h2).imp fun {x y} ⟨a, b⟩ => ?_
  rw [decide_eq_true_eq] at a
  have a' : ¬ y < x := a
  rcases bl_total x y with e | e | e
  · exact e
  · exact absurd e b
  · exact absurd (by rw [bytesLess_eq] at e; exact of_decide_eq_true e) a'
/-- what is read of a line without an error is right -/
theorem read_el {nm : List UInt8} {s : List UInt8} {ls : List (List UInt8)} {ps : List Pr} {e0 : Int} (hw : wordA nm = true) (ht : blanksV s = s) (hr : restS s = some (ls, ps)) (h : eP [] ps (eL [] ls e0) = 0) : ElOk nm (sortS ls) (insAll [] ps) ∧ e0 = 0 := by
  obtain ⟨h1, h2⟩ := rest_fine _ s ls ps (Nat.le_refl _) ht hr
  obtain ⟨h3, h4, h5, h6⟩ := eP_zero ps [] _ .nil h
  obtain ⟨h7, _, h8⟩ := eL_zero ls [] e0 h3
  have hm : ∀ q ∈ insAll [] ps, q ∈ ps := fun q hq => (h6 q hq).elim (fun h => by cases h) id
  exact ⟨⟨hw, fun l hl => h1 l ((List.mergeSort_perm ls _).mem_iff.1 hl), sort_rise h8, fun p hp => h2 p (hm p hp), h4, fun p hp => h5 p (hm p hp)⟩, h7⟩
theorem el_back {n : List UInt8} {ls : List (List UInt8)} {ps : List Pr} (h : ElOk n ls ps) : elementV n ls ps = true := by
  have rise : ∀ {l : List (List UInt8)}, (∀ w ∈ l, wordA w = true) → l.Pairwise (fun x y => Op.bytesLess x y = true) → risingV l = true := fun {l} hw hp => allN_t fun j hj => by
    unfold riseAt
    rw [getD_at [] hj, hw _ (List.getElem_mem hj), Bool.true_and]
    by_cases h0 : j = 0
    · subst h0; rfl
    · have hj1 : j - 1 < l.length := by omega
      rw [getD_at [] hj1, List.pairwise_iff_getElem.1 hp (j - 1) j hj1 hj (by omega)]; simp
  have h1 : risingV (ps.map (·.1)) = true := rise (fun w hw => by obtain ⟨p, hp, rfl⟩ := List.mem_map.1 hw; exact (h.po p hp).1) (List.pairwise_map.2 h.pp)
  unfold elementV
  rw [rise h.lw h.lp, h1, h.nw]
  have h2 : allN ps.length (valueAt ps) = true := allN_t fun j hj => by
    unfold valueAt
    rw [getD_at pr0 hj, decide_eq_true (h.pn _ (List.getElem_mem hj)), (h.po _ (List.getElem_mem hj)).2.2]; rfl
  rw [h2]; rfl
theorem nodup_dist {l : List (List UInt8)} (h : l.Nodup) : distinct l = true := by
  rw [distinct_iff]
  refine allN_t fun j hj => firstAt_iff.2 fun i hi e => ?_
  have hi' : i < l.length := by omega
  rw [getD_at [] hi', getD_at [] hj] at e
  exact List.pairwise_iff_getElem.1 h i j hi' hj hi e
theorem RG.right {g : GV} (h : RG g) : rightG g = 0 := by
  have h1 : okG g = true := by
    unfold okG
    rw [nodup_dist h.nd, nodup_dist h.ed]
    have a1 : allN g.ns.length (fun i => nodeV (g.ns.getD i nd0)) = true := allN_t fun j hj => by
      rw [getD_at nd0 hj]; exact el_back (h.ns _ (List.getElem_mem hj))
    have a2 : allN g.es.length (fun i => edgeV g.ns.length (g.es.getD i ed0)) = true := allN_t fun j hj => by
      have := h.es _ (List.getElem_mem hj)
      rw [getD_at ed0 hj]
      unfold edgeV isV
      rw [el_back this.el, decide_eq_true this.f0, decide_eq_true this.f1, decide_eq_true this.t0, decide_eq_true this.t1]; rfl
    rw [a1, a2]; rfl
  unfold rightG
  rw [if_neg (by have := h.nl; have := h.el; omega), if_pos h1]
theorem scope_zero {o : Option Nat} {e : Int} (h : scopeE o e = 0) : e = 0 ∧ o.isSome = true := by
  unfold scopeE at h
  split at h
  · rename_i h1; exact ⟨h, h1⟩
  · exact absurd h (badE_ne (by decide))
theorem mlook_fresh {l : List (List UInt8)} {x : List UInt8} (h : mlook (nmap l) x = none) : x ∉ l := by
  rw [mlook_nmap] at h
  exact idx_none.1 (by simpa using h)
theorem snoc_nodup {α β : Type} (f : α → β) {l : List α} {a : α} (h : (l.map f).Nodup) (ha : f a ∉ l.map f) : ((l ++ [a]).map f).Nodup := by
  rw [List.map_append, List.nodup_append]
  refine ⟨h, by simp, fun x hx y hy e => ?_⟩
  simp at hy
  subst hy
  exact ha (e ▸ hx)
theorem RG.step {s : List UInt8} {g : GV} (h : RG g) (hs : (lineStep s g).2 = 0) : RG (lineStep s g).1 := by
  unfold lineStep at hs ⊢
  split
  · exact h
  · rename_i h1
    rw [if_neg h1] at hs
    split
    · rename_i h2
      rw [if_pos h2] at hs
      obtain ⟨t, ht⟩ : ∃ t, t = wdRest (blanksV s) := ⟨_, rfl⟩
      rw [← ht] at hs ⊢
      by_cases hw : wordA (wd t) = true
      · cases hr : restS (wdRest t) with
        | none => rw [node_bad g (.inr hr)] at hs; cases hs
        | some q =>
          obtain ⟨ls, ps⟩ := q
          rw [node_ok g hw hr] at hs ⊢
          obtain ⟨z1, z2, z3⟩ := nameE_zero hs
          rw [nmap_len] at z3
          have hl : (nnames g).length = g.ns.length := by unfold nnames; rw [List.length_map]
          obtain ⟨e1, _⟩ := read_el hw (wdRest_trim t) hr z1
          refine ⟨fun d hd => ?_, snoc_nodup ND.n (a := ⟨wd t, sortS ls, insAll [] ps⟩) h.nd (mlook_fresh z2), fun d hd => ?_, h.ed, ?_, h.el⟩
          · rcases List.mem_append.1 hd with h4 | h4
            · exact h.ns d h4
            · simp at h4; rw [h4]; exact e1
          · have := h.es d hd
            exact ⟨this.el, this.f0, by have := this.f1; simp; omega, this.t0, by have := this.t1; simp; omega⟩
          · simp; omega
      · rw [node_bad g (.inl (by simpa using hw))] at hs; cases hs
    · rename_i h2
      rw [if_neg h2] at hs
      split
      · rename_i h3
        rw [if_pos h3] at hs
        obtain ⟨t, ht⟩ : ∃ t, t = wdRest (blanksV s) := ⟨_, rfl⟩
        rw [← ht] at hs ⊢
        by_cases hbad : wordA (wd t) = false ∨ wordA (wd (wdRest t)) = false ∨ ¬ (wd (wdRest (wdRest t)) = arr2 ∨ wd (wdRest (wdRest t)) = line2) ∨ wordA (wd (wdRest (wdRest (wdRest t)))) = false ∨ restS (wdRest (wdRest (wdRest (wdRest t)))) = none
        · rw [edge_words_bad g hbad] at hs; cases hs
        · have b1 : wordA (wd t) = true := by cases e : wordA (wd t) with | true => rfl | false => exact absurd (.inl e) hbad
          have b2 : wordA (wd (wdRest t)) = true := by cases e : wordA (wd (wdRest t)) with | true => rfl | false => exact absurd (.inr (.inl e)) hbad
          have b3 : wd (wdRest (wdRest t)) = arr2 ∨ wd (wdRest (wdRest t)) = line2 := Classical.byContradiction fun h => hbad (.inr (.inr (.inl h)))
          have b4 : wordA (wd (wdRest (wdRest (wdRest t)))) = true := by cases e : wordA (wd (wdRest (wdRest (wdRest t)))) with | true => rfl | false => exact absurd (.inr (.inr (.inr (.inl e)))) hbad
          cases hr : restS (wdRest (wdRest (wdRest (wdRest t)))) with
          | none => exact absurd (.inr (.inr (.inr (.inr hr)))) hbad
          | some q =>
            obtain ⟨ls, ps⟩ := q
            rw [edge_words g b1 b2 b3 b4 hr] at hs ⊢
            obtain ⟨z1, z2, z3⟩ := nameE_zero hs
            rw [nmap_len] at z3
            have hl : (enames g).length = g.es.length := by unfold enames; rw [List.length_map]
            have hln : (nnames g).length = g.ns.length := by unfold nnames; rw [List.length_map]
            obtain ⟨e1, e2⟩ := read_el b1 (wdRest_trim _) hr z1
            obtain ⟨e3, i2⟩ := scope_zero e2
            obtain ⟨_, i1⟩ := scope_zero e3
            obtain ⟨f, hf⟩ := Option.isSome_iff_exists.1 i1
            obtain ⟨u, hu⟩ := Option.isSome_iff_exists.1 i2
            have hfl := Go.Bw.idx_lt hf
            have hul := Go.Bw.idx_lt hu
            refine ⟨h.ns, h.nd, fun d hd => ?_, snoc_nodup ED.n (a := ⟨wd t, _, _, _, sortS ls, insAll [] ps⟩) h.ed (mlook_fresh z2), h.nl, ?_⟩
            · rcases List.mem_append.1 hd with h4 | h4
              · have := h.es d h4
                exact ⟨this.el, this.f0, this.f1, this.t0, this.t1⟩
              · simp at h4; rw [h4, hf, hu]
                refine ⟨e1, ?_, ?_, ?_, ?_⟩ <;> (simp only [Option.getD_some]; omega)
            · simp; omega
      · rename_i h3
        rw [if_neg h3] at hs; cases hs
theorem RG.nil : RG ⟨[], []⟩ := ⟨(fun d hd => by cases hd), .nil, (fun d hd => by cases hd), .nil, by simp, by simp⟩
theorem loadGo_right : ∀ (l : List (List UInt8)) (i : Nat) (g : GV), RG g → (loadGo l i g).2.2 = 0 → RG (loadGo l i g).1 ∧ (loadGo l i g).2.1 = 0
  | [], _, g, h, _ => ⟨h, rfl⟩
  | s :: r, i, g, h, hz => by
    rw [loadGo_cons] at hz ⊢
    by_cases h1 : (lineStep s g).2 = 0
    · rw [if_pos h1] at hz ⊢
      exact loadGo_right r (i + 1) _ (h.step h1) hz
    · rw [if_neg h1] at hz; exact absurd hz h1
theorem load_right {b : List UInt8} (h : (loadV b).2.2 = 0) : RG (loadV b).1 ∧ (loadV b).2.1 = 0 := loadGo_right _ 0 _ RG.nil h
end Go.Proofs.YtjmlknjbhbfneaaGreatDoor
namespace Go.Proofs.YtjmlknjbhbfneaaGreatDoor
open Go.RowKit Go.Bw Go.Bw.Fl
set_option linter.unusedVariables false
set_option linter.unusedSimpArgs false
theorem prop_size {s : List UInt8} {p : Pr} {r : List UInt8} (h : ∀ e, propOf s e = (p, r, if p.2.k = 0 then badE e 4 else e)) : p.1.length + p.2.s.length + 1 + r.length ≤ s.length := by
  have h0 := h 0
  unfold propOf at h0
  dsimp only at h0
  split at h0
  · have h3 := congrArg (fun x => x.2.2) h0
    dsimp only at h3
    have e2 : badE 0 2 = 2 := rfl
    have e4 : badE 0 4 = 4 := rfl
    rw [e2, e4] at h3
    split at h3 <;> cases h3
  · rename_i hno
    have h1 := congrArg (fun x => x.1) h0
    have h2 := congrArg (fun x => x.2.1) h0
    dsimp only at h1 h2
    cases hr : readV pf uqV (cutE s).2 with
    | none =>
      unfold propNo at hno
      rw [hr] at hno
      simp at hno
    | some q =>
      obtain ⟨v, m⟩ := q
      rw [hr] at h1 h2
      have hml := (readV_len hr).2
      have hm0 := (readV_len hr).1
      have hsl := readV_sl (readV_take hr (Nat.le_refl _))
      rw [List.length_take] at hsl
      have hp1 : p.1 = (cutE s).1 := by rw [← h1]
      have hp2 : p.2 = v := by rw [← h1]; rfl
      have hr2 : r.length ≤ (cutE s).2.length - m := by
        rw [← h2]
        have := blanksV_le ((cutE s).2.drop m)
        rw [List.length_drop] at this
        exact this
      have h61 : (61 : UInt8) ∈ s := Classical.byContradiction fun hn => by
        rw [cutE_none hn] at hml
        simp at hml; omega
      obtain ⟨nm, u, hsu, hnm⟩ := eq_split h61
      have hc : cutE s = (nm, u) := by rw [hsu]; exact cutE_eq hnm
      rw [hc] at hp1 hr2 hml hsl
      dsimp only at hp1 hr2 hml hsl
      rw [hp1, hp2, hsu, List.length_append, List.length_cons]; omega
theorem props_size : ∀ (n : Nat) (s : List UInt8) (ps : List Pr), s.length ≤ n → blanksV s = s → propsS s = some ps → szP ps ≤ s.length
  | n, s, ps, hn, ht, hps => by
    by_cases hs : s = []
    · subst hs
      have : propsS [] = some [] := by unfold propsS; rw [fields_nil rfl]; rfl
      rw [this] at hps; cases hps; simp [szP]
    · have h0 := List.length_pos_iff.2 hs
      obtain ⟨n, rfl⟩ : ∃ k, n = k + 1 := ⟨n - 1, by omega⟩
      rcases prop_step ht hs with ⟨p, r, h1, h2, h3, h4⟩ | ⟨h1, _⟩
      · rw [h1] at hps
        obtain ⟨ps', h5, rfl⟩ := Option.map_eq_some_iff.1 hps
        have h6 := props_size n r ps' (by omega) h3 h5
        have h7 := prop_size h2
        have e : szP (p :: ps') = p.1.length + p.2.s.length + 1 + szP ps' := by simp [szP]
        omega
      · rw [h1] at hps; cases hps
theorem rest_size : ∀ (n : Nat) (s : List UInt8) (ls : List (List UInt8)) (ps : List Pr), s.length ≤ n → blanksV s = s → restS s = some (ls, ps) → szL ls + szP ps ≤ s.length
  | n, s, ls, ps, hn, ht, hr => by
    cases hc : Lib.hasPrefix s [58] with
    | false =>
      rw [no_lab ht hc] at hr
      obtain ⟨q, h1, h2⟩ := Option.map_eq_some_iff.1 hr
      cases h2
      have := props_size _ s _ (Nat.le_refl _) ht h1
      simpa [szL] using this
    | true =>
      have h0 := colon_cons hc
      obtain ⟨n, rfl⟩ : ∃ k, n = k + 1 := ⟨n - 1, by omega⟩
      have h1 := wdRest_le (s.drop 1)
      have h2 : (s.drop 1).length = s.length - 1 := List.length_drop
      rcases lab_step ht hc with ⟨hw, h3⟩ | ⟨_, h3⟩
      · rw [h3] at hr
        obtain ⟨⟨ls', ps'⟩, h4, h5⟩ := Option.map_eq_some_iff.1 hr
        cases h5
        have h6 := rest_size n (wdRest (s.drop 1)) ls' ps' (by omega) (wdRest_trim _) h4
        obtain ⟨b, g1, _, _, g4⟩ := wd_split (s.drop 1)
        have g5 := congrArg List.length g1
        rw [List.length_append] at g5
        have g6 := blanksV_le b
        rw [g4] at h6
        have e : szL (wd (s.drop 1) :: ls') = (wd (s.drop 1)).length + 1 + szL ls' := by simp [szL]
        have h7 : 0 < s.length := h0
        show szL (wd (s.drop 1) :: ls') + szP ps' ≤ s.length
        rw [e]; omega
      · rw [h3] at hr; cases hr
theorem szL_sort (ls : List (List UInt8)) : szL (sortS ls) = szL ls := by
  unfold szL
  exact List.Perm.sum_nat ((List.mergeSort_perm ls _).map _)
theorem szP_ins (o : List Pr) (i : Nat) (p : Pr) : szP (insP o i p) = szP o + (p.1.length + p.2.s.length + 1) := by
  have h := congrArg szP (List.take_append_drop i o)
  unfold szP at h ⊢
  unfold insP
  rw [List.map_append, List.sum_append] at h
  rw [List.map_append, List.sum_append, List.map_cons, List.sum_cons]
  omega
theorem szP_all : ∀ (ps o : List Pr), szP (insAll o ps) = szP o + szP ps
  | [], o => by simp [insAll, szP]
  | p :: r, o => by
    unfold insAll
    rw [szP_all r, szP_ins]
    have e : szP (p :: r) = p.1.length + p.2.s.length + 1 + szP r := by simp [szP]
    omega
theorem wd_rest_len (s : List UInt8) : (wd s).length + (wdRest s).length ≤ s.length := by
  obtain ⟨b, g1, _, _, g4⟩ := wd_split s
  have g5 := congrArg List.length g1
  rw [List.length_append] at g5
  have g6 := blanksV_le b
  rw [g4]; omega
theorem step_size {s : List UInt8} {g : GV} (hs : (lineStep s g).2 = 0) : szG (lineStep s g).1 ≤ szG g + s.length + 1 := by
  have hbl := blanksV_le s
  have hr1 := wdRest_le (blanksV s)
  unfold lineStep at hs ⊢
  split
  · show szG g ≤ _; omega
  · rename_i h1
    rw [if_neg h1] at hs
    split
    · rename_i h2
      rw [if_pos h2] at hs
      obtain ⟨t, ht⟩ : ∃ t, t = wdRest (blanksV s) := ⟨_, rfl⟩
      rw [← ht] at hs hr1 ⊢
      by_cases hw : wordA (wd t) = true
      · cases hr : restS (wdRest t) with
        | none => rw [node_bad g (.inr hr)] at hs; cases hs
        | some q =>
          obtain ⟨ls, ps⟩ := q
          rw [node_ok g hw hr]
          have h3 := rest_size _ _ ls ps (Nat.le_refl _) (wdRest_trim t) hr
          have h4 := wd_rest_len t
          have e : szG ⟨g.ns ++ [⟨wd t, sortS ls, insAll [] ps⟩], g.es⟩ = szG g + szN ⟨wd t, sortS ls, insAll [] ps⟩ := by unfold szG; simp; omega
          have e2 : szN ⟨wd t, sortS ls, insAll [] ps⟩ = (wd t).length + szL ls + szP ps + 1 := by
            unfold szN; rw [szL_sort, szP_all]; simp [szP]
          show szG ⟨g.ns ++ [⟨wd t, sortS ls, insAll [] ps⟩], g.es⟩ ≤ _
          rw [e, e2]; omega
      · rw [node_bad g (.inl (by simpa using hw))] at hs; cases hs
    · rename_i h2
      rw [if_neg h2] at hs
      split
      · rename_i h3
        rw [if_pos h3] at hs
        obtain ⟨t, ht⟩ : ∃ t, t = wdRest (blanksV s) := ⟨_, rfl⟩
        rw [← ht] at hs hr1 ⊢
        by_cases hbad : wordA (wd t) = false ∨ wordA (wd (wdRest t)) = false ∨ ¬ (wd (wdRest (wdRest t)) = arr2 ∨ wd (wdRest (wdRest t)) = line2) ∨ wordA (wd (wdRest (wdRest (wdRest t)))) = false ∨ restS (wdRest (wdRest (wdRest (wdRest t)))) = none
        · rw [edge_words_bad g hbad] at hs; cases hs
        · have b1 : wordA (wd t) = true := by cases e : wordA (wd t) with | true => rfl | false => exact absurd (.inl e) hbad
          have b2 : wordA (wd (wdRest t)) = true := by cases e : wordA (wd (wdRest t)) with | true => rfl | false => exact absurd (.inr (.inl e)) hbad
          have b3 : wd (wdRest (wdRest t)) = arr2 ∨ wd (wdRest (wdRest t)) = line2 := Classical.byContradiction fun h => hbad (.inr (.inr (.inl h)))
          have b4 : wordA (wd (wdRest (wdRest (wdRest t)))) = true := by cases e : wordA (wd (wdRest (wdRest (wdRest t)))) with | true => rfl | false => exact absurd (.inr (.inr (.inr (.inl e)))) hbad
          cases hr : restS (wdRest (wdRest (wdRest (wdRest t)))) with
          | none => exact absurd (.inr (.inr (.inr (.inr hr)))) hbad
          | some q =>
            obtain ⟨ls, ps⟩ := q
            rw [edge_words g b1 b2 b3 b4 hr]
            have h5 := rest_size _ _ ls ps (Nat.le_refl _) (wdRest_trim _) hr
            have h4 := wd_rest_len t
            have k1 := wdRest_le (wdRest t)
            have k2 := wdRest_le (wdRest (wdRest t))
            have k3 := wdRest_le (wdRest (wdRest (wdRest t)))
            have e : ∀ d : ED, szG ⟨g.ns, g.es ++ [d]⟩ = szG g + szE d := fun d => by unfold szG; simp; omega
            dsimp only
            rw [e]
            unfold szE
            rw [szL_sort, szP_all]
            dsimp only
            simp only [szP, List.map_nil, List.sum_nil] at h5 ⊢
            omega
      · show szG g ≤ _; omega
theorem loadGo_size : ∀ (l : List (List UInt8)) (i : Nat) (g : GV), szG (loadGo l i g).1 ≤ szG g + (l.map fun s => s.length + 1).sum
  | [], i, g => by simp [loadGo]
  | s :: r, i, g => by
    rw [loadGo_cons]
    by_cases h1 : (lineStep s g).2 = 0
    · rw [if_pos h1]
      have h2 := loadGo_size r (i + 1) (lineStep s g).1
      have h3 := step_size h1
      rw [List.map_cons, List.sum_cons]; omega
    · rw [if_neg h1]; simp [szG]
theorem splitL_sum : ∀ (b : List UInt8), ((splitL b).map fun s => s.length + 1).sum = b.length + 1
  | [] => rfl
  | c :: r => by
    have ih := splitL_sum r
    by_cases h : c = 10
    · subst h
      have e : splitL (10 :: r) = [] :: splitL r := by show (if _ then _ else _) = _; rw [if_pos rfl]
      rw [e, List.map_cons, List.sum_cons, ih]; simp; omega
    · rw [splitL_cons h]
      rw [← splitL_head r] at ih
      simp only [List.map_cons, List.sum_cons, List.length_cons] at ih ⊢
      omega
theorem load_size (b : List UInt8) : szG (loadV b).1 ≤ b.length + 1 := by
  have h := loadGo_size (splitL b) 0 ⟨[], []⟩
  rw [splitL_sum] at h
  have e : szG ⟨[], []⟩ = 0 := rfl
  rw [e] at h
  unfold loadV; omega
/-! the lines of a text -/
def joinL : List (List UInt8) → List UInt8
  | [] => []
  | [l] => l
  | l :: r => l ++ 10 :: joinL r
theorem joinL_cons (l : List UInt8) {r : List (List UInt8)} (h : r ≠ []) : joinL (l :: r) = l ++ 10 :: joinL r := by
  cases r with
  | nil => exact absurd rfl h
  | cons a r => rfl
theorem join_split : ∀ (b : List UInt8), joinL (splitL b) = b
  | [] => rfl
  | c :: r => by
    have ih := join_split r
    by_cases h : c = 10
    · subst h
      have e : splitL (10 :: r) = [] :: splitL r := by show (if _ then _ else _) = _; rw [if_pos rfl]
      rw [e, joinL_cons _ (splitL_ne r), ih]; rfl
    · rw [splitL_cons h]
      rw [← splitL_head r] at ih
      cases ht : (splitL r).tail with
      | nil => rw [ht] at ih; conv => rhs; rw [← ih]
               rfl
      | cons a q =>
        rw [ht, joinL_cons _ (by simp)] at ih
        rw [joinL_cons _ (by simp)]
        conv => rhs; rw [← ih]
        rfl
theorem split_no10 : ∀ (b : List UInt8), ∀ l ∈ splitL b, (10 : UInt8) ∉ l
  | [], l, hl => by simp [splitL] at hl; rw [hl]; simp
  | c :: r, l, hl => by
    have ih := split_no10 r
    by_cases h : c = 10
    · subst h
      have e : splitL (10 :: r) = [] :: splitL r := by show (if _ then _ else _) = _; rw [if_pos rfl]
      rw [e] at hl
      rcases List.mem_cons.1 hl with rfl | hl
      · simp
      · exact ih l hl
    · rw [splitL_cons h] at hl
      rw [← splitL_head r] at ih
      rcases List.mem_cons.1 hl with rfl | hl
      · intro hm
        rcases List.mem_cons.1 hm with e | hm
        · exact h e.symm
        · exact ih _ (List.mem_cons_self ..) hm
      · exact ih l (List.mem_cons_of_mem _ hl)
theorem join_feeds : ∀ (L : List (List UInt8)) (j : Nat), j < L.length → joinL L = feeds (L.take j) ++ joinL (L.drop j)
  | [], j, h => by simp at h
  | l :: r, 0, _ => rfl
  | l :: r, j + 1, h => by
    have hj : j < r.length := by simpa using h
    have hne : r ≠ [] := fun e => by rw [e] at hj; simp at hj
    rw [joinL_cons _ hne, join_feeds r j hj, List.take_succ_cons, List.drop_succ_cons]
    unfold feeds
    rw [List.flatMap_cons]; simp
theorem split_join : ∀ {L : List (List UInt8)}, L ≠ [] → (∀ l ∈ L, (10 : UInt8) ∉ l) → splitL (joinL L) = L
  | [], h, _ => absurd rfl h
  | [l], _, h => split_none (h l (List.mem_cons_self ..))
  | l :: a :: r, _, h => by
    rw [joinL_cons _ (by simp), split_line _ (h l (List.mem_cons_self ..)), split_join (by simp) (fun q hq => h q (List.mem_cons_of_mem _ hq))]
theorem join_take : ∀ (L : List (List UInt8)) (j : Nat), j + 1 < L.length → (joinL L).take (pos L (j + 1) - 1) = joinL (L.take (j + 1))
  | [], j, h => by simp at h
  | l :: r, 0, h => by
    have hne : r ≠ [] := fun e => by rw [e] at h; simp at h
    have e : pos (l :: r) 1 - 1 = l.length := by simp [pos, feeds]
    rw [e, joinL_cons _ hne, List.take_left]; rfl
  | l :: r, j + 1, h => by
    have hj : j + 1 < r.length := by simpa using h
    have hne : r ≠ [] := fun e => by rw [e] at hj; simp at hj
    have hne2 : r.take (j + 1) ≠ [] := fun e => by
      have h9 : (r.take (j + 1)).length = 0 := by rw [e]; rfl
      rw [List.length_take] at h9; omega
    have hp : pos (l :: r) (j + 1 + 1) = l.length + 1 + pos r (j + 1) := by
      unfold pos feeds; rw [List.take_succ_cons, List.flatMap_cons, List.length_append, List.length_append]; rfl
    have hp1 : 0 < pos r (j + 1) := by
      rw [pos_succ (by omega : j < r.length)]; omega
    rw [hp, joinL_cons _ hne, List.take_succ_cons, joinL_cons _ hne2, show l.length + 1 + pos r (j + 1) - 1 = l.length + (pos r (j + 1) - 1 + 1) by omega, List.take_append, List.take_of_length_le (by omega), show l.length + (pos r (j + 1) - 1 + 1) - l.length = pos r (j + 1) - 1 + 1 by omega, List.take_succ_cons, join_take r j hj]
theorem line_in {L : List (List UInt8)} {i q : Nat} (hi : i + 1 < L.length) (hL : ∀ l ∈ L, (10 : UInt8) ∉ l) : (q < (L.getD i []).length → (joinL L).getD (pos L i + q) 0 ≠ 10) ∧ (joinL L).getD (pos L i + (L.getD i []).length) 0 = 10 ∧ pos L i + (L.getD i []).length < (joinL L).length := by
  have hi' : i < L.length := by omega
  have hm : (10 : UInt8) ∉ L.getD i [] := by rw [getD_at [] hi']; exact hL _ (List.getElem_mem hi')
  have hne : L.drop (i + 1) ≠ [] := fun e => by
    have := congrArg List.length e
    rw [List.length_drop] at this; simp at this; omega
  have e : joinL L = feeds (L.take i) ++ (L.getD i [] ++ 10 :: joinL (L.drop (i + 1))) := by
    rw [join_feeds L i hi', List.drop_eq_getElem_cons hi', joinL_cons _ hne, getD_at [] hi']
  obtain ⟨X, hX⟩ : ∃ X, X = L.getD i [] := ⟨_, rfl⟩
  rw [← hX] at e hm ⊢
  have hp : pos L i = (feeds (L.take i)).length := rfl
  rw [hp, e]
  simp only [List.getD_eq_getElem?_getD]
  refine ⟨fun hq => ?_, ?_, ?_⟩
  · rw [List.getElem?_append_right (by omega), Nat.add_sub_cancel_left, List.getElem?_append_left hq, List.getElem?_eq_getElem hq]
    intro h; exact hm (by rw [← h]; exact List.getElem_mem hq)
  · rw [List.getElem?_append_right (by omega), Nat.add_sub_cancel_left, List.getElem?_append_right (Nat.le_refl _), Nat.sub_self]; rfl
  · rw [List.length_append, List.length_append, List.length_cons]; omega
/-- where the error is: the lines ahead of it are read -/
theorem loadGo_err : ∀ (l : List (List UInt8)) (i : Nat) (g : GV), (loadGo l i g).2.2 ≠ 0 → ∃ k : Nat, k < l.length ∧ loadGo l i g = (⟨[], []⟩, ((i + k : Nat) : Int) + 1, (loadGo l i g).2.2) ∧ (loadGo (l.take k) i g).2.2 = 0
  | [], i, g, h => absurd rfl h
  | s :: r, i, g, h => by
    rw [loadGo_cons] at h
    by_cases h1 : (lineStep s g).2 = 0
    · rw [if_pos h1] at h
      obtain ⟨k, h2, h3, h4⟩ := loadGo_err r (i + 1) _ h
      refine ⟨k + 1, by simpa using h2, ?_, ?_⟩
      · rw [loadGo_cons, if_pos h1]
        conv => lhs; rw [h3]
        congr 2; omega
      · rw [List.take_succ_cons, loadGo_cons, if_pos h1]; exact h4
    · rw [if_neg h1] at h
      refine ⟨0, by simp, ?_, rfl⟩
      rw [loadGo_cons, if_neg h1]; rfl
theorem load_err {b : List UInt8} (h : (loadV b).2.2 ≠ 0) : ∃ k : Nat, k < (splitL b).length ∧ loadV b = (⟨[], []⟩, (k : Int) + 1, (loadV b).2.2) ∧ (0 < k → (loadV (joinL ((splitL b).take k))).2.2 = 0) := by
  obtain ⟨k, h1, h2, h3⟩ := loadGo_err (splitL b) 0 ⟨[], []⟩ h
  refine ⟨k, h1, ?_, fun hk => ?_⟩
  · have e : (((0 + k : Nat) : Int)) = (k : Int) := by omega
    rw [e] at h2; exact h2
  · have hne : (splitL b).take k ≠ [] := fun e => by
      have h9 : ((splitL b).take k).length = 0 := by rw [e]; rfl
      rw [List.length_take] at h9; omega
    unfold loadV
    rw [split_join hne (fun l hl => split_no10 b l (List.mem_of_mem_take hl))]; exact h3
end Go.Proofs.YtjmlknjbhbfneaaGreatDoor
