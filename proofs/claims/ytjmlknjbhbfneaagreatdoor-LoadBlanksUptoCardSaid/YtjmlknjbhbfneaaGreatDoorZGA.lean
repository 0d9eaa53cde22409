/- label.Word at whatever bytes; a map written at a key; the length of a map. · Plain: graphs; when a graph is right; how one lies in memory. · package graph: rising, element, is, indexed, Right, by the calculus. · package graph: indexed, Right, by the calculus. -/
import Derived.Test.YtjmlknjbhbfneaaGreatDoorZL
import Derived.Laws.RangeAny
import Derived.Test.YtjmlknjbhbfneaaGreatDoorZI
import Derived.Test.YtjmlknjbhbfneaaGreatDoorZH
import Derived.Test.YtjmlknjbhbfneaaGreatDoorZT
namespace Go.Bw
open Go.RowKit
set_option linter.unusedVariables false
set_option linter.unusedSimpArgs false
section
variable {P : Program} {N : Nat} {D : List Deferred} {env env' : Env} {a : Act} {w w' : World} {Q : Exit → Act → World → Prop}
variable {ops : Array Oper} {rest : List Oper} {d : Nat} {op : Op} {ty : TypeId} {pos : String} {af : Array Edge}
theorem Wl.nextsA {x : Operand} {l : List UInt8} {b i : Nat} (hx : ev env x = some (.pointer (some ⟨b, 0, none⟩))) (hi : Its w b l i) (hd : Nat.blt d N = true)
    (h0 : ¬ i < l.length → Wl P ops Q rest N D ((d, .tuple #[.bool false]) :: env) w)
    (h1 : i < l.length → ∀ (r j : Nat), ((l.getD i 0).toNat < 128 → r = (l.getD i 0).toNat ∧ j = i + 1) → (128 ≤ (l.getD i 0).toNat → 128 ≤ r) → ∀ w', Its w' b l j → w.grownBy w' (some b) → Wl P ops Q rest N D ((d, .tuple #[.bool true, .int .i64 (i : Int), .int .i32 (r : Int)]) :: env) w') :
    Wl P ops Q (⟨some d, .next x true, ty, pos, af, none⟩ :: rest) N D env w := by
  have hsz : (⟨l.toArray⟩ : ByteArray).size = l.length := size_str l
  by_cases hlt : i < l.length
  · have hs : i < (⟨l.toArray⟩ : ByteArray).size := by rw [hsz]; exact hlt
    have he : (⟨l.toArray⟩ : ByteArray)[i]'hs = l.getD i 0 := by
      have : (⟨l.toArray⟩ : ByteArray)[i]'hs = l[i] := by show l.toArray[i] = _; simp
      rw [this]; simp [List.getD, List.getElem?_eq_getElem hlt]
    have hr := Go.Lib.run_next_any_at (P := P) w b ⟨l.toArray⟩ i ty hi hs
    refine Wl.m (fun a ha dst pos af g' => by simp [execOp, ha.eval hx, hr]) hd (h1 hlt (Utf8.decode ⟨l.toArray⟩ i).1 (i + (Utf8.decode ⟨l.toArray⟩ i).2) (fun hlo => ?_) (fun hhi => ?_) _ (Go.Lib.iterAt_heap w b _ i _ hi) ⟨rfl, rfl, rfl, by rw [Go.Lib.iterAt_size]; exact Nat.le_refl _, fun k _ hk => Go.Lib.iterAt_other w b k _ _ (fun e => hk (by rw [e]))⟩)
    · rw [decode_ascii _ i hs (by rw [he]; exact hlo), he]; exact ⟨rfl, rfl⟩
    · exact (decode_high _ i hs (by rw [he]; exact hhi)).1
  · have hr := Go.Lib.run_next_end_at (P := P) w b ⟨l.toArray⟩ i ty hi (by rw [hsz]; exact hlt)
    exact Wl.m (fun a ha dst pos af g' => by simp [execOp, ha.eval hx, hr]) hd (h0 hlt)
/-- where a key stands; a map with a key written -/
def mfind : List (List UInt8 × Value) → List UInt8 → Option Nat
  | [], _ => none
  | (k, _) :: r, key => if key = k then some 0 else (mfind r key).map (· + 1)
def mput : List (List UInt8 × Value) → List UInt8 → Value → List (List UInt8 × Value)
  | [], key, v => [(key, v)]
  | (k, u) :: r, key, v => if key = k then (k, v) :: r else (k, u) :: mput r key v
theorem mput_none : ∀ {kv : List (List UInt8 × Value)} {key : List UInt8} (v : Value), mfind kv key = none → mput kv key v = kv ++ [(key, v)]
  | [], _, _, _ => rfl
  | (k, u) :: r, key, v, h => by
    unfold mfind at h
    by_cases e : key = k
    · rw [if_pos e] at h; cases h
    · rw [if_neg e] at h
      unfold mput
      rw [if_neg e, mput_none v (by simpa using h)]; rfl
theorem mput_some : ∀ {kv : List (List UInt8 × Value)} {key : List UInt8} {j : Nat} (v : Value) (b : Nat), mfind kv key = some j → ents b (mput kv key v) = (ents b kv).modify j (fun e => { e with key := str key, val := v }) ∧ (mput kv key v).length = kv.length ∧ ((ents b kv)[j]?).map (·.key) = some (str key)
  | [], _, _, _, _, h => by cases h
  | (k, u) :: r, key, j, v, b, h => by
    unfold mfind at h
    by_cases e : key = k
    · rw [if_pos e] at h; cases h
      subst e
      unfold mput
      rw [if_pos rfl]
      exact ⟨rfl, rfl, rfl⟩
    · rw [if_neg e] at h
      obtain ⟨j', h1, rfl⟩ := Option.map_eq_some_iff.1 h
      obtain ⟨h2, h3, h4⟩ := mput_some v (b + 1) h1
      unfold mput
      rw [if_neg e]
      refine ⟨?_, by simp [h3], ?_⟩
      · show (⟨str k, u, b⟩ :: ents (b + 1) (mput r key v)) = (⟨str k, u, b⟩ :: ents (b + 1) r).modify (j' + 1) _
        rw [h2]; rfl
      · show ((⟨str k, u, b⟩ :: ents (b + 1) r)[j' + 1]?).map _ = _
        rw [List.getElem?_cons_succ]; exact h4
theorem findNow_mfind (key : List UInt8) : ∀ (kv : List (List UInt8 × Value)) (b i : Nat), (mfind kv key = none → Instr.findNow .string (str key) (ents b kv) i = some none) ∧ (∀ j, mfind kv key = some j → ∃ u, Instr.findNow .string (str key) (ents b kv) i = some (some (i + j, u)))
  | [], _, _ => ⟨fun _ => rfl, fun _ h => by cases h⟩
  | (k, v) :: r, b, i => by
    obtain ⟨h1, h2⟩ := findNow_mfind key r (b + 1) (i + 1)
    have hs : Instr.sameNow .string (str key) (str k) = some (key == k) := by show some (_ == _) = _; rw [str_beq]
    have e0 : Instr.findNow .string (str key) (ents b ((k, v) :: r)) i = Instr.findNow .string (str key) (⟨str k, v, b⟩ :: ents (b + 1) r) i := rfl
    rw [e0]
    by_cases hk : key = k
    · subst hk
      have hf : mfind ((key, v) :: r) key = some 0 := by simp [mfind]
      refine ⟨fun h => by rw [hf] at h; (exact absurd h (by simp)), fun j h => ?_⟩
      rw [hf] at h; cases h
      refine ⟨v, ?_⟩
      unfold Instr.findNow
      simp only [hs, beq_self_eq_true]; rfl
    · have h3 : (key == k) = false := by simpa using hk
      have hf : mfind ((k, v) :: r) key = (mfind r key).map (· + 1) := by simp [mfind, hk]
      refine ⟨fun h => ?_, fun j h => ?_⟩
      · rw [hf] at h
        unfold Instr.findNow
        simp only [hs, h3]
        exact h1 (by simpa using h)
      · rw [hf] at h
        obtain ⟨j', h4, rfl⟩ := Option.map_eq_some_iff.1 h
        obtain ⟨u, h5⟩ := h2 j' h4
        refine ⟨u, ?_⟩
        unfold Instr.findNow
        simp only [hs, h3]
        rw [h5]; congr 3; omega
theorem s_mput {m i x : Operand} {t k e : TypeId} {g : Nat} {kv : List (List UInt8 × Value)} {key : List UInt8} {v : Value} (ht : P.underlying t = some (.map k e)) (hk : P.underlying k = some .string) (hx : ev env m = some (.map (some g))) (hi : ev env i = some (str key)) (hv : ev env x = some v) (hm : Mp w g kv) :
    ∃ w', St P N D env w (.mapUpdate t m i x) ty w' ∧ Mp w' g (mput kv key v) ∧ w.grownBy w' (some g) := by
  refine ⟨{ w with heap := w.heap.setIfInBounds g (.map (ents 0 (mput kv key v)).toArray (mput kv key v).length) }, fun a ha dst pos af g' => ?_, ?_, ⟨rfl, rfl, rfl, by simp, fun j hj hne => ?_⟩⟩
  · have hm' : w.heap[g]? = some (.map (ents 0 kv).toArray kv.length) := hm
    obtain ⟨f1, f2⟩ := findNow_mfind key kv 0 0
    cases hf : mfind kv key with
    | none =>
      have hfk : (Instr.findKey k (str key) (ents 0 kv)).run P w = .ok none w := by
        simp only [Instr.findKey, Sem.run_bind, run_underlying hk, Result.andThen, f1 hf]; rfl
      simp [execOp, ha.eval hx, ha.eval hi, ha.eval hv, Instr.mapUpdate, run_underlying ht, getObj, Sem.run, hm', run_checkKey hk, hfk, setObj, mput_none v hf, ents_snoc]
    | some j =>
      obtain ⟨u, hu⟩ := f2 j hf
      obtain ⟨h1, h2, h3⟩ := mput_some v 0 hf
      have hfk : (Instr.findKey k (str key) (ents 0 kv)).run P w = .ok (some (j, u)) w := by
        simp only [Instr.findKey, Sem.run_bind, run_underlying hk, Result.andThen, hu, Nat.zero_add]; rfl
      have hst : (Instr.keyThatStays (str key) (str key)).run P w = .ok (str key) w := by
        have : Instr.sameBits 10000 (str key) (str key) = true := by show ((_ : ByteArray) == _) = true; rw [str_beq]; exact beq_self_eq_true key
        simp [Instr.keyThatStays, this]
      have h4 : (((ents 0 kv).toArray[j]?).map (·.key)).getD (str key) = str key := by rw [List.getElem?_toArray, h3]; rfl
      have h4' : Option.getD (Option.map (fun x => x.key) (ents 0 kv)[j]?) (str key) = str key := by rw [h3]; rfl
      simp [execOp, ha.eval hx, ha.eval hi, ha.eval hv, Instr.mapUpdate, run_underlying ht, getObj, Sem.run, hm', run_checkKey hk, hfk, setObj, h4', hst, h1, h2]
  · unfold Mp
    have := hm.lt
    show (w.heap.setIfInBounds g _)[g]? = _
    simp [this]
  · show (w.heap.setIfInBounds g _)[j]? = _
    have : g ≠ j := fun e => hne (by rw [e])
    simp [this]
theorem Wl.mput {m i x : Operand} {t k e : TypeId} {g : Nat} {kv : List (List UInt8 × Value)} {key : List UInt8} {v : Value} (ht : P.underlying t = some (.map k e)) (hk : P.underlying k = some .string) (hx : ev env m = some (.map (some g))) (hi : ev env i = some (str key)) (hv : ev env x = some v) (hm : Mp w g kv)
    (h : ∀ w', Mp w' g (Go.Bw.mput kv key v) → w.grownBy w' (some g) → Wl P ops Q rest N D env w') : Wl P ops Q (⟨none, .mapUpdate t m i x, ty, pos, af, none⟩ :: rest) N D env w := by
  obtain ⟨w', h1, h2, h3⟩ := s_mput (N := N) (D := D) (ty := ty) ht hk hx hi hv hm
  exact Wl.s h1 (h w' h2 h3)
theorem ents_len : ∀ (b : Nat) (kv : List (List UInt8 × Value)), (ents b kv).length = kv.length
  | _, [] => rfl
  | b, p :: r => by show (_ :: ents (b + 1) r).length = _; rw [List.length_cons, ents_len, List.length_cons]
theorem l_lenm {x : Operand} {t k e : TypeId} {g : Nat} {kv : List (List UInt8 × Value)} (ht : P.underlying t = some (.map k e)) (hx : ev env x = some (.map (some g))) (hm : Mp w g kv) :
    Ld P N D env w (.call ⟨.builtin .len, #[x], #[t]⟩) ty (.int .i64 kv.length) := fun a ha dst pos af g' => by
  have hm' : w.heap[g]? = some (.map (ents 0 kv).toArray kv.length) := hm
  simp [execOp, resolve, invoke, builtin, Builtin.len_, ha.eval hx, run_underlying ht, getObj, Sem.run, hm', ents_len, goInt]
/-! plain: keys -/
def keys (kv : List (List UInt8 × Value)) : List (List UInt8) := kv.map (·.1)
theorem keys_mput : ∀ (kv : List (List UInt8 × Value)) (key : List UInt8) (v : Value), keys (mput kv key v) = if key ∈ keys kv then keys kv else keys kv ++ [key]
  | [], _, _ => by simp [mput, keys]
  | (k, u) :: r, key, v => by
    have ih := keys_mput r key v
    unfold mput
    by_cases e : key = k
    · rw [if_pos e, if_pos (by simp [keys, e])]; rfl
    · rw [if_neg e]
      show k :: keys (mput r key v) = _
      rw [ih]
      by_cases e2 : key ∈ keys r
      · rw [if_pos e2, if_pos (by simp [keys] at e2 ⊢; exact .inr e2)]; rfl
      · rw [if_neg e2, if_neg (by simp [keys, e] at e2 ⊢; exact e2)]; rfl
end
end Go.Bw
namespace Go.Proofs.YtjmlknjbhbfneaaGreatDoor
open Go.RowKit Go.Bw Go.Bw.Fl
set_option linter.unusedVariables false
set_option linter.unusedSimpArgs false

theorem isLet_of {c : UInt8} (h : c.toNat = 95 ∨ (48 ≤ c.toNat ∧ c.toNat ≤ 57) ∨ (65 ≤ c.toNat ∧ c.toNat ≤ 90) ∨ (97 ≤ c.toNat ∧ c.toNat ≤ 122)) : isLet c = true := by
  have key : ∀ n : Fin 256, (n.val = 95 ∨ (48 ≤ n.val ∧ n.val ≤ 57) ∨ (65 ≤ n.val ∧ n.val ≤ 90) ∨ (97 ≤ n.val ∧ n.val ≤ 122)) → isLet (UInt8.ofNat n.val) = true := by decide +kernel
  have h2 := key ⟨c.toNat, UInt8.toNat_lt c⟩ h
  rwa [show UInt8.ofNat c.toNat = c from UInt8.ofNat_toNat] at h2
theorem all_getD {s : List UInt8} (h : ∀ j, j < s.length → isLet (s.getD j 0) = true) : s.all isLet = true := by
  rw [List.all_eq_true]
  intro c hc
  obtain ⟨i, hi, rfl⟩ := List.getElem_of_mem hc
  have := h i hi
  simpa [List.getD, List.getElem?_eq_getElem hi] using this
theorem wordA_no {s : List UInt8} {i : Nat} (hi : i < s.length) (h : ¬ ((65 ≤ (s.getD i 0).toNat ∧ (s.getD i 0).toNat ≤ 90) ∨ (97 ≤ (s.getD i 0).toNat ∧ (s.getD i 0).toNat ≤ 122) ∨ (s.getD i 0).toNat = 95) ∧ (i = 0 ∨ (s.getD i 0).toNat < 48 ∨ 57 < (s.getD i 0).toNat)) : wordA s = false := by
  cases hw : wordA s with
  | false => rfl
  | true =>
    unfold wordA at hw
    rw [Bool.and_eq_true] at hw
    have h1 := of_decide_eq_true hw.1
    have h2 := isLet_iff (List.all_eq_true.1 hw.2 (s.getD i 0) (by simp [List.getD, List.getElem?_eq_getElem hi]))
    rcases h.2 with rfl | h3
    · have := h1.2.2; omega
    · omega
theorem WordA_r (s : List UInt8) (hs : s.length ≤ 140737488355328) (w : World) : Ret Tryz.prog 43 [str s] w fun v w' => v = .bool (wordA s) ∧ Below w.heap.size w w' := by
  have hb := Below.refl w.heap.size w
  refine enter Tryz.func43 rfl rfl rfl <| Wc.seq fun _ hK_1 => Wc.region <| Wl.sg rfl rfl <| Wl.nil <| Wq.next hK_1 <| Wc.seq fun _ hK_3 => Wc.seq fun _ hK_4 => Wc.region <| Wl.mv rfl rfl <| Wl.ranges Tryz.underlying9 rfl rfl ?_
  rintro g_o2 w_o2 hg_o2 hn_o2 hs_o2
  have hz_o2 := hs_o2.size
  have hb := hb.trans (hs_o2.mono hb.size)
  have hI_o2 := hn_o2
  have hl_o2 := hI_o2.lt
  refine Wl.nil <| Wq.next hK_4 <| Wc.block <| Wc.loop (X := Nat) (fun i => [(0, str s), (7, .pointer (some ⟨g_o2, 0, none⟩))]) (fun i wr => i ≤ s.length ∧ (∀ j, j < i → isLet (s.getD j 0) = true) ∧ (0 < i → ¬ (48 ≤ (s.getD 0 0).toNat ∧ (s.getD 0 0).toNat ≤ 57)) ∧ Below w.heap.size w wr ∧ Its wr g_o2 s i) (fun i => s.length - i) (0) ?_ ?_ ?_
  · exact by repeat first | exact Sub.nil | refine Sub.cons' rfl (by first | rfl | exact int_eq (by omega) | exact int_eq (by simp) | (simp; done)) ?_
  · exact ⟨by omega, fun _ h => by omega, fun h => by omega, hb, hI_o2⟩
  rintro i wr hI_8 _ hL_7
  replace hI_8 : i ≤ s.length ∧ (∀ j, j < i → isLet (s.getD j 0) = true) ∧ (0 < i → ¬ (48 ≤ (s.getD 0 0).toNat ∧ (s.getD 0 0).toNat ≤ 57)) ∧ Below w.heap.size w wr ∧ Its wr g_o2 s i := hI_8
  obtain ⟨hi, hall, hd, hb, hI_o2⟩ := hI_8
  show Wc _ _ _ _ _ [(0, str s), (7, .pointer (some ⟨g_o2, 0, none⟩))] _
  have hzhb_L0 := hb.size
  refine Wc.seq fun _ hK_9 => Wc.region <| Wl.nextsA rfl hI_o2 rfl (fun hend_o3 => ?_) (fun hgo_o3 r_o3 j_o3 hlo_o3 hhi_o3 => ?_)
  ·
   refine Wl.y (y_extract rfl rfl) rfl <| Wl.nil <| Wq.next hK_9 <| Wc.seq fun _ hK_12 => Wc.condF rfl rfl <| Wc.exit <| Wq.then_exit <| Wq.then_exit <| Wq.block_exit <| Wq.next hK_3 <| Wc.seq fun _ hK_13 => Wc.region <| Wl.mv rfl rfl <| Wl.y (y_neqs rfl rfl) rfl <| Wl.mv rfl rfl <| Wl.guardT rfl rfl rfl (fun g_17 => ?_) (fun g_17 => ?_)
   ·
    have g_17_ := g_17
    simp only [DZ] at g_17
    refine Wl.mv rfl rfl <| Wl.on' rfl rfl g_17_ <| Wl.y (y_lens Tryz.underlying9 (by omega) rfl) rfl <| Wl.on' rfl rfl g_17_ <| Wl.y (y_leqi rfl rfl) rfl <| Wl.y (y_pickT rfl g_17_ rfl) rfl <| Wl.sg rfl rfl <| Wl.nil <| Wq.next hK_13 <| Wc.ret <| ret1 rfl rfl ?_
    exact ⟨_, rfl, bool_eq (by
  have hne : s ≠ [] := by have h := g_17_; simpa using h
  have hpos := List.length_pos_iff.2 hne
  have := hd (by omega)
  unfold wordA wordV
  rw [all_getD (fun j hj => hall j (by omega)), Bool.and_true, decide_eq_decide]
  exact ⟨fun h => ⟨hne, by omega, this⟩, fun h => by have := h.2.1; omega⟩), hb⟩
   have g_17_ := g_17
   simp only [DZ] at g_17
   refine Wl.off' rfl rfl g_17_ rfl rfl <| Wl.off' rfl rfl g_17_ rfl rfl <| Wl.y (y_pickF rfl g_17_ rfl) rfl <| Wl.sg rfl rfl <| Wl.nil <| Wq.next hK_13 <| Wc.ret <| ret1 rfl rfl ?_
   exact ⟨_, rfl, bool_eq (by
  have he : s = [] := by have h := g_17_; simpa using h
  subst he; rfl), hb⟩
  rintro w_o3 hn_o3 hg_o3
  have hz_o3 := hg_o3.size
  have hb := below_blk hb hg_o3 hb.size (by omega)
  have hI_o2 := hn_o3
  refine Wl.y (y_extract rfl rfl) rfl <| Wl.nil <| Wq.next hK_9 <| Wc.seq fun _ hK_26 => Wc.condT rfl rfl <| Wc.skip <| Wq.next hK_26 <| Wc.block <| Wc.seq fun _ hK_27 => ?_
  obtain ⟨c, hc⟩ : ∃ c, c = r_o3 := ⟨_, rfl⟩
  rw [← hc] at hlo_o3 hhi_o3 ⊢
  refine Wc.region <| Wl.y (y_extract rfl rfl) rfl <| Wl.y (y_extract rfl rfl) rfl <| Wl.sg rfl rfl <| Wl.sg rfl rfl <| Wl.nil <| Wq.next hK_27 <| Wc.seq fun _ hK_32 => Wc.meet (X := Bool) (fun q => [(0, str s), (3, .int .i64 (i : Int)), (4, .int .i32 (c : Int)), (5, .bool q), (7, .pointer (some ⟨g_o2, 0, none⟩))]) (fun q wr => q = decide ((65 ≤ c ∧ c ≤ 90) ∨ (97 ≤ c ∧ c ≤ 122) ∨ c = 95) ∧ Below w.heap.size w wr ∧ Its wr g_o2 s j_o3) (fun _ hM_33 => ?_) ?_
  ·
   refine Wc.region <| Wl.mv rfl rfl <| Wl.y (y_geqi rfl rfl) rfl <| Wl.mv rfl rfl <| Wl.guardT rfl rfl rfl (fun g_37 => ?_) (fun g_37 => ?_)
   ·
    have g_37_ := g_37
    simp only [DZ] at g_37
    refine Wl.mv rfl rfl <| Wl.on' rfl rfl g_37_ <| Wl.y (y_leqi rfl rfl) rfl <| Wl.y (y_pickT rfl g_37_ rfl) rfl <| Wl.mv rfl rfl <| Wl.guardF rfl rfl rfl (fun g_42 => ?_) (fun g_42 => ?_)
    ·
     have g_42_ := g_42
     simp only [DZ] at g_42
     refine Wl.off' rfl rfl g_42_ rfl rfl <| Wl.off' rfl rfl g_42_ rfl rfl <| Wl.offU rfl rfl rfl <| Wl.offU rfl rfl rfl <| Wl.off' rfl rfl g_42_ rfl rfl <| Wl.y (y_pickT rfl g_42_ rfl) rfl <| Wl.mv rfl rfl <| Wl.off' rfl rfl rfl rfl rfl <| Wl.off' rfl rfl rfl rfl rfl <| Wl.y (y_pickT rfl rfl rfl) rfl <| Wl.sg rfl rfl <| Wl.nil <| Wq.meet hM_33 (decide ((65 ≤ c ∧ c ≤ 90) ∨ (97 ≤ c ∧ c ≤ 122) ∨ c = 95)) (by repeat first | exact Sub.nil | refine Sub.cons' rfl (by first | rfl | exact bool_eq (by rw [Bool.eq_iff_iff]; simp; omega)) ?_) ?_
     exact ⟨rfl, hb, hI_o2⟩
    have g_42_ := g_42
    simp only [DZ] at g_42
    refine Wl.mv rfl rfl <| Wl.on' rfl rfl g_42_ <| Wl.y (y_geqi rfl rfl) rfl <| Wl.on' rfl rfl g_42_ <| Wl.mv rfl rfl <| Wl.guardT rfl rfl rfl (fun g_50 => ?_) (fun g_50 => ?_)
    ·
     have g_50_ := g_50
     simp only [DZ] at g_50
     refine Wl.mv rfl rfl <| Wl.on' rfl rfl g_50_ <| Wl.y (y_leqi rfl rfl) rfl <| Wl.on' rfl rfl g_42_ <| Wl.y (y_pickT rfl g_50_ rfl) rfl <| Wl.y (y_pickF rfl g_42_ rfl) rfl <| Wl.mv rfl rfl <| Wl.guardF rfl rfl rfl (fun g_56 => ?_) (fun g_56 => ?_)
     ·
      have g_56_ := g_56
      simp only [DZ] at g_56
      refine Wl.off' rfl rfl g_56_ rfl rfl <| Wl.y (y_pickT rfl g_56_ rfl) rfl <| Wl.sg rfl rfl <| Wl.nil <| Wq.meet hM_33 (decide ((65 ≤ c ∧ c ≤ 90) ∨ (97 ≤ c ∧ c ≤ 122) ∨ c = 95)) (by repeat first | exact Sub.nil | refine Sub.cons' rfl (by first | rfl | exact bool_eq (by rw [Bool.eq_iff_iff]; simp; omega)) ?_) ?_
      exact ⟨rfl, hb, hI_o2⟩
     have g_56_ := g_56
     simp only [DZ] at g_56
     refine Wl.mv rfl rfl <| Wl.on' rfl rfl g_56_ <| Wl.y (y_eqli rfl rfl) rfl <| Wl.y (y_pickF rfl g_56_ rfl) rfl <| Wl.sg rfl rfl <| Wl.nil <| Wq.meet hM_33 (decide ((65 ≤ c ∧ c ≤ 90) ∨ (97 ≤ c ∧ c ≤ 122) ∨ c = 95)) (by repeat first | exact Sub.nil | refine Sub.cons' rfl (by first | rfl | exact bool_eq (by rw [Bool.eq_iff_iff]; simp; omega)) ?_) ?_
     exact ⟨rfl, hb, hI_o2⟩
    have g_50_ := g_50
    simp only [DZ] at g_50
    refine Wl.off' rfl rfl g_50_ rfl rfl <| Wl.on' rfl rfl g_42_ <| Wl.y (y_pickF rfl g_50_ rfl) rfl <| Wl.y (y_pickF rfl g_42_ rfl) rfl <| Wl.mv rfl rfl <| Wl.on' rfl rfl rfl <| Wl.mv rfl rfl <| Wl.on' rfl rfl rfl <| Wl.y (y_eqli rfl rfl) rfl <| Wl.y (y_pickF rfl rfl rfl) rfl <| Wl.sg rfl rfl <| Wl.nil <| Wq.meet hM_33 (decide ((65 ≤ c ∧ c ≤ 90) ∨ (97 ≤ c ∧ c ≤ 122) ∨ c = 95)) (by repeat first | exact Sub.nil | refine Sub.cons' rfl (by first | rfl | exact bool_eq (by rw [Bool.eq_iff_iff]; simp; omega)) ?_) ?_
    exact ⟨rfl, hb, hI_o2⟩
   have g_37_ := g_37
   simp only [DZ] at g_37
   refine Wl.off' rfl rfl g_37_ rfl rfl <| Wl.y (y_pickF rfl g_37_ rfl) rfl <| Wl.mv rfl rfl <| Wl.on' rfl rfl rfl <| Wl.mv rfl rfl <| Wl.on' rfl rfl rfl <| Wl.y (y_geqi rfl rfl) rfl <| Wl.on' rfl rfl rfl <| Wl.mv rfl rfl <| Wl.guardT rfl rfl rfl (fun g_75 => ?_) (fun g_75 => ?_)
   ·
    have g_75_ := g_75
    simp only [DZ] at g_75
    refine Wl.mv rfl rfl <| Wl.on' rfl rfl g_75_ <| Wl.y (y_leqi rfl rfl) rfl <| Wl.on' rfl rfl rfl <| Wl.y (y_pickT rfl g_75_ rfl) rfl <| Wl.y (y_pickF rfl rfl rfl) rfl <| Wl.mv rfl rfl <| Wl.guardF rfl rfl rfl (fun g_81 => ?_) (fun g_81 => ?_)
    ·
     have g_81_ := g_81
     simp only [DZ] at g_81
     refine Wl.off' rfl rfl g_81_ rfl rfl <| Wl.y (y_pickT rfl g_81_ rfl) rfl <| Wl.sg rfl rfl <| Wl.nil <| Wq.meet hM_33 (decide ((65 ≤ c ∧ c ≤ 90) ∨ (97 ≤ c ∧ c ≤ 122) ∨ c = 95)) (by repeat first | exact Sub.nil | refine Sub.cons' rfl (by first | rfl | exact bool_eq (by rw [Bool.eq_iff_iff]; simp; omega)) ?_) ?_
     exact ⟨rfl, hb, hI_o2⟩
    have g_81_ := g_81
    simp only [DZ] at g_81
    refine Wl.mv rfl rfl <| Wl.on' rfl rfl g_81_ <| Wl.y (y_eqli rfl rfl) rfl <| Wl.y (y_pickF rfl g_81_ rfl) rfl <| Wl.sg rfl rfl <| Wl.nil <| Wq.meet hM_33 (decide ((65 ≤ c ∧ c ≤ 90) ∨ (97 ≤ c ∧ c ≤ 122) ∨ c = 95)) (by repeat first | exact Sub.nil | refine Sub.cons' rfl (by first | rfl | exact bool_eq (by rw [Bool.eq_iff_iff]; simp; omega)) ?_) ?_
    exact ⟨rfl, hb, hI_o2⟩
   have g_75_ := g_75
   simp only [DZ] at g_75
   refine Wl.off' rfl rfl g_75_ rfl rfl <| Wl.on' rfl rfl rfl <| Wl.y (y_pickF rfl g_75_ rfl) rfl <| Wl.y (y_pickF rfl rfl rfl) rfl <| Wl.mv rfl rfl <| Wl.on' rfl rfl rfl <| Wl.mv rfl rfl <| Wl.on' rfl rfl rfl <| Wl.y (y_eqli rfl rfl) rfl <| Wl.y (y_pickF rfl rfl rfl) rfl <| Wl.sg rfl rfl <| Wl.nil <| Wq.meet hM_33 (decide ((65 ≤ c ∧ c ≤ 90) ∨ (97 ≤ c ∧ c ≤ 122) ∨ c = 95)) (by repeat first | exact Sub.nil | refine Sub.cons' rfl (by first | rfl | exact bool_eq (by rw [Bool.eq_iff_iff]; simp; omega)) ?_) ?_
   exact ⟨rfl, hb, hI_o2⟩
  rintro q wr hI_95
  replace hI_95 : q = decide ((65 ≤ c ∧ c ≤ 90) ∨ (97 ≤ c ∧ c ≤ 122) ∨ c = 95) ∧ Below w.heap.size w wr ∧ Its wr g_o2 s j_o3 := hI_95
  obtain ⟨hq, hb, hI_o2⟩ := hI_95
  show Wq _ _ _ _ [(0, str s), (3, .int .i64 (i : Int)), (4, .int .i32 (c : Int)), (5, .bool q), (7, .pointer (some ⟨g_o2, 0, none⟩))] _
  have hzhb_g4 := hb.size
  refine Wq.next hK_32 <| Wc.seq fun _ hK_96 => Wc.meet (X := Bool) (fun q2 => [(0, str s), (7, .pointer (some ⟨g_o2, 0, none⟩)), (43, .bool q2)]) (fun q2 wr => q2 = decide (¬ ((65 ≤ c ∧ c ≤ 90) ∨ (97 ≤ c ∧ c ≤ 122) ∨ c = 95) ∧ (i = 0 ∨ c < 48 ∨ 57 < c)) ∧ Below w.heap.size w wr ∧ Its wr g_o2 s j_o3) (fun _ hM_97 => ?_) ?_
  ·
   refine Wc.region <| Wl.mv rfl rfl <| Wl.y (y_not rfl) rfl <| Wl.mv rfl rfl <| Wl.guardT rfl rfl rfl (fun g_101 => ?_) (fun g_101 => ?_)
   ·
    have g_101_ := g_101
    simp only [DZ] at g_101
    refine Wl.mv rfl rfl <| Wl.on' rfl rfl g_101_ <| Wl.y (y_eqli rfl rfl) rfl <| Wl.on' rfl rfl g_101_ <| Wl.mv rfl rfl <| Wl.guardF rfl rfl rfl (fun g_105 => ?_) (fun g_105 => ?_)
    ·
     have g_105_ := g_105
     simp only [DZ] at g_105
     refine Wl.off' rfl rfl g_105_ rfl rfl <| Wl.on' rfl rfl g_101_ <| Wl.y (y_pickT rfl g_105_ rfl) rfl <| Wl.on' rfl rfl g_101_ <| Wl.mv rfl rfl <| Wl.off' rfl rfl rfl rfl rfl <| Wl.off' rfl rfl rfl rfl rfl <| Wl.on' rfl rfl g_101_ <| Wl.y (y_pickT rfl rfl rfl) rfl <| Wl.y (y_pickT rfl g_101_ rfl) rfl <| Wl.nil <| Wq.meet hM_97 (decide (¬ ((65 ≤ c ∧ c ≤ 90) ∨ (97 ≤ c ∧ c ≤ 122) ∨ c = 95) ∧ (i = 0 ∨ c < 48 ∨ 57 < c))) (by repeat first | exact Sub.nil | refine Sub.cons' rfl (by first | rfl | exact bool_eq (by have h1 := hq; rw [g_101] at h1; have h2 := h1.symm; simp only [decide_eq_true_eq, decide_eq_false_iff_not] at h2; rw [Bool.eq_iff_iff]; simp; omega)) ?_) ?_
     exact ⟨rfl, hb, hI_o2⟩
    have g_105_ := g_105
    simp only [DZ] at g_105
    refine Wl.mv rfl rfl <| Wl.on' rfl rfl g_105_ <| Wl.y (y_lssi rfl rfl) rfl <| Wl.on' rfl rfl g_101_ <| Wl.y (y_pickF rfl g_105_ rfl) rfl <| Wl.on' rfl rfl g_101_ <| Wl.mv rfl rfl <| Wl.guardF rfl rfl rfl (fun g_114 => ?_) (fun g_114 => ?_)
    ·
     have g_114_ := g_114
     simp only [DZ] at g_114
     refine Wl.off' rfl rfl g_114_ rfl rfl <| Wl.on' rfl rfl g_101_ <| Wl.y (y_pickT rfl g_114_ rfl) rfl <| Wl.y (y_pickT rfl g_101_ rfl) rfl <| Wl.nil <| Wq.meet hM_97 (decide (¬ ((65 ≤ c ∧ c ≤ 90) ∨ (97 ≤ c ∧ c ≤ 122) ∨ c = 95) ∧ (i = 0 ∨ c < 48 ∨ 57 < c))) (by repeat first | exact Sub.nil | refine Sub.cons' rfl (by first | rfl | exact bool_eq (by have h1 := hq; rw [g_101] at h1; have h2 := h1.symm; simp only [decide_eq_true_eq, decide_eq_false_iff_not] at h2; rw [Bool.eq_iff_iff]; simp; omega)) ?_) ?_
     exact ⟨rfl, hb, hI_o2⟩
    have g_114_ := g_114
    simp only [DZ] at g_114
    refine Wl.mv rfl rfl <| Wl.on' rfl rfl g_114_ <| Wl.y (y_gtri rfl rfl) rfl <| Wl.on' rfl rfl g_101_ <| Wl.y (y_pickF rfl g_114_ rfl) rfl <| Wl.y (y_pickT rfl g_101_ rfl) rfl <| Wl.nil <| Wq.meet hM_97 (decide (¬ ((65 ≤ c ∧ c ≤ 90) ∨ (97 ≤ c ∧ c ≤ 122) ∨ c = 95) ∧ (i = 0 ∨ c < 48 ∨ 57 < c))) (by repeat first | exact Sub.nil | refine Sub.cons' rfl (by first | rfl | exact bool_eq (by have h1 := hq; rw [g_101] at h1; have h2 := h1.symm; simp only [decide_eq_true_eq, decide_eq_false_iff_not] at h2; rw [Bool.eq_iff_iff]; simp; omega)) ?_) ?_
    exact ⟨rfl, hb, hI_o2⟩
   have g_101_ := g_101
   simp only [DZ] at g_101
   refine Wl.off' rfl rfl g_101_ rfl rfl <| Wl.off' rfl rfl g_101_ rfl rfl <| Wl.offU rfl rfl rfl <| Wl.offU rfl rfl rfl <| Wl.off' rfl rfl g_101_ rfl rfl <| Wl.off' rfl rfl g_101_ rfl rfl <| Wl.offU rfl rfl rfl <| Wl.offU rfl rfl rfl <| Wl.off' rfl rfl g_101_ rfl rfl <| Wl.y (y_pickF rfl g_101_ rfl) rfl <| Wl.nil <| Wq.meet hM_97 (decide (¬ ((65 ≤ c ∧ c ≤ 90) ∨ (97 ≤ c ∧ c ≤ 122) ∨ c = 95) ∧ (i = 0 ∨ c < 48 ∨ 57 < c))) (by repeat first | exact Sub.nil | refine Sub.cons' rfl (by first | rfl | exact bool_eq (by have h1 := hq; rw [g_101] at h1; have h2 := h1.symm; simp only [decide_eq_true_eq, decide_eq_false_iff_not] at h2; rw [Bool.eq_iff_iff]; simp; omega)) ?_) ?_
   exact ⟨rfl, hb, hI_o2⟩
  rintro q2 wr hI_122
  replace hI_122 : q2 = decide (¬ ((65 ≤ c ∧ c ≤ 90) ∨ (97 ≤ c ∧ c ≤ 122) ∨ c = 95) ∧ (i = 0 ∨ c < 48 ∨ 57 < c)) ∧ Below w.heap.size w wr ∧ Its wr g_o2 s j_o3 := hI_122
  obtain ⟨hq2, hb, hI_o2⟩ := hI_122
  show Wq _ _ _ _ [(0, str s), (7, .pointer (some ⟨g_o2, 0, none⟩)), (43, .bool q2)] _
  have hzhb_g5 := hb.size
  refine Wq.next hK_96 <| Wc.cond rfl (fun c1_123 => ?_) (fun c1_123 => ?_)
  ·
   have c1_123_ := c1_123
   have hbad : ¬ ((65 ≤ c ∧ c ≤ 90) ∨ (97 ≤ c ∧ c ≤ 122) ∨ c = 95) ∧ (i = 0 ∨ c < 48 ∨ 57 < c) := by have h := c1_123_; rw [hq2] at h; exact of_decide_eq_true h
   have hno : wordA s = false := by
     rcases Nat.lt_or_ge (s.getD i 0).toNat 128 with h128 | h128
     · have h1 := (hlo_o3 h128).1; rw [h1] at hbad; exact wordA_no hgo_o3 hbad
     · exact wordA_no hgo_o3 ⟨by omega, by omega⟩
   refine Wc.seq fun _ hK_124 => Wc.region <| Wl.sg rfl rfl <| Wl.nil <| Wq.next hK_124 <| Wc.ret <| Wq.block_ret (Wq.then_ret (Wq.block_ret (Wq.then_ret ?_)))
   refine ret1 rfl rfl ?_
   exact ⟨_, rfl, bool_eq hno.symm, hb⟩
  have c1_123_ := c1_123
  have hgood : ¬ (¬ ((65 ≤ c ∧ c ≤ 90) ∨ (97 ≤ c ∧ c ≤ 122) ∨ c = 95) ∧ (i = 0 ∨ c < 48 ∨ 57 < c)) := by have h := c1_123_; rw [hq2] at h; exact of_decide_eq_false h
  have hc128 : (s.getD i 0).toNat < 128 := by
    rcases Nat.lt_or_ge (s.getD i 0).toNat 128 with h | h
    · exact h
    · have := hhi_o3 h; omega
  obtain ⟨hce, hje⟩ := hlo_o3 hc128
  refine Wc.skip <| Wq.block_normal <| fun a_ ha_ => hL_7 _ _ (j_o3) (by omega) (by repeat first | exact Sub.nil | refine Sub.cons' rfl (by first | rfl | exact int_eq (by omega) | exact int_eq (by simp) | (simp; done)) ?_) ?_ a_ ha_
  exact ⟨by omega, fun k hk => (by by_cases e : k = i; (· rw [e]; apply isLet_of; omega); (· exact hall k (by omega))), fun _ => (by by_cases e : i = 0; (· rw [e] at hgood hce; omega); (· exact hd (by omega))), hb, hI_o2⟩
end Go.Proofs.YtjmlknjbhbfneaaGreatDoor
namespace Go.Proofs.YtjmlknjbhbfneaaGreatDoor
open Go.RowKit Go.Bw Go.Bw.Fl
set_option linter.unusedVariables false
set_option linter.unusedSimpArgs false
abbrev Pr := List UInt8 × Val
structure ND where
  n : List UInt8
  ls : List (List UInt8)
  ps : List Pr
structure ED where
  n : List UInt8
  fr : Int
  tw : Int
  dir : Bool
  ls : List (List UInt8)
  ps : List Pr
structure GV where
  ns : List ND
  es : List ED
def nd0 : ND := ⟨[], [], []⟩
def ed0 : ED := ⟨[], 0, 0, false, [], []⟩
def pr0 : Pr := ([], nullV)
/-! sizes -/
def szL (ls : List (List UInt8)) : Nat := (ls.map fun l => l.length + 1).sum
def szP (ps : List Pr) : Nat := (ps.map fun p => p.1.length + p.2.s.length + 1).sum
def szN (d : ND) : Nat := d.n.length + szL d.ls + szP d.ps + 1
def szE (d : ED) : Nat := d.n.length + szL d.ls + szP d.ps + 1
def szG (g : GV) : Nat := (g.ns.map szN).sum + (g.es.map szE).sum
theorem le_sum_map {α : Type} (f : α → Nat) : ∀ {l : List α} {i : Nat} (hi : i < l.length), f l[i] ≤ (l.map f).sum
  | [], i, hi => by simp at hi
  | a :: r, 0, _ => by simp
  | a :: r, i + 1, hi => by
    have := le_sum_map f (l := r) (i := i) (by simpa using hi)
    simp only [List.getElem_cons_succ, List.map_cons, List.sum_cons]; omega
theorem len_sum_map {α : Type} (f : α → Nat) (h : ∀ a, 1 ≤ f a) : ∀ (l : List α), l.length ≤ (l.map f).sum
  | [] => by simp
  | a :: r => by have := len_sum_map f h r; have := h a; simp only [List.length_cons, List.map_cons, List.sum_cons]; omega
theorem getD_at {α : Type} {l : List α} {i : Nat} (d : α) (hi : i < l.length) : l.getD i d = l[i] := by simp [List.getD, List.getElem?_eq_getElem hi]
theorem szL_len (ls : List (List UInt8)) : ls.length ≤ szL ls := len_sum_map _ (fun _ => by omega) ls
theorem szL_at {ls : List (List UInt8)} {i : Nat} (hi : i < ls.length) : (ls.getD i []).length + 1 ≤ szL ls := by rw [getD_at [] hi]; exact le_sum_map (fun l : List UInt8 => l.length + 1) hi
theorem szP_len (ps : List Pr) : ps.length ≤ szP ps := len_sum_map _ (fun _ => by omega) ps
theorem szP_at {ps : List Pr} {i : Nat} (hi : i < ps.length) : (ps.getD i pr0).1.length + (ps.getD i pr0).2.s.length + 1 ≤ szP ps := by rw [getD_at pr0 hi]; exact le_sum_map (fun p : Pr => p.1.length + p.2.s.length + 1) hi
theorem szG_nlen (g : GV) : g.ns.length ≤ szG g := by have := len_sum_map szN (fun d => by unfold szN; omega) g.ns; unfold szG; omega
theorem szG_elen (g : GV) : g.es.length ≤ szG g := by have := len_sum_map szE (fun d => by unfold szE; omega) g.es; unfold szG; omega
theorem szG_n {g : GV} {i : Nat} (hi : i < g.ns.length) : szN (g.ns.getD i nd0) ≤ szG g := by have := le_sum_map szN hi; rw [getD_at nd0 hi]; unfold szG; omega
theorem szG_e {g : GV} {i : Nat} (hi : i < g.es.length) : szE (g.es.getD i ed0) ≤ szG g := by have := le_sum_map szE hi; rw [getD_at ed0 hi]; unfold szG; omega
/-! right -/
def allN (n : Nat) (p : Nat → Bool) : Bool := (List.range n).all p
theorem allN_t {n : Nat} {p : Nat → Bool} (h : ∀ j, j < n → p j = true) : allN n p = true := by unfold allN; rw [List.all_eq_true]; intro j hj; exact h j (List.mem_range.1 hj)
theorem allN_f {n j : Nat} {p : Nat → Bool} (hj : j < n) (h : p j = false) : allN n p = false := by
  cases e : allN n p with
  | false => rfl
  | true => unfold allN at e; rw [List.all_eq_true] at e; rw [e j (List.mem_range.2 hj)] at h; cases h
theorem allN_succ (n : Nat) (p : Nat → Bool) : allN (n + 1) p = (allN n p && p n) := by unfold allN; rw [List.range_succ, List.all_append]; simp
theorem allN_iff {n : Nat} {p : Nat → Bool} : allN n p = true ↔ ∀ j, j < n → p j = true := by unfold allN; rw [List.all_eq_true]; exact ⟨fun h j hj => h j (List.mem_range.2 hj), fun h j hj => h j (List.mem_range.1 hj)⟩
def riseAt (ls : List (List UInt8)) (i : Nat) : Bool := wordA (ls.getD i []) && (i == 0 || Op.bytesLess (ls.getD (i - 1) []) (ls.getD i []))
def risingV (ls : List (List UInt8)) : Bool := allN ls.length (riseAt ls)
def valueAt (ps : List Pr) (i : Nat) : Bool := decide ((ps.getD i pr0).2.k ≠ 0) && rightV (ps.getD i pr0).2
def elementV (n : List UInt8) (ls : List (List UInt8)) (ps : List Pr) : Bool := allN ps.length (valueAt ps) && wordA n && risingV ls && risingV (ps.map (·.1))
/-- names, and where they stand -/
def mapN (l : List (List UInt8)) : Nat → List (List UInt8 × Value)
  | 0 => []
  | i + 1 => mput (mapN l i) (l.getD i []) (.int .i64 i)
def isV (n : Nat) (i : Int) : Bool := decide (0 ≤ i) && decide (i < n)
def nodeV (d : ND) : Bool := elementV d.n d.ls d.ps
def edgeV (n : Nat) (d : ED) : Bool := elementV d.n d.ls d.ps && isV n d.fr && isV n d.tw
def distinct (l : List (List UInt8)) : Bool := decide ((mapN l l.length).length = l.length)
def okG (g : GV) : Bool := distinct (g.ns.map (·.n)) && distinct (g.es.map (·.n)) && allN g.ns.length (fun i => nodeV (g.ns.getD i nd0)) && allN g.es.length (fun i => edgeV g.ns.length (g.es.getD i ed0))
def rightG (g : GV) : Int := if 1000 < g.ns.length ∨ 1000 < g.es.length then 6 else if okG g = true then 0 else 1
/-! memory -/
def propC (p : Pr) : List Value := str p.1 :: p.2.cells
def propsC (ps : List Pr) : List Value := ps.flatMap propC
theorem propC_len (p : Pr) : (propC p).length = 5 := rfl
theorem propsC_len (ps : List Pr) : (propsC ps).length = ps.length * 5 := by
  unfold propsC
  induction ps with
  | nil => rfl
  | cons p r ih => rw [List.flatMap_cons, List.length_append, ih, propC_len, List.length_cons]; omega
/-- elements of k cells each -/
theorem flat_at {α : Type} (f : α → List Value) (k : Nat) (hf : ∀ a, (f a).length = k) : ∀ (l : List α) (i j : Nat) (a : α), l[i]? = some a → j < k → (l.flatMap f)[i * k + j]? = (f a)[j]?
  | [], i, j, a, h, _ => by simp at h
  | b :: r, 0, j, a, h, hj => by
    simp at h; subst h
    rw [List.flatMap_cons, Nat.zero_mul, Nat.zero_add, List.getElem?_append_left (by rw [hf]; exact hj)]
  | b :: r, i + 1, j, a, h, hj => by
    rw [List.flatMap_cons, List.getElem?_append_right (by rw [hf, Nat.add_mul]; omega), hf, show (i + 1) * k + j - k = i * k + j by rw [Nat.add_mul]; omega]
    exact flat_at f k hf r i j a (by simpa using h) hj
/-- an element of a row of k cells each -/
theorem rd_elem {α : Type} {w : World} {A : Option Addr} {n : Nat} (f : α → List Value) {k : Nat} (hk : 0 < k) (hf : ∀ a, (f a).length = k) {l : List α} (h : Rd w k A n (l.flatMap f)) {i : Nat} (hi : i < l.length) (d : α) :
    ∃ p, A = some p ∧ ∀ (j : Nat) (u : Value), (f (l.getD i d))[j]? = some u → w.cell? ((p.add (i * k)).add j) = some u := by
  have hpos : 0 < (l.flatMap f).length := by
    have := flat_at f k hf l i 0 _ (List.getElem?_eq_getElem hi) hk
    rcases Nat.eq_zero_or_pos (l.flatMap f).length with e | e
    · rw [List.eq_nil_of_length_eq_zero e] at this
      have h2 : 0 < (f l[i]).length := by rw [hf]; exact hk
      rw [List.getElem?_eq_getElem h2] at this; simp at this
    · exact e
  obtain ⟨p, hp, hc⟩ := h.2 hpos
  refine ⟨p, hp, fun j u hu => ?_⟩
  rw [getD_at d hi] at hu
  have hj : j < k := by have := (List.getElem?_eq_some_iff.1 hu).1; rw [hf] at this; exact this
  rw [addr_add_add]
  exact hc _ _ ((flat_at f k hf l i j _ (List.getElem?_eq_getElem hi) hj).trans hu)
structure NodeAt (S : Nat → Prop) (w : World) (A : Option Addr) (c : Nat) (B : Option Addr) (e : Nat) (d : ND) : Prop where
  lc : d.ls.length ≤ c
  pc : d.ps.length ≤ e
  rl : Rd w 1 A d.ls.length (strs d.ls)
  rp : Rd w 5 B d.ps.length (propsC d.ps)
  sl : ∀ q, A = some q → S q.block
  sp : ∀ q, B = some q → S q.block
def NodeC (S : Nat → Prop) (w : World) (cs : List Value) (d : ND) : Prop := ∃ A c B e, cs = [str d.n, .slice A d.ls.length c, .slice B d.ps.length e] ∧ NodeAt S w A c B e d
def EdgeC (S : Nat → Prop) (w : World) (cs : List Value) (d : ED) : Prop := ∃ A c B e, cs = [str d.n, .int .i64 d.fr, .int .i64 d.tw, .bool d.dir, .slice A d.ls.length c, .slice B d.ps.length e] ∧ NodeAt S w A c B e ⟨d.n, d.ls, d.ps⟩
def RowOf (w : World) (sz : Nat) (A : Option Addr) (n : Nat) (Q : Nat → List Value → Prop) : Prop := ∀ i, i < n → ∃ p cs, A = some p ∧ cs.length = sz ∧ (∀ (j : Nat) (u : Value), cs[j]? = some u → w.cell? ((p.add (i * sz)).add j) = some u) ∧ Q i cs
structure GAt (S : Nat → Prop) (w : World) (A : Option Addr) (c : Nat) (B : Option Addr) (e : Nat) (g : GV) : Prop where
  nc : g.ns.length ≤ c
  ec : g.es.length ≤ e
  rn : RowOf w 3 A g.ns.length (fun i cs => NodeC S w cs (g.ns.getD i nd0))
  re : RowOf w 6 B g.es.length (fun i cs => EdgeC S w cs (g.es.getD i ed0))
  oks : ∀ d ∈ g.ns, ∀ p ∈ d.ps, p.2.Ok
  oke : ∀ d ∈ g.es, ∀ p ∈ d.ps, p.2.Ok
theorem NodeAt.below {S : Nat → Prop} {w w' : World} {A B : Option Addr} {c e : Nat} {d : ND} (h : NodeAt S w A c B e d) (hb : Below w.heap.size w w') : NodeAt S w' A c B e d := ⟨h.lc, h.pc, h.rl.below hb, h.rp.below hb, h.sl, h.sp⟩
theorem NodeC.below {S : Nat → Prop} {w w' : World} {cs : List Value} {d : ND} (h : NodeC S w cs d) (hb : Below w.heap.size w w') : NodeC S w' cs d := let ⟨A, c, B, e, h1, h2⟩ := h; ⟨A, c, B, e, h1, h2.below hb⟩
theorem EdgeC.below {S : Nat → Prop} {w w' : World} {cs : List Value} {d : ED} (h : EdgeC S w cs d) (hb : Below w.heap.size w w') : EdgeC S w' cs d := let ⟨A, c, B, e, h1, h2⟩ := h; ⟨A, c, B, e, h1, h2.below hb⟩
theorem RowOf.below {w w' : World} {sz n : Nat} {A : Option Addr} {Q Q' : Nat → List Value → Prop} (h : RowOf w sz A n Q) (hb : Below w.heap.size w w') (hQ : ∀ i cs, i < n → Q i cs → Q' i cs) : RowOf w' sz A n Q' := fun i hi =>
  let ⟨p, cs, h1, h2, h3, h4⟩ := h i hi; ⟨p, cs, h1, h2, fun j u hu => cell_below hb (h3 j u hu), hQ i cs hi h4⟩
theorem GAt.below {S : Nat → Prop} {w w' : World} {A B : Option Addr} {c e : Nat} {g : GV} (h : GAt S w A c B e g) (hb : Below w.heap.size w w') : GAt S w' A c B e g :=
  ⟨h.nc, h.ec, h.rn.below hb fun _ _ _ h => h.below hb, h.re.below hb fun _ _ _ h => h.below hb, h.oks, h.oke⟩
theorem oks_at {α : Type} {f : α → List Pr} {l : List α} (h : ∀ d ∈ l, ∀ p ∈ f d, p.2.Ok) {i : Nat} (z : α) (hi : i < l.length) : ∀ p ∈ f (l.getD i z), p.2.Ok := by rw [getD_at z hi]; exact h _ (List.getElem_mem hi)
theorem ok_at {ps : List Pr} (h : ∀ p ∈ ps, p.2.Ok) {i : Nat} (hi : i < ps.length) : (ps.getD i pr0).2.Ok := by rw [getD_at pr0 hi]; exact h _ (List.getElem_mem hi)
end Go.Proofs.YtjmlknjbhbfneaaGreatDoor
namespace Go.Proofs.YtjmlknjbhbfneaaGreatDoor
open Go.RowKit Go.Bw Go.Bw.Fl
set_option linter.unusedVariables false
set_option linter.unusedSimpArgs false
theorem fa105_0GrA (p : Addr) (w : World) : (Instr.fieldAt 105 (.pointer (some p)) 0).run Tryz.prog w = .ok (.pointer (some (p.add 0))) w := run_fieldAt (i := 0) (sz := 0) Tryz.underlying105 rfl (by kernel_rfl) p w
theorem fa105_1GrA (p : Addr) (w : World) : (Instr.fieldAt 105 (.pointer (some p)) 1).run Tryz.prog w = .ok (.pointer (some (p.add 1))) w := run_fieldAt (i := 1) (sz := 3) Tryz.underlying105 rfl (by kernel_rfl) p w
theorem fa27_0GrA (p : Addr) (w : World) : (Instr.fieldAt 27 (.pointer (some p)) 0).run Tryz.prog w = .ok (.pointer (some (p.add 0))) w := run_fieldAt (i := 0) (sz := 0) Tryz.underlying27 rfl (by kernel_rfl) p w
theorem fa79_0GrA (p : Addr) (w : World) : (Instr.fieldAt 79 (.pointer (some p)) 0).run Tryz.prog w = .ok (.pointer (some (p.add 0))) w := run_fieldAt (i := 0) (sz := 1) Tryz.underlying79 rfl (by kernel_rfl) p w
theorem fa96_0GrA (p : Addr) (w : World) : (Instr.fieldAt 96 (.pointer (some p)) 0).run Tryz.prog w = .ok (.pointer (some (p.add 0))) w := run_fieldAt (i := 0) (sz := 0) Tryz.underlying96 rfl (by kernel_rfl) p w
theorem one24GrA : One Tryz.prog 24 := ⟨_, Tryz.underlying24, rfl, by kernel_rfl⟩
theorem one3GrA : One Tryz.prog 3 := ⟨_, Tryz.underlying3, rfl, by kernel_rfl⟩
theorem one9GrA : One Tryz.prog 9 := ⟨_, Tryz.underlying9, rfl, by kernel_rfl⟩
theorem sz105GrA : (Tryz.prog.info? 105).map (·.size) = some 5 := by kernel_rfl
theorem sz9GrA : (Tryz.prog.info? 9).map (·.size) = some 1 := by kernel_rfl
theorem txt43GrA : Txt Tryz.prog 43 := ⟨_, Tryz.func43, by kernel_rfl, rfl⟩   -- bridleway/label.Word
theorem txt54GrA : Txt Tryz.prog 54 := ⟨_, Tryz.func54, by kernel_rfl, rfl⟩   -- bridleway/value.Right
theorem txt55GrA : Txt Tryz.prog 55 := ⟨_, Tryz.func55, by kernel_rfl, rfl⟩   -- bridleway/graph.rising
theorem one_str (x : List UInt8) : ∀ u ∈ List.flatMap (fun v : Value => v.cells.toList) [str x], u.oneCell' = true := fun u hu => by rcases List.mem_singleton.1 (show u ∈ [str x] from hu) with rfl; rfl
theorem own_apart {w : World} {base : Nat} {e : TypeId} {sz n : Nat} {v : Value} {xs : List Value} (h : w.ownsRow base e sz v n xs) (g : Nat) (hg : w.heap.size ≤ g) : v.ownBlock = none ∨ v.ownBlock ≠ some g := by
  cases hv : v.ownBlock with
  | none => exact .inl rfl
  | some k => have := (own_ge h k hv).2; exact .inr (fun e => by cases e; omega)
theorem at5 {w : World} {p : Addr} {i : Nat} {cs : List Value} {k : Nat} (h : ∀ (j : Nat) (u : Value), cs[j]? = some u → w.cell? ((p.add (i * k)).add j) = some u) : ∀ (j : Nat) (u : Value), cs[j]? = some u → w.cell? ((p.add ((i : Int).toNat * k)).add j) = some u := by rw [Int.toNat_natCast]; exact h
theorem rising_r (A : Option Addr) (c : Nat) (ls : List (List UInt8)) (w : World) (hR : Rd w 1 A ls.length (strs ls)) (hsz : szL ls ≤ 1099511627776) : Ret Tryz.prog 55 [.slice A ls.length c] w fun v w' => v = .bool (risingV ls) ∧ Below w.heap.size w w' := by
  have hln := szL_len ls
  have hb := Below.refl w.heap.size w
  have hR_hb := hR
  refine enter Tryz.func55 rfl rfl rfl <| Wc.seq fun _ hK_1 => Wc.region <| Wl.sg rfl rfl <| Wl.nil <| Wq.next hK_1 <| Wc.seq fun _ hK_3 => Wc.seq fun _ hK_4 => Wc.region <| Wl.mv rfl rfl <| Wl.y (y_lenl Tryz.underlying40 (by omega) rfl) rfl <| Wl.mv rfl rfl <| Wl.nil <| Wq.next hK_4 <| Wc.block <| Wc.loop (X := Nat) (fun i => [(0, .slice A ls.length c), (5, .slice A ls.length c), (6, .int .i64 (ls.length : Int)), (7, .int .i64 (i : Int))]) (fun i wr => i ≤ ls.length ∧ (∀ j, j < i → riseAt ls j = true) ∧ Below w.heap.size w wr) (fun i => ls.length - i) (0) ?_ ?_ ?_
  · exact by repeat first | exact Sub.nil | refine Sub.cons' rfl (by first | rfl | exact int_eq (by omega) | exact int_eq (by simp) | (simp; done)) ?_
  · exact ⟨by omega, fun _ h => by omega, hb⟩
  rintro i wr hI_9 _ hL_8
  replace hI_9 : i ≤ ls.length ∧ (∀ j, j < i → riseAt ls j = true) ∧ Below w.heap.size w wr := hI_9
  obtain ⟨hi, hall, hb⟩ := hI_9
  show Wc _ _ _ _ _ [(0, .slice A ls.length c), (5, .slice A ls.length c), (6, .int .i64 (ls.length : Int)), (7, .int .i64 (i : Int))] _
  have hR := hR_hb.below hb
  have hzhb_L0 := hb.size
  refine Wc.seq fun _ hK_10 => Wc.region <| Wl.y (y_lssi rfl rfl) rfl <| Wl.nil <| Wq.next hK_10 <| Wc.seq fun _ hK_12 => Wc.cond rfl (fun c0_13 => ?_) (fun c0_13 => ?_)
  ·
   have c0_13_ := c0_13
   simp only [DZ] at c0_13
   have hil : i < ls.length := by have := c0_13; omega
   have hli := szL_at hil
   obtain ⟨p_, v_, hpe, hve, hcell⟩ := hR.one (i := i) hil
   obtain rfl := strs_val hil hve
   subst hpe
   refine Wc.skip <| Wq.next hK_12 <| Wc.seq fun _ hK_14 => Wc.block <| Wc.seq fun _ hK_15 => Wc.region <| Wl.mv rfl rfl <| Wl.y (y_indexAddr Tryz.underlying40 sz9GrA rfl rfl (by omega) (by omega)) rfl <| Wl.l (l_load one9GrA rfl (by exact at1 hcell)) rfl <| Wl.sg rfl rfl <| Wl.sg rfl rfl <| Wl.nil <| Wq.next hK_15 <| Wc.seq fun _ hK_21 => Wc.meet (X := Bool) (fun q => [(0, .slice (some p_) ls.length c), (5, .slice (some p_) ls.length c), (6, .int .i64 (ls.length : Int)), (7, .int .i64 (i : Int)), (27, .bool q)]) (fun q wr => q = (!riseAt ls i) ∧ Below w.heap.size w wr) (fun _ hM_22 => ?_) ?_
   ·
    refine Wc.region <| Wl.mv rfl rfl <| Wl.call txt43GrA rfl rfl (WordA_r (ls.getD i []) (by omega) _) rfl ?_
    rintro _ w_k0 ⟨rfl, hs_k0⟩
    have hz_k0 := hs_k0.size
    have hb := hb.trans (hs_k0.mono hb.size)
    have hR := hR_hb.below hb
    refine Wl.y (y_not rfl) rfl <| Wl.mv rfl rfl <| Wl.guardF rfl rfl rfl (fun g_27 => ?_) (fun g_27 => ?_)
    ·
     have g_27_ := g_27
     simp only [DZ] at g_27
     refine Wl.off' rfl rfl g_27_ rfl rfl <| Wl.off' rfl rfl g_27_ rfl rfl <| Wl.offU rfl rfl rfl <| Wl.offU rfl rfl rfl <| Wl.offU rfl rfl rfl <| Wl.offU rfl rfl rfl <| Wl.offU rfl rfl rfl <| Wl.offU rfl rfl rfl <| Wl.offU rfl rfl rfl <| Wl.off' rfl rfl g_27_ rfl rfl <| Wl.y (y_pickT rfl g_27_ rfl) rfl <| Wl.nil <| Wq.meet hM_22 (!riseAt ls i) (by repeat first | exact Sub.nil | refine Sub.cons' rfl (by first | rfl | exact bool_eq (by unfold riseAt; simp_all; done) | exact bool_eq (by unfold riseAt; simp_all; omega)) ?_) ?_
     exact ⟨rfl, hb⟩
    have g_27_ := g_27
    simp only [DZ] at g_27
    refine Wl.mv rfl rfl <| Wl.on' rfl rfl g_27_ <| Wl.y (y_gtri rfl rfl) rfl <| Wl.on' rfl rfl g_27_ <| Wl.mv rfl rfl <| Wl.guardT rfl rfl rfl (fun g_32 => ?_) (fun g_32 => ?_)
    ·
     have g_32_ := g_32
     simp only [DZ] at g_32
     refine Wl.mv rfl rfl <| Wl.on' rfl rfl g_32_ <| Wl.mv rfl rfl <| Wl.on' rfl rfl g_32_ <| Wl.y (y_subI rfl rfl (by omega) (by omega)) rfl <| Wl.on' rfl rfl g_32_ ?_
     have hi0 : i ≠ 0 := by omega
     obtain ⟨p2_, v2_, hpe2, hve2, hcell2⟩ := hR.one (i := i - 1) (by omega)
     cases hpe2
     obtain rfl := strs_val (by omega) hve2
     rw [show ((i - 1 : Nat)) = ((i : Int) - 1).toNat by omega] at hcell2
     refine Wl.y (y_indexAddr Tryz.underlying40 sz9GrA rfl rfl (by omega) (by omega)) rfl <| Wl.on' rfl rfl g_32_ <| Wl.l (l_load one9GrA rfl (by exact by rw [Nat.mul_one]; exact hcell2)) rfl <| Wl.on' rfl rfl g_32_ <| Wl.mv rfl rfl <| Wl.on' rfl rfl g_32_ <| Wl.y (y_geqs rfl rfl) rfl <| Wl.on' rfl rfl g_27_ <| Wl.y (y_pickT rfl g_32_ rfl) rfl <| Wl.y (y_pickF rfl g_27_ rfl) rfl <| Wl.nil <| Wq.meet hM_22 (!riseAt ls i) (by repeat first | exact Sub.nil | refine Sub.cons' rfl (by first | rfl | exact bool_eq (by unfold riseAt; simp_all; done) | exact bool_eq (by unfold riseAt; simp_all; omega)) ?_) ?_
     exact ⟨rfl, hb⟩
    have g_32_ := g_32
    simp only [DZ] at g_32
    refine Wl.off' rfl rfl g_32_ rfl rfl <| Wl.off' rfl rfl g_32_ rfl rfl <| Wl.off' rfl rfl g_32_ rfl rfl <| Wl.off' rfl rfl g_32_ rfl rfl <| Wl.off' rfl rfl g_32_ rfl rfl <| Wl.off' rfl rfl g_32_ rfl rfl <| Wl.on' rfl rfl g_27_ <| Wl.y (y_pickF rfl g_32_ rfl) rfl <| Wl.y (y_pickF rfl g_27_ rfl) rfl <| Wl.nil <| Wq.meet hM_22 (!riseAt ls i) (by repeat first | exact Sub.nil | refine Sub.cons' rfl (by first | rfl | exact bool_eq (by unfold riseAt; simp_all; done) | exact bool_eq (by unfold riseAt; simp_all; omega)) ?_) ?_
    exact ⟨rfl, hb⟩
   rintro q wr hI_44
   replace hI_44 : q = (!riseAt ls i) ∧ Below w.heap.size w wr := hI_44
   obtain ⟨hq, hb⟩ := hI_44
   show Wq _ _ _ _ [(0, .slice (some p_) ls.length c), (5, .slice (some p_) ls.length c), (6, .int .i64 (ls.length : Int)), (7, .int .i64 (i : Int)), (27, .bool q)] _
   have hR := hR_hb.below hb
   have hzhb_g4 := hb.size
   refine Wq.next hK_21 <| Wc.cond rfl (fun c1_45 => ?_) (fun c1_45 => ?_)
   ·
    have c1_45_ := c1_45
    refine Wc.seq fun _ hK_46 => Wc.region <| Wl.sg rfl rfl <| Wl.nil <| Wq.next hK_46 <| Wc.ret <| Wq.block_ret (Wq.then_ret (Wq.then_ret (Wq.block_ret (Wq.then_ret ?_))))
    refine ret1 rfl rfl ?_
    exact ⟨_, rfl, bool_eq (by have h := c1_45_; rw [hq] at h; exact (allN_f hil (by simpa using h)).symm), hb⟩
   have c1_45_ := c1_45
   refine Wc.skip <| Wq.block_normal <| Wq.next hK_14 <| Wc.region <| Wl.y (y_addI rfl rfl (by omega) (by omega)) rfl <| Wl.mv rfl rfl <| Wl.nil <| fun a_ ha_ => hL_8 _ _ (i + 1) (by omega) (by repeat first | exact Sub.nil | refine Sub.cons' rfl (by first | rfl | exact int_eq (by omega) | exact int_eq (by simp) | (simp; done)) ?_) ?_ a_ ha_
   exact ⟨by omega, fun j hj => (by by_cases e : j = i; (· rw [e]; have h := c1_45_; rw [hq] at h; simpa using h); (· exact hall j (by omega))), hb⟩
  have c0_13_ := c0_13
  simp only [DZ] at c0_13
  refine Wc.exit <| Wq.then_exit <| Wq.then_exit <| Wq.block_exit <| Wq.next hK_3 <| Wc.seq fun _ hK_50 => Wc.region <| Wl.sg rfl rfl <| Wl.nil <| Wq.next hK_50 <| Wc.ret <| ret1 rfl rfl ?_
  exact ⟨_, rfl, bool_eq (allN_t (fun j hj => hall j (by have := c0_13; omega))).symm, hb⟩
theorem rising_n (A : Option Addr) (c n : Nat) (ls : List (List UInt8)) (hn : ls.length = n) (w : World) (hR : Rd w 1 A n (strs ls)) (hsz : szL ls ≤ 1099511627776) : Ret Tryz.prog 55 [.slice A n c] w fun v w' => v = .bool (risingV ls) ∧ Below w.heap.size w w' := by
  subst hn; exact rising_r A c ls w hR hsz
theorem nm_take {ps : List Pr} {i : Nat} (hi : i < ps.length) : (ps.map (·.1)).take (i + 1) = (ps.map (·.1)).take i ++ [(ps.getD i pr0).1] := by
  rw [take_snoc [] (by simpa using hi), getD_at [] (by simpa using hi), getD_at pr0 hi, List.getElem_map]
theorem strs_snoc (l : List (List UInt8)) (x : List UInt8) : strs (l ++ [x]) = strs l ++ [str x] := by simp [strs]
theorem szP_names (ps : List Pr) : szL (ps.map (·.1)) ≤ szP ps := by
  unfold szL szP
  induction ps with
  | nil => simp
  | cons p r ih => simp only [List.map_cons, List.sum_cons]; omega
theorem element_r (S : Nat → Prop) (A : Option Addr) (c : Nat) (B : Option Addr) (e : Nat) (n : List UInt8) (ls : List (List UInt8)) (ps : List Pr) (w : World) (hN : NodeAt S w A c B e ⟨n, ls, ps⟩) (hok : ∀ p ∈ ps, p.2.Ok) (hsz : szN ⟨n, ls, ps⟩ ≤ 1099511627776) :
    Ret Tryz.prog 30 [str n, .slice A ls.length c, .slice B ps.length e] w fun v w' => v = .bool (elementV n ls ps) ∧ Below w.heap.size w w' := by
  have hs1 : n.length + szL ls + szP ps + 1 ≤ 1099511627776 := hsz
  have hpl := szP_len ps
  have hll := szL_len ls
  have hb := Below.refl w.heap.size w
  have hN_hb := hN
  refine enter Tryz.func30 rfl rfl rfl <| Wc.seq fun _ hK_1 => Wc.region <| Wl.sg rfl rfl <| Wl.nil <| Wq.next hK_1 <| Wc.seq fun _ hK_3 => Wc.region <| Wl.sg rfl rfl <| Wl.nil <| Wq.next hK_3 <| Wc.seq fun _ hK_5 => Wc.seq fun _ hK_6 => Wc.region <| Wl.mv rfl rfl <| Wl.y (y_lenl Tryz.underlying41 (by omega) rfl) rfl <| Wl.mv rfl rfl <| Wl.nil <| Wq.next hK_6 <| Wc.block <| Wc.loop (X := Nat × Value) (fun (i, v) => [(0, str n), (1, .slice A ls.length c), (7, v), (10, .slice B ps.length e), (11, .int .i64 (ps.length : Int)), (12, .int .i64 (i : Int))]) (fun (i, v) wr => i ≤ ps.length ∧ (∀ j, j < i → valueAt ps j = true) ∧ Below w.heap.size w wr ∧ wr.ownsRow w.heap.size 9 1 v i (strs ((ps.map (·.1)).take i))) (fun (i, v) => ps.length - i) (⟨0, .slice none 0 0⟩) ?_ ?_ ?_
  · exact by repeat first | exact Sub.nil | refine Sub.cons' rfl (by first | rfl | exact int_eq (by omega) | exact int_eq (by simp) | (simp; done)) ?_
  · exact ⟨by omega, fun _ h => by omega, hb, own_nil _ _ _ _⟩
  rintro ⟨i, v⟩ wr hI_11 _ hL_10
  replace hI_11 : i ≤ ps.length ∧ (∀ j, j < i → valueAt ps j = true) ∧ Below w.heap.size w wr ∧ wr.ownsRow w.heap.size 9 1 v i (strs ((ps.map (·.1)).take i)) := hI_11
  obtain ⟨hi, hall, hb, hO⟩ := hI_11
  show Wc _ _ _ _ _ [(0, str n), (1, .slice A ls.length c), (7, v), (10, .slice B ps.length e), (11, .int .i64 (ps.length : Int)), (12, .int .i64 (i : Int))] _
  have hN := hN_hb.below hb
  have hzhb_L0 := hb.size
  refine Wc.seq fun _ hK_12 => Wc.region <| Wl.y (y_lssi rfl rfl) rfl <| Wl.nil <| Wq.next hK_12 <| Wc.seq fun _ hK_14 => Wc.cond rfl (fun c0_15 => ?_) (fun c0_15 => ?_)
  ·
   have c0_15_ := c0_15
   simp only [DZ] at c0_15
   have hil : i < ps.length := by have := c0_15; omega
   have hpi := szP_at hil
   have hoi := ok_at hok hil
   obtain ⟨p_, hpe, hcell⟩ := rd_elem propC (by omega) propC_len hN.rp hil pr0
   have hpe : B = some p_ := hpe
   subst hpe
   refine Wc.skip <| Wq.next hK_14 <| Wc.seq fun _ hK_16 => Wc.block <| Wc.seq fun _ hK_17 => Wc.region <| Wl.y (y_indexAddr Tryz.underlying41 sz105GrA rfl rfl (by omega) (by omega)) rfl <| Wl.l (l_loadS Tryz.underlying105 (by kernel_rfl) rfl (by exact at5 hcell)) rfl ?_
   have hap_ := own_apart hO
   refine Wl.allocN (z := (.agg #[(str []), (.int .i64 0), (.int .i64 0), (.float .f64 0), (str [])])) (by kernel_rfl) rfl ?_
   rintro g_o5 w_o5 hg_o5 hn_o5 hs_o5
   have hz_o5 := hs_o5.size
   have hb := hb.trans (hs_o5.mono hb.size)
   have hN := hN_hb.below hb
   have hO := own_below hO hs_o5
   have hB_o5 := hn_o5
   have hl_o5 := hB_o5.lt
   refine Wl.storeS (by kernel_rfl) rfl rfl hB_o5 rfl rfl ?_
   rintro w_s0 hn_s0 hg_s0
   have hz_s0 := hg_s0.size
   have hb := below_blk hb hg_s0 hb.size (by omega)
   have hN := hN_hb.below hb
   have hO := World.ownsRow.kept hO hg_s0 (by exact hap_ _ hg_o5)
   have hB_o5 := hn_s0
   refine Wl.nil <| Wq.next hK_17 <| Wc.seq fun _ hK_21 => Wc.seq fun _ hK_22 => Wc.meet (X := Bool) (fun q => [(0, str n), (1, .slice A ls.length c), (7, v), (9, .pointer (some ⟨g_o5, 0, none⟩)), (10, .slice (some p_) ps.length e), (11, .int .i64 (ps.length : Int)), (12, .int .i64 (i : Int)), (25, .bool q)]) (fun q wr => q = (!valueAt ps i) ∧ Below w.heap.size w wr ∧ wr.ownsRow w.heap.size 9 1 v i (strs ((ps.map (·.1)).take i)) ∧ Blk wr g_o5 105 (propC (ps.getD i pr0))) (fun _ hM_23 => ?_) ?_
   ·
    refine Wc.region <| Wl.y (y_fieldAddr (fa105_1GrA _) rfl) rfl <| Wl.y (y_fieldAddr (fa96_0GrA _) rfl) rfl <| Wl.l (l_load one3GrA rfl (by exact hB_o5.at (j := 1) rfl)) rfl <| Wl.y (y_eqli rfl rfl) rfl <| Wl.mv rfl rfl <| Wl.guardF rfl rfl rfl (fun g_29 => ?_) (fun g_29 => ?_)
    ·
     have g_29_ := g_29
     simp only [DZ] at g_29
     refine Wl.off' rfl rfl g_29_ rfl rfl <| Wl.off' rfl rfl g_29_ rfl rfl <| Wl.off' rfl rfl g_29_ rfl rfl <| Wl.y (y_pickT rfl g_29_ rfl) rfl <| Wl.nil <| Wq.meet hM_23 (!valueAt ps i) (by repeat first | exact Sub.nil | refine Sub.cons' rfl (by first | rfl | exact bool_eq (by unfold valueAt; simp_all; done) | exact bool_eq (by unfold valueAt; simp_all; omega)) ?_) ?_
     exact ⟨rfl, hb, hO, hB_o5⟩
    have g_29_ := g_29
    simp only [DZ] at g_29
    refine Wl.y (y_fieldAddr (fa105_1GrA _) rfl) rfl <| Wl.on' rfl rfl g_29_ <| Wl.l (l_loadS Tryz.underlying96 (by kernel_rfl) rfl (by exact show ∀ (j : Nat) (u : Value), (ps.getD i pr0).2.cells[j]? = some u → _ from fun j u hu => by rw [addr_add_add]; exact hB_o5.at (by rw [Nat.add_comm]; exact hu))) rfl <| Wl.on' rfl rfl g_29_ <| Wl.call txt54GrA rfl rfl (Right_r (ps.getD i pr0).2 hoi _) rfl ?_
    rintro _ w_k0 ⟨rfl, hs_k0⟩
    have hz_k0 := hs_k0.size
    have hb := hb.trans (hs_k0.mono hb.size)
    have hN := hN_hb.below hb
    have hO := own_below hO hs_k0
    have hB_o5 := Blk.below hB_o5 hs_k0
    refine Wl.on' rfl rfl g_29_ <| Wl.y (y_not rfl) rfl <| Wl.y (y_pickF rfl g_29_ rfl) rfl <| Wl.nil <| Wq.meet hM_23 (!valueAt ps i) (by repeat first | exact Sub.nil | refine Sub.cons' rfl (by first | rfl | exact bool_eq (by unfold valueAt; simp_all; done) | exact bool_eq (by unfold valueAt; simp_all; omega)) ?_) ?_
    exact ⟨rfl, hb, hO, hB_o5⟩
   rintro q wr hI_36
   replace hI_36 : q = (!valueAt ps i) ∧ Below w.heap.size w wr ∧ wr.ownsRow w.heap.size 9 1 v i (strs ((ps.map (·.1)).take i)) ∧ Blk wr g_o5 105 (propC (ps.getD i pr0)) := hI_36
   obtain ⟨hq, hb, hO, hB_o5⟩ := hI_36
   show Wq _ _ _ _ [(0, str n), (1, .slice A ls.length c), (7, v), (9, .pointer (some ⟨g_o5, 0, none⟩)), (10, .slice (some p_) ps.length e), (11, .int .i64 (ps.length : Int)), (12, .int .i64 (i : Int)), (25, .bool q)] _
   have hN := hN_hb.below hb
   have hzhb_g5 := hb.size
   have hlhB_o5_g5 := hB_o5.lt
   refine Wq.next hK_22 <| Wc.cond rfl (fun c1_37 => ?_) (fun c1_37 => ?_)
   ·
    have c1_37_ := c1_37
    refine Wc.seq fun _ hK_38 => Wc.region <| Wl.sg rfl rfl <| Wl.nil <| Wq.next hK_38 <| Wc.ret <| Wq.then_ret (Wq.block_ret (Wq.then_ret (Wq.then_ret (Wq.block_ret (Wq.then_ret ?_)))))
    refine ret1 rfl rfl ?_
    exact ⟨_, rfl, bool_eq (by unfold elementV; have h := c1_37_; rw [hq] at h; rw [allN_f hil (by simpa using h)]; simp), hb⟩
   have c1_37_ := c1_37
   refine Wc.skip <| Wq.next hK_21 <| Wc.region <| Wl.mv rfl rfl <| Wl.y (y_fieldAddr (fa105_0GrA _) rfl) rfl <| Wl.l (l_load one9GrA rfl (by exact hB_o5.at (j := 0) rfl)) rfl <| Wl.litN (sz := 1) (vs := [_]) Tryz.underlying40 (by kernel_rfl) rfl rfl rfl rfl rfl rfl ?_
   rintro g_b1 w_b1 hg_b1 hn_b1 hs_b1
   have hz_b1 := hs_b1.size
   have hb := hb.trans (hs_b1.mono hb.size)
   have hN := hN_hb.below hb
   have hO := own_below hO hs_b1
   have hB_b1 := hn_b1
   have hl_b1 := hB_b1.lt
   refine Wl.append (z := (str [])) (sz := 1) (bytes := 16) Tryz.underlying40 (by kernel_rfl) rfl (by decide) _ rfl hO rfl (hB_b1.rd 1 1 rfl) (one_str _) (by simp only [maxLen]; omega) (by omega) (by exact hb.size) rfl ?_
   rintro v_b2 w_b2 hn_b2 hg_b2 ha_b2
   have hz_b2 := hg_b2.size
   have hb := hb.grown hg_b2 hb.size (fun k_ hk_ => by have := (own_ge hO k_ hk_).1; omega)
   have hN := hN_hb.below hb
   have hO := hn_b2
   refine Wl.sg rfl rfl <| Wl.nil <| Wq.block_normal <| Wq.next hK_16 <| Wc.region <| Wl.y (y_addI rfl rfl (by omega) (by omega)) rfl <| Wl.mv rfl rfl <| Wl.nil <| fun a_ ha_ => hL_10 _ _ (⟨i + 1, v_b2⟩) (by simp; omega) (by repeat first | exact Sub.nil | refine Sub.cons' rfl (by first | rfl | exact int_eq (by omega) | exact int_eq (by simp) | (simp; done)) ?_) ?_ a_ ha_
   exact ⟨by omega, fun j hj => (by by_cases e : j = i; (· rw [e]; have h := c1_37_; rw [hq] at h; simpa using h); (· exact hall j (by omega))), hb, by rw [nm_take hil, strs_snoc]; exact hO⟩
  have c0_15_ := c0_15
  simp only [DZ] at c0_15
  have hie : i = ps.length := by have := c0_15; omega
  have hv1 : allN ps.length (valueAt ps) = true := allN_t (fun j hj => hall j (by omega))
  have hml : (ps.map (·.1)).take i = ps.map (·.1) := by rw [hie]; exact List.take_of_length_le (by simp)
  obtain ⟨Ao, co, hve, _, _⟩ := own_form hO
  subst hve
  refine Wc.exit <| Wq.then_exit <| Wq.then_exit <| Wq.block_exit <| Wq.next hK_5 <| Wc.seq fun _ hK_48 => Wc.region <| Wl.mv rfl rfl <| Wl.call txt43GrA rfl rfl (WordA_r n (by omega) _) rfl ?_
  rintro _ w_k1 ⟨rfl, hs_k1⟩
  have hz_k1 := hs_k1.size
  have hb := hb.trans (hs_k1.mono hb.size)
  have hN := hN_hb.below hb
  have hO := own_below hO hs_k1
  refine Wl.mv rfl rfl <| Wl.guardT rfl rfl rfl (fun g_52 => ?_) (fun g_52 => ?_)
  ·
   have g_52_ := g_52
   refine Wl.mv rfl rfl <| Wl.on' rfl rfl g_52_ <| Wl.call txt55GrA rfl rfl (rising_r A c ls _ hN.rl (by omega)) rfl ?_
   rintro _ w_k2 ⟨rfl, hs_k2⟩
   have hz_k2 := hs_k2.size
   have hb := hb.trans (hs_k2.mono hb.size)
   have hN := hN_hb.below hb
   have hO := own_below hO hs_k2
   refine Wl.y (y_pickT rfl g_52_ rfl) rfl <| Wl.mv rfl rfl <| Wl.guardT rfl rfl rfl (fun g_57 => ?_) (fun g_57 => ?_)
   ·
    have g_57_ := g_57
    refine Wl.mv rfl rfl <| Wl.on' rfl rfl g_57_ ?_
    have hRo := Rd.of_own hO
    rw [hml] at hRo
    refine Wl.call txt55GrA rfl rfl (rising_n Ao co i (ps.map (·.1)) (by simp; omega) _ hRo (by have := szP_names ps; omega)) rfl ?_
    rintro _ w_k3 ⟨rfl, hs_k3⟩
    have hz_k3 := hs_k3.size
    have hb := hb.trans (hs_k3.mono hb.size)
    have hN := hN_hb.below hb
    refine Wl.y (y_pickT rfl g_57_ rfl) rfl <| Wl.sg rfl rfl <| Wl.nil <| Wq.next hK_48 <| Wc.ret <| ret1 rfl rfl ?_
    exact ⟨_, rfl, bool_eq (by unfold elementV; rw [hv1]; simp_all), hb⟩
   have g_57_ := g_57
   refine Wl.off' rfl rfl g_57_ rfl rfl <| Wl.y (y_pickF rfl g_57_ rfl) rfl <| Wl.sg rfl rfl <| Wl.nil <| Wq.next hK_48 <| Wc.ret <| ret1 rfl rfl ?_
   exact ⟨_, rfl, bool_eq (by unfold elementV; rw [hv1]; simp_all), hb⟩
  have g_52_ := g_52
  refine Wl.off' rfl rfl g_52_ rfl rfl <| Wl.y (y_pickF rfl g_52_ rfl) rfl <| Wl.mv rfl rfl <| Wl.off' rfl rfl rfl rfl rfl <| Wl.off' rfl rfl rfl rfl rfl <| Wl.y (y_pickF rfl rfl rfl) rfl <| Wl.sg rfl rfl <| Wl.nil <| Wq.next hK_48 <| Wc.ret <| ret1 rfl rfl ?_
  exact ⟨_, rfl, bool_eq (by unfold elementV; rw [hv1]; simp_all), hb⟩
theorem is_r (x : Nat) (i : Int) (v : Value) (A : Option Addr) (n c : Nat) (r : List Value) (w : World) (hB : Blk w x 79 (.slice A n c :: r)) (hn : n ≤ 1099511627776) : Ret Tryz.prog 31 [.pointer (some ⟨x, 0, none⟩), .int .i64 i] w fun v w' => v = .bool (isV n i) ∧ Below w.heap.size w w' := by
  have hb := Below.refl w.heap.size w
  have hB_hb := hB
  refine enter Tryz.func31 rfl rfl rfl <| Wc.seq fun _ hK_1 => Wc.region <| Wl.sg rfl rfl <| Wl.nil <| Wq.next hK_1 <| Wc.seq fun _ hK_3 => Wc.region <| Wl.mv rfl rfl <| Wl.y (y_geqi rfl rfl) rfl <| Wl.mv rfl rfl <| Wl.guardT rfl rfl rfl (fun g_7 => ?_) (fun g_7 => ?_)
  ·
   have g_7_ := g_7
   simp only [DZ] at g_7
   refine Wl.mv rfl rfl <| Wl.on' rfl rfl g_7_ <| Wl.mv rfl rfl <| Wl.on' rfl rfl g_7_ <| Wl.y (y_nilCheck rfl) rfl <| Wl.on' rfl rfl g_7_ <| Wl.y (y_fieldAddr (fa79_0GrA _) rfl) rfl <| Wl.on' rfl rfl g_7_ <| Wl.y (y_fieldAddr (fa27_0GrA _) rfl) rfl <| Wl.on' rfl rfl g_7_ <| Wl.l (l_load one24GrA rfl (by exact hB.at (j := 0) rfl)) rfl <| Wl.on' rfl rfl g_7_ <| Wl.y (y_lenl Tryz.underlying24 (by omega) rfl) rfl <| Wl.on' rfl rfl g_7_ <| Wl.y (y_lssi rfl rfl) rfl <| Wl.y (y_pickT rfl g_7_ rfl) rfl <| Wl.sg rfl rfl <| Wl.nil <| Wq.next hK_3 <| Wc.ret <| ret1 rfl rfl ?_
   exact ⟨_, rfl, bool_eq (by unfold isV; first | (simp_all; done) | (simp_all; omega)), hb⟩
  have g_7_ := g_7
  simp only [DZ] at g_7
  refine Wl.off' rfl rfl g_7_ rfl rfl <| Wl.off' rfl rfl g_7_ rfl rfl <| Wl.off' rfl rfl g_7_ rfl rfl <| Wl.off' rfl rfl g_7_ rfl rfl <| Wl.off' rfl rfl g_7_ rfl rfl <| Wl.off' rfl rfl g_7_ rfl rfl <| Wl.off' rfl rfl g_7_ rfl rfl <| Wl.y (y_pickF rfl g_7_ rfl) rfl <| Wl.sg rfl rfl <| Wl.nil <| Wq.next hK_3 <| Wc.ret <| ret1 rfl rfl ?_
  exact ⟨_, rfl, bool_eq (by unfold isV; first | (simp_all; done) | (simp_all; omega)), hb⟩
end Go.Proofs.YtjmlknjbhbfneaaGreatDoor
namespace Go.Proofs.YtjmlknjbhbfneaaGreatDoor
open Go.RowKit Go.Bw Go.Bw.Fl
set_option linter.unusedVariables false
set_option linter.unusedSimpArgs false
theorem fa27_0GrB (p : Addr) (w : World) : (Instr.fieldAt 27 (.pointer (some p)) 0).run Tryz.prog w = .ok (.pointer (some (p.add 0))) w := run_fieldAt (i := 0) (sz := 0) Tryz.underlying27 rfl (by kernel_rfl) p w
theorem fa27_1GrB (p : Addr) (w : World) : (Instr.fieldAt 27 (.pointer (some p)) 1).run Tryz.prog w = .ok (.pointer (some (p.add 1))) w := run_fieldAt (i := 1) (sz := 0) Tryz.underlying27 rfl (by kernel_rfl) p w
theorem fa43_0GrB (p : Addr) (w : World) : (Instr.fieldAt 43 (.pointer (some p)) 0).run Tryz.prog w = .ok (.pointer (some (p.add 0))) w := run_fieldAt (i := 0) (sz := 0) Tryz.underlying43 rfl (by kernel_rfl) p w
theorem fa43_1GrB (p : Addr) (w : World) : (Instr.fieldAt 43 (.pointer (some p)) 1).run Tryz.prog w = .ok (.pointer (some (p.add 1))) w := run_fieldAt (i := 1) (sz := 0) Tryz.underlying43 rfl (by kernel_rfl) p w
theorem fa43_2GrB (p : Addr) (w : World) : (Instr.fieldAt 43 (.pointer (some p)) 2).run Tryz.prog w = .ok (.pointer (some (p.add 2))) w := run_fieldAt (i := 2) (sz := 0) Tryz.underlying43 rfl (by kernel_rfl) p w
theorem fa46_0GrB (p : Addr) (w : World) : (Instr.fieldAt 46 (.pointer (some p)) 0).run Tryz.prog w = .ok (.pointer (some (p.add 0))) w := run_fieldAt (i := 0) (sz := 0) Tryz.underlying46 rfl (by kernel_rfl) p w
theorem fa46_1GrB (p : Addr) (w : World) : (Instr.fieldAt 46 (.pointer (some p)) 1).run Tryz.prog w = .ok (.pointer (some (p.add 1))) w := run_fieldAt (i := 1) (sz := 0) Tryz.underlying46 rfl (by kernel_rfl) p w
theorem fa46_2GrB (p : Addr) (w : World) : (Instr.fieldAt 46 (.pointer (some p)) 2).run Tryz.prog w = .ok (.pointer (some (p.add 2))) w := run_fieldAt (i := 2) (sz := 0) Tryz.underlying46 rfl (by kernel_rfl) p w
theorem fa46_4GrB (p : Addr) (w : World) : (Instr.fieldAt 46 (.pointer (some p)) 4).run Tryz.prog w = .ok (.pointer (some (p.add 4))) w := run_fieldAt (i := 4) (sz := 0) Tryz.underlying46 rfl (by kernel_rfl) p w
theorem fa46_5GrB (p : Addr) (w : World) : (Instr.fieldAt 46 (.pointer (some p)) 5).run Tryz.prog w = .ok (.pointer (some (p.add 5))) w := run_fieldAt (i := 5) (sz := 0) Tryz.underlying46 rfl (by kernel_rfl) p w
theorem fa79_1GrB (p : Addr) (w : World) : (Instr.fieldAt 79 (.pointer (some p)) 1).run Tryz.prog w = .ok (.pointer (some (p.add 2))) w := run_fieldAt (i := 1) (sz := 0) Tryz.underlying79 rfl (by kernel_rfl) p w
theorem fa79_2GrB (p : Addr) (w : World) : (Instr.fieldAt 79 (.pointer (some p)) 2).run Tryz.prog w = .ok (.pointer (some (p.add 3))) w := run_fieldAt (i := 2) (sz := 0) Tryz.underlying79 rfl (by kernel_rfl) p w
theorem one24GrB : One Tryz.prog 24 := ⟨_, Tryz.underlying24, rfl, by kernel_rfl⟩
theorem one25GrB : One Tryz.prog 25 := ⟨_, Tryz.underlying25, rfl, by kernel_rfl⟩
theorem one3GrB : One Tryz.prog 3 := ⟨_, Tryz.underlying3, rfl, by kernel_rfl⟩
theorem one40GrB : One Tryz.prog 40 := ⟨_, Tryz.underlying40, rfl, by kernel_rfl⟩
theorem one41GrB : One Tryz.prog 41 := ⟨_, Tryz.underlying41, rfl, by kernel_rfl⟩
theorem one48GrB : One Tryz.prog 48 := ⟨_, Tryz.underlying48, rfl, by kernel_rfl⟩
theorem one9GrB : One Tryz.prog 9 := ⟨_, Tryz.underlying9, rfl, by kernel_rfl⟩
theorem sz43GrB : (Tryz.prog.info? 43).map (·.size) = some 3 := by kernel_rfl
theorem sz46GrB : (Tryz.prog.info? 46).map (·.size) = some 6 := by kernel_rfl
theorem txt29GrB : Txt Tryz.prog 29 := ⟨_, Tryz.func29, by kernel_rfl, rfl⟩   -- bridleway/graph.indexed
theorem txt30GrB : Txt Tryz.prog 30 := ⟨_, Tryz.func30, by kernel_rfl, rfl⟩   -- bridleway/graph.element
theorem txt31GrB : Txt Tryz.prog 31 := ⟨_, Tryz.func31, by kernel_rfl, rfl⟩   -- (*bridleway/graph.Index).is
def nnames (g : GV) : List (List UInt8) := g.ns.map (·.n)
def enames (g : GV) : List (List UInt8) := g.es.map (·.n)
theorem nn_at {g : GV} {i : Nat} (hi : i < g.ns.length) : (nnames g).getD i [] = (g.ns.getD i nd0).n := by unfold nnames; rw [getD_at [] (by simpa using hi), getD_at nd0 hi, List.getElem_map]
theorem en_at {g : GV} {i : Nat} (hi : i < g.es.length) : (enames g).getD i [] = (g.es.getD i ed0).n := by unfold enames; rw [getD_at [] (by simpa using hi), getD_at ed0 hi, List.getElem_map]
theorem indexed_r (S : Nat → Prop) (A : Option Addr) (c : Nat) (B : Option Addr) (e : Nat) (g : GV) (w : World) (hG : GAt S w A c B e g) (hsz : szG g ≤ 1099511627776) :
    Ret Tryz.prog 29 [.agg #[.slice A g.ns.length c, .slice B g.es.length e]] w fun v w' => (∃ x m1 m2, v = .pointer (some ⟨x, 0, none⟩) ∧ Blk w' x 79 [.slice A g.ns.length c, .slice B g.es.length e, .map (some m1), .map (some m2), .slice none 0 0] ∧ Mp w' m1 (mapN (nnames g) g.ns.length) ∧ Mp w' m2 (mapN (enames g) g.es.length)) ∧ Below w.heap.size w w' := by
  have hnl := szG_nlen g
  have hel := szG_elen g
  have hb := Below.refl w.heap.size w
  have hG_hb := hG
  refine enter Tryz.func29 rfl rfl rfl <| Wc.seq fun _ hK_1 => Wc.region <| Wl.boxN rfl rfl ?_
  rintro g_o0 w_o0 hg_o0 hn_o0 hs_o0
  have hz_o0 := hs_o0.size
  have hb := hb.trans (hs_o0.mono hb.size)
  have hG := hG_hb.below hb
  have hB_o0 := hn_o0
  have hl_o0 := hB_o0.lt
  refine Wl.sg rfl rfl <| Wl.nil <| Wq.next hK_1 <| Wc.seq fun _ hK_4 => Wc.region <| Wl.l (l_loadS Tryz.underlying27 (by kernel_rfl) rfl (by exact fun j u hu => hB_o0.at hu)) rfl <| Wl.makeMap rfl ?_
  rintro g_o2 w_o2 hg_o2 hn_o2 hs_o2
  have hz_o2 := hs_o2.size
  have hb := hb.trans (hs_o2.mono hb.size)
  have hG := hG_hb.below hb
  have hB_o0 := Blk.below hB_o0 hs_o2
  have hM_o2 := hn_o2
  have hl_o2 := hM_o2.lt
  refine Wl.makeMap rfl ?_
  rintro g_o3 w_o3 hg_o3 hn_o3 hs_o3
  have hz_o3 := hs_o3.size
  have hb := hb.trans (hs_o3.mono hb.size)
  have hG := hG_hb.below hb
  have hB_o0 := Blk.below hB_o0 hs_o3
  have hM_o2 := Mp.below hM_o2 hs_o3
  have hM_o3 := hn_o3
  have hl_o3 := hM_o3.lt
  refine Wl.y (y_buildS (z := [(.slice none 0 0), (.slice none 0 0), (.map none), (.map none), (.slice none 0 0)]) (pl := [(0, 2), (2, 1), (3, 1), (4, 1)]) (cs := [_, _, _, _, _]) Tryz.underlying79 (by kernel_rfl) (by kernel_rfl) rfl rfl rfl) rfl <| Wl.boxN rfl rfl ?_
  rintro g_o5 w_o5 hg_o5 hn_o5 hs_o5
  have hz_o5 := hs_o5.size
  have hb := hb.trans (hs_o5.mono hb.size)
  have hG := hG_hb.below hb
  have hB_o0 := Blk.below hB_o0 hs_o5
  have hM_o2 := Mp.below hM_o2 hs_o5
  have hM_o3 := Mp.below hM_o3 hs_o5
  have hB_o5 := hn_o5
  have hl_o5 := hB_o5.lt
  refine Wl.sg rfl rfl <| Wl.nil <| Wq.next hK_4 <| Wc.seq fun _ hK_11 => Wc.seq fun _ hK_12 => Wc.region <| Wl.y (y_fieldAddr (fa27_0GrB _) rfl) rfl <| Wl.l (l_load one24GrB rfl (by exact hB_o0.at rfl)) rfl <| Wl.y (y_lenl Tryz.underlying24 (by omega) rfl) rfl <| Wl.mv rfl rfl <| Wl.nil <| Wq.next hK_12 <| Wc.block <| Wc.loop (X := Nat) (fun i => [(1, .pointer (some ⟨g_o0, 0, none⟩)), (3, .pointer (some ⟨g_o5, 0, none⟩)), (14, .slice A g.ns.length c), (15, .int .i64 (g.ns.length : Int)), (16, .int .i64 (i : Int))]) (fun i wr => i ≤ g.ns.length ∧ Below w.heap.size w wr ∧ Blk wr g_o0 27 [.slice A g.ns.length c, .slice B g.es.length e] ∧ Blk wr g_o5 79 [.slice A g.ns.length c, .slice B g.es.length e, .map (some g_o2), .map (some g_o3), .slice none 0 0] ∧ Mp wr g_o2 (mapN (nnames g) i) ∧ Mp wr g_o3 []) (fun i => g.ns.length - i) (0) ?_ ?_ ?_
  · exact by repeat first | exact Sub.nil | refine Sub.cons' rfl (by first | rfl | exact int_eq (by omega) | exact int_eq (by simp) | (simp; done)) ?_
  · exact ⟨by omega, hb, hB_o0, hB_o5, hM_o2, hM_o3⟩
  rintro i wr hI_18 _ hL_17
  replace hI_18 : i ≤ g.ns.length ∧ Below w.heap.size w wr ∧ Blk wr g_o0 27 [.slice A g.ns.length c, .slice B g.es.length e] ∧ Blk wr g_o5 79 [.slice A g.ns.length c, .slice B g.es.length e, .map (some g_o2), .map (some g_o3), .slice none 0 0] ∧ Mp wr g_o2 (mapN (nnames g) i) ∧ Mp wr g_o3 [] := hI_18
  obtain ⟨hi, hb, hB_o0, hB_o5, hM_o2, hM_o3⟩ := hI_18
  show Wc _ _ _ _ _ [(1, .pointer (some ⟨g_o0, 0, none⟩)), (3, .pointer (some ⟨g_o5, 0, none⟩)), (14, .slice A g.ns.length c), (15, .int .i64 (g.ns.length : Int)), (16, .int .i64 (i : Int))] _
  have hG := hG_hb.below hb
  have hzhb_L0 := hb.size
  have hlhB_o0_L0 := hB_o0.lt
  have hlhB_o5_L0 := hB_o5.lt
  have hlhM_o3_L0 := hM_o3.lt
  have hlhM_o2_L0 := hM_o2.lt
  refine Wc.seq fun _ hK_19 => Wc.region <| Wl.y (y_lssi rfl rfl) rfl <| Wl.nil <| Wq.next hK_19 <| Wc.seq fun _ hK_21 => Wc.cond rfl (fun c0_22 => ?_) (fun c0_22 => ?_)
  ·
   have c0_22_ := c0_22
   simp only [DZ] at c0_22
   have hil : i < g.ns.length := by have := c0_22; omega
   obtain ⟨p_, cs_, hpe, hcl, hcell, hQ⟩ := hG.rn i hil
   obtain ⟨A1, c1, B1, e1, rfl, hN⟩ := hQ
   subst hpe
   refine Wc.skip <| Wq.next hK_21 <| Wc.seq fun _ hK_23 => Wc.block <| Wc.seq fun _ hK_24 => Wc.region <| Wl.mv rfl rfl <| Wl.y (y_indexAddr Tryz.underlying24 sz43GrB rfl rfl (by omega) (by omega)) rfl <| Wl.l (l_loadS Tryz.underlying43 (by kernel_rfl) rfl (by exact at5 hcell)) rfl <| Wl.allocN (z := (.agg #[(str []), (.slice none 0 0), (.slice none 0 0)])) (by kernel_rfl) rfl ?_
   rintro g_o11 w_o11 hg_o11 hn_o11 hs_o11
   have hz_o11 := hs_o11.size
   have hb := hb.trans (hs_o11.mono hb.size)
   have hG := hG_hb.below hb
   have hB_o0 := Blk.below hB_o0 hs_o11
   have hB_o5 := Blk.below hB_o5 hs_o11
   have hM_o3 := Mp.below hM_o3 hs_o11
   have hM_o2 := Mp.below hM_o2 hs_o11
   have hB_o11 := hn_o11
   have hl_o11 := hB_o11.lt
   refine Wl.sg rfl rfl <| Wl.storeS (by kernel_rfl) rfl rfl hB_o11 rfl rfl ?_
   rintro w_s0 hn_s0 hg_s0
   have hz_s0 := hg_s0.size
   have hb := below_blk hb hg_s0 hb.size (by omega)
   have hG := hG_hb.below hb
   have hB_o0 := hB_o0.over hg_s0 (by omega)
   have hB_o5 := hB_o5.over hg_s0 (by omega)
   have hM_o3 := hM_o3.over hg_s0 (by omega)
   have hM_o2 := hM_o2.over hg_s0 (by omega)
   have hB_o11 := hn_s0
   refine Wl.nil <| Wq.next hK_24 <| Wc.any (n := 8) (fun w' => Below w.heap.size w w' ∧ Blk w' g_o5 79 [.slice (some p_) g.ns.length c, .slice B g.es.length e, .map (some g_o2), .map (some g_o3), .slice none 0 0] ∧ Blk w' g_o11 43 [str (g.ns.getD i nd0).n, .slice A1 (g.ns.getD i nd0).ls.length c1, .slice B1 (g.ns.getD i nd0).ps.length e1]) #[false, false, false, false, false, false, false, false] (by kernel_rfl) rfl (by kernel_rfl) <| Wa.drew ?_
   rintro w_g5 hs_g5
   have hz_g5 := hs_g5.size
   have hb := hb.trans (hs_g5.mono hb.size)
   have hG := hG_hb.below hb
   have hB_o0 := Blk.below hB_o0 hs_g5
   have hB_o5 := Blk.below hB_o5 hs_g5
   have hM_o3 := Mp.below hM_o3 hs_g5
   have hM_o2 := Mp.below hM_o2 hs_g5
   have hB_o11 := Blk.below hB_o11 hs_g5
   refine Wa.take (i := 0) #[true, false, false, false, false, false, false, false] rfl (by kernel_rfl) (fun _ _ _ h => h) rfl (fun wq hq => Yl.ld (y_move rfl)) ⟨hb, hB_o5, hB_o11⟩ <| Wa.take (i := 1) #[true, true, false, false, false, false, false, false] rfl (by kernel_rfl) (fun _ _ _ h => h) rfl (fun wq hq => Yl.ld (y_nilCheck rfl)) ⟨hb, hB_o5, hB_o11⟩ <| Wa.take (i := 2) #[true, true, true, false, false, false, false, false] rfl (by kernel_rfl) (fun _ _ _ h => h) rfl (fun wq hq => Yl.ld (y_fieldAddr (fa79_1GrB _) rfl)) ⟨hb, hB_o5, hB_o11⟩ <| Wa.take (i := 3) #[true, true, true, true, false, false, false, false] rfl (by kernel_rfl) (fun _ _ _ h => h) rfl (fun wq hq => l_load one48GrB rfl (by obtain ⟨hq, hB_o5, hB_o11⟩ := hq; exact hB_o5.at (j := 2) rfl)) ⟨hb, hB_o5, hB_o11⟩ <| Wa.take (i := 4) #[true, true, true, true, true, false, false, false] rfl (by kernel_rfl) (fun _ _ _ h => h) rfl (fun wq hq => Yl.ld (y_fieldAddr (fa43_0GrB _) rfl)) ⟨hb, hB_o5, hB_o11⟩ <| Wa.take (i := 5) #[true, true, true, true, true, true, false, false] rfl (by kernel_rfl) (fun _ _ _ h => h) rfl (fun wq hq => l_load one9GrB rfl (by obtain ⟨hq, hB_o5, hB_o11⟩ := hq; exact hB_o11.at (j := 0) rfl)) ⟨hb, hB_o5, hB_o11⟩ <| Wa.take (i := 6) #[true, true, true, true, true, true, true, false] rfl (by kernel_rfl) (fun _ _ _ h => h) rfl (fun wq hq => Yl.ld (y_move rfl)) ⟨hb, hB_o5, hB_o11⟩ <| Wa.some (rs := [7]) (by kernel_rfl) rfl <| Ws.cons #[true, true, true, true, true, true, true, true] rfl rfl (fun _ hK_37 => ?_) ?_
   ·
    refine Wl.mput Tryz.underlying48 Tryz.underlying9 rfl rfl rfl hM_o2 ?_
    rintro w_o18 hn_o18 hg_o18
    have hz_o18 := hg_o18.size
    have hb := below_blk hb hg_o18 hb.size (by omega)
    have hG := hG_hb.below hb
    have hB_o0 := hB_o0.over hg_o18 (by omega)
    have hB_o5 := hB_o5.over hg_o18 (by omega)
    have hM_o3 := hM_o3.over hg_o18 (by omega)
    have hB_o11 := hB_o11.over hg_o18 (by omega)
    have hM_o2 := hn_o18
    refine Wl.nil <| Wq.back hK_37 ⟨hb, hB_o5, hB_o11⟩ <| Wa.done (by kernel_rfl) <| Wq.block_normal <| Wq.next hK_23 <| Wc.region <| Wl.y (y_addI rfl rfl (by omega) (by omega)) rfl <| Wl.mv rfl rfl <| Wl.nil <| fun a_ ha_ => hL_17 _ _ (i + 1) (by omega) (by repeat first | exact Sub.nil | refine Sub.cons' rfl (by first | rfl | exact int_eq (by omega) | exact int_eq (by simp) | (simp; done)) ?_) ?_ a_ ha_
    exact ⟨by omega, hb, hB_o0, hB_o5, by unfold mapN; rw [nn_at hil]; exact hM_o2, hM_o3⟩
   exact Ws.nil
  have c0_22_ := c0_22
  simp only [DZ] at c0_22
  have hie : i = g.ns.length := by have := c0_22; omega
  refine Wc.exit <| Wq.then_exit <| Wq.then_exit <| Wq.block_exit <| Wq.next hK_11 <| Wc.seq fun _ hK_40 => Wc.seq fun _ hK_41 => Wc.region <| Wl.y (y_fieldAddr (fa27_1GrB _) rfl) rfl <| Wl.l (l_load one25GrB rfl (by exact hB_o0.at rfl)) rfl <| Wl.y (y_lenl Tryz.underlying25 (by omega) rfl) rfl <| Wl.mv rfl rfl <| Wl.nil <| Wq.next hK_41 <| Wc.block <| Wc.loop (X := Nat) (fun i => [(3, .pointer (some ⟨g_o5, 0, none⟩)), (30, .slice B g.es.length e), (31, .int .i64 (g.es.length : Int)), (32, .int .i64 (i : Int))]) (fun i wr => i ≤ g.es.length ∧ Below w.heap.size w wr ∧ Blk wr g_o5 79 [.slice A g.ns.length c, .slice B g.es.length e, .map (some g_o2), .map (some g_o3), .slice none 0 0] ∧ Mp wr g_o2 (mapN (nnames g) g.ns.length) ∧ Mp wr g_o3 (mapN (enames g) i)) (fun i => g.es.length - i) (0) ?_ ?_ ?_
  · exact by repeat first | exact Sub.nil | refine Sub.cons' rfl (by first | rfl | exact int_eq (by omega) | exact int_eq (by simp) | (simp; done)) ?_
  · exact ⟨by omega, hb, hB_o5, hie ▸ hM_o2, hM_o3⟩
  rintro i wr hI_47 _ hL_46
  replace hI_47 : i ≤ g.es.length ∧ Below w.heap.size w wr ∧ Blk wr g_o5 79 [.slice A g.ns.length c, .slice B g.es.length e, .map (some g_o2), .map (some g_o3), .slice none 0 0] ∧ Mp wr g_o2 (mapN (nnames g) g.ns.length) ∧ Mp wr g_o3 (mapN (enames g) i) := hI_47
  obtain ⟨hi, hb, hB_o5, hM_o2, hM_o3⟩ := hI_47
  show Wc _ _ _ _ _ [(3, .pointer (some ⟨g_o5, 0, none⟩)), (30, .slice B g.es.length e), (31, .int .i64 (g.es.length : Int)), (32, .int .i64 (i : Int))] _
  have hG := hG_hb.below hb
  have hzhb_L1 := hb.size
  have hlhB_o5_L1 := hB_o5.lt
  have hlhM_o2_L1 := hM_o2.lt
  have hlhM_o3_L1 := hM_o3.lt
  refine Wc.seq fun _ hK_48 => Wc.region <| Wl.y (y_lssi rfl rfl) rfl <| Wl.nil <| Wq.next hK_48 <| Wc.seq fun _ hK_50 => Wc.cond rfl (fun c1_51 => ?_) (fun c1_51 => ?_)
  ·
   have c1_51_ := c1_51
   simp only [DZ] at c1_51
   have hil : i < g.es.length := by have := c1_51; omega
   obtain ⟨p_, cs_, hpe, hcl, hcell, hQ⟩ := hG.re i hil
   obtain ⟨A1, c1, B1, e1, rfl, hN⟩ := hQ
   subst hpe
   refine Wc.skip <| Wq.next hK_50 <| Wc.seq fun _ hK_52 => Wc.block <| Wc.seq fun _ hK_53 => Wc.region <| Wl.mv rfl rfl <| Wl.y (y_indexAddr Tryz.underlying25 sz46GrB rfl rfl (by omega) (by omega)) rfl <| Wl.l (l_loadS Tryz.underlying46 (by kernel_rfl) rfl (by exact at5 hcell)) rfl <| Wl.allocN (z := (.agg #[(str []), (.int .i64 0), (.int .i64 0), (.bool false), (.slice none 0 0), (.slice none 0 0)])) (by kernel_rfl) rfl ?_
   rintro g_o25 w_o25 hg_o25 hn_o25 hs_o25
   have hz_o25 := hs_o25.size
   have hb := hb.trans (hs_o25.mono hb.size)
   have hG := hG_hb.below hb
   have hB_o5 := Blk.below hB_o5 hs_o25
   have hM_o2 := Mp.below hM_o2 hs_o25
   have hM_o3 := Mp.below hM_o3 hs_o25
   have hB_o25 := hn_o25
   have hl_o25 := hB_o25.lt
   refine Wl.sg rfl rfl <| Wl.storeS (by kernel_rfl) rfl rfl hB_o25 rfl rfl ?_
   rintro w_s1 hn_s1 hg_s1
   have hz_s1 := hg_s1.size
   have hb := below_blk hb hg_s1 hb.size (by omega)
   have hG := hG_hb.below hb
   have hB_o5 := hB_o5.over hg_s1 (by omega)
   have hM_o2 := hM_o2.over hg_s1 (by omega)
   have hM_o3 := hM_o3.over hg_s1 (by omega)
   have hB_o25 := hn_s1
   refine Wl.nil <| Wq.next hK_53 <| Wc.any (n := 8) (fun w' => Below w.heap.size w w' ∧ Blk w' g_o5 79 [.slice A g.ns.length c, .slice (some p_) g.es.length e, .map (some g_o2), .map (some g_o3), .slice none 0 0] ∧ Blk w' g_o25 46 [str (g.es.getD i ed0).n, .int .i64 (g.es.getD i ed0).fr, .int .i64 (g.es.getD i ed0).tw, .bool (g.es.getD i ed0).dir, .slice A1 (g.es.getD i ed0).ls.length c1, .slice B1 (g.es.getD i ed0).ps.length e1]) #[false, false, false, false, false, false, false, false] (by kernel_rfl) rfl (by kernel_rfl) <| Wa.drew ?_
   rintro w_g10 hs_g10
   have hz_g10 := hs_g10.size
   have hb := hb.trans (hs_g10.mono hb.size)
   have hG := hG_hb.below hb
   have hB_o5 := Blk.below hB_o5 hs_g10
   have hM_o2 := Mp.below hM_o2 hs_g10
   have hM_o3 := Mp.below hM_o3 hs_g10
   have hB_o25 := Blk.below hB_o25 hs_g10
   refine Wa.take (i := 0) #[true, false, false, false, false, false, false, false] rfl (by kernel_rfl) (fun _ _ _ h => h) rfl (fun wq hq => Yl.ld (y_move rfl)) ⟨hb, hB_o5, hB_o25⟩ <| Wa.take (i := 1) #[true, true, false, false, false, false, false, false] rfl (by kernel_rfl) (fun _ _ _ h => h) rfl (fun wq hq => Yl.ld (y_nilCheck rfl)) ⟨hb, hB_o5, hB_o25⟩ <| Wa.take (i := 2) #[true, true, true, false, false, false, false, false] rfl (by kernel_rfl) (fun _ _ _ h => h) rfl (fun wq hq => Yl.ld (y_fieldAddr (fa79_2GrB _) rfl)) ⟨hb, hB_o5, hB_o25⟩ <| Wa.take (i := 3) #[true, true, true, true, false, false, false, false] rfl (by kernel_rfl) (fun _ _ _ h => h) rfl (fun wq hq => l_load one48GrB rfl (by obtain ⟨hq, hB_o5, hB_o25⟩ := hq; exact hB_o5.at (j := 3) rfl)) ⟨hb, hB_o5, hB_o25⟩ <| Wa.take (i := 4) #[true, true, true, true, true, false, false, false] rfl (by kernel_rfl) (fun _ _ _ h => h) rfl (fun wq hq => Yl.ld (y_fieldAddr (fa46_0GrB _) rfl)) ⟨hb, hB_o5, hB_o25⟩ <| Wa.take (i := 5) #[true, true, true, true, true, true, false, false] rfl (by kernel_rfl) (fun _ _ _ h => h) rfl (fun wq hq => l_load one9GrB rfl (by obtain ⟨hq, hB_o5, hB_o25⟩ := hq; exact hB_o25.at (j := 0) rfl)) ⟨hb, hB_o5, hB_o25⟩ <| Wa.take (i := 6) #[true, true, true, true, true, true, true, false] rfl (by kernel_rfl) (fun _ _ _ h => h) rfl (fun wq hq => Yl.ld (y_move rfl)) ⟨hb, hB_o5, hB_o25⟩ <| Wa.some (rs := [7]) (by kernel_rfl) rfl <| Ws.cons #[true, true, true, true, true, true, true, true] rfl rfl (fun _ hK_66 => ?_) ?_
   ·
    refine Wl.mput Tryz.underlying48 Tryz.underlying9 rfl rfl rfl hM_o3 ?_
    rintro w_o32 hn_o32 hg_o32
    have hz_o32 := hg_o32.size
    have hb := below_blk hb hg_o32 hb.size (by omega)
    have hG := hG_hb.below hb
    have hB_o5 := hB_o5.over hg_o32 (by omega)
    have hM_o2 := hM_o2.over hg_o32 (by omega)
    have hB_o25 := hB_o25.over hg_o32 (by omega)
    have hM_o3 := hn_o32
    refine Wl.nil <| Wq.back hK_66 ⟨hb, hB_o5, hB_o25⟩ <| Wa.done (by kernel_rfl) <| Wq.block_normal <| Wq.next hK_52 <| Wc.region <| Wl.y (y_addI rfl rfl (by omega) (by omega)) rfl <| Wl.mv rfl rfl <| Wl.nil <| fun a_ ha_ => hL_46 _ _ (i + 1) (by omega) (by repeat first | exact Sub.nil | refine Sub.cons' rfl (by first | rfl | exact int_eq (by omega) | exact int_eq (by simp) | (simp; done)) ?_) ?_ a_ ha_
    exact ⟨by omega, hb, hB_o5, hM_o2, by unfold mapN; rw [en_at hil]; exact hM_o3⟩
   exact Ws.nil
  have c1_51_ := c1_51
  simp only [DZ] at c1_51
  have hie : i = g.es.length := by have := c1_51; omega
  refine Wc.exit <| Wq.then_exit <| Wq.then_exit <| Wq.block_exit <| Wq.next hK_40 <| Wc.seq fun _ hK_69 => Wc.region <| Wl.mv rfl rfl <| Wl.sg rfl rfl <| Wl.nil <| Wq.next hK_69 <| Wc.ret <| ret1 rfl rfl ?_
  exact ⟨_, rfl, ⟨_, _, _, rfl, hB_o5, hM_o2, hie ▸ hM_o3⟩, hb⟩
theorem eqN (a b : Nat) : ((a : Int) == (b : Int)) = decide (a = b) := by rw [Bool.eq_iff_iff, beq_iff_eq, decide_eq_true_eq]; omega
theorem GRight_r (S : Nat → Prop) (A : Option Addr) (c : Nat) (B : Option Addr) (e : Nat) (g : GV) (w : World) (hG : GAt S w A c B e g) (hsz : szG g ≤ 1099511627776) :
    Ret Tryz.prog 12 [.agg #[.slice A g.ns.length c, .slice B g.es.length e]] w fun v w' => v = .int .i64 (rightG g) ∧ Below w.heap.size w w' := by
  have hnl := szG_nlen g
  have hel := szG_elen g
  have hdn : distinct (g.ns.map (·.n)) = decide ((mapN (nnames g) g.ns.length).length = g.ns.length) := by unfold distinct nnames; rw [List.length_map]
  have hde : distinct (g.es.map (·.n)) = decide ((mapN (enames g) g.es.length).length = g.es.length) := by unfold distinct enames; rw [List.length_map]
  have hb := Below.refl w.heap.size w
  have hG_hb := hG
  refine enter Tryz.func12 rfl rfl rfl <| Wc.seq fun _ hK_1 => Wc.region <| Wl.boxN rfl rfl ?_
  rintro g_o0 w_o0 hg_o0 hn_o0 hs_o0
  have hz_o0 := hs_o0.size
  have hb := hb.trans (hs_o0.mono hb.size)
  have hG := hG_hb.below hb
  have hB_o0 := hn_o0
  have hl_o0 := hB_o0.lt
  refine Wl.sg rfl rfl <| Wl.nil <| Wq.next hK_1 <| Wc.seq fun _ hK_4 => Wc.seq fun _ hK_5 => Wc.meet (X := Bool) (fun q => [(1, .pointer (some ⟨g_o0, 0, none⟩)), (18, .bool q)]) (fun q wr => q = decide (1000 < g.ns.length ∨ 1000 < g.es.length) ∧ Below w.heap.size w wr ∧ Blk wr g_o0 27 [.slice A g.ns.length c, .slice B g.es.length e]) (fun _ hM_6 => ?_) ?_
  ·
   refine Wc.region <| Wl.y (y_fieldAddr (fa27_0GrB _) rfl) rfl <| Wl.l (l_load one24GrB rfl (by exact hB_o0.at (j := 0) rfl)) rfl <| Wl.y (y_lenl Tryz.underlying24 (by omega) rfl) rfl <| Wl.y (y_gtri rfl rfl) rfl <| Wl.mv rfl rfl <| Wl.guardF rfl rfl rfl (fun g_12 => ?_) (fun g_12 => ?_)
   ·
    have g_12_ := g_12
    simp only [DZ] at g_12
    refine Wl.off' rfl rfl g_12_ rfl rfl <| Wl.off' rfl rfl g_12_ rfl rfl <| Wl.off' rfl rfl g_12_ rfl rfl <| Wl.y (y_pickT rfl g_12_ rfl) rfl <| Wl.nil <| Wq.meet hM_6 (decide (1000 < g.ns.length ∨ 1000 < g.es.length)) (by repeat first | exact Sub.nil | refine Sub.cons' rfl (by first | rfl | exact bool_eq (by rw [Bool.eq_iff_iff]; simp; omega)) ?_) ?_
    exact ⟨rfl, hb, hB_o0⟩
   have g_12_ := g_12
   simp only [DZ] at g_12
   refine Wl.y (y_fieldAddr (fa27_1GrB _) rfl) rfl <| Wl.on' rfl rfl g_12_ <| Wl.l (l_load one25GrB rfl (by exact hB_o0.at (j := 1) rfl)) rfl <| Wl.on' rfl rfl g_12_ <| Wl.y (y_lenl Tryz.underlying25 (by omega) rfl) rfl <| Wl.on' rfl rfl g_12_ <| Wl.y (y_gtri rfl rfl) rfl <| Wl.y (y_pickF rfl g_12_ rfl) rfl <| Wl.nil <| Wq.meet hM_6 (decide (1000 < g.ns.length ∨ 1000 < g.es.length)) (by repeat first | exact Sub.nil | refine Sub.cons' rfl (by first | rfl | exact bool_eq (by rw [Bool.eq_iff_iff]; simp; omega)) ?_) ?_
   exact ⟨rfl, hb, hB_o0⟩
  rintro q wr hI_19
  replace hI_19 : q = decide (1000 < g.ns.length ∨ 1000 < g.es.length) ∧ Below w.heap.size w wr ∧ Blk wr g_o0 27 [.slice A g.ns.length c, .slice B g.es.length e] := hI_19
  obtain ⟨hq1, hb, hB_o0⟩ := hI_19
  show Wq _ _ _ _ [(1, .pointer (some ⟨g_o0, 0, none⟩)), (18, .bool q)] _
  have hG := hG_hb.below hb
  have hzhb_g1 := hb.size
  have hlhB_o0_g1 := hB_o0.lt
  refine Wq.next hK_5 <| Wc.cond rfl (fun c0_20 => ?_) (fun c0_20 => ?_)
  ·
   have c0_20_ := c0_20
   have hbig : 1000 < g.ns.length ∨ 1000 < g.es.length := by have h := c0_20_; rw [hq1] at h; exact of_decide_eq_true h
   refine Wc.seq fun _ hK_21 => Wc.region <| Wl.sg rfl rfl <| Wl.nil <| Wq.next hK_21 <| Wc.ret <| Wq.then_ret <| ret1 rfl rfl ?_
   exact ⟨_, rfl, int_eq (by unfold rightG; rw [if_pos hbig]), hb⟩
  have c0_20_ := c0_20
  have hsmall : ¬ (1000 < g.ns.length ∨ 1000 < g.es.length) := by have h := c0_20_; rw [hq1] at h; exact of_decide_eq_false h
  refine Wc.skip <| Wq.next hK_4 <| Wc.seq fun _ hK_23 => Wc.region <| Wl.l (l_loadS Tryz.underlying27 (by kernel_rfl) rfl (by exact fun j u hu => hB_o0.at hu)) rfl <| Wl.call txt29GrB rfl rfl (indexed_r S A c B e g _ hG hsz) rfl ?_
  rintro _ w_k0 ⟨⟨x, m1, m2, rfl, hB_k, hM_1, hM_2⟩, hs_k0⟩
  have hz_k0 := hs_k0.size
  have hb := hb.trans (hs_k0.mono hb.size)
  have hG := hG_hb.below hb
  have hB_o0 := Blk.below hB_o0 hs_k0
  refine Wl.sg rfl rfl <| Wl.nil <| Wq.next hK_23 <| Wc.seq fun _ hK_27 => Wc.meet (X := Bool) (fun q => [(1, .pointer (some ⟨g_o0, 0, none⟩)), (3, .pointer (some ⟨x, 0, none⟩)), (4, .bool q)]) (fun q wr => q = (distinct (g.ns.map (·.n)) && distinct (g.es.map (·.n))) ∧ Below w.heap.size w wr ∧ Blk wr g_o0 27 [.slice A g.ns.length c, .slice B g.es.length e] ∧ Blk wr x 79 [.slice A g.ns.length c, .slice B g.es.length e, .map (some m1), .map (some m2), .slice none 0 0]) (fun _ hM_28 => ?_) ?_
  ·
   refine Wc.quiet (by kernel_rfl) (by kernel_rfl) <| Wy.y (y_move rfl) rfl <| Wy.y (y_nilCheck rfl) rfl <| Wy.y (y_fieldAddr (fa79_1GrB _) rfl) rfl <| Wy.l (fun wq hq => l_load one48GrB rfl (by have hG := hG.below hq; have hB_o0 := Blk.below hB_o0 hq; have hB_k := Blk.below hB_k hq; have hM_1 := Mp.below hM_1 hq; have hM_2 := Mp.below hM_2 hq; exact hB_k.at (j := 2) rfl)) rfl <| Wy.l (fun wq hq => l_lenm Tryz.underlying48 rfl (by have hG := hG.below hq; have hB_o0 := Blk.below hB_o0 hq; have hB_k := Blk.below hB_k hq; have hM_1 := Mp.below hM_1 hq; have hM_2 := Mp.below hM_2 hq; exact hM_1)) rfl <| Wy.y (y_fieldAddr (fa27_0GrB _) rfl) rfl <| Wy.l (fun wq hq => l_load one24GrB rfl (by have hG := hG.below hq; have hB_o0 := Blk.below hB_o0 hq; have hB_k := Blk.below hB_k hq; have hM_1 := Mp.below hM_1 hq; have hM_2 := Mp.below hM_2 hq; exact hB_o0.at (j := 0) rfl)) rfl <| Wy.y (y_lenl Tryz.underlying24 (by omega) rfl) rfl <| Wy.y (y_eqli rfl rfl) rfl <| Wy.y (y_move rfl) rfl <| Wy.guardT rfl rfl rfl (fun g_39 => ?_) (fun g_39 => ?_)
   ·
    have g_39_ := g_39
    simp only [DZ] at g_39
    refine Wy.y (y_move rfl) rfl <| Wy.on' rfl rfl g_39_ <| Wy.y (y_nilCheck rfl) rfl <| Wy.on' rfl rfl g_39_ <| Wy.y (y_fieldAddr (fa79_2GrB _) rfl) rfl <| Wy.on' rfl rfl g_39_ <| Wy.l (fun wq hq => l_load one48GrB rfl (by have hG := hG.below hq; have hB_o0 := Blk.below hB_o0 hq; have hB_k := Blk.below hB_k hq; have hM_1 := Mp.below hM_1 hq; have hM_2 := Mp.below hM_2 hq; exact hB_k.at (j := 3) rfl)) rfl <| Wy.on' rfl rfl g_39_ <| Wy.l (fun wq hq => l_lenm Tryz.underlying48 rfl (by have hG := hG.below hq; have hB_o0 := Blk.below hB_o0 hq; have hB_k := Blk.below hB_k hq; have hM_1 := Mp.below hM_1 hq; have hM_2 := Mp.below hM_2 hq; exact hM_2)) rfl <| Wy.on' rfl rfl g_39_ <| Wy.y (y_fieldAddr (fa27_1GrB _) rfl) rfl <| Wy.on' rfl rfl g_39_ <| Wy.l (fun wq hq => l_load one25GrB rfl (by have hG := hG.below hq; have hB_o0 := Blk.below hB_o0 hq; have hB_k := Blk.below hB_k hq; have hM_1 := Mp.below hM_1 hq; have hM_2 := Mp.below hM_2 hq; exact hB_o0.at (j := 1) rfl)) rfl <| Wy.on' rfl rfl g_39_ <| Wy.y (y_lenl Tryz.underlying25 (by omega) rfl) rfl <| Wy.on' rfl rfl g_39_ <| Wy.y (y_eqli rfl rfl) rfl <| Wy.y (y_pickT rfl g_39_ rfl) rfl <| Wy.y (y_assign rfl) rfl <| Wy.nil fun w_g4 hs_g4 => ?_
    have hz_g4 := hs_g4.size
    have hb := hb.trans (hs_g4.mono hb.size)
    have hG := hG_hb.below hb
    have hB_o0 := Blk.below hB_o0 hs_g4
    have hB_k := Blk.below hB_k hs_g4
    refine Wq.meet hM_28 (distinct (g.ns.map (·.n)) && distinct (g.es.map (·.n))) (by repeat first | exact Sub.nil | refine Sub.cons' rfl (by first | rfl | exact bool_eq (by rw [hdn, hde, ← eqN, ← eqN, g_39_]; rfl)) ?_) ?_
    exact ⟨rfl, hb, hB_o0, hB_k⟩
   have g_39_ := g_39
   simp only [DZ] at g_39
   refine Wy.off' rfl rfl g_39_ rfl rfl <| Wy.off' rfl rfl g_39_ rfl rfl <| Wy.off' rfl rfl g_39_ rfl rfl <| Wy.off' rfl rfl g_39_ rfl rfl <| Wy.off' rfl rfl g_39_ rfl rfl <| Wy.off' rfl rfl g_39_ rfl rfl <| Wy.off' rfl rfl g_39_ rfl rfl <| Wy.off' rfl rfl g_39_ rfl rfl <| Wy.y (y_pickF rfl g_39_ rfl) rfl <| Wy.y (y_assign rfl) rfl <| Wy.nil fun w_g4 hs_g4 => ?_
   have hz_g4 := hs_g4.size
   have hb := hb.trans (hs_g4.mono hb.size)
   have hG := hG_hb.below hb
   have hB_o0 := Blk.below hB_o0 hs_g4
   have hB_k := Blk.below hB_k hs_g4
   refine Wq.meet hM_28 (distinct (g.ns.map (·.n)) && distinct (g.es.map (·.n))) (by repeat first | exact Sub.nil | refine Sub.cons' rfl (by first | rfl | exact bool_eq (by rw [hdn, hde, ← eqN, ← eqN, g_39_]; rfl)) ?_) ?_
   exact ⟨rfl, hb, hB_o0, hB_k⟩
  rintro q wr hI_53
  replace hI_53 : q = (distinct (g.ns.map (·.n)) && distinct (g.es.map (·.n))) ∧ Below w.heap.size w wr ∧ Blk wr g_o0 27 [.slice A g.ns.length c, .slice B g.es.length e] ∧ Blk wr x 79 [.slice A g.ns.length c, .slice B g.es.length e, .map (some m1), .map (some m2), .slice none 0 0] := hI_53
  obtain ⟨hq2, hb, hB_o0, hB_k⟩ := hI_53
  show Wq _ _ _ _ [(1, .pointer (some ⟨g_o0, 0, none⟩)), (3, .pointer (some ⟨x, 0, none⟩)), (4, .bool q)] _
  have hG := hG_hb.below hb
  have hzhb_g4 := hb.size
  have hlhB_o0_g4 := hB_o0.lt
  have hlhB_k_g4 := hB_k.lt
  refine Wq.next hK_27 <| Wc.seq fun _ hK_54 => Wc.seq fun _ hK_55 => Wc.region <| Wl.y (y_fieldAddr (fa27_0GrB _) rfl) rfl <| Wl.l (l_load one24GrB rfl (by exact hB_o0.at (j := 0) rfl)) rfl <| Wl.y (y_lenl Tryz.underlying24 (by omega) rfl) rfl <| Wl.mv rfl rfl <| Wl.nil <| Wq.next hK_55 <| Wc.block <| Wc.loop (X := Nat × Bool) (fun (i, q) => [(1, .pointer (some ⟨g_o0, 0, none⟩)), (3, .pointer (some ⟨x, 0, none⟩)), (4, .bool q), (42, .slice A g.ns.length c), (43, .int .i64 (g.ns.length : Int)), (44, .int .i64 (i : Int))]) (fun (i, q) wr => i ≤ g.ns.length ∧ q = (distinct (g.ns.map (·.n)) && distinct (g.es.map (·.n)) && allN i (fun i => nodeV (g.ns.getD i nd0))) ∧ Below w.heap.size w wr ∧ Blk wr g_o0 27 [.slice A g.ns.length c, .slice B g.es.length e] ∧ Blk wr x 79 [.slice A g.ns.length c, .slice B g.es.length e, .map (some m1), .map (some m2), .slice none 0 0]) (fun (i, q) => g.ns.length - i) (⟨0, q⟩) ?_ ?_ ?_
  · exact by repeat first | exact Sub.nil | refine Sub.cons' rfl (by first | rfl | exact int_eq (by omega) | exact int_eq (by simp) | (simp; done)) ?_
  · exact ⟨by omega, by rw [hq2]; simp [allN], hb, hB_o0, hB_k⟩
  rintro ⟨i, q⟩ wr hI_61 _ hL_60
  replace hI_61 : i ≤ g.ns.length ∧ q = (distinct (g.ns.map (·.n)) && distinct (g.es.map (·.n)) && allN i (fun i => nodeV (g.ns.getD i nd0))) ∧ Below w.heap.size w wr ∧ Blk wr g_o0 27 [.slice A g.ns.length c, .slice B g.es.length e] ∧ Blk wr x 79 [.slice A g.ns.length c, .slice B g.es.length e, .map (some m1), .map (some m2), .slice none 0 0] := hI_61
  obtain ⟨hi, hq3, hb, hB_o0, hB_k⟩ := hI_61
  show Wc _ _ _ _ _ [(1, .pointer (some ⟨g_o0, 0, none⟩)), (3, .pointer (some ⟨x, 0, none⟩)), (4, .bool q), (42, .slice A g.ns.length c), (43, .int .i64 (g.ns.length : Int)), (44, .int .i64 (i : Int))] _
  have hG := hG_hb.below hb
  have hzhb_L0 := hb.size
  have hlhB_o0_L0 := hB_o0.lt
  have hlhB_k_L0 := hB_k.lt
  refine Wc.seq fun _ hK_62 => Wc.region <| Wl.y (y_lssi rfl rfl) rfl <| Wl.nil <| Wq.next hK_62 <| Wc.seq fun _ hK_64 => Wc.cond rfl (fun c1_65 => ?_) (fun c1_65 => ?_)
  ·
   have c1_65_ := c1_65
   simp only [DZ] at c1_65
   have hil : i < g.ns.length := by have := c1_65; omega
   obtain ⟨p_, cs_, hpe, hcl, hcell, hQ⟩ := hG.rn i hil
   obtain ⟨A1, c1, B1, e1, rfl, hN⟩ := hQ
   have hszn := szG_n hil
   have hokn := oks_at (f := fun d : ND => d.ps) hG.oks nd0 hil
   subst hpe
   refine Wc.skip <| Wq.next hK_64 <| Wc.seq fun _ hK_66 => Wc.block <| Wc.seq fun _ hK_67 => ?_
   have hbN := Below.refl wr.heap.size wr
   have hN_hbN := hN
   refine Wc.region <| Wl.y (y_indexAddr Tryz.underlying24 sz43GrB rfl rfl (by omega) (by omega)) rfl <| Wl.l (l_loadS Tryz.underlying43 (by kernel_rfl) rfl (by exact at5 hcell)) rfl <| Wl.allocN (z := (.agg #[(str []), (.slice none 0 0), (.slice none 0 0)])) (by kernel_rfl) rfl ?_
   rintro g_o26 w_o26 hg_o26 hn_o26 hs_o26
   have hz_o26 := hs_o26.size
   have hb := hb.trans (hs_o26.mono hb.size)
   have hG := hG_hb.below hb
   have hbN := hbN.trans (hs_o26.mono hbN.size)
   have hN := hN_hbN.below hbN
   have hB_o0 := Blk.below hB_o0 hs_o26
   have hB_k := Blk.below hB_k hs_o26
   have hB_o26 := hn_o26
   have hl_o26 := hB_o26.lt
   refine Wl.storeS (by kernel_rfl) rfl rfl hB_o26 rfl rfl ?_
   rintro w_s0 hn_s0 hg_s0
   have hz_s0 := hg_s0.size
   have hb := below_blk hb hg_s0 hb.size (by omega)
   have hG := hG_hb.below hb
   have hbN := below_blk hbN hg_s0 hbN.size (by omega)
   have hN := hN_hbN.below hbN
   have hB_o0 := hB_o0.over hg_s0 (by omega)
   have hB_k := hB_k.over hg_s0 (by omega)
   have hB_o26 := hn_s0
   refine Wl.nil <| Wq.next hK_67 <| Wc.meet (X := Bool) (fun q' => [(1, .pointer (some ⟨g_o0, 0, none⟩)), (3, .pointer (some ⟨x, 0, none⟩)), (4, .bool q'), (42, .slice (some p_) g.ns.length c), (43, .int .i64 (g.ns.length : Int)), (44, .int .i64 (i : Int))]) (fun q' wr => q' = (q && nodeV (g.ns.getD i nd0)) ∧ Below w.heap.size w wr ∧ Blk wr g_o0 27 [.slice (some p_) g.ns.length c, .slice B g.es.length e] ∧ Blk wr x 79 [.slice (some p_) g.ns.length c, .slice B g.es.length e, .map (some m1), .map (some m2), .slice none 0 0]) (fun _ hM_71 => ?_) ?_
   ·
    refine Wc.region <| Wl.mv rfl rfl <| Wl.mv rfl rfl <| Wl.guardT rfl rfl rfl (fun g_74 => ?_) (fun g_74 => ?_)
    ·
     have g_74_ := g_74
     refine Wl.y (y_fieldAddr (fa43_0GrB _) rfl) rfl <| Wl.on' rfl rfl g_74_ <| Wl.l (l_load one9GrB rfl (by exact hB_o26.at (j := 0) rfl)) rfl <| Wl.on' rfl rfl g_74_ <| Wl.y (y_fieldAddr (fa43_1GrB _) rfl) rfl <| Wl.on' rfl rfl g_74_ <| Wl.l (l_load one40GrB rfl (by exact hB_o26.at (j := 1) rfl)) rfl <| Wl.on' rfl rfl g_74_ <| Wl.y (y_fieldAddr (fa43_2GrB _) rfl) rfl <| Wl.on' rfl rfl g_74_ <| Wl.l (l_load one41GrB rfl (by exact hB_o26.at (j := 2) rfl)) rfl <| Wl.on' rfl rfl g_74_ <| Wl.call txt30GrB rfl rfl (element_r S A1 c1 B1 e1 _ _ _ _ hN hokn (Nat.le_trans hszn hsz)) rfl ?_
     rintro _ w_k1 ⟨rfl, hs_k1⟩
     have hz_k1 := hs_k1.size
     have hb := hb.trans (hs_k1.mono hb.size)
     have hG := hG_hb.below hb
     have hbN := hbN.trans (hs_k1.mono hbN.size)
     have hN := hN_hbN.below hbN
     have hB_o0 := Blk.below hB_o0 hs_k1
     have hB_k := Blk.below hB_k hs_k1
     refine Wl.y (y_pickT rfl g_74_ rfl) rfl <| Wl.sg rfl rfl <| Wl.nil <| Wq.meet hM_71 (q && nodeV (g.ns.getD i nd0)) (by repeat first | exact Sub.nil | refine Sub.cons' rfl (by first | rfl | exact bool_eq (by unfold nodeV; simp_all; done)) ?_) ?_
     exact ⟨rfl, hb, hB_o0, hB_k⟩
    have g_74_ := g_74
    refine Wl.off' rfl rfl g_74_ rfl rfl <| Wl.off' rfl rfl g_74_ rfl rfl <| Wl.off' rfl rfl g_74_ rfl rfl <| Wl.off' rfl rfl g_74_ rfl rfl <| Wl.off' rfl rfl g_74_ rfl rfl <| Wl.off' rfl rfl g_74_ rfl rfl <| Wl.y (y_pickF rfl g_74_ rfl) rfl <| Wl.sg rfl rfl <| Wl.nil <| Wq.meet hM_71 (q && nodeV (g.ns.getD i nd0)) (by repeat first | exact Sub.nil | refine Sub.cons' rfl (by first | rfl | exact bool_eq (by unfold nodeV; simp_all; done)) ?_) ?_
    exact ⟨rfl, hb, hB_o0, hB_k⟩
   rintro q' wr hI_86
   replace hI_86 : q' = (q && nodeV (g.ns.getD i nd0)) ∧ Below w.heap.size w wr ∧ Blk wr g_o0 27 [.slice (some p_) g.ns.length c, .slice B g.es.length e] ∧ Blk wr x 79 [.slice (some p_) g.ns.length c, .slice B g.es.length e, .map (some m1), .map (some m2), .slice none 0 0] := hI_86
   obtain ⟨hq4, hb, hB_o0, hB_k⟩ := hI_86
   show Wq _ _ _ _ [(1, .pointer (some ⟨g_o0, 0, none⟩)), (3, .pointer (some ⟨x, 0, none⟩)), (4, .bool q'), (42, .slice (some p_) g.ns.length c), (43, .int .i64 (g.ns.length : Int)), (44, .int .i64 (i : Int))] _
   have hG := hG_hb.below hb
   have hzhb_g8 := hb.size
   have hlhB_o0_g8 := hB_o0.lt
   have hlhB_k_g8 := hB_k.lt
   refine Wq.block_normal <| Wq.next hK_66 <| Wc.region <| Wl.y (y_addI rfl rfl (by omega) (by omega)) rfl <| Wl.mv rfl rfl <| Wl.nil <| fun a_ ha_ => hL_60 _ _ (⟨i + 1, q'⟩) (by simp; omega) (by repeat first | exact Sub.nil | refine Sub.cons' rfl (by first | rfl | exact int_eq (by omega) | exact int_eq (by simp) | (simp; done)) ?_) ?_ a_ ha_
   exact ⟨by omega, by rw [hq4, hq3, allN_succ, Bool.and_assoc], hb, hB_o0, hB_k⟩
  have c1_65_ := c1_65
  simp only [DZ] at c1_65
  have hie : i = g.ns.length := by have := c1_65; omega
  refine Wc.exit <| Wq.then_exit <| Wq.then_exit <| Wq.block_exit <| Wq.next hK_54 <| Wc.seq fun _ hK_89 => Wc.seq fun _ hK_90 => Wc.region <| Wl.y (y_fieldAddr (fa27_1GrB _) rfl) rfl <| Wl.l (l_load one25GrB rfl (by exact hB_o0.at (j := 1) rfl)) rfl <| Wl.y (y_lenl Tryz.underlying25 (by omega) rfl) rfl <| Wl.mv rfl rfl <| Wl.nil <| Wq.next hK_90 <| Wc.block <| Wc.loop (X := Nat × Bool) (fun (i, q) => [(3, .pointer (some ⟨x, 0, none⟩)), (4, .bool q), (60, .slice B g.es.length e), (61, .int .i64 (g.es.length : Int)), (62, .int .i64 (i : Int))]) (fun (i, q) wr => i ≤ g.es.length ∧ q = (distinct (g.ns.map (·.n)) && distinct (g.es.map (·.n)) && allN g.ns.length (fun i => nodeV (g.ns.getD i nd0)) && allN i (fun i => edgeV g.ns.length (g.es.getD i ed0))) ∧ Below w.heap.size w wr ∧ Blk wr x 79 [.slice A g.ns.length c, .slice B g.es.length e, .map (some m1), .map (some m2), .slice none 0 0]) (fun (i, q) => g.es.length - i) (⟨0, q⟩) ?_ ?_ ?_
  · exact by repeat first | exact Sub.nil | refine Sub.cons' rfl (by first | rfl | exact int_eq (by omega) | exact int_eq (by simp) | (simp; done)) ?_
  · exact ⟨by omega, by rw [hq3, hie]; simp [allN], hb, hB_k⟩
  rintro ⟨i, q⟩ wr hI_96 _ hL_95
  replace hI_96 : i ≤ g.es.length ∧ q = (distinct (g.ns.map (·.n)) && distinct (g.es.map (·.n)) && allN g.ns.length (fun i => nodeV (g.ns.getD i nd0)) && allN i (fun i => edgeV g.ns.length (g.es.getD i ed0))) ∧ Below w.heap.size w wr ∧ Blk wr x 79 [.slice A g.ns.length c, .slice B g.es.length e, .map (some m1), .map (some m2), .slice none 0 0] := hI_96
  obtain ⟨hi, hq3, hb, hB_k⟩ := hI_96
  show Wc _ _ _ _ _ [(3, .pointer (some ⟨x, 0, none⟩)), (4, .bool q), (60, .slice B g.es.length e), (61, .int .i64 (g.es.length : Int)), (62, .int .i64 (i : Int))] _
  have hG := hG_hb.below hb
  have hzhb_L1 := hb.size
  have hlhB_k_L1 := hB_k.lt
  refine Wc.seq fun _ hK_97 => Wc.region <| Wl.y (y_lssi rfl rfl) rfl <| Wl.nil <| Wq.next hK_97 <| Wc.seq fun _ hK_99 => Wc.cond rfl (fun c2_100 => ?_) (fun c2_100 => ?_)
  ·
   have c2_100_ := c2_100
   simp only [DZ] at c2_100
   have hil : i < g.es.length := by have := c2_100; omega
   obtain ⟨p_, cs_, hpe, hcl, hcell, hQ⟩ := hG.re i hil
   obtain ⟨A1, c1, B1, e1, rfl, hN⟩ := hQ
   have hszn := szG_e hil
   have hokn := oks_at (f := fun d : ED => d.ps) hG.oke ed0 hil
   subst hpe
   refine Wc.skip <| Wq.next hK_99 <| Wc.seq fun _ hK_101 => Wc.block <| Wc.seq fun _ hK_102 => ?_
   have hbN := Below.refl wr.heap.size wr
   have hN_hbN := hN
   refine Wc.region <| Wl.y (y_indexAddr Tryz.underlying25 sz46GrB rfl rfl (by omega) (by omega)) rfl <| Wl.l (l_loadS Tryz.underlying46 (by kernel_rfl) rfl (by exact at5 hcell)) rfl <| Wl.allocN (z := (.agg #[(str []), (.int .i64 0), (.int .i64 0), (.bool false), (.slice none 0 0), (.slice none 0 0)])) (by kernel_rfl) rfl ?_
   rintro g_o39 w_o39 hg_o39 hn_o39 hs_o39
   have hz_o39 := hs_o39.size
   have hb := hb.trans (hs_o39.mono hb.size)
   have hG := hG_hb.below hb
   have hbN := hbN.trans (hs_o39.mono hbN.size)
   have hN := hN_hbN.below hbN
   have hB_k := Blk.below hB_k hs_o39
   have hB_o39 := hn_o39
   have hl_o39 := hB_o39.lt
   refine Wl.storeS (by kernel_rfl) rfl rfl hB_o39 rfl rfl ?_
   rintro w_s1 hn_s1 hg_s1
   have hz_s1 := hg_s1.size
   have hb := below_blk hb hg_s1 hb.size (by omega)
   have hG := hG_hb.below hb
   have hbN := below_blk hbN hg_s1 hbN.size (by omega)
   have hN := hN_hbN.below hbN
   have hB_k := hB_k.over hg_s1 (by omega)
   have hB_o39 := hn_s1
   refine Wl.nil <| Wq.next hK_102 <| Wc.meet (X := Bool) (fun q' => [(3, .pointer (some ⟨x, 0, none⟩)), (4, .bool q'), (60, .slice (some p_) g.es.length e), (61, .int .i64 (g.es.length : Int)), (62, .int .i64 (i : Int))]) (fun q' wr => q' = (q && edgeV g.ns.length (g.es.getD i ed0)) ∧ Below w.heap.size w wr ∧ Blk wr x 79 [.slice A g.ns.length c, .slice (some p_) g.es.length e, .map (some m1), .map (some m2), .slice none 0 0]) (fun _ hM_106 => ?_) ?_
   ·
    refine Wc.region <| Wl.mv rfl rfl <| Wl.mv rfl rfl <| Wl.guardT rfl rfl rfl (fun g_109 => ?_) (fun g_109 => ?_)
    ·
     have g_109_ := g_109
     refine Wl.y (y_fieldAddr (fa46_0GrB _) rfl) rfl <| Wl.on' rfl rfl g_109_ <| Wl.l (l_load one9GrB rfl (by exact hB_o39.at (j := 0) rfl)) rfl <| Wl.on' rfl rfl g_109_ <| Wl.y (y_fieldAddr (fa46_4GrB _) rfl) rfl <| Wl.on' rfl rfl g_109_ <| Wl.l (l_load one40GrB rfl (by exact hB_o39.at (j := 4) rfl)) rfl <| Wl.on' rfl rfl g_109_ <| Wl.y (y_fieldAddr (fa46_5GrB _) rfl) rfl <| Wl.on' rfl rfl g_109_ <| Wl.l (l_load one41GrB rfl (by exact hB_o39.at (j := 5) rfl)) rfl <| Wl.on' rfl rfl g_109_ <| Wl.call txt30GrB rfl rfl (element_r S A1 c1 B1 e1 _ _ _ _ hN hokn (Nat.le_trans hszn hsz)) rfl ?_
     rintro _ w_k2 ⟨rfl, hs_k2⟩
     have hz_k2 := hs_k2.size
     have hb := hb.trans (hs_k2.mono hb.size)
     have hG := hG_hb.below hb
     have hbN := hbN.trans (hs_k2.mono hbN.size)
     have hN := hN_hbN.below hbN
     have hB_k := Blk.below hB_k hs_k2
     have hB_o39 := Blk.below hB_o39 hs_k2
     refine Wl.y (y_pickT rfl g_109_ rfl) rfl <| Wl.mv rfl rfl <| Wl.guardT rfl rfl rfl (fun g_119 => ?_) (fun g_119 => ?_)
     ·
      have g_119_ := g_119
      refine Wl.mv rfl rfl <| Wl.on' rfl rfl g_119_ <| Wl.y (y_fieldAddr (fa46_1GrB _) rfl) rfl <| Wl.on' rfl rfl g_119_ <| Wl.l (l_load one3GrB rfl (by exact hB_o39.at (j := 1) rfl)) rfl <| Wl.on' rfl rfl g_119_ <| Wl.call txt31GrB rfl rfl (is_r x _ (.tuple #[]) A g.ns.length c _ _ hB_k (by omega)) rfl ?_
      rintro _ w_k3 ⟨rfl, hs_k3⟩
      have hz_k3 := hs_k3.size
      have hb := hb.trans (hs_k3.mono hb.size)
      have hG := hG_hb.below hb
      have hbN := hbN.trans (hs_k3.mono hbN.size)
      have hN := hN_hbN.below hbN
      have hB_k := Blk.below hB_k hs_k3
      have hB_o39 := Blk.below hB_o39 hs_k3
      refine Wl.y (y_pickT rfl g_119_ rfl) rfl <| Wl.mv rfl rfl <| Wl.guardT rfl rfl rfl (fun g_126 => ?_) (fun g_126 => ?_)
      ·
       have g_126_ := g_126
       refine Wl.mv rfl rfl <| Wl.on' rfl rfl g_126_ <| Wl.y (y_fieldAddr (fa46_2GrB _) rfl) rfl <| Wl.on' rfl rfl g_126_ <| Wl.l (l_load one3GrB rfl (by exact hB_o39.at (j := 2) rfl)) rfl <| Wl.on' rfl rfl g_126_ <| Wl.call txt31GrB rfl rfl (is_r x _ (.tuple #[]) A g.ns.length c _ _ hB_k (by omega)) rfl ?_
       rintro _ w_k4 ⟨rfl, hs_k4⟩
       have hz_k4 := hs_k4.size
       have hb := hb.trans (hs_k4.mono hb.size)
       have hG := hG_hb.below hb
       have hbN := hbN.trans (hs_k4.mono hbN.size)
       have hN := hN_hbN.below hbN
       have hB_k := Blk.below hB_k hs_k4
       refine Wl.y (y_pickT rfl g_126_ rfl) rfl <| Wl.sg rfl rfl <| Wl.nil <| Wq.meet hM_106 (q && edgeV g.ns.length (g.es.getD i ed0)) (by repeat first | exact Sub.nil | refine Sub.cons' rfl (by first | rfl | exact bool_eq (by unfold edgeV; simp_all; done)) ?_) ?_
       exact ⟨rfl, hb, hB_k⟩
      have g_126_ := g_126
      refine Wl.off' rfl rfl g_126_ rfl rfl <| Wl.off' rfl rfl g_126_ rfl rfl <| Wl.off' rfl rfl g_126_ rfl rfl <| Wl.y (y_pickF rfl g_126_ rfl) rfl <| Wl.sg rfl rfl <| Wl.nil <| Wq.meet hM_106 (q && edgeV g.ns.length (g.es.getD i ed0)) (by repeat first | exact Sub.nil | refine Sub.cons' rfl (by first | rfl | exact bool_eq (by unfold edgeV; simp_all; done)) ?_) ?_
      exact ⟨rfl, hb, hB_k⟩
     have g_119_ := g_119
     refine Wl.off' rfl rfl g_119_ rfl rfl <| Wl.off' rfl rfl g_119_ rfl rfl <| Wl.off' rfl rfl g_119_ rfl rfl <| Wl.y (y_pickF rfl g_119_ rfl) rfl <| Wl.mv rfl rfl <| Wl.off' rfl rfl rfl rfl rfl <| Wl.off' rfl rfl rfl rfl rfl <| Wl.off' rfl rfl rfl rfl rfl <| Wl.off' rfl rfl rfl rfl rfl <| Wl.y (y_pickF rfl rfl rfl) rfl <| Wl.sg rfl rfl <| Wl.nil <| Wq.meet hM_106 (q && edgeV g.ns.length (g.es.getD i ed0)) (by repeat first | exact Sub.nil | refine Sub.cons' rfl (by first | rfl | exact bool_eq (by unfold edgeV; simp_all; done)) ?_) ?_
     exact ⟨rfl, hb, hB_k⟩
    have g_109_ := g_109
    refine Wl.off' rfl rfl g_109_ rfl rfl <| Wl.off' rfl rfl g_109_ rfl rfl <| Wl.off' rfl rfl g_109_ rfl rfl <| Wl.off' rfl rfl g_109_ rfl rfl <| Wl.off' rfl rfl g_109_ rfl rfl <| Wl.off' rfl rfl g_109_ rfl rfl <| Wl.y (y_pickF rfl g_109_ rfl) rfl <| Wl.mv rfl rfl <| Wl.off' rfl rfl rfl rfl rfl <| Wl.off' rfl rfl rfl rfl rfl <| Wl.off' rfl rfl rfl rfl rfl <| Wl.off' rfl rfl rfl rfl rfl <| Wl.y (y_pickF rfl rfl rfl) rfl <| Wl.mv rfl rfl <| Wl.off' rfl rfl rfl rfl rfl <| Wl.off' rfl rfl rfl rfl rfl <| Wl.off' rfl rfl rfl rfl rfl <| Wl.off' rfl rfl rfl rfl rfl <| Wl.y (y_pickF rfl rfl rfl) rfl <| Wl.sg rfl rfl <| Wl.nil <| Wq.meet hM_106 (q && edgeV g.ns.length (g.es.getD i ed0)) (by repeat first | exact Sub.nil | refine Sub.cons' rfl (by first | rfl | exact bool_eq (by unfold edgeV; simp_all; done)) ?_) ?_
    exact ⟨rfl, hb, hB_k⟩
   rintro q' wr hI_145
   replace hI_145 : q' = (q && edgeV g.ns.length (g.es.getD i ed0)) ∧ Below w.heap.size w wr ∧ Blk wr x 79 [.slice A g.ns.length c, .slice (some p_) g.es.length e, .map (some m1), .map (some m2), .slice none 0 0] := hI_145
   obtain ⟨hq4, hb, hB_k⟩ := hI_145
   show Wq _ _ _ _ [(3, .pointer (some ⟨x, 0, none⟩)), (4, .bool q'), (60, .slice (some p_) g.es.length e), (61, .int .i64 (g.es.length : Int)), (62, .int .i64 (i : Int))] _
   have hG := hG_hb.below hb
   have hzhb_g13 := hb.size
   have hlhB_k_g13 := hB_k.lt
   refine Wq.block_normal <| Wq.next hK_101 <| Wc.region <| Wl.y (y_addI rfl rfl (by omega) (by omega)) rfl <| Wl.mv rfl rfl <| Wl.nil <| fun a_ ha_ => hL_95 _ _ (⟨i + 1, q'⟩) (by simp; omega) (by repeat first | exact Sub.nil | refine Sub.cons' rfl (by first | rfl | exact int_eq (by omega) | exact int_eq (by simp) | (simp; done)) ?_) ?_ a_ ha_
   exact ⟨by omega, by rw [hq4, hq3, allN_succ, Bool.and_assoc], hb, hB_k⟩
  have c2_100_ := c2_100
  simp only [DZ] at c2_100
  have hie : i = g.es.length := by have := c2_100; omega
  have hok : q = okG g := by rw [hq3, hie]; rfl
  refine Wc.exit <| Wq.then_exit <| Wq.then_exit <| Wq.block_exit <| Wq.next hK_89 <| Wc.seq fun _ hK_148 => Wc.seq fun _ hK_149 => Wc.region <| Wl.mv rfl rfl <| Wl.y (y_not rfl) rfl <| Wl.nil <| Wq.next hK_149 <| Wc.cond rfl (fun c3_152 => ?_) (fun c3_152 => ?_)
  ·
   have c3_152_ := c3_152
   simp only [DZ] at c3_152
   refine Wc.seq fun _ hK_153 => Wc.region <| Wl.sg rfl rfl <| Wl.nil <| Wq.next hK_153 <| Wc.ret <| Wq.then_ret <| ret1 rfl rfl ?_
   exact ⟨_, rfl, int_eq (by unfold rightG; rw [if_neg hsmall, if_neg (by rw [← hok, Bool.not_eq_true]; exact c3_152)]), hb⟩
  have c3_152_ := c3_152
  simp only [DZ] at c3_152
  refine Wc.skip <| Wq.next hK_148 <| Wc.seq fun _ hK_155 => Wc.region <| Wl.sg rfl rfl <| Wl.nil <| Wq.next hK_155 <| Wc.ret <| ret1 rfl rfl ?_
  exact ⟨_, rfl, int_eq (by unfold rightG; rw [if_neg hsmall, if_pos (by rw [← hok]; exact c3_152)]), hb⟩
end Go.Proofs.YtjmlknjbhbfneaaGreatDoor
