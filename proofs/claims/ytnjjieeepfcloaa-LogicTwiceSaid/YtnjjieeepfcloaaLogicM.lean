/- Layer 4, in plain numbers. -/
namespace Go.Bw.Logic

def notT (a : Int) : Int := if a = 0 ∨ a = 1 then 1 - a else 2
def andT (l : List Int) : Int := if 0 ∈ l then 0 else if ∀ t ∈ l, t = 1 then 1 else 2
def orT (l : List Int) : Int := notT (andT (l.map notT))
def allT (l : List Int) (d : Int) : Int := if d ∈ l then d else if ∀ t ∈ l, t = 0 ∨ t = 1 then 1 - d else 2
def isT (t : Int) : Int := if t = 0 ∨ t = 1 then 0 else 1
def ofT (k n : Int) : Int × Int := if k = 0 then (2, 0) else if k = 1 ∧ (n = 0 ∨ n = 1) then (n, 0) else (2, 4)

theorem andT_cases (l : List Int) : andT l = 0 ∨ andT l = 1 ∨ andT l = 2 := by
  unfold andT
  split
  · simp
  · split <;> simp
theorem notT_cases (a : Int) : notT a = 0 ∨ notT a = 1 ∨ notT a = 2 := by unfold notT; split <;> omega
theorem andT_zero (l : List Int) : andT l = 0 ↔ 0 ∈ l := by
  unfold andT
  split
  · simp_all
  · split <;> simp_all
theorem andT_one (l : List Int) : andT l = 1 ↔ ∀ t ∈ l, t = 1 := by
  unfold andT
  split
  · rename_i h
    constructor
    · intro h'; omega
    · intro h'; have := h' 0 h; omega
  · split
    · rename_i h2; exact ⟨fun _ => h2, fun _ => rfl⟩
    · rename_i h2; exact ⟨fun h => by omega, fun h => absurd h h2⟩
theorem orT_one (l : List Int) : orT l = 1 ↔ 1 ∈ l := by
  unfold orT
  have h : andT (l.map notT) = 0 ↔ 1 ∈ l := by
    rw [andT_zero]
    simp only [List.mem_map]
    constructor
    · rintro ⟨a, ha, h⟩
      have : a = 1 := by unfold notT at h; split at h <;> omega
      rwa [this] at ha
    · intro h; exact ⟨1, h, by decide⟩
  rw [← h]
  have hc := andT_cases (l.map notT)
  generalize andT (l.map notT) = x at *
  rcases hc with rfl | rfl | rfl <;> decide
theorem orT_zero (l : List Int) : orT l = 0 ↔ ∀ t ∈ l, t = 0 := by
  have h : andT (l.map notT) = 1 ↔ ∀ t ∈ l, t = 0 := by
    rw [andT_one]
    simp only [List.mem_map]
    constructor
    · intro h t ht
      have := h _ ⟨t, ht, rfl⟩
      unfold notT at this; split at this <;> omega
    · rintro h _ ⟨t, ht, rfl⟩
      rw [h t ht]; decide
  rw [← h]
  unfold orT
  have hc := andT_cases (l.map notT)
  generalize andT (l.map notT) = x at *
  rcases hc with rfl | rfl | rfl <;> decide
theorem orT_cases (l : List Int) : orT l = 0 ∨ orT l = 1 ∨ orT l = 2 := notT_cases _

/-- what and or say, by what is there alone -/
theorem andT_congr {l m : List Int} (h0 : 0 ∈ l ↔ 0 ∈ m) (h1 : (∀ t ∈ l, t = 1) ↔ ∀ t ∈ m, t = 1) : andT l = andT m := by
  unfold andT; simp only [h0, h1]
theorem orT_congr {l m : List Int} (h0 : 1 ∈ l ↔ 1 ∈ m) (h1 : (∀ t ∈ l, t = 0) ↔ ∀ t ∈ m, t = 0) : orT l = orT m := by
  have a := orT_one l; have b := orT_one m; have c := orT_zero l; have d := orT_zero m
  by_cases e1 : 1 ∈ l
  · rw [a.2 e1, b.2 (h0.1 e1)]
  · by_cases e2 : ∀ t ∈ l, t = 0
    · rw [c.2 e2, d.2 (h1.1 e2)]
    · rcases orT_cases l with e | e | e
      · exact absurd (c.1 e) e2
      · exact absurd (a.1 e) e1
      · rcases orT_cases m with e' | e' | e'
        · exact absurd (h1.2 (d.1 e')) e2
        · exact absurd (h0.2 (b.1 e')) e1
        · rw [e, e']
theorem andT_all (l : List Int) : andT l = allT l 0 := by
  unfold andT allT
  by_cases h : 0 ∈ l
  · simp [h]
  · simp only [h, if_false]
    have : (∀ t ∈ l, t = 1) ↔ ∀ t ∈ l, t = 0 ∨ t = 1 := ⟨fun h t ht => .inr (h t ht), fun h' t ht => (h' t ht).resolve_left (fun e => h (e ▸ ht))⟩
    simp only [this]; rfl
theorem orT_all (l : List Int) : orT l = allT l 1 := by
  have a := orT_one l; have c := orT_zero l
  unfold allT
  by_cases h : 1 ∈ l
  · simp [h, a.2 h]
  · simp only [h, if_false]
    have : (∀ t ∈ l, t = 0) ↔ ∀ t ∈ l, t = 0 ∨ t = 1 := ⟨fun h t ht => .inl (h t ht), fun h' t ht => (h' t ht).resolve_right (fun e => h (e ▸ ht))⟩
    split
    · rename_i h2; rw [c.2 (this.2 h2)]; rfl
    · rename_i h2
      rcases orT_cases l with e | e | e
      · exact absurd (this.1 (c.1 e)) h2
      · exact absurd (a.1 e) h
      · exact e
theorem andT_append (l m : List Int) : andT (l ++ m) = andT [andT l, andT m] := by
  have a := andT_zero l; have b := andT_zero m; have c := andT_one l; have d := andT_one m
  apply andT_congr
  · simp only [List.mem_append, List.mem_cons, List.not_mem_nil, or_false]
    rw [← a, ← b]; constructor <;> rintro (h | h) <;> omega
  · simp only [List.mem_append, List.mem_cons, List.not_mem_nil, or_false]
    constructor
    · intro h t ht
      rcases ht with rfl | rfl
      · exact c.2 fun t ht => h t (.inl ht)
      · exact d.2 fun t ht => h t (.inr ht)
    · intro h t ht
      rcases ht with ht | ht
      · exact c.1 (h _ (.inl rfl)) t ht
      · exact d.1 (h _ (.inr rfl)) t ht
theorem orT_append (l m : List Int) : orT (l ++ m) = orT [orT l, orT m] := by
  have a := orT_one l; have b := orT_one m; have c := orT_zero l; have d := orT_zero m
  apply orT_congr
  · simp only [List.mem_append, List.mem_cons, List.not_mem_nil, or_false]
    rw [← a, ← b]; constructor <;> rintro (h | h) <;> omega
  · simp only [List.mem_append, List.mem_cons, List.not_mem_nil, or_false]
    constructor
    · intro h t ht
      rcases ht with rfl | rfl
      · exact c.2 fun t ht => h t (.inl ht)
      · exact d.2 fun t ht => h t (.inr ht)
    · intro h t ht
      rcases ht with ht | ht
      · exact c.1 (h _ (.inl rfl)) t ht
      · exact d.1 (h _ (.inr rfl)) t ht
theorem andT_swap (l m : List Int) : andT (l ++ m) = andT (m ++ l) := andT_congr (by simp [or_comm]) (by simp [or_comm])
theorem orT_swap (l m : List Int) : orT (l ++ m) = orT (m ++ l) := orT_congr (by simp [or_comm]) (by simp [or_comm])
theorem andT_twice (l : List Int) : andT (l ++ l) = andT l := andT_congr (by simp) (by simp)
theorem orT_twice (l : List Int) : orT (l ++ l) = orT l := orT_congr (by simp) (by simp)
theorem andT_one_of {a : Int} (h : a = 0 ∨ a = 1 ∨ a = 2) : andT [a] = a := by rcases h with rfl | rfl | rfl <;> decide
theorem orT_one_of {a : Int} (h : a = 0 ∨ a = 1 ∨ a = 2) : orT [a] = a := by rcases h with rfl | rfl | rfl <;> decide
theorem notT_twice {a : Int} (h : a = 0 ∨ a = 1 ∨ a = 2) : notT (notT a) = a := by rcases h with rfl | rfl | rfl <;> decide
theorem isT_not {a : Int} (h : a = 0 ∨ a = 1 ∨ a = 2) : isT a = isT (notT a) := by rcases h with rfl | rfl | rfl <;> decide
theorem map_notT_twice {l : List Int} (h : ∀ a ∈ l, a = 0 ∨ a = 1 ∨ a = 2) : (l.map notT).map notT = l := by
  rw [List.map_map]
  conv => rhs; rw [← List.map_id l]
  exact List.map_congr_left fun a ha => notT_twice (h a ha)
theorem turn_and {l : List Int} (h : ∀ a ∈ l, a = 0 ∨ a = 1 ∨ a = 2) : notT (andT l) = orT (l.map notT) := by unfold orT; rw [map_notT_twice h]
theorem turn_or (l : List Int) : notT (orT l) = andT (l.map notT) := by unfold orT; exact notT_twice (andT_cases _)
theorem andT_neutral (l m : List Int) : andT (l ++ 1 :: m) = andT (l ++ m) := andT_congr (by simp) (by
  simp only [List.mem_append, List.mem_cons]
  exact ⟨fun h t ht => h t (by rcases ht with h | h <;> simp [h]), fun h t ht => by
    rcases ht with h1 | rfl | h1
    · exact h t (.inl h1)
    · rfl
    · exact h t (.inr h1)⟩)
theorem orT_neutral (l m : List Int) : orT (l ++ 0 :: m) = orT (l ++ m) := orT_congr (by simp) (by
  simp only [List.mem_append, List.mem_cons]
  exact ⟨fun h t ht => h t (by rcases ht with h | h <;> simp [h]), fun h t ht => by
    rcases ht with h1 | rfl | h1
    · exact h t (.inl h1)
    · rfl
    · exact h t (.inr h1)⟩)
theorem andT_decides (l m : List Int) : andT (l ++ 0 :: m) = 0 := (andT_zero _).2 (by simp)
theorem orT_decides (l m : List Int) : orT (l ++ 1 :: m) = 1 := (orT_one _).2 (by simp)
/-- a step of the loops -/
theorem andT_snoc {l : List Int} (t : Int) (h : 0 ∉ l) (ht : t ≠ 0) : andT (l ++ [t]) = if t = 1 then andT l else 2 := by
  unfold andT
  have : (0 : Int) ∉ l ++ [t] := by simp [h]; omega
  simp only [this, h, if_false]
  by_cases e : t = 1
  · subst e
    have : (∀ x ∈ l ++ [1], x = (1 : Int)) ↔ ∀ x ∈ l, x = 1 := by
      simp only [List.mem_append, List.mem_singleton]
      exact ⟨fun h x hx => h x (.inl hx), fun h x hx => by
        rcases hx with hx | rfl
        · exact h x hx
        · rfl⟩
    simp only [this, if_true]
  · simp only [e, if_false]; split
    · rename_i h2; have := h2 t (by simp); omega
    · rfl
theorem allT_snoc {l : List Int} (d t : Int) (h : d ∉ l) (ht : t ≠ d) : allT (l ++ [t]) d = if t = 0 ∨ t = 1 then allT l d else 2 := by
  unfold allT
  have : d ∉ l ++ [t] := by simp [h]; omega
  simp only [this, h, if_false]
  by_cases e : t = 0 ∨ t = 1
  · simp only [e, if_true]
    have : (∀ x ∈ l ++ [t], x = 0 ∨ x = 1) ↔ ∀ x ∈ l, x = 0 ∨ x = 1 := by
      simp only [List.mem_append, List.mem_singleton]
      exact ⟨fun h x hx => h x (.inl hx), fun h x hx => by
        rcases hx with hx | rfl
        · exact h x hx
        · exact e⟩
    simp only [this]
  · simp only [e, if_false]; split
    · rename_i h2; exact absurd (h2 t (by simp)) e
    · rfl
end Go.Bw.Logic
