/- A heap in an array, in plain Lean: what goes up, what goes down, and what comes first. -/
namespace Go.Proofs.Ytjlfejgblhgceaa.HeapPure
set_option linter.unusedVariables false
set_option linter.unusedSimpArgs false
section
variable {α : Type} (lt : α → α → Bool)
/-- A strict order, by which any two that differ are told apart. -/
structure Strict : Prop where
  irr : ∀ a, lt a a = false
  tr : ∀ a b c, lt a b = true → lt b c = true → lt a c = true
  tot : ∀ a b, lt a b = true ∨ a = b ∨ lt b a = true
variable {lt}
theorem Strict.asym (h : Strict lt) {a b : α} (hab : lt a b = true) : lt b a = false := by
  cases e : lt b a with
  | false => rfl
  | true =>
    have := h.tr _ _ _ hab e
    rw [h.irr] at this
    cases this
/-- not less, composed -/
theorem Strict.ntr (h : Strict lt) {a b c : α} (hab : lt a b = false) (hbc : lt b c = false) : lt a c = false := by
  cases e : lt a c with
  | false => rfl
  | true =>
    rcases h.tot a b with h1 | h1 | h1
    · rw [h1] at hab; cases hab
    · rw [h1, hbc] at e; cases e
    · have := h.tr _ _ _ h1 e
      rw [this] at hbc; cases hbc
variable (lt) in
/-- None comes ahead of the one above it. -/
def Ord [Inhabited α] (l : List α) : Prop := ∀ i, 0 < i → i < l.length → lt (l.getD i default) (l.getD ((i - 1) / 2) default) = false
variable (lt) in
/-- .. but for i, which may come ahead; those below i do not come ahead of the one above i. -/
def Up [Inhabited α] (l : List α) (i : Nat) : Prop :=
  (∀ j, 0 < j → j < l.length → j ≠ i → lt (l.getD j default) (l.getD ((j - 1) / 2) default) = false) ∧
  (∀ j, 0 < j → j < l.length → (j - 1) / 2 = i → 0 < i → lt (l.getD j default) (l.getD ((i - 1) / 2) default) = false)
variable (lt) in
/-- .. but for those below i; they do not come ahead of the one above i. -/
def Down [Inhabited α] (l : List α) (i : Nat) : Prop :=
  (∀ j, 0 < j → j < l.length → (j - 1) / 2 ≠ i → lt (l.getD j default) (l.getD ((j - 1) / 2) default) = false) ∧
  (∀ j, 0 < j → j < l.length → (j - 1) / 2 = i → 0 < i → lt (l.getD j default) (l.getD ((i - 1) / 2) default) = false)
def swap [Inhabited α] (l : List α) (i j : Nat) : List α := (l.set i (l.getD j default)).set j (l.getD i default)
theorem swap_length [Inhabited α] (l : List α) (i j : Nat) : (swap l i j).length = l.length := by simp [swap]
theorem getD_set [Inhabited α] (l : List α) (i k : Nat) (x : α) (hi : i < l.length) : (l.set i x).getD k default = if k = i then x else l.getD k default := by
  rw [List.getD, List.getElem?_set]
  by_cases h : i = k
  · subst h
    simp [hi]
  · rw [if_neg h, if_neg (fun e => h e.symm)]
    rfl
theorem swap_at [Inhabited α] {l : List α} {i j : Nat} (hi : i < l.length) (hj : j < l.length) (k : Nat) : (swap l i j).getD k default = if k = j then l.getD i default else if k = i then l.getD j default else l.getD k default := by
  unfold swap
  rw [getD_set _ _ _ _ (by simpa using hj), getD_set _ _ _ _ hi]
theorem swap_perm [Inhabited α] {l : List α} {i j : Nat} (hi : i < l.length) (hj : j < l.length) : (swap l i j).Perm l := by
  have hi' : l.getD i default = l[i] := by rw [List.getD, List.getElem?_eq_getElem hi]; rfl
  have hj' : l.getD j default = l[j] := by rw [List.getD, List.getElem?_eq_getElem hj]; rfl
  unfold swap
  rw [hi', hj']
  exact List.set_set_perm hi hj
/-- One that has gone into the last place. -/
theorem Up.start [Inhabited α] {l : List α} (h : Ord lt l) (x : α) : Up lt (l ++ [x]) l.length := by
  have e : ∀ k, k < l.length → (l ++ [x]).getD k default = l.getD k default := fun k hk => by rw [List.getD, List.getElem?_append_left hk]; rfl
  refine ⟨fun j h0 hj hne => ?_, fun j h0 hj hp hi => ?_⟩
  · rw [List.length_append, List.length_singleton] at hj
    rw [e j (by omega), e _ (by omega)]
    exact h j h0 (by omega)
  · rw [List.length_append, List.length_singleton] at hj
    omega
theorem Up.done [Inhabited α] {l : List α} {i : Nat} (h : Up lt l i) (hd : i = 0 ∨ lt (l.getD i default) (l.getD ((i - 1) / 2) default) = false) : Ord lt l := by
  intro j h0 hj
  by_cases e : j = i
  · subst e
    rcases hd with hd | hd
    · omega
    · exact hd
  · exact h.1 j h0 hj e
theorem Up.step [Inhabited α] (ho : Strict lt) {l : List α} {i : Nat} (h : Up lt l i) (hi : i < l.length) (h0 : 0 < i) (hl : lt (l.getD i default) (l.getD ((i - 1) / 2) default) = true) :
    Up lt (swap l i ((i - 1) / 2)) ((i - 1) / 2) := by
  have hp : (i - 1) / 2 < l.length := by omega
  have hpi : (i - 1) / 2 < i := by omega
  refine ⟨fun j j0 hj hne => ?_, fun j j0 hj hjp hpp => ?_⟩
  · rw [swap_length] at hj
    rw [swap_at hi hp, swap_at hi hp]
    rw [if_neg hne]
    by_cases e1 : j = i
    · -- the old parent, below what went up
      rw [if_pos e1, e1, if_pos rfl]
      exact ho.asym hl
    · rw [if_neg e1]
      by_cases e2 : (j - 1) / 2 = (i - 1) / 2
      · -- the other one below the parent
        rw [if_pos e2]
        have := h.1 j j0 hj e1
        rw [e2] at this
        exact ho.ntr this (ho.asym hl)
      · rw [if_neg e2]
        by_cases e3 : (j - 1) / 2 = i
        · rw [if_pos e3]
          exact h.2 j j0 hj e3 h0
        · rw [if_neg e3]
          exact h.1 j j0 hj e1
  · rw [swap_length] at hj
    rw [swap_at hi hp, swap_at hi hp]
    have hne : ((i - 1) / 2 - 1) / 2 ≠ (i - 1) / 2 := by omega
    have hne2 : ((i - 1) / 2 - 1) / 2 ≠ i := by omega
    rw [if_neg hne, if_neg hne2]
    have hpar := h.1 ((i - 1) / 2) hpp hp (by omega)
    have hjn : j ≠ (i - 1) / 2 := by omega
    rw [if_neg hjn]
    by_cases e1 : j = i
    · rw [if_pos e1]
      exact hpar
    · rw [if_neg e1]
      have := h.1 j j0 hj e1
      rw [hjp] at this
      exact ho.ntr this hpar
/-- The last one has come into the first place. -/
theorem Down.start [Inhabited α] {l : List α} (h : Ord lt l) (hl : 1 < l.length) : Down lt ((l.take (l.length - 1)).set 0 (l.getD (l.length - 1) default)) 0 := by
  have hlen : (l.take (l.length - 1)).length = l.length - 1 := by rw [List.length_take]; omega
  have e : ∀ k, 0 < k → k < l.length - 1 → ((l.take (l.length - 1)).set 0 (l.getD (l.length - 1) default)).getD k default = l.getD k default := by
    intro k h0 hk
    rw [getD_set _ _ _ _ (by omega), if_neg (by omega), List.getD, List.getElem?_take, if_pos hk]
    rfl
  refine ⟨fun j h0 hj hne => ?_, fun j _ _ _ h => absurd h (Nat.lt_irrefl 0)⟩
  rw [List.length_set, hlen] at hj
  rw [e j h0 hj, e _ (by omega) (by omega)]
  exact h j h0 (by omega)
theorem Down.done [Inhabited α] {l : List α} {i : Nat} (h : Down lt l i) (h1 : 2 * i + 1 < l.length → lt (l.getD (2 * i + 1) default) (l.getD i default) = false) (h2 : 2 * i + 2 < l.length → lt (l.getD (2 * i + 2) default) (l.getD i default) = false) : Ord lt l := by
  intro j h0 hj
  by_cases e : (j - 1) / 2 = i
  · rcases (show j = 2 * i + 1 ∨ j = 2 * i + 2 by omega) with rfl | rfl
    · rw [e]; exact h1 hj
    · rw [e]; exact h2 hj
  · exact h.1 j h0 hj e
/-- m: the least of i and those below it, and below it. -/
theorem Down.step [Inhabited α] (ho : Strict lt) {l : List α} {i m : Nat} (h : Down lt l i) (hm : m < l.length) (hp : (m - 1) / 2 = i) (h0 : 0 < m) (hl : lt (l.getD m default) (l.getD i default) = true)
    (hs : ∀ j, 0 < j → j < l.length → (j - 1) / 2 = i → lt (l.getD j default) (l.getD m default) = false) : Down lt (swap l i m) m := by
  have hi : i < l.length := by omega
  have him : i < m := by omega
  refine ⟨fun j j0 hj hne => ?_, fun j j0 hj hjp hmm => ?_⟩
  · rw [swap_length] at hj
    rw [swap_at hi hm, swap_at hi hm]
    rw [if_neg hne]
    by_cases e1 : j = m
    · rw [if_pos e1, e1, hp, if_pos rfl]
      exact ho.asym hl
    · rw [if_neg e1]
      by_cases e2 : j = i
      · rw [if_pos e2, e2, if_neg (by omega)]
        exact h.2 m h0 hm hp (by omega)
      · rw [if_neg e2]
        by_cases e3 : (j - 1) / 2 = i
        · rw [if_pos e3]
          exact hs j j0 hj e3
        · rw [if_neg e3]
          exact h.1 j j0 hj e3
  · rw [swap_length] at hj
    rw [swap_at hi hm, swap_at hi hm, hp]
    have e1 : i ≠ m := by omega
    have e2 : j ≠ m := by omega
    have e3 : j ≠ i := by omega
    rw [if_neg e1, if_pos rfl, if_neg e2, if_neg e3]
    have := h.1 j j0 hj (by omega)
    rw [hjp] at this
    exact this
variable (lt) in
/-- Of i and the first q of those below it m is the least. -/
def Kids [Inhabited α] (l : List α) (i q m : Nat) : Prop :=
  (m = i ∨ (m = 2 * i + 1 ∧ 1 ≤ q) ∨ (m = 2 * i + 2 ∧ 2 ≤ q)) ∧ (m ≠ i → lt (l.getD m default) (l.getD i default) = true) ∧ ∀ j, j < q → 2 * i + 1 + j < l.length → lt (l.getD (2 * i + 1 + j) default) (l.getD m default) = false
theorem Kids.start [Inhabited α] {l : List α} (i : Nat) : Kids lt l i 0 i := ⟨.inl rfl, fun h => absurd rfl h, fun _ h => absurd h (Nat.not_lt_zero _)⟩
theorem Kids.pass [Inhabited α] {l : List α} {i q m : Nat} (h : Kids lt l i q m) (hk : 2 * i + 1 + q < l.length → lt (l.getD (2 * i + 1 + q) default) (l.getD m default) = false) : Kids lt l i (q + 1) m := by
  refine ⟨?_, h.2.1, fun j hj hl => ?_⟩
  · rcases h.1 with e | e | e
    · exact .inl e
    · exact .inr (.inl ⟨e.1, by omega⟩)
    · exact .inr (.inr ⟨e.1, by omega⟩)
  · by_cases e : j = q
    · rw [e] at hl ⊢
      exact hk hl
    · exact h.2.2 j (by omega) hl
theorem Kids.take [Inhabited α] (ho : Strict lt) {l : List α} {i q m k : Nat} (h : Kids lt l i q m) (hq : q < 2) (hkq : k = 2 * i + 1 + q) (hk : lt (l.getD k default) (l.getD m default) = true) : Kids lt l i (q + 1) k := by
  subst hkq
  refine ⟨?_, fun _ => ?_, fun j hj hl => ?_⟩
  · rcases (show q = 0 ∨ q = 1 by omega) with rfl | rfl
    · exact .inr (.inl ⟨by omega, by omega⟩)
    · exact .inr (.inr ⟨by omega, by omega⟩)
  · by_cases e : m = i
    · rw [e] at hk
      exact hk
    · exact ho.tr _ _ _ hk (h.2.1 e)
  · by_cases e : j = q
    · rw [e]
      exact ho.irr _
    · exact ho.ntr (h.2.2 j (by omega) hl) (ho.asym hk)
theorem Kids.done [Inhabited α] {l : List α} {i : Nat} (h : Kids lt l i 2 i) (hd : Down lt l i) : Ord lt l := hd.done (fun hl => h.2.2 0 (by omega) hl) (fun hl => h.2.2 1 (by omega) hl)
theorem Kids.deep [Inhabited α] {l : List α} {i m : Nat} (h : Kids lt l i 2 m) (hne : m ≠ i) : i < m := by
  rcases h.1 with e | e | e <;> omega
theorem Kids.down [Inhabited α] (ho : Strict lt) {l : List α} {i m : Nat} (h : Kids lt l i 2 m) (hne : m ≠ i) (hm : m < l.length) (hd : Down lt l i) : Down lt (swap l i m) m := by
  refine hd.step ho hm ?_ ?_ (h.2.1 hne) (fun j j0 hj hp => ?_)
  · rcases h.1 with e | e | e <;> omega
  · rcases h.1 with e | e | e <;> omega
  · rcases (show j = 2 * i + 1 + 0 ∨ j = 2 * i + 1 + 1 by omega) with rfl | rfl
    · exact h.2.2 0 (by omega) hj
    · exact h.2.2 1 (by omega) hj
/-- What stands first comes ahead of all, or is it. -/
theorem Ord.first [Inhabited α] (ho : Strict lt) {l : List α} (h : Ord lt l) : ∀ i, i < l.length → lt (l.getD i default) (l.getD 0 default) = false := by
  intro i
  induction i using Nat.strongRecOn with
  | _ i ih =>
    intro hi
    rcases Nat.eq_zero_or_pos i with h0 | h0
    · rw [h0]; exact ho.irr _
    · exact ho.ntr (h i h0 hi) (ih ((i - 1) / 2) (by omega) (by omega))
theorem Ord.first_mem [Inhabited α] (ho : Strict lt) {l : List α} (h : Ord lt l) {x : α} (hx : x ∈ l) : lt x (l.getD 0 default) = false := by
  obtain ⟨i, hi, rfl⟩ := List.mem_iff_getElem.1 hx
  have := h.first ho i hi
  rwa [show l.getD i default = l[i] by rw [List.getD, List.getElem?_eq_getElem hi]; rfl] at this
/-- The first one is taken out: what is left is the rest. -/
theorem take_perm [Inhabited α] {l : List α} (hl : 1 < l.length) : ((l.take (l.length - 1)).set 0 (l.getD (l.length - 1) default)).Perm l.tail := by
  match l, hl with
  | x :: l, hl =>
    have hne : l ≠ [] := by intro e; rw [e] at hl; simp at hl
    have e1 : (x :: l).getD ((x :: l).length - 1) default = l.getLast hne := by
      rw [List.length_cons, Nat.add_sub_cancel, List.getD]
      have : 0 < l.length := List.length_pos_iff.2 hne
      rw [List.getElem?_cons, if_neg (by omega), List.getLast_eq_getElem, List.getElem?_eq_getElem (by omega)]
      rfl
    have e2 : (x :: l).take ((x :: l).length - 1) = x :: l.dropLast := by
      rw [List.length_cons, Nat.add_sub_cancel]
      have : 0 < l.length := List.length_pos_iff.2 hne
      obtain ⟨n, hn⟩ : ∃ n, l.length = n + 1 := ⟨l.length - 1, by omega⟩
      rw [hn, List.take_succ_cons, List.dropLast_eq_take, hn]
      rfl
    rw [e1, e2, List.set_cons_zero, List.tail_cons]
    have := List.dropLast_concat_getLast hne
    have hp : (l.dropLast ++ [l.getLast hne]).Perm (l.getLast hne :: l.dropLast) := List.perm_append_singleton _ _
    rw [this] at hp
    exact hp.symm
end
end Go.Proofs.Ytjlfejgblhgceaa.HeapPure
