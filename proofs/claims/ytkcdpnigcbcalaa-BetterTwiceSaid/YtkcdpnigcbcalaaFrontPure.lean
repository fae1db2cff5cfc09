/- What a front is, in plain Lean: a list's entries that no other one leaves without use. -/
namespace Go.Proofs.Ytkcdpnigcbcalaa.FrontPure
set_option linter.unusedSimpArgs false
set_option linter.unusedVariables false
section
variable {α : Type} (th : α → α → Bool)
def fstep (acc : List α) (b : α) : List α := if acc.any (fun a => th a b) then acc else (acc.filter fun a => !th b a) ++ [b]
def frontL (l : List α) : List α := l.foldl (fstep th) []
/-- Does entry k stay, by the document? -/
def keepAt [Inhabited α] (l : List α) (k : Nat) : Bool := !((List.range l.length).any fun i => i != k && th (l.getD i default) (l.getD k default) && (decide (i < k) || !th (l.getD k default) (l.getD i default)))
def refL [Inhabited α] (l : List α) : List α := ((List.range l.length).filter (keepAt th l)).map fun k => l.getD k default
variable {th}
theorem frontL_snoc (l : List α) (b : α) : frontL th (l ++ [b]) = fstep th (frontL th l) b := by simp [frontL]
theorem fstep_length (acc : List α) (b : α) : (fstep th acc b).length ≤ acc.length + 1 := by
  unfold fstep
  split
  · omega
  · have := List.length_filter_le (fun a => !th b a) acc
    simp; omega
theorem foldl_length (l acc : List α) : (l.foldl (fstep th) acc).length ≤ acc.length + l.length := by
  induction l generalizing acc with
  | nil => simp
  | cons b l ih =>
    have := ih (fstep th acc b)
    have := fstep_length (th := th) acc b
    simp only [List.foldl_cons, List.length_cons]
    omega
theorem frontL_length (l : List α) : (frontL th l).length ≤ l.length := by
  have := foldl_length (th := th) l []
  simpa [frontL] using this
theorem fstep_mem {acc : List α} {b x : α} (h : x ∈ fstep th acc b) : x ∈ acc ∨ x = b := by
  unfold fstep at h
  split at h
  · exact .inl h
  · rcases List.mem_append.1 h with h | h
    · exact .inl (List.mem_filter.1 h).1
    · exact .inr (List.mem_singleton.1 h)
theorem foldl_mem {l acc : List α} {x : α} (h : x ∈ l.foldl (fstep th) acc) : x ∈ acc ∨ x ∈ l := by
  induction l generalizing acc with
  | nil => exact .inl h
  | cons b l ih =>
    rcases ih h with h | h
    · rcases fstep_mem h with h | h
      · exact .inl h
      · exact .inr (by simp [h])
    · exact .inr (by simp [h])
theorem frontL_mem {l : List α} {x : α} (h : x ∈ frontL th l) : x ∈ l := by
  rcases foldl_mem h with h | h
  · simp at h
  · exact h
/-- Each entry has one in the front that leaves it without use, or is it. -/
theorem fstep_cover (hr : ∀ a, th a a = true) (ht : ∀ a b c, th a b = true → th b c = true → th a c = true) {acc : List α} {b x : α}
    (h : (∃ a, a ∈ acc ∧ th a x = true) ∨ x = b) : ∃ a, a ∈ fstep th acc b ∧ th a x = true := by
  unfold fstep
  by_cases c : acc.any (fun a => th a b) = true
  · rw [if_pos c]
    rcases h with h | rfl
    · exact h
    · obtain ⟨a, ha, hb⟩ := List.any_eq_true.1 c
      exact ⟨a, ha, hb⟩
  · rw [if_neg c]
    rcases h with ⟨a, ha, hx⟩ | rfl
    · by_cases d : th b a = true
      · exact ⟨b, by simp, ht _ _ _ d hx⟩
      · exact ⟨a, by simp [ha, d], hx⟩
    · exact ⟨x, by simp, hr x⟩
theorem foldl_cover (hr : ∀ a, th a a = true) (ht : ∀ a b c, th a b = true → th b c = true → th a c = true) (l : List α) : ∀ (acc : List α) (x : α),
    ((∃ a, a ∈ acc ∧ th a x = true) ∨ x ∈ l) → ∃ a, a ∈ l.foldl (fstep th) acc ∧ th a x = true := by
  induction l with
  | nil => intro acc x h; simpa using h
  | cons b l ih =>
    intro acc x h
    rw [List.foldl_cons]
    apply ih
    rcases h with h | h
    · exact .inl (fstep_cover hr ht (.inl h))
    · rcases List.mem_cons.1 h with h | h
      · exact .inl (fstep_cover hr ht (.inr h))
      · exact .inr h
theorem frontL_cover (hr : ∀ a, th a a = true) (ht : ∀ a b c, th a b = true → th b c = true → th a c = true) {l : List α} {x : α} (h : x ∈ l) : ∃ a, a ∈ frontL th l ∧ th a x = true :=
  foldl_cover hr ht l [] x (.inr h)
/-- None of the front leaves another one of it without use. -/
def Anti (l : List α) : Prop := l.Pairwise fun a b => th a b = false ∧ th b a = false
theorem fstep_anti {acc : List α} {b : α} (h : Anti (th := th) acc) : Anti (th := th) (fstep th acc b) := by
  unfold fstep
  by_cases c : acc.any (fun a => th a b) = true
  · rw [if_pos c]; exact h
  · rw [if_neg c]
    unfold Anti
    rw [List.pairwise_append]
    refine ⟨h.sublist List.filter_sublist, by simp, ?_⟩
    intro a ha x hx
    rw [List.mem_singleton] at hx
    subst hx
    obtain ⟨ha, hb⟩ := List.mem_filter.1 ha
    refine ⟨?_, by simpa using hb⟩
    cases e : th a x with
    | false => rfl
    | true => exact absurd (List.any_eq_true.2 ⟨a, ha, e⟩) c
theorem foldl_anti (l : List α) : ∀ {acc : List α}, Anti (th := th) acc → Anti (th := th) (l.foldl (fstep th) acc) := by
  induction l with
  | nil => intro acc h; exact h
  | cons b l ih => intro acc h; exact ih (fstep_anti h)
theorem frontL_anti (l : List α) : Anti (th := th) (frontL th l) := foldl_anti l (by simp [Anti])
/-- A front's front is it. -/
theorem foldl_of_anti (l : List α) : ∀ (acc : List α), Anti (th := th) (acc ++ l) → l.foldl (fstep th) acc = acc ++ l := by
  induction l with
  | nil => intro acc _; simp
  | cons b l ih =>
    intro acc h
    have e : fstep th acc b = acc ++ [b] := by
      have hp := (List.pairwise_append.1 h).2.2
      unfold fstep
      rw [if_neg (by
        intro c
        obtain ⟨a, ha, hb⟩ := List.any_eq_true.1 c
        rw [(hp a ha b (by simp)).1] at hb
        cases hb)]
      rw [List.filter_eq_self.2 (fun a ha => by rw [(hp a ha b (by simp)).2]; rfl)]
    rw [List.foldl_cons, e, ih (acc ++ [b]) (by simpa using h)]
    simp
theorem frontL_again (l : List α) : frontL th (frontL th l) = frontL th l := by
  have := foldl_of_anti (th := th) (frontL th l) [] (by simpa using frontL_anti l)
  simpa [frontL] using this
/-- Entries that are covered leave the front as it is. -/
theorem foldl_covered (l : List α) : ∀ (acc : List α), (∀ b, b ∈ l → ∃ a, a ∈ acc ∧ th a b = true) → l.foldl (fstep th) acc = acc := by
  induction l with
  | nil => intro acc _; rfl
  | cons b l ih =>
    intro acc h
    have e : fstep th acc b = acc := by
      obtain ⟨a, ha, hb⟩ := h b (by simp)
      unfold fstep
      rw [if_pos (List.any_eq_true.2 ⟨a, ha, hb⟩)]
    rw [List.foldl_cons, e]
    exact ih acc (fun x hx => h x (by simp [hx]))
theorem frontL_twice (hr : ∀ a, th a a = true) (ht : ∀ a b c, th a b = true → th b c = true → th a c = true) (l : List α) : frontL th (l ++ l) = frontL th l := by
  have : frontL th (l ++ l) = l.foldl (fstep th) (frontL th l) := by simp [frontL]
  rw [this]
  exact foldl_covered l _ (fun b hb => frontL_cover hr ht hb)
/-- By the document, an entry more. -/
theorem getD_snoc_lt [Inhabited α] {l : List α} {b : α} {i : Nat} (h : i < l.length) : (l ++ [b]).getD i default = l.getD i default := by
  simp [List.getD, List.getElem?_append_left h]
theorem getD_snoc_eq [Inhabited α] {l : List α} {b : α} : (l ++ [b]).getD l.length default = b := by simp [List.getD]
theorem keep_snoc_lt [Inhabited α] {l : List α} {b : α} {k : Nat} (h : k < l.length) : keepAt th (l ++ [b]) k = (keepAt th l k && !(th b (l.getD k default) && !th (l.getD k default) b)) := by
  unfold keepAt
  rw [List.length_append, List.length_singleton, List.range_succ, List.any_append, Bool.not_or]
  congr 1
  · congr 1
    apply Bool.eq_iff_iff.2
    simp only [List.any_eq_true, List.mem_range]
    constructor
    · rintro ⟨i, hi, h2⟩
      rw [getD_snoc_lt hi, getD_snoc_lt h] at h2
      exact ⟨i, hi, h2⟩
    · rintro ⟨i, hi, h2⟩
      refine ⟨i, hi, ?_⟩
      rw [getD_snoc_lt hi, getD_snoc_lt h]
      exact h2
  · have h1 : (l.length != k) = true := bne_iff_ne.2 (by omega)
    have h2 : decide (l.length < k) = false := decide_eq_false (by omega)
    simp only [List.any_cons, List.any_nil, Bool.or_false, getD_snoc_eq, getD_snoc_lt h, h1, h2, Bool.true_and, Bool.false_or]
theorem keep_snoc_eq [Inhabited α] {l : List α} {b : α} : keepAt th (l ++ [b]) l.length = !(l.any fun a => th a b) := by
  unfold keepAt
  rw [List.length_append, List.length_singleton, List.range_succ, List.any_append]
  congr 1
  apply Bool.eq_iff_iff.2
  rw [Bool.or_eq_true]
  simp only [List.any_eq_true, List.mem_range, List.mem_singleton]
  constructor
  · rintro (⟨i, hi, h2⟩ | ⟨i, rfl, h2⟩)
    · rw [getD_snoc_lt hi, getD_snoc_eq] at h2
      simp only [Bool.and_eq_true] at h2
      refine ⟨l[i], List.getElem_mem hi, ?_⟩
      have := h2.1.2
      rwa [List.getD, List.getElem?_eq_getElem hi] at this
    · simp at h2
  · rintro ⟨a, ha, h2⟩
    obtain ⟨i, hi, rfl⟩ := List.mem_iff_getElem.1 ha
    refine .inl ⟨i, hi, ?_⟩
    rw [getD_snoc_lt hi, getD_snoc_eq]
    have e : l.getD i default = l[i] := by rw [List.getD, List.getElem?_eq_getElem hi]; rfl
    rw [e, h2]
    have h1 : (i != l.length) = true := bne_iff_ne.2 (by omega)
    have h3 : decide (i < l.length) = true := decide_eq_true hi
    simp [h1, h3]
theorem refL_mem_of [Inhabited α] {l : List α} {k : Nat} (h : k < l.length) (hk : keepAt th l k = true) : l.getD k default ∈ refL th l :=
  List.mem_map.2 ⟨k, List.mem_filter.2 ⟨List.mem_range.2 h, hk⟩, rfl⟩
theorem refL_snoc [Inhabited α] (hr : ∀ a, th a a = true) (ht : ∀ a b c, th a b = true → th b c = true → th a c = true) (l : List α) (b : α) (hl : refL th l = frontL th l) :
    refL th (l ++ [b]) = fstep th (refL th l) b := by
  have hany : (refL th l).any (fun a => th a b) = l.any (fun a => th a b) := by
    apply Bool.eq_iff_iff.2
    simp only [List.any_eq_true]
    constructor
    · rintro ⟨a, ha, h⟩
      rw [hl] at ha
      exact ⟨a, frontL_mem ha, h⟩
    · rintro ⟨a, ha, h⟩
      obtain ⟨c, hc, h2⟩ := frontL_cover hr ht ha
      rw [← hl] at hc
      exact ⟨c, hc, ht _ _ _ h2 h⟩
  have hsplit : refL th (l ++ [b]) = (((List.range l.length).filter (keepAt th (l ++ [b]))).map fun k => l.getD k default) ++ (if (l.any fun a => th a b) = true then [] else [b]) := by
    unfold refL
    rw [List.length_append, List.length_singleton, List.range_succ, List.filter_append, List.map_append]
    congr 1
    · apply List.map_congr_left
      intro k hk
      exact getD_snoc_lt (List.mem_range.1 (List.mem_filter.1 hk).1)
    · rw [List.filter_cons, keep_snoc_eq]
      cases e : (l.any fun a => th a b) <;> simp
  rw [hsplit]
  unfold fstep
  rw [hany]
  by_cases c : (l.any fun a => th a b) = true
  · rw [if_pos c, if_pos c, List.append_nil]
    unfold refL
    congr 1
    apply List.filter_congr
    intro k hk
    have hk := List.mem_range.1 hk
    rw [keep_snoc_lt hk]
    cases e : keepAt th l k with
    | false => rfl
    | true =>
      rw [Bool.true_and]
      cases e1 : th b (l.getD k default) with
      | false => rfl
      | true =>
        rw [Bool.true_and, Bool.not_not]
        -- some of the front leaves b without use
        rw [← hany] at c
        obtain ⟨a, ha, hab⟩ := List.any_eq_true.1 c
        have hak := ht _ _ _ hab e1
        have hkm : l.getD k default ∈ frontL th l := hl ▸ refL_mem_of hk e
        rw [hl] at ha
        -- a and the k-th are both of the front
        by_cases he : a = l.getD k default
        · rw [← he]; exact hab
        · exfalso
          have hA := frontL_anti (th := th) l
          have : ∀ x, x ∈ frontL th l → ∀ y, y ∈ frontL th l → x ≠ y → th x y = false := by
            intro x hx y hy hne
            obtain ⟨i, hi, rfl⟩ := List.mem_iff_getElem.1 hx
            obtain ⟨j, hj, rfl⟩ := List.mem_iff_getElem.1 hy
            rcases Nat.lt_trichotomy i j with h | h | h
            · exact (List.pairwise_iff_getElem.1 hA i j hi hj h).1
            · subst h; exact absurd rfl hne
            · exact (List.pairwise_iff_getElem.1 hA j i hj hi h).2
          rw [this a ha _ hkm he] at hak
          cases hak
  · rw [if_neg c, if_neg c]
    congr 1
    unfold refL
    rw [List.filter_map, List.filter_filter]
    congr 1
    apply List.filter_congr
    intro k hk
    have hk := List.mem_range.1 hk
    rw [keep_snoc_lt hk]
    have : th (l.getD k default) b = false := by
      cases e : th (l.getD k default) b with
      | false => rfl
      | true =>
        exfalso
        apply c
        refine List.any_eq_true.2 ⟨l[k], List.getElem_mem hk, ?_⟩
        rwa [List.getD, List.getElem?_eq_getElem hk] at e
    simp only [this, Bool.not_false, Bool.and_true, Function.comp]
    exact Bool.and_comm _ _
theorem refL_eq [Inhabited α] (hr : ∀ a, th a a = true) (ht : ∀ a b c, th a b = true → th b c = true → th a c = true) (l : List α) : refL th l = frontL th l := by
  suffices h : ∀ (n : Nat) (l : List α), l.length = n → refL th l = frontL th l from h _ l rfl
  intro n
  induction n with
  | zero => intro l h; rw [List.length_eq_zero_iff.1 h]; rfl
  | succ n ih =>
    intro l h
    have hne : l ≠ [] := by intro e; rw [e] at h; simp at h
    have e := List.dropLast_concat_getLast hne
    have ih' := ih l.dropLast (by simp; omega)
    rw [← e, refL_snoc hr ht _ _ ih', frontL_snoc, ih']
theorem anti_at [Inhabited α] {l : List α} (h : Anti (th := th) l) {i k : Nat} (hi : i < l.length) (hk : k < l.length) (hne : i ≠ k) : th (l.getD i default) (l.getD k default) = false := by
  have e : ∀ j, j < l.length → ∃ h : j < l.length, l.getD j default = l[j] := fun j hj => ⟨hj, by rw [List.getD, List.getElem?_eq_getElem hj]; rfl⟩
  obtain ⟨_, e1⟩ := e i hi
  obtain ⟨_, e2⟩ := e k hk
  rw [e1, e2]
  rcases Nat.lt_trichotomy i k with h2 | h2 | h2
  · exact (List.pairwise_iff_getElem.1 h i k hi hk h2).1
  · exact absurd h2 hne
  · exact (List.pairwise_iff_getElem.1 h k i hk hi h2).2
end
theorem frontL_congr {α : Type} (t1 t2 : α → α → Bool) (l : List α) (h : ∀ x, x ∈ l → ∀ y, y ∈ l → t1 x y = t2 x y) : frontL t1 l = frontL t2 l := by
  have step : ∀ (acc : List α) (b : α), (∀ a, a ∈ acc → t1 a b = t2 a b) → (∀ a, a ∈ acc → t1 b a = t2 b a) → fstep t1 acc b = fstep t2 acc b := by
    intro acc b h1 h2
    unfold fstep
    have e1 : acc.any (fun a => t1 a b) = acc.any (fun a => t2 a b) := by
      apply Bool.eq_iff_iff.2
      simp only [List.any_eq_true]
      constructor
      · rintro ⟨a, ha, e⟩; exact ⟨a, ha, h1 a ha ▸ e⟩
      · rintro ⟨a, ha, e⟩; exact ⟨a, ha, (h1 a ha).symm ▸ e⟩
    have e2 : acc.filter (fun a => !t1 b a) = acc.filter (fun a => !t2 b a) := List.filter_congr (fun a ha => by rw [h2 a ha])
    rw [e1, e2]
  have go : ∀ (m acc : List α), (∀ x, x ∈ acc ++ m → x ∈ l) → m.foldl (fstep t1) acc = m.foldl (fstep t2) acc := by
    intro m
    induction m with
    | nil => intro acc _; rfl
    | cons b m ih =>
      intro acc hm
      have hb : b ∈ l := hm b (by simp)
      have e := step acc b (fun a ha => h a (hm a (by simp [ha])) b hb) (fun a ha => h b hb a (hm a (by simp [ha])))
      rw [List.foldl_cons, List.foldl_cons, e]
      apply ih
      intro x hx
      rcases List.mem_append.1 hx with hx | hx
      · rcases fstep_mem hx with hx | hx
        · exact hm x (by simp [hx])
        · rw [hx]; exact hb
      · exact hm x (by simp [hx])
  exact go l [] (by simp)
end Go.Proofs.Ytkcdpnigcbcalaa.FrontPure
