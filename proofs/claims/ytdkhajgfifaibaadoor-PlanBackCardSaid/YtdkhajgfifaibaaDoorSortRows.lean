/- Rows in the order of their first numbers, those that begin alike in the order in which they stood. -/
import Derived.Test.YtdkhajgfifaibaaDoorSortPure
namespace Go.Proofs.YtdkhajgfifaibaaDoor
open Go.Sort
section
variable {α β : Type}
/-- One more into a row that is in order: behind all that do not come after it. -/
def insK (key : α → Int) (x : α) (l : List α) : List α := l.filter (fun y => decide (key y ≤ key x)) ++ x :: l.filter (fun y => !decide (key y ≤ key x))
def sortK (key : α → Int) (l : List α) : List α := l.foldl (fun acc x => insK key x acc) []
theorem insK_map (key : β → Int) (f : α → β) (x : α) (l : List α) : (insK (fun a => key (f a)) x l).map f = insK key (f x) (l.map f) := by
  unfold insK
  rw [List.map_append, List.map_cons, List.filter_map, List.filter_map]
  rfl
theorem sortK_map (key : β → Int) (f : α → β) (l : List α) : (sortK (fun a => key (f a)) l).map f = sortK key (l.map f) := by
  unfold sortK
  have h : ∀ (l : List α) (acc : List α), (l.foldl (fun acc x => insK (fun a => key (f a)) x acc) acc).map f = (l.map f).foldl (fun acc x => insK key x acc) (acc.map f) := by
    intro l
    induction l with
    | nil => intro acc; rfl
    | cons x l ih => intro acc; rw [List.foldl_cons, ih, List.map_cons, List.foldl_cons, insK_map]
  exact h l []
theorem insK_perm (key : α → Int) (x : α) (l : List α) : (insK key x l).Perm (x :: l) := by
  unfold insK
  exact List.perm_middle.trans (List.Perm.cons x (List.filter_append_perm _ l))
theorem sortK_perm_acc (key : α → Int) : ∀ (l acc : List α), (l.foldl (fun acc x => insK key x acc) acc).Perm (acc ++ l)
  | [], acc => by simp
  | x :: l, acc => by
    rw [List.foldl_cons]
    refine (sortK_perm_acc key l _).trans ?_
    refine ((insK_perm key x acc).append_right l).trans ?_
    exact (List.perm_middle (a := x) (l₁ := acc) (l₂ := l)).symm
theorem sortK_perm (key : α → Int) (l : List α) : (sortK key l).Perm l := by
  have h := sortK_perm_acc key l []
  rwa [List.nil_append] at h
theorem sortK_length (key : α → Int) (l : List α) : (sortK key l).length = l.length := (sortK_perm key l).length_eq
/-- The stable order: by the key, then by the index. -/
def lsK (key : α → Int) (ix : α → Nat) (x y : α) : Bool := decide (key x < key y) || (decide (key x = key y) && decide (ix x < ix y))
theorem lsK_iff (key : α → Int) (ix : α → Nat) (x y : α) : lsK key ix x y = true ↔ key x < key y ∨ (key x = key y ∧ ix x < ix y) := by simp [lsK]
theorem lsK_swo (key : α → Int) (ix : α → Nat) : SWO (lsK key ix) where
  irrefl x := by cases h : lsK key ix x x; · rfl
                 · rw [lsK_iff] at h; omega
  trans x y z h1 h2 := by rw [lsK_iff] at *; omega
  ntrans x y z h1 h2 := by
    have a : ¬ lsK key ix x y = true := by rw [h1]; exact Bool.false_ne_true
    have b : ¬ lsK key ix y z = true := by rw [h2]; exact Bool.false_ne_true
    cases h : lsK key ix x z; · rfl
    · rw [lsK_iff] at a b h; omega
theorem sortK_sorted (key : α → Int) (ix : α → Nat) : ∀ (l acc : List α), acc.Pairwise (fun x y => lsK key ix x y = true) → l.Pairwise (fun x y => ix x < ix y) → (∀ x ∈ acc, ∀ y ∈ l, ix x < ix y) →
    (l.foldl (fun acc x => insK key x acc) acc).Pairwise (fun x y => lsK key ix x y = true)
  | [], acc, h1, _, _ => h1
  | x :: l, acc, h1, h2, h3 => by
    rw [List.foldl_cons]
    rw [List.pairwise_cons] at h2
    refine sortK_sorted key ix l _ ?_ h2.2 ?_
    · unfold insK
      rw [List.pairwise_append, List.pairwise_cons]
      refine ⟨h1.filter _, ⟨fun y hy => ?_, h1.filter _⟩, fun a ha b hb => ?_⟩
      · rw [List.mem_filter] at hy
        have := hy.2
        simp only [Bool.not_eq_true', decide_eq_false_iff_not] at this
        rw [lsK_iff]; omega
      · rw [List.mem_filter] at ha
        have a2 := of_decide_eq_true ha.2
        rcases List.mem_cons.1 hb with rfl | hb
        · have := h3 a ha.1 b List.mem_cons_self
          rw [lsK_iff]; omega
        · rw [List.mem_filter] at hb
          have b2 := hb.2
          simp only [Bool.not_eq_true', decide_eq_false_iff_not] at b2
          rw [lsK_iff]; omega
    · intro a ha y hy
      rcases List.mem_cons.1 ((insK_perm key x acc).mem_iff.1 ha) with rfl | ha
      · exact h2.1 y hy
      · exact h3 a ha y (List.mem_cons_of_mem _ hy)
/-- What a stable sort gives is one list. -/
theorem sortK_unique (key : α → Int) (ix : α → Nat) (l l' : List α) (hl : l.Pairwise (fun x y => ix x < ix y)) (hp : l'.Perm l) (hs : l'.Pairwise (fun x y => lsK key ix y x = false)) : l' = sortK key l := by
  have hs2 := sortK_sorted key ix l [] List.Pairwise.nil hl (fun x hx => by cases hx)
  have hinj : ∀ a ∈ l, ∀ b ∈ l, ix a = ix b → a = b := by
    intro a ha b hb e
    obtain ⟨i, hi, rfl⟩ := List.getElem_of_mem ha
    obtain ⟨j, hj, rfl⟩ := List.getElem_of_mem hb
    rw [List.pairwise_iff_getElem] at hl
    rcases Nat.lt_trichotomy i j with h | h | h
    · have := hl i j hi hj h; omega
    · subst h; rfl
    · have := hl j i hj hi h; omega
  refine List.Perm.eq_of_pairwise (le := fun x y => lsK key ix y x = false) ?_ hs (hs2.imp ?_) (hp.trans (sortK_perm key l).symm)
  · intro a b ha hb h1 h2
    have ha' := hp.mem_iff.1 ha
    have hb' := (sortK_perm key l).mem_iff.1 hb
    refine hinj a ha' b hb' ?_
    have a1 : ¬ lsK key ix b a = true := by rw [h1]; exact Bool.false_ne_true
    have b1 : ¬ lsK key ix a b = true := by rw [h2]; exact Bool.false_ne_true
    rw [lsK_iff] at a1 b1; omega
  · intro a b h
    cases h2 : lsK key ix b a; · rfl
    · rw [lsK_iff] at h h2; omega
def headI (r : List Int) : Int := r.headD 0
def sortR (rows : List (List Int)) : List (List Int) := sortK headI rows
theorem sortR_of (rows : List (List Int)) [Inhabited (Fin rows.length)] (d' : Array (Fin rows.length)) (hp : PermIn 0 rows.length (List.finRange rows.length).toArray d')
    (hs : SortedIn (lsK (fun i : Fin rows.length => headI rows[i]) (fun i => i.val)) 0 rows.length d') : d'.toList.Perm (List.finRange rows.length) ∧ sortR rows = d'.toList.map (fun i => rows[i]) := by
  have hz : d'.size = rows.length := by rw [hp.1]; simp
  have hp2 : d'.toList.Perm (List.finRange rows.length) := by
    have h := hp.2.2
    rwa [Array.extract_eq_self_of_le (Nat.le_of_eq hz), Array.extract_eq_self_of_le (by simp)] at h
  refine ⟨hp2, ?_⟩
  have hu := sortK_unique (fun i : Fin rows.length => headI rows[i]) (fun i => i.val) (List.finRange rows.length) d'.toList (by
    rw [List.pairwise_iff_getElem]
    intro i j hi hj h
    simpa using h) hp2 (by
    rw [List.pairwise_iff_getElem]
    intro i j hi hj h
    have hi' : i < d'.size := by simpa using hi
    have hj' : j < d'.size := by simpa using hj
    have := hs i j (Nat.zero_le _) h (by omega)
    rw [getElem!_pos d' i hi', getElem!_pos d' j hj'] at this
    simpa using this)
  rw [hu, sortK_map headI (fun i : Fin rows.length => rows[i])]
  unfold sortR
  congr 1
  apply List.ext_getElem
  · simp
  · intro i h1 h2; simp
end
end Go.Proofs.YtdkhajgfifaibaaDoor
