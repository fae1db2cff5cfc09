import Derived.Test.YtgnhokepcdopgaaDoorDefSetOf
import Derived.Test.YtgnhokepcdopgaaDoorSetRef
namespace Go.Proofs.YtgnhokepcdopgaaDoor.Pure
open Go.RowKit Go.Proofs.YtgnhokepcdopgaaDoor.PA Go.Proofs.YtgnhokepcdopgaaDoorW.PrintWords Go.Proofs.YtgnhokepcdopgaaDoorW.PrintLast Go.Proofs.YtgnhokepcdopgaaDoor.Sets
def orsB (a : Nat) (l : List Int) : Nat := l.foldl (fun s x => s ||| bitN x) a
theorem orsB_lt (l : List Int) : ∀ {a : Nat}, a < 2 ^ 64 → orsB a l < 2 ^ 64 := by
  induction l with
  | nil => intro a h; exact h
  | cons x l ih => intro a h; exact ih (Nat.or_lt_two_pow h (bitN_lt x))
theorem orsB_bit (l : List Int) : ∀ (a j : Nat), (orsB a l).testBit j = (a.testBit j || decide ((j : Int) ∈ l ∧ j ≤ 63)) := by
  induction l with
  | nil => intro a j; simp [orsB]
  | cons x l ih =>
    intro a j
    have e : orsB a (x :: l) = orsB (a ||| bitN x) l := rfl
    rw [e, ih, Nat.testBit_or, bitN_bit, Bool.eq_iff_iff]
    simp only [Bool.or_eq_true, decide_eq_true_eq, List.mem_cons]
    constructor
    · rintro ((h | ⟨h, h'⟩) | ⟨h, h'⟩)
      · exact .inl h
      · exact .inr ⟨.inl h.symm, h'⟩
      · exact .inr ⟨.inr h, h'⟩
    · rintro (h | ⟨h | h, h'⟩)
      · exact .inl (.inl h)
      · exact .inl (.inr ⟨h.symm, h'⟩)
      · exact .inr ⟨h, h'⟩
theorem nxt' {i : Nat} (h : i < 1000) : wrap64 ((i : Int) + 1) = ((i + 1 : Nat) : Int) := by rw [w64 (by omega) (by omega)]; omega
theorem of_loop (l : List Int) (hl : l.length < 1000) (d : Nat) : ∀ (i a : Nat), i + d = l.length → a < 2 ^ 64 → Ev (fun k => set_Of.l0 k (a : Int) l (l.length : Int) (i : Int)) ((orsB a (l.drop i) : Nat) : Int) := by
  induction d with
  | zero =>
    intro i a hi ha
    refine Ev.step (f := fun _ => some (a : Int)) (fun k => ?_) ?_
    · simp only [set_Of.l0]; rw [if_neg (by omega)]
    · rw [List.drop_of_length_le (by omega)]; exact Ev.now _
  | succ d ih =>
    intro i a hi ha
    have hlt : i < l.length := by omega
    rw [List.drop_eq_getElem_cons hlt]
    have e : orsB a (l[i] :: l.drop (i + 1)) = orsB (a ||| bitN l[i]) (l.drop (i + 1)) := rfl
    rw [e]
    refine Ev.step (fun k => ?_) (ih (i + 1) _ (by omega) (Nat.or_lt_two_pow ha (bitN_lt l[i])))
    simp only [set_Of.l0]
    rw [if_pos (by omega), if_pos (by omega), if_pos (by omega), rd_nat l i hlt, nxt' (by omega)]
    simp only [bit_eq, Option.bind_some]
    rw [or_u ha (bitN_lt _)]
theorem of_ev (l : List Int) (hl : l.length < 1000) : Ev (fun k => set_Of.f k l) ((orsB 0 l : Nat) : Int) := by
  have h := of_loop l hl l.length 0 0 (by omega) (by decide)
  simp only [set_Of.f]
  exact h
theorem of_all {a : Nat} (la : a < 2 ^ 64) (l : List Int) (hm : ∀ x, x ∈ l ↔ x ∈ from_ a 0 64) : orsB 0 l = a := by
  refine bits_ext (orsB_lt l (by decide)) la fun j hj => ?_
  rw [orsB_bit, Nat.zero_testBit, Bool.false_or, Bool.eq_iff_iff, decide_eq_true_eq, hm, mem_from]
  constructor
  · rintro ⟨⟨q, h1, _, _, h4⟩, _⟩
    obtain rfl : j = q := by omega
    exact h4
  · intro h
    exact ⟨⟨j, rfl, by omega, by omega, h⟩, by omega⟩
theorem from_sorted (n : Nat) (d : Nat) : ∀ i, List.Pairwise (· < ·) (from_ n i d) := by
  induction d with
  | zero => intro i; exact List.Pairwise.nil
  | succ d ih =>
    intro i
    unfold from_
    split
    · refine List.Pairwise.cons (fun x hx => ?_) (ih (i + 1))
      obtain ⟨j, rfl, h1, _, _⟩ := (mem_from n d (i + 1) x).1 hx
      omega
    · exact ih (i + 1)
theorem rd_mem (l : List Int) (i : Nat) (h : i < l.length) : rd l (i : Int) ∈ l := by rw [rd_nat l i h]; exact List.getElem_mem _
theorem SetOf_loop {a : Nat} (la : a < 2 ^ 64) (l : List Int) (el : l = from_ a 0 64) (d : Nat) : ∀ (i : Nat) (back : List Int), i + d = l.length → back.length = 2 * i → (∀ x ∈ back, x ∈ l) → (∀ j, j < i → rd l (j : Int) ∈ back) →
    Ev (fun k => haulierlaw02_SetOf.l0 k (a : Int) true l back (i : Int)) true := by
  have hll : l.length ≤ 64 := by rw [el]; exact from_len _ _ _
  induction d with
  | zero =>
    intro i back hi hb hm ha
    apply Ev.succ
    simp only [haulierlaw02_SetOf.l0]
    have h0 : ¬ (i : Int) < (l.length : Int) := by omega
    simp only [if_neg h0, if_true]
    have hm2 : ∀ x, x ∈ back ↔ x ∈ from_ a 0 64 := by
      intro x
      rw [← el]
      constructor
      · exact hm x
      · intro hx
        obtain ⟨j, hj, rfl⟩ := List.getElem_of_mem hx
        have := ha j (by omega)
        rwa [rd_nat l j hj] at this
    have L := len_eq la
    rw [← all_len, ← el] at L
    have o1 := of_ev l (by omega)
    rw [of_all la l (fun x => by rw [el])] at o1
    have o2 := of_ev back (by omega)
    rw [of_all la back hm2] at o2
    refine Ev.bind o1 ?_
    simp only [if_true]
    refine Ev.bind o2 ?_
    simp only [if_true, L, Option.bind_some, BEq.rfl]
    exact Ev.now _
  | succ d ih =>
    intro i back hi hb hm ha
    have hlt : i < l.length := by omega
    have w1 : wrap64 ((l.length : Int) - 1) = ((l.length - 1 : Nat) : Int) := by rw [w64 (by omega) (by omega)]; omega
    have w2 : wrap64 (((l.length - 1 : Nat) : Int) - (i : Int)) = ((l.length - 1 - i : Nat) : Int) := by rw [w64 (by omega) (by omega)]; omega
    have next := ih (i + 1) (back ++ [rd l ((l.length - 1 - i : Nat) : Int), rd l (i : Int)]) (by omega) (by simp [hb]; omega) (fun x hx => by
      rcases List.mem_append.1 hx with hx | hx
      · exact hm x hx
      · simp only [List.mem_cons, List.not_mem_nil, or_false] at hx
        rcases hx with rfl | rfl
        · exact rd_mem l _ (by omega)
        · exact rd_mem l _ hlt) (fun j hj => by
      by_cases e : j = i
      · subst e; simp
      · exact List.mem_append.2 (.inl (ha j (by omega))))
    refine Ev.step (fun k => ?_) next
    simp only [haulierlaw02_SetOf.l0]
    rw [if_pos (by omega), w1, w2, if_pos (by omega), if_pos (by omega), if_pos (by omega)]
    simp only [Option.bind_some]
    rw [if_pos (by simp [hb]; omega), nxt' (by omega)]
    by_cases h0 : (i : Int) > 0
    · have w3 : wrap64 ((i : Int) - 1) = ((i - 1 : Nat) : Int) := by rw [w64 (by omega) (by omega)]; omega
      have hs : rd l ((i - 1 : Nat) : Int) < rd l (i : Int) := by
        rw [rd_nat l _ (by omega), rd_nat l i hlt]
        have := from_sorted a 64 0
        rw [← el] at this
        exact List.pairwise_iff_getElem.1 this (i - 1) i (by omega) hlt (by omega)
      rw [if_pos h0, w3, if_pos (by omega), if_pos (by omega), if_neg (by omega)]
    · rw [if_neg h0]
theorem SetOf : haulierlaw02_SetOf.Claim := by
  intro a ha
  obtain ⟨a, rfl, la⟩ := wfu_nat ha
  refine Ev.rounds ?_
  simp only [haulierlaw02_SetOf.f]
  refine Ev.bind awake_ev ?_
  rw [all_eq la]
  refine Ev.bind (Ev.now _) ?_
  exact SetOf_loop la _ rfl _ 0 [] (by rw [Nat.zero_add]) rfl (fun x hx => by simp at hx) (fun j hj => by omega)
end Go.Proofs.YtgnhokepcdopgaaDoor.Pure
