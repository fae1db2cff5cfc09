/- set.Shift, set.Of. -/
import Derived.Test.YtgnhokepcdopgaaDoorSetRef
namespace Go.Proofs.YtgnhokepcdopgaaDoor.Sets
open Go.RowKit Go.Proofs.YtgnhokepcdopgaaDoor.PA Go.Proofs.YtgnhokepcdopgaaDoorW.PrintWords Go.Proofs.YtgnhokepcdopgaaDoorW.PrintLast Go.Proofs.YtgnhokepcdopgaaDoor.SetWalk
def orsB (a : Nat) (l : List Int) : Nat := l.foldl (fun s x => s ||| bitN x) a
theorem orsB_lt (l : List Int) : ∀ {a : Nat}, a < 2 ^ 64 → orsB a l < 2 ^ 64 := by
  induction l with
  | nil => intro a h; exact h
  | cons x l ih => intro a h; exact ih (Nat.or_lt_two_pow h (bitN_lt x))
theorem orsB_bit (l : List Int) : ∀ (a j : Nat), (orsB a l).testBit j = (a.testBit j || decide ((j : Int) ∈ l ∧ j ≤ 63)) := by
  induction l with
  | nil => intro a j; simp [orsB]
  | cons x l ih =>
    intro a j
    have e : orsB a (x :: l) = orsB (a ||| bitN x) l := rfl
    rw [e, ih, Nat.testBit_or, bitN_bit, Bool.eq_iff_iff]
    simp only [Bool.or_eq_true, decide_eq_true_eq, List.mem_cons]
    constructor
    · rintro ((h | ⟨h, h'⟩) | ⟨h, h'⟩)
      · exact .inl h
      · exact .inr ⟨.inl h.symm, h'⟩
      · exact .inr ⟨.inr h, h'⟩
    · rintro (h | ⟨h | h, h'⟩)
      · exact .inl (.inl h)
      · exact .inl (.inr ⟨h.symm, h'⟩)
      · exact .inr ⟨h, h'⟩
theorem nxt' {i : Nat} (h : i < 1000) : wrap64 ((i : Int) + 1) = ((i + 1 : Nat) : Int) := by rw [w64 (by omega) (by omega)]; omega
theorem of_loop (l : List Int) (hl : l.length < 1000) (d : Nat) : ∀ (i a : Nat), i + d = l.length → a < 2 ^ 64 → Ev (fun k => set_Of.l0 k (a : Int) l (l.length : Int) (i : Int)) ((orsB a (l.drop i) : Nat) : Int) := by
  induction d with
  | zero =>
    intro i a hi ha
    refine Ev.step (f := fun _ => some (a : Int)) (fun k => ?_) ?_
    · simp only [set_Of.l0]; rw [if_neg (by omega)]
    · rw [List.drop_of_length_le (by omega)]; exact Ev.now _
  | succ d ih =>
    intro i a hi ha
    have hlt : i < l.length := by omega
    rw [List.drop_eq_getElem_cons hlt]
    have e : orsB a (l[i] :: l.drop (i + 1)) = orsB (a ||| bitN l[i]) (l.drop (i + 1)) := rfl
    rw [e]
    refine Ev.step (fun k => ?_) (ih (i + 1) _ (by omega) (Nat.or_lt_two_pow ha (bitN_lt l[i])))
    simp only [set_Of.l0]
    rw [if_pos (by omega), if_pos (by omega), if_pos (by omega), rd_nat l i hlt, nxt' (by omega)]
    simp only [bit_eq, Option.bind_some]
    rw [or_u ha (bitN_lt _)]
theorem of_ev (l : List Int) (hl : l.length < 1000) : Ev (fun k => set_Of.f k l) ((orsB 0 l : Nat) : Int) := by
  have h := of_loop l hl l.length 0 0 (by omega) (by decide)
  simp only [set_Of.f]
  exact h

theorem bitV_eq (x : Int) : bitV x = ((bitN x : Nat) : Int) := by
  unfold bitV bitN
  by_cases h : 0 ≤ x ∧ x ≤ 63
  · rw [if_neg (by omega), if_pos h]
    have := pow_lt (i := x.toNat) (by omega)
    have e2 : (2 : Int) ^ x.toNat = ((2 ^ x.toNat : Nat) : Int) := by simp
    rw [e2, wu_nat this]
  · rw [if_pos (by omega), if_neg h]; rfl
theorem shF_fold (b : Int) (hb : -63 ≤ b ∧ b ≤ 63) (l : List Int) (hl : ∀ x ∈ l, 0 ≤ x ∧ x ≤ 63) : ∀ a : Nat, a < 2 ^ 64 → l.foldl (shStep b) (a : Int) = ((orsB a (l.map fun x => x + b) : Nat) : Int) := by
  induction l with
  | nil => intro a _; rfl
  | cons x l ih =>
    intro a ha
    have hx := hl x (by simp)
    have e : shStep b (a : Int) x = ((a ||| bitN (x + b) : Nat) : Int) := by
      unfold shStep
      rw [if_pos hb, w64 (by omega) (by omega), bitV_eq, or_u ha (bitN_lt _)]
    rw [List.foldl_cons, e, ih (fun y hy => hl y (by simp [hy])) _ (Nat.or_lt_two_pow ha (bitN_lt _))]
    rfl
/-- A set moved. -/
def shB (b : Int) (s : Nat) : Nat := orsB 0 ((from_ s 0 64).map fun x => x + b)
theorem shB_lt (b : Int) (s : Nat) : shB b s < 2 ^ 64 := orsB_lt _ (by decide)
theorem shB_bit (b : Int) {s : Nat} (j : Nat) (hj : j < 64) : (shB b s).testBit j = (decide (0 ≤ (j : Int) - b ∧ (j : Int) - b ≤ 63) && s.testBit ((j : Int) - b).toNat) := by
  unfold shB
  rw [orsB_bit, Nat.zero_testBit, Bool.false_or, Bool.eq_iff_iff]
  simp only [decide_eq_true_eq, Bool.and_eq_true, List.mem_map, mem_from]
  constructor
  · rintro ⟨⟨x, ⟨q, rfl, _, h2, h3⟩, h4⟩, _⟩
    have e : ((j : Int) - b).toNat = q := by omega
    rw [e]
    exact ⟨by omega, h3⟩
  · rintro ⟨h1, h2⟩
    exact ⟨⟨((((j : Int) - b).toNat : Nat) : Int), ⟨_, rfl, by omega, by omega, h2⟩, by omega⟩, by omega⟩
theorem shift_eq {s : Nat} (ls : s < 2 ^ 64) (b : Int) (hb : -63 ≤ b ∧ b ≤ 63) : set_Shift.f (s : Int) b = some ((shB b s : Nat) : Int) := by
  unfold set_Shift.f
  rw [if_pos ⟨by omega, by omega⟩, Int.toNat_natCast, bitsF_eq ls]
  unfold shF
  have h := shF_fold b hb (from_ s 0 64) (fun x hx => by
    obtain ⟨j, rfl, _, h, _⟩ := (mem_from s 64 0 x).1 hx
    omega) 0 (by decide)
  exact congrArg some h
end Go.Proofs.YtgnhokepcdopgaaDoor.Sets
