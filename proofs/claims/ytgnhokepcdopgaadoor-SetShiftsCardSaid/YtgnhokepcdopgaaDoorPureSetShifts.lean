import Derived.Test.YtgnhokepcdopgaaDoorDefSetShifts
import Derived.Test.YtgnhokepcdopgaaDoorSetSh
namespace Go.Proofs.YtgnhokepcdopgaaDoor.Pure
open Go.RowKit Go.Proofs.YtgnhokepcdopgaaDoor.PA Go.Proofs.YtgnhokepcdopgaaDoorW.PrintWords Go.Proofs.YtgnhokepcdopgaaDoorW.PrintLast Go.Proofs.YtgnhokepcdopgaaDoor.Sets
theorem cnt_zero : ∀ d, cnt d 0 = 0
  | 0 => rfl
  | d + 1 => by
    have := cnt_zero d
    unfold cnt
    rw [Nat.zero_mod, Nat.zero_div, this]
theorem cnt_shift {s b : Nat} (ls : s < 2 ^ 32) (hb : b ≤ 32) : cnt 64 (s * 2 ^ b) = cnt 64 s := by
  obtain ⟨c, hc⟩ : ∃ c, 64 = b + c := ⟨64 - b, by omega⟩
  have h1 : cnt 64 (s * 2 ^ b) = cnt b (s * 2 ^ b) + cnt c (s * 2 ^ b / 2 ^ b) := by rw [hc, cnt_add]
  have h2 : cnt 64 s = cnt c s + cnt b (s / 2 ^ c) := by rw [hc, Nat.add_comm b c, cnt_add]
  have h3 : s / 2 ^ c = 0 := Nat.div_eq_of_lt (Nat.lt_of_lt_of_le ls (Nat.pow_le_pow_right (by decide) (by omega)))
  rw [h1, h2, h3, cnt_zero, ← cnt_mod b, Nat.mul_mod_left, cnt_zero, Nat.mul_div_cancel _ (Nat.two_pow_pos b), Nat.zero_add, Nat.add_zero]
theorem shB_up {s b : Nat} (ls : s < 2 ^ 32) (hb : b ≤ 32) : shB (b : Int) s = s * 2 ^ b := by
  have l2 : s * 2 ^ b < 2 ^ 64 := by
    have h1 : 2 ^ b ≤ 2 ^ 32 := Nat.pow_le_pow_right (by decide) hb
    have h2 : s * 2 ^ b ≤ s * 2 ^ 32 := Nat.mul_le_mul_left _ h1
    have h3 : s * 2 ^ 32 < 2 ^ 32 * 2 ^ 32 := (Nat.mul_lt_mul_right (by decide)).2 ls
    exact Nat.lt_of_le_of_lt h2 h3
  refine bits_ext (shB_lt _ _) l2 fun j hj => ?_
  rw [shB_bit _ _ hj, Nat.testBit_mul_two_pow]
  by_cases h : b ≤ j
  · rw [decide_eq_true (by omega), decide_eq_true h]
    congr 2
    omega
  · rw [decide_eq_false (by omega), decide_eq_false h, Bool.false_and, Bool.false_and]
theorem high {s : Nat} (ls : s < 2 ^ 32) {j : Nat} (hj : 32 ≤ j) : s.testBit j = false := Nat.testBit_lt_two_pow (Nat.lt_of_lt_of_le ls (Nat.pow_le_pow_right (by decide) hj))
theorem shB_back {s b : Nat} (ls : s < 2 ^ 32) (hb : b ≤ 32) : shB (-(b : Int)) (shB (b : Int) s) = s := by
  have l64 : s < 2 ^ 64 := Nat.lt_of_lt_of_le ls (by decide)
  refine bits_ext (shB_lt _ _) l64 fun j hj => ?_
  rw [shB_bit _ _ hj]
  by_cases h : j + b ≤ 63
  · rw [decide_eq_true (by omega), Bool.true_and, show ((j : Int) - -(b : Int)).toNat = j + b by omega, shB_bit _ _ (by omega), decide_eq_true (by omega), Bool.true_and]
    congr 1
    omega
  · rw [decide_eq_false (by omega), Bool.false_and, high ls (by omega)]
theorem shB_more {s b m : Nat} (hb : b + m ≤ 32) : shB (m : Int) (shB (b : Int) s) = shB ((b : Int) + (m : Int)) s := by
  refine bits_ext (shB_lt _ _) (shB_lt _ _) fun j hj => ?_
  rw [shB_bit _ _ hj, shB_bit _ _ hj]
  by_cases h : m ≤ j
  · rw [decide_eq_true (by omega), Bool.true_and, shB_bit _ _ (by omega)]
    have e : (((j : Int) - (m : Int)).toNat : Int) - (b : Int) = (j : Int) - ((b : Int) + (m : Int)) := by omega
    rw [e]
  · rw [decide_eq_false (by omega), decide_eq_false (by omega), Bool.false_and, Bool.false_and]
theorem SetShifts : haulierlaw02_SetShifts.Claim := by
  intro s b m hs hb hm
  obtain ⟨s, rfl, ls⟩ := wfu_nat hs
  refine Ev.rounds ?_
  simp only [haulierlaw02_SetShifts.f]
  refine Ev.bind awake_ev ?_
  simp only [if_true]
  have out : Ev (fun k => haulierlaw02_SetShifts.j0 k (s : Int) b m true true) true := by
    apply Ev.succ
    simp only [haulierlaw02_SetShifts.j0, if_true]
    exact Ev.now _
  by_cases h0 : b < 0
  · simp only [if_pos h0]; exact out
  simp only [if_neg h0]
  by_cases h1 : m < 0
  · simp only [if_pos h1]; exact out
  simp only [if_neg h1]
  by_cases h2 : wrap64 (b + m) > 32
  · simp only [if_pos h2]; exact out
  simp only [if_neg h2]
  by_cases h3 : b > 32
  · simp only [if_pos h3]; exact out
  simp only [if_neg h3]
  by_cases h4 : m > 32
  · simp only [decide_eq_true h4]; exact out
  simp only [decide_eq_false h4]
  obtain ⟨b, rfl⟩ : ∃ n : Nat, b = n := ⟨b.toNat, by omega⟩
  obtain ⟨m, rfl⟩ : ∃ n : Nat, m = n := ⟨m.toNat, by omega⟩
  rw [w64 (by omega) (by omega)] at h2
  have et : Int.tmod (s : Int) 4294967296 = ((s % 4294967296 : Nat) : Int) := by rw [Int.tmod_eq_emod_of_nonneg (Int.natCast_nonneg _)]; rfl
  have lt : s % 4294967296 < 2 ^ 32 := Nat.mod_lt _ (by decide)
  have lt' : s % 4294967296 < 2 ^ 64 := Nat.lt_of_lt_of_le lt (by decide)
  have wn : wrap64 (-(b : Int)) = -(b : Int) := w64 (by omega) (by omega)
  have wp : wrap64 ((b : Int) + (m : Int)) = (b : Int) + (m : Int) := w64 (by omega) (by omega)
  apply Ev.succ
  simp only [haulierlaw02_SetShifts.j0, Bool.false_eq_true, if_false, et, wn, wp]
  generalize s % 4294967296 = t at lt lt' ⊢
  have L1 := len_eq (shB_lt (b : Int) t)
  have L2 := len_eq lt'
  have ec := cnt_shift lt (b := b) (by omega)
  rw [← shB_up lt (by omega)] at ec
  rw [ec] at L1
  generalize cnt 64 t = q at L1 L2
  rw [shift_eq lt' (b : Int) (by omega)]
  refine Ev.bind (Ev.now _) ?_
  rw [shift_eq (shB_lt _ _) (-(b : Int)) (by omega), shB_back lt (by omega)]
  refine Ev.bind (Ev.now _) ?_
  simp only [if_true]
  rw [shift_eq (shB_lt _ _) (m : Int) (by omega), shB_more (by omega)]
  refine Ev.bind (Ev.now _) ?_
  rw [shift_eq lt' ((b : Int) + (m : Int)) (by omega)]
  refine Ev.bind (Ev.now _) ?_
  simp only [if_true, L1, L2, Option.bind_some, BEq.rfl]
  exact Ev.now _
end Go.Proofs.YtgnhokepcdopgaaDoor.Pure
