/- Sets of stops as bits: set's own functions. -/
import Derived.Test.YtgnhokepcdopgaaDoorPAx1
import Derived.Test.YtgnhokepcdopgaaDoorPAx3
import Derived.Test.YtgnhokepcdopgaaDoorPAx2
import Derived.Test.YtgnhokepcdopgaaDoorOpA
import Derived.Laws.BitsLemmas
import Derived.Laws.Bits64
import Derived.Laws.Shifts
namespace Go.Proofs.YtgnhokepcdopgaaDoor.Sets
open Go.RowKit Go.Proofs.YtgnhokepcdopgaaDoor.PA Go.Proofs.YtgnhokepcdopgaaDoorW.PrintWords Go.Proofs.YtgnhokepcdopgaaDoorW.PrintLast Go.Proofs.YtgnhokepcdopgaaDoor.SetWalk

theorem w64 {x : Int} (h : -9223372036854775808 ≤ x) (h' : x ≤ 9223372036854775807) : wrap64 x = x := by unfold wrap64; omega
theorem wu {x : Int} (h : 0 ≤ x) (h' : x < 18446744073709551616) : IntKind.u64.wrap x = x := by rw [IntKind.wrap_u64]; omega
theorem wu_nat {n : Nat} (h : n < 2 ^ 64) : IntKind.u64.wrap (n : Int) = n := wu (by omega) (by omega)
theorem wfi {x : Int} (h : (Lit.int .i64 x).wf = true) : -9223372036854775808 ≤ x ∧ x ≤ 9223372036854775807 := by
  simp [Lit.wf, IntKind.min, IntKind.max, IntKind.bits, IntKind.signed] at h
  omega
theorem wfu {x : Int} (h : (Lit.int .u64 x).wf = true) : 0 ≤ x ∧ x < 18446744073709551616 := by
  simp [Lit.wf, IntKind.min, IntKind.max, IntKind.bits, IntKind.signed] at h
  omega
theorem wfu_nat {x : Int} (h : (Lit.int .u64 x).wf = true) : ∃ n : Nat, x = n ∧ n < 2 ^ 64 := by
  have := wfu h
  exact ⟨x.toNat, by omega, by omega⟩
theorem nxt {i : Nat} (h : i < 100) : wrap64 ((i : Int) + 1) = ((i + 1 : Nat) : Int) := by rw [w64 (by omega) (by omega)]; omega

theorem Ev.succ {α : Type} {g : Nat → Option α} {r : α} (h : Ev (fun k => g (k + 1)) r) : Ev g r := Ev.step (fun _ => rfl) h

/-! Bits. -/
theorem pow_pos' (i : Nat) : 0 < 2 ^ i := Nat.two_pow_pos i
theorem pow_lt {i : Nat} (h : i < 64) : 2 ^ i < 2 ^ 64 := Nat.pow_lt_pow_right (by decide) h
theorem bit_high {n i : Nat} (h : n < 2 ^ 64) (hi : 64 ≤ i) : n.testBit i = false := Nat.testBit_lt_two_pow (Nat.lt_of_lt_of_le h (Nat.pow_le_pow_right (by decide) hi))
theorem bits_ext {a b : Nat} (ha : a < 2 ^ 64) (hb : b < 2 ^ 64) (h : ∀ i, i < 64 → a.testBit i = b.testBit i) : a = b := by
  apply Nat.eq_of_testBit_eq
  intro i
  by_cases hi : i < 64
  · exact h i hi
  · rw [bit_high ha (by omega), bit_high hb (by omega)]
theorem add_or {n i : Nat} (h : n < 2 ^ 64) (hi : i < 64) (hb : n.testBit i = false) : IntKind.u64.wrap ((n : Int) + ((2 ^ i : Nat) : Int)) = ((n ||| 2 ^ i : Nat) : Int) := by
  have e : BitVec.ofNat 64 n + BitVec.ofNat 64 (2 ^ i) = BitVec.ofNat 64 n ||| BitVec.ofNat 64 (2 ^ i) := by
    apply BitVec.add_eq_or_of_and_eq_zero
    apply BitVec.eq_of_getLsbD_eq
    intro j hj
    simp only [BitVec.getLsbD_and, BitVec.getLsbD_ofNat, hj, decide_true, Bool.true_and, Nat.testBit_two_pow]
    by_cases hji : i = j
    · subst hji; simp [hb]
    · simp [hji]
  have e2 := congrArg BitVec.toNat e
  rw [BitVec.toNat_add, BitVec.toNat_or, BitVec.toNat_ofNat, BitVec.toNat_ofNat, Nat.mod_eq_of_lt h, Nat.mod_eq_of_lt (pow_lt hi)] at e2
  rw [IntKind.wrap_u64, ← e2]
  omega
theorem or_bit (n i j : Nat) : (n ||| 2 ^ i).testBit j = (n.testBit j || decide (i = j)) := by rw [Nat.testBit_or, Nat.testBit_two_pow]
theorem and_u {a b : Nat} (ha : a < 2 ^ 64) (hb : b < 2 ^ 64) : Go.bits .and .u64 (a : Int) (b : Int) = ((a &&& b : Nat) : Int) :=
  (bits_nat .u64 64 (by decide) (fun n h0 h1 => wu h0 (by simpa using h1)) a b ha hb).1
theorem or_u {a b : Nat} (ha : a < 2 ^ 64) (hb : b < 2 ^ 64) : Go.bits .or .u64 (a : Int) (b : Int) = ((a ||| b : Nat) : Int) :=
  (bits_nat .u64 64 (by decide) (fun n h0 h1 => wu h0 (by simpa using h1)) a b ha hb).2
/-- Whether all of the one set is in the other. -/
def Sub (a b : Nat) : Prop := ∀ i, i < 64 → a.testBit i = true → b.testBit i = true
instance (a b : Nat) : Decidable (Sub a b) := inferInstanceAs (Decidable (∀ i, i < 64 → a.testBit i = true → b.testBit i = true))
theorem andNot_u (a b : Nat) : (Go.bits .andNot .u64 (a : Int) (b : Int) == 0) = decide (Sub a b) := by
  have e : Go.bits .andNot .u64 (a : Int) (b : Int) = (((BitVec.ofNat 64 a &&& ~~~ BitVec.ofNat 64 b).toNat : Nat) : Int) := by
    simp only [Go.bits, BitVec.ofInt_natCast]
    exact wu_nat (BitVec.isLt _)
  rw [e, Bool.eq_iff_iff]
  simp only [beq_iff_eq, decide_eq_true_eq]
  constructor
  · intro h i hi hai
    have h0 : BitVec.ofNat 64 a &&& ~~~ BitVec.ofNat 64 b = 0#64 := BitVec.eq_of_toNat_eq (by simp only [BitVec.toNat_zero]; omega)
    have := congrArg (fun v : BitVec 64 => v.getLsbD i) h0
    simp only [BitVec.getLsbD_and, BitVec.getLsbD_ofNat, BitVec.getLsbD_not, hi, decide_true, Bool.true_and, hai] at this
    simpa using this
  · intro h
    have h0 : BitVec.ofNat 64 a &&& ~~~ BitVec.ofNat 64 b = 0#64 := by
      apply BitVec.eq_of_getLsbD_eq
      intro i hi
      have := h i hi
      simp only [BitVec.getLsbD_and, BitVec.getLsbD_ofNat, BitVec.getLsbD_not, hi, decide_true, Bool.true_and]
      rw [Nat.zero_testBit]
      cases hta : a.testBit i with
      | false => rfl
      | true => rw [this hta]; rfl
    rw [h0]
    rfl


/-- The set of one stop. -/
def bitN (x : Int) : Nat := if 0 ≤ x ∧ x ≤ 63 then 2 ^ x.toNat else 0
theorem bitN_lt (x : Int) : bitN x < 2 ^ 64 := by
  unfold bitN
  split
  · exact pow_lt (by omega)
  · decide
theorem bitN_bit (x : Int) (i : Nat) : (bitN x).testBit i = decide (x = (i : Int) ∧ i ≤ 63) := by
  unfold bitN
  split
  · rename_i h
    rw [Nat.testBit_two_pow, decide_eq_decide]
    omega
  · rename_i h
    rw [Nat.zero_testBit]
    symm
    rw [decide_eq_false_iff_not]
    omega
theorem bit_eq (x : Int) : set_bit.f x = some ((bitN x : Nat) : Int) := by
  unfold set_bit.f bitN
  by_cases h0 : x < 0
  · rw [if_pos h0, if_neg (by omega)]; rfl
  rw [if_neg h0]
  by_cases h1 : x > 63
  · rw [if_pos h1, if_neg (by omega)]; rfl
  rw [if_neg h1, if_pos (by omega), if_pos (by omega)]
  have e : shl .u64 1 x = IntKind.u64.wrap (2 ^ x.toNat) := by
    have := shl_small (k := .u64) (x := 1) (y := x) (h := rfl) (by show x ≤ 64; omega)
    rw [Int.one_mul] at this
    exact this.symm
  rw [e]
  have := pow_lt (i := x.toNat) (by omega)
  have e2 : (2 : Int) ^ x.toNat = ((2 ^ x.toNat : Nat) : Int) := by simp
  rw [e2, wu_nat this]
/-- Whether a stop is in a set. -/
def hasB (n : Nat) (x : Int) : Bool := decide (0 ≤ x ∧ x ≤ 63) && n.testBit x.toNat
theorem hasB_bit (n : Nat) (x : Int) : (n &&& bitN x != 0) = hasB n x := by
  unfold hasB
  by_cases h : 0 ≤ x ∧ x ≤ 63
  · simp only [decide_eq_true h, Bool.true_and]
    cases hb : n.testBit x.toNat with
    | true =>
      rw [bne_iff_ne]
      intro h0
      have := congrArg (fun q => q.testBit x.toNat) h0
      simp only [Nat.testBit_and, hb, bitN_bit, Nat.zero_testBit, Bool.true_and, decide_eq_false_iff_not] at this
      omega
    | false =>
      have : n &&& bitN x = 0 := by
        apply Nat.eq_of_testBit_eq
        intro i
        rw [Nat.testBit_and, bitN_bit, Nat.zero_testBit]
        by_cases hi : x = (i : Int)
        · subst hi; simp at hb; simp [hb]
        · simp [hi]
      rw [this]; rfl
  · simp only [decide_eq_false h, Bool.false_and]
    have : bitN x = 0 := by unfold bitN; rw [if_neg h]
    rw [this]; simp
theorem has_eq {n : Nat} (hn : n < 2 ^ 64) (x : Int) : set_Has.f (n : Int) x = some (hasB n x) := by
  simp only [set_Has.f, bit_eq, Option.bind_some, and_u hn (bitN_lt x)]
  rw [← hasB_bit, Option.some.injEq, Bool.eq_iff_iff]
  simp only [bne_iff_ne]
  omega
theorem with_eq {n : Nat} (hn : n < 2 ^ 64) (x : Int) : set_With.f (n : Int) x = some (((n ||| bitN x : Nat)) : Int) := by
  simp only [set_With.f, bit_eq, Option.bind_some, or_u hn (bitN_lt x)]
/-- A set without another one. -/
def andN (a b : Nat) : Nat := (BitVec.ofNat 64 a &&& ~~~ BitVec.ofNat 64 b).toNat
theorem andN_lt (a b : Nat) : andN a b < 2 ^ 64 := BitVec.isLt _
theorem andN_bit (a b : Nat) {i : Nat} (hi : i < 64) : (andN a b).testBit i = (a.testBit i && !b.testBit i) := by
  have : (andN a b).testBit i = (BitVec.ofNat 64 a &&& ~~~ BitVec.ofNat 64 b).getLsbD i := rfl
  rw [this]
  simp only [BitVec.getLsbD_and, BitVec.getLsbD_ofNat, BitVec.getLsbD_not, hi, decide_true, Bool.true_and]
theorem without_eq (n : Nat) (x : Int) : set_Without.f (n : Int) x = some (((andN n (bitN x) : Nat)) : Int) := by
  simp only [set_Without.f, bit_eq, Option.bind_some, Option.some.injEq]
  simp only [Go.bits, BitVec.ofInt_natCast]
  exact wu_nat (BitVec.isLt _)
theorem within_eq (a b : Nat) : set_Within.f (a : Int) (b : Int) = some (decide (Sub a b)) := by
  simp only [set_Within.f, andNot_u]
theorem sub_refl (a : Nat) : Sub a a := fun _ _ h => h
theorem sub_trans {a b c : Nat} (h : Sub a b) (h' : Sub b c) : Sub a c := fun i hi x => h' i hi (h i hi x)
theorem sub_anti {a b : Nat} (ha : a < 2 ^ 64) (hb : b < 2 ^ 64) (h : Sub a b) (h' : Sub b a) : a = b := bits_ext ha hb (fun i hi => by
  rw [Bool.eq_iff_iff]
  exact ⟨h i hi, h' i hi⟩)
theorem sub_zero (a : Nat) : Sub 0 a := fun i _ h => by rw [Nat.zero_testBit] at h; exact absurd h (by simp)
theorem shift_14_3 : set_Shift.f 14 3 = some 112 := by
  have e : bitsF 14 = [1, 2, 3] := by
    rw [bitsF_pos (by decide), show (14 &&& (14 - 1) : Nat) = 12 by decide, bitsF_pos (by decide), show (12 &&& (12 - 1) : Nat) = 8 by decide, bitsF_pos (by decide), show (8 &&& (8 - 1) : Nat) = 0 by decide, bitsF_zero]
    decide
  simp only [set_Shift.f]
  rw [if_pos (by decide), show (14 : Int).toNat = 14 by decide, e]
  decide +kernel
theorem awake_ev : Ev (fun k => haulierlaw02_awake.f k) true := by
  refine Ev.of (k := 8) haulierlaw02_awake.mono ?_
  simp only [haulierlaw02_awake.f, shift_14_3]
  decide +kernel
end Go.Proofs.YtgnhokepcdopgaaDoor.Sets
