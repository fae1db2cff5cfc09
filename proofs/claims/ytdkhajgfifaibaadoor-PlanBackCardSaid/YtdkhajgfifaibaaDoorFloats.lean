/- Floats that hold whole numbers below 2^53: what +, -, *, the sign and the way back to a whole number do to them. No condition. -/
import Derived.Laws.ComplexArith
namespace Go.Proofs.YtdkhajgfifaibaaDoor.Fl
open Ieee

/-- What a datum is worth, if it is a whole number. -/
def IsV (d : Datum) (v : Int) : Prop := ∃ (s : Bool) (m j : Nat), d = .number s m (-(j : Int)) ∧ m = v.natAbs * 2 ^ j ∧ (s = true → v ≤ 0) ∧ (s = false → 0 ≤ v)
theorem zero_v (s : Bool) (j : Nat) : IsV (.number s 0 (-(j : Int))) 0 := ⟨s, 0, j, rfl, (Nat.zero_mul _).symm, by simp, by simp⟩
theorem signed_eq (s : Bool) (v : Int) (j k : Nat) (h1 : s = true → v ≤ 0) (h2 : s = false → 0 ≤ v) : signed s (v.natAbs * 2 ^ j) k = v * 2 ^ (j + k) := by
  unfold signed
  have e : (((v.natAbs * 2 ^ j) <<< k : Nat) : Int) = (v.natAbs : Int) * 2 ^ (j + k) := by
    rw [Nat.shiftLeft_eq, Nat.mul_assoc, ← Nat.pow_add]
    simp
  cases s with
  | true =>
    rw [if_pos rfl, e]
    have : (v.natAbs : Int) = -v := by have := h1 rfl; omega
    rw [this, Int.neg_mul, Int.neg_neg]
  | false =>
    rw [if_neg (by simp), e]
    have : (v.natAbs : Int) = v := by have := h2 rfl; omega
    rw [this]
theorem IsV.opposite {d : Datum} {v : Int} (h : IsV d v) : IsV d.opposite (-v) := by
  obtain ⟨s, m, j, rfl, hm, h1, h2⟩ := h
  refine ⟨!s, m, j, rfl, by rw [Int.natAbs_neg]; exact hm, fun h => ?_, fun h => ?_⟩
  · have := h2 (by cases s <;> simp_all); omega
  · have := h1 (by cases s <;> simp_all); omega
theorem natAbs_mul_pow (v : Int) (j : Nat) : (v * 2 ^ j).natAbs = v.natAbs * 2 ^ j := by
  rw [Int.natAbs_mul, Int.natAbs_pow]; rfl
theorem pow_pos_int (j : Nat) : (0 : Int) < 2 ^ j := Int.pow_pos (by omega)
theorem mul_pow_neg {v : Int} {j : Nat} : v * 2 ^ j < 0 ↔ v < 0 := by
  have := pow_pos_int j
  constructor
  · intro h
    by_cases hv : v < 0
    · exact hv
    · have := Int.mul_nonneg (show 0 ≤ v by omega) (show (0 : Int) ≤ 2 ^ j by omega)
      omega
  · intro h; exact Int.mul_neg_of_neg_of_pos h this
theorem mul_pow_zero {v : Int} {j : Nat} : v * 2 ^ j = 0 ↔ v = 0 := by
  have := pow_pos_int j
  rw [Int.mul_eq_zero]
  omega
theorem IsV.sum {d e : Datum} {v u : Int} (h : IsV d v) (k : IsV e u) : ∃ f, d.sum e = some f ∧ IsV f (v + u) := by
  obtain ⟨s, m, i, rfl, rfl, h1, h2⟩ := h
  obtain ⟨t, n, j, rfl, rfl, k1, k2⟩ := k
  refine ⟨_, rfl, ?_⟩
  obtain ⟨J, hJ⟩ : ∃ J : Nat, min (-(i : Int)) (-(j : Int)) = -(J : Int) ∧ i ≤ J ∧ j ≤ J := ⟨max i j, by omega, by omega, by omega⟩
  obtain ⟨hJ, hi, hj⟩ := hJ
  have ei : (-(i : Int) - -(J : Int)).toNat = J - i := by omega
  have ej : (-(j : Int) - -(J : Int)).toNat = J - j := by omega
  simp only [hJ, ei, ej]
  rw [signed_eq s v i (J - i) h1 h2, signed_eq t u j (J - j) k1 k2]
  have e1 : i + (J - i) = J := by omega
  have e2 : j + (J - j) = J := by omega
  rw [e1, e2, ← Int.add_mul]
  refine ⟨_, _, J, rfl, natAbs_mul_pow _ _, fun hs => ?_, fun hs => ?_⟩
  · by_cases hz : (v + u) * 2 ^ J = 0
    · have := mul_pow_zero.1 hz; omega
    · rw [if_neg hz] at hs
      have := mul_pow_neg.1 (of_decide_eq_true hs)
      omega
  · by_cases hz : (v + u) * 2 ^ J = 0
    · have := mul_pow_zero.1 hz; omega
    · rw [if_neg hz] at hs
      have hn := of_decide_eq_false hs
      by_cases hv : v + u < 0
      · exact absurd (mul_pow_neg.2 hv) hn
      · omega
theorem IsV.product {d e : Datum} {v u : Int} (h : IsV d v) (k : IsV e u) : ∃ f, d.product e = some f ∧ IsV f (v * u) := by
  obtain ⟨s, m, i, rfl, rfl, h1, h2⟩ := h
  obtain ⟨t, n, j, rfl, rfl, k1, k2⟩ := k
  refine ⟨_, rfl, ?_⟩
  have e : -(i : Int) + -(j : Int) = -((i + j : Nat) : Int) := by omega
  rw [e]
  refine ⟨_, _, i + j, rfl, ?_, fun hs => ?_, fun hs => ?_⟩
  · rw [Int.natAbs_mul, Nat.pow_add, Nat.mul_mul_mul_comm]
  · cases s <;> cases t <;> simp at hs
    · have := Int.mul_nonneg (h2 rfl) (show 0 ≤ -u by have := k1 rfl; omega)
      rw [Int.mul_neg] at this; omega
    · have := Int.mul_nonneg (show 0 ≤ -v by have := h1 rfl; omega) (k2 rfl)
      rw [Int.neg_mul] at this; omega
  · cases s <;> cases t <;> simp at hs
    · exact Int.mul_nonneg (h2 rfl) (k2 rfl)
    · have := Int.mul_nonneg (show 0 ≤ -v by have := h1 rfl; omega) (show 0 ≤ -u by have := k1 rfl; omega)
      rwa [Int.neg_mul_neg] at this
theorem log2_mul_pow (a j : Nat) (h : a ≠ 0) : (a * 2 ^ j).log2 = a.log2 + j := by
  rw [Nat.log2_eq_iff (by have := Nat.two_pow_pos j; exact Nat.mul_ne_zero h (by omega))]
  have := Nat.log2_self_le h
  have h2 := Nat.lt_log2_self (n := a)
  have hp := Nat.two_pow_pos j
  rw [Nat.pow_add, show a.log2 + j + 1 = (a.log2 + 1) + j by omega, Nat.pow_add]
  exact ⟨Nat.mul_le_mul_right _ this, Nat.mul_lt_mul_of_pos_right h2 hp⟩
theorem cut_exact (way : Toward) (s : Bool) (a j : Nat) : way.cut s (a * 2 ^ j) j = a := by
  have key : ∀ g : Nat, g ≠ 0 → (g = 2 ^ j ∨ a = 0) → (a * 2 ^ j) / g = a ∧ (a * 2 ^ j) % g = 0 := by
    intro g hg h
    rcases h with h | h
    · subst h; exact ⟨Nat.mul_div_cancel _ (Nat.two_pow_pos j), Nat.mul_mod_left _ _⟩
    · subst h; simp
  unfold Toward.cut
  have hgap : 1 <<< min j ((a * 2 ^ j).log2 + 2) ≠ 0 := by rw [Nat.one_shiftLeft]; have := Nat.two_pow_pos (min j ((a * 2 ^ j).log2 + 2)); omega
  obtain ⟨q, r⟩ := key _ hgap (by
    by_cases ha : a = 0
    · exact .inr ha
    · left
      rw [Nat.one_shiftLeft, log2_mul_pow a j ha, Nat.min_eq_left (by omega)])
  simp only [q, r]
  cases way <;> simp
theorem IsV.toInt {d : Datum} {v : Int} (h : IsV d v) : d.toInt .zero = some v := by
  obtain ⟨s, m, j, rfl, rfl, h1, h2⟩ := h
  unfold Datum.toInt Datum.integral
  have e1 : (-(j : Int)).toNat = 0 := by omega
  have e2 : (- -(j : Int)).toNat = j := by omega
  simp only [e1, e2, Nat.shiftLeft_zero, cut_exact]
  have := signed_eq s v 0 0 h1 h2
  simpa using congrArg some this

/-- A word that holds a whole number. -/
def FV (x : Nat) (v : Int) : Prop := x < 18446744073709551616 ∧ IsV (double.read x) v
theorem write_lt64 (d : Datum) : double.write d < 18446744073709551616 := double.write_lt d
theorem d_binade : double.binade = 4503599627370496 := by decide +kernel
theorem d_least : double.leastPlace = -1074 := by decide +kernel
theorem d_inf : double.infRung = 9218868437227405312 := by decide +kernel
theorem d_sign : double.signWeight = 9223372036854775808 := by decide +kernel
theorem d_frac : double.fractionBits = 52 := rfl
theorem kept_eq (a L j : Nat) (hL : L ≤ 52) (s : Bool) :
    Toward.even.cut s ((a * 2 ^ j) <<< (-(j : Int) - ((L : Int) - 52)).toNat) (((L : Int) - 52) - -(j : Int)).toNat = a * 2 ^ (52 - L) := by
  by_cases h : j ≤ 52 - L
  · have e1 : (-(j : Int) - ((L : Int) - 52)).toNat = 52 - L - j := by omega
    have e2 : (((L : Int) - 52) - -(j : Int)).toNat = 0 := by omega
    rw [e1, e2, Nat.shiftLeft_eq, Nat.mul_assoc, ← Nat.pow_add]
    have e3 : j + (52 - L - j) = 52 - L := by omega
    rw [e3]
    have := cut_exact .even s (a * 2 ^ (52 - L)) 0
    rwa [Nat.pow_zero, Nat.mul_one] at this
  · have e1 : (-(j : Int) - ((L : Int) - 52)).toNat = 0 := by omega
    have e2 : (((L : Int) - 52) - -(j : Int)).toNat = j - (52 - L) := by omega
    rw [e1, e2, Nat.shiftLeft_zero]
    have e3 : j = (52 - L) + (j - (52 - L)) := by omega
    have e4 : a * 2 ^ j = a * 2 ^ (52 - L) * 2 ^ (j - (52 - L)) := by rw [Nat.mul_assoc, ← Nat.pow_add, ← e3]
    rw [e4]
    exact cut_exact .even s _ _
theorem log2_le {a : Nat} (ha : a ≠ 0) (h : a < 9007199254740992) : a.log2 ≤ 52 := by
  have := (Nat.log2_lt ha (k := 53)).2 (by simpa using h)
  omega
theorem kept_bd {a : Nat} (ha : a ≠ 0) (h : a < 9007199254740992) : 4503599627370496 ≤ a * 2 ^ (52 - a.log2) ∧ a * 2 ^ (52 - a.log2) < 9007199254740992 := by
  have hl := log2_le ha h
  have h1 := Nat.log2_self_le ha
  have h2 := Nat.lt_log2_self (n := a)
  have hp := Nat.two_pow_pos (52 - a.log2)
  have e1 : 2 ^ a.log2 * 2 ^ (52 - a.log2) = 4503599627370496 := by rw [← Nat.pow_add, show a.log2 + (52 - a.log2) = 52 by omega]
  have e2 : 2 ^ (a.log2 + 1) * 2 ^ (52 - a.log2) = 9007199254740992 := by rw [← Nat.pow_add, show a.log2 + 1 + (52 - a.log2) = 53 by omega]
  have m1 := Nat.mul_le_mul_right (2 ^ (52 - a.log2)) h1
  have m2 := Nat.mul_lt_mul_of_pos_right h2 hp
  omega
theorem IsV.write {d : Datum} {v : Int} (h : IsV d v) (hv : v.natAbs < 9007199254740992) : FV (double.write d) v := by
  refine ⟨write_lt64 d, ?_⟩
  obtain ⟨s, m, j, rfl, rfl, h1, h2⟩ := h
  by_cases hz : v = 0
  · subst hz
    have hr : double.read (double.write (.number s ((0 : Int).natAbs * 2 ^ j) (-(j : Int)))) = .number s 0 (-((1074 : Nat) : Int)) := by
      have e0 : (0 : Int).natAbs * 2 ^ j = 0 := Nat.zero_mul _
      rw [e0]
      have e1 : double.write (.number s 0 (-(j : Int))) = double.word s 0 := rfl
      rw [e1]
      cases s <;> decide +kernel
    rw [hr]
    exact zero_v s 1074
  · have ha : v.natAbs ≠ 0 := by omega
    have hL := log2_le ha hv
    obtain ⟨k1, k2⟩ := kept_bd ha hv
    have hne : v.natAbs * 2 ^ j ≠ 0 := Nat.mul_ne_zero ha (by have := Nat.two_pow_pos j; omega)
    have hw : double.write (.number s (v.natAbs * 2 ^ j) (-(j : Int))) = double.word s ((v.natAbs.log2 + 1022) * 4503599627370496 + v.natAbs * 2 ^ (52 - v.natAbs.log2)) := by
      simp only [Format.write, Format.nearest, if_neg hne, log2_mul_pow _ _ ha, d_frac, d_least, d_inf, d_binade]
      have el : max (-(j : Int) + ((v.natAbs.log2 + j : Nat) : Int) - ((52 : Nat) : Int)) (-1074) = (v.natAbs.log2 : Int) - 52 := by omega
      rw [el, kept_eq _ _ _ hL]
      have et : ((v.natAbs.log2 : Int) - 52 - -1074).toNat = v.natAbs.log2 + 1022 := by omega
      rw [et, Nat.min_eq_left (by omega)]
    rw [hw]
    refine ⟨s, v.natAbs * 2 ^ (52 - v.natAbs.log2), 52 - v.natAbs.log2, ?_, rfl, h1, h2⟩
    generalize v.natAbs * 2 ^ (52 - v.natAbs.log2) = K at *
    generalize v.natAbs.log2 = L at *
    have hs : double.word s ((L + 1022) * 4503599627370496 + K) / 9223372036854775808 % 2 = (if s then 1 else 0) ∧ double.word s ((L + 1022) * 4503599627370496 + K) % 9223372036854775808 = (L + 1022) * 4503599627370496 + K := by
      unfold Format.word
      rw [d_sign]
      cases s
      · simp only [Bool.false_eq_true, if_false]; omega
      · simp only [if_true]; omega
    unfold Format.read
    simp only [d_sign, d_binade, d_inf, d_least, hs.1, hs.2]
    rw [if_neg (by omega), if_pos (by omega)]
    have e1 : ((if s then 1 else 0 : Nat) == 1) = s := by cases s <;> rfl
    have e2 : 4503599627370496 + ((L + 1022) * 4503599627370496 + K) % 4503599627370496 = K := by omega
    have e3 : (-1074 : Int) + (((L + 1022) * 4503599627370496 + K) / 4503599627370496 - 1 : Nat) = -((52 - L : Nat) : Int) := by omega
    rw [e1, e2, e3]

/-! What the machine's operations do. -/
theorem FV.ofInt {n : Int} (h : n.natAbs < 9007199254740992) : FV (floatOfInt .f64 n) n := by
  have : IsV (.number (decide (n < 0)) n.natAbs 0) n := ⟨decide (n < 0), n.natAbs, 0, rfl, by simp, fun h => by have := of_decide_eq_true h; omega, fun h => by have := of_decide_eq_false h; omega⟩
  exact this.write h
theorem FV.add {x y : Nat} {v u : Int} (h : FV x v) (k : FV y u) (hb : (v + u).natAbs < 9007199254740992) : ∃ z, floatBits .add .f64 x y = some z ∧ FV z (v + u) := by
  obtain ⟨f, hf, hF⟩ := h.2.sum k.2
  exact ⟨_, by show ((double.read x).sum (double.read y)).map double.write = _; rw [hf]; rfl, hF.write hb⟩
theorem FV.sub {x y : Nat} {v u : Int} (h : FV x v) (k : FV y u) (hb : (v - u).natAbs < 9007199254740992) : ∃ z, floatBits .sub .f64 x y = some z ∧ FV z (v - u) := by
  obtain ⟨f, hf, hF⟩ := h.2.sum k.2.opposite
  have e : v + -u = v - u := by omega
  rw [e] at hF
  exact ⟨_, by show ((double.read x).sum (double.read y).opposite).map double.write = _; rw [hf]; rfl, hF.write hb⟩
theorem FV.mul {x y : Nat} {v u : Int} (h : FV x v) (k : FV y u) (hb : (v * u).natAbs < 9007199254740992) : ∃ z, floatBits .mul .f64 x y = some z ∧ FV z (v * u) := by
  obtain ⟨f, hf, hF⟩ := h.2.product k.2
  exact ⟨_, by show ((double.read x).product (double.read y)).map double.write = _; rw [hf]; rfl, hF.write hb⟩
theorem xor_sign (x : Nat) (h : x < 18446744073709551616) : x ^^^ 9223372036854775808 = if x < 9223372036854775808 then x + 9223372036854775808 else x - 9223372036854775808 := by
  have e : ∀ r : Nat, r < 9223372036854775808 → r ^^^ 9223372036854775808 = r + 9223372036854775808 := by
    intro r hr
    have h1 := Nat.two_pow_add_eq_or_of_lt (i := 63) (b := r) (by simpa using hr) 1
    apply Nat.eq_of_testBit_eq
    intro i
    rw [Nat.testBit_xor, Nat.add_comm r]
    rw [show (9223372036854775808 : Nat) + r = 2 ^ 63 * 1 + r by omega, h1, Nat.testBit_or]
    rw [show (9223372036854775808 : Nat) = 2 ^ 63 by decide, Nat.mul_one]
    by_cases hi : i = 63
    · subst hi
      rw [Nat.testBit_two_pow_self, Nat.testBit_lt_two_pow (by simpa using hr)]
      rfl
    · rw [Nat.testBit_two_pow_of_ne (Ne.symm hi)]
      simp
  by_cases hx : x < 9223372036854775808
  · rw [if_pos hx]; exact e x hx
  · rw [if_neg hx]
    have := e (x - 9223372036854775808) (by omega)
    have e2 : x = (x - 9223372036854775808) ^^^ 9223372036854775808 := by rw [this]; omega
    rw [e2, Nat.xor_assoc, Nat.xor_self, Nat.xor_zero, ← e2]
theorem FV.neg {x : Nat} {v : Int} (h : FV x v) : FV (Op.negFloat .f64 x) (-v) := by
  have e : Op.negFloat .f64 x = x ^^^ 9223372036854775808 := rfl
  have hr : double.read (x ^^^ 9223372036854775808) = (double.read x).opposite := by
    rw [xor_sign x h.1]
    have hx := h.1
    unfold Format.read
    simp only [d_sign, d_binade, d_inf, d_least]
    by_cases hlt : x < 9223372036854775808
    · rw [if_pos hlt]
      have e1 : (x + 9223372036854775808) / 9223372036854775808 % 2 = 1 := by omega
      have e2 : x / 9223372036854775808 % 2 = 0 := by omega
      have e3 : (x + 9223372036854775808) % 9223372036854775808 = x % 9223372036854775808 := by omega
      rw [e1, e2, e3]
      split
      · rfl
      · split
        · rfl
        · split <;> rfl
    · rw [if_neg hlt]
      have e1 : (x - 9223372036854775808) / 9223372036854775808 % 2 = 0 := by omega
      have e2 : x / 9223372036854775808 % 2 = 1 := by omega
      have e3 : (x - 9223372036854775808) % 9223372036854775808 = x % 9223372036854775808 := by omega
      rw [e1, e2, e3]
      split
      · rfl
      · split
        · rfl
        · split <;> rfl
  refine ⟨?_, ?_⟩
  · rw [e, xor_sign x h.1]
    have := h.1
    split <;> omega
  · rw [e, hr]; exact h.2.opposite
theorem FV.toInt {x : Nat} {v : Int} (h : FV x v) (h1 : -9223372036854775808 ≤ v) (h2 : v ≤ 9223372036854775807) : floatToIntVal .f64 x .i64 = some v := by
  unfold floatToIntVal
  have : (FloatKind.f64.decode x).toInt .zero = some v := h.2.toInt
  rw [this]
  simp only
  rw [if_pos ⟨(show IntKind.i64.min = -9223372036854775808 from rfl) ▸ h1, (show IntKind.i64.max = 9223372036854775807 from rfl) ▸ h2⟩]
end Go.Proofs.YtdkhajgfifaibaaDoor.Fl
