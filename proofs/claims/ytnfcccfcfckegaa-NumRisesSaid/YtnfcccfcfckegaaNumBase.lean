/- What the functions of layer 1 (num) come to, told by plain numbers. No condition. -/
import Derived.Test.YtnfcccfcfckegaaPAx1
import Derived.Lib.Mul64
import Derived.Laws.MathBits
namespace Go.Proofs.Ytnfcccfcfckegaa.Num
open Go.RowKit Go.Proofs.Ytnfcccfcfckegaa.PA Go.Proofs.YtnfcccfcfckegaaW.PrintWords Go.Proofs.YtnfcccfcfckegaaW.PrintLast

theorem w64 {x : Int} (h : -9223372036854775808 ≤ x) (h' : x ≤ 9223372036854775807) : wrap64 x = x := by unfold wrap64; omega
theorem wf64 {x : Int} (h : (Lit.int .i64 x).wf = true) : -9223372036854775808 ≤ x ∧ x ≤ 9223372036854775807 := by
  simp [Lit.wf, IntKind.min, IntKind.max, IntKind.bits, IntKind.signed] at h
  omega

/-- One number of a sum. -/
def clamp (x : Int) : Int := mn (mx x 0) 1152921504606846976
def addS (n x : Int) : Int := mn (n + clamp x) 1152921504606846976
def sumS (n : Int) (l : List Int) : Int := l.foldl addS n
theorem clamp_bd (x : Int) : 0 ≤ clamp x ∧ clamp x ≤ 1152921504606846976 := by unfold clamp mn mx; split <;> split <;> omega
theorem addS_bd {n : Int} (x : Int) (h0 : 0 ≤ n) : 0 ≤ addS n x ∧ addS n x ≤ 1152921504606846976 := by have := clamp_bd x; unfold addS mn; split <;> omega
theorem sumS_bd (l : List Int) : ∀ {n : Int}, 0 ≤ n → n ≤ 1152921504606846976 → 0 ≤ sumS n l ∧ sumS n l ≤ 1152921504606846976 := by
  induction l with
  | nil => intro n h h'; exact ⟨h, h'⟩
  | cons x l ih => intro n h h'; have := addS_bd x h; exact ih this.1 this.2

theorem rd_nat (l : List Int) (i : Nat) (h : i < l.length) : rd l (i : Int) = l[i] := by
  unfold rd
  simp [h]

theorem sum_loop (l : List Int) (hl : l.length ≤ maxLen) (d : Nat) : ∀ (i : Nat) (n : Int), i + d = l.length → 0 ≤ n → n ≤ 1152921504606846976 →
    Ev (fun k => num_Sum.l0 k n l (l.length : Int) (i : Int)) (sumS n (l.drop i)) := by
  unfold maxLen at hl
  induction d with
  | zero =>
    intro i n hi h0 h1
    refine Ev.step (f := fun _ => some n) (fun k => ?_) ?_
    · simp only [num_Sum.l0]; rw [if_neg (by omega)]
    · rw [List.drop_of_length_le (by omega)]; exact Ev.now _
  | succ d ih =>
    intro i n hi h0 h1
    have hlt : i < l.length := by omega
    have hc := clamp_bd l[i]
    have hb := addS_bd l[i] h0
    have e := ih (i + 1) (addS n l[i]) (by omega) hb.1 hb.2
    rw [List.drop_eq_getElem_cons hlt]
    refine Ev.step (fun k => ?_) e
    simp only [num_Sum.l0]
    rw [if_pos (by omega), if_pos (by omega), if_pos (by omega), rd_nat l i hlt]
    have e1 : wrap64 (n + mn (mx l[i] 0) 1152921504606846976) = n + clamp l[i] := by unfold clamp at *; exact w64 (by omega) (by omega)
    have e2 : wrap64 ((i : Int) + 1) = ((i + 1 : Nat) : Int) := by rw [w64 (by omega) (by omega)]; omega
    rw [e1, e2]
    rfl
theorem sum_ev (l : List Int) (hl : l.length ≤ maxLen) : Ev (fun k => num_Sum.f k l) (sumS 0 l) := by
  have := sum_loop l hl l.length 0 0 (by omega) (by omega) (by omega)
  simpa [num_Sum.f] using this

/-! The root. -/
theorem rootGo_spec (m : Int) (j : Nat) : ∀ r : Int, 0 ≤ r → (r = 0 ∨ r * r < m) → m ≤ (r + 2 ^ (j + 1)) * (r + 2 ^ (j + 1)) →
    0 ≤ rootGo m j r ∧ (rootGo m j r = 0 ∨ rootGo m j r * rootGo m j r < m) ∧ m ≤ (rootGo m j r + 1) * (rootGo m j r + 1) := by
  induction j with
  | zero =>
    intro r h0 h1 h2
    unfold rootGo
    split
    · refine ⟨by omega, .inr ‹_›, ?_⟩
      have : r + 1 + 1 = r + 2 ^ (0 + 1) := by simp; omega
      rw [this]; exact h2
    · exact ⟨h0, h1, by omega⟩
  | succ j ih =>
    intro r h0 h1 h2
    unfold rootGo
    have hp := two_pow_pos (j + 1)
    have e2 : (2 : Int) ^ (j + 1 + 1) = 2 ^ (j + 1) + 2 ^ (j + 1) := by rw [Int.pow_succ]; omega
    split
    · refine ih _ (by omega) (.inr ‹_›) ?_
      have : r + 2 ^ (j + 1) + 2 ^ (j + 1) = r + 2 ^ (j + 1 + 1) := by omega
      rw [this]; exact h2
    · exact ih r h0 h1 (by omega)
theorem sq_lt {a b : Int} (h0 : 0 ≤ a) (h : a ≤ b) : a * a ≤ b * b := Int.mul_le_mul h h h0 (by omega)
theorem rootTop_spec {m : Int} (h0 : 0 < m) (h1 : m ≤ 1152921504606846976) : 1 ≤ rootTop m ∧ rootTop m ≤ 1073741824 ∧ (rootTop m - 1) * (rootTop m - 1) < m ∧ m ≤ rootTop m * rootTop m := by
  unfold rootTop
  rw [if_pos h0]
  obtain ⟨a, b, c⟩ := rootGo_spec m 30 0 (by omega) (.inl rfl) (by
    have : ((0 : Int) + 2 ^ (30 + 1)) * (0 + 2 ^ (30 + 1)) = 4611686018427387904 := by decide
    omega)
  refine ⟨by omega, ?_, ?_, c⟩
  · rcases b with b | b
    · omega
    · by_cases hlt : rootGo m 30 0 + 1 ≤ 1073741824
      · exact hlt
      · have := sq_lt (a := 1073741824) (b := rootGo m 30 0) (by omega) (by omega)
        omega
  · have e : rootGo m 30 0 + 1 - 1 = rootGo m 30 0 := by omega
    rw [e]
    rcases b with b | b
    · rw [b]; omega
    · exact b
theorem root_unique {m r : Int} (h0 : 0 < m) (h1 : m ≤ 1152921504606846976) (hr : 1 ≤ r) (hl : (r - 1) * (r - 1) < m) (hu : m ≤ r * r) : rootTop m = r := by
  obtain ⟨a, _, c, d⟩ := rootTop_spec h0 h1
  by_cases hlt : rootTop m < r
  · have := sq_lt (a := rootTop m) (b := r - 1) (by omega) (by omega); omega
  · by_cases hgt : r < rootTop m
    · have := sq_lt (a := r) (b := rootTop m - 1) (by omega) (by omega); omega
    · omega
theorem rootTop_zero {m : Int} (h : m = 0) : rootTop m = 0 := by
  subst h
  unfold rootTop
  rw [if_neg (by omega)]
  obtain ⟨a, b, _⟩ := rootGo_spec 0 30 0 (by omega) (.inl rfl) (by
    have : ((0 : Int) + 2 ^ (30 + 1)) * (0 + 2 ^ (30 + 1)) = 4611686018427387904 := by decide
    omega)
  rcases b with b | b
  · exact b
  · have := Int.mul_nonneg a a
    omega
/-- A number brought between 0 and 2^60. -/
def capS (n : Int) : Int := mn (mx n 0) 1152921504606846976
theorem capS_bd (n : Int) : 0 ≤ capS n ∧ capS n ≤ 1152921504606846976 := by unfold capS mn mx; split <;> split <;> omega
theorem capS_in {n : Int} (h : 0 ≤ n) (h' : n ≤ 1152921504606846976) : capS n = n := by unfold capS mn mx; split <;> split <;> omega
theorem capS_big {n : Int} (h : n > 1152921504606846976) : capS n = 1152921504606846976 := by unfold capS mn mx; rw [if_neg (show ¬ n < 0 by omega), if_pos h]
theorem capS_low {n : Int} (h : n < 1) : capS n = 0 := by
  unfold capS mn mx
  by_cases h0 : n < 0
  · rw [if_pos h0, if_neg (by omega)]
  · rw [if_neg h0, if_neg (by omega)]; omega
theorem root_f (n : Int) : num_Root.f n = some (rootTop (capS n)) := rfl

/-! Safe numbers. -/
def safeB (x : Int) : Bool := decide (-1152921504606846976 ≤ x) && decide (x ≤ 1152921504606846976)
theorem safeB_iff (x : Int) : safeB x = true ↔ -1152921504606846976 ≤ x ∧ x ≤ 1152921504606846976 := by simp [safeB]
theorem safe_loop (l : List Int) (hl : l.length ≤ maxLen) (d : Nat) : ∀ i : Nat, i + d = l.length → Ev (fun k => num_safe.l0 k l (l.length : Int) (i : Int)) ((l.drop i).all safeB) := by
  unfold maxLen at hl
  induction d with
  | zero =>
    intro i hi
    refine Ev.step (f := fun _ => some true) (fun k => ?_) ?_
    · simp only [num_safe.l0]; rw [if_neg (by omega)]
    · rw [List.drop_of_length_le (by omega)]; exact Ev.now _
  | succ d ih =>
    intro i hi
    have hlt : i < l.length := by omega
    rw [List.drop_eq_getElem_cons hlt, List.all_cons]
    have e2 : wrap64 ((i : Int) + 1) = ((i + 1 : Nat) : Int) := by rw [w64 (by omega) (by omega)]; omega
    by_cases h1 : l[i] < -1152921504606846976
    · have e : safeB l[i] = false := by simp [safeB]; omega
      rw [e, Bool.false_and]
      refine Ev.step (f := fun _ => some false) (fun k => ?_) (Ev.now _)
      simp only [num_safe.l0]; rw [if_pos (by omega), if_pos (by omega), if_pos (by omega), rd_nat l i hlt, if_pos (by omega)]
    · by_cases h2 : l[i] > 1152921504606846976
      · have e : safeB l[i] = false := by simp [safeB]; omega
        rw [e, Bool.false_and]
        refine Ev.step (f := fun _ => some false) (fun k => ?_) (Ev.now _)
        simp only [num_safe.l0]; rw [if_pos (by omega), if_pos (by omega), if_pos (by omega), rd_nat l i hlt, if_neg (by omega), if_pos (by omega)]
      · have e : safeB l[i] = true := by simp [safeB]; omega
        rw [e, Bool.true_and]
        refine Ev.step (fun k => ?_) (ih (i + 1) (by omega))
        simp only [num_safe.l0]; rw [if_pos (by omega), if_pos (by omega), if_pos (by omega), rd_nat l i hlt, if_neg (by omega), if_neg (by omega), e2]
theorem safe_ev (l : List Int) (hl : l.length ≤ maxLen) : Ev (fun k => num_safe.f k l) (l.all safeB) := by
  have := safe_loop l hl l.length 0 (by omega)
  simpa [num_safe.f] using this

/-! The product of two words. -/
theorem u64w {x : Int} (h : 0 ≤ x) (h' : x < 18446744073709551616) : IntKind.u64.wrap x = x := by
  simp only [IntKind.wrap, IntKind.bits, IntKind.signed, Bool.false_and, Bool.false_eq_true, if_false]
  omega
theorem mul64_f (a b : Nat) (ha : a < 18446744073709551616) (hb : b < 18446744073709551616) : bits_Mul64.f (a : Int) (b : Int) = some (((a * b / 18446744073709551616 : Nat) : Int), ((a * b % 18446744073709551616 : Nat) : Int)) := by
  obtain ⟨h1, h2, h3, h4⟩ := Lib.mul64_hi a b ha hb
  have la := Go.and_low32 (a : Int) (by omega) (by omega)
  have lb := Go.and_low32 (b : Int) (by omega) (by omega)
  have hq := Lib.half_mul_le (a := a / 4294967296) (b := b / 4294967296) (by omega) (by omega)
  have hq2 := Lib.half_mul_le (a := a / 4294967296) (b := b % 4294967296) (by omega) (by omega)
  have hq3 := Lib.half_mul_le (a := a % 4294967296) (b := b / 4294967296) (by omega) (by omega)
  have hab : a * b / 18446744073709551616 < 18446744073709551616 := by
    have := Nat.mul_lt_mul'' ha hb
    omega
  unfold bits_Mul64.f
  rw [la, lb]
  have ea : (a : Int) / 4294967296 = ((a / 4294967296 : Nat) : Int) := by omega
  have eb : (b : Int) / 4294967296 = ((b / 4294967296 : Nat) : Int) := by omega
  have ra : (a : Int) % 4294967296 = ((a % 4294967296 : Nat) : Int) := by omega
  have rb : (b : Int) % 4294967296 = ((b % 4294967296 : Nat) : Int) := by omega
  rw [ea, eb, ra, rb]
  simp only [← Int.natCast_mul]
  generalize a / 4294967296 * (b / 4294967296) = x at *
  generalize a / 4294967296 * (b % 4294967296) = y at *
  generalize a % 4294967296 * (b % 4294967296) = z at *
  generalize a % 4294967296 * (b / 4294967296) = v at *
  generalize a * b = p at *
  rw [u64w (x := (x : Int)) (by omega) (by omega), u64w (x := (y : Int)) (by omega) (by omega), u64w (x := (z : Int)) (by omega) (by omega), u64w (x := (v : Int)) (by omega) (by omega)]
  rw [u64w (x := (y : Int) + (z : Int) / 4294967296) (by omega) (by omega)]
  rw [Go.and_low32 ((y : Int) + (z : Int) / 4294967296) (by omega) (by omega)]
  rw [u64w (x := ((y : Int) + (z : Int) / 4294967296) % 4294967296 + (v : Int)) (by omega) (by omega)]
  rw [u64w (x := (x : Int) + ((y : Int) + (z : Int) / 4294967296) / 4294967296) (by omega) (by omega)]
  rw [u64w (x := (x : Int) + ((y : Int) + (z : Int) / 4294967296) / 4294967296 + (((y : Int) + (z : Int) / 4294967296) % 4294967296 + (v : Int)) / 4294967296) (by omega) (by omega)]
  have e1 : IntKind.u64.wrap (p : Int) = ((p % 18446744073709551616 : Nat) : Int) := by
    simp only [IntKind.wrap, IntKind.bits, IntKind.signed, Bool.false_and, Bool.false_eq_true, if_false]
    omega
  rw [e1]
  congr 2
  omega

end Go.Proofs.Ytnfcccfcfckegaa.Num
