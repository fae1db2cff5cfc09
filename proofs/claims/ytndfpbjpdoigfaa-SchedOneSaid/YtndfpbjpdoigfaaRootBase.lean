/- What the root and the way between two stops come to. No condition. -/
import Derived.Test.YtndfpbjpdoigfaaPAx3
namespace Go.Proofs.Ytndfpbjpdoigfaa.Num
open Go.RowKit Go.Proofs.Ytndfpbjpdoigfaa.PA Go.Proofs.YtndfpbjpdoigfaaW.PrintWords Go.Proofs.YtndfpbjpdoigfaaW.PrintLast

theorem w64 {x : Int} (h : -9223372036854775808 ≤ x) (h' : x ≤ 9223372036854775807) : wrap64 x = x := by unfold wrap64; omega
theorem wf64 {x : Int} (h : (Lit.int .i64 x).wf = true) : -9223372036854775808 ≤ x ∧ x ≤ 9223372036854775807 := by
  simp [Lit.wf, IntKind.min, IntKind.max, IntKind.bits, IntKind.signed] at h
  omega
theorem Ev.succ {α : Type} {g : Nat → Option α} {r : α} (h : Ev (fun k => g (k + 1)) r) : Ev g r := Ev.step (fun _ => rfl) h
theorem Ev.orOut {α : Type} {c : Prop} [Decidable c] {G F : Nat → Option α} {r : α} (ho : Ev G r) (h : ¬ c → Ev F r) : Ev (fun k => if c then G k else F k) r := by
  by_cases hc : c
  · simpa [hc] using ho
  · simpa [hc] using h hc
theorem Ev.decOut {α : Type} {c : Prop} [Decidable c] {G : Nat → Bool → Option α} {r : α} (ho : Ev (fun k => G k true) r) (h : ¬ c → Ev (fun k => G k false) r) : Ev (fun k => G k (decide c)) r := by
  by_cases hc : c
  · simpa [hc] using ho
  · simpa [hc] using h hc

/-! The root. -/
theorem rootGo_spec (m : Int) (j : Nat) : ∀ r : Int, 0 ≤ r → (r = 0 ∨ r * r < m) → m ≤ (r + 2 ^ (j + 1)) * (r + 2 ^ (j + 1)) →
    0 ≤ rootGo m j r ∧ (rootGo m j r = 0 ∨ rootGo m j r * rootGo m j r < m) ∧ m ≤ (rootGo m j r + 1) * (rootGo m j r + 1) := by
  induction j with
  | zero =>
    intro r h0 h1 h2
    unfold rootGo
    split
    · refine ⟨by omega, .inr ‹_›, ?_⟩
      have : r + 1 + 1 = r + 2 ^ (0 + 1) := by simp; omega
      rw [this]; exact h2
    · exact ⟨h0, h1, by omega⟩
  | succ j ih =>
    intro r h0 h1 h2
    unfold rootGo
    have hp := two_pow_pos (j + 1)
    have e2 : (2 : Int) ^ (j + 1 + 1) = 2 ^ (j + 1) + 2 ^ (j + 1) := by rw [Int.pow_succ]; omega
    split
    · refine ih _ (by omega) (.inr ‹_›) ?_
      have : r + 2 ^ (j + 1) + 2 ^ (j + 1) = r + 2 ^ (j + 1 + 1) := by omega
      rw [this]; exact h2
    · exact ih r h0 h1 (by omega)
theorem sq_lt {a b : Int} (h0 : 0 ≤ a) (h : a ≤ b) : a * a ≤ b * b := Int.mul_le_mul h h h0 (by omega)
theorem rootTop_spec {m : Int} (h0 : 0 < m) (h1 : m ≤ 1152921504606846976) : 1 ≤ rootTop m ∧ rootTop m ≤ 1073741824 ∧ (rootTop m - 1) * (rootTop m - 1) < m ∧ m ≤ rootTop m * rootTop m := by
  unfold rootTop
  rw [if_pos h0]
  obtain ⟨a, b, c⟩ := rootGo_spec m 30 0 (by omega) (.inl rfl) (by
    have : ((0 : Int) + 2 ^ (30 + 1)) * (0 + 2 ^ (30 + 1)) = 4611686018427387904 := by decide
    omega)
  refine ⟨by omega, ?_, ?_, c⟩
  · rcases b with b | b
    · omega
    · by_cases hlt : rootGo m 30 0 + 1 ≤ 1073741824
      · exact hlt
      · have := sq_lt (a := 1073741824) (b := rootGo m 30 0) (by omega) (by omega)
        omega
  · have e : rootGo m 30 0 + 1 - 1 = rootGo m 30 0 := by omega
    rw [e]
    rcases b with b | b
    · rw [b]; omega
    · exact b
theorem root_unique {m r : Int} (h0 : 0 < m) (h1 : m ≤ 1152921504606846976) (hr : 1 ≤ r) (hl : (r - 1) * (r - 1) < m) (hu : m ≤ r * r) : rootTop m = r := by
  obtain ⟨a, _, c, d⟩ := rootTop_spec h0 h1
  by_cases hlt : rootTop m < r
  · have := sq_lt (a := rootTop m) (b := r - 1) (by omega) (by omega); omega
  · by_cases hgt : r < rootTop m
    · have := sq_lt (a := r) (b := rootTop m - 1) (by omega) (by omega); omega
    · omega
theorem rootTop_zero {m : Int} (h : m = 0) : rootTop m = 0 := by
  subst h
  unfold rootTop
  rw [if_neg (by omega)]
  obtain ⟨a, b, _⟩ := rootGo_spec 0 30 0 (by omega) (.inl rfl) (by
    have : ((0 : Int) + 2 ^ (30 + 1)) * (0 + 2 ^ (30 + 1)) = 4611686018427387904 := by decide
    omega)
  rcases b with b | b
  · exact b
  · have := Int.mul_nonneg a a
    omega
/-- A number brought between 0 and 2^60. -/
def capS (n : Int) : Int := mn (mx n 0) 1152921504606846976
theorem capS_bd (n : Int) : 0 ≤ capS n ∧ capS n ≤ 1152921504606846976 := by unfold capS mn mx; split <;> split <;> omega
theorem capS_in {n : Int} (h : 0 ≤ n) (h' : n ≤ 1152921504606846976) : capS n = n := by unfold capS mn mx; split <;> split <;> omega
theorem capS_big {n : Int} (h : n > 1152921504606846976) : capS n = 1152921504606846976 := by unfold capS mn mx; rw [if_neg (show ¬ n < 0 by omega), if_pos h]
theorem capS_low {n : Int} (h : n < 1) : capS n = 0 := by
  unfold capS mn mx
  by_cases h0 : n < 0
  · rw [if_pos h0, if_neg (by omega)]
  · rw [if_neg h0, if_neg (by omega)]; omega
theorem root_f (n : Int) : num_Root.f n = some (rootTop (capS n)) := rfl


/-! How far it is. -/
theorem coord_in {x : Int} (h : 0 ≤ x) (h' : x ≤ 10000) : coordP x = x := by
  unfold coordP mn mx
  rw [if_neg (by omega), if_neg (by omega)]
def sqD (ax ay bx b_y : Int) : Int := (coordP ax - coordP bx) * (coordP ax - coordP bx) + (coordP ay - coordP b_y) * (coordP ay - coordP b_y)
/-- How far it is from one place to another one. -/
def farZ (ax ay bx b_y : Int) : Int := rootTop (sqD ax ay bx b_y)
theorem sqD_bd (ax ay bx b_y : Int) : 0 ≤ sqD ax ay bx b_y ∧ sqD ax ay bx b_y ≤ 200000000 := by
  have h1 := coordP_bd ax; have h2 := coordP_bd ay; have h3 := coordP_bd bx; have h4 := coordP_bd b_y
  have s1 := sq_bd4 (x := coordP ax - coordP bx) (by omega) (by omega)
  have s2 := sq_bd4 (x := coordP ay - coordP b_y) (by omega) (by omega)
  unfold sqD
  omega
theorem far_f (a0 a1 a2 a3 a4 a5 b0 b1 b2 b3 b4 b5 : Int) : plane_Far.f a0 a1 a2 a3 a4 a5 b0 b1 b2 b3 b4 b5 = some (farZ a0 a1 b0 b1) := by
  have h := sqD_bd a0 a1 b0 b1
  unfold plane_Far.f
  rw [root_f, capS_in]
  · rfl
  · exact h.1
  · have := h.2; unfold sqD at this; omega
theorem farZ_spec (ax ay bx b_y : Int) : 0 ≤ farZ ax ay bx b_y ∧ farZ ax ay bx b_y ≤ 14143 ∧ sqD ax ay bx b_y ≤ farZ ax ay bx b_y * farZ ax ay bx b_y ∧ (0 < sqD ax ay bx b_y → 1 ≤ farZ ax ay bx b_y ∧ (farZ ax ay bx b_y - 1) * (farZ ax ay bx b_y - 1) < sqD ax ay bx b_y) ∧ (sqD ax ay bx b_y = 0 → farZ ax ay bx b_y = 0) := by
  have h := sqD_bd ax ay bx b_y
  unfold farZ
  by_cases hz : sqD ax ay bx b_y = 0
  · have := rootTop_zero hz
    rw [this, hz]; omega
  · obtain ⟨a, b, c, d⟩ := rootTop_spec (m := sqD ax ay bx b_y) (by omega) (by omega)
    refine ⟨by omega, ?_, d, fun _ => ⟨a, c⟩, fun h => absurd h hz⟩
    by_cases hb : rootTop (sqD ax ay bx b_y) ≤ 14143
    · exact hb
    · have := sq_lt (a := 14143) (b := rootTop (sqD ax ay bx b_y) - 1) (by omega) (by omega)
      omega
theorem sqD_comm (ax ay bx b_y : Int) : sqD bx b_y ax ay = sqD ax ay bx b_y := by
  unfold sqD; grind
theorem farZ_comm (ax ay bx b_y : Int) : farZ bx b_y ax ay = farZ ax ay bx b_y := by unfold farZ; rw [sqD_comm]
theorem sq_nn (x : Int) : 0 ≤ x * x := by
  by_cases h : 0 ≤ x
  · exact Int.mul_nonneg h h
  · have := Int.mul_nonneg (show 0 ≤ -x by omega) (show 0 ≤ -x by omega)
    rwa [Int.neg_mul_neg] at this
theorem sqD_zero (ax ay bx b_y : Int) : sqD ax ay bx b_y = 0 ↔ coordP ax = coordP bx ∧ coordP ay = coordP b_y := by
  unfold sqD
  have h1 := sq_nn (coordP ax - coordP bx)
  have h2 := sq_nn (coordP ay - coordP b_y)
  constructor
  · intro h
    have e1 : (coordP ax - coordP bx) * (coordP ax - coordP bx) = 0 := by omega
    have e2 : (coordP ay - coordP b_y) * (coordP ay - coordP b_y) = 0 := by omega
    rw [Int.mul_eq_zero] at e1 e2
    omega
  · rintro ⟨h1, h2⟩
    rw [h1, h2]; simp
theorem farZ_zero (ax ay bx b_y : Int) : farZ ax ay bx b_y = 0 ↔ coordP ax = coordP bx ∧ coordP ay = coordP b_y := by
  rw [← sqD_zero]
  have h := farZ_spec ax ay bx b_y
  have hb := sqD_bd ax ay bx b_y
  constructor
  · intro hz
    by_cases h0 : 0 < sqD ax ay bx b_y
    · have := h.2.2.2.1 h0; omega
    · omega
  · exact h.2.2.2.2
/-- No longer than by a third place. -/
theorem dot_le (u1 u2 v1 v2 p q : Int) (hp : 0 ≤ p) (hq : 0 ≤ q) (h1 : u1 * u1 + u2 * u2 ≤ p * p) (h2 : v1 * v1 + v2 * v2 ≤ q * q) : u1 * v1 + u2 * v2 ≤ p * q := by
  have hpq := Int.mul_nonneg hp hq
  have hm := Int.mul_le_mul h1 h2 (by have := sq_nn v1; have := sq_nn v2; omega) (sq_nn p)
  have hl := sq_nn (u1 * v2 - u2 * v1)
  have e : (u1 * v1 + u2 * v2) * (u1 * v1 + u2 * v2) + (u1 * v2 - u2 * v1) * (u1 * v2 - u2 * v1) = (u1 * u1 + u2 * u2) * (v1 * v1 + v2 * v2) := by grind
  have e2 : p * p * (q * q) = (p * q) * (p * q) := by grind
  by_cases h : u1 * v1 + u2 * v2 ≤ p * q
  · exact h
  · exfalso
    have := sq_lt (a := p * q + 1) (b := u1 * v1 + u2 * v2) (by omega) (by omega)
    have e3 : (p * q + 1) * (p * q + 1) = (p * q) * (p * q) + 2 * (p * q) + 1 := by grind
    omega
theorem farZ_tri (ax ay bx b_y cx cy : Int) : farZ ax ay bx b_y ≤ farZ ax ay cx cy + farZ cx cy bx b_y := by
  have h1 := farZ_spec ax ay cx cy
  have h2 := farZ_spec cx cy bx b_y
  have h := farZ_spec ax ay bx b_y
  generalize farZ ax ay cx cy = p at *
  generalize farZ cx cy bx b_y = q at *
  generalize farZ ax ay bx b_y = r at *
  by_cases h0 : 0 < sqD ax ay bx b_y
  · obtain ⟨r1, r2⟩ := h.2.2.2.1 h0
    have hd := dot_le (coordP ax - coordP cx) (coordP ay - coordP cy) (coordP cx - coordP bx) (coordP cy - coordP b_y) p q h1.1 h2.1 h1.2.2.1 h2.2.2.1
    have e : sqD ax ay bx b_y = sqD ax ay cx cy + sqD cx cy bx b_y + 2 * ((coordP ax - coordP cx) * (coordP cx - coordP bx) + (coordP ay - coordP cy) * (coordP cy - coordP b_y)) := by unfold sqD; grind
    have e2 : (p + q) * (p + q) = p * p + q * q + 2 * (p * q) := by grind
    have l1 := h1.2.2.1
    have l2 := h2.2.2.1
    by_cases hle : r ≤ p + q
    · exact hle
    · exfalso
      have := sq_lt (a := p + q) (b := r - 1) (by omega) (by omega)
      omega
  · have := h.2.2.2.2 (by have := sqD_bd ax ay bx b_y; omega)
    omega
theorem farZ_345 : farZ 0 0 3 4 = 5 := root_unique (by decide) (by decide) (by decide) (by decide) (by decide)
theorem farZ_11 : farZ 0 0 1 1 = 2 := root_unique (by decide) (by decide) (by decide) (by decide) (by decide)

end Go.Proofs.Ytndfpbjpdoigfaa.Num
