-- Printed for this claim by wip/tools/xprint.py over the kit's print; the contracts marked BY HAND are this session's own.
import Derived.Test.YtjiammiihamkiaaPBx0
namespace Go.Proofs.Ytjiammiihamkiaa.PB
open Go.RowKit Go.Proofs.YtjiammiihamkiaaW.PrintWords Go.Proofs.YtjiammiihamkiaaW.PrintLast Go.Proofs.YtjiammiihamkiaaW.PrintMore
attribute [local go_sem] max2_int min2_int max_two min_two max_three min_three max_four min_four   -- for this text's walks alone
set_option linter.unusedVariables false
set_option linter.unusedSimpArgs false

/-! ### set_bit: function 72 -/
def set_bit.f (a0 : Int) : Option (Int) := if a0 < 0 then (some 0) else (if a0 > 63 then (some 0) else (if 0 ≤ a0 then (some (shl .u64 1 a0)) else (none)))
set_option maxHeartbeats 8000000 in
set_option maxRecDepth 100000 in
theorem set_bit.calls (a0 : Int) (r : Int) (w : World) (h : set_bit.f a0 = some r) :
    Calls Try.prog 72 #[.int .i64 a0] w fun e w' => e = .returned (.int .u64 r) ∧ Drawn0 w w' := by
  have H : (if a0 < 0 then (some 0) else (if a0 > 63 then (some 0) else (if 0 ≤ a0 then (some (shl .u64 1 a0)) else (none)))) = some r := h
  clear h
  by_cases c2 : a0 < 0
  · rw [if_pos c2] at H
    have c2b0 : decide (a0 < 0) = true := decide_eq_true c2
    clear c2
    obtain rfl := Option.some.inj H
    go_enter Try.func72, Try.ntmps72
    go_wp2
    go_ret
    exact ⟨by first | rfl | (simp; done) | (simp [*]; done), by repeat (first | exact Drawn0.refl _ | apply Drawn0.step)⟩
  · rw [if_neg c2] at H
    have c2b0 : decide (a0 < 0) = false := decide_eq_false c2
    clear c2
    by_cases c3 : a0 > 63
    · rw [if_pos c3] at H
      have c3b0 : decide (63 < a0) = true := decide_eq_true c3
      clear c3
      obtain rfl := Option.some.inj H
      go_enter Try.func72, Try.ntmps72
      go_wp2
      go_ret
      exact ⟨by first | rfl | (simp; done) | (simp [*]; done), by repeat (first | exact Drawn0.refl _ | apply Drawn0.step)⟩
    · rw [if_neg c3] at H
      have c3b0 : decide (63 < a0) = false := decide_eq_false c3
      clear c3
      by_cases c4 : 0 ≤ a0
      · rw [if_pos c4] at H
        have c4b0 := eq_true c4
        have c4b1 : decide (0 ≤ a0) = true := decide_eq_true c4
        clear c4
        obtain ⟨ji5, hji5⟩ : ∃ j_ : Int, (shl .u64 1 a0) = j_ := ⟨_, rfl⟩
        replace H : (some ji5) = some r := by first | (rw [hji5] at H; exact H) | (simp only [hji5] at H ⊢; exact H)
        have hji5_ : (IntKind.u64.wrap (1 * 2 ^ min a0.toNat 64)) = ji5 := hji5
        have hji5z : a0 ≤ 64 → (IntKind.u64.wrap (1 * 2 ^ a0.toNat)) = ji5 := shl_small hji5
        have hji5u : (IntKind.u64.wrap (2 ^ min a0.toNat 64)) = ji5 := by have h_ := hji5_; rw [Int.one_mul] at h_; exact h_
        have hji5v : a0 ≤ 64 → (IntKind.u64.wrap (2 ^ a0.toNat)) = ji5 := fun hle_ => by have h_ := hji5z hle_; rw [Int.one_mul] at h_; exact h_
        obtain rfl := Option.some.inj H
        go_enter Try.func72, Try.ntmps72
        go_wp2
        go_ret
        exact ⟨by first | rfl | (simp; done) | (simp only [← hji5] <;> (first | rfl | simp)) | (simp [*]; done), by repeat (first | exact Drawn0.refl _ | apply Drawn0.step)⟩
      · rw [if_neg c4] at H
        exact absurd H (by simp)

/-! ### set_Has: function 68 -/
def set_Has.f (a0 : Int) (a1 : Int) : Option (Bool) := (set_bit.f a1).bind fun t101 => (some ((Go.bits .and .u64 a0 t101) != 0))
set_option maxHeartbeats 8000000 in
set_option maxRecDepth 100000 in
theorem set_Has.calls (a0 : Int) (a1 : Int) (r : Bool) (w : World) (h : set_Has.f a0 a1 = some r) :
    Calls Try.prog 68 #[.int .u64 a0, .int .i64 a1] w fun e w' => e = .returned (.bool r) ∧ Drawn0 w w' := by
  have H : ((set_bit.f a1).bind fun t101 => (some ((Go.bits .and .u64 a0 t101) != 0))) = some r := h
  clear h
  replace H := Option.bind_eq_some_iff.mp H
  obtain ⟨t101, A30, H⟩ := H
  replace H : (some ((Go.bits .and .u64 a0 t101) != 0)) = some r := H
  have A3 := Aside0.mk A30
  clear A30
  obtain rfl := Option.some.inj H
  go_enter Try.func68, Try.ntmps68
  go_wp2_with (first | ((with_reducible refine gate_callee (f := 72) rfl ?_); refine goesL_ (some 7) rfl rfl Try.func72 (by kernel_rfl) rfl #[.int .i64 a1] rfl (by (try simp only [List.map_toArray, List.map_cons, List.map_nil]); first | done | rfl | (simp only [List.length_drop, List.length_take]; rfl)) ?_; (with_reducible refine (set_bit.calls a1 t101 _ A3.out).mono ?_); rintro e w' ⟨rfl, ⟨nd, rfl⟩⟩; refine ⟨_, rfl, ?_⟩))
  go_ret
  exact ⟨by first | rfl | (simp; done) | (simp [*]; done), by repeat (first | exact Drawn0.refl _ | apply Drawn0.step)⟩

-- NOT PRINTED: function 30 (plane_place)

/-! ### num_Root: function 31, BY HAND -/
theorem hidI {p : Prop} (h : p) : Hid p := h
def rootGo (n : Int) : Nat → Int → Int
  | 0, r => if (r + 1) * (r + 1) < n then r + 1 else r
  | j + 1, r => rootGo n j (if (r + 2 ^ (j + 1)) * (r + 2 ^ (j + 1)) < n then r + 2 ^ (j + 1) else r)
def rootTop (m : Int) : Int := if 0 < m then rootGo m 30 0 + 1 else rootGo m 30 0
def num_Root.f (a0 : Int) : Option Int := some (rootTop (mn (mx a0 0) 1152921504606846976))

theorem sq_bd {x : Int} (h0 : 0 ≤ x) (h : x ≤ 2147483648) : 0 ≤ x * x ∧ x * x ≤ 4611686018427387904 := by
  refine ⟨Int.mul_nonneg h0 h0, ?_⟩
  have := Int.mul_le_mul h h h0 (by omega)
  omega
theorem two_pow_half (j : Nat) : (2 : Int) ^ (j + 1) / 2 = 2 ^ j := by rw [Int.pow_succ]; omega
theorem two_pow_pos (j : Nat) : (1 : Int) ≤ 2 ^ j := by have : (0:Int) < 2 ^ j := Int.pow_pos (by omega); omega

theorem root_next {q x b r : Int} {j : Nat} (hj : b = 2 ^ j) (hb2 : 0 < b / 2) (HR : (if 0 < q then rootGo q j x + 1 else rootGo q j x) = r) :
    ∃ i : Nat, b / 2 = 2 ^ i ∧ (∀ y, y = (if (x + b) * (x + b) < q then x + b else x) → (if 0 < q then rootGo q i y + 1 else rootGo q i y) = r) := by
  cases j with
  | zero => subst hj; exact absurd hb2 (by decide)
  | succ i =>
    refine ⟨i, by rw [hj]; exact two_pow_half i, ?_⟩
    rintro y rfl
    rw [hj]
    simpa only [rootGo] using HR
theorem root_last {q x b r : Int} {j : Nat} (hj : b = 2 ^ j) (hb : 1 ≤ b) (hb2 : b / 2 ≤ 0) (HR : (if 0 < q then rootGo q j x + 1 else rootGo q j x) = r) :
    (∀ y, y = (if (x + b) * (x + b) < q then x + b else x) → (if 0 < q then y + 1 else y) = r) := by
  have hb1 : b = 1 := by omega
  cases j with
  | zero =>
    rintro y rfl
    rw [hb1]
    simpa only [rootGo] using HR
  | succ i =>
    have := two_pow_pos i
    rw [Int.pow_succ] at hj
    omega
set_option maxHeartbeats 2000000 in
set_option maxRecDepth 100000 in
theorem num_Root.calls (n : Int) (r : Int) (w : World) (h : num_Root.f n = some r) :
    Calls Try.prog 31 #[.int .i64 n] w fun e w' => e = .returned (.int .i64 r) ∧ Below w.heap.size w w' := by
  unfold num_Root.f at h
  injection h with h
  obtain ⟨q1, hq1⟩ : ∃ q1, (if n < 0 then 0 else n) = q1 := ⟨_, rfl⟩
  obtain ⟨q, hq⟩ : ∃ q, (if 1152921504606846976 < q1 then 1152921504606846976 else q1) = q := ⟨_, rfl⟩
  have e0 : mn (mx n 0) 1152921504606846976 = q := by unfold mn mx; rw [hq1, hq]
  rw [e0] at h
  clear e0
  have HH := hidI h
  have hge1 : 0 ≤ q1 := by rw [← hq1]; split <;> omega
  have hlo : q ≤ 1152921504606846976 := by rw [← hq]; split <;> omega
  have hge : 0 ≤ q := by rw [← hq]; split <;> omega
  clear h
  go_enter Try.func31, Try.ntmps31
  go_wp2
  refine wp_scope_jumps 0 (fun a' w' => w' = w ∧ ∃ (x b : Int) (j : Nat) (u1 u5 u6 u7 u8 u9 u10 u11 u12 u13 u14 u15 u16 u17 u18 u19 u20 u21 u22 u23 u24 u25 u26 : Value), a' = { tmps := #[.int .i64 q, u1, .int .i64 0, .int .i64 x, .int .i64 b, u5, u6, u7, u8, u9, u10, u11, u12, u13, u14, u15, u16, u17, u18, u19, u20, u21, u22, u23, u24, u25, u26], defers := [] } ∧ Hid (b = 2 ^ j) ∧ 0 ≤ x ∧ 1 ≤ b ∧ x + 2 * b ≤ 2147483648 ∧ Hid ((if 0 < q then rootGo q j x + 1 else rootGo q j x) = r)) (fun a' _ => (intOf (a'.tmps.getD 4 undef)).toNat) rfl ?_ ?_
  · have NX := hidI (root_next (x := 0) (b := 1073741824) (j := 30) (by decide) (by decide) HH.out)
    go_wp2
    go_step3
    go_wp2
    go_step3
    obtain ⟨i, hi, hn⟩ := NX.out
    exact ⟨rfl, rfl, 0, 536870912, i, _, _, _, _, _, _, _, _, _, _, _, _, _, _, _, _, _, _, _, _, _, _, _, rfl, hidI (by rw [← hi]; rfl), by omega, by omega, by omega, hidI (hn _ (by rw [if_neg (by omega)]))⟩
  · rintro a' w' ⟨rfl, x, b, j, u1, u5, u6, u7, u8, u9, u10, u11, u12, u13, u14, u15, u16, u17, u18, u19, u20, u21, u22, u23, u24, u25, u26, rfl, hj, hx, hb, hxb, HR⟩
    clear hq hq1
    have hsq := sq_bd (x := x + b) (by omega) (by omega)
    obtain ⟨hs1, hs2⟩ := hsq
    by_cases hlt : (x + b) * (x + b) < q
    · have hq0 : 0 < q := by omega
      by_cases hb2 : 0 < b / 2
      · have NX := hidI (root_next hj.out hb2 HR.out)
        go_wp2
        go_step3
        obtain ⟨i, hi, hn⟩ := NX.out
        exact ⟨rfl, ⟨rfl, _, _, i, _, _, _, _, _, _, _, _, _, _, _, _, _, _, _, _, _, _, _, _, _, _, _, rfl, hidI hi, by omega, by omega, by omega, hidI (hn _ (by rw [if_pos (by omega)]))⟩, by simp [intOf]; omega⟩
      · have NX := hidI (root_last hj.out hb (by omega) HR.out)
        go_wp2
        simp only [Exit.jump]
        go_ret
        have hn := NX.out _ rfl
        rw [if_pos hlt, if_pos hq0] at hn
        exact ⟨by rw [← hn]; rfl, Below.refl _ _⟩
    · by_cases hb2 : 0 < b / 2
      · have NX := hidI (root_next hj.out hb2 HR.out)
        go_wp2
        go_step3
        obtain ⟨i, hi, hn⟩ := NX.out
        exact ⟨rfl, ⟨rfl, _, _, i, _, _, _, _, _, _, _, _, _, _, _, _, _, _, _, _, _, _, _, _, _, _, _, rfl, hidI hi, by omega, by omega, by omega, hidI (hn _ (by rw [if_neg (by omega)]))⟩, by simp [intOf]; omega⟩
      · have NX := hidI (root_last hj.out hb (by omega) HR.out)
        by_cases hq0 : 0 < q
        · go_wp2
          simp only [Exit.jump]
          go_ret
          have hn := NX.out _ rfl
          simp only [if_neg (show ¬ ((x + b) * (x + b) < q) by omega), if_pos hq0] at hn
          exact ⟨by rw [← hn]; rfl, Below.refl _ _⟩
        · go_wp2
          simp only [Exit.jump]
          go_ret
          have hn := NX.out _ rfl
          simp only [if_neg (show ¬ ((x + b) * (x + b) < q) by omega), if_neg (show ¬ (0 < q) by omega)] at hn
          exact ⟨by rw [← hn]; rfl, Below.refl _ _⟩

/-! ### plane_Far: function 17, BY HAND -/
def coordP (n : Int) : Int := mn (mx n 0) 10000
theorem bound_calls (n : Int) (w : World) : Calls Try.prog 49 #[.int .i64 n] w fun e w' => e = .returned (.float .f64 (floatOfInt .f64 (coordP n))) ∧ w = w' := by
  obtain ⟨q1, hq1⟩ : ∃ q1, (if n < 0 then 0 else n) = q1 := ⟨_, rfl⟩
  obtain ⟨q, hq⟩ : ∃ q, (if 10000 < q1 then 10000 else q1) = q := ⟨_, rfl⟩
  have e0 : coordP n = q := by unfold coordP mn mx; rw [hq1, hq]
  rw [e0]
  clear e0
  have hconv : ∀ (W : World), (convert 3 62 (.int .i64 q)).run Try.prog W = .ok (.float .f64 (floatOfInt .f64 q)) W := fun W => run_convert_int_float W 3 62 .i64 .f64 q (by kernel_rfl) (by kernel_rfl)
  go_enter Try.func49, Try.ntmps49
  go_wp2
  go_ret
  exact ⟨rfl, rfl⟩

def PlacePost (w : World) (a0 a1 a2 a3 a4 a5 : Int) (e : Ending) (w' : World) : Prop := e = .returned (.complex .f64 (floatOfInt .f64 (coordP a0)) (floatOfInt .f64 (coordP a1))) ∧ ∃ n, w' = (w.alloc (.cells #[.int .i64 a0, .int .i64 a1, .int .i64 a2, .int .i64 a3, .int .i64 a4, .int .i64 a5] 23)).drewN n
theorem place_calls (a0 a1 a2 a3 a4 a5 : Int) (w : World) : Calls Try.prog 30 #[.agg #[.int .i64 a0, .int .i64 a1, .int .i64 a2, .int .i64 a3, .int .i64 a4, .int .i64 a5]] w (PlacePost w a0 a1 a2 a3 a4 a5) := by
  go_enter Try.func30, Try.ntmps30
  go_wp2_with fail
  go_quiet ((exact Calls.quiet_of_same ((bound_calls _ _).mono fun _ _ h => ⟨h.1, h.2.symm⟩)))
  go_wp2
  go_ret
  exact ⟨rfl, _, rfl⟩

theorem coordP_bd (n : Int) : 0 ≤ coordP n ∧ coordP n ≤ 10000 := by
  unfold coordP mn mx
  by_cases h : n < 0
  · rw [if_pos h, if_neg (by omega)]; omega
  · rw [if_neg h]
    by_cases h2 : 10000 < n
    · rw [if_pos h2]; omega
    · rw [if_neg h2]; omega
theorem sq_bd4 {x : Int} (h : -10000 ≤ x) (h' : x ≤ 10000) : 0 ≤ x * x ∧ x * x ≤ 100000000 := by
  by_cases h0 : 0 ≤ x
  · refine ⟨Int.mul_nonneg h0 h0, ?_⟩
    have := Int.mul_le_mul h' h' h0 (by omega)
    omega
  · have e : x * x = (-x) * (-x) := (Int.neg_mul_neg x x).symm
    rw [e]
    refine ⟨Int.mul_nonneg (by omega) (by omega), ?_⟩
    have := Int.mul_le_mul (show -x ≤ 10000 by omega) (show -x ≤ 10000 by omega) (by omega) (by omega)
    omega
theorem prod_bd4 {x y : Int} (h : -10000 ≤ x) (h' : x ≤ 10000) (k : -10000 ≤ y) (k' : y ≤ 10000) : (x * y).natAbs ≤ 100000000 := by
  rw [Int.natAbs_mul]
  have := Nat.mul_le_mul (show x.natAbs ≤ 10000 by omega) (show y.natAbs ≤ 10000 by omega)
  omega
/-- The float that stands for the square of how far it is. -/
theorem far_floats (p q s t : Int) (hp : 0 ≤ p ∧ p ≤ 10000) (hq : 0 ≤ q ∧ q ≤ 10000) (hs : 0 ≤ s ∧ s ≤ 10000) (ht : 0 ≤ t ∧ t ≤ 10000) :
    ∃ z1 z2 re im, cSumBits .sub .f64 (floatOfInt .f64 p) (floatOfInt .f64 q) (floatOfInt .f64 s) (floatOfInt .f64 t) = some (z1, z2) ∧
      cMulBits z1 z2 z1 (Op.negFloat .f64 z2) = some (re, im) ∧ floatToIntVal .f64 re .i64 = some ((p - s) * (p - s) + (q - t) * (q - t)) := by
  obtain ⟨z1, e1, f1⟩ := (Go.Proofs.Ytjiammiihamkiaa.Fl.FV.ofInt (n := p) (by omega)).sub (Go.Proofs.Ytjiammiihamkiaa.Fl.FV.ofInt (n := s) (by omega)) (by omega)
  obtain ⟨z2, e2, f2⟩ := (Go.Proofs.Ytjiammiihamkiaa.Fl.FV.ofInt (n := q) (by omega)).sub (Go.Proofs.Ytjiammiihamkiaa.Fl.FV.ofInt (n := t) (by omega)) (by omega)
  generalize hx : p - s = x at *
  generalize hy : q - t = y at *
  have sx := sq_bd4 (x := x) (by omega) (by omega)
  have sy := sq_bd4 (x := y) (by omega) (by omega)
  have sxy := prod_bd4 (x := x) (y := y) (by omega) (by omega) (by omega) (by omega)
  have eyy : y * -y = -(y * y) := Int.mul_neg y y
  have exy : x * -y = -(x * y) := Int.mul_neg x y
  have eyx : y * x = x * y := Int.mul_comm y x
  have f3 := f2.neg
  obtain ⟨ac, g1, h1⟩ := f1.mul f1 (by omega)
  obtain ⟨bd, g2, h2⟩ := f2.mul f3 (by omega)
  obtain ⟨re, g3, h3⟩ := h1.sub h2 (by omega)
  obtain ⟨ad, g4, h4⟩ := f1.mul f3 (by omega)
  obtain ⟨bc, g5, h5⟩ := f2.mul f1 (by omega)
  obtain ⟨im, g6, h6⟩ := h4.add h5 (by omega)
  refine ⟨z1, z2, re, im, ?_, ?_, ?_⟩
  · unfold cSumBits; rw [e1, e2]; rfl
  · unfold cMulBits; simp only [g1, g2, g3, g4, g5, g6, Option.bind_some]
  · have := h3.toInt (by omega) (by omega)
    rw [this]; congr 1; omega

def plane_Far.f (a0_0 a0_1 a0_2 a0_3 a0_4 a0_5 : Int) (a1_0 a1_1 a1_2 a1_3 a1_4 a1_5 : Int) : Option Int := num_Root.f ((coordP a0_0 - coordP a1_0) * (coordP a0_0 - coordP a1_0) + (coordP a0_1 - coordP a1_1) * (coordP a0_1 - coordP a1_1))
theorem plane_Far.calls (a0_0 a0_1 a0_2 a0_3 a0_4 a0_5 : Int) (a1_0 a1_1 a1_2 a1_3 a1_4 a1_5 : Int) (r : Int) (w : World) (h : plane_Far.f a0_0 a0_1 a0_2 a0_3 a0_4 a0_5 a1_0 a1_1 a1_2 a1_3 a1_4 a1_5 = some r) :
    Calls Try.prog 17 #[.agg #[.int .i64 a0_0, .int .i64 a0_1, .int .i64 a0_2, .int .i64 a0_3, .int .i64 a0_4, .int .i64 a0_5], .agg #[.int .i64 a1_0, .int .i64 a1_1, .int .i64 a1_2, .int .i64 a1_3, .int .i64 a1_4, .int .i64 a1_5]] w fun e w' => e = .returned (.int .i64 r) ∧ Below w.heap.size w w' := by
  obtain ⟨z1, z2, re, im, e1, e2, e3⟩ := far_floats (coordP a0_0) (coordP a0_1) (coordP a1_0) (coordP a1_1) (coordP_bd _) (coordP_bd _) (coordP_bd _) (coordP_bd _)
  have hsub := fun W : World => run_complex_sum (P := Try.prog) W .sub (.inr rfl) 60 .f64 _ _ _ _ _ _ e1
  have hmul := fun W : World => run_complex_mul (P := Try.prog) W 60 _ _ _ _ _ _ e2
  have hconv := fun W : World => run_convert_float_int (P := Try.prog) W 62 3 .f64 .i64 re _ (by kernel_rfl) (by kernel_rfl) e3
  have hneg : ∀ W : World, (Op.unary .neg (.float .f64 z2)).run Try.prog W = .ok (.float .f64 (Op.negFloat .f64 z2)) W := fun W => rfl
  have HH := hidI h
  clear e1 e2 e3 h
  go_enter Try.func17, Try.ntmps17
  go_wp2_with fail
  go_region_with ((refine (place_calls _ _ _ _ _ _ _).mono ?_; rintro e w' ⟨rfl, n, rfl⟩))
  all_goals
    go_wp2_with ((go_at_call 31; refine (num_Root.calls _ r _ HH.out).mono ?_; rintro e w' ⟨rfl, hb⟩))
    go_ret
    exact ⟨rfl, below_step (by repeat (first | exact Below.refl _ _ | apply below_alloc | apply pw_below_drewN | apply below_drew1)) hb⟩

/-! ### state_here_far: function 41 -/
def state_here_far.f (a0_0 : Int) (a0_1 : Int) (a0_2 : Int) (l0_3 : List (S23)) (a0_4 : Int) (a0_5 : Int) (a0_6 : Int) (a0_7 : Int) (a0_8 : Int) (a0_9 : Int) (a0_10 : Int) (a0_11 : Int) (a1 : Int) : Option (Int) := if 0 ≤ a0_4 then (if a0_4 < (l0_3.length : Int) then (if 0 ≤ a1 then (if a1 < (l0_3.length : Int) then ((plane_Far.f ((rd_T23 l0_3 a0_4).f0) ((rd_T23 l0_3 a0_4).f1) ((rd_T23 l0_3 a0_4).f2) ((rd_T23 l0_3 a0_4).f3) ((rd_T23 l0_3 a0_4).f4) ((rd_T23 l0_3 a0_4).f5) ((rd_T23 l0_3 a1).f0) ((rd_T23 l0_3 a1).f1) ((rd_T23 l0_3 a1).f2) ((rd_T23 l0_3 a1).f3) ((rd_T23 l0_3 a1).f4) ((rd_T23 l0_3 a1).f5)).bind fun t105 => (some t105)) else (none)) else (none)) else (none)) else (none)
def state_here_far.T1 : Bool × List (List Nat × List Nat) := (true, [([], []), ([0], [0]), ([1], [1]), ([], []), ([3], [3]), ([4], [4]), ([2, 5], [2, 5]), ([6], [6]), ([], []), ([8], [8]), ([9], [9]), ([], []), ([10, 11], [10, 11]), ([12], [12]), ([7, 13], [7, 13]), ([14, 14, 0, 1, 2, 3, 4, 5, 6, 7, 8, 9, 10, 11, 12, 13, 14], [14])])
def state_here_far.B1 : List Nat := [0, 1, 3, 0, 8, 24, 63, 127, 0, 256, 768, 0, 3840, 7936, 16383, 32767]
theorem state_here_far.tab1 : rtab .any (opsOf Try.f41 1) = state_here_far.T1 := by kernel_rfl
theorem state_here_far.bits1 : waitsOk state_here_far.T1.2 state_here_far.B1 = true := by kernel_rfl
set_option maxHeartbeats 16000000 in
set_option maxRecDepth 100000 in
theorem state_here_far.calls (a0_0 : Int) (a0_1 : Int) (a0_2 : Int) (A0_3 : Option Addr) (c0_3 : Nat) (l0_3 : List (S23)) (a0_4 : Int) (a0_5 : Int) (a0_6 : Int) (a0_7 : Int) (a0_8 : Int) (a0_9 : Int) (a0_10 : Int) (a0_11 : Int) (a1 : Int) (r : Int) (w : World) (hr0_3 : Kd.C k23 w A0_3 l0_3.length l0_3) (hc0_3 : l0_3.length ≤ c0_3) (h : state_here_far.f a0_0 a0_1 a0_2 l0_3 a0_4 a0_5 a0_6 a0_7 a0_8 a0_9 a0_10 a0_11 a1 = some r) :
  Calls Try.prog 41 #[.agg #[.int .i64 a0_0, .int .i64 a0_1, .int .i64 a0_2, .slice A0_3 l0_3.length c0_3, .int .i64 a0_4, .int .i64 a0_5, .int .i64 a0_6, .int .i64 a0_7, .int .i64 a0_8, .int .u64 a0_9, .int .u64 a0_10, .int .u64 a0_11], .int .i64 a1] w fun e w' => e = .returned (.int .i64 r) ∧ Below w.heap.size w w' := by
 have hu69 := Try.underlying69
 have hu23 := Try.underlying23
 have HR0_3 := zqi hr0_3
 have HC0_3 := zqi hc0_3
 clear hr0_3 hc0_3
 have HB := zqi (Below.refl w.heap.size w)
 have H : (if 0 ≤ a0_4 then (if a0_4 < (l0_3.length : Int) then (if 0 ≤ a1 then (if a1 < (l0_3.length : Int) then ((plane_Far.f ((rd_T23 l0_3 a0_4).f0) ((rd_T23 l0_3 a0_4).f1) ((rd_T23 l0_3 a0_4).f2) ((rd_T23 l0_3 a0_4).f3) ((rd_T23 l0_3 a0_4).f4) ((rd_T23 l0_3 a0_4).f5) ((rd_T23 l0_3 a1).f0) ((rd_T23 l0_3 a1).f1) ((rd_T23 l0_3 a1).f2) ((rd_T23 l0_3 a1).f3) ((rd_T23 l0_3 a1).f4) ((rd_T23 l0_3 a1).f5)).bind fun t105 => (some t105)) else (none)) else (none)) else (none)) else (none)) = some r := h
 clear h
 by_cases c3 : 0 ≤ a0_4
 ·
  rw [if_pos c3] at H
  have c3b0 : decide (0 ≤ a0_4) = true := decide_eq_true c3
  clear c3
  by_cases c4 : a0_4 < (l0_3.length : Int)
  ·
   rw [if_pos c4] at H
   have c4b0 : decide (a0_4 < (l0_3.length : Int)) = true := decide_eq_true c4
   clear c4
   by_cases c5 : 0 ≤ a1
   ·
    rw [if_pos c5] at H
    have c5b0 : decide (0 ≤ a1) = true := decide_eq_true c5
    clear c5
    by_cases c6 : a1 < (l0_3.length : Int)
    ·
     rw [if_pos c6] at H
     have c6b0 : decide (a1 < (l0_3.length : Int)) = true := decide_eq_true c6
     clear c6
     replace H := Option.bind_eq_some_iff.mp H
     obtain ⟨t105, A70, H⟩ := H
     replace H : (some t105) = some r := H
     have A7 := zqi A70
     clear A70
     obtain rfl := Option.some.inj H
     go_enter Try.func41, Try.ntmps41
     try go_wp2_with (first | ((with_reducible refine gate_dst (N := 2) rfl ?_); refine box_event ?hg (N := 2) ?hd (cs := #[.int .i64 a0_0, .int .i64 a0_1, .int .i64 a0_2, .slice A0_3 l0_3.length c0_3, .int .i64 a0_4, .int .i64 a0_5, .int .i64 a0_6, .int .i64 a0_7, .int .i64 a0_8, .int .u64 a0_9, .int .u64 a0_10, .int .u64 a0_11]) (t := 69) ?hr ?_; (case hd => rfl); (case hg => rfl); (case hr => first | (go_simp; done) | (go_simp; rfl)); intro gb102 hg w8 hbox hb; have n0_ := zqi (below_step (zqn HB.out) hb); have n1_ := zqi (hbox); have n2_ := zqi (zqo hg HB.out); have n3_ := zqi (zqo hg HB.out); clear HB; have HB := n0_; have BK102 := n1_; have GW102 := n2_; have GE102 := n3_; clear n0_ n1_ n2_ n3_; clear hb hbox hg))
     have n0_ := zqi (zqb BK102.out)
     have n1_ := zqi (zqh HB.out)
     clear BK102
     clear HB
     have BK102 := n0_
     have HB := n1_
     clear n0_ n1_
     have p103 : 0 ≤ (a0_4 : Int) := of_decide_eq_true (by first | (with_reducible assumption) | assumption)
     have q103 : a0_4 < (l0_3.length : Int) := of_decide_eq_true (by first | (with_reducible assumption) | assumption)
     obtain ⟨ad103, e103, hx103_0, hx103_1, hx103_2, hx103_3, hx103_4, hx103_5⟩ := at_T23 HR0_3.out a0_4 p103 q103
     have hw103_5 := hx103_5
     have hw103_4 := hx103_4
     have hw103_3 := hx103_3
     have hw103_2 := hx103_2
     have hw103_1 := hx103_1
     have hw103_0 := hx103_0
     cases e103
     replace hx103_0 := (HB.out.cell (World.block_lt_of_cell? w _ hx103_0)).trans hx103_0
     replace hx103_1 := (HB.out.cell (World.block_lt_of_cell? w _ hx103_1)).trans hx103_1
     replace hx103_2 := (HB.out.cell (World.block_lt_of_cell? w _ hx103_2)).trans hx103_2
     replace hx103_3 := (HB.out.cell (World.block_lt_of_cell? w _ hx103_3)).trans hx103_3
     replace hx103_4 := (HB.out.cell (World.block_lt_of_cell? w _ hx103_4)).trans hx103_4
     replace hx103_5 := (HB.out.cell (World.block_lt_of_cell? w _ hx103_5)).trans hx103_5
     replace p103 := eq_true p103
     replace q103 := eq_true q103
     have p104 : 0 ≤ (a1 : Int) := of_decide_eq_true (by first | (with_reducible assumption) | assumption)
     have q104 : a1 < (l0_3.length : Int) := of_decide_eq_true (by first | (with_reducible assumption) | assumption)
     obtain ⟨ad104, e104, hx104_0, hx104_1, hx104_2, hx104_3, hx104_4, hx104_5⟩ := at_T23 HR0_3.out a1 p104 q104
     have hw104_5 := hx104_5
     have hw104_4 := hx104_4
     have hw104_3 := hx104_3
     have hw104_2 := hx104_2
     have hw104_1 := hx104_1
     have hw104_0 := hx104_0
     obtain rfl : ad103 = ad104 := (by injection e104)
     replace hx104_0 := (HB.out.cell (World.block_lt_of_cell? w _ hx104_0)).trans hx104_0
     replace hx104_1 := (HB.out.cell (World.block_lt_of_cell? w _ hx104_1)).trans hx104_1
     replace hx104_2 := (HB.out.cell (World.block_lt_of_cell? w _ hx104_2)).trans hx104_2
     replace hx104_3 := (HB.out.cell (World.block_lt_of_cell? w _ hx104_3)).trans hx104_3
     replace hx104_4 := (HB.out.cell (World.block_lt_of_cell? w _ hx104_4)).trans hx104_4
     replace hx104_5 := (HB.out.cell (World.block_lt_of_cell? w _ hx104_5)).trans hx104_5
     replace p104 := eq_true p104
     replace q104 := eq_true q104
     refine start_ (n := 16) (S := fun w' => w'.cell? ⟨gb102, 0, none⟩ = some (.int .i64 a0_0) ∧ w'.cell? ⟨gb102, 1, none⟩ = some (.int .i64 a0_1) ∧ w'.cell? ⟨gb102, 2, none⟩ = some (.int .i64 a0_2) ∧ w'.cell? ⟨gb102, 3, none⟩ = some (.slice (some ad103) l0_3.length c0_3) ∧ w'.cell? ⟨gb102, 4, none⟩ = some (.int .i64 a0_4) ∧ w'.cell? ⟨gb102, 5, none⟩ = some (.int .i64 a0_5) ∧ w'.cell? ⟨gb102, 6, none⟩ = some (.int .i64 a0_6) ∧ w'.cell? ⟨gb102, 7, none⟩ = some (.int .i64 a0_7) ∧ w'.cell? ⟨gb102, 8, none⟩ = some (.int .i64 a0_8) ∧ w'.cell? ⟨gb102, 9, none⟩ = some (.int .u64 a0_9) ∧ w'.cell? ⟨gb102, 10, none⟩ = some (.int .u64 a0_10) ∧ w'.cell? ⟨gb102, 11, none⟩ = some (.int .u64 a0_11) ∧ w'.cell? (ad103.add ((a0_4).toNat * 6)) = some (.int .i64 ((rd_T23 l0_3 a0_4).f0)) ∧ w'.cell? ⟨(ad103.add ((a0_4).toNat * 6)).block, (ad103.add ((a0_4).toNat * 6)).off + 1, none⟩ = some (.int .i64 ((rd_T23 l0_3 a0_4).f1)) ∧ w'.cell? ⟨(ad103.add ((a0_4).toNat * 6)).block, (ad103.add ((a0_4).toNat * 6)).off + 2, none⟩ = some (.int .i64 ((rd_T23 l0_3 a0_4).f2)) ∧ w'.cell? ⟨(ad103.add ((a0_4).toNat * 6)).block, (ad103.add ((a0_4).toNat * 6)).off + 3, none⟩ = some (.int .i64 ((rd_T23 l0_3 a0_4).f3)) ∧ w'.cell? ⟨(ad103.add ((a0_4).toNat * 6)).block, (ad103.add ((a0_4).toNat * 6)).off + 4, none⟩ = some (.int .i64 ((rd_T23 l0_3 a0_4).f4)) ∧ w'.cell? ⟨(ad103.add ((a0_4).toNat * 6)).block, (ad103.add ((a0_4).toNat * 6)).off + 5, none⟩ = some (.int .i64 ((rd_T23 l0_3 a0_4).f5)) ∧ w'.cell? (ad103.add ((a1).toNat * 6)) = some (.int .i64 ((rd_T23 l0_3 a1).f0)) ∧ w'.cell? ⟨(ad103.add ((a1).toNat * 6)).block, (ad103.add ((a1).toNat * 6)).off + 1, none⟩ = some (.int .i64 ((rd_T23 l0_3 a1).f1)) ∧ w'.cell? ⟨(ad103.add ((a1).toNat * 6)).block, (ad103.add ((a1).toNat * 6)).off + 2, none⟩ = some (.int .i64 ((rd_T23 l0_3 a1).f2)) ∧ w'.cell? ⟨(ad103.add ((a1).toNat * 6)).block, (ad103.add ((a1).toNat * 6)).off + 3, none⟩ = some (.int .i64 ((rd_T23 l0_3 a1).f3)) ∧ w'.cell? ⟨(ad103.add ((a1).toNat * 6)).block, (ad103.add ((a1).toNat * 6)).off + 4, none⟩ = some (.int .i64 ((rd_T23 l0_3 a1).f4)) ∧ w'.cell? ⟨(ad103.add ((a1).toNat * 6)).block, (ad103.add ((a1).toNat * 6)).off + 5, none⟩ = some (.int .i64 ((rd_T23 l0_3 a1).f5))) (ds := []) (zqB 16 0) (by kernel_rfl) rfl rfl ⟨(zqe BK102.out 0).trans rfl, (zqe BK102.out 1).trans rfl, (zqe BK102.out 2).trans rfl, (zqe BK102.out 3).trans rfl, (zqe BK102.out 4).trans rfl, (zqe BK102.out 5).trans rfl, (zqe BK102.out 6).trans rfl, (zqe BK102.out 7).trans rfl, (zqe BK102.out 8).trans rfl, (zqe BK102.out 9).trans rfl, (zqe BK102.out 10).trans rfl, (zqe BK102.out 11).trans rfl, ((HB.out.cell (World.block_lt_of_cell? w _ hw103_0)).trans hw103_0), ((HB.out.cell (World.block_lt_of_cell? w _ hw103_1)).trans hw103_1), ((HB.out.cell (World.block_lt_of_cell? w _ hw103_2)).trans hw103_2), ((HB.out.cell (World.block_lt_of_cell? w _ hw103_3)).trans hw103_3), ((HB.out.cell (World.block_lt_of_cell? w _ hw103_4)).trans hw103_4), ((HB.out.cell (World.block_lt_of_cell? w _ hw103_5)).trans hw103_5), ((HB.out.cell (World.block_lt_of_cell? w _ hw104_0)).trans hw104_0), ((HB.out.cell (World.block_lt_of_cell? w _ hw104_1)).trans hw104_1), ((HB.out.cell (World.block_lt_of_cell? w _ hw104_2)).trans hw104_2), ((HB.out.cell (World.block_lt_of_cell? w _ hw104_3)).trans hw104_3), ((HB.out.cell (World.block_lt_of_cell? w _ hw104_4)).trans hw104_4), ((HB.out.cell (World.block_lt_of_cell? w _ hw104_5)).trans hw104_5)⟩ (fun hHeld => ?_); refine with_tabW state_here_far.tab1 state_here_far.bits1 (fun HT_ HW_ => ?_)
     generalize w8.drew = w9 at BK102 HB hx103_0 hx103_1 hx103_2 hx103_3 hx103_4 hx103_5 hx104_0 hx104_1 hx104_2 hx104_3 hx104_4 hx104_5 hHeld ⊢
     refine zqp 0 (some 5) (zqB 16 1) (any_of HT_.out (by kernel_rfl)) (h := ?_)
     refine zqp 1 (some 6) (zqB 16 3) (any_of HT_.out (by kernel_rfl)) (h := ?_)
     refine zqp 3 (some 8) (zqB 16 11) (any_of HT_.out (by kernel_rfl)) (h := ?_)
     refine zqp 4 (some 9) (zqB 16 27) (any_of HT_.out (by kernel_rfl)) (h := ?_)
     refine zqp 8 (some 13) (zqB 16 283) (any_of HT_.out (by kernel_rfl)) (h := ?_)
     refine zqp 9 (some 14) (zqB 16 795) (any_of HT_.out (by kernel_rfl)) (h := ?_)
     refine zqp 11 (some 16) (zqB 16 2843) (any_of HT_.out (by kernel_rfl)) (h := ?_)
     refine zqt 2 (some 7) (zqB 16 2847) (take_ofW HT_.out HW_.out (by kernel_rfl)) hHeld (h := ?_)
     refine zqt 5 (some 10) (zqB 16 2879) (take_ofW HT_.out HW_.out (by kernel_rfl)) hHeld (h := ?_)
     refine zqp 6 (some 11) (zqB 16 2943) (any_of HT_.out (by kernel_rfl)) (h := ?_)
     refine zqt 7 (some 12) (zqB 16 3071) (take_ofW HT_.out HW_.out (by kernel_rfl)) hHeld (h := ?_)
     refine zqt 10 (some 15) (zqB 16 4095) (take_ofW HT_.out HW_.out (by kernel_rfl)) hHeld (h := ?_)
     refine zqp 12 (some 17) (zqB 16 8191) (any_of HT_.out (by kernel_rfl)) (h := ?_)
     refine zqt 13 (some 18) (zqB 16 16383) (take_ofW HT_.out HW_.out (by kernel_rfl)) hHeld (h := ?_)
     refine one_ (i := 14) (N := some 19) (zqB 16 32767) rfl rfl (one_of HT_.out (by kernel_rfl)) (by decide) (fun K hK => ?_)
     refine goes_ Try.func17 (by kernel_rfl) rfl #[.agg #[.int .i64 ((rd_T23 l0_3 a0_4).f0), .int .i64 ((rd_T23 l0_3 a0_4).f1), .int .i64 ((rd_T23 l0_3 a0_4).f2), .int .i64 ((rd_T23 l0_3 a0_4).f3), .int .i64 ((rd_T23 l0_3 a0_4).f4), .int .i64 ((rd_T23 l0_3 a0_4).f5)], .agg #[.int .i64 ((rd_T23 l0_3 a1).f0), .int .i64 ((rd_T23 l0_3 a1).f1), .int .i64 ((rd_T23 l0_3 a1).f2), .int .i64 ((rd_T23 l0_3 a1).f3), .int .i64 ((rd_T23 l0_3 a1).f4), .int .i64 ((rd_T23 l0_3 a1).f5)]] (by rfl) rfl rfl (by (try simp only [List.map_toArray, List.map_cons, List.map_nil]); first | done | rfl | (simp only [List.length_drop, List.length_take]; rfl)) ?_
     with_reducible refine (plane_Far.calls ((rd_T23 l0_3 a0_4).f0) ((rd_T23 l0_3 a0_4).f1) ((rd_T23 l0_3 a0_4).f2) ((rd_T23 l0_3 a0_4).f3) ((rd_T23 l0_3 a0_4).f4) ((rd_T23 l0_3 a0_4).f5) ((rd_T23 l0_3 a1).f0) ((rd_T23 l0_3 a1).f1) ((rd_T23 l0_3 a1).f2) ((rd_T23 l0_3 a1).f3) ((rd_T23 l0_3 a1).f4) ((rd_T23 l0_3 a1).f5) t105 _ A7.out).mono ?_
     rintro e w10 ⟨rfl, hb⟩
     refine ⟨_, rfl, ?_⟩
     have n0_ := zqi (zqy BK102.out hb)
     have n1_ := zqi (below_step (zqn HB.out) hb)
     clear BK102
     clear HB
     have BK102 := n0_
     have HB := n1_
     clear n0_ n1_
     (try clear hb)
     (try clear hb2)
     (try clear hk)
     (try clear hi)
     refine hK.out _ _ ⟨(zqe BK102.out 0).trans rfl, (zqe BK102.out 1).trans rfl, (zqe BK102.out 2).trans rfl, (zqe BK102.out 3).trans rfl, (zqe BK102.out 4).trans rfl, (zqe BK102.out 5).trans rfl, (zqe BK102.out 6).trans rfl, (zqe BK102.out 7).trans rfl, (zqe BK102.out 8).trans rfl, (zqe BK102.out 9).trans rfl, (zqe BK102.out 10).trans rfl, (zqe BK102.out 11).trans rfl, ((HB.out.cell (World.block_lt_of_cell? w _ hw103_0)).trans hw103_0), ((HB.out.cell (World.block_lt_of_cell? w _ hw103_1)).trans hw103_1), ((HB.out.cell (World.block_lt_of_cell? w _ hw103_2)).trans hw103_2), ((HB.out.cell (World.block_lt_of_cell? w _ hw103_3)).trans hw103_3), ((HB.out.cell (World.block_lt_of_cell? w _ hw103_4)).trans hw103_4), ((HB.out.cell (World.block_lt_of_cell? w _ hw103_5)).trans hw103_5), ((HB.out.cell (World.block_lt_of_cell? w _ hw104_0)).trans hw104_0), ((HB.out.cell (World.block_lt_of_cell? w _ hw104_1)).trans hw104_1), ((HB.out.cell (World.block_lt_of_cell? w _ hw104_2)).trans hw104_2), ((HB.out.cell (World.block_lt_of_cell? w _ hw104_3)).trans hw104_3), ((HB.out.cell (World.block_lt_of_cell? w _ hw104_4)).trans hw104_4), ((HB.out.cell (World.block_lt_of_cell? w _ hw104_5)).trans hw104_5)⟩ (fun hHeld => ?_)
     clear hK K
     refine norm_ (a' := ?_) ?_ ?_
     rotate_left
     ·
      show Act.put _ (some 19) _ = _
      simp only [Act.put, List.setIfInBounds_toArray, List.set_cons_zero, List.set_cons_succ, i64_w, i32_w]
      rfl
     refine zqp 15 (some 4) (zqB 16 65535) (any_of HT_.out (by kernel_rfl)) (h := ?_)
     refine done_ (done_of HT_.out (by kernel_rfl)) ?_
     try go_wp2
     go_ret
     exact ⟨by first | rfl | (simp [errW_none, errW_some] <;> rfl) | (simp [*, errW_none, errW_some] <;> rfl), by repeat (first | (with_reducible first | exact HB.out | apply zqg | apply zqf | apply zqh | refine below_set ?_ GE102.out) | exact HB.out)⟩
    ·
     rw [if_neg c6] at H
     exact absurd H (by simp)
   ·
    rw [if_neg c5] at H
    exact absurd H (by simp)
  ·
   rw [if_neg c4] at H
   exact absurd H (by simp)
 ·
  rw [if_neg c3] at H
  exact absurd H (by simp)

/-! ### set_With: function 71 -/
def set_With.f (a0 : Int) (a1 : Int) : Option (Int) := (set_bit.f a1).bind fun t106 => (some (Go.bits .or .u64 a0 t106))
set_option maxHeartbeats 8000000 in
set_option maxRecDepth 100000 in
theorem set_With.calls (a0 : Int) (a1 : Int) (r : Int) (w : World) (h : set_With.f a0 a1 = some r) :
    Calls Try.prog 71 #[.int .u64 a0, .int .i64 a1] w fun e w' => e = .returned (.int .u64 r) ∧ Drawn0 w w' := by
  have H : ((set_bit.f a1).bind fun t106 => (some (Go.bits .or .u64 a0 t106))) = some r := h
  clear h
  replace H := Option.bind_eq_some_iff.mp H
  obtain ⟨t106, A30, H⟩ := H
  replace H : (some (Go.bits .or .u64 a0 t106)) = some r := H
  have A3 := Aside0.mk A30
  clear A30
  obtain rfl := Option.some.inj H
  go_enter Try.func71, Try.ntmps71
  go_wp2_with (first | ((with_reducible refine gate_callee (f := 72) rfl ?_); refine goesL_ (some 7) rfl rfl Try.func72 (by kernel_rfl) rfl #[.int .i64 a1] rfl (by (try simp only [List.map_toArray, List.map_cons, List.map_nil]); first | done | rfl | (simp only [List.length_drop, List.length_take]; rfl)) ?_; (with_reducible refine (set_bit.calls a1 t106 _ A3.out).mono ?_); rintro e w' ⟨rfl, ⟨nd, rfl⟩⟩; refine ⟨_, rfl, ?_⟩))
  go_ret
  exact ⟨by first | rfl | (simp; done) | (simp [*]; done), by repeat (first | exact Drawn0.refl _ | apply Drawn0.step)⟩

end Go.Proofs.Ytjiammiihamkiaa.PB
