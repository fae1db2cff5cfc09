-- Printed for this claim by wip/tools/xprint.py over the kit's print; the contracts marked BY HAND are this session's own.
import Derived.Test.YtnfcccfcfckegaaPBx0
namespace Go.Proofs.Ytnfcccfcfckegaa.PB
open Go.RowKit Go.Proofs.YtnfcccfcfckegaaW.PrintWords Go.Proofs.YtnfcccfcfckegaaW.PrintLast Go.Proofs.YtnfcccfcfckegaaW.PrintMore
attribute [local go_sem] max2_int min2_int max_two min_two max_three min_three max_four min_four   -- for this text's walks alone
set_option linter.unusedVariables false
set_option linter.unusedSimpArgs false

/-! ### num_Root: function 16, BY HAND -/
theorem hidI {p : Prop} (h : p) : Hid p := h
def rootGo (n : Int) : Nat → Int → Int
  | 0, r => if (r + 1) * (r + 1) < n then r + 1 else r
  | j + 1, r => rootGo n j (if (r + 2 ^ (j + 1)) * (r + 2 ^ (j + 1)) < n then r + 2 ^ (j + 1) else r)
def rootTop (m : Int) : Int := if 0 < m then rootGo m 30 0 + 1 else rootGo m 30 0
def num_Root.f (a0 : Int) : Option Int := some (rootTop (mn (mx a0 0) 1152921504606846976))

theorem sq_bd {x : Int} (h0 : 0 ≤ x) (h : x ≤ 2147483648) : 0 ≤ x * x ∧ x * x ≤ 4611686018427387904 := by
  refine ⟨Int.mul_nonneg h0 h0, ?_⟩
  have := Int.mul_le_mul h h h0 (by omega)
  omega
theorem two_pow_half (j : Nat) : (2 : Int) ^ (j + 1) / 2 = 2 ^ j := by rw [Int.pow_succ]; omega
theorem two_pow_pos (j : Nat) : (1 : Int) ≤ 2 ^ j := by have : (0:Int) < 2 ^ j := Int.pow_pos (by omega); omega

theorem root_next {q x b r : Int} {j : Nat} (hj : b = 2 ^ j) (hb2 : 0 < b / 2) (HR : (if 0 < q then rootGo q j x + 1 else rootGo q j x) = r) :
    ∃ i : Nat, b / 2 = 2 ^ i ∧ (∀ y, y = (if (x + b) * (x + b) < q then x + b else x) → (if 0 < q then rootGo q i y + 1 else rootGo q i y) = r) := by
  cases j with
  | zero => subst hj; exact absurd hb2 (by decide)
  | succ i =>
    refine ⟨i, by rw [hj]; exact two_pow_half i, ?_⟩
    rintro y rfl
    rw [hj]
    simpa only [rootGo] using HR
theorem root_last {q x b r : Int} {j : Nat} (hj : b = 2 ^ j) (hb : 1 ≤ b) (hb2 : b / 2 ≤ 0) (HR : (if 0 < q then rootGo q j x + 1 else rootGo q j x) = r) :
    (∀ y, y = (if (x + b) * (x + b) < q then x + b else x) → (if 0 < q then y + 1 else y) = r) := by
  have hb1 : b = 1 := by omega
  cases j with
  | zero =>
    rintro y rfl
    rw [hb1]
    simpa only [rootGo] using HR
  | succ i =>
    have := two_pow_pos i
    rw [Int.pow_succ] at hj
    omega
set_option maxHeartbeats 2000000 in
set_option maxRecDepth 100000 in
theorem num_Root.calls (n : Int) (r : Int) (w : World) (h : num_Root.f n = some r) :
    Calls Try.prog 16 #[.int .i64 n] w fun e w' => e = .returned (.int .i64 r) ∧ Below w.heap.size w w' := by
  unfold num_Root.f at h
  injection h with h
  obtain ⟨q1, hq1⟩ : ∃ q1, (if n < 0 then 0 else n) = q1 := ⟨_, rfl⟩
  obtain ⟨q, hq⟩ : ∃ q, (if 1152921504606846976 < q1 then 1152921504606846976 else q1) = q := ⟨_, rfl⟩
  have e0 : mn (mx n 0) 1152921504606846976 = q := by unfold mn mx; rw [hq1, hq]
  rw [e0] at h
  clear e0
  have HH := hidI h
  have hge1 : 0 ≤ q1 := by rw [← hq1]; split <;> omega
  have hlo : q ≤ 1152921504606846976 := by rw [← hq]; split <;> omega
  have hge : 0 ≤ q := by rw [← hq]; split <;> omega
  clear h
  go_enter Try.func16, Try.ntmps16
  go_wp2
  refine wp_scope_jumps 0 (fun a' w' => w' = w ∧ ∃ (x b : Int) (j : Nat) (u1 u5 u6 u7 u8 u9 u10 u11 u12 u13 u14 u15 u16 u17 u18 u19 u20 u21 u22 u23 u24 u25 u26 : Value), a' = { tmps := #[.int .i64 q, u1, .int .i64 0, .int .i64 x, .int .i64 b, u5, u6, u7, u8, u9, u10, u11, u12, u13, u14, u15, u16, u17, u18, u19, u20, u21, u22, u23, u24, u25, u26], defers := [] } ∧ Hid (b = 2 ^ j) ∧ 0 ≤ x ∧ 1 ≤ b ∧ x + 2 * b ≤ 2147483648 ∧ Hid ((if 0 < q then rootGo q j x + 1 else rootGo q j x) = r)) (fun a' _ => (intOf (a'.tmps.getD 4 undef)).toNat) rfl ?_ ?_
  · have NX := hidI (root_next (x := 0) (b := 1073741824) (j := 30) (by decide) (by decide) HH.out)
    go_wp2
    go_step3
    go_wp2
    go_step3
    obtain ⟨i, hi, hn⟩ := NX.out
    exact ⟨rfl, rfl, 0, 536870912, i, _, _, _, _, _, _, _, _, _, _, _, _, _, _, _, _, _, _, _, _, _, _, _, rfl, hidI (by rw [← hi]; rfl), by omega, by omega, by omega, hidI (hn _ (by rw [if_neg (by omega)]))⟩
  · rintro a' w' ⟨rfl, x, b, j, u1, u5, u6, u7, u8, u9, u10, u11, u12, u13, u14, u15, u16, u17, u18, u19, u20, u21, u22, u23, u24, u25, u26, rfl, hj, hx, hb, hxb, HR⟩
    clear hq hq1
    have hsq := sq_bd (x := x + b) (by omega) (by omega)
    obtain ⟨hs1, hs2⟩ := hsq
    by_cases hlt : (x + b) * (x + b) < q
    · have hq0 : 0 < q := by omega
      by_cases hb2 : 0 < b / 2
      · have NX := hidI (root_next hj.out hb2 HR.out)
        go_wp2
        go_step3
        obtain ⟨i, hi, hn⟩ := NX.out
        exact ⟨rfl, ⟨rfl, _, _, i, _, _, _, _, _, _, _, _, _, _, _, _, _, _, _, _, _, _, _, _, _, _, _, rfl, hidI hi, by omega, by omega, by omega, hidI (hn _ (by rw [if_pos (by omega)]))⟩, by simp [intOf]; omega⟩
      · have NX := hidI (root_last hj.out hb (by omega) HR.out)
        go_wp2
        simp only [Exit.jump]
        go_ret
        have hn := NX.out _ rfl
        rw [if_pos hlt, if_pos hq0] at hn
        exact ⟨by rw [← hn]; rfl, Below.refl _ _⟩
    · by_cases hb2 : 0 < b / 2
      · have NX := hidI (root_next hj.out hb2 HR.out)
        go_wp2
        go_step3
        obtain ⟨i, hi, hn⟩ := NX.out
        exact ⟨rfl, ⟨rfl, _, _, i, _, _, _, _, _, _, _, _, _, _, _, _, _, _, _, _, _, _, _, _, _, _, _, rfl, hidI hi, by omega, by omega, by omega, hidI (hn _ (by rw [if_neg (by omega)]))⟩, by simp [intOf]; omega⟩
      · have NX := hidI (root_last hj.out hb (by omega) HR.out)
        by_cases hq0 : 0 < q
        · go_wp2
          simp only [Exit.jump]
          go_ret
          have hn := NX.out _ rfl
          simp only [if_neg (show ¬ ((x + b) * (x + b) < q) by omega), if_pos hq0] at hn
          exact ⟨by rw [← hn]; rfl, Below.refl _ _⟩
        · go_wp2
          simp only [Exit.jump]
          go_ret
          have hn := NX.out _ rfl
          simp only [if_neg (show ¬ ((x + b) * (x + b) < q) by omega), if_neg (show ¬ (0 < q) by omega)] at hn
          exact ⟨by rw [← hn]; rfl, Below.refl _ _⟩

-- NOT PRINTED: function 31 (plane_place)

/-! ### plane_Far: function 25, BY HAND -/
def coordP (n : Int) : Int := mn (mx n 0) 10000
theorem bound_calls (n : Int) (w : World) : Calls Try.prog 32 #[.int .i64 n] w fun e w' => e = .returned (.float .f64 (floatOfInt .f64 (coordP n))) ∧ w = w' := by
  obtain ⟨q1, hq1⟩ : ∃ q1, (if n < 0 then 0 else n) = q1 := ⟨_, rfl⟩
  obtain ⟨q, hq⟩ : ∃ q, (if 10000 < q1 then 10000 else q1) = q := ⟨_, rfl⟩
  have e0 : coordP n = q := by unfold coordP mn mx; rw [hq1, hq]
  rw [e0]
  clear e0
  have hconv : ∀ (W : World), (convert 3 47 (.int .i64 q)).run Try.prog W = .ok (.float .f64 (floatOfInt .f64 q)) W := fun W => run_convert_int_float W 3 47 .i64 .f64 q (by kernel_rfl) (by kernel_rfl)
  go_enter Try.func32, Try.ntmps32
  go_wp2
  go_ret
  exact ⟨rfl, rfl⟩

def PlacePost (w : World) (a0 a1 a2 a3 a4 a5 : Int) (e : Ending) (w' : World) : Prop := e = .returned (.complex .f64 (floatOfInt .f64 (coordP a0)) (floatOfInt .f64 (coordP a1))) ∧ ∃ n, w' = (w.alloc (.cells #[.int .i64 a0, .int .i64 a1, .int .i64 a2, .int .i64 a3, .int .i64 a4, .int .i64 a5] 35)).drewN n
theorem place_calls (a0 a1 a2 a3 a4 a5 : Int) (w : World) : Calls Try.prog 31 #[.agg #[.int .i64 a0, .int .i64 a1, .int .i64 a2, .int .i64 a3, .int .i64 a4, .int .i64 a5]] w (PlacePost w a0 a1 a2 a3 a4 a5) := by
  go_enter Try.func31, Try.ntmps31
  go_wp2_with fail
  go_quiet ((exact Calls.quiet_of_same ((bound_calls _ _).mono fun _ _ h => ⟨h.1, h.2.symm⟩)))
  go_wp2
  go_ret
  exact ⟨rfl, _, rfl⟩

theorem coordP_bd (n : Int) : 0 ≤ coordP n ∧ coordP n ≤ 10000 := by
  unfold coordP mn mx
  by_cases h : n < 0
  · rw [if_pos h, if_neg (by omega)]; omega
  · rw [if_neg h]
    by_cases h2 : 10000 < n
    · rw [if_pos h2]; omega
    · rw [if_neg h2]; omega
theorem sq_bd4 {x : Int} (h : -10000 ≤ x) (h' : x ≤ 10000) : 0 ≤ x * x ∧ x * x ≤ 100000000 := by
  by_cases h0 : 0 ≤ x
  · refine ⟨Int.mul_nonneg h0 h0, ?_⟩
    have := Int.mul_le_mul h' h' h0 (by omega)
    omega
  · have e : x * x = (-x) * (-x) := (Int.neg_mul_neg x x).symm
    rw [e]
    refine ⟨Int.mul_nonneg (by omega) (by omega), ?_⟩
    have := Int.mul_le_mul (show -x ≤ 10000 by omega) (show -x ≤ 10000 by omega) (by omega) (by omega)
    omega
theorem prod_bd4 {x y : Int} (h : -10000 ≤ x) (h' : x ≤ 10000) (k : -10000 ≤ y) (k' : y ≤ 10000) : (x * y).natAbs ≤ 100000000 := by
  rw [Int.natAbs_mul]
  have := Nat.mul_le_mul (show x.natAbs ≤ 10000 by omega) (show y.natAbs ≤ 10000 by omega)
  omega
/-- The float that stands for the square of how far it is. -/
theorem far_floats (p q s t : Int) (hp : 0 ≤ p ∧ p ≤ 10000) (hq : 0 ≤ q ∧ q ≤ 10000) (hs : 0 ≤ s ∧ s ≤ 10000) (ht : 0 ≤ t ∧ t ≤ 10000) :
    ∃ z1 z2 re im, cSumBits .sub .f64 (floatOfInt .f64 p) (floatOfInt .f64 q) (floatOfInt .f64 s) (floatOfInt .f64 t) = some (z1, z2) ∧
      cMulBits z1 z2 z1 (Op.negFloat .f64 z2) = some (re, im) ∧ floatToIntVal .f64 re .i64 = some ((p - s) * (p - s) + (q - t) * (q - t)) := by
  obtain ⟨z1, e1, f1⟩ := (Go.Proofs.Ytnfcccfcfckegaa.Fl.FV.ofInt (n := p) (by omega)).sub (Go.Proofs.Ytnfcccfcfckegaa.Fl.FV.ofInt (n := s) (by omega)) (by omega)
  obtain ⟨z2, e2, f2⟩ := (Go.Proofs.Ytnfcccfcfckegaa.Fl.FV.ofInt (n := q) (by omega)).sub (Go.Proofs.Ytnfcccfcfckegaa.Fl.FV.ofInt (n := t) (by omega)) (by omega)
  generalize hx : p - s = x at *
  generalize hy : q - t = y at *
  have sx := sq_bd4 (x := x) (by omega) (by omega)
  have sy := sq_bd4 (x := y) (by omega) (by omega)
  have sxy := prod_bd4 (x := x) (y := y) (by omega) (by omega) (by omega) (by omega)
  have eyy : y * -y = -(y * y) := Int.mul_neg y y
  have exy : x * -y = -(x * y) := Int.mul_neg x y
  have eyx : y * x = x * y := Int.mul_comm y x
  have f3 := f2.neg
  obtain ⟨ac, g1, h1⟩ := f1.mul f1 (by omega)
  obtain ⟨bd, g2, h2⟩ := f2.mul f3 (by omega)
  obtain ⟨re, g3, h3⟩ := h1.sub h2 (by omega)
  obtain ⟨ad, g4, h4⟩ := f1.mul f3 (by omega)
  obtain ⟨bc, g5, h5⟩ := f2.mul f1 (by omega)
  obtain ⟨im, g6, h6⟩ := h4.add h5 (by omega)
  refine ⟨z1, z2, re, im, ?_, ?_, ?_⟩
  · unfold cSumBits; rw [e1, e2]; rfl
  · unfold cMulBits; simp only [g1, g2, g3, g4, g5, g6, Option.bind_some]
  · have := h3.toInt (by omega) (by omega)
    rw [this]; congr 1; omega

def plane_Far.f (a0_0 a0_1 a0_2 a0_3 a0_4 a0_5 : Int) (a1_0 a1_1 a1_2 a1_3 a1_4 a1_5 : Int) : Option Int := num_Root.f ((coordP a0_0 - coordP a1_0) * (coordP a0_0 - coordP a1_0) + (coordP a0_1 - coordP a1_1) * (coordP a0_1 - coordP a1_1))
theorem plane_Far.calls (a0_0 a0_1 a0_2 a0_3 a0_4 a0_5 : Int) (a1_0 a1_1 a1_2 a1_3 a1_4 a1_5 : Int) (r : Int) (w : World) (h : plane_Far.f a0_0 a0_1 a0_2 a0_3 a0_4 a0_5 a1_0 a1_1 a1_2 a1_3 a1_4 a1_5 = some r) :
    Calls Try.prog 25 #[.agg #[.int .i64 a0_0, .int .i64 a0_1, .int .i64 a0_2, .int .i64 a0_3, .int .i64 a0_4, .int .i64 a0_5], .agg #[.int .i64 a1_0, .int .i64 a1_1, .int .i64 a1_2, .int .i64 a1_3, .int .i64 a1_4, .int .i64 a1_5]] w fun e w' => e = .returned (.int .i64 r) ∧ Below w.heap.size w w' := by
  obtain ⟨z1, z2, re, im, e1, e2, e3⟩ := far_floats (coordP a0_0) (coordP a0_1) (coordP a1_0) (coordP a1_1) (coordP_bd _) (coordP_bd _) (coordP_bd _) (coordP_bd _)
  have hsub := fun W : World => run_complex_sum (P := Try.prog) W .sub (.inr rfl) 45 .f64 _ _ _ _ _ _ e1
  have hmul := fun W : World => run_complex_mul (P := Try.prog) W 45 _ _ _ _ _ _ e2
  have hconv := fun W : World => run_convert_float_int (P := Try.prog) W 47 3 .f64 .i64 re _ (by kernel_rfl) (by kernel_rfl) e3
  have hneg : ∀ W : World, (Op.unary .neg (.float .f64 z2)).run Try.prog W = .ok (.float .f64 (Op.negFloat .f64 z2)) W := fun W => rfl
  have HH := hidI h
  clear e1 e2 e3 h
  go_enter Try.func25, Try.ntmps25
  go_wp2_with fail
  go_region_with ((refine (place_calls _ _ _ _ _ _ _).mono ?_; rintro e w' ⟨rfl, n, rfl⟩))
  all_goals
    go_wp2_with ((go_at_call 16; refine (num_Root.calls _ r _ HH.out).mono ?_; rintro e w' ⟨rfl, hb⟩))
    go_ret
    exact ⟨rfl, below_step (by repeat (first | exact Below.refl _ _ | apply below_alloc | apply pw_below_drewN | apply below_drew1)) hb⟩

/-! ### haulierlaw06_awake: function 24 -/
def haulierlaw06_awake.f  : Option (Bool) := (plane_Far.f 0 0 0 0 0 0 3 4 0 0 0 0).bind fun t101 => (if t101 = 5 then ((plane_Far.f 0 0 0 0 0 0 1 1 0 0 0 0).bind fun t102 => (some (t102 == 2))) else (some false))
set_option maxHeartbeats 8000000 in
set_option maxRecDepth 100000 in
theorem haulierlaw06_awake.calls  (r : Bool) (w : World) (h : haulierlaw06_awake.f  = some r) :
    Calls Try.prog 24 #[] w fun e w' => e = .returned (.bool r) ∧ Below w.heap.size w w' := by
  have hu35 := Try.underlying35
  have HB := Aside0.mk (Below.refl w.heap.size w)
  have H : ((plane_Far.f 0 0 0 0 0 0 3 4 0 0 0 0).bind fun t101 => (if t101 = 5 then ((plane_Far.f 0 0 0 0 0 0 1 1 0 0 0 0).bind fun t102 => (some (t102 == 2))) else (some false))) = some r := h
  clear h
  replace H := Option.bind_eq_some_iff.mp H
  obtain ⟨t101, A10, H⟩ := H
  replace H : (if t101 = 5 then ((plane_Far.f 0 0 0 0 0 0 1 1 0 0 0 0).bind fun t102 => (some (t102 == 2))) else (some false)) = some r := H
  have A1 := Aside0.mk A10
  clear A10
  by_cases c2 : t101 = 5
  · rw [if_pos c2] at H
    have c2b0 : (t101 == 5) = true := beq_iff_eq.mpr c2
    have c2b1 : (t101 != 5) = false := bne_eq_false_iff_eq.mpr c2
    clear c2
    replace H := Option.bind_eq_some_iff.mp H
    obtain ⟨t102, A30, H⟩ := H
    replace H : (some (t102 == 2)) = some r := H
    have A3 := Aside0.mk A30
    clear A30
    obtain rfl := Option.some.inj H
    go_enter Try.func24, Try.ntmps24
    go_wp2_with (first | ((with_reducible refine gate_callee (f := 25) rfl ?_); refine goesL_ (some 3) rfl rfl Try.func25 (by kernel_rfl) rfl #[.agg #[.int .i64 0, .int .i64 0, .int .i64 0, .int .i64 0, .int .i64 0, .int .i64 0], .agg #[.int .i64 3, .int .i64 4, .int .i64 0, .int .i64 0, .int .i64 0, .int .i64 0]] rfl (by (try simp only [List.map_toArray, List.map_cons, List.map_nil]); first | done | rfl | (simp only [List.length_drop, List.length_take]; rfl)) ?_; (with_reducible refine (plane_Far.calls 0 0 0 0 0 0 3 4 0 0 0 0 t101 _ A1.out).mono ?_); rintro e w4 ⟨rfl, hb⟩; refine ⟨_, rfl, ?_⟩; have n0_ := Aside0.mk (below_step (by repeat (first | (with_reducible first | exact HB.out | apply below_alloc | apply pw_below_drewN | apply below_drew1) | exact HB.out)) hb); clear HB; have HB := n0_; clear n0_; (try clear hb); (try clear hb2); (try clear hk); (try clear hi)) | (go_at_call 25; (with_reducible refine (plane_Far.calls 0 0 0 0 0 0 1 1 0 0 0 0 t102 _ A3.out).mono ?_); rintro e w5 ⟨rfl, hb⟩; have n0_ := Aside0.mk (below_step (by repeat (first | (with_reducible first | exact HB.out | apply below_alloc | apply pw_below_drewN | apply below_drew1) | exact HB.out)) hb); clear HB; have HB := n0_; clear n0_; (try clear hb); (try clear hb2); (try clear hk); (try clear hi)))
    go_ret
    exact ⟨by first | rfl | (simp [errW_none, errW_some] <;> rfl) | (simp [*, errW_none, errW_some] <;> rfl), by repeat (first | (with_reducible first | exact HB.out | apply below_alloc | apply pw_below_drewN | apply below_drew1) | exact HB.out)⟩
  · rw [if_neg c2] at H
    have c2b0 : (t101 == 5) = false := beq_eq_false_iff_ne.mpr c2
    have c2b1 : (t101 != 5) = true := bne_iff_ne.mpr c2
    obtain rfl := Option.some.inj H
    go_enter Try.func24, Try.ntmps24
    go_wp2_with (first | ((with_reducible refine gate_callee (f := 25) rfl ?_); refine goesL_ (some 3) rfl rfl Try.func25 (by kernel_rfl) rfl #[.agg #[.int .i64 0, .int .i64 0, .int .i64 0, .int .i64 0, .int .i64 0, .int .i64 0], .agg #[.int .i64 3, .int .i64 4, .int .i64 0, .int .i64 0, .int .i64 0, .int .i64 0]] rfl (by (try simp only [List.map_toArray, List.map_cons, List.map_nil]); first | done | rfl | (simp only [List.length_drop, List.length_take]; rfl)) ?_; (with_reducible refine (plane_Far.calls 0 0 0 0 0 0 3 4 0 0 0 0 t101 _ A1.out).mono ?_); rintro e w6 ⟨rfl, hb⟩; refine ⟨_, rfl, ?_⟩; have n0_ := Aside0.mk (below_step (by repeat (first | (with_reducible first | exact HB.out | apply below_alloc | apply pw_below_drewN | apply below_drew1) | exact HB.out)) hb); clear HB; have HB := n0_; clear n0_; (try clear hb); (try clear hb2); (try clear hk); (try clear hi)))
    go_ret
    exact ⟨by first | rfl | (simp [errW_none, errW_some] <;> rfl) | (simp [*, errW_none, errW_some] <;> rfl), by repeat (first | (with_reducible first | exact HB.out | apply below_alloc | apply pw_below_drewN | apply below_drew1) | exact HB.out)⟩

end Go.Proofs.Ytnfcccfcfckegaa.PB
