-- Printed for this claim by wip/tools/xprint.py over the kit's print; the contracts marked BY HAND are this session's own.
import Derived.Test.YtjiammiihamkiaaPAx0
namespace Go.Proofs.Ytjiammiihamkiaa.PA
open Go.RowKit Go.Proofs.YtjiammiihamkiaaW.PrintWords Go.Proofs.YtjiammiihamkiaaW.PrintLast Go.Proofs.YtjiammiihamkiaaW.PrintMore
attribute [local go_sem] max2_int min2_int max_two min_two max_three min_three max_four min_four   -- for this text's walks alone
set_option linter.unusedVariables false
set_option linter.unusedSimpArgs false

-- NOT PRINTED: function 30 (plane_place)

/-! ### num_Root: function 31, BY HAND -/
theorem hidI {p : Prop} (h : p) : Hid p := h
def rootGo (n : Int) : Nat → Int → Int
  | 0, r => if (r + 1) * (r + 1) < n then r + 1 else r
  | j + 1, r => rootGo n j (if (r + 2 ^ (j + 1)) * (r + 2 ^ (j + 1)) < n then r + 2 ^ (j + 1) else r)
def rootTop (m : Int) : Int := if 0 < m then rootGo m 30 0 + 1 else rootGo m 30 0
def num_Root.f (a0 : Int) : Option Int := some (rootTop (mn (mx a0 0) 1152921504606846976))

theorem sq_bd {x : Int} (h0 : 0 ≤ x) (h : x ≤ 2147483648) : 0 ≤ x * x ∧ x * x ≤ 4611686018427387904 := by
  refine ⟨Int.mul_nonneg h0 h0, ?_⟩
  have := Int.mul_le_mul h h h0 (by omega)
  omega
theorem two_pow_half (j : Nat) : (2 : Int) ^ (j + 1) / 2 = 2 ^ j := by rw [Int.pow_succ]; omega
theorem two_pow_pos (j : Nat) : (1 : Int) ≤ 2 ^ j := by have : (0:Int) < 2 ^ j := Int.pow_pos (by omega); omega

theorem root_next {q x b r : Int} {j : Nat} (hj : b = 2 ^ j) (hb2 : 0 < b / 2) (HR : (if 0 < q then rootGo q j x + 1 else rootGo q j x) = r) :
    ∃ i : Nat, b / 2 = 2 ^ i ∧ (∀ y, y = (if (x + b) * (x + b) < q then x + b else x) → (if 0 < q then rootGo q i y + 1 else rootGo q i y) = r) := by
  cases j with
  | zero => subst hj; exact absurd hb2 (by decide)
  | succ i =>
    refine ⟨i, by rw [hj]; exact two_pow_half i, ?_⟩
    rintro y rfl
    rw [hj]
    simpa only [rootGo] using HR
theorem root_last {q x b r : Int} {j : Nat} (hj : b = 2 ^ j) (hb : 1 ≤ b) (hb2 : b / 2 ≤ 0) (HR : (if 0 < q then rootGo q j x + 1 else rootGo q j x) = r) :
    (∀ y, y = (if (x + b) * (x + b) < q then x + b else x) → (if 0 < q then y + 1 else y) = r) := by
  have hb1 : b = 1 := by omega
  cases j with
  | zero =>
    rintro y rfl
    rw [hb1]
    simpa only [rootGo] using HR
  | succ i =>
    have := two_pow_pos i
    rw [Int.pow_succ] at hj
    omega
set_option maxHeartbeats 2000000 in
set_option maxRecDepth 100000 in
theorem num_Root.calls (n : Int) (r : Int) (w : World) (h : num_Root.f n = some r) :
    Calls Try.prog 31 #[.int .i64 n] w fun e w' => e = .returned (.int .i64 r) ∧ Below w.heap.size w w' := by
  unfold num_Root.f at h
  injection h with h
  obtain ⟨q1, hq1⟩ : ∃ q1, (if n < 0 then 0 else n) = q1 := ⟨_, rfl⟩
  obtain ⟨q, hq⟩ : ∃ q, (if 1152921504606846976 < q1 then 1152921504606846976 else q1) = q := ⟨_, rfl⟩
  have e0 : mn (mx n 0) 1152921504606846976 = q := by unfold mn mx; rw [hq1, hq]
  rw [e0] at h
  clear e0
  have HH := hidI h
  have hge1 : 0 ≤ q1 := by rw [← hq1]; split <;> omega
  have hlo : q ≤ 1152921504606846976 := by rw [← hq]; split <;> omega
  have hge : 0 ≤ q := by rw [← hq]; split <;> omega
  clear h
  go_enter Try.func31, Try.ntmps31
  go_wp2
  refine wp_scope_jumps 0 (fun a' w' => w' = w ∧ ∃ (x b : Int) (j : Nat) (u1 u5 u6 u7 u8 u9 u10 u11 u12 u13 u14 u15 u16 u17 u18 u19 u20 u21 u22 u23 u24 u25 u26 : Value), a' = { tmps := #[.int .i64 q, u1, .int .i64 0, .int .i64 x, .int .i64 b, u5, u6, u7, u8, u9, u10, u11, u12, u13, u14, u15, u16, u17, u18, u19, u20, u21, u22, u23, u24, u25, u26], defers := [] } ∧ Hid (b = 2 ^ j) ∧ 0 ≤ x ∧ 1 ≤ b ∧ x + 2 * b ≤ 2147483648 ∧ Hid ((if 0 < q then rootGo q j x + 1 else rootGo q j x) = r)) (fun a' _ => (intOf (a'.tmps.getD 4 undef)).toNat) rfl ?_ ?_
  · have NX := hidI (root_next (x := 0) (b := 1073741824) (j := 30) (by decide) (by decide) HH.out)
    go_wp2
    go_step3
    go_wp2
    go_step3
    obtain ⟨i, hi, hn⟩ := NX.out
    exact ⟨rfl, rfl, 0, 536870912, i, _, _, _, _, _, _, _, _, _, _, _, _, _, _, _, _, _, _, _, _, _, _, _, rfl, hidI (by rw [← hi]; rfl), by omega, by omega, by omega, hidI (hn _ (by rw [if_neg (by omega)]))⟩
  · rintro a' w' ⟨rfl, x, b, j, u1, u5, u6, u7, u8, u9, u10, u11, u12, u13, u14, u15, u16, u17, u18, u19, u20, u21, u22, u23, u24, u25, u26, rfl, hj, hx, hb, hxb, HR⟩
    clear hq hq1
    have hsq := sq_bd (x := x + b) (by omega) (by omega)
    obtain ⟨hs1, hs2⟩ := hsq
    by_cases hlt : (x + b) * (x + b) < q
    · have hq0 : 0 < q := by omega
      by_cases hb2 : 0 < b / 2
      · have NX := hidI (root_next hj.out hb2 HR.out)
        go_wp2
        go_step3
        obtain ⟨i, hi, hn⟩ := NX.out
        exact ⟨rfl, ⟨rfl, _, _, i, _, _, _, _, _, _, _, _, _, _, _, _, _, _, _, _, _, _, _, _, _, _, _, rfl, hidI hi, by omega, by omega, by omega, hidI (hn _ (by rw [if_pos (by omega)]))⟩, by simp [intOf]; omega⟩
      · have NX := hidI (root_last hj.out hb (by omega) HR.out)
        go_wp2
        simp only [Exit.jump]
        go_ret
        have hn := NX.out _ rfl
        rw [if_pos hlt, if_pos hq0] at hn
        exact ⟨by rw [← hn]; rfl, Below.refl _ _⟩
    · by_cases hb2 : 0 < b / 2
      · have NX := hidI (root_next hj.out hb2 HR.out)
        go_wp2
        go_step3
        obtain ⟨i, hi, hn⟩ := NX.out
        exact ⟨rfl, ⟨rfl, _, _, i, _, _, _, _, _, _, _, _, _, _, _, _, _, _, _, _, _, _, _, _, _, _, _, rfl, hidI hi, by omega, by omega, by omega, hidI (hn _ (by rw [if_neg (by omega)]))⟩, by simp [intOf]; omega⟩
      · have NX := hidI (root_last hj.out hb (by omega) HR.out)
        by_cases hq0 : 0 < q
        · go_wp2
          simp only [Exit.jump]
          go_ret
          have hn := NX.out _ rfl
          simp only [if_neg (show ¬ ((x + b) * (x + b) < q) by omega), if_pos hq0] at hn
          exact ⟨by rw [← hn]; rfl, Below.refl _ _⟩
        · go_wp2
          simp only [Exit.jump]
          go_ret
          have hn := NX.out _ rfl
          simp only [if_neg (show ¬ ((x + b) * (x + b) < q) by omega), if_neg (show ¬ (0 < q) by omega)] at hn
          exact ⟨by rw [← hn]; rfl, Below.refl _ _⟩

/-! ### plane_Far: function 17, BY HAND -/
def coordP (n : Int) : Int := mn (mx n 0) 10000
theorem bound_calls (n : Int) (w : World) : Calls Try.prog 49 #[.int .i64 n] w fun e w' => e = .returned (.float .f64 (floatOfInt .f64 (coordP n))) ∧ w = w' := by
  obtain ⟨q1, hq1⟩ : ∃ q1, (if n < 0 then 0 else n) = q1 := ⟨_, rfl⟩
  obtain ⟨q, hq⟩ : ∃ q, (if 10000 < q1 then 10000 else q1) = q := ⟨_, rfl⟩
  have e0 : coordP n = q := by unfold coordP mn mx; rw [hq1, hq]
  rw [e0]
  clear e0
  have hconv : ∀ (W : World), (convert 3 62 (.int .i64 q)).run Try.prog W = .ok (.float .f64 (floatOfInt .f64 q)) W := fun W => run_convert_int_float W 3 62 .i64 .f64 q (by kernel_rfl) (by kernel_rfl)
  go_enter Try.func49, Try.ntmps49
  go_wp2
  go_ret
  exact ⟨rfl, rfl⟩

def PlacePost (w : World) (a0 a1 a2 a3 a4 a5 : Int) (e : Ending) (w' : World) : Prop := e = .returned (.complex .f64 (floatOfInt .f64 (coordP a0)) (floatOfInt .f64 (coordP a1))) ∧ ∃ n, w' = (w.alloc (.cells #[.int .i64 a0, .int .i64 a1, .int .i64 a2, .int .i64 a3, .int .i64 a4, .int .i64 a5] 23)).drewN n
theorem place_calls (a0 a1 a2 a3 a4 a5 : Int) (w : World) : Calls Try.prog 30 #[.agg #[.int .i64 a0, .int .i64 a1, .int .i64 a2, .int .i64 a3, .int .i64 a4, .int .i64 a5]] w (PlacePost w a0 a1 a2 a3 a4 a5) := by
  go_enter Try.func30, Try.ntmps30
  go_wp2_with fail
  go_quiet ((exact Calls.quiet_of_same ((bound_calls _ _).mono fun _ _ h => ⟨h.1, h.2.symm⟩)))
  go_wp2
  go_ret
  exact ⟨rfl, _, rfl⟩

theorem coordP_bd (n : Int) : 0 ≤ coordP n ∧ coordP n ≤ 10000 := by
  unfold coordP mn mx
  by_cases h : n < 0
  · rw [if_pos h, if_neg (by omega)]; omega
  · rw [if_neg h]
    by_cases h2 : 10000 < n
    · rw [if_pos h2]; omega
    · rw [if_neg h2]; omega
theorem sq_bd4 {x : Int} (h : -10000 ≤ x) (h' : x ≤ 10000) : 0 ≤ x * x ∧ x * x ≤ 100000000 := by
  by_cases h0 : 0 ≤ x
  · refine ⟨Int.mul_nonneg h0 h0, ?_⟩
    have := Int.mul_le_mul h' h' h0 (by omega)
    omega
  · have e : x * x = (-x) * (-x) := (Int.neg_mul_neg x x).symm
    rw [e]
    refine ⟨Int.mul_nonneg (by omega) (by omega), ?_⟩
    have := Int.mul_le_mul (show -x ≤ 10000 by omega) (show -x ≤ 10000 by omega) (by omega) (by omega)
    omega
theorem prod_bd4 {x y : Int} (h : -10000 ≤ x) (h' : x ≤ 10000) (k : -10000 ≤ y) (k' : y ≤ 10000) : (x * y).natAbs ≤ 100000000 := by
  rw [Int.natAbs_mul]
  have := Nat.mul_le_mul (show x.natAbs ≤ 10000 by omega) (show y.natAbs ≤ 10000 by omega)
  omega
/-- The float that stands for the square of how far it is. -/
theorem far_floats (p q s t : Int) (hp : 0 ≤ p ∧ p ≤ 10000) (hq : 0 ≤ q ∧ q ≤ 10000) (hs : 0 ≤ s ∧ s ≤ 10000) (ht : 0 ≤ t ∧ t ≤ 10000) :
    ∃ z1 z2 re im, cSumBits .sub .f64 (floatOfInt .f64 p) (floatOfInt .f64 q) (floatOfInt .f64 s) (floatOfInt .f64 t) = some (z1, z2) ∧
      cMulBits z1 z2 z1 (Op.negFloat .f64 z2) = some (re, im) ∧ floatToIntVal .f64 re .i64 = some ((p - s) * (p - s) + (q - t) * (q - t)) := by
  obtain ⟨z1, e1, f1⟩ := (Go.Proofs.Ytjiammiihamkiaa.Fl.FV.ofInt (n := p) (by omega)).sub (Go.Proofs.Ytjiammiihamkiaa.Fl.FV.ofInt (n := s) (by omega)) (by omega)
  obtain ⟨z2, e2, f2⟩ := (Go.Proofs.Ytjiammiihamkiaa.Fl.FV.ofInt (n := q) (by omega)).sub (Go.Proofs.Ytjiammiihamkiaa.Fl.FV.ofInt (n := t) (by omega)) (by omega)
  generalize hx : p - s = x at *
  generalize hy : q - t = y at *
  have sx := sq_bd4 (x := x) (by omega) (by omega)
  have sy := sq_bd4 (x := y) (by omega) (by omega)
  have sxy := prod_bd4 (x := x) (y := y) (by omega) (by omega) (by omega) (by omega)
  have eyy : y * -y = -(y * y) := Int.mul_neg y y
  have exy : x * -y = -(x * y) := Int.mul_neg x y
  have eyx : y * x = x * y := Int.mul_comm y x
  have f3 := f2.neg
  obtain ⟨ac, g1, h1⟩ := f1.mul f1 (by omega)
  obtain ⟨bd, g2, h2⟩ := f2.mul f3 (by omega)
  obtain ⟨re, g3, h3⟩ := h1.sub h2 (by omega)
  obtain ⟨ad, g4, h4⟩ := f1.mul f3 (by omega)
  obtain ⟨bc, g5, h5⟩ := f2.mul f1 (by omega)
  obtain ⟨im, g6, h6⟩ := h4.add h5 (by omega)
  refine ⟨z1, z2, re, im, ?_, ?_, ?_⟩
  · unfold cSumBits; rw [e1, e2]; rfl
  · unfold cMulBits; simp only [g1, g2, g3, g4, g5, g6, Option.bind_some]
  · have := h3.toInt (by omega) (by omega)
    rw [this]; congr 1; omega

def plane_Far.f (a0_0 a0_1 a0_2 a0_3 a0_4 a0_5 : Int) (a1_0 a1_1 a1_2 a1_3 a1_4 a1_5 : Int) : Option Int := num_Root.f ((coordP a0_0 - coordP a1_0) * (coordP a0_0 - coordP a1_0) + (coordP a0_1 - coordP a1_1) * (coordP a0_1 - coordP a1_1))
theorem plane_Far.calls (a0_0 a0_1 a0_2 a0_3 a0_4 a0_5 : Int) (a1_0 a1_1 a1_2 a1_3 a1_4 a1_5 : Int) (r : Int) (w : World) (h : plane_Far.f a0_0 a0_1 a0_2 a0_3 a0_4 a0_5 a1_0 a1_1 a1_2 a1_3 a1_4 a1_5 = some r) :
    Calls Try.prog 17 #[.agg #[.int .i64 a0_0, .int .i64 a0_1, .int .i64 a0_2, .int .i64 a0_3, .int .i64 a0_4, .int .i64 a0_5], .agg #[.int .i64 a1_0, .int .i64 a1_1, .int .i64 a1_2, .int .i64 a1_3, .int .i64 a1_4, .int .i64 a1_5]] w fun e w' => e = .returned (.int .i64 r) ∧ Below w.heap.size w w' := by
  obtain ⟨z1, z2, re, im, e1, e2, e3⟩ := far_floats (coordP a0_0) (coordP a0_1) (coordP a1_0) (coordP a1_1) (coordP_bd _) (coordP_bd _) (coordP_bd _) (coordP_bd _)
  have hsub := fun W : World => run_complex_sum (P := Try.prog) W .sub (.inr rfl) 60 .f64 _ _ _ _ _ _ e1
  have hmul := fun W : World => run_complex_mul (P := Try.prog) W 60 _ _ _ _ _ _ e2
  have hconv := fun W : World => run_convert_float_int (P := Try.prog) W 62 3 .f64 .i64 re _ (by kernel_rfl) (by kernel_rfl) e3
  have hneg : ∀ W : World, (Op.unary .neg (.float .f64 z2)).run Try.prog W = .ok (.float .f64 (Op.negFloat .f64 z2)) W := fun W => rfl
  have HH := hidI h
  clear e1 e2 e3 h
  go_enter Try.func17, Try.ntmps17
  go_wp2_with fail
  go_region_with ((refine (place_calls _ _ _ _ _ _ _).mono ?_; rintro e w' ⟨rfl, n, rfl⟩))
  all_goals
    go_wp2_with ((go_at_call 31; refine (num_Root.calls _ r _ HH.out).mono ?_; rintro e w' ⟨rfl, hb⟩))
    go_ret
    exact ⟨rfl, below_step (by repeat (first | exact Below.refl _ _ | apply below_alloc | apply pw_below_drewN | apply below_drew1)) hb⟩

/-! ### haulierlaw06_awake: function 10 -/
def haulierlaw06_awake.f  : Option (Bool) := (plane_Far.f 0 0 0 0 0 0 3 4 0 0 0 0).bind fun t101 => (if t101 = 5 then ((plane_Far.f 0 0 0 0 0 0 1 1 0 0 0 0).bind fun t102 => (some (t102 == 2))) else (some false))
set_option maxHeartbeats 8000000 in
set_option maxRecDepth 100000 in
theorem haulierlaw06_awake.calls  (r : Bool) (w : World) (h : haulierlaw06_awake.f  = some r) :
    Calls Try.prog 10 #[] w fun e w' => e = .returned (.bool r) ∧ Below w.heap.size w w' := by
  have hu23 := Try.underlying23
  have HB := Aside0.mk (Below.refl w.heap.size w)
  have H : ((plane_Far.f 0 0 0 0 0 0 3 4 0 0 0 0).bind fun t101 => (if t101 = 5 then ((plane_Far.f 0 0 0 0 0 0 1 1 0 0 0 0).bind fun t102 => (some (t102 == 2))) else (some false))) = some r := h
  clear h
  replace H := Option.bind_eq_some_iff.mp H
  obtain ⟨t101, A10, H⟩ := H
  replace H : (if t101 = 5 then ((plane_Far.f 0 0 0 0 0 0 1 1 0 0 0 0).bind fun t102 => (some (t102 == 2))) else (some false)) = some r := H
  have A1 := Aside0.mk A10
  clear A10
  by_cases c2 : t101 = 5
  · rw [if_pos c2] at H
    have c2b0 : (t101 == 5) = true := beq_iff_eq.mpr c2
    have c2b1 : (t101 != 5) = false := bne_eq_false_iff_eq.mpr c2
    clear c2
    replace H := Option.bind_eq_some_iff.mp H
    obtain ⟨t102, A30, H⟩ := H
    replace H : (some (t102 == 2)) = some r := H
    have A3 := Aside0.mk A30
    clear A30
    obtain rfl := Option.some.inj H
    go_enter Try.func10, Try.ntmps10
    go_wp2_with (first | ((with_reducible refine gate_callee (f := 17) rfl ?_); refine goesL_ (some 3) rfl rfl Try.func17 (by kernel_rfl) rfl #[.agg #[.int .i64 0, .int .i64 0, .int .i64 0, .int .i64 0, .int .i64 0, .int .i64 0], .agg #[.int .i64 3, .int .i64 4, .int .i64 0, .int .i64 0, .int .i64 0, .int .i64 0]] rfl (by (try simp only [List.map_toArray, List.map_cons, List.map_nil]); first | done | rfl | (simp only [List.length_drop, List.length_take]; rfl)) ?_; (with_reducible refine (plane_Far.calls 0 0 0 0 0 0 3 4 0 0 0 0 t101 _ A1.out).mono ?_); rintro e w4 ⟨rfl, hb⟩; refine ⟨_, rfl, ?_⟩; have n0_ := Aside0.mk (below_step (by repeat (first | (with_reducible first | exact HB.out | apply below_alloc | apply pw_below_drewN | apply below_drew1) | exact HB.out)) hb); clear HB; have HB := n0_; clear n0_; (try clear hb); (try clear hb2); (try clear hk); (try clear hi)) | (go_at_call 17; (with_reducible refine (plane_Far.calls 0 0 0 0 0 0 1 1 0 0 0 0 t102 _ A3.out).mono ?_); rintro e w5 ⟨rfl, hb⟩; have n0_ := Aside0.mk (below_step (by repeat (first | (with_reducible first | exact HB.out | apply below_alloc | apply pw_below_drewN | apply below_drew1) | exact HB.out)) hb); clear HB; have HB := n0_; clear n0_; (try clear hb); (try clear hb2); (try clear hk); (try clear hi)))
    go_ret
    exact ⟨by first | rfl | (simp [errW_none, errW_some] <;> rfl) | (simp [*, errW_none, errW_some] <;> rfl), by repeat (first | (with_reducible first | exact HB.out | apply below_alloc | apply pw_below_drewN | apply below_drew1) | exact HB.out)⟩
  · rw [if_neg c2] at H
    have c2b0 : (t101 == 5) = false := beq_eq_false_iff_ne.mpr c2
    have c2b1 : (t101 != 5) = true := bne_iff_ne.mpr c2
    obtain rfl := Option.some.inj H
    go_enter Try.func10, Try.ntmps10
    go_wp2_with (first | ((with_reducible refine gate_callee (f := 17) rfl ?_); refine goesL_ (some 3) rfl rfl Try.func17 (by kernel_rfl) rfl #[.agg #[.int .i64 0, .int .i64 0, .int .i64 0, .int .i64 0, .int .i64 0, .int .i64 0], .agg #[.int .i64 3, .int .i64 4, .int .i64 0, .int .i64 0, .int .i64 0, .int .i64 0]] rfl (by (try simp only [List.map_toArray, List.map_cons, List.map_nil]); first | done | rfl | (simp only [List.length_drop, List.length_take]; rfl)) ?_; (with_reducible refine (plane_Far.calls 0 0 0 0 0 0 3 4 0 0 0 0 t101 _ A1.out).mono ?_); rintro e w6 ⟨rfl, hb⟩; refine ⟨_, rfl, ?_⟩; have n0_ := Aside0.mk (below_step (by repeat (first | (with_reducible first | exact HB.out | apply below_alloc | apply pw_below_drewN | apply below_drew1) | exact HB.out)) hb); clear HB; have HB := n0_; clear n0_; (try clear hb); (try clear hb2); (try clear hk); (try clear hi)))
    go_ret
    exact ⟨by first | rfl | (simp [errW_none, errW_some] <;> rfl) | (simp [*, errW_none, errW_some] <;> rfl), by repeat (first | (with_reducible first | exact HB.out | apply below_alloc | apply pw_below_drewN | apply below_drew1) | exact HB.out)⟩

/-! ### haulierref04_Same: function 11 -/
mutual
def haulierref04_Same.l0 : Nat → List (List Int) → List (List Int) → Int → Option (Bool)
  | 0, _, _, _ => none
  | k + 1, x0, x1, x5 => if x5 < (x0.length : Int) then (if 0 ≤ x5 then (if x5 < (x1.length : Int) then (if ((rd_L2 x0 x5).length : Int) = ((rd_L2 x1 x5).length : Int) then (haulierref04_Same.l1 k x0 x1 x5 0) else (some false)) else (none)) else (none)) else (some true)
def haulierref04_Same.l1 : Nat → List (List Int) → List (List Int) → Int → Int → Option (Bool)
  | 0, _, _, _, _ => none
  | k + 1, x0, x1, x5, x6 => if 0 ≤ x5 then (if x5 < (x0.length : Int) then (if x6 < ((rd_L2 x0 x5).length : Int) then (if 0 ≤ x6 then (if x5 < (x1.length : Int) then (if x6 < ((rd_L2 x1 x5).length : Int) then (if (rd (rd_L2 x0 x5) x6) = (rd (rd_L2 x1 x5) x6) then (haulierref04_Same.l1 k x0 x1 x5 (wrap64 (x6 + 1))) else (some false)) else (none)) else (none)) else (none)) else (haulierref04_Same.l0 k x0 x1 (wrap64 (x5 + 1)))) else (none)) else (none)
end
def haulierref04_Same.f (k : Nat) (l0 : List (List Int)) (l1 : List (List Int)) : Option (Bool) := if (l0.length : Int) = (l1.length : Int) then (haulierref04_Same.l0 k l0 l1 0) else (some false)
theorem haulierref04_Same.mono_l : ∀ k, (∀ y0 y1 y2, LeO (haulierref04_Same.l0 k y0 y1 y2) (haulierref04_Same.l0 (k + 1) y0 y1 y2)) ∧ (∀ y0 y1 y2 y3, LeO (haulierref04_Same.l1 k y0 y1 y2 y3) (haulierref04_Same.l1 (k + 1) y0 y1 y2 y3))
  | 0 => ⟨fun _ _ _ r h => by simp [haulierref04_Same.l0] at h, fun _ _ _ _ r h => by simp [haulierref04_Same.l1] at h⟩
  | k + 1 => by
    obtain ⟨ih0, ih1⟩ := haulierref04_Same.mono_l k
    refine ⟨?_, ?_⟩
    · intro y0 y1 y2
      unfold haulierref04_Same.l0
      repeat' first
      | (with_reducible exact ih0 _ _ _)
      | (with_reducible exact ih1 _ _ _ _)
      | (with_reducible exact LeO.refl _)
      | (with_reducible exact LeO.none _)
      | (with_reducible refine LeO.ite ?_ ?_)
      | (with_reducible refine LeO.bind ?_ (fun _ => ?_))
      | exact ih0 _ _ _
      | exact ih1 _ _ _ _
      | exact LeO.none _
      | refine LeO.ite ?_ ?_
      | refine LeO.bind ?_ (fun _ => ?_)
    · intro y0 y1 y2 y3
      unfold haulierref04_Same.l1
      repeat' first
      | (with_reducible exact ih0 _ _ _)
      | (with_reducible exact ih1 _ _ _ _)
      | (with_reducible exact LeO.refl _)
      | (with_reducible exact LeO.none _)
      | (with_reducible refine LeO.ite ?_ ?_)
      | (with_reducible refine LeO.bind ?_ (fun _ => ?_))
      | exact ih0 _ _ _
      | exact ih1 _ _ _ _
      | exact LeO.none _
      | refine LeO.ite ?_ ?_
      | refine LeO.bind ?_ (fun _ => ?_)
theorem haulierref04_Same.mono : ∀ a0 a1 k, LeO (haulierref04_Same.f k a0 a1) (haulierref04_Same.f (k + 1) a0 a1) := by
  intro a0 a1 k
  obtain ⟨ih0, ih1⟩ := haulierref04_Same.mono_l k
  unfold haulierref04_Same.f
  repeat' first
      | (with_reducible exact ih0 _ _ _)
      | (with_reducible exact ih1 _ _ _ _)
      | (with_reducible exact LeO.refl _)
      | (with_reducible exact LeO.none _)
      | (with_reducible refine LeO.ite ?_ ?_)
      | (with_reducible refine LeO.bind ?_ (fun _ => ?_))
      | exact ih0 _ _ _
      | exact ih1 _ _ _ _
      | exact LeO.none _
      | refine LeO.ite ?_ ?_
      | refine LeO.bind ?_ (fun _ => ?_)
set_option maxHeartbeats 8000000 in
set_option maxRecDepth 100000 in
theorem haulierref04_Same.calls (k : Nat) (A0 : Option Addr) (c0 : Nat) (l0 : List (List Int)) (A1 : Option Addr) (c1 : Nat) (l1 : List (List Int)) (r : Bool) (w : World) (hr0 : Kd.C (Kd.slice 3 (Kd.int .i64)) w A0 l0.length l0) (hc0 : l0.length ≤ c0) (hr1 : Kd.C (Kd.slice 3 (Kd.int .i64)) w A1 l1.length l1) (hc1 : l1.length ≤ c1) (h : haulierref04_Same.f k l0 l1 = some r) :
    Calls Try.prog 11 #[.slice A0 l0.length c0, .slice A1 l1.length c1] w fun e w' => e = .returned (.bool r) ∧ Drawn0 w w' := by
  have HR0 := Aside0.mk hr0
  have HC0 := Aside0.mk hc0
  clear hr0 hc0
  have HR1 := Aside0.mk hr1
  have HC1 := Aside0.mk hc1
  clear hr1 hc1
  have H : (if (l0.length : Int) = (l1.length : Int) then (haulierref04_Same.l0 k l0 l1 0) else (some false)) = some r := h
  clear h
  by_cases c3 : (l0.length : Int) = (l1.length : Int)
  · rw [if_pos c3] at H
    have c3b0 : ((l0.length : Int) == (l1.length : Int)) = true := beq_iff_eq.mpr c3
    have c3b1 : ((l0.length : Int) != (l1.length : Int)) = false := bne_eq_false_iff_eq.mpr c3
    have c3b2 : (l0.length == l1.length) = true := by first | simpa using c3 | (simp at c3 ⊢; omega)
    clear c3
    have H' := Aside0.mk H
    clear H
    go_enter Try.func11, Try.ntmps11
    go_wp2
    repeat (go_quiet (fail); try go_wp2)
    go_loopg [5] k (fun kq v5 w' => ∃ (x5_1 : Int), v5 = .int .i64 x5_1 ∧ Aside0 (haulierref04_Same.l0 kq l0 l1 x5_1 = some r) ∧ Aside0 (kq ≤ k) ∧ Drawn0 w w')
    case atStart => exact ⟨(0), (by first | rfl | (simp; done) | (simp [*]; done)), H', ⟨Nat.le_refl _⟩, by repeat (first | exact Drawn0.refl _ | apply Drawn0.step)⟩
    case round =>
      clear H'
      try clear c1
      try clear p2
      try clear c3
      try clear c3b0
      try clear c3b1
      try clear c3b2
      obtain ⟨x5_1, rfl, HA, HK1, ⟨m1, rfl⟩⟩ := hrel
      cases gk with
      | zero => exact absurd HA.out (by simp [haulierref04_Same.l0])
      | succ k1 =>
        have H := HA.out
        clear HA
        simp only [haulierref04_Same.l0] at H
        by_cases c4 : x5_1 < (l0.length : Int)
        · rw [if_pos c4] at H
          have c4b0 : decide (x5_1 < (l0.length : Int)) = true := decide_eq_true c4
          clear c4
          by_cases c5 : 0 ≤ x5_1
          · rw [if_pos c5] at H
            have c5b0 : decide (0 ≤ x5_1) = true := decide_eq_true c5
            clear c5
            by_cases c6 : x5_1 < (l1.length : Int)
            · rw [if_pos c6] at H
              have c6b0 : decide (x5_1 < (l1.length : Int)) = true := decide_eq_true c6
              clear c6
              by_cases c7 : ((rd_L2 l0 x5_1).length : Int) = ((rd_L2 l1 x5_1).length : Int)
              · rw [if_pos c7] at H
                have c7b0 : (((rd_L2 l0 x5_1).length : Int) == ((rd_L2 l1 x5_1).length : Int)) = true := beq_iff_eq.mpr c7
                have c7b1 : (((rd_L2 l0 x5_1).length : Int) != ((rd_L2 l1 x5_1).length : Int)) = false := bne_eq_false_iff_eq.mpr c7
                have c7b2 : ((rd_L2 l0 x5_1).length == (rd_L2 l1 x5_1).length) = true := by first | simpa using c7 | (simp at c7 ⊢; omega)
                clear c7
                have H' := Aside0.mk H
                clear H
                have p103 : 0 ≤ (x5_1 : Int) := of_decide_eq_true (by first | (with_reducible assumption) | assumption)
                have q103 : x5_1 < (l0.length : Int) := of_decide_eq_true (by first | (with_reducible assumption) | assumption)
                obtain ⟨ad103, A103_0, c103_0, e103, hx103_0, hl103_0, hi103_0⟩ := at_L2 HR0.out x5_1 p103 q103
                cases e103
                have HR103_0 := Aside0.mk hi103_0
                have HC103_0 := Aside0.mk hl103_0
                clear hi103_0 hl103_0
                replace p103 := eq_true p103
                replace q103 := eq_true q103
                have p104 : 0 ≤ (x5_1 : Int) := of_decide_eq_true (by first | (with_reducible assumption) | assumption)
                have q104 : x5_1 < (l1.length : Int) := of_decide_eq_true (by first | (with_reducible assumption) | assumption)
                obtain ⟨ad104, A104_0, c104_0, e104, hx104_0, hl104_0, hi104_0⟩ := at_L2 HR1.out x5_1 p104 q104
                cases e104
                have HR104_0 := Aside0.mk hi104_0
                have HC104_0 := Aside0.mk hl104_0
                clear hi104_0 hl104_0
                replace p104 := eq_true p104
                replace q104 := eq_true q104
                go_wp2
                repeat (go_quiet (fail); try go_wp2)
                go_loopg [6] k1 (fun kq v6 w' => ∃ (x6_2 : Int), v6 = .int .i64 x6_2 ∧ Aside0 (haulierref04_Same.l1 kq l0 l1 x5_1 x6_2 = some r) ∧ Aside0 (kq ≤ k1) ∧ Drawn0 w w')
                case atStart => exact ⟨(0), (by first | rfl | (simp; done) | (simp [*]; done)), H', ⟨Nat.le_refl _⟩, by repeat (first | exact Drawn0.refl _ | apply Drawn0.step)⟩
                case round =>
                  clear H'
                  try clear c1
                  try clear p1
                  try clear q1
                  try clear hx1
                  try clear p2
                  try clear c3
                  try clear c3b0
                  try clear c3b1
                  try clear c3b2
                  try clear c4
                  try clear c4b0
                  try clear c5
                  try clear c5b0
                  try clear c6
                  try clear c6b0
                  try clear c7
                  try clear c7b0
                  try clear c7b1
                  try clear c7b2
                  try clear hx103_0
                  try clear hx104_0
                  try clear p103
                  try clear p104
                  try clear p2
                  try clear q103
                  try clear q104
                  obtain ⟨x6_2, rfl, HA, HK2, ⟨m2, rfl⟩⟩ := hrel
                  cases gk with
                  | zero => exact absurd HA.out (by simp [haulierref04_Same.l1])
                  | succ k2 =>
                    have H := HA.out
                    clear HA
                    simp only [haulierref04_Same.l1] at H
                    by_cases c8 : 0 ≤ x5_1
                    · rw [if_pos c8] at H
                      have c8b0 : decide (0 ≤ x5_1) = true := decide_eq_true c8
                      clear c8
                      by_cases c9 : x5_1 < (l0.length : Int)
                      · rw [if_pos c9] at H
                        have c9b0 : decide (x5_1 < (l0.length : Int)) = true := decide_eq_true c9
                        clear c9
                        by_cases c10 : x6_2 < ((rd_L2 l0 x5_1).length : Int)
                        · rw [if_pos c10] at H
                          have c10b0 : decide (x6_2 < ((rd_L2 l0 x5_1).length : Int)) = true := decide_eq_true c10
                          clear c10
                          by_cases c11 : 0 ≤ x6_2
                          · rw [if_pos c11] at H
                            have c11b0 : decide (0 ≤ x6_2) = true := decide_eq_true c11
                            clear c11
                            by_cases c12 : x5_1 < (l1.length : Int)
                            · rw [if_pos c12] at H
                              have c12b0 : decide (x5_1 < (l1.length : Int)) = true := decide_eq_true c12
                              clear c12
                              by_cases c13 : x6_2 < ((rd_L2 l1 x5_1).length : Int)
                              · rw [if_pos c13] at H
                                have c13b0 : decide (x6_2 < ((rd_L2 l1 x5_1).length : Int)) = true := decide_eq_true c13
                                clear c13
                                by_cases c14 : (rd (rd_L2 l0 x5_1) x6_2) = (rd (rd_L2 l1 x5_1) x6_2)
                                · rw [if_pos c14] at H
                                  have c14b0 : ((rd (rd_L2 l0 x5_1) x6_2) == (rd (rd_L2 l1 x5_1) x6_2)) = true := beq_iff_eq.mpr c14
                                  have c14b1 : ((rd (rd_L2 l0 x5_1) x6_2) != (rd (rd_L2 l1 x5_1) x6_2)) = false := bne_eq_false_iff_eq.mpr c14
                                  clear c14
                                  have H' := Aside0.mk H
                                  clear H
                                  have p105 : 0 ≤ (x5_1 : Int) := of_decide_eq_true (by first | (with_reducible assumption) | assumption)
                                  have q105 : x5_1 < (l0.length : Int) := of_decide_eq_true (by first | (with_reducible assumption) | assumption)
                                  obtain ⟨ad105, A105_0, c105_0, e105, hx105_0, hl105_0, hi105_0⟩ := at_L2 HR0.out x5_1 p105 q105
                                  obtain rfl : ad103 = ad105 := (by injection e105)
                                  have HR105_0 := Aside0.mk hi105_0
                                  have HC105_0 := Aside0.mk hl105_0
                                  clear hi105_0 hl105_0
                                  replace p105 := eq_true p105
                                  replace q105 := eq_true q105
                                  have p106 : 0 ≤ (x5_1 : Int) := of_decide_eq_true (by first | (with_reducible assumption) | assumption)
                                  have q106 : x5_1 < (l0.length : Int) := of_decide_eq_true (by first | (with_reducible assumption) | assumption)
                                  obtain ⟨ad106, A106_0, c106_0, e106, hx106_0, hl106_0, hi106_0⟩ := at_L2 HR0.out x5_1 p106 q106
                                  obtain rfl : ad103 = ad106 := (by injection e106)
                                  have HR106_0 := Aside0.mk hi106_0
                                  have HC106_0 := Aside0.mk hl106_0
                                  clear hi106_0 hl106_0
                                  replace p106 := eq_true p106
                                  replace q106 := eq_true q106
                                  have ea_ := Option.some.inj (hx105_0.symm.trans hx106_0)
                                  injection ea_ with ea_ en_ ec_
                                  subst ea_
                                  subst ec_
                                  clear en_
                                  have p107 : 0 ≤ (x6_2 : Int) := of_decide_eq_true (by first | (with_reducible assumption) | assumption)
                                  have q107 : x6_2 < ((rd_L2 l0 x5_1).length : Int) := of_decide_eq_true (by first | (with_reducible assumption) | assumption)
                                  obtain ⟨ad107, e107, hx107_0⟩ := Kd.at_int HR106_0.out x6_2 p107 q107
                                  cases e107
                                  replace p107 := eq_true p107
                                  replace q107 := eq_true q107
                                  have p108 : 0 ≤ (x5_1 : Int) := of_decide_eq_true (by first | (with_reducible assumption) | assumption)
                                  have q108 : x5_1 < (l1.length : Int) := of_decide_eq_true (by first | (with_reducible assumption) | assumption)
                                  obtain ⟨ad108, A108_0, c108_0, e108, hx108_0, hl108_0, hi108_0⟩ := at_L2 HR1.out x5_1 p108 q108
                                  obtain rfl : ad104 = ad108 := (by injection e108)
                                  have HR108_0 := Aside0.mk hi108_0
                                  have HC108_0 := Aside0.mk hl108_0
                                  clear hi108_0 hl108_0
                                  replace p108 := eq_true p108
                                  replace q108 := eq_true q108
                                  have p109 : 0 ≤ (x6_2 : Int) := of_decide_eq_true (by first | (with_reducible assumption) | assumption)
                                  have q109 : x6_2 < ((rd_L2 l1 x5_1).length : Int) := of_decide_eq_true (by first | (with_reducible assumption) | assumption)
                                  obtain ⟨ad109, e109, hx109_0⟩ := Kd.at_int HR108_0.out x6_2 p109 q109
                                  cases e109
                                  replace p109 := eq_true p109
                                  replace q109 := eq_true q109
                                  go_wp2
                                  repeat (go_quiet (fail); try go_wp2)
                                  go_roundg k2
                                  case measure => have := HK1.out; have := HK2.out; omega
                                  case rel => exact ⟨(wrap64 (x6_2 + 1)), (by first | rfl | (simp; done) | (simp [*]; done)), H', ⟨by have := HK1.out; have := HK2.out; omega⟩, by repeat (first | exact Drawn0.refl _ | apply Drawn0.step)⟩
                                · rw [if_neg c14] at H
                                  have c14b0 : ((rd (rd_L2 l0 x5_1) x6_2) == (rd (rd_L2 l1 x5_1) x6_2)) = false := beq_eq_false_iff_ne.mpr c14
                                  have c14b1 : ((rd (rd_L2 l0 x5_1) x6_2) != (rd (rd_L2 l1 x5_1) x6_2)) = true := bne_iff_ne.mpr c14
                                  obtain rfl := Option.some.inj H
                                  have p105 : 0 ≤ (x5_1 : Int) := of_decide_eq_true (by first | (with_reducible assumption) | assumption)
                                  have q105 : x5_1 < (l0.length : Int) := of_decide_eq_true (by first | (with_reducible assumption) | assumption)
                                  obtain ⟨ad105, A105_0, c105_0, e105, hx105_0, hl105_0, hi105_0⟩ := at_L2 HR0.out x5_1 p105 q105
                                  obtain rfl : ad103 = ad105 := (by injection e105)
                                  have HR105_0 := Aside0.mk hi105_0
                                  have HC105_0 := Aside0.mk hl105_0
                                  clear hi105_0 hl105_0
                                  replace p105 := eq_true p105
                                  replace q105 := eq_true q105
                                  have p106 : 0 ≤ (x5_1 : Int) := of_decide_eq_true (by first | (with_reducible assumption) | assumption)
                                  have q106 : x5_1 < (l0.length : Int) := of_decide_eq_true (by first | (with_reducible assumption) | assumption)
                                  obtain ⟨ad106, A106_0, c106_0, e106, hx106_0, hl106_0, hi106_0⟩ := at_L2 HR0.out x5_1 p106 q106
                                  obtain rfl : ad103 = ad106 := (by injection e106)
                                  have HR106_0 := Aside0.mk hi106_0
                                  have HC106_0 := Aside0.mk hl106_0
                                  clear hi106_0 hl106_0
                                  replace p106 := eq_true p106
                                  replace q106 := eq_true q106
                                  have ea_ := Option.some.inj (hx105_0.symm.trans hx106_0)
                                  injection ea_ with ea_ en_ ec_
                                  subst ea_
                                  subst ec_
                                  clear en_
                                  have p107 : 0 ≤ (x6_2 : Int) := of_decide_eq_true (by first | (with_reducible assumption) | assumption)
                                  have q107 : x6_2 < ((rd_L2 l0 x5_1).length : Int) := of_decide_eq_true (by first | (with_reducible assumption) | assumption)
                                  obtain ⟨ad107, e107, hx107_0⟩ := Kd.at_int HR106_0.out x6_2 p107 q107
                                  cases e107
                                  replace p107 := eq_true p107
                                  replace q107 := eq_true q107
                                  have p108 : 0 ≤ (x5_1 : Int) := of_decide_eq_true (by first | (with_reducible assumption) | assumption)
                                  have q108 : x5_1 < (l1.length : Int) := of_decide_eq_true (by first | (with_reducible assumption) | assumption)
                                  obtain ⟨ad108, A108_0, c108_0, e108, hx108_0, hl108_0, hi108_0⟩ := at_L2 HR1.out x5_1 p108 q108
                                  obtain rfl : ad104 = ad108 := (by injection e108)
                                  have HR108_0 := Aside0.mk hi108_0
                                  have HC108_0 := Aside0.mk hl108_0
                                  clear hi108_0 hl108_0
                                  replace p108 := eq_true p108
                                  replace q108 := eq_true q108
                                  have p109 : 0 ≤ (x6_2 : Int) := of_decide_eq_true (by first | (with_reducible assumption) | assumption)
                                  have q109 : x6_2 < ((rd_L2 l1 x5_1).length : Int) := of_decide_eq_true (by first | (with_reducible assumption) | assumption)
                                  obtain ⟨ad109, e109, hx109_0⟩ := Kd.at_int HR108_0.out x6_2 p109 q109
                                  cases e109
                                  replace p109 := eq_true p109
                                  replace q109 := eq_true q109
                                  go_wp2
                                  repeat (go_quiet (fail); try go_wp2)
                                  go_ret
                                  exact ⟨by first | rfl | (simp; done) | (simp [*]; done), by repeat (first | exact Drawn0.refl _ | apply Drawn0.step)⟩
                              · rw [if_neg c13] at H
                                exact absurd H (by simp)
                            · rw [if_neg c12] at H
                              exact absurd H (by simp)
                          · rw [if_neg c11] at H
                            exact absurd H (by simp)
                        · rw [if_neg c10] at H
                          have c10b0 : decide (x6_2 < ((rd_L2 l0 x5_1).length : Int)) = false := decide_eq_false c10
                          clear c10
                          have H' := Aside0.mk H
                          clear H
                          have p105 : 0 ≤ (x5_1 : Int) := of_decide_eq_true (by first | (with_reducible assumption) | assumption)
                          have q105 : x5_1 < (l0.length : Int) := of_decide_eq_true (by first | (with_reducible assumption) | assumption)
                          obtain ⟨ad105, A105_0, c105_0, e105, hx105_0, hl105_0, hi105_0⟩ := at_L2 HR0.out x5_1 p105 q105
                          obtain rfl : ad103 = ad105 := (by injection e105)
                          have HR105_0 := Aside0.mk hi105_0
                          have HC105_0 := Aside0.mk hl105_0
                          clear hi105_0 hl105_0
                          replace p105 := eq_true p105
                          replace q105 := eq_true q105
                          go_wp2
                          repeat (go_quiet (fail); try go_wp2)
                          go_roundg k2
                          case measure => have := HK1.out; have := HK2.out; omega
                          case rel => exact ⟨(wrap64 (x5_1 + 1)), (by first | rfl | (simp; done) | (simp [*]; done)), H', ⟨by have := HK1.out; have := HK2.out; omega⟩, by repeat (first | exact Drawn0.refl _ | apply Drawn0.step)⟩
                      · rw [if_neg c9] at H
                        exact absurd H (by simp)
                    · rw [if_neg c8] at H
                      exact absurd H (by simp)
              · rw [if_neg c7] at H
                have c7b0 : (((rd_L2 l0 x5_1).length : Int) == ((rd_L2 l1 x5_1).length : Int)) = false := beq_eq_false_iff_ne.mpr c7
                have c7b1 : (((rd_L2 l0 x5_1).length : Int) != ((rd_L2 l1 x5_1).length : Int)) = true := bne_iff_ne.mpr c7
                have c7b2 : ((rd_L2 l0 x5_1).length == (rd_L2 l1 x5_1).length) = false := by first | simpa using c7 | (simp at c7 ⊢; omega)
                obtain rfl := Option.some.inj H
                have p103 : 0 ≤ (x5_1 : Int) := of_decide_eq_true (by first | (with_reducible assumption) | assumption)
                have q103 : x5_1 < (l0.length : Int) := of_decide_eq_true (by first | (with_reducible assumption) | assumption)
                obtain ⟨ad103, A103_0, c103_0, e103, hx103_0, hl103_0, hi103_0⟩ := at_L2 HR0.out x5_1 p103 q103
                cases e103
                have HR103_0 := Aside0.mk hi103_0
                have HC103_0 := Aside0.mk hl103_0
                clear hi103_0 hl103_0
                replace p103 := eq_true p103
                replace q103 := eq_true q103
                have p104 : 0 ≤ (x5_1 : Int) := of_decide_eq_true (by first | (with_reducible assumption) | assumption)
                have q104 : x5_1 < (l1.length : Int) := of_decide_eq_true (by first | (with_reducible assumption) | assumption)
                obtain ⟨ad104, A104_0, c104_0, e104, hx104_0, hl104_0, hi104_0⟩ := at_L2 HR1.out x5_1 p104 q104
                cases e104
                have HR104_0 := Aside0.mk hi104_0
                have HC104_0 := Aside0.mk hl104_0
                clear hi104_0 hl104_0
                replace p104 := eq_true p104
                replace q104 := eq_true q104
                go_wp2
                repeat (go_quiet (fail); try go_wp2)
                go_ret
                exact ⟨by first | rfl | (simp; done) | (simp [*]; done), by repeat (first | exact Drawn0.refl _ | apply Drawn0.step)⟩
            · rw [if_neg c6] at H
              exact absurd H (by simp)
          · rw [if_neg c5] at H
            exact absurd H (by simp)
        · rw [if_neg c4] at H
          have c4b0 : decide (x5_1 < (l0.length : Int)) = false := decide_eq_false c4
          clear c4
          obtain rfl := Option.some.inj H
          go_wp2
          repeat (go_quiet (fail); try go_wp2)
          go_ret
          exact ⟨by first | rfl | (simp; done) | (simp [*]; done), by repeat (first | exact Drawn0.refl _ | apply Drawn0.step)⟩
  · rw [if_neg c3] at H
    have c3b0 : ((l0.length : Int) == (l1.length : Int)) = false := beq_eq_false_iff_ne.mpr c3
    have c3b1 : ((l0.length : Int) != (l1.length : Int)) = true := bne_iff_ne.mpr c3
    have c3b2 : (l0.length == l1.length) = false := by first | simpa using c3 | (simp at c3 ⊢; omega)
    obtain rfl := Option.some.inj H
    go_enter Try.func11, Try.ntmps11
    go_wp2
    repeat (go_quiet (fail); try go_wp2)
    go_ret
    exact ⟨by first | rfl | (simp; done) | (simp [*]; done), by repeat (first | exact Drawn0.refl _ | apply Drawn0.step)⟩

end Go.Proofs.Ytjiammiihamkiaa.PA
