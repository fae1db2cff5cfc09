-- Printed for this claim by wip/tools/xprint.py over the kit's print; the contracts marked BY HAND are this session's own.
import Derived.Test.YtgnhokepcdopgaaDoorPAx0
import Derived.Test.YtgnhokepcdopgaaDoorPAx1
import Derived.Test.YtgnhokepcdopgaaDoorPAx2
import Derived.Test.YtgnhokepcdopgaaDoorPAx3
import Derived.Test.YtgnhokepcdopgaaDoorPAx5
namespace Go.Proofs.YtgnhokepcdopgaaDoor.PA
open Go.RowKit Go.Proofs.YtgnhokepcdopgaaDoorW.PrintWords Go.Proofs.YtgnhokepcdopgaaDoorW.PrintLast Go.Proofs.YtgnhokepcdopgaaDoorW.PrintMore
attribute [local go_sem] max2_int min2_int max_two min_two max_three min_three max_four min_four   -- for this text's walks alone
set_option linter.unusedVariables false
set_option linter.unusedSimpArgs false

/-! ### haulierref02_Same: function 27 -/
def haulierref02_Same.l0 : Nat → List Int → List Int → Int → Option (Bool)
  | 0, _, _, _ => none
  | k + 1, x0, x1, x5 => if x5 < (x0.length : Int) then (if 0 ≤ x5 then (if x5 < (x1.length : Int) then (if (rd x0 x5) = (rd x1 x5) then (haulierref02_Same.l0 k x0 x1 (wrap64 (x5 + 1))) else (some false)) else (none)) else (none)) else (some true)
def haulierref02_Same.f (k : Nat) (l0 : List Int) (l1 : List Int) : Option (Bool) := if (l0.length : Int) = (l1.length : Int) then (haulierref02_Same.l0 k l0 l1 0) else (some false)
theorem haulierref02_Same.mono_l : ∀ k, (∀ y0 y1 y2, LeO (haulierref02_Same.l0 k y0 y1 y2) (haulierref02_Same.l0 (k + 1) y0 y1 y2))
  | 0 => fun _ _ _ r h => by simp [haulierref02_Same.l0] at h
  | k + 1 => by
    have ih0 := haulierref02_Same.mono_l k
    · intro y0 y1 y2
      unfold haulierref02_Same.l0
      repeat' first
      | (with_reducible exact ih0 _ _ _)
      | (with_reducible exact LeO.refl _)
      | (with_reducible exact LeO.none _)
      | (with_reducible refine LeO.ite ?_ ?_)
      | (with_reducible refine LeO.bind ?_ (fun _ => ?_))
      | exact ih0 _ _ _
      | exact LeO.none _
      | refine LeO.ite ?_ ?_
      | refine LeO.bind ?_ (fun _ => ?_)
theorem haulierref02_Same.mono : ∀ a0 a1 k, LeO (haulierref02_Same.f k a0 a1) (haulierref02_Same.f (k + 1) a0 a1) := by
  intro a0 a1 k
  have ih0 := haulierref02_Same.mono_l k
  unfold haulierref02_Same.f
  repeat' first
      | (with_reducible exact ih0 _ _ _)
      | (with_reducible exact LeO.refl _)
      | (with_reducible exact LeO.none _)
      | (with_reducible refine LeO.ite ?_ ?_)
      | (with_reducible refine LeO.bind ?_ (fun _ => ?_))
      | exact ih0 _ _ _
      | exact LeO.none _
      | refine LeO.ite ?_ ?_
      | refine LeO.bind ?_ (fun _ => ?_)
set_option maxHeartbeats 8000000 in
set_option maxRecDepth 100000 in
theorem haulierref02_Same.calls (k : Nat) (A0 : Option Addr) (c0 : Nat) (l0 : List Int) (A1 : Option Addr) (c1 : Nat) (l1 : List Int) (r : Bool) (w : World) (hr0 : Kd.C (Kd.int .i64) w A0 l0.length l0) (hc0 : l0.length ≤ c0) (hr1 : Kd.C (Kd.int .i64) w A1 l1.length l1) (hc1 : l1.length ≤ c1) (h : haulierref02_Same.f k l0 l1 = some r) :
    Calls Tryd.prog 27 #[.slice A0 l0.length c0, .slice A1 l1.length c1] w fun e w' => e = .returned (.bool r) ∧ Drawn0 w w' := by
  have HR0 := Aside0.mk hr0
  have HC0 := Aside0.mk hc0
  clear hr0 hc0
  have HR1 := Aside0.mk hr1
  have HC1 := Aside0.mk hc1
  clear hr1 hc1
  have H : (if (l0.length : Int) = (l1.length : Int) then (haulierref02_Same.l0 k l0 l1 0) else (some false)) = some r := h
  clear h
  by_cases c3 : (l0.length : Int) = (l1.length : Int)
  · rw [if_pos c3] at H
    have c3b0 : ((l0.length : Int) == (l1.length : Int)) = true := beq_iff_eq.mpr c3
    have c3b1 : ((l0.length : Int) != (l1.length : Int)) = false := bne_eq_false_iff_eq.mpr c3
    have c3b2 : (l0.length == l1.length) = true := by first | simpa using c3 | (simp at c3 ⊢; omega)
    clear c3
    have H' := Aside0.mk H
    clear H
    go_enter Tryd.func27, Tryd.ntmps27
    go_wp2
    repeat (go_quiet (fail); try go_wp2)
    go_loopg [5] k (fun kq v5 w' => ∃ (x5_1 : Int), v5 = .int .i64 x5_1 ∧ Aside0 (haulierref02_Same.l0 kq l0 l1 x5_1 = some r) ∧ Aside0 (kq ≤ k) ∧ Drawn0 w w')
    case atStart => exact ⟨(0), (by first | rfl | (simp; done) | (simp [*]; done)), H', ⟨Nat.le_refl _⟩, by repeat (first | exact Drawn0.refl _ | apply Drawn0.step)⟩
    case round =>
      clear H'
      try clear c1
      try clear c2
      try clear p2
      try clear c3
      try clear c3b0
      try clear c3b1
      try clear c3b2
      obtain ⟨x5_1, rfl, HA, HK1, ⟨m1, rfl⟩⟩ := hrel
      cases gk with
      | zero => exact absurd HA.out (by simp [haulierref02_Same.l0])
      | succ k1 =>
        have H := HA.out
        clear HA
        simp only [haulierref02_Same.l0] at H
        by_cases c4 : x5_1 < (l0.length : Int)
        · rw [if_pos c4] at H
          have c4b0 : decide (x5_1 < (l0.length : Int)) = true := decide_eq_true c4
          clear c4
          by_cases c5 : 0 ≤ x5_1
          · rw [if_pos c5] at H
            have c5b0 : decide (0 ≤ x5_1) = true := decide_eq_true c5
            clear c5
            by_cases c6 : x5_1 < (l1.length : Int)
            · rw [if_pos c6] at H
              have c6b0 : decide (x5_1 < (l1.length : Int)) = true := decide_eq_true c6
              clear c6
              by_cases c7 : (rd l0 x5_1) = (rd l1 x5_1)
              · rw [if_pos c7] at H
                have c7b0 : ((rd l0 x5_1) == (rd l1 x5_1)) = true := beq_iff_eq.mpr c7
                have c7b1 : ((rd l0 x5_1) != (rd l1 x5_1)) = false := bne_eq_false_iff_eq.mpr c7
                clear c7
                have H' := Aside0.mk H
                clear H
                have p209 : 0 ≤ (x5_1 : Int) := of_decide_eq_true (by first | (with_reducible assumption) | assumption)
                have q209 : x5_1 < (l0.length : Int) := of_decide_eq_true (by first | (with_reducible assumption) | assumption)
                obtain ⟨ad209, e209, hx209_0⟩ := Kd.at_int HR0.out x5_1 p209 q209
                cases e209
                replace p209 := eq_true p209
                replace q209 := eq_true q209
                have p210 : 0 ≤ (x5_1 : Int) := of_decide_eq_true (by first | (with_reducible assumption) | assumption)
                have q210 : x5_1 < (l1.length : Int) := of_decide_eq_true (by first | (with_reducible assumption) | assumption)
                obtain ⟨ad210, e210, hx210_0⟩ := Kd.at_int HR1.out x5_1 p210 q210
                cases e210
                replace p210 := eq_true p210
                replace q210 := eq_true q210
                go_wp2
                repeat (go_quiet (fail); try go_wp2)
                go_roundg k1
                case measure => have := HK1.out; omega
                case rel => exact ⟨(wrap64 (x5_1 + 1)), (by first | rfl | (simp; done) | (simp [*]; done)), H', ⟨by have := HK1.out; omega⟩, by repeat (first | exact Drawn0.refl _ | apply Drawn0.step)⟩
              · rw [if_neg c7] at H
                have c7b0 : ((rd l0 x5_1) == (rd l1 x5_1)) = false := beq_eq_false_iff_ne.mpr c7
                have c7b1 : ((rd l0 x5_1) != (rd l1 x5_1)) = true := bne_iff_ne.mpr c7
                obtain rfl := Option.some.inj H
                have p209 : 0 ≤ (x5_1 : Int) := of_decide_eq_true (by first | (with_reducible assumption) | assumption)
                have q209 : x5_1 < (l0.length : Int) := of_decide_eq_true (by first | (with_reducible assumption) | assumption)
                obtain ⟨ad209, e209, hx209_0⟩ := Kd.at_int HR0.out x5_1 p209 q209
                cases e209
                replace p209 := eq_true p209
                replace q209 := eq_true q209
                have p210 : 0 ≤ (x5_1 : Int) := of_decide_eq_true (by first | (with_reducible assumption) | assumption)
                have q210 : x5_1 < (l1.length : Int) := of_decide_eq_true (by first | (with_reducible assumption) | assumption)
                obtain ⟨ad210, e210, hx210_0⟩ := Kd.at_int HR1.out x5_1 p210 q210
                cases e210
                replace p210 := eq_true p210
                replace q210 := eq_true q210
                go_wp2
                repeat (go_quiet (fail); try go_wp2)
                go_ret
                exact ⟨by first | rfl | (simp; done) | (simp [*]; done), by repeat (first | exact Drawn0.refl _ | apply Drawn0.step)⟩
            · rw [if_neg c6] at H
              exact absurd H (by simp)
          · rw [if_neg c5] at H
            exact absurd H (by simp)
        · rw [if_neg c4] at H
          have c4b0 : decide (x5_1 < (l0.length : Int)) = false := decide_eq_false c4
          clear c4
          obtain rfl := Option.some.inj H
          go_wp2
          repeat (go_quiet (fail); try go_wp2)
          go_ret
          exact ⟨by first | rfl | (simp; done) | (simp [*]; done), by repeat (first | exact Drawn0.refl _ | apply Drawn0.step)⟩
  · rw [if_neg c3] at H
    have c3b0 : ((l0.length : Int) == (l1.length : Int)) = false := beq_eq_false_iff_ne.mpr c3
    have c3b1 : ((l0.length : Int) != (l1.length : Int)) = true := bne_iff_ne.mpr c3
    have c3b2 : (l0.length == l1.length) = false := by first | simpa using c3 | (simp at c3 ⊢; omega)
    obtain rfl := Option.some.inj H
    go_enter Tryd.func27, Tryd.ntmps27
    go_wp2
    repeat (go_quiet (fail); try go_wp2)
    go_ret
    exact ⟨by first | rfl | (simp; done) | (simp [*]; done), by repeat (first | exact Drawn0.refl _ | apply Drawn0.step)⟩

/-! ### haulierref02_Within: function 29 -/
def haulierref02_Within.l0 : Nat → Int → Int → Int → Option (Bool)
  | 0, _, _, _ => none
  | k + 1, x0, x1, x5 => if x5 < 64 then ((haulierref02_Has.f k x0 x5).bind fun t211 => ((haulierref02_Has.f k x1 x5).bind fun t212 => (if t211 = true then (if t212 = true then (haulierref02_Within.l0 k x0 x1 (wrap64 (x5 + 1))) else (some false)) else (haulierref02_Within.l0 k x0 x1 (wrap64 (x5 + 1)))))) else (some true)
def haulierref02_Within.f (k : Nat) (a0 : Int) (a1 : Int) : Option (Bool) := haulierref02_Within.l0 k a0 a1 0
theorem haulierref02_Within.mono_l : ∀ k, (∀ y0 y1 y2, LeO (haulierref02_Within.l0 k y0 y1 y2) (haulierref02_Within.l0 (k + 1) y0 y1 y2))
  | 0 => fun _ _ _ r h => by simp [haulierref02_Within.l0] at h
  | k + 1 => by
    have ih0 := haulierref02_Within.mono_l k
    · intro y0 y1 y2
      unfold haulierref02_Within.l0
      repeat' first
      | (with_reducible exact ih0 _ _ _)
      | (with_reducible exact haulierref02_Has.mono _ _ _)
      | (with_reducible exact LeO.refl _)
      | (with_reducible exact LeO.none _)
      | (with_reducible refine LeO.ite ?_ ?_)
      | (with_reducible refine LeO.bind ?_ (fun _ => ?_))
      | exact ih0 _ _ _
      | exact haulierref02_Has.mono _ _ _
      | exact LeO.none _
      | refine LeO.ite ?_ ?_
      | refine LeO.bind ?_ (fun _ => ?_)
theorem haulierref02_Within.mono : ∀ a0 a1 k, LeO (haulierref02_Within.f k a0 a1) (haulierref02_Within.f (k + 1) a0 a1) := by
  intro a0 a1 k
  have ih0 := haulierref02_Within.mono_l k
  unfold haulierref02_Within.f
  repeat' first
      | (with_reducible exact ih0 _ _ _)
      | (with_reducible exact haulierref02_Has.mono _ _ _)
      | (with_reducible exact LeO.refl _)
      | (with_reducible exact LeO.none _)
      | (with_reducible refine LeO.ite ?_ ?_)
      | (with_reducible refine LeO.bind ?_ (fun _ => ?_))
      | exact ih0 _ _ _
      | exact haulierref02_Has.mono _ _ _
      | exact LeO.none _
      | refine LeO.ite ?_ ?_
      | refine LeO.bind ?_ (fun _ => ?_)
set_option maxHeartbeats 8000000 in
set_option maxRecDepth 100000 in
theorem haulierref02_Within.calls (k : Nat) (a0 : Int) (a1 : Int) (r : Bool) (w : World) (h : haulierref02_Within.f k a0 a1 = some r) :
    Calls Tryd.prog 29 #[.int .u64 a0, .int .u64 a1] w fun e w' => e = .returned (.bool r) ∧ Drawn0 w w' := by
  have H : (haulierref02_Within.l0 k a0 a1 0) = some r := h
  clear h
  have H' := Aside0.mk H
  clear H
  go_enter Tryd.func29, Tryd.ntmps29
  go_wp2
  go_loopg [5] k (fun kq v5 w' => ∃ (x5_1 : Int), v5 = .int .i64 x5_1 ∧ Aside0 (haulierref02_Within.l0 kq a0 a1 x5_1 = some r) ∧ Aside0 (kq ≤ k) ∧ Drawn0 w w')
  case atStart => exact ⟨(0), (by first | rfl | (simp; done) | (simp [*]; done)), H', ⟨Nat.le_refl _⟩, by repeat (first | exact Drawn0.refl _ | apply Drawn0.step)⟩
  case round =>
    clear H'
    try clear c2
    try clear p2
    obtain ⟨x5_1, rfl, HA, HK1, ⟨m1, rfl⟩⟩ := hrel
    cases gk with
    | zero => exact absurd HA.out (by simp [haulierref02_Within.l0])
    | succ k1 =>
      have H := HA.out
      clear HA
      simp only [haulierref02_Within.l0] at H
      by_cases c3 : x5_1 < 64
      · rw [if_pos c3] at H
        have c3b0 : decide (x5_1 < 64) = true := decide_eq_true c3
        clear c3
        replace H := Option.bind_eq_some_iff.mp H
        obtain ⟨t211, A40, H⟩ := H
        replace H : ((haulierref02_Has.f k1 a1 x5_1).bind fun t212 => (if t211 = true then (if t212 = true then (haulierref02_Within.l0 k1 a0 a1 (wrap64 (x5_1 + 1))) else (some false)) else (haulierref02_Within.l0 k1 a0 a1 (wrap64 (x5_1 + 1))))) = some r := H
        have A4 := Aside0.mk A40
        clear A40
        replace H := Option.bind_eq_some_iff.mp H
        obtain ⟨t212, A50, H⟩ := H
        replace H : (if t211 = true then (if t212 = true then (haulierref02_Within.l0 k1 a0 a1 (wrap64 (x5_1 + 1))) else (some false)) else (haulierref02_Within.l0 k1 a0 a1 (wrap64 (x5_1 + 1)))) = some r := H
        have A5 := Aside0.mk A50
        clear A50
        by_cases c6 : t211 = true
        · subst c6
          have H1 : (if t212 = true then (haulierref02_Within.l0 k1 a0 a1 (wrap64 (x5_1 + 1))) else (some false)) = some r := by rw [if_pos rfl] at H; exact H
          clear H
          have H := H1
          clear H1
          by_cases c7 : t212 = true
          · subst c7
            have H1 : (haulierref02_Within.l0 k1 a0 a1 (wrap64 (x5_1 + 1))) = some r := by rw [if_pos rfl] at H; exact H
            clear H
            have H := H1
            clear H1
            have H' := Aside0.mk H
            clear H
            go_wp2_with (first | ((with_reducible refine gate_callee (f := 28) rfl ?_); refine goesL_ (some 14) rfl rfl Tryd.func28 (by kernel_rfl) rfl #[.int .u64 a0, .int .i64 x5_1] rfl (by (try simp only [List.map_toArray, List.map_cons, List.map_nil]); first | done | rfl | (simp only [List.length_drop, List.length_take]; rfl)) ?_; (with_reducible refine (haulierref02_Has.calls k1 a0 x5_1 true _ A4.out).mono ?_); rintro e w' ⟨rfl, ⟨nd, rfl⟩⟩; refine ⟨_, rfl, ?_⟩) | ((with_reducible refine gate_callee (f := 28) rfl ?_); refine goesL_ (some 17) rfl rfl Tryd.func28 (by kernel_rfl) rfl #[.int .u64 a1, .int .i64 x5_1] rfl (by (try simp only [List.map_toArray, List.map_cons, List.map_nil]); first | done | rfl | (simp only [List.length_drop, List.length_take]; rfl)) ?_; (with_reducible refine (haulierref02_Has.calls k1 a1 x5_1 true _ A5.out).mono ?_); rintro e w' ⟨rfl, ⟨nd, rfl⟩⟩; refine ⟨_, rfl, ?_⟩))
            go_roundg k1
            case measure => have := HK1.out; omega
            case rel => exact ⟨(wrap64 (x5_1 + 1)), (by first | rfl | (simp; done) | (simp [*]; done)), H', ⟨by have := HK1.out; omega⟩, by repeat (first | exact Drawn0.refl _ | apply Drawn0.step)⟩
          · replace c7 := Bool.eq_false_iff.mpr c7
            subst c7
            have H1 : (some false) = some r := by rw [if_neg (show ¬ (false = true) by decide)] at H; exact H
            clear H
            have H := H1
            clear H1
            obtain rfl := Option.some.inj H
            go_wp2_with (first | ((with_reducible refine gate_callee (f := 28) rfl ?_); refine goesL_ (some 14) rfl rfl Tryd.func28 (by kernel_rfl) rfl #[.int .u64 a0, .int .i64 x5_1] rfl (by (try simp only [List.map_toArray, List.map_cons, List.map_nil]); first | done | rfl | (simp only [List.length_drop, List.length_take]; rfl)) ?_; (with_reducible refine (haulierref02_Has.calls k1 a0 x5_1 true _ A4.out).mono ?_); rintro e w' ⟨rfl, ⟨nd, rfl⟩⟩; refine ⟨_, rfl, ?_⟩) | ((with_reducible refine gate_callee (f := 28) rfl ?_); refine goesL_ (some 17) rfl rfl Tryd.func28 (by kernel_rfl) rfl #[.int .u64 a1, .int .i64 x5_1] rfl (by (try simp only [List.map_toArray, List.map_cons, List.map_nil]); first | done | rfl | (simp only [List.length_drop, List.length_take]; rfl)) ?_; (with_reducible refine (haulierref02_Has.calls k1 a1 x5_1 false _ A5.out).mono ?_); rintro e w' ⟨rfl, ⟨nd, rfl⟩⟩; refine ⟨_, rfl, ?_⟩))
            go_ret
            exact ⟨by first | rfl | (simp; done) | (simp [*]; done), by repeat (first | exact Drawn0.refl _ | apply Drawn0.step)⟩
        · replace c6 := Bool.eq_false_iff.mpr c6
          subst c6
          have H1 : (haulierref02_Within.l0 k1 a0 a1 (wrap64 (x5_1 + 1))) = some r := by rw [if_neg (show ¬ (false = true) by decide)] at H; exact H
          clear H
          have H := H1
          clear H1
          have H' := Aside0.mk H
          clear H
          go_wp2_with (first | ((with_reducible refine gate_callee (f := 28) rfl ?_); refine goesL_ (some 14) rfl rfl Tryd.func28 (by kernel_rfl) rfl #[.int .u64 a0, .int .i64 x5_1] rfl (by (try simp only [List.map_toArray, List.map_cons, List.map_nil]); first | done | rfl | (simp only [List.length_drop, List.length_take]; rfl)) ?_; (with_reducible refine (haulierref02_Has.calls k1 a0 x5_1 false _ A4.out).mono ?_); rintro e w' ⟨rfl, ⟨nd, rfl⟩⟩; refine ⟨_, rfl, ?_⟩) | ((with_reducible refine gate_callee (f := 28) rfl ?_); refine goesL_ (some 17) rfl rfl Tryd.func28 (by kernel_rfl) rfl #[.int .u64 a1, .int .i64 x5_1] rfl (by (try simp only [List.map_toArray, List.map_cons, List.map_nil]); first | done | rfl | (simp only [List.length_drop, List.length_take]; rfl)) ?_; (with_reducible refine (haulierref02_Has.calls k1 a1 x5_1 t212 _ A5.out).mono ?_); rintro e w' ⟨rfl, ⟨nd, rfl⟩⟩; refine ⟨_, rfl, ?_⟩))
          go_roundg k1
          case measure => have := HK1.out; omega
          case rel => exact ⟨(wrap64 (x5_1 + 1)), (by first | rfl | (simp; done) | (simp [*]; done)), H', ⟨by have := HK1.out; omega⟩, by repeat (first | exact Drawn0.refl _ | apply Drawn0.step)⟩
      · rw [if_neg c3] at H
        have c3b0 : decide (x5_1 < 64) = false := decide_eq_false c3
        clear c3
        obtain rfl := Option.some.inj H
        go_wp2
        go_ret
        exact ⟨by first | rfl | (simp; done) | (simp [*]; done), by repeat (first | exact Drawn0.refl _ | apply Drawn0.step)⟩

/-! ### haulierlaw02_SetTells: function 10 -/
def haulierlaw02_SetTells.f (k : Nat) (a0 : Int) (a1 : Int) (a2 : Int) : Option (Bool) := (haulierlaw02_awake.f k).bind fun t213 => ((haulierref02_All.f k a0).bind fun t214 => ((set_All.f a0).bind fun t217 => ((haulierref02_Same.f k t217 t214).bind fun t220 => (if t213 = true then (if t220 = true then ((set_Has.f a0 a2).bind fun t221 => ((haulierref02_Has.f k a0 a2).bind fun t222 => (if (t221 == t222) = true then ((set_Len.f a0).bind fun t223 => (if t223 = (t214.length : Int) then ((set_Within.f a0 a1).bind fun t224 => ((haulierref02_Within.f k a0 a1).bind fun t225 => (some (t224 == t225)))) else (none))) else (none)))) else (none)) else (none)))))
theorem haulierlaw02_SetTells.mono : ∀ a0 a1 a2 k, LeO (haulierlaw02_SetTells.f k a0 a1 a2) (haulierlaw02_SetTells.f (k + 1) a0 a1 a2) := by
  intro a0 a1 a2 k
  unfold haulierlaw02_SetTells.f
  repeat' first
      | (with_reducible exact haulierlaw02_awake.mono _)
      | (with_reducible exact haulierref02_All.mono _ _)
      | (with_reducible exact haulierref02_Has.mono _ _ _)
      | (with_reducible exact haulierref02_Same.mono _ _ _)
      | (with_reducible exact haulierref02_Within.mono _ _ _)
      | (with_reducible exact LeO.refl _)
      | (with_reducible exact LeO.none _)
      | (with_reducible refine LeO.ite ?_ ?_)
      | (with_reducible refine LeO.bind ?_ (fun _ => ?_))
      | exact haulierlaw02_awake.mono _
      | exact haulierref02_All.mono _ _
      | exact haulierref02_Has.mono _ _ _
      | exact haulierref02_Same.mono _ _ _
      | exact haulierref02_Within.mono _ _ _
      | exact LeO.none _
      | refine LeO.ite ?_ ?_
      | refine LeO.bind ?_ (fun _ => ?_)
set_option maxHeartbeats 8000000 in
set_option maxRecDepth 100000 in
theorem haulierlaw02_SetTells.calls (k : Nat) (a0 : Int) (a1 : Int) (a2 : Int) (r : Bool) (w : World) (h : haulierlaw02_SetTells.f k a0 a1 a2 = some r) (hT : Go.Proofs.YtgnhokepcdopgaaDoor.SetWalk.SetTab w) :
    Calls Tryd.prog 10 #[.int .u64 a0, .int .u64 a1, .int .i64 a2] w fun e w' => e = .returned (.bool r) ∧ Below w.heap.size w w' := by
  have HT := Aside0.mk hT
  clear hT
  have HB := Aside0.mk (Below.refl w.heap.size w)
  have H : ((haulierlaw02_awake.f k).bind fun t213 => ((haulierref02_All.f k a0).bind fun t214 => ((set_All.f a0).bind fun t217 => ((haulierref02_Same.f k t217 t214).bind fun t220 => (if t213 = true then (if t220 = true then ((set_Has.f a0 a2).bind fun t221 => ((haulierref02_Has.f k a0 a2).bind fun t222 => (if (t221 == t222) = true then ((set_Len.f a0).bind fun t223 => (if t223 = (t214.length : Int) then ((set_Within.f a0 a1).bind fun t224 => ((haulierref02_Within.f k a0 a1).bind fun t225 => (some (t224 == t225)))) else (none))) else (none)))) else (none)) else (none)))))) = some r := h
  clear h
  replace H := Option.bind_eq_some_iff.mp H
  obtain ⟨t213, A40, H⟩ := H
  replace H : ((haulierref02_All.f k a0).bind fun t214 => ((set_All.f a0).bind fun t217 => ((haulierref02_Same.f k t217 t214).bind fun t220 => (if t213 = true then (if t220 = true then ((set_Has.f a0 a2).bind fun t221 => ((haulierref02_Has.f k a0 a2).bind fun t222 => (if (t221 == t222) = true then ((set_Len.f a0).bind fun t223 => (if t223 = (t214.length : Int) then ((set_Within.f a0 a1).bind fun t224 => ((haulierref02_Within.f k a0 a1).bind fun t225 => (some (t224 == t225)))) else (none))) else (none)))) else (none)) else (none))))) = some r := H
  have A4 := Aside0.mk A40
  clear A40
  replace H := Option.bind_eq_some_iff.mp H
  obtain ⟨t214, A50, H⟩ := H
  replace H : ((set_All.f a0).bind fun t217 => ((haulierref02_Same.f k t217 t214).bind fun t220 => (if t213 = true then (if t220 = true then ((set_Has.f a0 a2).bind fun t221 => ((haulierref02_Has.f k a0 a2).bind fun t222 => (if (t221 == t222) = true then ((set_Len.f a0).bind fun t223 => (if t223 = (t214.length : Int) then ((set_Within.f a0 a1).bind fun t224 => ((haulierref02_Within.f k a0 a1).bind fun t225 => (some (t224 == t225)))) else (none))) else (none)))) else (none)) else (none)))) = some r := H
  have A5 := Aside0.mk A50
  clear A50
  replace H := Option.bind_eq_some_iff.mp H
  obtain ⟨t217, A60, H⟩ := H
  replace H : ((haulierref02_Same.f k t217 t214).bind fun t220 => (if t213 = true then (if t220 = true then ((set_Has.f a0 a2).bind fun t221 => ((haulierref02_Has.f k a0 a2).bind fun t222 => (if (t221 == t222) = true then ((set_Len.f a0).bind fun t223 => (if t223 = (t214.length : Int) then ((set_Within.f a0 a1).bind fun t224 => ((haulierref02_Within.f k a0 a1).bind fun t225 => (some (t224 == t225)))) else (none))) else (none)))) else (none)) else (none))) = some r := H
  have A6 := Aside0.mk A60
  clear A60
  replace H := Option.bind_eq_some_iff.mp H
  obtain ⟨t220, A70, H⟩ := H
  replace H : (if t213 = true then (if t220 = true then ((set_Has.f a0 a2).bind fun t221 => ((haulierref02_Has.f k a0 a2).bind fun t222 => (if (t221 == t222) = true then ((set_Len.f a0).bind fun t223 => (if t223 = (t214.length : Int) then ((set_Within.f a0 a1).bind fun t224 => ((haulierref02_Within.f k a0 a1).bind fun t225 => (some (t224 == t225)))) else (none))) else (none)))) else (none)) else (none)) = some r := H
  have A7 := Aside0.mk A70
  clear A70
  by_cases c8 : t213 = true
  · subst c8
    have H1 : (if t220 = true then ((set_Has.f a0 a2).bind fun t221 => ((haulierref02_Has.f k a0 a2).bind fun t222 => (if (t221 == t222) = true then ((set_Len.f a0).bind fun t223 => (if t223 = (t214.length : Int) then ((set_Within.f a0 a1).bind fun t224 => ((haulierref02_Within.f k a0 a1).bind fun t225 => (some (t224 == t225)))) else (none))) else (none)))) else (none)) = some r := by rw [if_pos rfl] at H; exact H
    clear H
    have H := H1
    clear H1
    by_cases c9 : t220 = true
    · subst c9
      have H1 : ((set_Has.f a0 a2).bind fun t221 => ((haulierref02_Has.f k a0 a2).bind fun t222 => (if (t221 == t222) = true then ((set_Len.f a0).bind fun t223 => (if t223 = (t214.length : Int) then ((set_Within.f a0 a1).bind fun t224 => ((haulierref02_Within.f k a0 a1).bind fun t225 => (some (t224 == t225)))) else (none))) else (none)))) = some r := by rw [if_pos rfl] at H; exact H
      clear H
      have H := H1
      clear H1
      replace H := Option.bind_eq_some_iff.mp H
      obtain ⟨t221, A100, H⟩ := H
      replace H : ((haulierref02_Has.f k a0 a2).bind fun t222 => (if (t221 == t222) = true then ((set_Len.f a0).bind fun t223 => (if t223 = (t214.length : Int) then ((set_Within.f a0 a1).bind fun t224 => ((haulierref02_Within.f k a0 a1).bind fun t225 => (some (t224 == t225)))) else (none))) else (none))) = some r := H
      have A10 := Aside0.mk A100
      clear A100
      replace H := Option.bind_eq_some_iff.mp H
      obtain ⟨t222, A110, H⟩ := H
      replace H : (if (t221 == t222) = true then ((set_Len.f a0).bind fun t223 => (if t223 = (t214.length : Int) then ((set_Within.f a0 a1).bind fun t224 => ((haulierref02_Within.f k a0 a1).bind fun t225 => (some (t224 == t225)))) else (none))) else (none)) = some r := H
      have A11 := Aside0.mk A110
      clear A110
      by_cases c12 : (t221 == t222) = true
      · rw [if_pos c12] at H
        have c12b0 : (t221 == t222) = true := c12
        (try (have c12b1 : decide (t221 = t222) = true := by simpa using c12))
        (try (have c12b2 : (t221 == t222) = true := by simpa using c12))
        clear c12
        replace H := Option.bind_eq_some_iff.mp H
        obtain ⟨t223, A130, H⟩ := H
        replace H : (if t223 = (t214.length : Int) then ((set_Within.f a0 a1).bind fun t224 => ((haulierref02_Within.f k a0 a1).bind fun t225 => (some (t224 == t225)))) else (none)) = some r := H
        have A13 := Aside0.mk A130
        clear A130
        by_cases c14 : t223 = (t214.length : Int)
        · rw [if_pos c14] at H
          have c14b0 : (t223 == (t214.length : Int)) = true := beq_iff_eq.mpr c14
          have c14b1 : (t223 != (t214.length : Int)) = false := bne_eq_false_iff_eq.mpr c14
          clear c14
          replace H := Option.bind_eq_some_iff.mp H
          obtain ⟨t224, A150, H⟩ := H
          replace H : ((haulierref02_Within.f k a0 a1).bind fun t225 => (some (t224 == t225))) = some r := H
          have A15 := Aside0.mk A150
          clear A150
          replace H := Option.bind_eq_some_iff.mp H
          obtain ⟨t225, A160, H⟩ := H
          replace H : (some (t224 == t225)) = some r := H
          have A16 := Aside0.mk A160
          clear A160
          obtain rfl := Option.some.inj H
          go_enter Tryd.func10, Tryd.ntmps10
          go_wp2_with (first | ((with_reducible refine gate_callee (f := 11) rfl ?_); refine goesL_ (some 10) rfl rfl Tryd.func11 (by kernel_rfl) rfl #[] rfl (by (try simp only [List.map_toArray, List.map_cons, List.map_nil]); first | done | rfl | (simp only [List.length_drop, List.length_take]; rfl)) ?_; (with_reducible refine (haulierlaw02_awake.calls k  true _ A4.out ?tab).mono ?_); (case tab => exact HT.out.on (by repeat (first | (with_reducible first | exact HB.out | apply below_alloc | apply pw_below_drewN | apply below_drew1) | exact HB.out))); rintro e w17 ⟨rfl, hb⟩; refine ⟨_, rfl, ?_⟩; have n0_ := Aside0.mk (below_step (by repeat (first | (with_reducible first | exact HB.out | apply below_alloc | apply pw_below_drewN | apply below_drew1) | exact HB.out)) hb); clear HB; have HB := n0_; clear n0_; (try clear hb); (try clear hb2); (try clear hk); (try clear hi)) | ((with_reducible refine gate_callee (f := 26) rfl ?_); refine goesL_ (some 12) rfl rfl Tryd.func26 (by kernel_rfl) rfl #[.int .u64 a0] rfl (by (try simp only [List.map_toArray, List.map_cons, List.map_nil]); first | done | rfl | (simp only [List.length_drop, List.length_take]; rfl)) ?_; (with_reducible refine (haulierref02_All.calls k a0 t214 _ A5.out).mono ?_); rintro e w18 ⟨v215, rfl, ho0, hb⟩; refine ⟨_, rfl, ?_⟩; have n0_ := Aside0.mk (Kd.R_lower ho0 (below_size (by repeat (first | (with_reducible first | exact HB.out | apply below_alloc | apply pw_below_drewN | apply below_drew1) | exact HB.out)))); have n1_ := Aside0.mk (below_step (by repeat (first | (with_reducible first | exact HB.out | apply below_alloc | apply pw_below_drewN | apply below_drew1) | exact HB.out)) hb); clear HB; have HO216 := n0_; have HB := n1_; clear n0_ n1_; (try clear hb); (try clear hb2); (try clear hk); (try clear hi); (try clear ho0)) | ((with_reducible refine gate_callee (f := 25) rfl ?_); refine goesL_ (some 14) rfl rfl Tryd.func25 (by kernel_rfl) rfl #[.int .u64 a0] rfl (by (try simp only [List.map_toArray, List.map_cons, List.map_nil]); first | done | rfl | (simp only [List.length_drop, List.length_take]; rfl)) ?_; (with_reducible refine (set_All.calls a0 t217 _ A6.out ?tab).mono ?_); (case tab => exact HT.out.on (by repeat (first | (with_reducible first | exact HB.out | apply below_alloc | apply pw_below_drewN | apply below_drew1) | exact HB.out))); rintro e w19 ⟨v218, rfl, ho0, hb⟩; refine ⟨_, rfl, ?_⟩; have n0_ := Aside0.mk (Kd.R_elder' (by (with_reducible repeat (first | apply Kd.R_alloc | apply Kd.R_drewN | apply Kd.R_drew)); exact HO216.out) (Kd.R_base ho0) hb); have n1_ := Aside0.mk (Kd.R_lower (Kd.R_new' ho0 (Kd.R_lt (by (with_reducible repeat (first | apply Kd.R_alloc | apply Kd.R_drewN | apply Kd.R_drew)); exact HO216.out))) (below_size (by repeat (first | (with_reducible first | exact HB.out | apply below_alloc | apply pw_below_drewN | apply below_drew1) | exact HB.out)))); have n2_ := Aside0.mk (below_step (by repeat (first | (with_reducible first | exact HB.out | apply below_alloc | apply pw_below_drewN | apply below_drew1) | exact HB.out)) hb); clear HO216; clear HB; have HO216 := n0_; have HO219 := n1_; have HB := n2_; clear n0_ n1_ n2_; (try clear hb); (try clear hb2); (try clear hk); (try clear hi); (try clear ho0); obtain ⟨Ao20, co20, eo20⟩ := Kd.R_slice HO219.out; subst eo20; obtain ⟨Ao21, co21, eo21⟩ := Kd.R_slice HO216.out; subst eo21) | ((with_reducible refine gate_callee (f := 27) rfl ?_); refine goesL_ (some 16) rfl rfl Tryd.func27 (by kernel_rfl) rfl #[.slice Ao20 t217.length co20, .slice Ao21 t214.length co21] rfl (by (try simp only [List.map_toArray, List.map_cons, List.map_nil]); first | done | rfl | (simp only [List.length_drop, List.length_take]; rfl)) ?_; (with_reducible refine (haulierref02_Same.calls k _ _ t217 _ _ t214 true _ ?side1 ?side2 ?side3 ?side4 A7.out).mono ?_); (case side1 => repeat (first | exact (Kd.R_reads' HO219.out).2.2 | (with_reducible refine Kd.C_alloc ?_ _) | (with_reducible refine Kd.C_drewN ?_ _) | (with_reducible refine Kd.C_drew ?_))); (case side2 => exact (Kd.R_reads' HO219.out).2.1); (case side3 => repeat (first | exact (Kd.R_reads' HO216.out).2.2 | (with_reducible refine Kd.C_alloc ?_ _) | (with_reducible refine Kd.C_drewN ?_ _) | (with_reducible refine Kd.C_drew ?_))); (case side4 => exact (Kd.R_reads' HO216.out).2.1); rintro e w' ⟨rfl, ⟨nd, rfl⟩⟩; refine ⟨_, rfl, ?_⟩) | (go_at_call 15; (with_reducible refine (set_Has.calls a0 a2 t221 _ A10.out).mono ?_); rintro e w' ⟨rfl, ⟨nd, rfl⟩⟩) | (go_at_call 28; (with_reducible refine (haulierref02_Has.calls k a0 a2 t222 _ A11.out).mono ?_); rintro e w' ⟨rfl, ⟨nd, rfl⟩⟩) | (go_at_call 13; (with_reducible refine (set_Len.calls a0 t223 _ A13.out).mono ?_); rintro e w' ⟨rfl, ⟨nd, rfl⟩⟩) | (go_at_call 16; (with_reducible refine (set_Within.calls a0 a1 t224 _ A15.out).mono ?_); rintro e w' ⟨rfl, ⟨nd, rfl⟩⟩) | (go_at_call 29; (with_reducible refine (haulierref02_Within.calls k a0 a1 t225 _ A16.out).mono ?_); rintro e w' ⟨rfl, ⟨nd, rfl⟩⟩))
          go_ret
          exact ⟨by first | rfl | (simp [errW_none, errW_some] <;> rfl) | (simp [*, errW_none, errW_some] <;> rfl), by repeat (first | (with_reducible first | exact HB.out | apply below_alloc | apply pw_below_drewN | apply below_drew1) | exact HB.out)⟩
        · rw [if_neg c14] at H
          exact absurd H (by simp)
      · rw [if_neg c12] at H
        exact absurd H (by simp)
    · replace c9 := Bool.eq_false_iff.mpr c9
      subst c9
      have H1 : (none) = some r := by rw [if_neg (show ¬ (false = true) by decide)] at H; exact H
      clear H
      have H := H1
      clear H1
      exact absurd H (by simp)
  · replace c8 := Bool.eq_false_iff.mpr c8
    subst c8
    have H1 : (none) = some r := by rw [if_neg (show ¬ (false = true) by decide)] at H; exact H
    clear H
    have H := H1
    clear H1
    exact absurd H (by simp)

/-- THE ONE PURE STATEMENT of haulierlaw02_SetTells: yours. -/
def haulierlaw02_SetTells.Pure : Prop := ∀ (a0 : Int) (a1 : Int) (a2 : Int), (Lit.int .u64 a0).wf = true → (Lit.int .u64 a1).wf = true → (Lit.int .i64 a2).wf = true → ∃ k, haulierlaw02_SetTells.f k a0 a1 a2 = some true
theorem haulierlaw02_SetTells.walk (P : haulierlaw02_SetTells.Pure) (a0 : Int) (a1 : Int) (a2 : Int) (w : World) (w0 : (Lit.int .u64 a0).wf = true) (w1 : (Lit.int .u64 a1).wf = true) (w2 : (Lit.int .i64 a2).wf = true) (hT : Go.Proofs.YtgnhokepcdopgaaDoor.SetWalk.SetTab w) :
    Calls Tryd.prog 10 #[.int .u64 a0, .int .u64 a1, .int .i64 a2] w fun e w' => e = .returned (.bool true) ∧ Below w.heap.size w w' := by
  obtain ⟨k, h⟩ := P a0 a1 a2 w0 w1 w2
  refine (haulierlaw02_SetTells.calls k a0 a1 a2 true w h hT).mono ?_
  rintro e w' ⟨rfl, hd⟩
  exact ⟨rfl, hd⟩

end Go.Proofs.YtgnhokepcdopgaaDoor.PA
