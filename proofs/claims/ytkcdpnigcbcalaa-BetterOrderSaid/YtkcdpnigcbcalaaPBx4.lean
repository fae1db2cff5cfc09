-- Printed for this claim by wip/tools/xprint.py over the kit's print; the contracts marked BY HAND are this session's own.
import Derived.Test.YtkcdpnigcbcalaaPBx0
import Derived.Test.YtkcdpnigcbcalaaPBx1
namespace Go.Proofs.Ytkcdpnigcbcalaa.PB
open Go.RowKit Go.Proofs.YtkcdpnigcbcalaaW.PrintWords Go.Proofs.YtkcdpnigcbcalaaW.PrintLast Go.Proofs.YtkcdpnigcbcalaaW.PrintMore
attribute [local go_sem] max2_int min2_int max_two min_two max_three min_three max_four min_four   -- for this text's walks alone
set_option linter.unusedVariables false
set_option linter.unusedSimpArgs false

attribute [local go_sem high] eqA24
/-! ### haulierref02_Same: function 30 -/
def haulierref02_Same.l0 : Nat → List Int → List Int → Int → Option (Bool)
  | 0, _, _, _ => none
  | k + 1, x0, x1, x5 => if x5 < (x0.length : Int) then (if 0 ≤ x5 then (if x5 < (x1.length : Int) then (if (rd x0 x5) = (rd x1 x5) then (haulierref02_Same.l0 k x0 x1 (wrap64 (x5 + 1))) else (some false)) else (none)) else (none)) else (some true)
def haulierref02_Same.f (k : Nat) (l0 : List Int) (l1 : List Int) : Option (Bool) := if (l0.length : Int) = (l1.length : Int) then (haulierref02_Same.l0 k l0 l1 0) else (some false)
theorem haulierref02_Same.mono_l : ∀ k, (∀ y0 y1 y2, LeO (haulierref02_Same.l0 k y0 y1 y2) (haulierref02_Same.l0 (k + 1) y0 y1 y2))
  | 0 => fun _ _ _ r h => by simp [haulierref02_Same.l0] at h
  | k + 1 => by
    have ih0 := haulierref02_Same.mono_l k
    · intro y0 y1 y2
      unfold haulierref02_Same.l0
      repeat' first
      | (with_reducible exact ih0 _ _ _)
      | (with_reducible exact LeO.refl _)
      | (with_reducible exact LeO.none _)
      | (with_reducible refine LeO.ite ?_ ?_)
      | (with_reducible refine LeO.bind ?_ (fun _ => ?_))
      | exact ih0 _ _ _
      | exact LeO.none _
      | refine LeO.ite ?_ ?_
      | refine LeO.bind ?_ (fun _ => ?_)
theorem haulierref02_Same.mono : ∀ a0 a1 k, LeO (haulierref02_Same.f k a0 a1) (haulierref02_Same.f (k + 1) a0 a1) := by
  intro a0 a1 k
  have ih0 := haulierref02_Same.mono_l k
  unfold haulierref02_Same.f
  repeat' first
      | (with_reducible exact ih0 _ _ _)
      | (with_reducible exact LeO.refl _)
      | (with_reducible exact LeO.none _)
      | (with_reducible refine LeO.ite ?_ ?_)
      | (with_reducible refine LeO.bind ?_ (fun _ => ?_))
      | exact ih0 _ _ _
      | exact LeO.none _
      | refine LeO.ite ?_ ?_
      | refine LeO.bind ?_ (fun _ => ?_)
set_option maxHeartbeats 8000000 in
set_option maxRecDepth 100000 in
theorem haulierref02_Same.calls (k : Nat) (A0 : Option Addr) (c0 : Nat) (l0 : List Int) (A1 : Option Addr) (c1 : Nat) (l1 : List Int) (r : Bool) (w : World) (hr0 : Kd.C (Kd.int .i64) w A0 l0.length l0) (hc0 : l0.length ≤ c0) (hr1 : Kd.C (Kd.int .i64) w A1 l1.length l1) (hc1 : l1.length ≤ c1) (h : haulierref02_Same.f k l0 l1 = some r) :
    Calls Try.prog 30 #[.slice A0 l0.length c0, .slice A1 l1.length c1] w fun e w' => e = .returned (.bool r) ∧ Drawn0 w w' := by
  have HR0 := Aside0.mk hr0
  have HC0 := Aside0.mk hc0
  clear hr0 hc0
  have HR1 := Aside0.mk hr1
  have HC1 := Aside0.mk hc1
  clear hr1 hc1
  have H : (if (l0.length : Int) = (l1.length : Int) then (haulierref02_Same.l0 k l0 l1 0) else (some false)) = some r := h
  clear h
  by_cases c3 : (l0.length : Int) = (l1.length : Int)
  · rw [if_pos c3] at H
    have c3b0 : ((l0.length : Int) == (l1.length : Int)) = true := beq_iff_eq.mpr c3
    have c3b1 : ((l0.length : Int) != (l1.length : Int)) = false := bne_eq_false_iff_eq.mpr c3
    have c3b2 : (l0.length == l1.length) = true := by first | simpa using c3 | (simp at c3 ⊢; omega)
    clear c3
    have H' := Aside0.mk H
    clear H
    go_enter Try.func30, Try.ntmps30
    go_wp2
    repeat (go_quiet (fail); try go_wp2)
    go_loopg [5] k (fun kq v5 w' => ∃ (x5_1 : Int), v5 = .int .i64 x5_1 ∧ Aside0 (haulierref02_Same.l0 kq l0 l1 x5_1 = some r) ∧ Aside0 (kq ≤ k) ∧ Drawn0 w w')
    case atStart => exact ⟨(0), (by first | rfl | (simp; done) | (simp [*]; done)), H', ⟨Nat.le_refl _⟩, by repeat (first | exact Drawn0.refl _ | apply Drawn0.step)⟩
    case round =>
      clear H'
      try clear c1
      try clear p2
      try clear c3
      try clear c3b0
      try clear c3b1
      try clear c3b2
      obtain ⟨x5_1, rfl, HA, HK1, ⟨m1, rfl⟩⟩ := hrel
      cases gk with
      | zero => exact absurd HA.out (by simp [haulierref02_Same.l0])
      | succ k1 =>
        have H := HA.out
        clear HA
        simp only [haulierref02_Same.l0] at H
        by_cases c4 : x5_1 < (l0.length : Int)
        · rw [if_pos c4] at H
          have c4b0 : decide (x5_1 < (l0.length : Int)) = true := decide_eq_true c4
          clear c4
          by_cases c5 : 0 ≤ x5_1
          · rw [if_pos c5] at H
            have c5b0 : decide (0 ≤ x5_1) = true := decide_eq_true c5
            clear c5
            by_cases c6 : x5_1 < (l1.length : Int)
            · rw [if_pos c6] at H
              have c6b0 : decide (x5_1 < (l1.length : Int)) = true := decide_eq_true c6
              clear c6
              by_cases c7 : (rd l0 x5_1) = (rd l1 x5_1)
              · rw [if_pos c7] at H
                have c7b0 : ((rd l0 x5_1) == (rd l1 x5_1)) = true := beq_iff_eq.mpr c7
                have c7b1 : ((rd l0 x5_1) != (rd l1 x5_1)) = false := bne_eq_false_iff_eq.mpr c7
                clear c7
                have H' := Aside0.mk H
                clear H
                have p115 : 0 ≤ (x5_1 : Int) := of_decide_eq_true (by first | (with_reducible assumption) | assumption)
                have q115 : x5_1 < (l0.length : Int) := of_decide_eq_true (by first | (with_reducible assumption) | assumption)
                obtain ⟨ad115, e115, hx115_0⟩ := Kd.at_int HR0.out x5_1 p115 q115
                cases e115
                replace p115 := eq_true p115
                replace q115 := eq_true q115
                have p116 : 0 ≤ (x5_1 : Int) := of_decide_eq_true (by first | (with_reducible assumption) | assumption)
                have q116 : x5_1 < (l1.length : Int) := of_decide_eq_true (by first | (with_reducible assumption) | assumption)
                obtain ⟨ad116, e116, hx116_0⟩ := Kd.at_int HR1.out x5_1 p116 q116
                cases e116
                replace p116 := eq_true p116
                replace q116 := eq_true q116
                go_wp2
                repeat (go_quiet (fail); try go_wp2)
                go_roundg k1
                case measure => have := HK1.out; omega
                case rel => exact ⟨(wrap64 (x5_1 + 1)), (by first | rfl | (simp; done) | (simp [*]; done)), H', ⟨by have := HK1.out; omega⟩, by repeat (first | exact Drawn0.refl _ | apply Drawn0.step)⟩
              · rw [if_neg c7] at H
                have c7b0 : ((rd l0 x5_1) == (rd l1 x5_1)) = false := beq_eq_false_iff_ne.mpr c7
                have c7b1 : ((rd l0 x5_1) != (rd l1 x5_1)) = true := bne_iff_ne.mpr c7
                obtain rfl := Option.some.inj H
                have p115 : 0 ≤ (x5_1 : Int) := of_decide_eq_true (by first | (with_reducible assumption) | assumption)
                have q115 : x5_1 < (l0.length : Int) := of_decide_eq_true (by first | (with_reducible assumption) | assumption)
                obtain ⟨ad115, e115, hx115_0⟩ := Kd.at_int HR0.out x5_1 p115 q115
                cases e115
                replace p115 := eq_true p115
                replace q115 := eq_true q115
                have p116 : 0 ≤ (x5_1 : Int) := of_decide_eq_true (by first | (with_reducible assumption) | assumption)
                have q116 : x5_1 < (l1.length : Int) := of_decide_eq_true (by first | (with_reducible assumption) | assumption)
                obtain ⟨ad116, e116, hx116_0⟩ := Kd.at_int HR1.out x5_1 p116 q116
                cases e116
                replace p116 := eq_true p116
                replace q116 := eq_true q116
                go_wp2
                repeat (go_quiet (fail); try go_wp2)
                go_ret
                exact ⟨by first | rfl | (simp; done) | (simp [*]; done), by repeat (first | exact Drawn0.refl _ | apply Drawn0.step)⟩
            · rw [if_neg c6] at H
              exact absurd H (by simp)
          · rw [if_neg c5] at H
            exact absurd H (by simp)
        · rw [if_neg c4] at H
          have c4b0 : decide (x5_1 < (l0.length : Int)) = false := decide_eq_false c4
          clear c4
          obtain rfl := Option.some.inj H
          go_wp2
          repeat (go_quiet (fail); try go_wp2)
          go_ret
          exact ⟨by first | rfl | (simp; done) | (simp [*]; done), by repeat (first | exact Drawn0.refl _ | apply Drawn0.step)⟩
  · rw [if_neg c3] at H
    have c3b0 : ((l0.length : Int) == (l1.length : Int)) = false := beq_eq_false_iff_ne.mpr c3
    have c3b1 : ((l0.length : Int) != (l1.length : Int)) = true := bne_iff_ne.mpr c3
    have c3b2 : (l0.length == l1.length) = false := by first | simpa using c3 | (simp at c3 ⊢; omega)
    obtain rfl := Option.some.inj H
    go_enter Try.func30, Try.ntmps30
    go_wp2
    repeat (go_quiet (fail); try go_wp2)
    go_ret
    exact ⟨by first | rfl | (simp; done) | (simp [*]; done), by repeat (first | exact Drawn0.refl _ | apply Drawn0.step)⟩

/-! ### haulierref13_Same: function 18 -/
def haulierref13_Same.l0 : Nat → List (S37) → List (S37) → Int → Option (Bool)
  | 0, _, _, _ => none
  | k + 1, x0, x1, x5 => if x5 < (x0.length : Int) then (if 0 ≤ x5 then (if x5 < (x1.length : Int) then ((haulierref02_Same.f k ((rd_T37 x0 x5).f2) ((rd_T37 x1 x5).f2)).bind fun t119 => (if t119 = true then (if (!(((rd_T37 x0 x5).f0.f0) == ((rd_T37 x1 x5).f0.f0)) || (!(((rd_T37 x0 x5).f0.f1) == ((rd_T37 x1 x5).f0.f1)) || (!(((rd_T37 x0 x5).f0.f2) == ((rd_T37 x1 x5).f0.f2)) || (!(((rd_T37 x0 x5).f0.f3) == ((rd_T37 x1 x5).f0.f3)) || (!(((rd_T37 x0 x5).f0.f4) == ((rd_T37 x1 x5).f0.f4)) || (!(((rd_T37 x0 x5).f0.f5) == ((rd_T37 x1 x5).f0.f5)) || (!(((rd_T37 x0 x5).f0.f6) == ((rd_T37 x1 x5).f0.f6)) || (!(((rd_T37 x0 x5).f0.f7) == ((rd_T37 x1 x5).f0.f7)))))))))) = true then (some false) else (if ((rd_T37 x0 x5).f1) = ((rd_T37 x1 x5).f1) then (haulierref13_Same.l0 k x0 x1 (wrap64 (x5 + 1))) else (some false))) else (some false))) else (none)) else (none)) else (some true)
def haulierref13_Same.f (k : Nat) (l0 : List (S37)) (l1 : List (S37)) : Option (Bool) := if (l0.length : Int) = (l1.length : Int) then (haulierref13_Same.l0 k l0 l1 0) else (some false)
theorem haulierref13_Same.mono_l : ∀ k, (∀ y0 y1 y2, LeO (haulierref13_Same.l0 k y0 y1 y2) (haulierref13_Same.l0 (k + 1) y0 y1 y2))
  | 0 => fun _ _ _ r h => by simp [haulierref13_Same.l0] at h
  | k + 1 => by
    have ih0 := haulierref13_Same.mono_l k
    · intro y0 y1 y2
      unfold haulierref13_Same.l0
      repeat' first
      | (with_reducible exact ih0 _ _ _)
      | (with_reducible exact haulierref02_Same.mono _ _ _)
      | (with_reducible exact LeO.refl _)
      | (with_reducible exact LeO.none _)
      | (with_reducible refine LeO.ite ?_ ?_)
      | (with_reducible refine LeO.bind ?_ (fun _ => ?_))
      | exact ih0 _ _ _
      | exact haulierref02_Same.mono _ _ _
      | exact LeO.none _
      | refine LeO.ite ?_ ?_
      | refine LeO.bind ?_ (fun _ => ?_)
theorem haulierref13_Same.mono : ∀ a0 a1 k, LeO (haulierref13_Same.f k a0 a1) (haulierref13_Same.f (k + 1) a0 a1) := by
  intro a0 a1 k
  have ih0 := haulierref13_Same.mono_l k
  unfold haulierref13_Same.f
  repeat' first
      | (with_reducible exact ih0 _ _ _)
      | (with_reducible exact haulierref02_Same.mono _ _ _)
      | (with_reducible exact LeO.refl _)
      | (with_reducible exact LeO.none _)
      | (with_reducible refine LeO.ite ?_ ?_)
      | (with_reducible refine LeO.bind ?_ (fun _ => ?_))
      | exact ih0 _ _ _
      | exact haulierref02_Same.mono _ _ _
      | exact LeO.none _
      | refine LeO.ite ?_ ?_
      | refine LeO.bind ?_ (fun _ => ?_)
set_option maxHeartbeats 16000000 in
set_option maxRecDepth 100000 in
theorem haulierref13_Same.calls (k : Nat) (A0 : Option Addr) (c0 : Nat) (l0 : List (S37)) (A1 : Option Addr) (c1 : Nat) (l1 : List (S37)) (r : Bool) (w : World) (hr0 : Kd.C k37 w A0 l0.length l0) (hc0 : l0.length ≤ c0) (hr1 : Kd.C k37 w A1 l1.length l1) (hc1 : l1.length ≤ c1) (h : haulierref13_Same.f k l0 l1 = some r) :
  Calls Try.prog 18 #[.slice A0 l0.length c0, .slice A1 l1.length c1] w fun e w' => e = .returned (.bool r) ∧ Drawn0 w w' := by
 have hu24 := Try.underlying24
 have HR0 := zqi hr0
 have HC0 := zqi hc0
 clear hr0 hc0
 have HR1 := zqi hr1
 have HC1 := zqi hc1
 clear hr1 hc1
 have H : (if (l0.length : Int) = (l1.length : Int) then (haulierref13_Same.l0 k l0 l1 0) else (some false)) = some r := h
 clear h
 by_cases c3 : (l0.length : Int) = (l1.length : Int)
 ·
  rw [if_pos c3] at H
  have c3b0 : ((l0.length : Int) == (l1.length : Int)) = true := beq_iff_eq.mpr c3
  have c3b1 : ((l0.length : Int) != (l1.length : Int)) = false := bne_eq_false_iff_eq.mpr c3
  have c3b2 : (l0.length == l1.length) = true := by first | simpa using c3 | (simp at c3 ⊢; omega)
  clear c3
  have H' := zqi H
  clear H
  go_enter Try.func18, Try.ntmps18
  go_wp2
  repeat (go_quiet (fail); try go_wp2)
  go_loopg [5] k (fun kq v5 w' => ∃ (x5_1 : Int), v5 = .int .i64 x5_1 ∧ Aside0 (haulierref13_Same.l0 kq l0 l1 x5_1 = some r) ∧ Aside0 (kq ≤ k) ∧ Drawn0 w w')
  case atStart => exact ⟨(0), (by first | rfl | (simp; done) | (simp [*]; done)), H', ⟨Nat.le_refl _⟩, by repeat (first | exact Drawn0.refl _ | apply Drawn0.step)⟩
  case round =>
   clear H'
   try clear c1
   try clear p2
   try clear c3
   try clear c3b0
   try clear c3b1
   try clear c3b2
   obtain ⟨x5_1, rfl, HA, HK1, ⟨m1, rfl⟩⟩ := hrel
   cases gk with
   | zero => exact absurd HA.out (by simp [haulierref13_Same.l0])
   | succ k1 =>
    have H := HA.out
    clear HA
    simp only [haulierref13_Same.l0] at H
    by_cases c4 : x5_1 < (l0.length : Int)
    ·
     rw [if_pos c4] at H
     have c4b0 : decide (x5_1 < (l0.length : Int)) = true := decide_eq_true c4
     clear c4
     by_cases c5 : 0 ≤ x5_1
     ·
      rw [if_pos c5] at H
      have c5b0 : decide (0 ≤ x5_1) = true := decide_eq_true c5
      clear c5
      by_cases c6 : x5_1 < (l1.length : Int)
      ·
       rw [if_pos c6] at H
       have c6b0 : decide (x5_1 < (l1.length : Int)) = true := decide_eq_true c6
       clear c6
       replace H := Option.bind_eq_some_iff.mp H
       obtain ⟨t119, A70, H⟩ := H
       replace H : (if t119 = true then (if (!(((rd_T37 l0 x5_1).f0.f0) == ((rd_T37 l1 x5_1).f0.f0)) || (!(((rd_T37 l0 x5_1).f0.f1) == ((rd_T37 l1 x5_1).f0.f1)) || (!(((rd_T37 l0 x5_1).f0.f2) == ((rd_T37 l1 x5_1).f0.f2)) || (!(((rd_T37 l0 x5_1).f0.f3) == ((rd_T37 l1 x5_1).f0.f3)) || (!(((rd_T37 l0 x5_1).f0.f4) == ((rd_T37 l1 x5_1).f0.f4)) || (!(((rd_T37 l0 x5_1).f0.f5) == ((rd_T37 l1 x5_1).f0.f5)) || (!(((rd_T37 l0 x5_1).f0.f6) == ((rd_T37 l1 x5_1).f0.f6)) || (!(((rd_T37 l0 x5_1).f0.f7) == ((rd_T37 l1 x5_1).f0.f7)))))))))) = true then (some false) else (if ((rd_T37 l0 x5_1).f1) = ((rd_T37 l1 x5_1).f1) then (haulierref13_Same.l0 k1 l0 l1 (wrap64 (x5_1 + 1))) else (some false))) else (some false)) = some r := H
       have A7 := zqi A70
       clear A70
       by_cases c8 : t119 = true
       ·
        subst c8
        have H1 : (if (!(((rd_T37 l0 x5_1).f0.f0) == ((rd_T37 l1 x5_1).f0.f0)) || (!(((rd_T37 l0 x5_1).f0.f1) == ((rd_T37 l1 x5_1).f0.f1)) || (!(((rd_T37 l0 x5_1).f0.f2) == ((rd_T37 l1 x5_1).f0.f2)) || (!(((rd_T37 l0 x5_1).f0.f3) == ((rd_T37 l1 x5_1).f0.f3)) || (!(((rd_T37 l0 x5_1).f0.f4) == ((rd_T37 l1 x5_1).f0.f4)) || (!(((rd_T37 l0 x5_1).f0.f5) == ((rd_T37 l1 x5_1).f0.f5)) || (!(((rd_T37 l0 x5_1).f0.f6) == ((rd_T37 l1 x5_1).f0.f6)) || (!(((rd_T37 l0 x5_1).f0.f7) == ((rd_T37 l1 x5_1).f0.f7)))))))))) = true then (some false) else (if ((rd_T37 l0 x5_1).f1) = ((rd_T37 l1 x5_1).f1) then (haulierref13_Same.l0 k1 l0 l1 (wrap64 (x5_1 + 1))) else (some false))) = some r := by rw [if_pos rfl] at H; exact H
        clear H
        have H := H1
        clear H1
        by_cases c9 : (!(((rd_T37 l0 x5_1).f0.f0) == ((rd_T37 l1 x5_1).f0.f0)) || (!(((rd_T37 l0 x5_1).f0.f1) == ((rd_T37 l1 x5_1).f0.f1)) || (!(((rd_T37 l0 x5_1).f0.f2) == ((rd_T37 l1 x5_1).f0.f2)) || (!(((rd_T37 l0 x5_1).f0.f3) == ((rd_T37 l1 x5_1).f0.f3)) || (!(((rd_T37 l0 x5_1).f0.f4) == ((rd_T37 l1 x5_1).f0.f4)) || (!(((rd_T37 l0 x5_1).f0.f5) == ((rd_T37 l1 x5_1).f0.f5)) || (!(((rd_T37 l0 x5_1).f0.f6) == ((rd_T37 l1 x5_1).f0.f6)) || (!(((rd_T37 l0 x5_1).f0.f7) == ((rd_T37 l1 x5_1).f0.f7)))))))))) = true
        ·
         rw [if_pos c9] at H
         have c9b0 : (!(((rd_T37 l0 x5_1).f0.f0) == ((rd_T37 l1 x5_1).f0.f0)) || (!(((rd_T37 l0 x5_1).f0.f1) == ((rd_T37 l1 x5_1).f0.f1)) || (!(((rd_T37 l0 x5_1).f0.f2) == ((rd_T37 l1 x5_1).f0.f2)) || (!(((rd_T37 l0 x5_1).f0.f3) == ((rd_T37 l1 x5_1).f0.f3)) || (!(((rd_T37 l0 x5_1).f0.f4) == ((rd_T37 l1 x5_1).f0.f4)) || (!(((rd_T37 l0 x5_1).f0.f5) == ((rd_T37 l1 x5_1).f0.f5)) || (!(((rd_T37 l0 x5_1).f0.f6) == ((rd_T37 l1 x5_1).f0.f6)) || (!(((rd_T37 l0 x5_1).f0.f7) == ((rd_T37 l1 x5_1).f0.f7)))))))))) = true := c9
         clear c9
         obtain rfl := Option.some.inj H
         have p117 : 0 ≤ (x5_1 : Int) := of_decide_eq_true (by first | (with_reducible assumption) | assumption)
         have q117 : x5_1 < (l0.length : Int) := of_decide_eq_true (by first | (with_reducible assumption) | assumption)
         obtain ⟨ad117, A117_9, c117_9, e117, hx117_0, hx117_1, hx117_2, hx117_3, hx117_4, hx117_5, hx117_6, hx117_7, hx117_8, hx117_9, hl117_9, hi117_9⟩ := at_T37 HR0.out x5_1 p117 q117
         cases e117
         have HR117_9 := zqi hi117_9
         have HC117_9 := zqi hl117_9
         clear hi117_9 hl117_9
         replace p117 := eq_true p117
         replace q117 := eq_true q117
         have p118 : 0 ≤ (x5_1 : Int) := of_decide_eq_true (by first | (with_reducible assumption) | assumption)
         have q118 : x5_1 < (l1.length : Int) := of_decide_eq_true (by first | (with_reducible assumption) | assumption)
         obtain ⟨ad118, A118_9, c118_9, e118, hx118_0, hx118_1, hx118_2, hx118_3, hx118_4, hx118_5, hx118_6, hx118_7, hx118_8, hx118_9, hl118_9, hi118_9⟩ := at_T37 HR1.out x5_1 p118 q118
         cases e118
         have HR118_9 := zqi hi118_9
         have HC118_9 := zqi hl118_9
         clear hi118_9 hl118_9
         replace p118 := eq_true p118
         replace q118 := eq_true q118
         go_wp2_with (first | (go_at_call 30; (with_reducible refine (haulierref02_Same.calls k1 _ _ ((rd_T37 l0 x5_1).f2) _ _ ((rd_T37 l1 x5_1).f2) true _ ?side1 ?side2 ?side3 ?side4 A7.out).mono ?_); (case side1 => repeat (first | exact HR117_9.out | (with_reducible refine Kd.C_alloc ?_ _) | (with_reducible refine Kd.C_drewN ?_ _) | (with_reducible refine Kd.C_drew ?_))); (case side2 => exact HC117_9.out); (case side3 => repeat (first | exact HR118_9.out | (with_reducible refine Kd.C_alloc ?_ _) | (with_reducible refine Kd.C_drewN ?_ _) | (with_reducible refine Kd.C_drew ?_))); (case side4 => exact HC118_9.out); rintro e w' ⟨rfl, ⟨nd, rfl⟩⟩; (try first | exact ⟨rfl, _, zqj⟩ | exact ⟨rfl, _, Eq.trans (zqj) (congrArg (World.drewN _) (Nat.add_assoc _ _ _))⟩); have p120 : 0 ≤ (x5_1 : Int) := of_decide_eq_true (by first | (with_reducible assumption) | assumption); have q120 : x5_1 < (l0.length : Int) := of_decide_eq_true (by first | (with_reducible assumption) | assumption); obtain ⟨ad120, A120_9, c120_9, e120, hx120_0, hx120_1, hx120_2, hx120_3, hx120_4, hx120_5, hx120_6, hx120_7, hx120_8, hx120_9, hl120_9, hi120_9⟩ := at_T37 HR0.out x5_1 p120 q120; obtain rfl : ad117 = ad120 := (by injection e120); have HR120_9 := zqi hi120_9; have HC120_9 := zqi hl120_9; clear hi120_9 hl120_9; replace p120 := eq_true p120; replace q120 := eq_true q120; have ea_ := Option.some.inj (hx117_9.symm.trans hx120_9); injection ea_ with ea_ en_ ec_; subst ea_; subst ec_; clear en_; have p121 : 0 ≤ (x5_1 : Int) := of_decide_eq_true (by first | (with_reducible assumption) | assumption); have q121 : x5_1 < (l1.length : Int) := of_decide_eq_true (by first | (with_reducible assumption) | assumption); obtain ⟨ad121, A121_9, c121_9, e121, hx121_0, hx121_1, hx121_2, hx121_3, hx121_4, hx121_5, hx121_6, hx121_7, hx121_8, hx121_9, hl121_9, hi121_9⟩ := at_T37 HR1.out x5_1 p121 q121; obtain rfl : ad118 = ad121 := (by injection e121); have HR121_9 := zqi hi121_9; have HC121_9 := zqi hl121_9; clear hi121_9 hl121_9; replace p121 := eq_true p121; replace q121 := eq_true q121; have ea_ := Option.some.inj (hx118_9.symm.trans hx121_9); injection ea_ with ea_ en_ ec_; subst ea_; subst ec_; clear en_))
         repeat (go_quiet (first | (go_at_call 30; (with_reducible refine (haulierref02_Same.calls k1 _ _ ((rd_T37 l0 x5_1).f2) _ _ ((rd_T37 l1 x5_1).f2) true _ ?side1 ?side2 ?side3 ?side4 A7.out).mono ?_); (case side1 => repeat (first | exact HR117_9.out | (with_reducible refine Kd.C_alloc ?_ _) | (with_reducible refine Kd.C_drewN ?_ _) | (with_reducible refine Kd.C_drew ?_))); (case side2 => exact HC117_9.out); (case side3 => repeat (first | exact HR118_9.out | (with_reducible refine Kd.C_alloc ?_ _) | (with_reducible refine Kd.C_drewN ?_ _) | (with_reducible refine Kd.C_drew ?_))); (case side4 => exact HC118_9.out); rintro e w' ⟨rfl, ⟨nd, rfl⟩⟩; (try first | exact ⟨rfl, _, zqj⟩ | exact ⟨rfl, _, Eq.trans (zqj) (congrArg (World.drewN _) (Nat.add_assoc _ _ _))⟩); have p120 : 0 ≤ (x5_1 : Int) := of_decide_eq_true (by first | (with_reducible assumption) | assumption); have q120 : x5_1 < (l0.length : Int) := of_decide_eq_true (by first | (with_reducible assumption) | assumption); obtain ⟨ad120, A120_9, c120_9, e120, hx120_0, hx120_1, hx120_2, hx120_3, hx120_4, hx120_5, hx120_6, hx120_7, hx120_8, hx120_9, hl120_9, hi120_9⟩ := at_T37 HR0.out x5_1 p120 q120; obtain rfl : ad117 = ad120 := (by injection e120); have HR120_9 := zqi hi120_9; have HC120_9 := zqi hl120_9; clear hi120_9 hl120_9; replace p120 := eq_true p120; replace q120 := eq_true q120; have ea_ := Option.some.inj (hx117_9.symm.trans hx120_9); injection ea_ with ea_ en_ ec_; subst ea_; subst ec_; clear en_; have p121 : 0 ≤ (x5_1 : Int) := of_decide_eq_true (by first | (with_reducible assumption) | assumption); have q121 : x5_1 < (l1.length : Int) := of_decide_eq_true (by first | (with_reducible assumption) | assumption); obtain ⟨ad121, A121_9, c121_9, e121, hx121_0, hx121_1, hx121_2, hx121_3, hx121_4, hx121_5, hx121_6, hx121_7, hx121_8, hx121_9, hl121_9, hi121_9⟩ := at_T37 HR1.out x5_1 p121 q121; obtain rfl : ad118 = ad121 := (by injection e121); have HR121_9 := zqi hi121_9; have HC121_9 := zqi hl121_9; clear hi121_9 hl121_9; replace p121 := eq_true p121; replace q121 := eq_true q121; have ea_ := Option.some.inj (hx118_9.symm.trans hx121_9); injection ea_ with ea_ en_ ec_; subst ea_; subst ec_; clear en_)); try go_wp2_with (first | (go_at_call 30; (with_reducible refine (haulierref02_Same.calls k1 _ _ ((rd_T37 l0 x5_1).f2) _ _ ((rd_T37 l1 x5_1).f2) true _ ?side1 ?side2 ?side3 ?side4 A7.out).mono ?_); (case side1 => repeat (first | exact HR117_9.out | (with_reducible refine Kd.C_alloc ?_ _) | (with_reducible refine Kd.C_drewN ?_ _) | (with_reducible refine Kd.C_drew ?_))); (case side2 => exact HC117_9.out); (case side3 => repeat (first | exact HR118_9.out | (with_reducible refine Kd.C_alloc ?_ _) | (with_reducible refine Kd.C_drewN ?_ _) | (with_reducible refine Kd.C_drew ?_))); (case side4 => exact HC118_9.out); rintro e w' ⟨rfl, ⟨nd, rfl⟩⟩; (try first | exact ⟨rfl, _, zqj⟩ | exact ⟨rfl, _, Eq.trans (zqj) (congrArg (World.drewN _) (Nat.add_assoc _ _ _))⟩); have p120 : 0 ≤ (x5_1 : Int) := of_decide_eq_true (by first | (with_reducible assumption) | assumption); have q120 : x5_1 < (l0.length : Int) := of_decide_eq_true (by first | (with_reducible assumption) | assumption); obtain ⟨ad120, A120_9, c120_9, e120, hx120_0, hx120_1, hx120_2, hx120_3, hx120_4, hx120_5, hx120_6, hx120_7, hx120_8, hx120_9, hl120_9, hi120_9⟩ := at_T37 HR0.out x5_1 p120 q120; obtain rfl : ad117 = ad120 := (by injection e120); have HR120_9 := zqi hi120_9; have HC120_9 := zqi hl120_9; clear hi120_9 hl120_9; replace p120 := eq_true p120; replace q120 := eq_true q120; have ea_ := Option.some.inj (hx117_9.symm.trans hx120_9); injection ea_ with ea_ en_ ec_; subst ea_; subst ec_; clear en_; have p121 : 0 ≤ (x5_1 : Int) := of_decide_eq_true (by first | (with_reducible assumption) | assumption); have q121 : x5_1 < (l1.length : Int) := of_decide_eq_true (by first | (with_reducible assumption) | assumption); obtain ⟨ad121, A121_9, c121_9, e121, hx121_0, hx121_1, hx121_2, hx121_3, hx121_4, hx121_5, hx121_6, hx121_7, hx121_8, hx121_9, hl121_9, hi121_9⟩ := at_T37 HR1.out x5_1 p121 q121; obtain rfl : ad118 = ad121 := (by injection e121); have HR121_9 := zqi hi121_9; have HC121_9 := zqi hl121_9; clear hi121_9 hl121_9; replace p121 := eq_true p121; replace q121 := eq_true q121; have ea_ := Option.some.inj (hx118_9.symm.trans hx121_9); injection ea_ with ea_ en_ ec_; subst ea_; subst ec_; clear en_)))
         go_ret
         exact ⟨by first | rfl | (simp; done) | (simp [*]; done), by repeat (first | exact Drawn0.refl _ | apply Drawn0.step)⟩
        ·
         rw [if_neg c9] at H
         have c9b0 : (!(((rd_T37 l0 x5_1).f0.f0) == ((rd_T37 l1 x5_1).f0.f0)) || (!(((rd_T37 l0 x5_1).f0.f1) == ((rd_T37 l1 x5_1).f0.f1)) || (!(((rd_T37 l0 x5_1).f0.f2) == ((rd_T37 l1 x5_1).f0.f2)) || (!(((rd_T37 l0 x5_1).f0.f3) == ((rd_T37 l1 x5_1).f0.f3)) || (!(((rd_T37 l0 x5_1).f0.f4) == ((rd_T37 l1 x5_1).f0.f4)) || (!(((rd_T37 l0 x5_1).f0.f5) == ((rd_T37 l1 x5_1).f0.f5)) || (!(((rd_T37 l0 x5_1).f0.f6) == ((rd_T37 l1 x5_1).f0.f6)) || (!(((rd_T37 l0 x5_1).f0.f7) == ((rd_T37 l1 x5_1).f0.f7)))))))))) = false := by simpa using c9
         clear c9
         by_cases c10 : ((rd_T37 l0 x5_1).f1) = ((rd_T37 l1 x5_1).f1)
         ·
          rw [if_pos c10] at H
          have c10b0 : (((rd_T37 l0 x5_1).f1) == ((rd_T37 l1 x5_1).f1)) = true := beq_iff_eq.mpr c10
          have c10b1 : (((rd_T37 l0 x5_1).f1) != ((rd_T37 l1 x5_1).f1)) = false := bne_eq_false_iff_eq.mpr c10
          clear c10
          have H' := zqi H
          clear H
          have p117 : 0 ≤ (x5_1 : Int) := of_decide_eq_true (by first | (with_reducible assumption) | assumption)
          have q117 : x5_1 < (l0.length : Int) := of_decide_eq_true (by first | (with_reducible assumption) | assumption)
          obtain ⟨ad117, A117_9, c117_9, e117, hx117_0, hx117_1, hx117_2, hx117_3, hx117_4, hx117_5, hx117_6, hx117_7, hx117_8, hx117_9, hl117_9, hi117_9⟩ := at_T37 HR0.out x5_1 p117 q117
          cases e117
          have HR117_9 := zqi hi117_9
          have HC117_9 := zqi hl117_9
          clear hi117_9 hl117_9
          replace p117 := eq_true p117
          replace q117 := eq_true q117
          have p118 : 0 ≤ (x5_1 : Int) := of_decide_eq_true (by first | (with_reducible assumption) | assumption)
          have q118 : x5_1 < (l1.length : Int) := of_decide_eq_true (by first | (with_reducible assumption) | assumption)
          obtain ⟨ad118, A118_9, c118_9, e118, hx118_0, hx118_1, hx118_2, hx118_3, hx118_4, hx118_5, hx118_6, hx118_7, hx118_8, hx118_9, hl118_9, hi118_9⟩ := at_T37 HR1.out x5_1 p118 q118
          cases e118
          have HR118_9 := zqi hi118_9
          have HC118_9 := zqi hl118_9
          clear hi118_9 hl118_9
          replace p118 := eq_true p118
          replace q118 := eq_true q118
          go_wp2_with (first | (go_at_call 30; (with_reducible refine (haulierref02_Same.calls k1 _ _ ((rd_T37 l0 x5_1).f2) _ _ ((rd_T37 l1 x5_1).f2) true _ ?side1 ?side2 ?side3 ?side4 A7.out).mono ?_); (case side1 => repeat (first | exact HR117_9.out | (with_reducible refine Kd.C_alloc ?_ _) | (with_reducible refine Kd.C_drewN ?_ _) | (with_reducible refine Kd.C_drew ?_))); (case side2 => exact HC117_9.out); (case side3 => repeat (first | exact HR118_9.out | (with_reducible refine Kd.C_alloc ?_ _) | (with_reducible refine Kd.C_drewN ?_ _) | (with_reducible refine Kd.C_drew ?_))); (case side4 => exact HC118_9.out); rintro e w' ⟨rfl, ⟨nd, rfl⟩⟩; (try first | exact ⟨rfl, _, zqj⟩ | exact ⟨rfl, _, Eq.trans (zqj) (congrArg (World.drewN _) (Nat.add_assoc _ _ _))⟩); have p120 : 0 ≤ (x5_1 : Int) := of_decide_eq_true (by first | (with_reducible assumption) | assumption); have q120 : x5_1 < (l0.length : Int) := of_decide_eq_true (by first | (with_reducible assumption) | assumption); obtain ⟨ad120, A120_9, c120_9, e120, hx120_0, hx120_1, hx120_2, hx120_3, hx120_4, hx120_5, hx120_6, hx120_7, hx120_8, hx120_9, hl120_9, hi120_9⟩ := at_T37 HR0.out x5_1 p120 q120; obtain rfl : ad117 = ad120 := (by injection e120); have HR120_9 := zqi hi120_9; have HC120_9 := zqi hl120_9; clear hi120_9 hl120_9; replace p120 := eq_true p120; replace q120 := eq_true q120; have ea_ := Option.some.inj (hx117_9.symm.trans hx120_9); injection ea_ with ea_ en_ ec_; subst ea_; subst ec_; clear en_; have p121 : 0 ≤ (x5_1 : Int) := of_decide_eq_true (by first | (with_reducible assumption) | assumption); have q121 : x5_1 < (l1.length : Int) := of_decide_eq_true (by first | (with_reducible assumption) | assumption); obtain ⟨ad121, A121_9, c121_9, e121, hx121_0, hx121_1, hx121_2, hx121_3, hx121_4, hx121_5, hx121_6, hx121_7, hx121_8, hx121_9, hl121_9, hi121_9⟩ := at_T37 HR1.out x5_1 p121 q121; obtain rfl : ad118 = ad121 := (by injection e121); have HR121_9 := zqi hi121_9; have HC121_9 := zqi hl121_9; clear hi121_9 hl121_9; replace p121 := eq_true p121; replace q121 := eq_true q121; have ea_ := Option.some.inj (hx118_9.symm.trans hx121_9); injection ea_ with ea_ en_ ec_; subst ea_; subst ec_; clear en_; have p122 : 0 ≤ (x5_1 : Int) := of_decide_eq_true (by first | (with_reducible assumption) | assumption); have q122 : x5_1 < (l0.length : Int) := of_decide_eq_true (by first | (with_reducible assumption) | assumption); obtain ⟨ad122, A122_9, c122_9, e122, hx122_0, hx122_1, hx122_2, hx122_3, hx122_4, hx122_5, hx122_6, hx122_7, hx122_8, hx122_9, hl122_9, hi122_9⟩ := at_T37 HR0.out x5_1 p122 q122; obtain rfl : ad117 = ad122 := (by injection e122); have HR122_9 := zqi hi122_9; have HC122_9 := zqi hl122_9; clear hi122_9 hl122_9; replace p122 := eq_true p122; replace q122 := eq_true q122; have ea_ := Option.some.inj (hx117_9.symm.trans hx122_9); injection ea_ with ea_ en_ ec_; subst ea_; subst ec_; clear en_; have p123 : 0 ≤ (x5_1 : Int) := of_decide_eq_true (by first | (with_reducible assumption) | assumption); have q123 : x5_1 < (l1.length : Int) := of_decide_eq_true (by first | (with_reducible assumption) | assumption); obtain ⟨ad123, A123_9, c123_9, e123, hx123_0, hx123_1, hx123_2, hx123_3, hx123_4, hx123_5, hx123_6, hx123_7, hx123_8, hx123_9, hl123_9, hi123_9⟩ := at_T37 HR1.out x5_1 p123 q123; obtain rfl : ad118 = ad123 := (by injection e123); have HR123_9 := zqi hi123_9; have HC123_9 := zqi hl123_9; clear hi123_9 hl123_9; replace p123 := eq_true p123; replace q123 := eq_true q123; have ea_ := Option.some.inj (hx118_9.symm.trans hx123_9); injection ea_ with ea_ en_ ec_; subst ea_; subst ec_; clear en_))
          repeat (go_quiet (first | (go_at_call 30; (with_reducible refine (haulierref02_Same.calls k1 _ _ ((rd_T37 l0 x5_1).f2) _ _ ((rd_T37 l1 x5_1).f2) true _ ?side1 ?side2 ?side3 ?side4 A7.out).mono ?_); (case side1 => repeat (first | exact HR117_9.out | (with_reducible refine Kd.C_alloc ?_ _) | (with_reducible refine Kd.C_drewN ?_ _) | (with_reducible refine Kd.C_drew ?_))); (case side2 => exact HC117_9.out); (case side3 => repeat (first | exact HR118_9.out | (with_reducible refine Kd.C_alloc ?_ _) | (with_reducible refine Kd.C_drewN ?_ _) | (with_reducible refine Kd.C_drew ?_))); (case side4 => exact HC118_9.out); rintro e w' ⟨rfl, ⟨nd, rfl⟩⟩; (try first | exact ⟨rfl, _, zqj⟩ | exact ⟨rfl, _, Eq.trans (zqj) (congrArg (World.drewN _) (Nat.add_assoc _ _ _))⟩); have p120 : 0 ≤ (x5_1 : Int) := of_decide_eq_true (by first | (with_reducible assumption) | assumption); have q120 : x5_1 < (l0.length : Int) := of_decide_eq_true (by first | (with_reducible assumption) | assumption); obtain ⟨ad120, A120_9, c120_9, e120, hx120_0, hx120_1, hx120_2, hx120_3, hx120_4, hx120_5, hx120_6, hx120_7, hx120_8, hx120_9, hl120_9, hi120_9⟩ := at_T37 HR0.out x5_1 p120 q120; obtain rfl : ad117 = ad120 := (by injection e120); have HR120_9 := zqi hi120_9; have HC120_9 := zqi hl120_9; clear hi120_9 hl120_9; replace p120 := eq_true p120; replace q120 := eq_true q120; have ea_ := Option.some.inj (hx117_9.symm.trans hx120_9); injection ea_ with ea_ en_ ec_; subst ea_; subst ec_; clear en_; have p121 : 0 ≤ (x5_1 : Int) := of_decide_eq_true (by first | (with_reducible assumption) | assumption); have q121 : x5_1 < (l1.length : Int) := of_decide_eq_true (by first | (with_reducible assumption) | assumption); obtain ⟨ad121, A121_9, c121_9, e121, hx121_0, hx121_1, hx121_2, hx121_3, hx121_4, hx121_5, hx121_6, hx121_7, hx121_8, hx121_9, hl121_9, hi121_9⟩ := at_T37 HR1.out x5_1 p121 q121; obtain rfl : ad118 = ad121 := (by injection e121); have HR121_9 := zqi hi121_9; have HC121_9 := zqi hl121_9; clear hi121_9 hl121_9; replace p121 := eq_true p121; replace q121 := eq_true q121; have ea_ := Option.some.inj (hx118_9.symm.trans hx121_9); injection ea_ with ea_ en_ ec_; subst ea_; subst ec_; clear en_; have p122 : 0 ≤ (x5_1 : Int) := of_decide_eq_true (by first | (with_reducible assumption) | assumption); have q122 : x5_1 < (l0.length : Int) := of_decide_eq_true (by first | (with_reducible assumption) | assumption); obtain ⟨ad122, A122_9, c122_9, e122, hx122_0, hx122_1, hx122_2, hx122_3, hx122_4, hx122_5, hx122_6, hx122_7, hx122_8, hx122_9, hl122_9, hi122_9⟩ := at_T37 HR0.out x5_1 p122 q122; obtain rfl : ad117 = ad122 := (by injection e122); have HR122_9 := zqi hi122_9; have HC122_9 := zqi hl122_9; clear hi122_9 hl122_9; replace p122 := eq_true p122; replace q122 := eq_true q122; have ea_ := Option.some.inj (hx117_9.symm.trans hx122_9); injection ea_ with ea_ en_ ec_; subst ea_; subst ec_; clear en_; have p123 : 0 ≤ (x5_1 : Int) := of_decide_eq_true (by first | (with_reducible assumption) | assumption); have q123 : x5_1 < (l1.length : Int) := of_decide_eq_true (by first | (with_reducible assumption) | assumption); obtain ⟨ad123, A123_9, c123_9, e123, hx123_0, hx123_1, hx123_2, hx123_3, hx123_4, hx123_5, hx123_6, hx123_7, hx123_8, hx123_9, hl123_9, hi123_9⟩ := at_T37 HR1.out x5_1 p123 q123; obtain rfl : ad118 = ad123 := (by injection e123); have HR123_9 := zqi hi123_9; have HC123_9 := zqi hl123_9; clear hi123_9 hl123_9; replace p123 := eq_true p123; replace q123 := eq_true q123; have ea_ := Option.some.inj (hx118_9.symm.trans hx123_9); injection ea_ with ea_ en_ ec_; subst ea_; subst ec_; clear en_)); try go_wp2_with (first | (go_at_call 30; (with_reducible refine (haulierref02_Same.calls k1 _ _ ((rd_T37 l0 x5_1).f2) _ _ ((rd_T37 l1 x5_1).f2) true _ ?side1 ?side2 ?side3 ?side4 A7.out).mono ?_); (case side1 => repeat (first | exact HR117_9.out | (with_reducible refine Kd.C_alloc ?_ _) | (with_reducible refine Kd.C_drewN ?_ _) | (with_reducible refine Kd.C_drew ?_))); (case side2 => exact HC117_9.out); (case side3 => repeat (first | exact HR118_9.out | (with_reducible refine Kd.C_alloc ?_ _) | (with_reducible refine Kd.C_drewN ?_ _) | (with_reducible refine Kd.C_drew ?_))); (case side4 => exact HC118_9.out); rintro e w' ⟨rfl, ⟨nd, rfl⟩⟩; (try first | exact ⟨rfl, _, zqj⟩ | exact ⟨rfl, _, Eq.trans (zqj) (congrArg (World.drewN _) (Nat.add_assoc _ _ _))⟩); have p120 : 0 ≤ (x5_1 : Int) := of_decide_eq_true (by first | (with_reducible assumption) | assumption); have q120 : x5_1 < (l0.length : Int) := of_decide_eq_true (by first | (with_reducible assumption) | assumption); obtain ⟨ad120, A120_9, c120_9, e120, hx120_0, hx120_1, hx120_2, hx120_3, hx120_4, hx120_5, hx120_6, hx120_7, hx120_8, hx120_9, hl120_9, hi120_9⟩ := at_T37 HR0.out x5_1 p120 q120; obtain rfl : ad117 = ad120 := (by injection e120); have HR120_9 := zqi hi120_9; have HC120_9 := zqi hl120_9; clear hi120_9 hl120_9; replace p120 := eq_true p120; replace q120 := eq_true q120; have ea_ := Option.some.inj (hx117_9.symm.trans hx120_9); injection ea_ with ea_ en_ ec_; subst ea_; subst ec_; clear en_; have p121 : 0 ≤ (x5_1 : Int) := of_decide_eq_true (by first | (with_reducible assumption) | assumption); have q121 : x5_1 < (l1.length : Int) := of_decide_eq_true (by first | (with_reducible assumption) | assumption); obtain ⟨ad121, A121_9, c121_9, e121, hx121_0, hx121_1, hx121_2, hx121_3, hx121_4, hx121_5, hx121_6, hx121_7, hx121_8, hx121_9, hl121_9, hi121_9⟩ := at_T37 HR1.out x5_1 p121 q121; obtain rfl : ad118 = ad121 := (by injection e121); have HR121_9 := zqi hi121_9; have HC121_9 := zqi hl121_9; clear hi121_9 hl121_9; replace p121 := eq_true p121; replace q121 := eq_true q121; have ea_ := Option.some.inj (hx118_9.symm.trans hx121_9); injection ea_ with ea_ en_ ec_; subst ea_; subst ec_; clear en_; have p122 : 0 ≤ (x5_1 : Int) := of_decide_eq_true (by first | (with_reducible assumption) | assumption); have q122 : x5_1 < (l0.length : Int) := of_decide_eq_true (by first | (with_reducible assumption) | assumption); obtain ⟨ad122, A122_9, c122_9, e122, hx122_0, hx122_1, hx122_2, hx122_3, hx122_4, hx122_5, hx122_6, hx122_7, hx122_8, hx122_9, hl122_9, hi122_9⟩ := at_T37 HR0.out x5_1 p122 q122; obtain rfl : ad117 = ad122 := (by injection e122); have HR122_9 := zqi hi122_9; have HC122_9 := zqi hl122_9; clear hi122_9 hl122_9; replace p122 := eq_true p122; replace q122 := eq_true q122; have ea_ := Option.some.inj (hx117_9.symm.trans hx122_9); injection ea_ with ea_ en_ ec_; subst ea_; subst ec_; clear en_; have p123 : 0 ≤ (x5_1 : Int) := of_decide_eq_true (by first | (with_reducible assumption) | assumption); have q123 : x5_1 < (l1.length : Int) := of_decide_eq_true (by first | (with_reducible assumption) | assumption); obtain ⟨ad123, A123_9, c123_9, e123, hx123_0, hx123_1, hx123_2, hx123_3, hx123_4, hx123_5, hx123_6, hx123_7, hx123_8, hx123_9, hl123_9, hi123_9⟩ := at_T37 HR1.out x5_1 p123 q123; obtain rfl : ad118 = ad123 := (by injection e123); have HR123_9 := zqi hi123_9; have HC123_9 := zqi hl123_9; clear hi123_9 hl123_9; replace p123 := eq_true p123; replace q123 := eq_true q123; have ea_ := Option.some.inj (hx118_9.symm.trans hx123_9); injection ea_ with ea_ en_ ec_; subst ea_; subst ec_; clear en_)))
          go_roundg k1
          case measure => have := HK1.out; omega
          case rel => exact ⟨(wrap64 (x5_1 + 1)), (by first | rfl | (simp; done) | (simp [*]; done)), H', ⟨by have := HK1.out; omega⟩, by repeat (first | exact Drawn0.refl _ | apply Drawn0.step)⟩
         ·
          rw [if_neg c10] at H
          have c10b0 : (((rd_T37 l0 x5_1).f1) == ((rd_T37 l1 x5_1).f1)) = false := beq_eq_false_iff_ne.mpr c10
          have c10b1 : (((rd_T37 l0 x5_1).f1) != ((rd_T37 l1 x5_1).f1)) = true := bne_iff_ne.mpr c10
          obtain rfl := Option.some.inj H
          have p117 : 0 ≤ (x5_1 : Int) := of_decide_eq_true (by first | (with_reducible assumption) | assumption)
          have q117 : x5_1 < (l0.length : Int) := of_decide_eq_true (by first | (with_reducible assumption) | assumption)
          obtain ⟨ad117, A117_9, c117_9, e117, hx117_0, hx117_1, hx117_2, hx117_3, hx117_4, hx117_5, hx117_6, hx117_7, hx117_8, hx117_9, hl117_9, hi117_9⟩ := at_T37 HR0.out x5_1 p117 q117
          cases e117
          have HR117_9 := zqi hi117_9
          have HC117_9 := zqi hl117_9
          clear hi117_9 hl117_9
          replace p117 := eq_true p117
          replace q117 := eq_true q117
          have p118 : 0 ≤ (x5_1 : Int) := of_decide_eq_true (by first | (with_reducible assumption) | assumption)
          have q118 : x5_1 < (l1.length : Int) := of_decide_eq_true (by first | (with_reducible assumption) | assumption)
          obtain ⟨ad118, A118_9, c118_9, e118, hx118_0, hx118_1, hx118_2, hx118_3, hx118_4, hx118_5, hx118_6, hx118_7, hx118_8, hx118_9, hl118_9, hi118_9⟩ := at_T37 HR1.out x5_1 p118 q118
          cases e118
          have HR118_9 := zqi hi118_9
          have HC118_9 := zqi hl118_9
          clear hi118_9 hl118_9
          replace p118 := eq_true p118
          replace q118 := eq_true q118
          go_wp2_with (first | (go_at_call 30; (with_reducible refine (haulierref02_Same.calls k1 _ _ ((rd_T37 l0 x5_1).f2) _ _ ((rd_T37 l1 x5_1).f2) true _ ?side1 ?side2 ?side3 ?side4 A7.out).mono ?_); (case side1 => repeat (first | exact HR117_9.out | (with_reducible refine Kd.C_alloc ?_ _) | (with_reducible refine Kd.C_drewN ?_ _) | (with_reducible refine Kd.C_drew ?_))); (case side2 => exact HC117_9.out); (case side3 => repeat (first | exact HR118_9.out | (with_reducible refine Kd.C_alloc ?_ _) | (with_reducible refine Kd.C_drewN ?_ _) | (with_reducible refine Kd.C_drew ?_))); (case side4 => exact HC118_9.out); rintro e w' ⟨rfl, ⟨nd, rfl⟩⟩; (try first | exact ⟨rfl, _, zqj⟩ | exact ⟨rfl, _, Eq.trans (zqj) (congrArg (World.drewN _) (Nat.add_assoc _ _ _))⟩); have p120 : 0 ≤ (x5_1 : Int) := of_decide_eq_true (by first | (with_reducible assumption) | assumption); have q120 : x5_1 < (l0.length : Int) := of_decide_eq_true (by first | (with_reducible assumption) | assumption); obtain ⟨ad120, A120_9, c120_9, e120, hx120_0, hx120_1, hx120_2, hx120_3, hx120_4, hx120_5, hx120_6, hx120_7, hx120_8, hx120_9, hl120_9, hi120_9⟩ := at_T37 HR0.out x5_1 p120 q120; obtain rfl : ad117 = ad120 := (by injection e120); have HR120_9 := zqi hi120_9; have HC120_9 := zqi hl120_9; clear hi120_9 hl120_9; replace p120 := eq_true p120; replace q120 := eq_true q120; have ea_ := Option.some.inj (hx117_9.symm.trans hx120_9); injection ea_ with ea_ en_ ec_; subst ea_; subst ec_; clear en_; have p121 : 0 ≤ (x5_1 : Int) := of_decide_eq_true (by first | (with_reducible assumption) | assumption); have q121 : x5_1 < (l1.length : Int) := of_decide_eq_true (by first | (with_reducible assumption) | assumption); obtain ⟨ad121, A121_9, c121_9, e121, hx121_0, hx121_1, hx121_2, hx121_3, hx121_4, hx121_5, hx121_6, hx121_7, hx121_8, hx121_9, hl121_9, hi121_9⟩ := at_T37 HR1.out x5_1 p121 q121; obtain rfl : ad118 = ad121 := (by injection e121); have HR121_9 := zqi hi121_9; have HC121_9 := zqi hl121_9; clear hi121_9 hl121_9; replace p121 := eq_true p121; replace q121 := eq_true q121; have ea_ := Option.some.inj (hx118_9.symm.trans hx121_9); injection ea_ with ea_ en_ ec_; subst ea_; subst ec_; clear en_; have p122 : 0 ≤ (x5_1 : Int) := of_decide_eq_true (by first | (with_reducible assumption) | assumption); have q122 : x5_1 < (l0.length : Int) := of_decide_eq_true (by first | (with_reducible assumption) | assumption); obtain ⟨ad122, A122_9, c122_9, e122, hx122_0, hx122_1, hx122_2, hx122_3, hx122_4, hx122_5, hx122_6, hx122_7, hx122_8, hx122_9, hl122_9, hi122_9⟩ := at_T37 HR0.out x5_1 p122 q122; obtain rfl : ad117 = ad122 := (by injection e122); have HR122_9 := zqi hi122_9; have HC122_9 := zqi hl122_9; clear hi122_9 hl122_9; replace p122 := eq_true p122; replace q122 := eq_true q122; have ea_ := Option.some.inj (hx117_9.symm.trans hx122_9); injection ea_ with ea_ en_ ec_; subst ea_; subst ec_; clear en_; have p123 : 0 ≤ (x5_1 : Int) := of_decide_eq_true (by first | (with_reducible assumption) | assumption); have q123 : x5_1 < (l1.length : Int) := of_decide_eq_true (by first | (with_reducible assumption) | assumption); obtain ⟨ad123, A123_9, c123_9, e123, hx123_0, hx123_1, hx123_2, hx123_3, hx123_4, hx123_5, hx123_6, hx123_7, hx123_8, hx123_9, hl123_9, hi123_9⟩ := at_T37 HR1.out x5_1 p123 q123; obtain rfl : ad118 = ad123 := (by injection e123); have HR123_9 := zqi hi123_9; have HC123_9 := zqi hl123_9; clear hi123_9 hl123_9; replace p123 := eq_true p123; replace q123 := eq_true q123; have ea_ := Option.some.inj (hx118_9.symm.trans hx123_9); injection ea_ with ea_ en_ ec_; subst ea_; subst ec_; clear en_))
          repeat (go_quiet (first | (go_at_call 30; (with_reducible refine (haulierref02_Same.calls k1 _ _ ((rd_T37 l0 x5_1).f2) _ _ ((rd_T37 l1 x5_1).f2) true _ ?side1 ?side2 ?side3 ?side4 A7.out).mono ?_); (case side1 => repeat (first | exact HR117_9.out | (with_reducible refine Kd.C_alloc ?_ _) | (with_reducible refine Kd.C_drewN ?_ _) | (with_reducible refine Kd.C_drew ?_))); (case side2 => exact HC117_9.out); (case side3 => repeat (first | exact HR118_9.out | (with_reducible refine Kd.C_alloc ?_ _) | (with_reducible refine Kd.C_drewN ?_ _) | (with_reducible refine Kd.C_drew ?_))); (case side4 => exact HC118_9.out); rintro e w' ⟨rfl, ⟨nd, rfl⟩⟩; (try first | exact ⟨rfl, _, zqj⟩ | exact ⟨rfl, _, Eq.trans (zqj) (congrArg (World.drewN _) (Nat.add_assoc _ _ _))⟩); have p120 : 0 ≤ (x5_1 : Int) := of_decide_eq_true (by first | (with_reducible assumption) | assumption); have q120 : x5_1 < (l0.length : Int) := of_decide_eq_true (by first | (with_reducible assumption) | assumption); obtain ⟨ad120, A120_9, c120_9, e120, hx120_0, hx120_1, hx120_2, hx120_3, hx120_4, hx120_5, hx120_6, hx120_7, hx120_8, hx120_9, hl120_9, hi120_9⟩ := at_T37 HR0.out x5_1 p120 q120; obtain rfl : ad117 = ad120 := (by injection e120); have HR120_9 := zqi hi120_9; have HC120_9 := zqi hl120_9; clear hi120_9 hl120_9; replace p120 := eq_true p120; replace q120 := eq_true q120; have ea_ := Option.some.inj (hx117_9.symm.trans hx120_9); injection ea_ with ea_ en_ ec_; subst ea_; subst ec_; clear en_; have p121 : 0 ≤ (x5_1 : Int) := of_decide_eq_true (by first | (with_reducible assumption) | assumption); have q121 : x5_1 < (l1.length : Int) := of_decide_eq_true (by first | (with_reducible assumption) | assumption); obtain ⟨ad121, A121_9, c121_9, e121, hx121_0, hx121_1, hx121_2, hx121_3, hx121_4, hx121_5, hx121_6, hx121_7, hx121_8, hx121_9, hl121_9, hi121_9⟩ := at_T37 HR1.out x5_1 p121 q121; obtain rfl : ad118 = ad121 := (by injection e121); have HR121_9 := zqi hi121_9; have HC121_9 := zqi hl121_9; clear hi121_9 hl121_9; replace p121 := eq_true p121; replace q121 := eq_true q121; have ea_ := Option.some.inj (hx118_9.symm.trans hx121_9); injection ea_ with ea_ en_ ec_; subst ea_; subst ec_; clear en_; have p122 : 0 ≤ (x5_1 : Int) := of_decide_eq_true (by first | (with_reducible assumption) | assumption); have q122 : x5_1 < (l0.length : Int) := of_decide_eq_true (by first | (with_reducible assumption) | assumption); obtain ⟨ad122, A122_9, c122_9, e122, hx122_0, hx122_1, hx122_2, hx122_3, hx122_4, hx122_5, hx122_6, hx122_7, hx122_8, hx122_9, hl122_9, hi122_9⟩ := at_T37 HR0.out x5_1 p122 q122; obtain rfl : ad117 = ad122 := (by injection e122); have HR122_9 := zqi hi122_9; have HC122_9 := zqi hl122_9; clear hi122_9 hl122_9; replace p122 := eq_true p122; replace q122 := eq_true q122; have ea_ := Option.some.inj (hx117_9.symm.trans hx122_9); injection ea_ with ea_ en_ ec_; subst ea_; subst ec_; clear en_; have p123 : 0 ≤ (x5_1 : Int) := of_decide_eq_true (by first | (with_reducible assumption) | assumption); have q123 : x5_1 < (l1.length : Int) := of_decide_eq_true (by first | (with_reducible assumption) | assumption); obtain ⟨ad123, A123_9, c123_9, e123, hx123_0, hx123_1, hx123_2, hx123_3, hx123_4, hx123_5, hx123_6, hx123_7, hx123_8, hx123_9, hl123_9, hi123_9⟩ := at_T37 HR1.out x5_1 p123 q123; obtain rfl : ad118 = ad123 := (by injection e123); have HR123_9 := zqi hi123_9; have HC123_9 := zqi hl123_9; clear hi123_9 hl123_9; replace p123 := eq_true p123; replace q123 := eq_true q123; have ea_ := Option.some.inj (hx118_9.symm.trans hx123_9); injection ea_ with ea_ en_ ec_; subst ea_; subst ec_; clear en_)); try go_wp2_with (first | (go_at_call 30; (with_reducible refine (haulierref02_Same.calls k1 _ _ ((rd_T37 l0 x5_1).f2) _ _ ((rd_T37 l1 x5_1).f2) true _ ?side1 ?side2 ?side3 ?side4 A7.out).mono ?_); (case side1 => repeat (first | exact HR117_9.out | (with_reducible refine Kd.C_alloc ?_ _) | (with_reducible refine Kd.C_drewN ?_ _) | (with_reducible refine Kd.C_drew ?_))); (case side2 => exact HC117_9.out); (case side3 => repeat (first | exact HR118_9.out | (with_reducible refine Kd.C_alloc ?_ _) | (with_reducible refine Kd.C_drewN ?_ _) | (with_reducible refine Kd.C_drew ?_))); (case side4 => exact HC118_9.out); rintro e w' ⟨rfl, ⟨nd, rfl⟩⟩; (try first | exact ⟨rfl, _, zqj⟩ | exact ⟨rfl, _, Eq.trans (zqj) (congrArg (World.drewN _) (Nat.add_assoc _ _ _))⟩); have p120 : 0 ≤ (x5_1 : Int) := of_decide_eq_true (by first | (with_reducible assumption) | assumption); have q120 : x5_1 < (l0.length : Int) := of_decide_eq_true (by first | (with_reducible assumption) | assumption); obtain ⟨ad120, A120_9, c120_9, e120, hx120_0, hx120_1, hx120_2, hx120_3, hx120_4, hx120_5, hx120_6, hx120_7, hx120_8, hx120_9, hl120_9, hi120_9⟩ := at_T37 HR0.out x5_1 p120 q120; obtain rfl : ad117 = ad120 := (by injection e120); have HR120_9 := zqi hi120_9; have HC120_9 := zqi hl120_9; clear hi120_9 hl120_9; replace p120 := eq_true p120; replace q120 := eq_true q120; have ea_ := Option.some.inj (hx117_9.symm.trans hx120_9); injection ea_ with ea_ en_ ec_; subst ea_; subst ec_; clear en_; have p121 : 0 ≤ (x5_1 : Int) := of_decide_eq_true (by first | (with_reducible assumption) | assumption); have q121 : x5_1 < (l1.length : Int) := of_decide_eq_true (by first | (with_reducible assumption) | assumption); obtain ⟨ad121, A121_9, c121_9, e121, hx121_0, hx121_1, hx121_2, hx121_3, hx121_4, hx121_5, hx121_6, hx121_7, hx121_8, hx121_9, hl121_9, hi121_9⟩ := at_T37 HR1.out x5_1 p121 q121; obtain rfl : ad118 = ad121 := (by injection e121); have HR121_9 := zqi hi121_9; have HC121_9 := zqi hl121_9; clear hi121_9 hl121_9; replace p121 := eq_true p121; replace q121 := eq_true q121; have ea_ := Option.some.inj (hx118_9.symm.trans hx121_9); injection ea_ with ea_ en_ ec_; subst ea_; subst ec_; clear en_; have p122 : 0 ≤ (x5_1 : Int) := of_decide_eq_true (by first | (with_reducible assumption) | assumption); have q122 : x5_1 < (l0.length : Int) := of_decide_eq_true (by first | (with_reducible assumption) | assumption); obtain ⟨ad122, A122_9, c122_9, e122, hx122_0, hx122_1, hx122_2, hx122_3, hx122_4, hx122_5, hx122_6, hx122_7, hx122_8, hx122_9, hl122_9, hi122_9⟩ := at_T37 HR0.out x5_1 p122 q122; obtain rfl : ad117 = ad122 := (by injection e122); have HR122_9 := zqi hi122_9; have HC122_9 := zqi hl122_9; clear hi122_9 hl122_9; replace p122 := eq_true p122; replace q122 := eq_true q122; have ea_ := Option.some.inj (hx117_9.symm.trans hx122_9); injection ea_ with ea_ en_ ec_; subst ea_; subst ec_; clear en_; have p123 : 0 ≤ (x5_1 : Int) := of_decide_eq_true (by first | (with_reducible assumption) | assumption); have q123 : x5_1 < (l1.length : Int) := of_decide_eq_true (by first | (with_reducible assumption) | assumption); obtain ⟨ad123, A123_9, c123_9, e123, hx123_0, hx123_1, hx123_2, hx123_3, hx123_4, hx123_5, hx123_6, hx123_7, hx123_8, hx123_9, hl123_9, hi123_9⟩ := at_T37 HR1.out x5_1 p123 q123; obtain rfl : ad118 = ad123 := (by injection e123); have HR123_9 := zqi hi123_9; have HC123_9 := zqi hl123_9; clear hi123_9 hl123_9; replace p123 := eq_true p123; replace q123 := eq_true q123; have ea_ := Option.some.inj (hx118_9.symm.trans hx123_9); injection ea_ with ea_ en_ ec_; subst ea_; subst ec_; clear en_)))
          go_ret
          exact ⟨by first | rfl | (simp; done) | (simp [*]; done), by repeat (first | exact Drawn0.refl _ | apply Drawn0.step)⟩
       ·
        replace c8 := Bool.eq_false_iff.mpr c8
        subst c8
        have H1 : (some false) = some r := by rw [if_neg (show ¬ (false = true) by decide)] at H; exact H
        clear H
        have H := H1
        clear H1
        obtain rfl := Option.some.inj H
        have p117 : 0 ≤ (x5_1 : Int) := of_decide_eq_true (by first | (with_reducible assumption) | assumption)
        have q117 : x5_1 < (l0.length : Int) := of_decide_eq_true (by first | (with_reducible assumption) | assumption)
        obtain ⟨ad117, A117_9, c117_9, e117, hx117_0, hx117_1, hx117_2, hx117_3, hx117_4, hx117_5, hx117_6, hx117_7, hx117_8, hx117_9, hl117_9, hi117_9⟩ := at_T37 HR0.out x5_1 p117 q117
        cases e117
        have HR117_9 := zqi hi117_9
        have HC117_9 := zqi hl117_9
        clear hi117_9 hl117_9
        replace p117 := eq_true p117
        replace q117 := eq_true q117
        have p118 : 0 ≤ (x5_1 : Int) := of_decide_eq_true (by first | (with_reducible assumption) | assumption)
        have q118 : x5_1 < (l1.length : Int) := of_decide_eq_true (by first | (with_reducible assumption) | assumption)
        obtain ⟨ad118, A118_9, c118_9, e118, hx118_0, hx118_1, hx118_2, hx118_3, hx118_4, hx118_5, hx118_6, hx118_7, hx118_8, hx118_9, hl118_9, hi118_9⟩ := at_T37 HR1.out x5_1 p118 q118
        cases e118
        have HR118_9 := zqi hi118_9
        have HC118_9 := zqi hl118_9
        clear hi118_9 hl118_9
        replace p118 := eq_true p118
        replace q118 := eq_true q118
        go_wp2_with (first | (go_at_call 30; (with_reducible refine (haulierref02_Same.calls k1 _ _ ((rd_T37 l0 x5_1).f2) _ _ ((rd_T37 l1 x5_1).f2) false _ ?side1 ?side2 ?side3 ?side4 A7.out).mono ?_); (case side1 => repeat (first | exact HR117_9.out | (with_reducible refine Kd.C_alloc ?_ _) | (with_reducible refine Kd.C_drewN ?_ _) | (with_reducible refine Kd.C_drew ?_))); (case side2 => exact HC117_9.out); (case side3 => repeat (first | exact HR118_9.out | (with_reducible refine Kd.C_alloc ?_ _) | (with_reducible refine Kd.C_drewN ?_ _) | (with_reducible refine Kd.C_drew ?_))); (case side4 => exact HC118_9.out); rintro e w' ⟨rfl, ⟨nd, rfl⟩⟩; (try first | exact ⟨rfl, _, zqj⟩ | exact ⟨rfl, _, Eq.trans (zqj) (congrArg (World.drewN _) (Nat.add_assoc _ _ _))⟩)))
        repeat (go_quiet (first | (go_at_call 30; (with_reducible refine (haulierref02_Same.calls k1 _ _ ((rd_T37 l0 x5_1).f2) _ _ ((rd_T37 l1 x5_1).f2) false _ ?side1 ?side2 ?side3 ?side4 A7.out).mono ?_); (case side1 => repeat (first | exact HR117_9.out | (with_reducible refine Kd.C_alloc ?_ _) | (with_reducible refine Kd.C_drewN ?_ _) | (with_reducible refine Kd.C_drew ?_))); (case side2 => exact HC117_9.out); (case side3 => repeat (first | exact HR118_9.out | (with_reducible refine Kd.C_alloc ?_ _) | (with_reducible refine Kd.C_drewN ?_ _) | (with_reducible refine Kd.C_drew ?_))); (case side4 => exact HC118_9.out); rintro e w' ⟨rfl, ⟨nd, rfl⟩⟩; (try first | exact ⟨rfl, _, zqj⟩ | exact ⟨rfl, _, Eq.trans (zqj) (congrArg (World.drewN _) (Nat.add_assoc _ _ _))⟩))); try go_wp2_with (first | (go_at_call 30; (with_reducible refine (haulierref02_Same.calls k1 _ _ ((rd_T37 l0 x5_1).f2) _ _ ((rd_T37 l1 x5_1).f2) false _ ?side1 ?side2 ?side3 ?side4 A7.out).mono ?_); (case side1 => repeat (first | exact HR117_9.out | (with_reducible refine Kd.C_alloc ?_ _) | (with_reducible refine Kd.C_drewN ?_ _) | (with_reducible refine Kd.C_drew ?_))); (case side2 => exact HC117_9.out); (case side3 => repeat (first | exact HR118_9.out | (with_reducible refine Kd.C_alloc ?_ _) | (with_reducible refine Kd.C_drewN ?_ _) | (with_reducible refine Kd.C_drew ?_))); (case side4 => exact HC118_9.out); rintro e w' ⟨rfl, ⟨nd, rfl⟩⟩; (try first | exact ⟨rfl, _, zqj⟩ | exact ⟨rfl, _, Eq.trans (zqj) (congrArg (World.drewN _) (Nat.add_assoc _ _ _))⟩))))
        go_ret
        exact ⟨by first | rfl | (simp; done) | (simp [*]; done), by repeat (first | exact Drawn0.refl _ | apply Drawn0.step)⟩
      ·
       rw [if_neg c6] at H
       exact absurd H (by simp)
     ·
      rw [if_neg c5] at H
      exact absurd H (by simp)
    ·
     rw [if_neg c4] at H
     have c4b0 : decide (x5_1 < (l0.length : Int)) = false := decide_eq_false c4
     clear c4
     obtain rfl := Option.some.inj H
     go_wp2
     repeat (go_quiet (fail); try go_wp2)
     go_ret
     exact ⟨by first | rfl | (simp; done) | (simp [*]; done), by repeat (first | exact Drawn0.refl _ | apply Drawn0.step)⟩
 ·
  rw [if_neg c3] at H
  have c3b0 : ((l0.length : Int) == (l1.length : Int)) = false := beq_eq_false_iff_ne.mpr c3
  have c3b1 : ((l0.length : Int) != (l1.length : Int)) = true := bne_iff_ne.mpr c3
  have c3b2 : (l0.length == l1.length) = false := by first | simpa using c3 | (simp at c3 ⊢; omega)
  obtain rfl := Option.some.inj H
  go_enter Try.func18, Try.ntmps18
  go_wp2
  repeat (go_quiet (fail); try go_wp2)
  go_ret
  exact ⟨by first | rfl | (simp; done) | (simp [*]; done), by repeat (first | exact Drawn0.refl _ | apply Drawn0.step)⟩

/-! ### haulierref02_one: function 41 -/
mutual
def haulierref02_one.j0 : Nat → Int → Bool → Option (Int)
  | 0, _, _ => none
  | k + 1, x0, x10 => if x10 = true then (some 0) else (haulierref02_one.l0 k x0 1 0)
def haulierref02_one.l0 : Nat → Int → Int → Int → Option (Int)
  | 0, _, _, _ => none
  | k + 1, x0, x3, x4 => if x4 < x0 then (haulierref02_one.l0 k x0 (IntKind.u64.wrap (x3 * 2)) (wrap64 (x4 + 1))) else (some x3)
end
def haulierref02_one.f (k : Nat) (a0 : Int) : Option (Int) := if a0 < 0 then (haulierref02_one.j0 k a0 true) else (haulierref02_one.j0 k a0 (decide (a0 > 63)))
theorem haulierref02_one.mono_l : ∀ k, (∀ y0 y1, LeO (haulierref02_one.j0 k y0 y1) (haulierref02_one.j0 (k + 1) y0 y1)) ∧ (∀ y0 y1 y2, LeO (haulierref02_one.l0 k y0 y1 y2) (haulierref02_one.l0 (k + 1) y0 y1 y2))
  | 0 => ⟨fun _ _ r h => by simp [haulierref02_one.j0] at h, fun _ _ _ r h => by simp [haulierref02_one.l0] at h⟩
  | k + 1 => by
    obtain ⟨ih0, ih1⟩ := haulierref02_one.mono_l k
    refine ⟨?_, ?_⟩
    · intro y0 y1
      unfold haulierref02_one.j0
      repeat' first
      | (with_reducible exact ih0 _ _)
      | (with_reducible exact ih1 _ _ _)
      | (with_reducible exact LeO.refl _)
      | (with_reducible exact LeO.none _)
      | (with_reducible refine LeO.ite ?_ ?_)
      | (with_reducible refine LeO.bind ?_ (fun _ => ?_))
      | exact ih0 _ _
      | exact ih1 _ _ _
      | exact LeO.none _
      | refine LeO.ite ?_ ?_
      | refine LeO.bind ?_ (fun _ => ?_)
    · intro y0 y1 y2
      unfold haulierref02_one.l0
      repeat' first
      | (with_reducible exact ih0 _ _)
      | (with_reducible exact ih1 _ _ _)
      | (with_reducible exact LeO.refl _)
      | (with_reducible exact LeO.none _)
      | (with_reducible refine LeO.ite ?_ ?_)
      | (with_reducible refine LeO.bind ?_ (fun _ => ?_))
      | exact ih0 _ _
      | exact ih1 _ _ _
      | exact LeO.none _
      | refine LeO.ite ?_ ?_
      | refine LeO.bind ?_ (fun _ => ?_)
theorem haulierref02_one.mono : ∀ a0 k, LeO (haulierref02_one.f k a0) (haulierref02_one.f (k + 1) a0) := by
  intro a0 k
  obtain ⟨ih0, ih1⟩ := haulierref02_one.mono_l k
  unfold haulierref02_one.f
  repeat' first
      | (with_reducible exact ih0 _ _)
      | (with_reducible exact ih1 _ _ _)
      | (with_reducible exact LeO.refl _)
      | (with_reducible exact LeO.none _)
      | (with_reducible refine LeO.ite ?_ ?_)
      | (with_reducible refine LeO.bind ?_ (fun _ => ?_))
      | exact ih0 _ _
      | exact ih1 _ _ _
      | exact LeO.none _
      | refine LeO.ite ?_ ?_
      | refine LeO.bind ?_ (fun _ => ?_)
set_option maxHeartbeats 8000000 in
set_option maxRecDepth 100000 in
theorem haulierref02_one.calls (k : Nat) (a0 : Int) (r : Int) (w : World) (h : haulierref02_one.f k a0 = some r) :
    Calls Try.prog 41 #[.int .i64 a0] w fun e w' => e = .returned (.int .u64 r) ∧ Drawn0 w w' := by
  have H : (if a0 < 0 then (haulierref02_one.j0 k a0 true) else (haulierref02_one.j0 k a0 (decide (a0 > 63)))) = some r := h
  clear h
  have HC2 := Aside0.mk H
  clear H
  go_enter Try.func41, Try.ntmps41
  go_upto_region 1 with (fail)
  go_cut [10] (fun v10 wc => ∃ (kq : Nat) (x10_1 : Bool), v10 = .bool x10_1 ∧ Aside0 (haulierref02_one.j0 kq a0 x10_1 = some r) ∧ Aside0 (kq ≤ k) ∧ Drawn0 w wc)
  case first =>
    have H := HC2.out
    clear HC2
    by_cases c3 : a0 < 0
    · rw [if_pos c3] at H
      have c3b0 : decide (a0 < 0) = true := decide_eq_true c3
      clear c3
      (first | rw [c3b0] | (simp only [i64_w, i32_w]; rw [c3b0]) | skip)
      have H' := Aside0.mk H
      clear H
      go_wp2
      go_meet
      case rel => exact ⟨_, (true), (by first | rfl | (simp; done) | (simp [*]; done)), H', ⟨by first | omega | exact Nat.le_refl _⟩, by repeat (first | exact Drawn0.refl _ | apply Drawn0.step)⟩
    · rw [if_neg c3] at H
      have c3b0 : decide (a0 < 0) = false := decide_eq_false c3
      clear c3
      (first | rw [c3b0] | (simp only [i64_w, i32_w]; rw [c3b0]) | skip)
      have H' := Aside0.mk H
      clear H
      go_wp2
      go_meet
      case rel => exact ⟨_, (decide (a0 > 63)), (by first | rfl | (simp; done) | (simp [*]; done)), H', ⟨by first | omega | exact Nat.le_refl _⟩, by repeat (first | exact Drawn0.refl _ | apply Drawn0.step)⟩
  case rest =>
    clear HC2
    try clear p2
    try clear c3
    try clear c3b0
    obtain ⟨kq, x10_1, rfl, HA, HJ1, ⟨mc1, rfl⟩⟩ := hcut
    cases kq with
    | zero => exact absurd HA.out (by simp [haulierref02_one.j0])
    | succ kj1 =>
      have H := HA.out
      clear HA
      simp only [haulierref02_one.j0] at H
      by_cases c4 : x10_1 = true
      · subst c4
        have H1 : (some 0) = some r := by rw [if_pos rfl] at H; exact H
        clear H
        have H := H1
        clear H1
        obtain rfl := Option.some.inj H
        go_wp2
        go_ret
        exact ⟨by first | rfl | (simp; done) | (simp [*]; done), by repeat (first | exact Drawn0.refl _ | apply Drawn0.step)⟩
      · replace c4 := Bool.eq_false_iff.mpr c4
        subst c4
        have H1 : (haulierref02_one.l0 kj1 a0 1 0) = some r := by rw [if_neg (show ¬ (false = true) by decide)] at H; exact H
        clear H
        have H := H1
        clear H1
        have H' := Aside0.mk H
        clear H
        go_wp2
        go_loopg [3, 4] kj1 (fun kq v3 v4 w' => ∃ (x3_2 : Int) (x4_2 : Int), v3 = .int .u64 x3_2 ∧ v4 = .int .i64 x4_2 ∧ Aside0 (haulierref02_one.l0 kq a0 x3_2 x4_2 = some r) ∧ Aside0 (kq ≤ kj1) ∧ Drawn0 w w')
        case atStart => exact ⟨(1), (0), (by first | rfl | (simp; done) | (simp [*]; done)), (by first | rfl | (simp; done) | (simp [*]; done)), H', ⟨Nat.le_refl _⟩, by repeat (first | exact Drawn0.refl _ | apply Drawn0.step)⟩
        case round =>
          clear H'
          try clear c1
          try clear p2
          try clear c3
          try clear c3b0
          try clear c4
          try clear p2
          obtain ⟨x3_2, x4_2, rfl, rfl, HA, HK2, ⟨m2, rfl⟩⟩ := hrel
          cases gk with
          | zero => exact absurd HA.out (by simp [haulierref02_one.l0])
          | succ k2 =>
            have H := HA.out
            clear HA
            simp only [haulierref02_one.l0] at H
            by_cases c5 : x4_2 < a0
            · rw [if_pos c5] at H
              have c5b0 : decide (x4_2 < a0) = true := decide_eq_true c5
              clear c5
              have H' := Aside0.mk H
              clear H
              go_wp2
              go_roundg k2
              case measure => have := HJ1.out; have := HK2.out; omega
              case rel => exact ⟨(IntKind.u64.wrap (x3_2 * 2)), (wrap64 (x4_2 + 1)), (by first | rfl | (simp; done) | (simp [*]; done)), (by first | rfl | (simp; done) | (simp [*]; done)), H', ⟨by have := HJ1.out; have := HK2.out; omega⟩, by repeat (first | exact Drawn0.refl _ | apply Drawn0.step)⟩
            · rw [if_neg c5] at H
              have c5b0 : decide (x4_2 < a0) = false := decide_eq_false c5
              clear c5
              obtain rfl := Option.some.inj H
              go_wp2
              go_ret
              exact ⟨by first | rfl | (simp; done) | (simp [*]; done), by repeat (first | exact Drawn0.refl _ | apply Drawn0.step)⟩

/-! ### haulierref02_Has: function 37 -/
def haulierref02_Has.f (k : Nat) (a0 : Int) (a1 : Int) : Option (Bool) := (haulierref02_one.f k a1).bind fun t124 => (if t124 > 0 then (if t124 = 0 then (none) else (some ((Int.tmod (IntKind.u64.wrap (Int.tdiv a0 t124)) 2) == 1))) else (some false))
theorem haulierref02_Has.mono : ∀ a0 a1 k, LeO (haulierref02_Has.f k a0 a1) (haulierref02_Has.f (k + 1) a0 a1) := by
  intro a0 a1 k
  unfold haulierref02_Has.f
  repeat' first
      | (with_reducible exact haulierref02_one.mono _ _)
      | (with_reducible exact LeO.refl _)
      | (with_reducible exact LeO.none _)
      | (with_reducible refine LeO.ite ?_ ?_)
      | (with_reducible refine LeO.bind ?_ (fun _ => ?_))
      | exact haulierref02_one.mono _ _
      | exact LeO.none _
      | refine LeO.ite ?_ ?_
      | refine LeO.bind ?_ (fun _ => ?_)
set_option maxHeartbeats 8000000 in
set_option maxRecDepth 100000 in
theorem haulierref02_Has.calls (k : Nat) (a0 : Int) (a1 : Int) (r : Bool) (w : World) (h : haulierref02_Has.f k a0 a1 = some r) :
    Calls Try.prog 37 #[.int .u64 a0, .int .i64 a1] w fun e w' => e = .returned (.bool r) ∧ Drawn0 w w' := by
  have H : ((haulierref02_one.f k a1).bind fun t124 => (if t124 > 0 then (if t124 = 0 then (none) else (some ((Int.tmod (IntKind.u64.wrap (Int.tdiv a0 t124)) 2) == 1))) else (some false))) = some r := h
  clear h
  replace H := Option.bind_eq_some_iff.mp H
  obtain ⟨t124, A30, H⟩ := H
  replace H : (if t124 > 0 then (if t124 = 0 then (none) else (some ((Int.tmod (IntKind.u64.wrap (Int.tdiv a0 t124)) 2) == 1))) else (some false)) = some r := H
  have A3 := Aside0.mk A30
  clear A30
  by_cases c4 : t124 > 0
  · rw [if_pos c4] at H
    have c4b0 : decide (0 < t124) = true := decide_eq_true c4
    clear c4
    by_cases c5 : t124 = 0
    · rw [if_pos c5] at H
      exact absurd H (by simp)
    · rw [if_neg c5] at H
      have c5b0 : (t124 == 0) = false := beq_eq_false_iff_ne.mpr c5
      have c5b1 : (t124 != 0) = true := bne_iff_ne.mpr c5
      obtain rfl := Option.some.inj H
      go_enter Try.func37, Try.ntmps37
      go_wp2_with (first | ((with_reducible refine gate_callee (f := 41) rfl ?_); refine goesL_ (some 7) rfl rfl Try.func41 (by kernel_rfl) rfl #[.int .i64 a1] rfl (by (try simp only [List.map_toArray, List.map_cons, List.map_nil]); first | done | rfl | (simp only [List.length_drop, List.length_take]; rfl)) ?_; (with_reducible refine (haulierref02_one.calls k a1 t124 _ A3.out).mono ?_); rintro e w' ⟨rfl, ⟨nd, rfl⟩⟩; refine ⟨_, rfl, ?_⟩))
      go_ret
      exact ⟨by first | rfl | (simp; done) | (simp [*]; done), by repeat (first | exact Drawn0.refl _ | apply Drawn0.step)⟩
  · rw [if_neg c4] at H
    have c4b0 : decide (0 < t124) = false := decide_eq_false c4
    clear c4
    obtain rfl := Option.some.inj H
    go_enter Try.func37, Try.ntmps37
    go_wp2_with (first | ((with_reducible refine gate_callee (f := 41) rfl ?_); refine goesL_ (some 7) rfl rfl Try.func41 (by kernel_rfl) rfl #[.int .i64 a1] rfl (by (try simp only [List.map_toArray, List.map_cons, List.map_nil]); first | done | rfl | (simp only [List.length_drop, List.length_take]; rfl)) ?_; (with_reducible refine (haulierref02_one.calls k a1 t124 _ A3.out).mono ?_); rintro e w' ⟨rfl, ⟨nd, rfl⟩⟩; refine ⟨_, rfl, ?_⟩))
    go_ret
    exact ⟨by first | rfl | (simp; done) | (simp [*]; done), by repeat (first | exact Drawn0.refl _ | apply Drawn0.step)⟩

end Go.Proofs.Ytkcdpnigcbcalaa.PB
