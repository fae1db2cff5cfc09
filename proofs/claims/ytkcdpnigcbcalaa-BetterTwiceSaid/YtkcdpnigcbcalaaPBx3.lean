-- Printed for this claim by wip/tools/xprint.py over the kit's print; the contracts marked BY HAND are this session's own.
import Derived.Test.YtkcdpnigcbcalaaPBx0
import Derived.Test.YtkcdpnigcbcalaaPBx1
import Derived.Test.YtkcdpnigcbcalaaPBx2
namespace Go.Proofs.Ytkcdpnigcbcalaa.PB
open Go.RowKit Go.Proofs.YtkcdpnigcbcalaaW.PrintWords Go.Proofs.YtkcdpnigcbcalaaW.PrintLast Go.Proofs.YtkcdpnigcbcalaaW.PrintMore
attribute [local go_sem] max2_int min2_int max_two min_two max_three min_three max_four min_four   -- for this text's walks alone
set_option linter.unusedVariables false
set_option linter.unusedSimpArgs false

attribute [local go_sem high] eqA24
/-! ### haulierref13_Same: function 18 -/
def haulierref13_Same.l0 : Nat → List (S37) → List (S37) → Int → Option (Bool)
  | 0, _, _, _ => none
  | k + 1, x0, x1, x5 => if x5 < (x0.length : Int) then (if 0 ≤ x5 then (if x5 < (x1.length : Int) then ((haulierref02_Same.f k ((rd_T37 x0 x5).f2) ((rd_T37 x1 x5).f2)).bind fun t110 => (if t110 = true then (if (!(((rd_T37 x0 x5).f0.f0) == ((rd_T37 x1 x5).f0.f0)) || (!(((rd_T37 x0 x5).f0.f1) == ((rd_T37 x1 x5).f0.f1)) || (!(((rd_T37 x0 x5).f0.f2) == ((rd_T37 x1 x5).f0.f2)) || (!(((rd_T37 x0 x5).f0.f3) == ((rd_T37 x1 x5).f0.f3)) || (!(((rd_T37 x0 x5).f0.f4) == ((rd_T37 x1 x5).f0.f4)) || (!(((rd_T37 x0 x5).f0.f5) == ((rd_T37 x1 x5).f0.f5)) || (!(((rd_T37 x0 x5).f0.f6) == ((rd_T37 x1 x5).f0.f6)) || (!(((rd_T37 x0 x5).f0.f7) == ((rd_T37 x1 x5).f0.f7)))))))))) = true then (some false) else (if ((rd_T37 x0 x5).f1) = ((rd_T37 x1 x5).f1) then (haulierref13_Same.l0 k x0 x1 (wrap64 (x5 + 1))) else (some false))) else (some false))) else (none)) else (none)) else (some true)
def haulierref13_Same.f (k : Nat) (l0 : List (S37)) (l1 : List (S37)) : Option (Bool) := if (l0.length : Int) = (l1.length : Int) then (haulierref13_Same.l0 k l0 l1 0) else (some false)
theorem haulierref13_Same.mono_l : ∀ k, (∀ y0 y1 y2, LeO (haulierref13_Same.l0 k y0 y1 y2) (haulierref13_Same.l0 (k + 1) y0 y1 y2))
  | 0 => fun _ _ _ r h => by simp [haulierref13_Same.l0] at h
  | k + 1 => by
    have ih0 := haulierref13_Same.mono_l k
    · intro y0 y1 y2
      unfold haulierref13_Same.l0
      repeat' first
      | (with_reducible exact ih0 _ _ _)
      | (with_reducible exact haulierref02_Same.mono _ _ _)
      | (with_reducible exact LeO.refl _)
      | (with_reducible exact LeO.none _)
      | (with_reducible refine LeO.ite ?_ ?_)
      | (with_reducible refine LeO.bind ?_ (fun _ => ?_))
      | exact ih0 _ _ _
      | exact haulierref02_Same.mono _ _ _
      | exact LeO.none _
      | refine LeO.ite ?_ ?_
      | refine LeO.bind ?_ (fun _ => ?_)
theorem haulierref13_Same.mono : ∀ a0 a1 k, LeO (haulierref13_Same.f k a0 a1) (haulierref13_Same.f (k + 1) a0 a1) := by
  intro a0 a1 k
  have ih0 := haulierref13_Same.mono_l k
  unfold haulierref13_Same.f
  repeat' first
      | (with_reducible exact ih0 _ _ _)
      | (with_reducible exact haulierref02_Same.mono _ _ _)
      | (with_reducible exact LeO.refl _)
      | (with_reducible exact LeO.none _)
      | (with_reducible refine LeO.ite ?_ ?_)
      | (with_reducible refine LeO.bind ?_ (fun _ => ?_))
      | exact ih0 _ _ _
      | exact haulierref02_Same.mono _ _ _
      | exact LeO.none _
      | refine LeO.ite ?_ ?_
      | refine LeO.bind ?_ (fun _ => ?_)
set_option maxHeartbeats 16000000 in
set_option maxRecDepth 100000 in
theorem haulierref13_Same.calls (k : Nat) (A0 : Option Addr) (c0 : Nat) (l0 : List (S37)) (A1 : Option Addr) (c1 : Nat) (l1 : List (S37)) (r : Bool) (w : World) (hr0 : Kd.C k37 w A0 l0.length l0) (hc0 : l0.length ≤ c0) (hr1 : Kd.C k37 w A1 l1.length l1) (hc1 : l1.length ≤ c1) (h : haulierref13_Same.f k l0 l1 = some r) :
  Calls Try.prog 18 #[.slice A0 l0.length c0, .slice A1 l1.length c1] w fun e w' => e = .returned (.bool r) ∧ Drawn0 w w' := by
 have hu24 := Try.underlying24
 have HR0 := zqi hr0
 have HC0 := zqi hc0
 clear hr0 hc0
 have HR1 := zqi hr1
 have HC1 := zqi hc1
 clear hr1 hc1
 have H : (if (l0.length : Int) = (l1.length : Int) then (haulierref13_Same.l0 k l0 l1 0) else (some false)) = some r := h
 clear h
 by_cases c3 : (l0.length : Int) = (l1.length : Int)
 ·
  rw [if_pos c3] at H
  have c3b0 : ((l0.length : Int) == (l1.length : Int)) = true := beq_iff_eq.mpr c3
  have c3b1 : ((l0.length : Int) != (l1.length : Int)) = false := bne_eq_false_iff_eq.mpr c3
  have c3b2 : (l0.length == l1.length) = true := by first | simpa using c3 | (simp at c3 ⊢; omega)
  clear c3
  have H' := zqi H
  clear H
  go_enter Try.func18, Try.ntmps18
  go_wp2
  repeat (go_quiet (fail); try go_wp2)
  go_loopg [5] k (fun kq v5 w' => ∃ (x5_1 : Int), v5 = .int .i64 x5_1 ∧ Aside0 (haulierref13_Same.l0 kq l0 l1 x5_1 = some r) ∧ Aside0 (kq ≤ k) ∧ Drawn0 w w')
  case atStart => exact ⟨(0), (by first | rfl | (simp; done) | (simp [*]; done)), H', ⟨Nat.le_refl _⟩, by repeat (first | exact Drawn0.refl _ | apply Drawn0.step)⟩
  case round =>
   clear H'
   try clear c1
   try clear p2
   try clear c3
   try clear c3b0
   try clear c3b1
   try clear c3b2
   obtain ⟨x5_1, rfl, HA, HK1, ⟨m1, rfl⟩⟩ := hrel
   cases gk with
   | zero => exact absurd HA.out (by simp [haulierref13_Same.l0])
   | succ k1 =>
    have H := HA.out
    clear HA
    simp only [haulierref13_Same.l0] at H
    by_cases c4 : x5_1 < (l0.length : Int)
    ·
     rw [if_pos c4] at H
     have c4b0 : decide (x5_1 < (l0.length : Int)) = true := decide_eq_true c4
     clear c4
     by_cases c5 : 0 ≤ x5_1
     ·
      rw [if_pos c5] at H
      have c5b0 : decide (0 ≤ x5_1) = true := decide_eq_true c5
      clear c5
      by_cases c6 : x5_1 < (l1.length : Int)
      ·
       rw [if_pos c6] at H
       have c6b0 : decide (x5_1 < (l1.length : Int)) = true := decide_eq_true c6
       clear c6
       replace H := Option.bind_eq_some_iff.mp H
       obtain ⟨t110, A70, H⟩ := H
       replace H : (if t110 = true then (if (!(((rd_T37 l0 x5_1).f0.f0) == ((rd_T37 l1 x5_1).f0.f0)) || (!(((rd_T37 l0 x5_1).f0.f1) == ((rd_T37 l1 x5_1).f0.f1)) || (!(((rd_T37 l0 x5_1).f0.f2) == ((rd_T37 l1 x5_1).f0.f2)) || (!(((rd_T37 l0 x5_1).f0.f3) == ((rd_T37 l1 x5_1).f0.f3)) || (!(((rd_T37 l0 x5_1).f0.f4) == ((rd_T37 l1 x5_1).f0.f4)) || (!(((rd_T37 l0 x5_1).f0.f5) == ((rd_T37 l1 x5_1).f0.f5)) || (!(((rd_T37 l0 x5_1).f0.f6) == ((rd_T37 l1 x5_1).f0.f6)) || (!(((rd_T37 l0 x5_1).f0.f7) == ((rd_T37 l1 x5_1).f0.f7)))))))))) = true then (some false) else (if ((rd_T37 l0 x5_1).f1) = ((rd_T37 l1 x5_1).f1) then (haulierref13_Same.l0 k1 l0 l1 (wrap64 (x5_1 + 1))) else (some false))) else (some false)) = some r := H
       have A7 := zqi A70
       clear A70
       by_cases c8 : t110 = true
       ·
        subst c8
        have H1 : (if (!(((rd_T37 l0 x5_1).f0.f0) == ((rd_T37 l1 x5_1).f0.f0)) || (!(((rd_T37 l0 x5_1).f0.f1) == ((rd_T37 l1 x5_1).f0.f1)) || (!(((rd_T37 l0 x5_1).f0.f2) == ((rd_T37 l1 x5_1).f0.f2)) || (!(((rd_T37 l0 x5_1).f0.f3) == ((rd_T37 l1 x5_1).f0.f3)) || (!(((rd_T37 l0 x5_1).f0.f4) == ((rd_T37 l1 x5_1).f0.f4)) || (!(((rd_T37 l0 x5_1).f0.f5) == ((rd_T37 l1 x5_1).f0.f5)) || (!(((rd_T37 l0 x5_1).f0.f6) == ((rd_T37 l1 x5_1).f0.f6)) || (!(((rd_T37 l0 x5_1).f0.f7) == ((rd_T37 l1 x5_1).f0.f7)))))))))) = true then (some false) else (if ((rd_T37 l0 x5_1).f1) = ((rd_T37 l1 x5_1).f1) then (haulierref13_Same.l0 k1 l0 l1 (wrap64 (x5_1 + 1))) else (some false))) = some r := by rw [if_pos rfl] at H; exact H
        clear H
        have H := H1
        clear H1
        by_cases c9 : (!(((rd_T37 l0 x5_1).f0.f0) == ((rd_T37 l1 x5_1).f0.f0)) || (!(((rd_T37 l0 x5_1).f0.f1) == ((rd_T37 l1 x5_1).f0.f1)) || (!(((rd_T37 l0 x5_1).f0.f2) == ((rd_T37 l1 x5_1).f0.f2)) || (!(((rd_T37 l0 x5_1).f0.f3) == ((rd_T37 l1 x5_1).f0.f3)) || (!(((rd_T37 l0 x5_1).f0.f4) == ((rd_T37 l1 x5_1).f0.f4)) || (!(((rd_T37 l0 x5_1).f0.f5) == ((rd_T37 l1 x5_1).f0.f5)) || (!(((rd_T37 l0 x5_1).f0.f6) == ((rd_T37 l1 x5_1).f0.f6)) || (!(((rd_T37 l0 x5_1).f0.f7) == ((rd_T37 l1 x5_1).f0.f7)))))))))) = true
        ·
         rw [if_pos c9] at H
         have c9b0 : (!(((rd_T37 l0 x5_1).f0.f0) == ((rd_T37 l1 x5_1).f0.f0)) || (!(((rd_T37 l0 x5_1).f0.f1) == ((rd_T37 l1 x5_1).f0.f1)) || (!(((rd_T37 l0 x5_1).f0.f2) == ((rd_T37 l1 x5_1).f0.f2)) || (!(((rd_T37 l0 x5_1).f0.f3) == ((rd_T37 l1 x5_1).f0.f3)) || (!(((rd_T37 l0 x5_1).f0.f4) == ((rd_T37 l1 x5_1).f0.f4)) || (!(((rd_T37 l0 x5_1).f0.f5) == ((rd_T37 l1 x5_1).f0.f5)) || (!(((rd_T37 l0 x5_1).f0.f6) == ((rd_T37 l1 x5_1).f0.f6)) || (!(((rd_T37 l0 x5_1).f0.f7) == ((rd_T37 l1 x5_1).f0.f7)))))))))) = true := c9
         clear c9
         obtain rfl := Option.some.inj H
         have p108 : 0 ≤ (x5_1 : Int) := of_decide_eq_true (by first | (with_reducible assumption) | assumption)
         have q108 : x5_1 < (l0.length : Int) := of_decide_eq_true (by first | (with_reducible assumption) | assumption)
         obtain ⟨ad108, A108_9, c108_9, e108, hx108_0, hx108_1, hx108_2, hx108_3, hx108_4, hx108_5, hx108_6, hx108_7, hx108_8, hx108_9, hl108_9, hi108_9⟩ := at_T37 HR0.out x5_1 p108 q108
         cases e108
         have HR108_9 := zqi hi108_9
         have HC108_9 := zqi hl108_9
         clear hi108_9 hl108_9
         replace p108 := eq_true p108
         replace q108 := eq_true q108
         have p109 : 0 ≤ (x5_1 : Int) := of_decide_eq_true (by first | (with_reducible assumption) | assumption)
         have q109 : x5_1 < (l1.length : Int) := of_decide_eq_true (by first | (with_reducible assumption) | assumption)
         obtain ⟨ad109, A109_9, c109_9, e109, hx109_0, hx109_1, hx109_2, hx109_3, hx109_4, hx109_5, hx109_6, hx109_7, hx109_8, hx109_9, hl109_9, hi109_9⟩ := at_T37 HR1.out x5_1 p109 q109
         cases e109
         have HR109_9 := zqi hi109_9
         have HC109_9 := zqi hl109_9
         clear hi109_9 hl109_9
         replace p109 := eq_true p109
         replace q109 := eq_true q109
         go_wp2_with (first | (go_at_call 30; (with_reducible refine (haulierref02_Same.calls k1 _ _ ((rd_T37 l0 x5_1).f2) _ _ ((rd_T37 l1 x5_1).f2) true _ ?side1 ?side2 ?side3 ?side4 A7.out).mono ?_); (case side1 => repeat (first | exact HR108_9.out | (with_reducible refine Kd.C_alloc ?_ _) | (with_reducible refine Kd.C_drewN ?_ _) | (with_reducible refine Kd.C_drew ?_))); (case side2 => exact HC108_9.out); (case side3 => repeat (first | exact HR109_9.out | (with_reducible refine Kd.C_alloc ?_ _) | (with_reducible refine Kd.C_drewN ?_ _) | (with_reducible refine Kd.C_drew ?_))); (case side4 => exact HC109_9.out); rintro e w' ⟨rfl, ⟨nd, rfl⟩⟩; (try first | exact ⟨rfl, _, zqj⟩ | exact ⟨rfl, _, Eq.trans (zqj) (congrArg (World.drewN _) (Nat.add_assoc _ _ _))⟩); have p111 : 0 ≤ (x5_1 : Int) := of_decide_eq_true (by first | (with_reducible assumption) | assumption); have q111 : x5_1 < (l0.length : Int) := of_decide_eq_true (by first | (with_reducible assumption) | assumption); obtain ⟨ad111, A111_9, c111_9, e111, hx111_0, hx111_1, hx111_2, hx111_3, hx111_4, hx111_5, hx111_6, hx111_7, hx111_8, hx111_9, hl111_9, hi111_9⟩ := at_T37 HR0.out x5_1 p111 q111; obtain rfl : ad108 = ad111 := (by injection e111); have HR111_9 := zqi hi111_9; have HC111_9 := zqi hl111_9; clear hi111_9 hl111_9; replace p111 := eq_true p111; replace q111 := eq_true q111; have ea_ := Option.some.inj (hx108_9.symm.trans hx111_9); injection ea_ with ea_ en_ ec_; subst ea_; subst ec_; clear en_; have p112 : 0 ≤ (x5_1 : Int) := of_decide_eq_true (by first | (with_reducible assumption) | assumption); have q112 : x5_1 < (l1.length : Int) := of_decide_eq_true (by first | (with_reducible assumption) | assumption); obtain ⟨ad112, A112_9, c112_9, e112, hx112_0, hx112_1, hx112_2, hx112_3, hx112_4, hx112_5, hx112_6, hx112_7, hx112_8, hx112_9, hl112_9, hi112_9⟩ := at_T37 HR1.out x5_1 p112 q112; obtain rfl : ad109 = ad112 := (by injection e112); have HR112_9 := zqi hi112_9; have HC112_9 := zqi hl112_9; clear hi112_9 hl112_9; replace p112 := eq_true p112; replace q112 := eq_true q112; have ea_ := Option.some.inj (hx109_9.symm.trans hx112_9); injection ea_ with ea_ en_ ec_; subst ea_; subst ec_; clear en_))
         repeat (go_quiet (first | (go_at_call 30; (with_reducible refine (haulierref02_Same.calls k1 _ _ ((rd_T37 l0 x5_1).f2) _ _ ((rd_T37 l1 x5_1).f2) true _ ?side1 ?side2 ?side3 ?side4 A7.out).mono ?_); (case side1 => repeat (first | exact HR108_9.out | (with_reducible refine Kd.C_alloc ?_ _) | (with_reducible refine Kd.C_drewN ?_ _) | (with_reducible refine Kd.C_drew ?_))); (case side2 => exact HC108_9.out); (case side3 => repeat (first | exact HR109_9.out | (with_reducible refine Kd.C_alloc ?_ _) | (with_reducible refine Kd.C_drewN ?_ _) | (with_reducible refine Kd.C_drew ?_))); (case side4 => exact HC109_9.out); rintro e w' ⟨rfl, ⟨nd, rfl⟩⟩; (try first | exact ⟨rfl, _, zqj⟩ | exact ⟨rfl, _, Eq.trans (zqj) (congrArg (World.drewN _) (Nat.add_assoc _ _ _))⟩); have p111 : 0 ≤ (x5_1 : Int) := of_decide_eq_true (by first | (with_reducible assumption) | assumption); have q111 : x5_1 < (l0.length : Int) := of_decide_eq_true (by first | (with_reducible assumption) | assumption); obtain ⟨ad111, A111_9, c111_9, e111, hx111_0, hx111_1, hx111_2, hx111_3, hx111_4, hx111_5, hx111_6, hx111_7, hx111_8, hx111_9, hl111_9, hi111_9⟩ := at_T37 HR0.out x5_1 p111 q111; obtain rfl : ad108 = ad111 := (by injection e111); have HR111_9 := zqi hi111_9; have HC111_9 := zqi hl111_9; clear hi111_9 hl111_9; replace p111 := eq_true p111; replace q111 := eq_true q111; have ea_ := Option.some.inj (hx108_9.symm.trans hx111_9); injection ea_ with ea_ en_ ec_; subst ea_; subst ec_; clear en_; have p112 : 0 ≤ (x5_1 : Int) := of_decide_eq_true (by first | (with_reducible assumption) | assumption); have q112 : x5_1 < (l1.length : Int) := of_decide_eq_true (by first | (with_reducible assumption) | assumption); obtain ⟨ad112, A112_9, c112_9, e112, hx112_0, hx112_1, hx112_2, hx112_3, hx112_4, hx112_5, hx112_6, hx112_7, hx112_8, hx112_9, hl112_9, hi112_9⟩ := at_T37 HR1.out x5_1 p112 q112; obtain rfl : ad109 = ad112 := (by injection e112); have HR112_9 := zqi hi112_9; have HC112_9 := zqi hl112_9; clear hi112_9 hl112_9; replace p112 := eq_true p112; replace q112 := eq_true q112; have ea_ := Option.some.inj (hx109_9.symm.trans hx112_9); injection ea_ with ea_ en_ ec_; subst ea_; subst ec_; clear en_)); try go_wp2_with (first | (go_at_call 30; (with_reducible refine (haulierref02_Same.calls k1 _ _ ((rd_T37 l0 x5_1).f2) _ _ ((rd_T37 l1 x5_1).f2) true _ ?side1 ?side2 ?side3 ?side4 A7.out).mono ?_); (case side1 => repeat (first | exact HR108_9.out | (with_reducible refine Kd.C_alloc ?_ _) | (with_reducible refine Kd.C_drewN ?_ _) | (with_reducible refine Kd.C_drew ?_))); (case side2 => exact HC108_9.out); (case side3 => repeat (first | exact HR109_9.out | (with_reducible refine Kd.C_alloc ?_ _) | (with_reducible refine Kd.C_drewN ?_ _) | (with_reducible refine Kd.C_drew ?_))); (case side4 => exact HC109_9.out); rintro e w' ⟨rfl, ⟨nd, rfl⟩⟩; (try first | exact ⟨rfl, _, zqj⟩ | exact ⟨rfl, _, Eq.trans (zqj) (congrArg (World.drewN _) (Nat.add_assoc _ _ _))⟩); have p111 : 0 ≤ (x5_1 : Int) := of_decide_eq_true (by first | (with_reducible assumption) | assumption); have q111 : x5_1 < (l0.length : Int) := of_decide_eq_true (by first | (with_reducible assumption) | assumption); obtain ⟨ad111, A111_9, c111_9, e111, hx111_0, hx111_1, hx111_2, hx111_3, hx111_4, hx111_5, hx111_6, hx111_7, hx111_8, hx111_9, hl111_9, hi111_9⟩ := at_T37 HR0.out x5_1 p111 q111; obtain rfl : ad108 = ad111 := (by injection e111); have HR111_9 := zqi hi111_9; have HC111_9 := zqi hl111_9; clear hi111_9 hl111_9; replace p111 := eq_true p111; replace q111 := eq_true q111; have ea_ := Option.some.inj (hx108_9.symm.trans hx111_9); injection ea_ with ea_ en_ ec_; subst ea_; subst ec_; clear en_; have p112 : 0 ≤ (x5_1 : Int) := of_decide_eq_true (by first | (with_reducible assumption) | assumption); have q112 : x5_1 < (l1.length : Int) := of_decide_eq_true (by first | (with_reducible assumption) | assumption); obtain ⟨ad112, A112_9, c112_9, e112, hx112_0, hx112_1, hx112_2, hx112_3, hx112_4, hx112_5, hx112_6, hx112_7, hx112_8, hx112_9, hl112_9, hi112_9⟩ := at_T37 HR1.out x5_1 p112 q112; obtain rfl : ad109 = ad112 := (by injection e112); have HR112_9 := zqi hi112_9; have HC112_9 := zqi hl112_9; clear hi112_9 hl112_9; replace p112 := eq_true p112; replace q112 := eq_true q112; have ea_ := Option.some.inj (hx109_9.symm.trans hx112_9); injection ea_ with ea_ en_ ec_; subst ea_; subst ec_; clear en_)))
         go_ret
         exact ⟨by first | rfl | (simp; done) | (simp [*]; done), by repeat (first | exact Drawn0.refl _ | apply Drawn0.step)⟩
        ·
         rw [if_neg c9] at H
         have c9b0 : (!(((rd_T37 l0 x5_1).f0.f0) == ((rd_T37 l1 x5_1).f0.f0)) || (!(((rd_T37 l0 x5_1).f0.f1) == ((rd_T37 l1 x5_1).f0.f1)) || (!(((rd_T37 l0 x5_1).f0.f2) == ((rd_T37 l1 x5_1).f0.f2)) || (!(((rd_T37 l0 x5_1).f0.f3) == ((rd_T37 l1 x5_1).f0.f3)) || (!(((rd_T37 l0 x5_1).f0.f4) == ((rd_T37 l1 x5_1).f0.f4)) || (!(((rd_T37 l0 x5_1).f0.f5) == ((rd_T37 l1 x5_1).f0.f5)) || (!(((rd_T37 l0 x5_1).f0.f6) == ((rd_T37 l1 x5_1).f0.f6)) || (!(((rd_T37 l0 x5_1).f0.f7) == ((rd_T37 l1 x5_1).f0.f7)))))))))) = false := by simpa using c9
         clear c9
         by_cases c10 : ((rd_T37 l0 x5_1).f1) = ((rd_T37 l1 x5_1).f1)
         ·
          rw [if_pos c10] at H
          have c10b0 : (((rd_T37 l0 x5_1).f1) == ((rd_T37 l1 x5_1).f1)) = true := beq_iff_eq.mpr c10
          have c10b1 : (((rd_T37 l0 x5_1).f1) != ((rd_T37 l1 x5_1).f1)) = false := bne_eq_false_iff_eq.mpr c10
          clear c10
          have H' := zqi H
          clear H
          have p108 : 0 ≤ (x5_1 : Int) := of_decide_eq_true (by first | (with_reducible assumption) | assumption)
          have q108 : x5_1 < (l0.length : Int) := of_decide_eq_true (by first | (with_reducible assumption) | assumption)
          obtain ⟨ad108, A108_9, c108_9, e108, hx108_0, hx108_1, hx108_2, hx108_3, hx108_4, hx108_5, hx108_6, hx108_7, hx108_8, hx108_9, hl108_9, hi108_9⟩ := at_T37 HR0.out x5_1 p108 q108
          cases e108
          have HR108_9 := zqi hi108_9
          have HC108_9 := zqi hl108_9
          clear hi108_9 hl108_9
          replace p108 := eq_true p108
          replace q108 := eq_true q108
          have p109 : 0 ≤ (x5_1 : Int) := of_decide_eq_true (by first | (with_reducible assumption) | assumption)
          have q109 : x5_1 < (l1.length : Int) := of_decide_eq_true (by first | (with_reducible assumption) | assumption)
          obtain ⟨ad109, A109_9, c109_9, e109, hx109_0, hx109_1, hx109_2, hx109_3, hx109_4, hx109_5, hx109_6, hx109_7, hx109_8, hx109_9, hl109_9, hi109_9⟩ := at_T37 HR1.out x5_1 p109 q109
          cases e109
          have HR109_9 := zqi hi109_9
          have HC109_9 := zqi hl109_9
          clear hi109_9 hl109_9
          replace p109 := eq_true p109
          replace q109 := eq_true q109
          go_wp2_with (first | (go_at_call 30; (with_reducible refine (haulierref02_Same.calls k1 _ _ ((rd_T37 l0 x5_1).f2) _ _ ((rd_T37 l1 x5_1).f2) true _ ?side1 ?side2 ?side3 ?side4 A7.out).mono ?_); (case side1 => repeat (first | exact HR108_9.out | (with_reducible refine Kd.C_alloc ?_ _) | (with_reducible refine Kd.C_drewN ?_ _) | (with_reducible refine Kd.C_drew ?_))); (case side2 => exact HC108_9.out); (case side3 => repeat (first | exact HR109_9.out | (with_reducible refine Kd.C_alloc ?_ _) | (with_reducible refine Kd.C_drewN ?_ _) | (with_reducible refine Kd.C_drew ?_))); (case side4 => exact HC109_9.out); rintro e w' ⟨rfl, ⟨nd, rfl⟩⟩; (try first | exact ⟨rfl, _, zqj⟩ | exact ⟨rfl, _, Eq.trans (zqj) (congrArg (World.drewN _) (Nat.add_assoc _ _ _))⟩); have p111 : 0 ≤ (x5_1 : Int) := of_decide_eq_true (by first | (with_reducible assumption) | assumption); have q111 : x5_1 < (l0.length : Int) := of_decide_eq_true (by first | (with_reducible assumption) | assumption); obtain ⟨ad111, A111_9, c111_9, e111, hx111_0, hx111_1, hx111_2, hx111_3, hx111_4, hx111_5, hx111_6, hx111_7, hx111_8, hx111_9, hl111_9, hi111_9⟩ := at_T37 HR0.out x5_1 p111 q111; obtain rfl : ad108 = ad111 := (by injection e111); have HR111_9 := zqi hi111_9; have HC111_9 := zqi hl111_9; clear hi111_9 hl111_9; replace p111 := eq_true p111; replace q111 := eq_true q111; have ea_ := Option.some.inj (hx108_9.symm.trans hx111_9); injection ea_ with ea_ en_ ec_; subst ea_; subst ec_; clear en_; have p112 : 0 ≤ (x5_1 : Int) := of_decide_eq_true (by first | (with_reducible assumption) | assumption); have q112 : x5_1 < (l1.length : Int) := of_decide_eq_true (by first | (with_reducible assumption) | assumption); obtain ⟨ad112, A112_9, c112_9, e112, hx112_0, hx112_1, hx112_2, hx112_3, hx112_4, hx112_5, hx112_6, hx112_7, hx112_8, hx112_9, hl112_9, hi112_9⟩ := at_T37 HR1.out x5_1 p112 q112; obtain rfl : ad109 = ad112 := (by injection e112); have HR112_9 := zqi hi112_9; have HC112_9 := zqi hl112_9; clear hi112_9 hl112_9; replace p112 := eq_true p112; replace q112 := eq_true q112; have ea_ := Option.some.inj (hx109_9.symm.trans hx112_9); injection ea_ with ea_ en_ ec_; subst ea_; subst ec_; clear en_; have p113 : 0 ≤ (x5_1 : Int) := of_decide_eq_true (by first | (with_reducible assumption) | assumption); have q113 : x5_1 < (l0.length : Int) := of_decide_eq_true (by first | (with_reducible assumption) | assumption); obtain ⟨ad113, A113_9, c113_9, e113, hx113_0, hx113_1, hx113_2, hx113_3, hx113_4, hx113_5, hx113_6, hx113_7, hx113_8, hx113_9, hl113_9, hi113_9⟩ := at_T37 HR0.out x5_1 p113 q113; obtain rfl : ad108 = ad113 := (by injection e113); have HR113_9 := zqi hi113_9; have HC113_9 := zqi hl113_9; clear hi113_9 hl113_9; replace p113 := eq_true p113; replace q113 := eq_true q113; have ea_ := Option.some.inj (hx108_9.symm.trans hx113_9); injection ea_ with ea_ en_ ec_; subst ea_; subst ec_; clear en_; have p114 : 0 ≤ (x5_1 : Int) := of_decide_eq_true (by first | (with_reducible assumption) | assumption); have q114 : x5_1 < (l1.length : Int) := of_decide_eq_true (by first | (with_reducible assumption) | assumption); obtain ⟨ad114, A114_9, c114_9, e114, hx114_0, hx114_1, hx114_2, hx114_3, hx114_4, hx114_5, hx114_6, hx114_7, hx114_8, hx114_9, hl114_9, hi114_9⟩ := at_T37 HR1.out x5_1 p114 q114; obtain rfl : ad109 = ad114 := (by injection e114); have HR114_9 := zqi hi114_9; have HC114_9 := zqi hl114_9; clear hi114_9 hl114_9; replace p114 := eq_true p114; replace q114 := eq_true q114; have ea_ := Option.some.inj (hx109_9.symm.trans hx114_9); injection ea_ with ea_ en_ ec_; subst ea_; subst ec_; clear en_))
          repeat (go_quiet (first | (go_at_call 30; (with_reducible refine (haulierref02_Same.calls k1 _ _ ((rd_T37 l0 x5_1).f2) _ _ ((rd_T37 l1 x5_1).f2) true _ ?side1 ?side2 ?side3 ?side4 A7.out).mono ?_); (case side1 => repeat (first | exact HR108_9.out | (with_reducible refine Kd.C_alloc ?_ _) | (with_reducible refine Kd.C_drewN ?_ _) | (with_reducible refine Kd.C_drew ?_))); (case side2 => exact HC108_9.out); (case side3 => repeat (first | exact HR109_9.out | (with_reducible refine Kd.C_alloc ?_ _) | (with_reducible refine Kd.C_drewN ?_ _) | (with_reducible refine Kd.C_drew ?_))); (case side4 => exact HC109_9.out); rintro e w' ⟨rfl, ⟨nd, rfl⟩⟩; (try first | exact ⟨rfl, _, zqj⟩ | exact ⟨rfl, _, Eq.trans (zqj) (congrArg (World.drewN _) (Nat.add_assoc _ _ _))⟩); have p111 : 0 ≤ (x5_1 : Int) := of_decide_eq_true (by first | (with_reducible assumption) | assumption); have q111 : x5_1 < (l0.length : Int) := of_decide_eq_true (by first | (with_reducible assumption) | assumption); obtain ⟨ad111, A111_9, c111_9, e111, hx111_0, hx111_1, hx111_2, hx111_3, hx111_4, hx111_5, hx111_6, hx111_7, hx111_8, hx111_9, hl111_9, hi111_9⟩ := at_T37 HR0.out x5_1 p111 q111; obtain rfl : ad108 = ad111 := (by injection e111); have HR111_9 := zqi hi111_9; have HC111_9 := zqi hl111_9; clear hi111_9 hl111_9; replace p111 := eq_true p111; replace q111 := eq_true q111; have ea_ := Option.some.inj (hx108_9.symm.trans hx111_9); injection ea_ with ea_ en_ ec_; subst ea_; subst ec_; clear en_; have p112 : 0 ≤ (x5_1 : Int) := of_decide_eq_true (by first | (with_reducible assumption) | assumption); have q112 : x5_1 < (l1.length : Int) := of_decide_eq_true (by first | (with_reducible assumption) | assumption); obtain ⟨ad112, A112_9, c112_9, e112, hx112_0, hx112_1, hx112_2, hx112_3, hx112_4, hx112_5, hx112_6, hx112_7, hx112_8, hx112_9, hl112_9, hi112_9⟩ := at_T37 HR1.out x5_1 p112 q112; obtain rfl : ad109 = ad112 := (by injection e112); have HR112_9 := zqi hi112_9; have HC112_9 := zqi hl112_9; clear hi112_9 hl112_9; replace p112 := eq_true p112; replace q112 := eq_true q112; have ea_ := Option.some.inj (hx109_9.symm.trans hx112_9); injection ea_ with ea_ en_ ec_; subst ea_; subst ec_; clear en_; have p113 : 0 ≤ (x5_1 : Int) := of_decide_eq_true (by first | (with_reducible assumption) | assumption); have q113 : x5_1 < (l0.length : Int) := of_decide_eq_true (by first | (with_reducible assumption) | assumption); obtain ⟨ad113, A113_9, c113_9, e113, hx113_0, hx113_1, hx113_2, hx113_3, hx113_4, hx113_5, hx113_6, hx113_7, hx113_8, hx113_9, hl113_9, hi113_9⟩ := at_T37 HR0.out x5_1 p113 q113; obtain rfl : ad108 = ad113 := (by injection e113); have HR113_9 := zqi hi113_9; have HC113_9 := zqi hl113_9; clear hi113_9 hl113_9; replace p113 := eq_true p113; replace q113 := eq_true q113; have ea_ := Option.some.inj (hx108_9.symm.trans hx113_9); injection ea_ with ea_ en_ ec_; subst ea_; subst ec_; clear en_; have p114 : 0 ≤ (x5_1 : Int) := of_decide_eq_true (by first | (with_reducible assumption) | assumption); have q114 : x5_1 < (l1.length : Int) := of_decide_eq_true (by first | (with_reducible assumption) | assumption); obtain ⟨ad114, A114_9, c114_9, e114, hx114_0, hx114_1, hx114_2, hx114_3, hx114_4, hx114_5, hx114_6, hx114_7, hx114_8, hx114_9, hl114_9, hi114_9⟩ := at_T37 HR1.out x5_1 p114 q114; obtain rfl : ad109 = ad114 := (by injection e114); have HR114_9 := zqi hi114_9; have HC114_9 := zqi hl114_9; clear hi114_9 hl114_9; replace p114 := eq_true p114; replace q114 := eq_true q114; have ea_ := Option.some.inj (hx109_9.symm.trans hx114_9); injection ea_ with ea_ en_ ec_; subst ea_; subst ec_; clear en_)); try go_wp2_with (first | (go_at_call 30; (with_reducible refine (haulierref02_Same.calls k1 _ _ ((rd_T37 l0 x5_1).f2) _ _ ((rd_T37 l1 x5_1).f2) true _ ?side1 ?side2 ?side3 ?side4 A7.out).mono ?_); (case side1 => repeat (first | exact HR108_9.out | (with_reducible refine Kd.C_alloc ?_ _) | (with_reducible refine Kd.C_drewN ?_ _) | (with_reducible refine Kd.C_drew ?_))); (case side2 => exact HC108_9.out); (case side3 => repeat (first | exact HR109_9.out | (with_reducible refine Kd.C_alloc ?_ _) | (with_reducible refine Kd.C_drewN ?_ _) | (with_reducible refine Kd.C_drew ?_))); (case side4 => exact HC109_9.out); rintro e w' ⟨rfl, ⟨nd, rfl⟩⟩; (try first | exact ⟨rfl, _, zqj⟩ | exact ⟨rfl, _, Eq.trans (zqj) (congrArg (World.drewN _) (Nat.add_assoc _ _ _))⟩); have p111 : 0 ≤ (x5_1 : Int) := of_decide_eq_true (by first | (with_reducible assumption) | assumption); have q111 : x5_1 < (l0.length : Int) := of_decide_eq_true (by first | (with_reducible assumption) | assumption); obtain ⟨ad111, A111_9, c111_9, e111, hx111_0, hx111_1, hx111_2, hx111_3, hx111_4, hx111_5, hx111_6, hx111_7, hx111_8, hx111_9, hl111_9, hi111_9⟩ := at_T37 HR0.out x5_1 p111 q111; obtain rfl : ad108 = ad111 := (by injection e111); have HR111_9 := zqi hi111_9; have HC111_9 := zqi hl111_9; clear hi111_9 hl111_9; replace p111 := eq_true p111; replace q111 := eq_true q111; have ea_ := Option.some.inj (hx108_9.symm.trans hx111_9); injection ea_ with ea_ en_ ec_; subst ea_; subst ec_; clear en_; have p112 : 0 ≤ (x5_1 : Int) := of_decide_eq_true (by first | (with_reducible assumption) | assumption); have q112 : x5_1 < (l1.length : Int) := of_decide_eq_true (by first | (with_reducible assumption) | assumption); obtain ⟨ad112, A112_9, c112_9, e112, hx112_0, hx112_1, hx112_2, hx112_3, hx112_4, hx112_5, hx112_6, hx112_7, hx112_8, hx112_9, hl112_9, hi112_9⟩ := at_T37 HR1.out x5_1 p112 q112; obtain rfl : ad109 = ad112 := (by injection e112); have HR112_9 := zqi hi112_9; have HC112_9 := zqi hl112_9; clear hi112_9 hl112_9; replace p112 := eq_true p112; replace q112 := eq_true q112; have ea_ := Option.some.inj (hx109_9.symm.trans hx112_9); injection ea_ with ea_ en_ ec_; subst ea_; subst ec_; clear en_; have p113 : 0 ≤ (x5_1 : Int) := of_decide_eq_true (by first | (with_reducible assumption) | assumption); have q113 : x5_1 < (l0.length : Int) := of_decide_eq_true (by first | (with_reducible assumption) | assumption); obtain ⟨ad113, A113_9, c113_9, e113, hx113_0, hx113_1, hx113_2, hx113_3, hx113_4, hx113_5, hx113_6, hx113_7, hx113_8, hx113_9, hl113_9, hi113_9⟩ := at_T37 HR0.out x5_1 p113 q113; obtain rfl : ad108 = ad113 := (by injection e113); have HR113_9 := zqi hi113_9; have HC113_9 := zqi hl113_9; clear hi113_9 hl113_9; replace p113 := eq_true p113; replace q113 := eq_true q113; have ea_ := Option.some.inj (hx108_9.symm.trans hx113_9); injection ea_ with ea_ en_ ec_; subst ea_; subst ec_; clear en_; have p114 : 0 ≤ (x5_1 : Int) := of_decide_eq_true (by first | (with_reducible assumption) | assumption); have q114 : x5_1 < (l1.length : Int) := of_decide_eq_true (by first | (with_reducible assumption) | assumption); obtain ⟨ad114, A114_9, c114_9, e114, hx114_0, hx114_1, hx114_2, hx114_3, hx114_4, hx114_5, hx114_6, hx114_7, hx114_8, hx114_9, hl114_9, hi114_9⟩ := at_T37 HR1.out x5_1 p114 q114; obtain rfl : ad109 = ad114 := (by injection e114); have HR114_9 := zqi hi114_9; have HC114_9 := zqi hl114_9; clear hi114_9 hl114_9; replace p114 := eq_true p114; replace q114 := eq_true q114; have ea_ := Option.some.inj (hx109_9.symm.trans hx114_9); injection ea_ with ea_ en_ ec_; subst ea_; subst ec_; clear en_)))
          go_roundg k1
          case measure => have := HK1.out; omega
          case rel => exact ⟨(wrap64 (x5_1 + 1)), (by first | rfl | (simp; done) | (simp [*]; done)), H', ⟨by have := HK1.out; omega⟩, by repeat (first | exact Drawn0.refl _ | apply Drawn0.step)⟩
         ·
          rw [if_neg c10] at H
          have c10b0 : (((rd_T37 l0 x5_1).f1) == ((rd_T37 l1 x5_1).f1)) = false := beq_eq_false_iff_ne.mpr c10
          have c10b1 : (((rd_T37 l0 x5_1).f1) != ((rd_T37 l1 x5_1).f1)) = true := bne_iff_ne.mpr c10
          obtain rfl := Option.some.inj H
          have p108 : 0 ≤ (x5_1 : Int) := of_decide_eq_true (by first | (with_reducible assumption) | assumption)
          have q108 : x5_1 < (l0.length : Int) := of_decide_eq_true (by first | (with_reducible assumption) | assumption)
          obtain ⟨ad108, A108_9, c108_9, e108, hx108_0, hx108_1, hx108_2, hx108_3, hx108_4, hx108_5, hx108_6, hx108_7, hx108_8, hx108_9, hl108_9, hi108_9⟩ := at_T37 HR0.out x5_1 p108 q108
          cases e108
          have HR108_9 := zqi hi108_9
          have HC108_9 := zqi hl108_9
          clear hi108_9 hl108_9
          replace p108 := eq_true p108
          replace q108 := eq_true q108
          have p109 : 0 ≤ (x5_1 : Int) := of_decide_eq_true (by first | (with_reducible assumption) | assumption)
          have q109 : x5_1 < (l1.length : Int) := of_decide_eq_true (by first | (with_reducible assumption) | assumption)
          obtain ⟨ad109, A109_9, c109_9, e109, hx109_0, hx109_1, hx109_2, hx109_3, hx109_4, hx109_5, hx109_6, hx109_7, hx109_8, hx109_9, hl109_9, hi109_9⟩ := at_T37 HR1.out x5_1 p109 q109
          cases e109
          have HR109_9 := zqi hi109_9
          have HC109_9 := zqi hl109_9
          clear hi109_9 hl109_9
          replace p109 := eq_true p109
          replace q109 := eq_true q109
          go_wp2_with (first | (go_at_call 30; (with_reducible refine (haulierref02_Same.calls k1 _ _ ((rd_T37 l0 x5_1).f2) _ _ ((rd_T37 l1 x5_1).f2) true _ ?side1 ?side2 ?side3 ?side4 A7.out).mono ?_); (case side1 => repeat (first | exact HR108_9.out | (with_reducible refine Kd.C_alloc ?_ _) | (with_reducible refine Kd.C_drewN ?_ _) | (with_reducible refine Kd.C_drew ?_))); (case side2 => exact HC108_9.out); (case side3 => repeat (first | exact HR109_9.out | (with_reducible refine Kd.C_alloc ?_ _) | (with_reducible refine Kd.C_drewN ?_ _) | (with_reducible refine Kd.C_drew ?_))); (case side4 => exact HC109_9.out); rintro e w' ⟨rfl, ⟨nd, rfl⟩⟩; (try first | exact ⟨rfl, _, zqj⟩ | exact ⟨rfl, _, Eq.trans (zqj) (congrArg (World.drewN _) (Nat.add_assoc _ _ _))⟩); have p111 : 0 ≤ (x5_1 : Int) := of_decide_eq_true (by first | (with_reducible assumption) | assumption); have q111 : x5_1 < (l0.length : Int) := of_decide_eq_true (by first | (with_reducible assumption) | assumption); obtain ⟨ad111, A111_9, c111_9, e111, hx111_0, hx111_1, hx111_2, hx111_3, hx111_4, hx111_5, hx111_6, hx111_7, hx111_8, hx111_9, hl111_9, hi111_9⟩ := at_T37 HR0.out x5_1 p111 q111; obtain rfl : ad108 = ad111 := (by injection e111); have HR111_9 := zqi hi111_9; have HC111_9 := zqi hl111_9; clear hi111_9 hl111_9; replace p111 := eq_true p111; replace q111 := eq_true q111; have ea_ := Option.some.inj (hx108_9.symm.trans hx111_9); injection ea_ with ea_ en_ ec_; subst ea_; subst ec_; clear en_; have p112 : 0 ≤ (x5_1 : Int) := of_decide_eq_true (by first | (with_reducible assumption) | assumption); have q112 : x5_1 < (l1.length : Int) := of_decide_eq_true (by first | (with_reducible assumption) | assumption); obtain ⟨ad112, A112_9, c112_9, e112, hx112_0, hx112_1, hx112_2, hx112_3, hx112_4, hx112_5, hx112_6, hx112_7, hx112_8, hx112_9, hl112_9, hi112_9⟩ := at_T37 HR1.out x5_1 p112 q112; obtain rfl : ad109 = ad112 := (by injection e112); have HR112_9 := zqi hi112_9; have HC112_9 := zqi hl112_9; clear hi112_9 hl112_9; replace p112 := eq_true p112; replace q112 := eq_true q112; have ea_ := Option.some.inj (hx109_9.symm.trans hx112_9); injection ea_ with ea_ en_ ec_; subst ea_; subst ec_; clear en_; have p113 : 0 ≤ (x5_1 : Int) := of_decide_eq_true (by first | (with_reducible assumption) | assumption); have q113 : x5_1 < (l0.length : Int) := of_decide_eq_true (by first | (with_reducible assumption) | assumption); obtain ⟨ad113, A113_9, c113_9, e113, hx113_0, hx113_1, hx113_2, hx113_3, hx113_4, hx113_5, hx113_6, hx113_7, hx113_8, hx113_9, hl113_9, hi113_9⟩ := at_T37 HR0.out x5_1 p113 q113; obtain rfl : ad108 = ad113 := (by injection e113); have HR113_9 := zqi hi113_9; have HC113_9 := zqi hl113_9; clear hi113_9 hl113_9; replace p113 := eq_true p113; replace q113 := eq_true q113; have ea_ := Option.some.inj (hx108_9.symm.trans hx113_9); injection ea_ with ea_ en_ ec_; subst ea_; subst ec_; clear en_; have p114 : 0 ≤ (x5_1 : Int) := of_decide_eq_true (by first | (with_reducible assumption) | assumption); have q114 : x5_1 < (l1.length : Int) := of_decide_eq_true (by first | (with_reducible assumption) | assumption); obtain ⟨ad114, A114_9, c114_9, e114, hx114_0, hx114_1, hx114_2, hx114_3, hx114_4, hx114_5, hx114_6, hx114_7, hx114_8, hx114_9, hl114_9, hi114_9⟩ := at_T37 HR1.out x5_1 p114 q114; obtain rfl : ad109 = ad114 := (by injection e114); have HR114_9 := zqi hi114_9; have HC114_9 := zqi hl114_9; clear hi114_9 hl114_9; replace p114 := eq_true p114; replace q114 := eq_true q114; have ea_ := Option.some.inj (hx109_9.symm.trans hx114_9); injection ea_ with ea_ en_ ec_; subst ea_; subst ec_; clear en_))
          repeat (go_quiet (first | (go_at_call 30; (with_reducible refine (haulierref02_Same.calls k1 _ _ ((rd_T37 l0 x5_1).f2) _ _ ((rd_T37 l1 x5_1).f2) true _ ?side1 ?side2 ?side3 ?side4 A7.out).mono ?_); (case side1 => repeat (first | exact HR108_9.out | (with_reducible refine Kd.C_alloc ?_ _) | (with_reducible refine Kd.C_drewN ?_ _) | (with_reducible refine Kd.C_drew ?_))); (case side2 => exact HC108_9.out); (case side3 => repeat (first | exact HR109_9.out | (with_reducible refine Kd.C_alloc ?_ _) | (with_reducible refine Kd.C_drewN ?_ _) | (with_reducible refine Kd.C_drew ?_))); (case side4 => exact HC109_9.out); rintro e w' ⟨rfl, ⟨nd, rfl⟩⟩; (try first | exact ⟨rfl, _, zqj⟩ | exact ⟨rfl, _, Eq.trans (zqj) (congrArg (World.drewN _) (Nat.add_assoc _ _ _))⟩); have p111 : 0 ≤ (x5_1 : Int) := of_decide_eq_true (by first | (with_reducible assumption) | assumption); have q111 : x5_1 < (l0.length : Int) := of_decide_eq_true (by first | (with_reducible assumption) | assumption); obtain ⟨ad111, A111_9, c111_9, e111, hx111_0, hx111_1, hx111_2, hx111_3, hx111_4, hx111_5, hx111_6, hx111_7, hx111_8, hx111_9, hl111_9, hi111_9⟩ := at_T37 HR0.out x5_1 p111 q111; obtain rfl : ad108 = ad111 := (by injection e111); have HR111_9 := zqi hi111_9; have HC111_9 := zqi hl111_9; clear hi111_9 hl111_9; replace p111 := eq_true p111; replace q111 := eq_true q111; have ea_ := Option.some.inj (hx108_9.symm.trans hx111_9); injection ea_ with ea_ en_ ec_; subst ea_; subst ec_; clear en_; have p112 : 0 ≤ (x5_1 : Int) := of_decide_eq_true (by first | (with_reducible assumption) | assumption); have q112 : x5_1 < (l1.length : Int) := of_decide_eq_true (by first | (with_reducible assumption) | assumption); obtain ⟨ad112, A112_9, c112_9, e112, hx112_0, hx112_1, hx112_2, hx112_3, hx112_4, hx112_5, hx112_6, hx112_7, hx112_8, hx112_9, hl112_9, hi112_9⟩ := at_T37 HR1.out x5_1 p112 q112; obtain rfl : ad109 = ad112 := (by injection e112); have HR112_9 := zqi hi112_9; have HC112_9 := zqi hl112_9; clear hi112_9 hl112_9; replace p112 := eq_true p112; replace q112 := eq_true q112; have ea_ := Option.some.inj (hx109_9.symm.trans hx112_9); injection ea_ with ea_ en_ ec_; subst ea_; subst ec_; clear en_; have p113 : 0 ≤ (x5_1 : Int) := of_decide_eq_true (by first | (with_reducible assumption) | assumption); have q113 : x5_1 < (l0.length : Int) := of_decide_eq_true (by first | (with_reducible assumption) | assumption); obtain ⟨ad113, A113_9, c113_9, e113, hx113_0, hx113_1, hx113_2, hx113_3, hx113_4, hx113_5, hx113_6, hx113_7, hx113_8, hx113_9, hl113_9, hi113_9⟩ := at_T37 HR0.out x5_1 p113 q113; obtain rfl : ad108 = ad113 := (by injection e113); have HR113_9 := zqi hi113_9; have HC113_9 := zqi hl113_9; clear hi113_9 hl113_9; replace p113 := eq_true p113; replace q113 := eq_true q113; have ea_ := Option.some.inj (hx108_9.symm.trans hx113_9); injection ea_ with ea_ en_ ec_; subst ea_; subst ec_; clear en_; have p114 : 0 ≤ (x5_1 : Int) := of_decide_eq_true (by first | (with_reducible assumption) | assumption); have q114 : x5_1 < (l1.length : Int) := of_decide_eq_true (by first | (with_reducible assumption) | assumption); obtain ⟨ad114, A114_9, c114_9, e114, hx114_0, hx114_1, hx114_2, hx114_3, hx114_4, hx114_5, hx114_6, hx114_7, hx114_8, hx114_9, hl114_9, hi114_9⟩ := at_T37 HR1.out x5_1 p114 q114; obtain rfl : ad109 = ad114 := (by injection e114); have HR114_9 := zqi hi114_9; have HC114_9 := zqi hl114_9; clear hi114_9 hl114_9; replace p114 := eq_true p114; replace q114 := eq_true q114; have ea_ := Option.some.inj (hx109_9.symm.trans hx114_9); injection ea_ with ea_ en_ ec_; subst ea_; subst ec_; clear en_)); try go_wp2_with (first | (go_at_call 30; (with_reducible refine (haulierref02_Same.calls k1 _ _ ((rd_T37 l0 x5_1).f2) _ _ ((rd_T37 l1 x5_1).f2) true _ ?side1 ?side2 ?side3 ?side4 A7.out).mono ?_); (case side1 => repeat (first | exact HR108_9.out | (with_reducible refine Kd.C_alloc ?_ _) | (with_reducible refine Kd.C_drewN ?_ _) | (with_reducible refine Kd.C_drew ?_))); (case side2 => exact HC108_9.out); (case side3 => repeat (first | exact HR109_9.out | (with_reducible refine Kd.C_alloc ?_ _) | (with_reducible refine Kd.C_drewN ?_ _) | (with_reducible refine Kd.C_drew ?_))); (case side4 => exact HC109_9.out); rintro e w' ⟨rfl, ⟨nd, rfl⟩⟩; (try first | exact ⟨rfl, _, zqj⟩ | exact ⟨rfl, _, Eq.trans (zqj) (congrArg (World.drewN _) (Nat.add_assoc _ _ _))⟩); have p111 : 0 ≤ (x5_1 : Int) := of_decide_eq_true (by first | (with_reducible assumption) | assumption); have q111 : x5_1 < (l0.length : Int) := of_decide_eq_true (by first | (with_reducible assumption) | assumption); obtain ⟨ad111, A111_9, c111_9, e111, hx111_0, hx111_1, hx111_2, hx111_3, hx111_4, hx111_5, hx111_6, hx111_7, hx111_8, hx111_9, hl111_9, hi111_9⟩ := at_T37 HR0.out x5_1 p111 q111; obtain rfl : ad108 = ad111 := (by injection e111); have HR111_9 := zqi hi111_9; have HC111_9 := zqi hl111_9; clear hi111_9 hl111_9; replace p111 := eq_true p111; replace q111 := eq_true q111; have ea_ := Option.some.inj (hx108_9.symm.trans hx111_9); injection ea_ with ea_ en_ ec_; subst ea_; subst ec_; clear en_; have p112 : 0 ≤ (x5_1 : Int) := of_decide_eq_true (by first | (with_reducible assumption) | assumption); have q112 : x5_1 < (l1.length : Int) := of_decide_eq_true (by first | (with_reducible assumption) | assumption); obtain ⟨ad112, A112_9, c112_9, e112, hx112_0, hx112_1, hx112_2, hx112_3, hx112_4, hx112_5, hx112_6, hx112_7, hx112_8, hx112_9, hl112_9, hi112_9⟩ := at_T37 HR1.out x5_1 p112 q112; obtain rfl : ad109 = ad112 := (by injection e112); have HR112_9 := zqi hi112_9; have HC112_9 := zqi hl112_9; clear hi112_9 hl112_9; replace p112 := eq_true p112; replace q112 := eq_true q112; have ea_ := Option.some.inj (hx109_9.symm.trans hx112_9); injection ea_ with ea_ en_ ec_; subst ea_; subst ec_; clear en_; have p113 : 0 ≤ (x5_1 : Int) := of_decide_eq_true (by first | (with_reducible assumption) | assumption); have q113 : x5_1 < (l0.length : Int) := of_decide_eq_true (by first | (with_reducible assumption) | assumption); obtain ⟨ad113, A113_9, c113_9, e113, hx113_0, hx113_1, hx113_2, hx113_3, hx113_4, hx113_5, hx113_6, hx113_7, hx113_8, hx113_9, hl113_9, hi113_9⟩ := at_T37 HR0.out x5_1 p113 q113; obtain rfl : ad108 = ad113 := (by injection e113); have HR113_9 := zqi hi113_9; have HC113_9 := zqi hl113_9; clear hi113_9 hl113_9; replace p113 := eq_true p113; replace q113 := eq_true q113; have ea_ := Option.some.inj (hx108_9.symm.trans hx113_9); injection ea_ with ea_ en_ ec_; subst ea_; subst ec_; clear en_; have p114 : 0 ≤ (x5_1 : Int) := of_decide_eq_true (by first | (with_reducible assumption) | assumption); have q114 : x5_1 < (l1.length : Int) := of_decide_eq_true (by first | (with_reducible assumption) | assumption); obtain ⟨ad114, A114_9, c114_9, e114, hx114_0, hx114_1, hx114_2, hx114_3, hx114_4, hx114_5, hx114_6, hx114_7, hx114_8, hx114_9, hl114_9, hi114_9⟩ := at_T37 HR1.out x5_1 p114 q114; obtain rfl : ad109 = ad114 := (by injection e114); have HR114_9 := zqi hi114_9; have HC114_9 := zqi hl114_9; clear hi114_9 hl114_9; replace p114 := eq_true p114; replace q114 := eq_true q114; have ea_ := Option.some.inj (hx109_9.symm.trans hx114_9); injection ea_ with ea_ en_ ec_; subst ea_; subst ec_; clear en_)))
          go_ret
          exact ⟨by first | rfl | (simp; done) | (simp [*]; done), by repeat (first | exact Drawn0.refl _ | apply Drawn0.step)⟩
       ·
        replace c8 := Bool.eq_false_iff.mpr c8
        subst c8
        have H1 : (some false) = some r := by rw [if_neg (show ¬ (false = true) by decide)] at H; exact H
        clear H
        have H := H1
        clear H1
        obtain rfl := Option.some.inj H
        have p108 : 0 ≤ (x5_1 : Int) := of_decide_eq_true (by first | (with_reducible assumption) | assumption)
        have q108 : x5_1 < (l0.length : Int) := of_decide_eq_true (by first | (with_reducible assumption) | assumption)
        obtain ⟨ad108, A108_9, c108_9, e108, hx108_0, hx108_1, hx108_2, hx108_3, hx108_4, hx108_5, hx108_6, hx108_7, hx108_8, hx108_9, hl108_9, hi108_9⟩ := at_T37 HR0.out x5_1 p108 q108
        cases e108
        have HR108_9 := zqi hi108_9
        have HC108_9 := zqi hl108_9
        clear hi108_9 hl108_9
        replace p108 := eq_true p108
        replace q108 := eq_true q108
        have p109 : 0 ≤ (x5_1 : Int) := of_decide_eq_true (by first | (with_reducible assumption) | assumption)
        have q109 : x5_1 < (l1.length : Int) := of_decide_eq_true (by first | (with_reducible assumption) | assumption)
        obtain ⟨ad109, A109_9, c109_9, e109, hx109_0, hx109_1, hx109_2, hx109_3, hx109_4, hx109_5, hx109_6, hx109_7, hx109_8, hx109_9, hl109_9, hi109_9⟩ := at_T37 HR1.out x5_1 p109 q109
        cases e109
        have HR109_9 := zqi hi109_9
        have HC109_9 := zqi hl109_9
        clear hi109_9 hl109_9
        replace p109 := eq_true p109
        replace q109 := eq_true q109
        go_wp2_with (first | (go_at_call 30; (with_reducible refine (haulierref02_Same.calls k1 _ _ ((rd_T37 l0 x5_1).f2) _ _ ((rd_T37 l1 x5_1).f2) false _ ?side1 ?side2 ?side3 ?side4 A7.out).mono ?_); (case side1 => repeat (first | exact HR108_9.out | (with_reducible refine Kd.C_alloc ?_ _) | (with_reducible refine Kd.C_drewN ?_ _) | (with_reducible refine Kd.C_drew ?_))); (case side2 => exact HC108_9.out); (case side3 => repeat (first | exact HR109_9.out | (with_reducible refine Kd.C_alloc ?_ _) | (with_reducible refine Kd.C_drewN ?_ _) | (with_reducible refine Kd.C_drew ?_))); (case side4 => exact HC109_9.out); rintro e w' ⟨rfl, ⟨nd, rfl⟩⟩; (try first | exact ⟨rfl, _, zqj⟩ | exact ⟨rfl, _, Eq.trans (zqj) (congrArg (World.drewN _) (Nat.add_assoc _ _ _))⟩)))
        repeat (go_quiet (first | (go_at_call 30; (with_reducible refine (haulierref02_Same.calls k1 _ _ ((rd_T37 l0 x5_1).f2) _ _ ((rd_T37 l1 x5_1).f2) false _ ?side1 ?side2 ?side3 ?side4 A7.out).mono ?_); (case side1 => repeat (first | exact HR108_9.out | (with_reducible refine Kd.C_alloc ?_ _) | (with_reducible refine Kd.C_drewN ?_ _) | (with_reducible refine Kd.C_drew ?_))); (case side2 => exact HC108_9.out); (case side3 => repeat (first | exact HR109_9.out | (with_reducible refine Kd.C_alloc ?_ _) | (with_reducible refine Kd.C_drewN ?_ _) | (with_reducible refine Kd.C_drew ?_))); (case side4 => exact HC109_9.out); rintro e w' ⟨rfl, ⟨nd, rfl⟩⟩; (try first | exact ⟨rfl, _, zqj⟩ | exact ⟨rfl, _, Eq.trans (zqj) (congrArg (World.drewN _) (Nat.add_assoc _ _ _))⟩))); try go_wp2_with (first | (go_at_call 30; (with_reducible refine (haulierref02_Same.calls k1 _ _ ((rd_T37 l0 x5_1).f2) _ _ ((rd_T37 l1 x5_1).f2) false _ ?side1 ?side2 ?side3 ?side4 A7.out).mono ?_); (case side1 => repeat (first | exact HR108_9.out | (with_reducible refine Kd.C_alloc ?_ _) | (with_reducible refine Kd.C_drewN ?_ _) | (with_reducible refine Kd.C_drew ?_))); (case side2 => exact HC108_9.out); (case side3 => repeat (first | exact HR109_9.out | (with_reducible refine Kd.C_alloc ?_ _) | (with_reducible refine Kd.C_drewN ?_ _) | (with_reducible refine Kd.C_drew ?_))); (case side4 => exact HC109_9.out); rintro e w' ⟨rfl, ⟨nd, rfl⟩⟩; (try first | exact ⟨rfl, _, zqj⟩ | exact ⟨rfl, _, Eq.trans (zqj) (congrArg (World.drewN _) (Nat.add_assoc _ _ _))⟩))))
        go_ret
        exact ⟨by first | rfl | (simp; done) | (simp [*]; done), by repeat (first | exact Drawn0.refl _ | apply Drawn0.step)⟩
      ·
       rw [if_neg c6] at H
       exact absurd H (by simp)
     ·
      rw [if_neg c5] at H
      exact absurd H (by simp)
    ·
     rw [if_neg c4] at H
     have c4b0 : decide (x5_1 < (l0.length : Int)) = false := decide_eq_false c4
     clear c4
     obtain rfl := Option.some.inj H
     go_wp2
     repeat (go_quiet (fail); try go_wp2)
     go_ret
     exact ⟨by first | rfl | (simp; done) | (simp [*]; done), by repeat (first | exact Drawn0.refl _ | apply Drawn0.step)⟩
 ·
  rw [if_neg c3] at H
  have c3b0 : ((l0.length : Int) == (l1.length : Int)) = false := beq_eq_false_iff_ne.mpr c3
  have c3b1 : ((l0.length : Int) != (l1.length : Int)) = true := bne_iff_ne.mpr c3
  have c3b2 : (l0.length == l1.length) = false := by first | simpa using c3 | (simp at c3 ⊢; omega)
  obtain rfl := Option.some.inj H
  go_enter Try.func18, Try.ntmps18
  go_wp2
  repeat (go_quiet (fail); try go_wp2)
  go_ret
  exact ⟨by first | rfl | (simp; done) | (simp [*]; done), by repeat (first | exact Drawn0.refl _ | apply Drawn0.step)⟩

-- NOT PRINTED: function 40 (api_Node_40)

-- NOT PRINTED: function 31 (api_Node_31)

-- NOT PRINTED: function 33 (api_Node_33)

-- NOT PRINTED: function 35 (slices_Clone_int_int)

end Go.Proofs.Ytkcdpnigcbcalaa.PB
