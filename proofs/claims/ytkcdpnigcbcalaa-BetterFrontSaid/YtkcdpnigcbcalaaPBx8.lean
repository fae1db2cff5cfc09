-- Printed for this claim by wip/tools/xprint.py over the kit's print; the contracts marked BY HAND are this session's own.
import Derived.Test.YtkcdpnigcbcalaaPBx0
import Derived.Test.YtkcdpnigcbcalaaPBx2
import Derived.Test.YtkcdpnigcbcalaaPBx3
namespace Go.Proofs.Ytkcdpnigcbcalaa.PB
open Go.RowKit Go.Proofs.YtkcdpnigcbcalaaW.PrintWords Go.Proofs.YtkcdpnigcbcalaaW.PrintLast Go.Proofs.YtkcdpnigcbcalaaW.PrintMore
attribute [local go_sem] max2_int min2_int max_two min_two max_three min_three max_four min_four   -- for this text's walks alone
set_option linter.unusedVariables false
set_option linter.unusedSimpArgs false

/-! ### haulierlaw13_BetterFront: function 8 -/
mutual
def haulierlaw13_BetterFront.j0 : Nat → List (S37) → Bool → Bool → Option (Bool)
  | 0, _, _, _ => none
  | k + 1, x0, x3, x19 => if x19 = true then (some x3) else ((better_Front.f x0).bind fun t160 => (haulierlaw13_BetterFront.l0 k x0 t160 0))
def haulierlaw13_BetterFront.l0 : Nat → List (S37) → List (S37) → Int → Option (Bool)
  | 0, _, _, _ => none
  | k + 1, x0, x5, x6 => if x6 < (x0.length : Int) then (haulierlaw13_BetterFront.l1 k x0 x5 x6 false 0) else (haulierlaw13_BetterFront.l2 k x0 x5 0)
def haulierlaw13_BetterFront.l1 : Nat → List (S37) → List (S37) → Int → Bool → Int → Option (Bool)
  | 0, _, _, _, _, _ => none
  | k + 1, x0, x5, x6, x7, x8 => if x8 < (x5.length : Int) then (if x7 = true then (haulierlaw13_BetterFront.l1 k x0 x5 x6 true (wrap64 (x8 + 1))) else (if 0 ≤ x8 then (if 0 ≤ x6 then (if x6 < (x0.length : Int) then ((better_Than.f ((rd_T37 x5 x8).f0.f0) ((rd_T37 x5 x8).f0.f1) ((rd_T37 x5 x8).f0.f2) ((rd_T37 x5 x8).f0.f3) ((rd_T37 x5 x8).f0.f4) ((rd_T37 x5 x8).f0.f5) ((rd_T37 x5 x8).f0.f6) ((rd_T37 x5 x8).f0.f7) ((rd_T37 x5 x8).f1) ((rd_T37 x5 x8).f2) ((rd_T37 x0 x6).f0.f0) ((rd_T37 x0 x6).f0.f1) ((rd_T37 x0 x6).f0.f2) ((rd_T37 x0 x6).f0.f3) ((rd_T37 x0 x6).f0.f4) ((rd_T37 x0 x6).f0.f5) ((rd_T37 x0 x6).f0.f6) ((rd_T37 x0 x6).f0.f7) ((rd_T37 x0 x6).f1) ((rd_T37 x0 x6).f2)).bind fun t165 => (haulierlaw13_BetterFront.l1 k x0 x5 x6 t165 (wrap64 (x8 + 1)))) else (none)) else (none)) else (none))) else (if x7 = true then (haulierlaw13_BetterFront.l0 k x0 x5 (wrap64 (x6 + 1))) else (none))
def haulierlaw13_BetterFront.l2 : Nat → List (S37) → List (S37) → Int → Option (Bool)
  | 0, _, _, _ => none
  | k + 1, x0, x5, x9 => if x9 < (x5.length : Int) then (haulierlaw13_BetterFront.l3 k x0 x5 x9 0) else (some (decide ((x5.length : Int) ≤ (x0.length : Int))))
def haulierlaw13_BetterFront.l3 : Nat → List (S37) → List (S37) → Int → Int → Option (Bool)
  | 0, _, _, _, _ => none
  | k + 1, x0, x5, x9, x10 => if x10 < (x5.length : Int) then (if x10 = x9 then (haulierlaw13_BetterFront.l3 k x0 x5 x9 (wrap64 (x10 + 1))) else (if 0 ≤ x10 then (if 0 ≤ x9 then (if x9 < (x5.length : Int) then ((better_Than.f ((rd_T37 x5 x10).f0.f0) ((rd_T37 x5 x10).f0.f1) ((rd_T37 x5 x10).f0.f2) ((rd_T37 x5 x10).f0.f3) ((rd_T37 x5 x10).f0.f4) ((rd_T37 x5 x10).f0.f5) ((rd_T37 x5 x10).f0.f6) ((rd_T37 x5 x10).f0.f7) ((rd_T37 x5 x10).f1) ((rd_T37 x5 x10).f2) ((rd_T37 x5 x9).f0.f0) ((rd_T37 x5 x9).f0.f1) ((rd_T37 x5 x9).f0.f2) ((rd_T37 x5 x9).f0.f3) ((rd_T37 x5 x9).f0.f4) ((rd_T37 x5 x9).f0.f5) ((rd_T37 x5 x9).f0.f6) ((rd_T37 x5 x9).f0.f7) ((rd_T37 x5 x9).f1) ((rd_T37 x5 x9).f2)).bind fun t168 => (if t168 = true then (none) else (haulierlaw13_BetterFront.l3 k x0 x5 x9 (wrap64 (x10 + 1))))) else (none)) else (none)) else (none))) else (haulierlaw13_BetterFront.l2 k x0 x5 (wrap64 (x9 + 1)))
end
def haulierlaw13_BetterFront.f (k : Nat) (l0 : List (S37)) : Option (Bool) := (haulierlaw13_awake.f).bind fun t158 => ((haulierlaw13_Few.f k l0).bind fun t159 => (if t158 = true then (haulierlaw13_BetterFront.j0 k l0 t158 (!t159)) else (haulierlaw13_BetterFront.j0 k l0 t158 true)))
theorem haulierlaw13_BetterFront.mono_l : ∀ k, (∀ y0 y1 y2, LeO (haulierlaw13_BetterFront.j0 k y0 y1 y2) (haulierlaw13_BetterFront.j0 (k + 1) y0 y1 y2)) ∧ (∀ y0 y1 y2, LeO (haulierlaw13_BetterFront.l0 k y0 y1 y2) (haulierlaw13_BetterFront.l0 (k + 1) y0 y1 y2)) ∧ (∀ y0 y1 y2 y3 y4, LeO (haulierlaw13_BetterFront.l1 k y0 y1 y2 y3 y4) (haulierlaw13_BetterFront.l1 (k + 1) y0 y1 y2 y3 y4)) ∧ (∀ y0 y1 y2, LeO (haulierlaw13_BetterFront.l2 k y0 y1 y2) (haulierlaw13_BetterFront.l2 (k + 1) y0 y1 y2)) ∧ (∀ y0 y1 y2 y3, LeO (haulierlaw13_BetterFront.l3 k y0 y1 y2 y3) (haulierlaw13_BetterFront.l3 (k + 1) y0 y1 y2 y3))
  | 0 => ⟨fun _ _ _ r h => by simp [haulierlaw13_BetterFront.j0] at h, fun _ _ _ r h => by simp [haulierlaw13_BetterFront.l0] at h, fun _ _ _ _ _ r h => by simp [haulierlaw13_BetterFront.l1] at h, fun _ _ _ r h => by simp [haulierlaw13_BetterFront.l2] at h, fun _ _ _ _ r h => by simp [haulierlaw13_BetterFront.l3] at h⟩
  | k + 1 => by
    obtain ⟨ih0, ih1, ih2, ih3, ih4⟩ := haulierlaw13_BetterFront.mono_l k
    refine ⟨?_, ?_, ?_, ?_, ?_⟩
    · intro y0 y1 y2
      unfold haulierlaw13_BetterFront.j0
      repeat' first
      | (with_reducible exact ih0 _ _ _)
      | (with_reducible exact ih1 _ _ _)
      | (with_reducible exact ih2 _ _ _ _ _)
      | (with_reducible exact ih3 _ _ _)
      | (with_reducible exact ih4 _ _ _ _)
      | (with_reducible exact haulierlaw13_Few.mono _ _)
      | (with_reducible exact LeO.refl _)
      | (with_reducible exact LeO.none _)
      | (with_reducible refine LeO.ite ?_ ?_)
      | (with_reducible refine LeO.bind ?_ (fun _ => ?_))
      | exact ih0 _ _ _
      | exact ih1 _ _ _
      | exact ih2 _ _ _ _ _
      | exact ih3 _ _ _
      | exact ih4 _ _ _ _
      | exact haulierlaw13_Few.mono _ _
      | exact LeO.none _
      | refine LeO.ite ?_ ?_
      | refine LeO.bind ?_ (fun _ => ?_)
    · intro y0 y1 y2
      unfold haulierlaw13_BetterFront.l0
      repeat' first
      | (with_reducible exact ih0 _ _ _)
      | (with_reducible exact ih1 _ _ _)
      | (with_reducible exact ih2 _ _ _ _ _)
      | (with_reducible exact ih3 _ _ _)
      | (with_reducible exact ih4 _ _ _ _)
      | (with_reducible exact haulierlaw13_Few.mono _ _)
      | (with_reducible exact LeO.refl _)
      | (with_reducible exact LeO.none _)
      | (with_reducible refine LeO.ite ?_ ?_)
      | (with_reducible refine LeO.bind ?_ (fun _ => ?_))
      | exact ih0 _ _ _
      | exact ih1 _ _ _
      | exact ih2 _ _ _ _ _
      | exact ih3 _ _ _
      | exact ih4 _ _ _ _
      | exact haulierlaw13_Few.mono _ _
      | exact LeO.none _
      | refine LeO.ite ?_ ?_
      | refine LeO.bind ?_ (fun _ => ?_)
    · intro y0 y1 y2 y3 y4
      unfold haulierlaw13_BetterFront.l1
      repeat' first
      | (with_reducible exact ih0 _ _ _)
      | (with_reducible exact ih1 _ _ _)
      | (with_reducible exact ih2 _ _ _ _ _)
      | (with_reducible exact ih3 _ _ _)
      | (with_reducible exact ih4 _ _ _ _)
      | (with_reducible exact haulierlaw13_Few.mono _ _)
      | (with_reducible exact LeO.refl _)
      | (with_reducible exact LeO.none _)
      | (with_reducible refine LeO.ite ?_ ?_)
      | (with_reducible refine LeO.bind ?_ (fun _ => ?_))
      | exact ih0 _ _ _
      | exact ih1 _ _ _
      | exact ih2 _ _ _ _ _
      | exact ih3 _ _ _
      | exact ih4 _ _ _ _
      | exact haulierlaw13_Few.mono _ _
      | exact LeO.none _
      | refine LeO.ite ?_ ?_
      | refine LeO.bind ?_ (fun _ => ?_)
    · intro y0 y1 y2
      unfold haulierlaw13_BetterFront.l2
      repeat' first
      | (with_reducible exact ih0 _ _ _)
      | (with_reducible exact ih1 _ _ _)
      | (with_reducible exact ih2 _ _ _ _ _)
      | (with_reducible exact ih3 _ _ _)
      | (with_reducible exact ih4 _ _ _ _)
      | (with_reducible exact haulierlaw13_Few.mono _ _)
      | (with_reducible exact LeO.refl _)
      | (with_reducible exact LeO.none _)
      | (with_reducible refine LeO.ite ?_ ?_)
      | (with_reducible refine LeO.bind ?_ (fun _ => ?_))
      | exact ih0 _ _ _
      | exact ih1 _ _ _
      | exact ih2 _ _ _ _ _
      | exact ih3 _ _ _
      | exact ih4 _ _ _ _
      | exact haulierlaw13_Few.mono _ _
      | exact LeO.none _
      | refine LeO.ite ?_ ?_
      | refine LeO.bind ?_ (fun _ => ?_)
    · intro y0 y1 y2 y3
      unfold haulierlaw13_BetterFront.l3
      repeat' first
      | (with_reducible exact ih0 _ _ _)
      | (with_reducible exact ih1 _ _ _)
      | (with_reducible exact ih2 _ _ _ _ _)
      | (with_reducible exact ih3 _ _ _)
      | (with_reducible exact ih4 _ _ _ _)
      | (with_reducible exact haulierlaw13_Few.mono _ _)
      | (with_reducible exact LeO.refl _)
      | (with_reducible exact LeO.none _)
      | (with_reducible refine LeO.ite ?_ ?_)
      | (with_reducible refine LeO.bind ?_ (fun _ => ?_))
      | exact ih0 _ _ _
      | exact ih1 _ _ _
      | exact ih2 _ _ _ _ _
      | exact ih3 _ _ _
      | exact ih4 _ _ _ _
      | exact haulierlaw13_Few.mono _ _
      | exact LeO.none _
      | refine LeO.ite ?_ ?_
      | refine LeO.bind ?_ (fun _ => ?_)
theorem haulierlaw13_BetterFront.mono : ∀ a0 k, LeO (haulierlaw13_BetterFront.f k a0) (haulierlaw13_BetterFront.f (k + 1) a0) := by
  intro a0 k
  obtain ⟨ih0, ih1, ih2, ih3, ih4⟩ := haulierlaw13_BetterFront.mono_l k
  unfold haulierlaw13_BetterFront.f
  repeat' first
      | (with_reducible exact ih0 _ _ _)
      | (with_reducible exact ih1 _ _ _)
      | (with_reducible exact ih2 _ _ _ _ _)
      | (with_reducible exact ih3 _ _ _)
      | (with_reducible exact ih4 _ _ _ _)
      | (with_reducible exact haulierlaw13_Few.mono _ _)
      | (with_reducible exact LeO.refl _)
      | (with_reducible exact LeO.none _)
      | (with_reducible refine LeO.ite ?_ ?_)
      | (with_reducible refine LeO.bind ?_ (fun _ => ?_))
      | exact ih0 _ _ _
      | exact ih1 _ _ _
      | exact ih2 _ _ _ _ _
      | exact ih3 _ _ _
      | exact ih4 _ _ _ _
      | exact haulierlaw13_Few.mono _ _
      | exact LeO.none _
      | refine LeO.ite ?_ ?_
      | refine LeO.bind ?_ (fun _ => ?_)
def haulierlaw13_BetterFront.T13 : Bool × List (List Nat × List Nat) := (true, [([], []), ([0], [0]), ([1], [1]), ([1], [1]), ([2, 3, 1], [1, 2, 3]), ([4, 1], [1, 4]), ([1], [1]), ([1], [1]), ([6, 7, 1], [1, 6, 7]), ([8, 1], [1, 8]), ([5, 9, 1, 1], [1, 5, 9]), ([1, 10], [1, 10]), ([11, 10, 0, 1, 2, 3, 4, 5, 6, 7, 8, 9, 10, 11], [0, 11])])
def haulierlaw13_BetterFront.B13 : List Nat := [0, 1, 3, 3, 15, 31, 3, 3, 195, 451, 1023, 2047, 4095]
theorem haulierlaw13_BetterFront.tab13 : rtab .any (opsOf Try.f8 13) = haulierlaw13_BetterFront.T13 := by kernel_rfl
theorem haulierlaw13_BetterFront.bits13 : waitsOk haulierlaw13_BetterFront.T13.2 haulierlaw13_BetterFront.B13 = true := by kernel_rfl
def haulierlaw13_BetterFront.T22 : Bool × List (List Nat × List Nat) := (true, [([], []), ([], []), ([0, 1], [0, 1]), ([2], [2]), ([3], [3]), ([3], [3]), ([4, 5, 3], [3, 4, 5]), ([6, 3], [3, 6]), ([3], [3]), ([3], [3]), ([8, 9, 3], [3, 8, 9]), ([10, 3], [3, 10]), ([7, 11, 3, 3], [3, 7, 11]), ([3, 12], [3, 12])])
def haulierlaw13_BetterFront.B22 : List Nat := [0, 0, 3, 7, 15, 15, 63, 127, 15, 15, 783, 1807, 4095, 8191]
theorem haulierlaw13_BetterFront.tab22 : rtab .any (opsOf Try.f8 22) = haulierlaw13_BetterFront.T22 := by kernel_rfl
theorem haulierlaw13_BetterFront.bits22 : waitsOk haulierlaw13_BetterFront.T22.2 haulierlaw13_BetterFront.B22 = true := by kernel_rfl
set_option maxHeartbeats 16000000 in
set_option maxRecDepth 100000 in
theorem haulierlaw13_BetterFront.calls (k : Nat) (A0 : Option Addr) (c0 : Nat) (l0 : List (S37)) (r : Bool) (w : World) (hr0 : Kd.C k37 w A0 l0.length l0) (hc0 : l0.length ≤ c0) (h : haulierlaw13_BetterFront.f k l0 = some r) :
  Calls Try.prog 8 #[.slice A0 l0.length c0] w fun e w' => e = .returned (.bool r) ∧ Below w.heap.size w w' := by
 have hu37 := Try.underlying37
 have HR0 := zqi hr0
 have HC0 := zqi hc0
 clear hr0 hc0
 have HB := zqi (Below.refl w.heap.size w)
 have H : ((haulierlaw13_awake.f).bind fun t158 => ((haulierlaw13_Few.f k l0).bind fun t159 => (if t158 = true then (haulierlaw13_BetterFront.j0 k l0 t158 (!t159)) else (haulierlaw13_BetterFront.j0 k l0 t158 true)))) = some r := h
 clear h
 replace H := Option.bind_eq_some_iff.mp H
 obtain ⟨t158, A20, H⟩ := H
 replace H : ((haulierlaw13_Few.f k l0).bind fun t159 => (if t158 = true then (haulierlaw13_BetterFront.j0 k l0 t158 (!t159)) else (haulierlaw13_BetterFront.j0 k l0 t158 true))) = some r := H
 have A2 := zqi A20
 clear A20
 replace H := Option.bind_eq_some_iff.mp H
 obtain ⟨t159, A30, H⟩ := H
 replace H : (if t158 = true then (haulierlaw13_BetterFront.j0 k l0 t158 (!t159)) else (haulierlaw13_BetterFront.j0 k l0 t158 true)) = some r := H
 have A3 := zqi A30
 clear A30
 have HC4 := zqi H
 clear H
 go_enter Try.func8, Try.ntmps8
 go_upto_region 3 with (first | ((with_reducible refine gate_callee (f := 16) rfl ?_); refine goesL_ (some 11) rfl rfl Try.func16 (by kernel_rfl) rfl #[] rfl (by (try simp only [List.map_toArray, List.map_cons, List.map_nil]); first | done | rfl | (simp only [List.length_drop, List.length_take]; rfl)) ?_; (with_reducible refine (haulierlaw13_awake.calls  t158 _ A2.out).mono ?_); rintro e w5 ⟨rfl, hb⟩; refine ⟨_, rfl, ?_⟩; have n0_ := zqi (below_step (zqn HB.out) hb); clear HB; have HB := n0_; clear n0_; (try clear hb); (try clear hb2); (try clear hk); (try clear hi)) | ((with_reducible refine gate_callee (f := 17) rfl ?_); refine goesL_ (some 13) rfl rfl Try.func17 (by kernel_rfl) rfl #[.slice A0 l0.length c0] rfl (by (try simp only [List.map_toArray, List.map_cons, List.map_nil]); first | done | rfl | (simp only [List.length_drop, List.length_take]; rfl)) ?_; (with_reducible refine (haulierlaw13_Few.calls k _ _ l0 t159 _ ?side1 ?side2 A3.out).mono ?_); (case side1 => repeat (first | exact (Kd.C_below HR0.out HB.out) | (with_reducible refine Kd.C_alloc ?_ _) | (with_reducible refine Kd.C_drewN ?_ _) | (with_reducible refine Kd.C_drew ?_))); (case side2 => exact HC0.out); rintro e w' ⟨rfl, ⟨nd, rfl⟩⟩; refine ⟨_, rfl, ?_⟩))
 (try simp only [Act.put, List.setIfInBounds_toArray, List.set_cons_zero, List.set_cons_succ])
 go_cut [19] (fun v19 wc => ∃ (kq : Nat) (x19_3 : Bool), v19 = .bool x19_3 ∧ Aside0 (haulierlaw13_BetterFront.j0 kq l0 t158 x19_3 = some r) ∧ Aside0 (kq ≤ k) ∧ Aside0 (Below w.heap.size w wc))
 case first =>
  have H := HC4.out
  clear HC4
  by_cases c6 : t158 = true
  ·
   subst c6
   have H1 : (haulierlaw13_BetterFront.j0 k l0 true (!t159)) = some r := by rw [if_pos rfl] at H; exact H
   clear H
   have H := H1
   clear H1
   have H' := zqi H
   clear H
   go_wp2
   go_meet
   case rel => exact ⟨_, (!t159), (by first | rfl | (simp; done) | (simp [*]; done)), H', ⟨by first | omega | exact Nat.le_refl _⟩, ⟨by repeat (first | (with_reducible first | exact HB.out | apply zqg | apply zqf | apply zqh) | exact HB.out)⟩⟩
  ·
   replace c6 := Bool.eq_false_iff.mpr c6
   subst c6
   have H1 : (haulierlaw13_BetterFront.j0 k l0 false true) = some r := by rw [if_neg (show ¬ (false = true) by decide)] at H; exact H
   clear H
   have H := H1
   clear H1
   have H' := zqi H
   clear H
   go_wp2
   go_meet
   case rel => exact ⟨_, (true), (by first | rfl | (simp; done) | (simp [*]; done)), H', ⟨by first | omega | exact Nat.le_refl _⟩, ⟨by repeat (first | (with_reducible first | exact HB.out | apply zqg | apply zqf | apply zqh) | exact HB.out)⟩⟩
 case rest =>
  clear HC4
  try clear c1
  try clear p2
  try clear c6
  obtain ⟨kq, x19_3, rfl, HA, HJ3, HB⟩ := hcut
  cases kq with
  | zero => exact absurd HA.out (by simp [haulierlaw13_BetterFront.j0])
  | succ kj3 =>
   have H := HA.out
   clear HA
   simp only [haulierlaw13_BetterFront.j0] at H
   by_cases c7 : x19_3 = true
   ·
    subst c7
    have H1 : (some t158) = some r := by rw [if_pos rfl] at H; exact H
    clear H
    have H := H1
    clear H1
    obtain rfl := Option.some.inj H
    go_wp2
    go_ret
    exact ⟨by first | rfl | (simp [errW_none, errW_some] <;> rfl) | (simp [*, errW_none, errW_some] <;> rfl), by repeat (first | (with_reducible first | exact HB.out | apply zqg | apply zqf | apply zqh) | exact HB.out)⟩
   ·
    replace c7 := Bool.eq_false_iff.mpr c7
    subst c7
    have H1 : ((better_Front.f l0).bind fun t160 => (haulierlaw13_BetterFront.l0 kj3 l0 t160 0)) = some r := by rw [if_neg (show ¬ (false = true) by decide)] at H; exact H
    clear H
    have H := H1
    clear H1
    replace H := Option.bind_eq_some_iff.mp H
    obtain ⟨t160, A80, H⟩ := H
    replace H : (haulierlaw13_BetterFront.l0 kj3 l0 t160 0) = some r := H
    have A8 := zqi A80
    clear A80
    have H' := zqi H
    clear H
    go_wp2_with (first | ((with_reducible refine gate_callee (f := 19) rfl ?_); refine goesL_ (some 22) rfl rfl Try.func19 (by kernel_rfl) rfl #[.slice A0 l0.length c0] rfl (by (try simp only [List.map_toArray, List.map_cons, List.map_nil]); first | done | rfl | (simp only [List.length_drop, List.length_take]; rfl)) ?_; (with_reducible refine (better_Front.calls _ _ l0 t160 _ ?side1 ?side2 A8.out).mono ?_); (case side1 => repeat (first | exact (Kd.C_below HR0.out HB.out) | (with_reducible refine Kd.C_alloc ?_ _) | (with_reducible refine Kd.C_drewN ?_ _) | (with_reducible refine Kd.C_drew ?_))); (case side2 => exact HC0.out); rintro e w9 ⟨v161, rfl, ho0, hb⟩; refine ⟨_, rfl, ?_⟩; have n0_ := zqi (Kd.R_lower ho0 (below_size (zqn HB.out))); have n1_ := zqi (below_step (zqn HB.out) hb); clear HB; have HO162 := n0_; have HB := n1_; clear n0_ n1_; (try clear hb); (try clear hb2); (try clear hk); (try clear hi); (try clear ho0)))
    go_loopg [6] kj3 (fun kq v6 w' => ∃ (x6_2 : Int), v6 = .int .i64 x6_2 ∧ Aside0 (haulierlaw13_BetterFront.l0 kq l0 t160 x6_2 = some r) ∧ Aside0 (kq ≤ kj3) ∧ Aside0 (Kd.R k37 37 w' w.heap.size (fun _ => True) v161 t160) ∧ Aside0 (Below w.heap.size w w'))
    case atStart => exact ⟨(0), (by first | rfl | (simp; done) | (simp [*]; done)), H', ⟨Nat.le_refl _⟩, ⟨by (with_reducible repeat (first | apply Kd.R_alloc | apply Kd.R_drewN | apply Kd.R_drew)); exact HO162.out⟩, ⟨by repeat (first | (with_reducible first | exact HB.out | apply zqg | apply zqf | apply zqh) | exact HB.out)⟩⟩
    case round =>
     clear H'
     try clear c1
     try clear p2
     try clear c6
     try clear c7
     try clear c8
     try clear p2
     obtain ⟨x6_2, rfl, HA, HK2, HO_5, HB⟩ := hrel
     cases gk with
     | zero => exact absurd HA.out (by simp [haulierlaw13_BetterFront.l0])
     | succ k2 =>
      have H := HA.out
      clear HA
      simp only [haulierlaw13_BetterFront.l0] at H
      by_cases c10 : x6_2 < (l0.length : Int)
      ·
       rw [if_pos c10] at H
       have c10b0 : decide (x6_2 < (l0.length : Int)) = true := decide_eq_true c10
       clear c10
       have H' := zqi H
       clear H
       go_wp2
       go_loopg [7, 8] k2 (fun kq v7 v8 w' => ∃ (x7_3 : Bool) (x8_3 : Int), v7 = .bool x7_3 ∧ v8 = .int .i64 x8_3 ∧ Aside0 (haulierlaw13_BetterFront.l1 kq l0 t160 x6_2 x7_3 x8_3 = some r) ∧ Aside0 (kq ≤ k2) ∧ Aside0 (Kd.R k37 37 w' w.heap.size (fun _ => True) v161 t160) ∧ Aside0 (Below w.heap.size w w'))
       case atStart => exact ⟨(false), (0), (by first | rfl | (simp; done) | (simp [*]; done)), (by first | rfl | (simp; done) | (simp [*]; done)), H', ⟨Nat.le_refl _⟩, ⟨by (with_reducible repeat (first | apply Kd.R_alloc | apply Kd.R_drewN | apply Kd.R_drew)); exact HO_5.out⟩, ⟨by repeat (first | (with_reducible first | exact HB.out | apply zqg | apply zqf | apply zqh) | exact HB.out)⟩⟩
       case round =>
        clear H'
        try clear c1
        try clear p2
        try clear c6
        try clear c7
        try clear c8
        try clear c10
        try clear c10b0
        try clear p2
        obtain ⟨x7_3, x8_3, rfl, rfl, HA, HK3, HO_5, HB⟩ := hrel
        cases gk with
        | zero => exact absurd HA.out (by simp [haulierlaw13_BetterFront.l1])
        | succ k3 =>
         have H := HA.out
         clear HA
         simp only [haulierlaw13_BetterFront.l1] at H
         by_cases c11 : x8_3 < (t160.length : Int)
         ·
          rw [if_pos c11] at H
          have c11b0 : decide (x8_3 < (t160.length : Int)) = true := decide_eq_true c11
          clear c11
          by_cases c12 : x7_3 = true
          ·
           subst c12
           have H1 : (haulierlaw13_BetterFront.l1 k3 l0 t160 x6_2 true (wrap64 (x8_3 + 1))) = some r := by rw [if_pos rfl] at H; exact H
           clear H
           have H := H1
           clear H1
           have H' := zqi H
           clear H
           obtain ⟨Ao13, co13, eo13⟩ := Kd.R_slice HO_5.out
           subst eo13
           try go_wp2
           have n0_ := zqi (Kd.R_drew HO_5.out)
           have n1_ := zqi (zqh HB.out)
           clear HO_5
           clear HB
           have HO_5 := n0_
           have HB := n1_
           clear n0_ n1_
           refine start_ (n := 13) (S := fun w' => True) (ds := []) (zqB 13 0) (by kernel_rfl) rfl rfl trivial (fun hHeld => ?_); refine with_tabW haulierlaw13_BetterFront.tab13 haulierlaw13_BetterFront.bits13 (fun HT_ HW_ => ?_)
           generalize wr.drew = w14 at HO_5 HB hHeld ⊢
           refine zqp 0 (some 35) (zqB 13 1) (any_of HT_.out (by kernel_rfl)) (h := ?_)
           refine zqp 1 (some 36) (zqB 13 3) (any_of HT_.out (by kernel_rfl)) (h := ?_)
           refine zqu 2 (some 37) (zqB 13 7) (any_of HT_.out (by kernel_rfl)) (h := ?_)
           refine zqu 3 (some 38) (zqB 13 15) (any_of HT_.out (by kernel_rfl)) (h := ?_)
           refine zqu 4 (some 39) (zqB 13 31) (any_of HT_.out (by kernel_rfl)) (h := ?_)
           refine zqu 5 (some 40) (zqB 13 63) (any_of HT_.out (by kernel_rfl)) (h := ?_)
           refine zqu 6 (some 41) (zqB 13 127) (any_of HT_.out (by kernel_rfl)) (h := ?_)
           refine zqu 7 (some 42) (zqB 13 255) (any_of HT_.out (by kernel_rfl)) (h := ?_)
           refine zqu 8 (some 43) (zqB 13 511) (any_of HT_.out (by kernel_rfl)) (h := ?_)
           refine zqu 9 (some 44) (zqB 13 1023) (any_of HT_.out (by kernel_rfl)) (h := ?_)
           refine zqu 10 (some 45) (zqB 13 2047) (any_of HT_.out (by kernel_rfl)) (h := ?_)
           refine zqp 11 (some 46) (zqB 13 4095) (any_of HT_.out (by kernel_rfl)) (h := ?_)
           refine zqp 12 (some 7) (zqB 13 8191) (any_of HT_.out (by kernel_rfl)) (h := ?_)
           refine done_ (done_of HT_.out (by kernel_rfl)) ?_
           try go_wp2
           go_roundg k3
           case measure => have := HJ3.out; have := HK2.out; have := HK3.out; omega
           case rel => exact ⟨(true), (wrap64 (x8_3 + 1)), (by first | rfl | (simp; done) | (simp [*]; done)), (by first | rfl | (simp; done) | (simp [*]; done)), H', ⟨by have := HJ3.out; have := HK2.out; have := HK3.out; omega⟩, ⟨by (with_reducible repeat (first | apply Kd.R_alloc | apply Kd.R_drewN | apply Kd.R_drew)); exact HO_5.out⟩, ⟨by repeat (first | (with_reducible first | exact HB.out | apply zqg | apply zqf | apply zqh) | exact HB.out)⟩⟩
          ·
           replace c12 := Bool.eq_false_iff.mpr c12
           subst c12
           have H1 : (if 0 ≤ x8_3 then (if 0 ≤ x6_2 then (if x6_2 < (l0.length : Int) then ((better_Than.f ((rd_T37 t160 x8_3).f0.f0) ((rd_T37 t160 x8_3).f0.f1) ((rd_T37 t160 x8_3).f0.f2) ((rd_T37 t160 x8_3).f0.f3) ((rd_T37 t160 x8_3).f0.f4) ((rd_T37 t160 x8_3).f0.f5) ((rd_T37 t160 x8_3).f0.f6) ((rd_T37 t160 x8_3).f0.f7) ((rd_T37 t160 x8_3).f1) ((rd_T37 t160 x8_3).f2) ((rd_T37 l0 x6_2).f0.f0) ((rd_T37 l0 x6_2).f0.f1) ((rd_T37 l0 x6_2).f0.f2) ((rd_T37 l0 x6_2).f0.f3) ((rd_T37 l0 x6_2).f0.f4) ((rd_T37 l0 x6_2).f0.f5) ((rd_T37 l0 x6_2).f0.f6) ((rd_T37 l0 x6_2).f0.f7) ((rd_T37 l0 x6_2).f1) ((rd_T37 l0 x6_2).f2)).bind fun t165 => (haulierlaw13_BetterFront.l1 k3 l0 t160 x6_2 t165 (wrap64 (x8_3 + 1)))) else (none)) else (none)) else (none)) = some r := by rw [if_neg (show ¬ (false = true) by decide)] at H; exact H
           clear H
           have H := H1
           clear H1
           by_cases c15 : 0 ≤ x8_3
           ·
            rw [if_pos c15] at H
            have c15b0 : decide (0 ≤ x8_3) = true := decide_eq_true c15
            clear c15
            by_cases c16 : 0 ≤ x6_2
            ·
             rw [if_pos c16] at H
             have c16b0 : decide (0 ≤ x6_2) = true := decide_eq_true c16
             clear c16
             by_cases c17 : x6_2 < (l0.length : Int)
             ·
              rw [if_pos c17] at H
              have c17b0 : decide (x6_2 < (l0.length : Int)) = true := decide_eq_true c17
              clear c17
              replace H := Option.bind_eq_some_iff.mp H
              obtain ⟨t165, A180, H⟩ := H
              replace H : (haulierlaw13_BetterFront.l1 k3 l0 t160 x6_2 t165 (wrap64 (x8_3 + 1))) = some r := H
              have A18 := zqi A180
              clear A180
              have H' := zqi H
              clear H
              obtain ⟨Ao19, co19, eo19⟩ := Kd.R_slice HO_5.out
              subst eo19
              try go_wp2
              have n0_ := zqi (Kd.R_drew HO_5.out)
              have n1_ := zqi (zqh HB.out)
              clear HO_5
              clear HB
              have HO_5 := n0_
              have HB := n1_
              clear n0_ n1_
              have p163 : 0 ≤ (x8_3 : Int) := of_decide_eq_true (by first | (with_reducible assumption) | assumption)
              have q163 : x8_3 < (t160.length : Int) := of_decide_eq_true (by first | (with_reducible assumption) | assumption)
              obtain ⟨ad163, A163_9, c163_9, e163, hx163_0, hx163_1, hx163_2, hx163_3, hx163_4, hx163_5, hx163_6, hx163_7, hx163_8, hx163_9, hl163_9, hi163_9⟩ := at_T37 (Kd.R_reads' HO_5.out).2.2 x8_3 p163 q163
              cases e163
              obtain ⟨ce163, hce163, hMe163, hcc163⟩ := Kd.R_get HO_5.out z37 x8_3 p163 (by first | exact q163 | exact of_decide_eq_true (by first | (with_reducible assumption) | assumption) | (have e_ := (Kd.R_reads' HO_5.out).1; omega))
              obtain ⟨ve163_9, rfl, ge163_9⟩ := k37_openM hMe163
              have hv163_9 := hcc163 9 _ rfl
              rw [add_field _ _ 9 (by omega)] at hv163_9
              replace hv163_9 := Option.some.inj (hv163_9.symm.trans hx163_9)
              rw [hv163_9] at ge163_9
              have HL163_9 := zqi (show Kd.R (Kd.int .i64) 3 _ _ _ _ ((rd_T37 t160 x8_3).f2) from ge163_9)
              clear hv163_9 ge163_9
              clear hcc163 hce163
              have HR163_9 := zqi hi163_9
              have HC163_9 := zqi hl163_9
              clear hi163_9 hl163_9
              replace p163 := eq_true p163
              replace q163 := eq_true q163
              have p164 : 0 ≤ (x6_2 : Int) := of_decide_eq_true (by first | (with_reducible assumption) | assumption)
              have q164 : x6_2 < (l0.length : Int) := of_decide_eq_true (by first | (with_reducible assumption) | assumption)
              obtain ⟨ad164, A164_9, c164_9, e164, hx164_0, hx164_1, hx164_2, hx164_3, hx164_4, hx164_5, hx164_6, hx164_7, hx164_8, hx164_9, hl164_9, hi164_9⟩ := at_T37 HR0.out x6_2 p164 q164
              have hw164_9 := hx164_9
              have hw164_8 := hx164_8
              have hw164_7 := hx164_7
              have hw164_6 := hx164_6
              have hw164_5 := hx164_5
              have hw164_4 := hx164_4
              have hw164_3 := hx164_3
              have hw164_2 := hx164_2
              have hw164_1 := hx164_1
              have hw164_0 := hx164_0
              cases e164
              replace hx164_0 := (HB.out.cell (World.block_lt_of_cell? w _ hx164_0)).trans hx164_0
              replace hx164_1 := (HB.out.cell (World.block_lt_of_cell? w _ hx164_1)).trans hx164_1
              replace hx164_2 := (HB.out.cell (World.block_lt_of_cell? w _ hx164_2)).trans hx164_2
              replace hx164_3 := (HB.out.cell (World.block_lt_of_cell? w _ hx164_3)).trans hx164_3
              replace hx164_4 := (HB.out.cell (World.block_lt_of_cell? w _ hx164_4)).trans hx164_4
              replace hx164_5 := (HB.out.cell (World.block_lt_of_cell? w _ hx164_5)).trans hx164_5
              replace hx164_6 := (HB.out.cell (World.block_lt_of_cell? w _ hx164_6)).trans hx164_6
              replace hx164_7 := (HB.out.cell (World.block_lt_of_cell? w _ hx164_7)).trans hx164_7
              replace hx164_8 := (HB.out.cell (World.block_lt_of_cell? w _ hx164_8)).trans hx164_8
              replace hx164_9 := (HB.out.cell (World.block_lt_of_cell? w _ hx164_9)).trans hx164_9
              have HR164_9 := zqi hi164_9
              have HC164_9 := zqi hl164_9
              clear hi164_9 hl164_9
              replace p164 := eq_true p164
              replace q164 := eq_true q164
              refine start_ (n := 13) (S := fun w' => w'.cell? (ad163.add ((x8_3).toNat * 10)) = some (.int .i64 ((rd_T37 t160 x8_3).f0.f0)) ∧ w'.cell? ⟨(ad163.add ((x8_3).toNat * 10)).block, (ad163.add ((x8_3).toNat * 10)).off + 1, none⟩ = some (.int .i64 ((rd_T37 t160 x8_3).f0.f1)) ∧ w'.cell? ⟨(ad163.add ((x8_3).toNat * 10)).block, (ad163.add ((x8_3).toNat * 10)).off + 2, none⟩ = some (.int .i64 ((rd_T37 t160 x8_3).f0.f2)) ∧ w'.cell? ⟨(ad163.add ((x8_3).toNat * 10)).block, (ad163.add ((x8_3).toNat * 10)).off + 3, none⟩ = some (.int .i64 ((rd_T37 t160 x8_3).f0.f3)) ∧ w'.cell? ⟨(ad163.add ((x8_3).toNat * 10)).block, (ad163.add ((x8_3).toNat * 10)).off + 4, none⟩ = some (.int .i64 ((rd_T37 t160 x8_3).f0.f4)) ∧ w'.cell? ⟨(ad163.add ((x8_3).toNat * 10)).block, (ad163.add ((x8_3).toNat * 10)).off + 5, none⟩ = some (.int .u64 ((rd_T37 t160 x8_3).f0.f5)) ∧ w'.cell? ⟨(ad163.add ((x8_3).toNat * 10)).block, (ad163.add ((x8_3).toNat * 10)).off + 6, none⟩ = some (.int .u64 ((rd_T37 t160 x8_3).f0.f6)) ∧ w'.cell? ⟨(ad163.add ((x8_3).toNat * 10)).block, (ad163.add ((x8_3).toNat * 10)).off + 7, none⟩ = some (.int .u64 ((rd_T37 t160 x8_3).f0.f7)) ∧ w'.cell? ⟨(ad163.add ((x8_3).toNat * 10)).block, (ad163.add ((x8_3).toNat * 10)).off + 8, none⟩ = some (.int .i64 ((rd_T37 t160 x8_3).f1)) ∧ w'.cell? ⟨(ad163.add ((x8_3).toNat * 10)).block, (ad163.add ((x8_3).toNat * 10)).off + 9, none⟩ = some (.slice A163_9 ((rd_T37 t160 x8_3).f2).length c163_9) ∧ w'.cell? (ad164.add ((x6_2).toNat * 10)) = some (.int .i64 ((rd_T37 l0 x6_2).f0.f0)) ∧ w'.cell? ⟨(ad164.add ((x6_2).toNat * 10)).block, (ad164.add ((x6_2).toNat * 10)).off + 1, none⟩ = some (.int .i64 ((rd_T37 l0 x6_2).f0.f1)) ∧ w'.cell? ⟨(ad164.add ((x6_2).toNat * 10)).block, (ad164.add ((x6_2).toNat * 10)).off + 2, none⟩ = some (.int .i64 ((rd_T37 l0 x6_2).f0.f2)) ∧ w'.cell? ⟨(ad164.add ((x6_2).toNat * 10)).block, (ad164.add ((x6_2).toNat * 10)).off + 3, none⟩ = some (.int .i64 ((rd_T37 l0 x6_2).f0.f3)) ∧ w'.cell? ⟨(ad164.add ((x6_2).toNat * 10)).block, (ad164.add ((x6_2).toNat * 10)).off + 4, none⟩ = some (.int .i64 ((rd_T37 l0 x6_2).f0.f4)) ∧ w'.cell? ⟨(ad164.add ((x6_2).toNat * 10)).block, (ad164.add ((x6_2).toNat * 10)).off + 5, none⟩ = some (.int .u64 ((rd_T37 l0 x6_2).f0.f5)) ∧ w'.cell? ⟨(ad164.add ((x6_2).toNat * 10)).block, (ad164.add ((x6_2).toNat * 10)).off + 6, none⟩ = some (.int .u64 ((rd_T37 l0 x6_2).f0.f6)) ∧ w'.cell? ⟨(ad164.add ((x6_2).toNat * 10)).block, (ad164.add ((x6_2).toNat * 10)).off + 7, none⟩ = some (.int .u64 ((rd_T37 l0 x6_2).f0.f7)) ∧ w'.cell? ⟨(ad164.add ((x6_2).toNat * 10)).block, (ad164.add ((x6_2).toNat * 10)).off + 8, none⟩ = some (.int .i64 ((rd_T37 l0 x6_2).f1)) ∧ w'.cell? ⟨(ad164.add ((x6_2).toNat * 10)).block, (ad164.add ((x6_2).toNat * 10)).off + 9, none⟩ = some (.slice A164_9 ((rd_T37 l0 x6_2).f2).length c164_9)) (ds := []) (zqB 13 0) (by kernel_rfl) rfl rfl ⟨hx163_0, hx163_1, hx163_2, hx163_3, hx163_4, hx163_5, hx163_6, hx163_7, hx163_8, hx163_9, ((HB.out.cell (World.block_lt_of_cell? w _ hw164_0)).trans hw164_0), ((HB.out.cell (World.block_lt_of_cell? w _ hw164_1)).trans hw164_1), ((HB.out.cell (World.block_lt_of_cell? w _ hw164_2)).trans hw164_2), ((HB.out.cell (World.block_lt_of_cell? w _ hw164_3)).trans hw164_3), ((HB.out.cell (World.block_lt_of_cell? w _ hw164_4)).trans hw164_4), ((HB.out.cell (World.block_lt_of_cell? w _ hw164_5)).trans hw164_5), ((HB.out.cell (World.block_lt_of_cell? w _ hw164_6)).trans hw164_6), ((HB.out.cell (World.block_lt_of_cell? w _ hw164_7)).trans hw164_7), ((HB.out.cell (World.block_lt_of_cell? w _ hw164_8)).trans hw164_8), ((HB.out.cell (World.block_lt_of_cell? w _ hw164_9)).trans hw164_9)⟩ (fun hHeld => ?_); refine with_tabW haulierlaw13_BetterFront.tab13 haulierlaw13_BetterFront.bits13 (fun HT_ HW_ => ?_)
              generalize wr.drew = w20 at HO_5 HB HL163_9 HR163_9 HR164_9 hx163_0 hx163_1 hx163_2 hx163_3 hx163_4 hx163_5 hx163_6 hx163_7 hx163_8 hx163_9 hx164_0 hx164_1 hx164_2 hx164_3 hx164_4 hx164_5 hx164_6 hx164_7 hx164_8 hx164_9 hHeld ⊢
              refine zqp 0 (some 35) (zqB 13 1) (any_of HT_.out (by kernel_rfl)) (h := ?_)
              refine zqp 1 (some 36) (zqB 13 3) (any_of HT_.out (by kernel_rfl)) (h := ?_)
              refine zqp 2 (some 37) (zqB 13 7) (any_of HT_.out (by kernel_rfl)) (h := ?_)
              refine zqp 3 (some 38) (zqB 13 15) (any_of HT_.out (by kernel_rfl)) (h := ?_)
              refine zqp 4 (some 39) (zqB 13 31) (any_of HT_.out (by kernel_rfl)) (h := ?_)
              refine zqp 6 (some 41) (zqB 13 95) (any_of HT_.out (by kernel_rfl)) (h := ?_)
              refine zqp 7 (some 42) (zqB 13 223) (any_of HT_.out (by kernel_rfl)) (h := ?_)
              refine zqp 8 (some 43) (zqB 13 479) (any_of HT_.out (by kernel_rfl)) (h := ?_)
              refine zqt 5 (some 40) (zqB 13 511) (take_ofW HT_.out HW_.out (by kernel_rfl)) hHeld (h := ?_)
              refine zqt 9 (some 44) (zqB 13 1023) (take_ofW HT_.out HW_.out (by kernel_rfl)) hHeld (h := ?_)
              refine one_ (i := 10) (N := some 45) (zqB 13 2047) rfl rfl (one_of HT_.out (by kernel_rfl)) (by decide) (fun K hK => ?_)
              refine goes_ Try.func21 (by kernel_rfl) rfl #[.agg #[.int .i64 ((rd_T37 t160 x8_3).f0.f0), .int .i64 ((rd_T37 t160 x8_3).f0.f1), .int .i64 ((rd_T37 t160 x8_3).f0.f2), .int .i64 ((rd_T37 t160 x8_3).f0.f3), .int .i64 ((rd_T37 t160 x8_3).f0.f4), .int .u64 ((rd_T37 t160 x8_3).f0.f5), .int .u64 ((rd_T37 t160 x8_3).f0.f6), .int .u64 ((rd_T37 t160 x8_3).f0.f7), .int .i64 ((rd_T37 t160 x8_3).f1), .slice A163_9 ((rd_T37 t160 x8_3).f2).length c163_9], .agg #[.int .i64 ((rd_T37 l0 x6_2).f0.f0), .int .i64 ((rd_T37 l0 x6_2).f0.f1), .int .i64 ((rd_T37 l0 x6_2).f0.f2), .int .i64 ((rd_T37 l0 x6_2).f0.f3), .int .i64 ((rd_T37 l0 x6_2).f0.f4), .int .u64 ((rd_T37 l0 x6_2).f0.f5), .int .u64 ((rd_T37 l0 x6_2).f0.f6), .int .u64 ((rd_T37 l0 x6_2).f0.f7), .int .i64 ((rd_T37 l0 x6_2).f1), .slice A164_9 ((rd_T37 l0 x6_2).f2).length c164_9]] (by rfl) rfl rfl (by (try simp only [List.map_toArray, List.map_cons, List.map_nil]); first | done | rfl | (simp only [List.length_drop, List.length_take]; rfl)) ?_
              with_reducible refine (better_Than.calls ((rd_T37 t160 x8_3).f0.f0) ((rd_T37 t160 x8_3).f0.f1) ((rd_T37 t160 x8_3).f0.f2) ((rd_T37 t160 x8_3).f0.f3) ((rd_T37 t160 x8_3).f0.f4) ((rd_T37 t160 x8_3).f0.f5) ((rd_T37 t160 x8_3).f0.f6) ((rd_T37 t160 x8_3).f0.f7) ((rd_T37 t160 x8_3).f1) _ _ ((rd_T37 t160 x8_3).f2) ((rd_T37 l0 x6_2).f0.f0) ((rd_T37 l0 x6_2).f0.f1) ((rd_T37 l0 x6_2).f0.f2) ((rd_T37 l0 x6_2).f0.f3) ((rd_T37 l0 x6_2).f0.f4) ((rd_T37 l0 x6_2).f0.f5) ((rd_T37 l0 x6_2).f0.f6) ((rd_T37 l0 x6_2).f0.f7) ((rd_T37 l0 x6_2).f1) _ _ ((rd_T37 l0 x6_2).f2) t165 _ ?side1 ?side2 ?side3 ?side4 A18.out).mono ?_
              (case side1 => repeat (first | exact (by repeat (first | (with_reducible exact HR163_9.out) | (with_reducible refine Kd.C_alloc ?_ _) | (with_reducible refine Kd.C_drewN ?_ _) | (with_reducible refine Kd.C_drew ?_) | exact HR163_9.out)) | (with_reducible refine Kd.C_alloc ?_ _) | (with_reducible refine Kd.C_drewN ?_ _) | (with_reducible refine Kd.C_drew ?_)))
              (case side2 => exact HC163_9.out)
              (case side3 => repeat (first | exact (Kd.C_below HR164_9.out HB.out) | (with_reducible refine Kd.C_alloc ?_ _) | (with_reducible refine Kd.C_drewN ?_ _) | (with_reducible refine Kd.C_drew ?_)))
              (case side4 => exact HC164_9.out)
              rintro e w21 ⟨rfl, hb⟩
              have HS0_ := (hb.cell (World.block_lt_of_cell? _ _ (hHeld.1))).trans (hHeld.1)
              have HS1_ := (hb.cell (World.block_lt_of_cell? _ _ (hHeld.2.1))).trans (hHeld.2.1)
              have HS2_ := (hb.cell (World.block_lt_of_cell? _ _ (hHeld.2.2.1))).trans (hHeld.2.2.1)
              have HS3_ := (hb.cell (World.block_lt_of_cell? _ _ (hHeld.2.2.2.1))).trans (hHeld.2.2.2.1)
              have HS4_ := (hb.cell (World.block_lt_of_cell? _ _ (hHeld.2.2.2.2.1))).trans (hHeld.2.2.2.2.1)
              have HS5_ := (hb.cell (World.block_lt_of_cell? _ _ (hHeld.2.2.2.2.2.1))).trans (hHeld.2.2.2.2.2.1)
              have HS6_ := (hb.cell (World.block_lt_of_cell? _ _ (hHeld.2.2.2.2.2.2.1))).trans (hHeld.2.2.2.2.2.2.1)
              have HS7_ := (hb.cell (World.block_lt_of_cell? _ _ (hHeld.2.2.2.2.2.2.2.1))).trans (hHeld.2.2.2.2.2.2.2.1)
              have HS8_ := (hb.cell (World.block_lt_of_cell? _ _ (hHeld.2.2.2.2.2.2.2.2.1))).trans (hHeld.2.2.2.2.2.2.2.2.1)
              have HS9_ := (hb.cell (World.block_lt_of_cell? _ _ (hHeld.2.2.2.2.2.2.2.2.2.1))).trans (hHeld.2.2.2.2.2.2.2.2.2.1)
              refine ⟨_, rfl, ?_⟩
              have n0_ := zqi (Kd.R_below (by (with_reducible repeat (first | apply Kd.R_alloc | apply Kd.R_drewN | apply Kd.R_drew)); exact HO_5.out) hb)
              have n1_ := zqi (Kd.R_below (by (with_reducible repeat (first | apply Kd.R_alloc | apply Kd.R_drewN | apply Kd.R_drew)); exact HL163_9.out) hb)
              have n2_ := zqi (Kd.C_below (by repeat (first | (with_reducible exact HR163_9.out) | (with_reducible refine Kd.C_alloc ?_ _) | (with_reducible refine Kd.C_drewN ?_ _) | (with_reducible refine Kd.C_drew ?_) | exact HR163_9.out)) hb)
              have n3_ := zqi (below_step (zqn HB.out) hb)
              clear HO_5
              clear HL163_9
              clear HR163_9
              clear HB
              have HO_5 := n0_
              have HL163_9 := n1_
              have HR163_9 := n2_
              have HB := n3_
              clear n0_ n1_ n2_ n3_
              (try clear hb)
              (try clear hb2)
              (try clear hk)
              (try clear hi)
              refine hK.out _ _ ⟨HS0_, HS1_, HS2_, HS3_, HS4_, HS5_, HS6_, HS7_, HS8_, HS9_, ((HB.out.cell (World.block_lt_of_cell? w _ hw164_0)).trans hw164_0), ((HB.out.cell (World.block_lt_of_cell? w _ hw164_1)).trans hw164_1), ((HB.out.cell (World.block_lt_of_cell? w _ hw164_2)).trans hw164_2), ((HB.out.cell (World.block_lt_of_cell? w _ hw164_3)).trans hw164_3), ((HB.out.cell (World.block_lt_of_cell? w _ hw164_4)).trans hw164_4), ((HB.out.cell (World.block_lt_of_cell? w _ hw164_5)).trans hw164_5), ((HB.out.cell (World.block_lt_of_cell? w _ hw164_6)).trans hw164_6), ((HB.out.cell (World.block_lt_of_cell? w _ hw164_7)).trans hw164_7), ((HB.out.cell (World.block_lt_of_cell? w _ hw164_8)).trans hw164_8), ((HB.out.cell (World.block_lt_of_cell? w _ hw164_9)).trans hw164_9)⟩ (fun hHeld => ?_)
              clear hK K
              refine norm_ (a' := ?_) ?_ ?_
              rotate_left
              ·
               show Act.put _ (some 45) _ = _
               simp only [Act.put, List.setIfInBounds_toArray, List.set_cons_zero, List.set_cons_succ, i64_w, i32_w]
               rfl
              refine zqp 11 (some 46) (zqB 13 4095) (any_of HT_.out (by kernel_rfl)) (h := ?_)
              refine zqp 12 (some 7) (zqB 13 8191) (any_of HT_.out (by kernel_rfl)) (h := ?_)
              refine done_ (done_of HT_.out (by kernel_rfl)) ?_
              try go_wp2
              go_roundg k3
              case measure => have := HJ3.out; have := HK2.out; have := HK3.out; omega
              case rel => exact ⟨(t165), (wrap64 (x8_3 + 1)), (by first | rfl | (simp; done) | (simp [*]; done)), (by first | rfl | (simp; done) | (simp [*]; done)), H', ⟨by have := HJ3.out; have := HK2.out; have := HK3.out; omega⟩, ⟨by (with_reducible repeat (first | apply Kd.R_alloc | apply Kd.R_drewN | apply Kd.R_drew)); exact HO_5.out⟩, ⟨by repeat (first | (with_reducible first | exact HB.out | apply zqg | apply zqf | apply zqh) | exact HB.out)⟩⟩
             ·
              rw [if_neg c17] at H
              exact absurd H (by simp)
            ·
             rw [if_neg c16] at H
             exact absurd H (by simp)
           ·
            rw [if_neg c15] at H
            exact absurd H (by simp)
         ·
          rw [if_neg c11] at H
          have c11b0 : decide (x8_3 < (t160.length : Int)) = false := decide_eq_false c11
          clear c11
          by_cases c22 : x7_3 = true
          ·
           subst c22
           have H1 : (haulierlaw13_BetterFront.l0 k3 l0 t160 (wrap64 (x6_2 + 1))) = some r := by rw [if_pos rfl] at H; exact H
           clear H
           have H := H1
           clear H1
           have H' := zqi H
           clear H
           obtain ⟨Ao23, co23, eo23⟩ := Kd.R_slice HO_5.out
           subst eo23
           go_wp2
           go_roundg k3
           case measure => have := HJ3.out; have := HK2.out; have := HK3.out; omega
           case rel => exact ⟨(wrap64 (x6_2 + 1)), (by first | rfl | (simp; done) | (simp [*]; done)), H', ⟨by have := HJ3.out; have := HK2.out; have := HK3.out; omega⟩, ⟨by (with_reducible repeat (first | apply Kd.R_alloc | apply Kd.R_drewN | apply Kd.R_drew)); exact HO_5.out⟩, ⟨by repeat (first | (with_reducible first | exact HB.out | apply zqg | apply zqf | apply zqh) | exact HB.out)⟩⟩
          ·
           replace c22 := Bool.eq_false_iff.mpr c22
           subst c22
           have H1 : (none) = some r := by rw [if_neg (show ¬ (false = true) by decide)] at H; exact H
           clear H
           have H := H1
           clear H1
           exact absurd H (by simp)
      ·
       rw [if_neg c10] at H
       have c10b0 : decide (x6_2 < (l0.length : Int)) = false := decide_eq_false c10
       clear c10
       have H' := zqi H
       clear H
       go_wp2
       go_loopg [9] k2 (fun kq v9 w' => ∃ (x9_3 : Int), v9 = .int .i64 x9_3 ∧ Aside0 (haulierlaw13_BetterFront.l2 kq l0 t160 x9_3 = some r) ∧ Aside0 (kq ≤ k2) ∧ Aside0 (Kd.R k37 37 w' w.heap.size (fun _ => True) v161 t160) ∧ Aside0 (Below w.heap.size w w'))
       case atStart => exact ⟨(0), (by first | rfl | (simp; done) | (simp [*]; done)), H', ⟨Nat.le_refl _⟩, ⟨by (with_reducible repeat (first | apply Kd.R_alloc | apply Kd.R_drewN | apply Kd.R_drew)); exact HO_5.out⟩, ⟨by repeat (first | (with_reducible first | exact HB.out | apply zqg | apply zqf | apply zqh) | exact HB.out)⟩⟩
       case round =>
        clear H'
        try clear c1
        try clear p1
        try clear q1
        try clear hx1
        try clear c2
        try clear p2
        try clear c6
        try clear p6
        try clear c7
        try clear c8
        try clear c10
        try clear c10b0
        try clear c11
        try clear c11b0
        try clear c12
        try clear c15
        try clear c15b0
        try clear c16
        try clear c16b0
        try clear p16
        try clear q16
        try clear hx16
        try clear c17
        try clear c17b0
        try clear c19
        try clear c21
        try clear c22
        try clear hx163_0
        try clear hx163_1
        try clear hx163_2
        try clear hx163_3
        try clear hx163_4
        try clear hx163_5
        try clear hx163_6
        try clear hx163_7
        try clear hx163_8
        try clear hx163_9
        try clear hx164_0
        try clear hx164_1
        try clear hx164_2
        try clear hx164_3
        try clear hx164_4
        try clear hx164_5
        try clear hx164_6
        try clear hx164_7
        try clear hx164_8
        try clear hx164_9
        try clear p163
        try clear p164
        try clear p2
        try clear q163
        try clear q164
        obtain ⟨x9_3, rfl, HA, HK3, HO_5, HB⟩ := hrel
        cases gk with
        | zero => exact absurd HA.out (by simp [haulierlaw13_BetterFront.l2])
        | succ k3 =>
         have H := HA.out
         clear HA
         simp only [haulierlaw13_BetterFront.l2] at H
         by_cases c24 : x9_3 < (t160.length : Int)
         ·
          rw [if_pos c24] at H
          have c24b0 : decide (x9_3 < (t160.length : Int)) = true := decide_eq_true c24
          clear c24
          have H' := zqi H
          clear H
          obtain ⟨Ao25, co25, eo25⟩ := Kd.R_slice HO_5.out
          subst eo25
          go_wp2
          go_loopg [10] k3 (fun kq v10 w' => ∃ (x10_4 : Int), v10 = .int .i64 x10_4 ∧ Aside0 (haulierlaw13_BetterFront.l3 kq l0 t160 x9_3 x10_4 = some r) ∧ Aside0 (kq ≤ k3) ∧ Aside0 (Kd.R k37 37 w' w.heap.size (fun _ => True) (.slice Ao25 t160.length co25) t160) ∧ Aside0 (Below w.heap.size w w'))
          case atStart => exact ⟨(0), (by first | rfl | (simp; done) | (simp [*]; done)), H', ⟨Nat.le_refl _⟩, ⟨by (with_reducible repeat (first | apply Kd.R_alloc | apply Kd.R_drewN | apply Kd.R_drew)); exact HO_5.out⟩, ⟨by repeat (first | (with_reducible first | exact HB.out | apply zqg | apply zqf | apply zqh) | exact HB.out)⟩⟩
          case round =>
           clear H'
           try clear c1
           try clear p1
           try clear q1
           try clear hx1
           try clear c2
           try clear p2
           try clear c6
           try clear p6
           try clear c7
           try clear c8
           try clear c10
           try clear c10b0
           try clear c11
           try clear c11b0
           try clear c12
           try clear c15
           try clear c15b0
           try clear c16
           try clear c16b0
           try clear p16
           try clear q16
           try clear hx16
           try clear c17
           try clear c17b0
           try clear c19
           try clear c21
           try clear c22
           try clear c24
           try clear c24b0
           try clear hx163_0
           try clear hx163_1
           try clear hx163_2
           try clear hx163_3
           try clear hx163_4
           try clear hx163_5
           try clear hx163_6
           try clear hx163_7
           try clear hx163_8
           try clear hx163_9
           try clear hx164_0
           try clear hx164_1
           try clear hx164_2
           try clear hx164_3
           try clear hx164_4
           try clear hx164_5
           try clear hx164_6
           try clear hx164_7
           try clear hx164_8
           try clear hx164_9
           try clear p1
           try clear p16
           try clear p163
           try clear p164
           try clear p2
           try clear p6
           try clear q1
           try clear q16
           try clear q163
           try clear q164
           obtain ⟨x10_4, rfl, HA, HK4, HO_5, HB⟩ := hrel
           cases gk with
           | zero => exact absurd HA.out (by simp [haulierlaw13_BetterFront.l3])
           | succ k4 =>
            have H := HA.out
            clear HA
            simp only [haulierlaw13_BetterFront.l3] at H
            by_cases c26 : x10_4 < (t160.length : Int)
            ·
             rw [if_pos c26] at H
             have c26b0 : decide (x10_4 < (t160.length : Int)) = true := decide_eq_true c26
             clear c26
             by_cases c27 : x10_4 = x9_3
             ·
              rw [if_pos c27] at H
              have c27b0 : (x10_4 == x9_3) = true := beq_iff_eq.mpr c27
              have c27b1 : (x10_4 != x9_3) = false := bne_eq_false_iff_eq.mpr c27
              clear c27
              have H' := zqi H
              clear H
              try go_wp2
              have n0_ := zqi (Kd.R_drew HO_5.out)
              have n1_ := zqi (zqh HB.out)
              clear HO_5
              clear HB
              have HO_5 := n0_
              have HB := n1_
              clear n0_ n1_
              refine start_ (n := 14) (S := fun w' => True) (ds := []) (zqB 14 0) (by kernel_rfl) rfl rfl trivial (fun hHeld => ?_); refine with_tabW haulierlaw13_BetterFront.tab22 haulierlaw13_BetterFront.bits22 (fun HT_ HW_ => ?_)
              generalize wr.drew = w28 at HO_5 HB hHeld ⊢
              refine zqp 0 (some 61) (zqB 14 1) (any_of HT_.out (by kernel_rfl)) (h := ?_)
              refine zqp 1 (some 62) (zqB 14 3) (any_of HT_.out (by kernel_rfl)) (h := ?_)
              refine zqp 2 (some 63) (zqB 14 7) (any_of HT_.out (by kernel_rfl)) (h := ?_)
              refine zqp 3 (some 64) (zqB 14 15) (any_of HT_.out (by kernel_rfl)) (h := ?_)
              refine zqu 4 (some 65) (zqB 14 31) (any_of HT_.out (by kernel_rfl)) (h := ?_)
              refine zqu 5 (some 66) (zqB 14 63) (any_of HT_.out (by kernel_rfl)) (h := ?_)
              refine zqu 6 (some 67) (zqB 14 127) (any_of HT_.out (by kernel_rfl)) (h := ?_)
              refine zqu 7 (some 68) (zqB 14 255) (any_of HT_.out (by kernel_rfl)) (h := ?_)
              refine zqu 8 (some 69) (zqB 14 511) (any_of HT_.out (by kernel_rfl)) (h := ?_)
              refine zqu 9 (some 70) (zqB 14 1023) (any_of HT_.out (by kernel_rfl)) (h := ?_)
              refine zqu 10 (some 71) (zqB 14 2047) (any_of HT_.out (by kernel_rfl)) (h := ?_)
              refine zqu 11 (some 72) (zqB 14 4095) (any_of HT_.out (by kernel_rfl)) (h := ?_)
              refine zqu 12 (some 73) (zqB 14 8191) (any_of HT_.out (by kernel_rfl)) (h := ?_)
              refine zqp 13 (some 74) (zqB 14 16383) (any_of HT_.out (by kernel_rfl)) (h := ?_)
              refine done_ (done_of HT_.out (by kernel_rfl)) ?_
              try go_wp2
              go_roundg k4
              case measure => have := HJ3.out; have := HK2.out; have := HK3.out; have := HK4.out; omega
              case rel => exact ⟨(wrap64 (x10_4 + 1)), (by first | rfl | (simp; done) | (simp [*]; done)), H', ⟨by have := HJ3.out; have := HK2.out; have := HK3.out; have := HK4.out; omega⟩, ⟨by (with_reducible repeat (first | apply Kd.R_alloc | apply Kd.R_drewN | apply Kd.R_drew)); exact HO_5.out⟩, ⟨by repeat (first | (with_reducible first | exact HB.out | apply zqg | apply zqf | apply zqh) | exact HB.out)⟩⟩
             ·
              rw [if_neg c27] at H
              have c27b0 : (x10_4 == x9_3) = false := beq_eq_false_iff_ne.mpr c27
              have c27b1 : (x10_4 != x9_3) = true := bne_iff_ne.mpr c27
              by_cases c29 : 0 ≤ x10_4
              ·
               rw [if_pos c29] at H
               have c29b0 : decide (0 ≤ x10_4) = true := decide_eq_true c29
               clear c29
               by_cases c30 : 0 ≤ x9_3
               ·
                rw [if_pos c30] at H
                have c30b0 : decide (0 ≤ x9_3) = true := decide_eq_true c30
                clear c30
                by_cases c31 : x9_3 < (t160.length : Int)
                ·
                 rw [if_pos c31] at H
                 have c31b0 : decide (x9_3 < (t160.length : Int)) = true := decide_eq_true c31
                 clear c31
                 replace H := Option.bind_eq_some_iff.mp H
                 obtain ⟨t168, A320, H⟩ := H
                 replace H : (if t168 = true then (none) else (haulierlaw13_BetterFront.l3 k4 l0 t160 x9_3 (wrap64 (x10_4 + 1)))) = some r := H
                 have A32 := zqi A320
                 clear A320
                 by_cases c33 : t168 = true
                 ·
                  subst c33
                  have H1 : (none) = some r := by rw [if_pos rfl] at H; exact H
                  clear H
                  have H := H1
                  clear H1
                  exact absurd H (by simp)
                 ·
                  replace c33 := Bool.eq_false_iff.mpr c33
                  subst c33
                  have H1 : (haulierlaw13_BetterFront.l3 k4 l0 t160 x9_3 (wrap64 (x10_4 + 1))) = some r := by rw [if_neg (show ¬ (false = true) by decide)] at H; exact H
                  clear H
                  have H := H1
                  clear H1
                  have H' := zqi H
                  clear H
                  try go_wp2
                  have n0_ := zqi (Kd.R_drew HO_5.out)
                  have n1_ := zqi (zqh HB.out)
                  clear HO_5
                  clear HB
                  have HO_5 := n0_
                  have HB := n1_
                  clear n0_ n1_
                  have p166 : 0 ≤ (x10_4 : Int) := of_decide_eq_true (by first | (with_reducible assumption) | assumption)
                  have q166 : x10_4 < (t160.length : Int) := of_decide_eq_true (by first | (with_reducible assumption) | assumption)
                  obtain ⟨ad166, A166_9, c166_9, e166, hx166_0, hx166_1, hx166_2, hx166_3, hx166_4, hx166_5, hx166_6, hx166_7, hx166_8, hx166_9, hl166_9, hi166_9⟩ := at_T37 (Kd.R_reads' HO_5.out).2.2 x10_4 p166 q166
                  cases e166
                  obtain ⟨ce166, hce166, hMe166, hcc166⟩ := Kd.R_get HO_5.out z37 x10_4 p166 (by first | exact q166 | exact of_decide_eq_true (by first | (with_reducible assumption) | assumption) | (have e_ := (Kd.R_reads' HO_5.out).1; omega))
                  obtain ⟨ve166_9, rfl, ge166_9⟩ := k37_openM hMe166
                  have hv166_9 := hcc166 9 _ rfl
                  rw [add_field _ _ 9 (by omega)] at hv166_9
                  replace hv166_9 := Option.some.inj (hv166_9.symm.trans hx166_9)
                  rw [hv166_9] at ge166_9
                  have HL166_9 := zqi (show Kd.R (Kd.int .i64) 3 _ _ _ _ ((rd_T37 t160 x10_4).f2) from ge166_9)
                  clear hv166_9 ge166_9
                  clear hcc166 hce166
                  have HR166_9 := zqi hi166_9
                  have HC166_9 := zqi hl166_9
                  clear hi166_9 hl166_9
                  replace p166 := eq_true p166
                  replace q166 := eq_true q166
                  have p167 : 0 ≤ (x9_3 : Int) := of_decide_eq_true (by first | (with_reducible assumption) | assumption)
                  have q167 : x9_3 < (t160.length : Int) := of_decide_eq_true (by first | (with_reducible assumption) | assumption)
                  obtain ⟨ad167, A167_9, c167_9, e167, hx167_0, hx167_1, hx167_2, hx167_3, hx167_4, hx167_5, hx167_6, hx167_7, hx167_8, hx167_9, hl167_9, hi167_9⟩ := at_T37 (Kd.R_reads' HO_5.out).2.2 x9_3 p167 q167
                  obtain rfl : ad166 = ad167 := (by injection e167)
                  obtain ⟨ce167, hce167, hMe167, hcc167⟩ := Kd.R_get HO_5.out z37 x9_3 p167 (by first | exact q167 | exact of_decide_eq_true (by first | (with_reducible assumption) | assumption) | (have e_ := (Kd.R_reads' HO_5.out).1; omega))
                  obtain ⟨ve167_9, rfl, ge167_9⟩ := k37_openM hMe167
                  have hv167_9 := hcc167 9 _ rfl
                  rw [add_field _ _ 9 (by omega)] at hv167_9
                  replace hv167_9 := Option.some.inj (hv167_9.symm.trans hx167_9)
                  rw [hv167_9] at ge167_9
                  have HL167_9 := zqi (show Kd.R (Kd.int .i64) 3 _ _ _ _ ((rd_T37 t160 x9_3).f2) from ge167_9)
                  clear hv167_9 ge167_9
                  clear hcc167 hce167
                  have HR167_9 := zqi hi167_9
                  have HC167_9 := zqi hl167_9
                  clear hi167_9 hl167_9
                  replace p167 := eq_true p167
                  replace q167 := eq_true q167
                  refine start_ (n := 14) (S := fun w' => w'.cell? (ad166.add ((x10_4).toNat * 10)) = some (.int .i64 ((rd_T37 t160 x10_4).f0.f0)) ∧ w'.cell? ⟨(ad166.add ((x10_4).toNat * 10)).block, (ad166.add ((x10_4).toNat * 10)).off + 1, none⟩ = some (.int .i64 ((rd_T37 t160 x10_4).f0.f1)) ∧ w'.cell? ⟨(ad166.add ((x10_4).toNat * 10)).block, (ad166.add ((x10_4).toNat * 10)).off + 2, none⟩ = some (.int .i64 ((rd_T37 t160 x10_4).f0.f2)) ∧ w'.cell? ⟨(ad166.add ((x10_4).toNat * 10)).block, (ad166.add ((x10_4).toNat * 10)).off + 3, none⟩ = some (.int .i64 ((rd_T37 t160 x10_4).f0.f3)) ∧ w'.cell? ⟨(ad166.add ((x10_4).toNat * 10)).block, (ad166.add ((x10_4).toNat * 10)).off + 4, none⟩ = some (.int .i64 ((rd_T37 t160 x10_4).f0.f4)) ∧ w'.cell? ⟨(ad166.add ((x10_4).toNat * 10)).block, (ad166.add ((x10_4).toNat * 10)).off + 5, none⟩ = some (.int .u64 ((rd_T37 t160 x10_4).f0.f5)) ∧ w'.cell? ⟨(ad166.add ((x10_4).toNat * 10)).block, (ad166.add ((x10_4).toNat * 10)).off + 6, none⟩ = some (.int .u64 ((rd_T37 t160 x10_4).f0.f6)) ∧ w'.cell? ⟨(ad166.add ((x10_4).toNat * 10)).block, (ad166.add ((x10_4).toNat * 10)).off + 7, none⟩ = some (.int .u64 ((rd_T37 t160 x10_4).f0.f7)) ∧ w'.cell? ⟨(ad166.add ((x10_4).toNat * 10)).block, (ad166.add ((x10_4).toNat * 10)).off + 8, none⟩ = some (.int .i64 ((rd_T37 t160 x10_4).f1)) ∧ w'.cell? ⟨(ad166.add ((x10_4).toNat * 10)).block, (ad166.add ((x10_4).toNat * 10)).off + 9, none⟩ = some (.slice A166_9 ((rd_T37 t160 x10_4).f2).length c166_9) ∧ w'.cell? (ad166.add ((x9_3).toNat * 10)) = some (.int .i64 ((rd_T37 t160 x9_3).f0.f0)) ∧ w'.cell? ⟨(ad166.add ((x9_3).toNat * 10)).block, (ad166.add ((x9_3).toNat * 10)).off + 1, none⟩ = some (.int .i64 ((rd_T37 t160 x9_3).f0.f1)) ∧ w'.cell? ⟨(ad166.add ((x9_3).toNat * 10)).block, (ad166.add ((x9_3).toNat * 10)).off + 2, none⟩ = some (.int .i64 ((rd_T37 t160 x9_3).f0.f2)) ∧ w'.cell? ⟨(ad166.add ((x9_3).toNat * 10)).block, (ad166.add ((x9_3).toNat * 10)).off + 3, none⟩ = some (.int .i64 ((rd_T37 t160 x9_3).f0.f3)) ∧ w'.cell? ⟨(ad166.add ((x9_3).toNat * 10)).block, (ad166.add ((x9_3).toNat * 10)).off + 4, none⟩ = some (.int .i64 ((rd_T37 t160 x9_3).f0.f4)) ∧ w'.cell? ⟨(ad166.add ((x9_3).toNat * 10)).block, (ad166.add ((x9_3).toNat * 10)).off + 5, none⟩ = some (.int .u64 ((rd_T37 t160 x9_3).f0.f5)) ∧ w'.cell? ⟨(ad166.add ((x9_3).toNat * 10)).block, (ad166.add ((x9_3).toNat * 10)).off + 6, none⟩ = some (.int .u64 ((rd_T37 t160 x9_3).f0.f6)) ∧ w'.cell? ⟨(ad166.add ((x9_3).toNat * 10)).block, (ad166.add ((x9_3).toNat * 10)).off + 7, none⟩ = some (.int .u64 ((rd_T37 t160 x9_3).f0.f7)) ∧ w'.cell? ⟨(ad166.add ((x9_3).toNat * 10)).block, (ad166.add ((x9_3).toNat * 10)).off + 8, none⟩ = some (.int .i64 ((rd_T37 t160 x9_3).f1)) ∧ w'.cell? ⟨(ad166.add ((x9_3).toNat * 10)).block, (ad166.add ((x9_3).toNat * 10)).off + 9, none⟩ = some (.slice A167_9 ((rd_T37 t160 x9_3).f2).length c167_9)) (ds := []) (zqB 14 0) (by kernel_rfl) rfl rfl ⟨hx166_0, hx166_1, hx166_2, hx166_3, hx166_4, hx166_5, hx166_6, hx166_7, hx166_8, hx166_9, hx167_0, hx167_1, hx167_2, hx167_3, hx167_4, hx167_5, hx167_6, hx167_7, hx167_8, hx167_9⟩ (fun hHeld => ?_); refine with_tabW haulierlaw13_BetterFront.tab22 haulierlaw13_BetterFront.bits22 (fun HT_ HW_ => ?_)
                  generalize wr.drew = w34 at HO_5 HB HL166_9 HL167_9 HR166_9 HR167_9 hx166_0 hx166_1 hx166_2 hx166_3 hx166_4 hx166_5 hx166_6 hx166_7 hx166_8 hx166_9 hx167_0 hx167_1 hx167_2 hx167_3 hx167_4 hx167_5 hx167_6 hx167_7 hx167_8 hx167_9 hHeld ⊢
                  refine zqp 0 (some 61) (zqB 14 1) (any_of HT_.out (by kernel_rfl)) (h := ?_)
                  refine zqp 1 (some 62) (zqB 14 3) (any_of HT_.out (by kernel_rfl)) (h := ?_)
                  refine zqp 2 (some 63) (zqB 14 7) (any_of HT_.out (by kernel_rfl)) (h := ?_)
                  refine zqp 3 (some 64) (zqB 14 15) (any_of HT_.out (by kernel_rfl)) (h := ?_)
                  refine zqp 4 (some 65) (zqB 14 31) (any_of HT_.out (by kernel_rfl)) (h := ?_)
                  refine zqp 5 (some 66) (zqB 14 63) (any_of HT_.out (by kernel_rfl)) (h := ?_)
                  refine zqp 6 (some 67) (zqB 14 127) (any_of HT_.out (by kernel_rfl)) (h := ?_)
                  refine zqp 8 (some 69) (zqB 14 383) (any_of HT_.out (by kernel_rfl)) (h := ?_)
                  refine zqp 9 (some 70) (zqB 14 895) (any_of HT_.out (by kernel_rfl)) (h := ?_)
                  refine zqp 10 (some 71) (zqB 14 1919) (any_of HT_.out (by kernel_rfl)) (h := ?_)
                  refine zqt 7 (some 68) (zqB 14 2047) (take_ofW HT_.out HW_.out (by kernel_rfl)) hHeld (h := ?_)
                  refine zqt 11 (some 72) (zqB 14 4095) (take_ofW HT_.out HW_.out (by kernel_rfl)) hHeld (h := ?_)
                  refine one_ (i := 12) (N := some 73) (zqB 14 8191) rfl rfl (one_of HT_.out (by kernel_rfl)) (by decide) (fun K hK => ?_)
                  refine goes_ Try.func21 (by kernel_rfl) rfl #[.agg #[.int .i64 ((rd_T37 t160 x10_4).f0.f0), .int .i64 ((rd_T37 t160 x10_4).f0.f1), .int .i64 ((rd_T37 t160 x10_4).f0.f2), .int .i64 ((rd_T37 t160 x10_4).f0.f3), .int .i64 ((rd_T37 t160 x10_4).f0.f4), .int .u64 ((rd_T37 t160 x10_4).f0.f5), .int .u64 ((rd_T37 t160 x10_4).f0.f6), .int .u64 ((rd_T37 t160 x10_4).f0.f7), .int .i64 ((rd_T37 t160 x10_4).f1), .slice A166_9 ((rd_T37 t160 x10_4).f2).length c166_9], .agg #[.int .i64 ((rd_T37 t160 x9_3).f0.f0), .int .i64 ((rd_T37 t160 x9_3).f0.f1), .int .i64 ((rd_T37 t160 x9_3).f0.f2), .int .i64 ((rd_T37 t160 x9_3).f0.f3), .int .i64 ((rd_T37 t160 x9_3).f0.f4), .int .u64 ((rd_T37 t160 x9_3).f0.f5), .int .u64 ((rd_T37 t160 x9_3).f0.f6), .int .u64 ((rd_T37 t160 x9_3).f0.f7), .int .i64 ((rd_T37 t160 x9_3).f1), .slice A167_9 ((rd_T37 t160 x9_3).f2).length c167_9]] (by rfl) rfl rfl (by (try simp only [List.map_toArray, List.map_cons, List.map_nil]); first | done | rfl | (simp only [List.length_drop, List.length_take]; rfl)) ?_
                  with_reducible refine (better_Than.calls ((rd_T37 t160 x10_4).f0.f0) ((rd_T37 t160 x10_4).f0.f1) ((rd_T37 t160 x10_4).f0.f2) ((rd_T37 t160 x10_4).f0.f3) ((rd_T37 t160 x10_4).f0.f4) ((rd_T37 t160 x10_4).f0.f5) ((rd_T37 t160 x10_4).f0.f6) ((rd_T37 t160 x10_4).f0.f7) ((rd_T37 t160 x10_4).f1) _ _ ((rd_T37 t160 x10_4).f2) ((rd_T37 t160 x9_3).f0.f0) ((rd_T37 t160 x9_3).f0.f1) ((rd_T37 t160 x9_3).f0.f2) ((rd_T37 t160 x9_3).f0.f3) ((rd_T37 t160 x9_3).f0.f4) ((rd_T37 t160 x9_3).f0.f5) ((rd_T37 t160 x9_3).f0.f6) ((rd_T37 t160 x9_3).f0.f7) ((rd_T37 t160 x9_3).f1) _ _ ((rd_T37 t160 x9_3).f2) false _ ?side1 ?side2 ?side3 ?side4 A32.out).mono ?_
                  (case side1 => repeat (first | exact (by repeat (first | (with_reducible exact HR166_9.out) | (with_reducible refine Kd.C_alloc ?_ _) | (with_reducible refine Kd.C_drewN ?_ _) | (with_reducible refine Kd.C_drew ?_) | exact HR166_9.out)) | (with_reducible refine Kd.C_alloc ?_ _) | (with_reducible refine Kd.C_drewN ?_ _) | (with_reducible refine Kd.C_drew ?_)))
                  (case side2 => exact HC166_9.out)
                  (case side3 => repeat (first | exact (by repeat (first | (with_reducible exact HR167_9.out) | (with_reducible refine Kd.C_alloc ?_ _) | (with_reducible refine Kd.C_drewN ?_ _) | (with_reducible refine Kd.C_drew ?_) | exact HR167_9.out)) | (with_reducible refine Kd.C_alloc ?_ _) | (with_reducible refine Kd.C_drewN ?_ _) | (with_reducible refine Kd.C_drew ?_)))
                  (case side4 => exact HC167_9.out)
                  rintro e w35 ⟨rfl, hb⟩
                  have HS0_ := (hb.cell (World.block_lt_of_cell? _ _ (hHeld.1))).trans (hHeld.1)
                  have HS1_ := (hb.cell (World.block_lt_of_cell? _ _ (hHeld.2.1))).trans (hHeld.2.1)
                  have HS2_ := (hb.cell (World.block_lt_of_cell? _ _ (hHeld.2.2.1))).trans (hHeld.2.2.1)
                  have HS3_ := (hb.cell (World.block_lt_of_cell? _ _ (hHeld.2.2.2.1))).trans (hHeld.2.2.2.1)
                  have HS4_ := (hb.cell (World.block_lt_of_cell? _ _ (hHeld.2.2.2.2.1))).trans (hHeld.2.2.2.2.1)
                  have HS5_ := (hb.cell (World.block_lt_of_cell? _ _ (hHeld.2.2.2.2.2.1))).trans (hHeld.2.2.2.2.2.1)
                  have HS6_ := (hb.cell (World.block_lt_of_cell? _ _ (hHeld.2.2.2.2.2.2.1))).trans (hHeld.2.2.2.2.2.2.1)
                  have HS7_ := (hb.cell (World.block_lt_of_cell? _ _ (hHeld.2.2.2.2.2.2.2.1))).trans (hHeld.2.2.2.2.2.2.2.1)
                  have HS8_ := (hb.cell (World.block_lt_of_cell? _ _ (hHeld.2.2.2.2.2.2.2.2.1))).trans (hHeld.2.2.2.2.2.2.2.2.1)
                  have HS9_ := (hb.cell (World.block_lt_of_cell? _ _ (hHeld.2.2.2.2.2.2.2.2.2.1))).trans (hHeld.2.2.2.2.2.2.2.2.2.1)
                  have HS10_ := (hb.cell (World.block_lt_of_cell? _ _ (hHeld.2.2.2.2.2.2.2.2.2.2.1))).trans (hHeld.2.2.2.2.2.2.2.2.2.2.1)
                  have HS11_ := (hb.cell (World.block_lt_of_cell? _ _ (hHeld.2.2.2.2.2.2.2.2.2.2.2.1))).trans (hHeld.2.2.2.2.2.2.2.2.2.2.2.1)
                  have HS12_ := (hb.cell (World.block_lt_of_cell? _ _ (hHeld.2.2.2.2.2.2.2.2.2.2.2.2.1))).trans (hHeld.2.2.2.2.2.2.2.2.2.2.2.2.1)
                  have HS13_ := (hb.cell (World.block_lt_of_cell? _ _ (hHeld.2.2.2.2.2.2.2.2.2.2.2.2.2.1))).trans (hHeld.2.2.2.2.2.2.2.2.2.2.2.2.2.1)
                  have HS14_ := (hb.cell (World.block_lt_of_cell? _ _ (hHeld.2.2.2.2.2.2.2.2.2.2.2.2.2.2.1))).trans (hHeld.2.2.2.2.2.2.2.2.2.2.2.2.2.2.1)
                  have HS15_ := (hb.cell (World.block_lt_of_cell? _ _ (hHeld.2.2.2.2.2.2.2.2.2.2.2.2.2.2.2.1))).trans (hHeld.2.2.2.2.2.2.2.2.2.2.2.2.2.2.2.1)
                  have HS16_ := (hb.cell (World.block_lt_of_cell? _ _ (hHeld.2.2.2.2.2.2.2.2.2.2.2.2.2.2.2.2.1))).trans (hHeld.2.2.2.2.2.2.2.2.2.2.2.2.2.2.2.2.1)
                  have HS17_ := (hb.cell (World.block_lt_of_cell? _ _ (hHeld.2.2.2.2.2.2.2.2.2.2.2.2.2.2.2.2.2.1))).trans (hHeld.2.2.2.2.2.2.2.2.2.2.2.2.2.2.2.2.2.1)
                  have HS18_ := (hb.cell (World.block_lt_of_cell? _ _ (hHeld.2.2.2.2.2.2.2.2.2.2.2.2.2.2.2.2.2.2.1))).trans (hHeld.2.2.2.2.2.2.2.2.2.2.2.2.2.2.2.2.2.2.1)
                  have HS19_ := (hb.cell (World.block_lt_of_cell? _ _ (hHeld.2.2.2.2.2.2.2.2.2.2.2.2.2.2.2.2.2.2.2))).trans (hHeld.2.2.2.2.2.2.2.2.2.2.2.2.2.2.2.2.2.2.2)
                  refine ⟨_, rfl, ?_⟩
                  have n0_ := zqi (Kd.R_below (by (with_reducible repeat (first | apply Kd.R_alloc | apply Kd.R_drewN | apply Kd.R_drew)); exact HO_5.out) hb)
                  have n1_ := zqi (Kd.R_below (by (with_reducible repeat (first | apply Kd.R_alloc | apply Kd.R_drewN | apply Kd.R_drew)); exact HL166_9.out) hb)
                  have n2_ := zqi (Kd.R_below (by (with_reducible repeat (first | apply Kd.R_alloc | apply Kd.R_drewN | apply Kd.R_drew)); exact HL167_9.out) hb)
                  have n3_ := zqi (Kd.C_below (by repeat (first | (with_reducible exact HR166_9.out) | (with_reducible refine Kd.C_alloc ?_ _) | (with_reducible refine Kd.C_drewN ?_ _) | (with_reducible refine Kd.C_drew ?_) | exact HR166_9.out)) hb)
                  have n4_ := zqi (Kd.C_below (by repeat (first | (with_reducible exact HR167_9.out) | (with_reducible refine Kd.C_alloc ?_ _) | (with_reducible refine Kd.C_drewN ?_ _) | (with_reducible refine Kd.C_drew ?_) | exact HR167_9.out)) hb)
                  have n5_ := zqi (below_step (zqn HB.out) hb)
                  clear HO_5
                  clear HL166_9
                  clear HL167_9
                  clear HR166_9
                  clear HR167_9
                  clear HB
                  have HO_5 := n0_
                  have HL166_9 := n1_
                  have HL167_9 := n2_
                  have HR166_9 := n3_
                  have HR167_9 := n4_
                  have HB := n5_
                  clear n0_ n1_ n2_ n3_ n4_ n5_
                  (try clear hb)
                  (try clear hb2)
                  (try clear hk)
                  (try clear hi)
                  refine hK.out _ _ ⟨HS0_, HS1_, HS2_, HS3_, HS4_, HS5_, HS6_, HS7_, HS8_, HS9_, HS10_, HS11_, HS12_, HS13_, HS14_, HS15_, HS16_, HS17_, HS18_, HS19_⟩ (fun hHeld => ?_)
                  clear hK K
                  refine norm_ (a' := ?_) ?_ ?_
                  rotate_left
                  ·
                   show Act.put _ (some 73) _ = _
                   simp only [Act.put, List.setIfInBounds_toArray, List.set_cons_zero, List.set_cons_succ, i64_w, i32_w]
                   rfl
                  refine zqp 13 (some 74) (zqB 14 16383) (any_of HT_.out (by kernel_rfl)) (h := ?_)
                  refine done_ (done_of HT_.out (by kernel_rfl)) ?_
                  try go_wp2
                  go_roundg k4
                  case measure => have := HJ3.out; have := HK2.out; have := HK3.out; have := HK4.out; omega
                  case rel => exact ⟨(wrap64 (x10_4 + 1)), (by first | rfl | (simp; done) | (simp [*]; done)), H', ⟨by have := HJ3.out; have := HK2.out; have := HK3.out; have := HK4.out; omega⟩, ⟨by (with_reducible repeat (first | apply Kd.R_alloc | apply Kd.R_drewN | apply Kd.R_drew)); exact HO_5.out⟩, ⟨by repeat (first | (with_reducible first | exact HB.out | apply zqg | apply zqf | apply zqh) | exact HB.out)⟩⟩
                ·
                 rw [if_neg c31] at H
                 exact absurd H (by simp)
               ·
                rw [if_neg c30] at H
                exact absurd H (by simp)
              ·
               rw [if_neg c29] at H
               exact absurd H (by simp)
            ·
             rw [if_neg c26] at H
             have c26b0 : decide (x10_4 < (t160.length : Int)) = false := decide_eq_false c26
             clear c26
             have H' := zqi H
             clear H
             go_wp2
             go_roundg k4
             case measure => have := HJ3.out; have := HK2.out; have := HK3.out; have := HK4.out; omega
             case rel => exact ⟨(wrap64 (x9_3 + 1)), (by first | rfl | (simp; done) | (simp [*]; done)), H', ⟨by have := HJ3.out; have := HK2.out; have := HK3.out; have := HK4.out; omega⟩, ⟨by (with_reducible repeat (first | apply Kd.R_alloc | apply Kd.R_drewN | apply Kd.R_drew)); exact HO_5.out⟩, ⟨by repeat (first | (with_reducible first | exact HB.out | apply zqg | apply zqf | apply zqh) | exact HB.out)⟩⟩
         ·
          rw [if_neg c24] at H
          have c24b0 : decide (x9_3 < (t160.length : Int)) = false := decide_eq_false c24
          clear c24
          obtain rfl := Option.some.inj H
          obtain ⟨Ao36, co36, eo36⟩ := Kd.R_slice HO_5.out
          subst eo36
          go_wp2
          go_ret
          exact ⟨by first | rfl | (simp [errW_none, errW_some] <;> rfl) | (simp [*, errW_none, errW_some] <;> rfl), by repeat (first | (with_reducible first | exact HB.out | apply zqg | apply zqf | apply zqh) | exact HB.out)⟩

end Go.Proofs.Ytkcdpnigcbcalaa.PB
