-- Printed for this claim by wip/tools/xprint.py over the kit's print; the contracts marked BY HAND are this session's own.
import Derived.Test.YtdmlohoicgfdnaaDoorPAx0
import Derived.Test.YtdmlohoicgfdnaaDoorPAx3
import Derived.Test.YtdmlohoicgfdnaaDoorPAx4
namespace Go.Proofs.YtdmlohoicgfdnaaDoor.PA
open Go.RowKit Go.Proofs.YtdmlohoicgfdnaaDoorW.PrintWords Go.Proofs.YtdmlohoicgfdnaaDoorW.PrintLast Go.Proofs.YtdmlohoicgfdnaaDoorW.PrintMore
attribute [local go_sem] max2_int min2_int max_two min_two max_three min_three max_four min_four   -- for this text's walks alone
set_option linter.unusedVariables false
set_option linter.unusedSimpArgs false

/-! ### haulierref04_Same: function 13 -/
mutual
def haulierref04_Same.l0 : Nat → List (List Int) → List (List Int) → Int → Option (Bool)
  | 0, _, _, _ => none
  | k + 1, x0, x1, x5 => if x5 < (x0.length : Int) then (if 0 ≤ x5 then (if x5 < (x1.length : Int) then (if ((rd_L2 x0 x5).length : Int) = ((rd_L2 x1 x5).length : Int) then (haulierref04_Same.l1 k x0 x1 x5 0) else (some false)) else (none)) else (none)) else (some true)
def haulierref04_Same.l1 : Nat → List (List Int) → List (List Int) → Int → Int → Option (Bool)
  | 0, _, _, _, _ => none
  | k + 1, x0, x1, x5, x6 => if 0 ≤ x5 then (if x5 < (x0.length : Int) then (if x6 < ((rd_L2 x0 x5).length : Int) then (if 0 ≤ x6 then (if x5 < (x1.length : Int) then (if x6 < ((rd_L2 x1 x5).length : Int) then (if (rd (rd_L2 x0 x5) x6) = (rd (rd_L2 x1 x5) x6) then (haulierref04_Same.l1 k x0 x1 x5 (wrap64 (x6 + 1))) else (some false)) else (none)) else (none)) else (none)) else (haulierref04_Same.l0 k x0 x1 (wrap64 (x5 + 1)))) else (none)) else (none)
end
def haulierref04_Same.f (k : Nat) (l0 : List (List Int)) (l1 : List (List Int)) : Option (Bool) := if (l0.length : Int) = (l1.length : Int) then (haulierref04_Same.l0 k l0 l1 0) else (some false)
theorem haulierref04_Same.mono_l : ∀ k, (∀ y0 y1 y2, LeO (haulierref04_Same.l0 k y0 y1 y2) (haulierref04_Same.l0 (k + 1) y0 y1 y2)) ∧ (∀ y0 y1 y2 y3, LeO (haulierref04_Same.l1 k y0 y1 y2 y3) (haulierref04_Same.l1 (k + 1) y0 y1 y2 y3))
  | 0 => ⟨fun _ _ _ r h => by simp [haulierref04_Same.l0] at h, fun _ _ _ _ r h => by simp [haulierref04_Same.l1] at h⟩
  | k + 1 => by
    obtain ⟨ih0, ih1⟩ := haulierref04_Same.mono_l k
    refine ⟨?_, ?_⟩
    · intro y0 y1 y2
      unfold haulierref04_Same.l0
      repeat' first
      | (with_reducible exact ih0 _ _ _)
      | (with_reducible exact ih1 _ _ _ _)
      | (with_reducible exact LeO.refl _)
      | (with_reducible exact LeO.none _)
      | (with_reducible refine LeO.ite ?_ ?_)
      | (with_reducible refine LeO.bind ?_ (fun _ => ?_))
      | exact ih0 _ _ _
      | exact ih1 _ _ _ _
      | exact LeO.none _
      | refine LeO.ite ?_ ?_
      | refine LeO.bind ?_ (fun _ => ?_)
    · intro y0 y1 y2 y3
      unfold haulierref04_Same.l1
      repeat' first
      | (with_reducible exact ih0 _ _ _)
      | (with_reducible exact ih1 _ _ _ _)
      | (with_reducible exact LeO.refl _)
      | (with_reducible exact LeO.none _)
      | (with_reducible refine LeO.ite ?_ ?_)
      | (with_reducible refine LeO.bind ?_ (fun _ => ?_))
      | exact ih0 _ _ _
      | exact ih1 _ _ _ _
      | exact LeO.none _
      | refine LeO.ite ?_ ?_
      | refine LeO.bind ?_ (fun _ => ?_)
theorem haulierref04_Same.mono : ∀ a0 a1 k, LeO (haulierref04_Same.f k a0 a1) (haulierref04_Same.f (k + 1) a0 a1) := by
  intro a0 a1 k
  obtain ⟨ih0, ih1⟩ := haulierref04_Same.mono_l k
  unfold haulierref04_Same.f
  repeat' first
      | (with_reducible exact ih0 _ _ _)
      | (with_reducible exact ih1 _ _ _ _)
      | (with_reducible exact LeO.refl _)
      | (with_reducible exact LeO.none _)
      | (with_reducible refine LeO.ite ?_ ?_)
      | (with_reducible refine LeO.bind ?_ (fun _ => ?_))
      | exact ih0 _ _ _
      | exact ih1 _ _ _ _
      | exact LeO.none _
      | refine LeO.ite ?_ ?_
      | refine LeO.bind ?_ (fun _ => ?_)
set_option maxHeartbeats 8000000 in
set_option maxRecDepth 100000 in
theorem haulierref04_Same.calls (k : Nat) (A0 : Option Addr) (c0 : Nat) (l0 : List (List Int)) (A1 : Option Addr) (c1 : Nat) (l1 : List (List Int)) (r : Bool) (w : World) (hr0 : Kd.C (Kd.slice 3 (Kd.int .i64)) w A0 l0.length l0) (hc0 : l0.length ≤ c0) (hr1 : Kd.C (Kd.slice 3 (Kd.int .i64)) w A1 l1.length l1) (hc1 : l1.length ≤ c1) (h : haulierref04_Same.f k l0 l1 = some r) :
    Calls Tryd.prog 13 #[.slice A0 l0.length c0, .slice A1 l1.length c1] w fun e w' => e = .returned (.bool r) ∧ Drawn0 w w' := by
  have HR0 := Aside0.mk hr0
  have HC0 := Aside0.mk hc0
  clear hr0 hc0
  have HR1 := Aside0.mk hr1
  have HC1 := Aside0.mk hc1
  clear hr1 hc1
  have H : (if (l0.length : Int) = (l1.length : Int) then (haulierref04_Same.l0 k l0 l1 0) else (some false)) = some r := h
  clear h
  by_cases c3 : (l0.length : Int) = (l1.length : Int)
  · rw [if_pos c3] at H
    have c3b0 : ((l0.length : Int) == (l1.length : Int)) = true := beq_iff_eq.mpr c3
    have c3b1 : ((l0.length : Int) != (l1.length : Int)) = false := bne_eq_false_iff_eq.mpr c3
    have c3b2 : (l0.length == l1.length) = true := by first | simpa using c3 | (simp at c3 ⊢; omega)
    clear c3
    have H' := Aside0.mk H
    clear H
    go_enter Tryd.func13, Tryd.ntmps13
    go_wp2
    repeat (go_quiet (fail); try go_wp2)
    go_loopg [5] k (fun kq v5 w' => ∃ (x5_1 : Int), v5 = .int .i64 x5_1 ∧ Aside0 (haulierref04_Same.l0 kq l0 l1 x5_1 = some r) ∧ Aside0 (kq ≤ k) ∧ Drawn0 w w')
    case atStart => exact ⟨(0), (by first | rfl | (simp; done) | (simp [*]; done)), H', ⟨Nat.le_refl _⟩, by repeat (first | exact Drawn0.refl _ | apply Drawn0.step)⟩
    case round =>
      clear H'
      try clear c1
      try clear p2
      try clear c3
      try clear c3b0
      try clear c3b1
      try clear c3b2
      obtain ⟨x5_1, rfl, HA, HK1, ⟨m1, rfl⟩⟩ := hrel
      cases gk with
      | zero => exact absurd HA.out (by simp [haulierref04_Same.l0])
      | succ k1 =>
        have H := HA.out
        clear HA
        simp only [haulierref04_Same.l0] at H
        by_cases c4 : x5_1 < (l0.length : Int)
        · rw [if_pos c4] at H
          have c4b0 : decide (x5_1 < (l0.length : Int)) = true := decide_eq_true c4
          clear c4
          by_cases c5 : 0 ≤ x5_1
          · rw [if_pos c5] at H
            have c5b0 : decide (0 ≤ x5_1) = true := decide_eq_true c5
            clear c5
            by_cases c6 : x5_1 < (l1.length : Int)
            · rw [if_pos c6] at H
              have c6b0 : decide (x5_1 < (l1.length : Int)) = true := decide_eq_true c6
              clear c6
              by_cases c7 : ((rd_L2 l0 x5_1).length : Int) = ((rd_L2 l1 x5_1).length : Int)
              · rw [if_pos c7] at H
                have c7b0 : (((rd_L2 l0 x5_1).length : Int) == ((rd_L2 l1 x5_1).length : Int)) = true := beq_iff_eq.mpr c7
                have c7b1 : (((rd_L2 l0 x5_1).length : Int) != ((rd_L2 l1 x5_1).length : Int)) = false := bne_eq_false_iff_eq.mpr c7
                have c7b2 : ((rd_L2 l0 x5_1).length == (rd_L2 l1 x5_1).length) = true := by first | simpa using c7 | (simp at c7 ⊢; omega)
                clear c7
                have H' := Aside0.mk H
                clear H
                have p156 : 0 ≤ (x5_1 : Int) := of_decide_eq_true (by first | (with_reducible assumption) | assumption)
                have q156 : x5_1 < (l0.length : Int) := of_decide_eq_true (by first | (with_reducible assumption) | assumption)
                obtain ⟨ad156, A156_0, c156_0, e156, hx156_0, hl156_0, hi156_0⟩ := at_L2 HR0.out x5_1 p156 q156
                cases e156
                have HR156_0 := Aside0.mk hi156_0
                have HC156_0 := Aside0.mk hl156_0
                clear hi156_0 hl156_0
                replace p156 := eq_true p156
                replace q156 := eq_true q156
                have p157 : 0 ≤ (x5_1 : Int) := of_decide_eq_true (by first | (with_reducible assumption) | assumption)
                have q157 : x5_1 < (l1.length : Int) := of_decide_eq_true (by first | (with_reducible assumption) | assumption)
                obtain ⟨ad157, A157_0, c157_0, e157, hx157_0, hl157_0, hi157_0⟩ := at_L2 HR1.out x5_1 p157 q157
                cases e157
                have HR157_0 := Aside0.mk hi157_0
                have HC157_0 := Aside0.mk hl157_0
                clear hi157_0 hl157_0
                replace p157 := eq_true p157
                replace q157 := eq_true q157
                go_wp2
                repeat (go_quiet (fail); try go_wp2)
                go_loopg [6] k1 (fun kq v6 w' => ∃ (x6_2 : Int), v6 = .int .i64 x6_2 ∧ Aside0 (haulierref04_Same.l1 kq l0 l1 x5_1 x6_2 = some r) ∧ Aside0 (kq ≤ k1) ∧ Drawn0 w w')
                case atStart => exact ⟨(0), (by first | rfl | (simp; done) | (simp [*]; done)), H', ⟨Nat.le_refl _⟩, by repeat (first | exact Drawn0.refl _ | apply Drawn0.step)⟩
                case round =>
                  clear H'
                  try clear c1
                  try clear p1
                  try clear q1
                  try clear hx1
                  try clear p2
                  try clear c3
                  try clear c3b0
                  try clear c3b1
                  try clear c3b2
                  try clear c4
                  try clear c4b0
                  try clear c5
                  try clear c5b0
                  try clear c6
                  try clear c6b0
                  try clear c7
                  try clear c7b0
                  try clear c7b1
                  try clear c7b2
                  try clear hx156_0
                  try clear hx157_0
                  try clear p156
                  try clear p157
                  try clear p2
                  try clear q156
                  try clear q157
                  obtain ⟨x6_2, rfl, HA, HK2, ⟨m2, rfl⟩⟩ := hrel
                  cases gk with
                  | zero => exact absurd HA.out (by simp [haulierref04_Same.l1])
                  | succ k2 =>
                    have H := HA.out
                    clear HA
                    simp only [haulierref04_Same.l1] at H
                    by_cases c8 : 0 ≤ x5_1
                    · rw [if_pos c8] at H
                      have c8b0 : decide (0 ≤ x5_1) = true := decide_eq_true c8
                      clear c8
                      by_cases c9 : x5_1 < (l0.length : Int)
                      · rw [if_pos c9] at H
                        have c9b0 : decide (x5_1 < (l0.length : Int)) = true := decide_eq_true c9
                        clear c9
                        by_cases c10 : x6_2 < ((rd_L2 l0 x5_1).length : Int)
                        · rw [if_pos c10] at H
                          have c10b0 : decide (x6_2 < ((rd_L2 l0 x5_1).length : Int)) = true := decide_eq_true c10
                          clear c10
                          by_cases c11 : 0 ≤ x6_2
                          · rw [if_pos c11] at H
                            have c11b0 : decide (0 ≤ x6_2) = true := decide_eq_true c11
                            clear c11
                            by_cases c12 : x5_1 < (l1.length : Int)
                            · rw [if_pos c12] at H
                              have c12b0 : decide (x5_1 < (l1.length : Int)) = true := decide_eq_true c12
                              clear c12
                              by_cases c13 : x6_2 < ((rd_L2 l1 x5_1).length : Int)
                              · rw [if_pos c13] at H
                                have c13b0 : decide (x6_2 < ((rd_L2 l1 x5_1).length : Int)) = true := decide_eq_true c13
                                clear c13
                                by_cases c14 : (rd (rd_L2 l0 x5_1) x6_2) = (rd (rd_L2 l1 x5_1) x6_2)
                                · rw [if_pos c14] at H
                                  have c14b0 : ((rd (rd_L2 l0 x5_1) x6_2) == (rd (rd_L2 l1 x5_1) x6_2)) = true := beq_iff_eq.mpr c14
                                  have c14b1 : ((rd (rd_L2 l0 x5_1) x6_2) != (rd (rd_L2 l1 x5_1) x6_2)) = false := bne_eq_false_iff_eq.mpr c14
                                  clear c14
                                  have H' := Aside0.mk H
                                  clear H
                                  have p158 : 0 ≤ (x5_1 : Int) := of_decide_eq_true (by first | (with_reducible assumption) | assumption)
                                  have q158 : x5_1 < (l0.length : Int) := of_decide_eq_true (by first | (with_reducible assumption) | assumption)
                                  obtain ⟨ad158, A158_0, c158_0, e158, hx158_0, hl158_0, hi158_0⟩ := at_L2 HR0.out x5_1 p158 q158
                                  obtain rfl : ad156 = ad158 := (by injection e158)
                                  have HR158_0 := Aside0.mk hi158_0
                                  have HC158_0 := Aside0.mk hl158_0
                                  clear hi158_0 hl158_0
                                  replace p158 := eq_true p158
                                  replace q158 := eq_true q158
                                  have p159 : 0 ≤ (x5_1 : Int) := of_decide_eq_true (by first | (with_reducible assumption) | assumption)
                                  have q159 : x5_1 < (l0.length : Int) := of_decide_eq_true (by first | (with_reducible assumption) | assumption)
                                  obtain ⟨ad159, A159_0, c159_0, e159, hx159_0, hl159_0, hi159_0⟩ := at_L2 HR0.out x5_1 p159 q159
                                  obtain rfl : ad156 = ad159 := (by injection e159)
                                  have HR159_0 := Aside0.mk hi159_0
                                  have HC159_0 := Aside0.mk hl159_0
                                  clear hi159_0 hl159_0
                                  replace p159 := eq_true p159
                                  replace q159 := eq_true q159
                                  have ea_ := Option.some.inj (hx158_0.symm.trans hx159_0)
                                  injection ea_ with ea_ en_ ec_
                                  subst ea_
                                  subst ec_
                                  clear en_
                                  have p160 : 0 ≤ (x6_2 : Int) := of_decide_eq_true (by first | (with_reducible assumption) | assumption)
                                  have q160 : x6_2 < ((rd_L2 l0 x5_1).length : Int) := of_decide_eq_true (by first | (with_reducible assumption) | assumption)
                                  obtain ⟨ad160, e160, hx160_0⟩ := Kd.at_int HR159_0.out x6_2 p160 q160
                                  cases e160
                                  replace p160 := eq_true p160
                                  replace q160 := eq_true q160
                                  have p161 : 0 ≤ (x5_1 : Int) := of_decide_eq_true (by first | (with_reducible assumption) | assumption)
                                  have q161 : x5_1 < (l1.length : Int) := of_decide_eq_true (by first | (with_reducible assumption) | assumption)
                                  obtain ⟨ad161, A161_0, c161_0, e161, hx161_0, hl161_0, hi161_0⟩ := at_L2 HR1.out x5_1 p161 q161
                                  obtain rfl : ad157 = ad161 := (by injection e161)
                                  have HR161_0 := Aside0.mk hi161_0
                                  have HC161_0 := Aside0.mk hl161_0
                                  clear hi161_0 hl161_0
                                  replace p161 := eq_true p161
                                  replace q161 := eq_true q161
                                  have p162 : 0 ≤ (x6_2 : Int) := of_decide_eq_true (by first | (with_reducible assumption) | assumption)
                                  have q162 : x6_2 < ((rd_L2 l1 x5_1).length : Int) := of_decide_eq_true (by first | (with_reducible assumption) | assumption)
                                  obtain ⟨ad162, e162, hx162_0⟩ := Kd.at_int HR161_0.out x6_2 p162 q162
                                  cases e162
                                  replace p162 := eq_true p162
                                  replace q162 := eq_true q162
                                  go_wp2
                                  repeat (go_quiet (fail); try go_wp2)
                                  go_roundg k2
                                  case measure => have := HK1.out; have := HK2.out; omega
                                  case rel => exact ⟨(wrap64 (x6_2 + 1)), (by first | rfl | (simp; done) | (simp [*]; done)), H', ⟨by have := HK1.out; have := HK2.out; omega⟩, by repeat (first | exact Drawn0.refl _ | apply Drawn0.step)⟩
                                · rw [if_neg c14] at H
                                  have c14b0 : ((rd (rd_L2 l0 x5_1) x6_2) == (rd (rd_L2 l1 x5_1) x6_2)) = false := beq_eq_false_iff_ne.mpr c14
                                  have c14b1 : ((rd (rd_L2 l0 x5_1) x6_2) != (rd (rd_L2 l1 x5_1) x6_2)) = true := bne_iff_ne.mpr c14
                                  obtain rfl := Option.some.inj H
                                  have p158 : 0 ≤ (x5_1 : Int) := of_decide_eq_true (by first | (with_reducible assumption) | assumption)
                                  have q158 : x5_1 < (l0.length : Int) := of_decide_eq_true (by first | (with_reducible assumption) | assumption)
                                  obtain ⟨ad158, A158_0, c158_0, e158, hx158_0, hl158_0, hi158_0⟩ := at_L2 HR0.out x5_1 p158 q158
                                  obtain rfl : ad156 = ad158 := (by injection e158)
                                  have HR158_0 := Aside0.mk hi158_0
                                  have HC158_0 := Aside0.mk hl158_0
                                  clear hi158_0 hl158_0
                                  replace p158 := eq_true p158
                                  replace q158 := eq_true q158
                                  have p159 : 0 ≤ (x5_1 : Int) := of_decide_eq_true (by first | (with_reducible assumption) | assumption)
                                  have q159 : x5_1 < (l0.length : Int) := of_decide_eq_true (by first | (with_reducible assumption) | assumption)
                                  obtain ⟨ad159, A159_0, c159_0, e159, hx159_0, hl159_0, hi159_0⟩ := at_L2 HR0.out x5_1 p159 q159
                                  obtain rfl : ad156 = ad159 := (by injection e159)
                                  have HR159_0 := Aside0.mk hi159_0
                                  have HC159_0 := Aside0.mk hl159_0
                                  clear hi159_0 hl159_0
                                  replace p159 := eq_true p159
                                  replace q159 := eq_true q159
                                  have ea_ := Option.some.inj (hx158_0.symm.trans hx159_0)
                                  injection ea_ with ea_ en_ ec_
                                  subst ea_
                                  subst ec_
                                  clear en_
                                  have p160 : 0 ≤ (x6_2 : Int) := of_decide_eq_true (by first | (with_reducible assumption) | assumption)
                                  have q160 : x6_2 < ((rd_L2 l0 x5_1).length : Int) := of_decide_eq_true (by first | (with_reducible assumption) | assumption)
                                  obtain ⟨ad160, e160, hx160_0⟩ := Kd.at_int HR159_0.out x6_2 p160 q160
                                  cases e160
                                  replace p160 := eq_true p160
                                  replace q160 := eq_true q160
                                  have p161 : 0 ≤ (x5_1 : Int) := of_decide_eq_true (by first | (with_reducible assumption) | assumption)
                                  have q161 : x5_1 < (l1.length : Int) := of_decide_eq_true (by first | (with_reducible assumption) | assumption)
                                  obtain ⟨ad161, A161_0, c161_0, e161, hx161_0, hl161_0, hi161_0⟩ := at_L2 HR1.out x5_1 p161 q161
                                  obtain rfl : ad157 = ad161 := (by injection e161)
                                  have HR161_0 := Aside0.mk hi161_0
                                  have HC161_0 := Aside0.mk hl161_0
                                  clear hi161_0 hl161_0
                                  replace p161 := eq_true p161
                                  replace q161 := eq_true q161
                                  have p162 : 0 ≤ (x6_2 : Int) := of_decide_eq_true (by first | (with_reducible assumption) | assumption)
                                  have q162 : x6_2 < ((rd_L2 l1 x5_1).length : Int) := of_decide_eq_true (by first | (with_reducible assumption) | assumption)
                                  obtain ⟨ad162, e162, hx162_0⟩ := Kd.at_int HR161_0.out x6_2 p162 q162
                                  cases e162
                                  replace p162 := eq_true p162
                                  replace q162 := eq_true q162
                                  go_wp2
                                  repeat (go_quiet (fail); try go_wp2)
                                  go_ret
                                  exact ⟨by first | rfl | (simp; done) | (simp [*]; done), by repeat (first | exact Drawn0.refl _ | apply Drawn0.step)⟩
                              · rw [if_neg c13] at H
                                exact absurd H (by simp)
                            · rw [if_neg c12] at H
                              exact absurd H (by simp)
                          · rw [if_neg c11] at H
                            exact absurd H (by simp)
                        · rw [if_neg c10] at H
                          have c10b0 : decide (x6_2 < ((rd_L2 l0 x5_1).length : Int)) = false := decide_eq_false c10
                          clear c10
                          have H' := Aside0.mk H
                          clear H
                          have p158 : 0 ≤ (x5_1 : Int) := of_decide_eq_true (by first | (with_reducible assumption) | assumption)
                          have q158 : x5_1 < (l0.length : Int) := of_decide_eq_true (by first | (with_reducible assumption) | assumption)
                          obtain ⟨ad158, A158_0, c158_0, e158, hx158_0, hl158_0, hi158_0⟩ := at_L2 HR0.out x5_1 p158 q158
                          obtain rfl : ad156 = ad158 := (by injection e158)
                          have HR158_0 := Aside0.mk hi158_0
                          have HC158_0 := Aside0.mk hl158_0
                          clear hi158_0 hl158_0
                          replace p158 := eq_true p158
                          replace q158 := eq_true q158
                          go_wp2
                          repeat (go_quiet (fail); try go_wp2)
                          go_roundg k2
                          case measure => have := HK1.out; have := HK2.out; omega
                          case rel => exact ⟨(wrap64 (x5_1 + 1)), (by first | rfl | (simp; done) | (simp [*]; done)), H', ⟨by have := HK1.out; have := HK2.out; omega⟩, by repeat (first | exact Drawn0.refl _ | apply Drawn0.step)⟩
                      · rw [if_neg c9] at H
                        exact absurd H (by simp)
                    · rw [if_neg c8] at H
                      exact absurd H (by simp)
              · rw [if_neg c7] at H
                have c7b0 : (((rd_L2 l0 x5_1).length : Int) == ((rd_L2 l1 x5_1).length : Int)) = false := beq_eq_false_iff_ne.mpr c7
                have c7b1 : (((rd_L2 l0 x5_1).length : Int) != ((rd_L2 l1 x5_1).length : Int)) = true := bne_iff_ne.mpr c7
                have c7b2 : ((rd_L2 l0 x5_1).length == (rd_L2 l1 x5_1).length) = false := by first | simpa using c7 | (simp at c7 ⊢; omega)
                obtain rfl := Option.some.inj H
                have p156 : 0 ≤ (x5_1 : Int) := of_decide_eq_true (by first | (with_reducible assumption) | assumption)
                have q156 : x5_1 < (l0.length : Int) := of_decide_eq_true (by first | (with_reducible assumption) | assumption)
                obtain ⟨ad156, A156_0, c156_0, e156, hx156_0, hl156_0, hi156_0⟩ := at_L2 HR0.out x5_1 p156 q156
                cases e156
                have HR156_0 := Aside0.mk hi156_0
                have HC156_0 := Aside0.mk hl156_0
                clear hi156_0 hl156_0
                replace p156 := eq_true p156
                replace q156 := eq_true q156
                have p157 : 0 ≤ (x5_1 : Int) := of_decide_eq_true (by first | (with_reducible assumption) | assumption)
                have q157 : x5_1 < (l1.length : Int) := of_decide_eq_true (by first | (with_reducible assumption) | assumption)
                obtain ⟨ad157, A157_0, c157_0, e157, hx157_0, hl157_0, hi157_0⟩ := at_L2 HR1.out x5_1 p157 q157
                cases e157
                have HR157_0 := Aside0.mk hi157_0
                have HC157_0 := Aside0.mk hl157_0
                clear hi157_0 hl157_0
                replace p157 := eq_true p157
                replace q157 := eq_true q157
                go_wp2
                repeat (go_quiet (fail); try go_wp2)
                go_ret
                exact ⟨by first | rfl | (simp; done) | (simp [*]; done), by repeat (first | exact Drawn0.refl _ | apply Drawn0.step)⟩
            · rw [if_neg c6] at H
              exact absurd H (by simp)
          · rw [if_neg c5] at H
            exact absurd H (by simp)
        · rw [if_neg c4] at H
          have c4b0 : decide (x5_1 < (l0.length : Int)) = false := decide_eq_false c4
          clear c4
          obtain rfl := Option.some.inj H
          go_wp2
          repeat (go_quiet (fail); try go_wp2)
          go_ret
          exact ⟨by first | rfl | (simp; done) | (simp [*]; done), by repeat (first | exact Drawn0.refl _ | apply Drawn0.step)⟩
  · rw [if_neg c3] at H
    have c3b0 : ((l0.length : Int) == (l1.length : Int)) = false := beq_eq_false_iff_ne.mpr c3
    have c3b1 : ((l0.length : Int) != (l1.length : Int)) = true := bne_iff_ne.mpr c3
    have c3b2 : (l0.length == l1.length) = false := by first | simpa using c3 | (simp at c3 ⊢; omega)
    obtain rfl := Option.some.inj H
    go_enter Tryd.func13, Tryd.ntmps13
    go_wp2
    repeat (go_quiet (fail); try go_wp2)
    go_ret
    exact ⟨by first | rfl | (simp; done) | (simp [*]; done), by repeat (first | exact Drawn0.refl _ | apply Drawn0.step)⟩

/-! ### haulierlaw04_ScanBack: function 4, BY HAND -/
def haulierlaw04_ScanBack.outN (n : Int) : Bool := decide (n ≤ -1000000000000) || decide (n ≥ 1000000000000)
/-- Is a number too great? -/
def haulierlaw04_ScanBack.outB (l : List (List Int)) : Bool := l.any fun x => x.any haulierlaw04_ScanBack.outN
def haulierlaw04_ScanBack.full (l : List (List Int)) : List (List Int) := l.filter fun x => !x.isEmpty
def haulierlaw04_ScanBack.g (k : Nat) (l0 : List (List Int)) : Option Bool := (scan_Print.f l0).bind fun b => (scan_Lines.f b).bind fun bt => if (b.length : Int) > 4096 then some (bt.2 == 6) else (haulierref04_Same.f k bt.1 (haulierlaw04_ScanBack.full l0)).bind fun same => some (bt.2 == 0 && same)
def haulierlaw04_ScanBack.f (k : Nat) (l0 : List (List Int)) : Option Bool := (haulierlaw04_awake.f).bind fun up => (haulierlaw04_few.f k l0).bind fun ok => if up = true then (if ok = true then (if haulierlaw04_ScanBack.outB l0 = true then some true else haulierlaw04_ScanBack.g k l0) else some true) else none
theorem haulierlaw04_ScanBack.foot {w : World} {A1 : Option Addr} {c1 : Nat} {line : List Int} (hl : line.length ≤ c1) (h : Kd.C (Kd.int .i64) w A1 line.length line) : Kd.FK (Kd.slice 3 (Kd.int .i64)) w (fun k => k < w.heap.size) line [.slice A1 line.length c1] := fun W' hW => ⟨A1, c1, rfl, hl, (Kd.heap_int .i64).C (fun k hk => hW k hk hk) h⟩
set_option maxHeartbeats 8000000 in
set_option maxRecDepth 100000 in
open Go.Proofs.YtdmlohoicgfdnaaDoor.Scan haulierlaw04_ScanBack in
theorem haulierlaw04_ScanBack.calls (k : Nat) (A0 : Option Addr) (c0 : Nat) (l0 : List (List Int)) (r : Bool) (w : World) (hr0 : Kd.C (Kd.slice 3 (Kd.int .i64)) w A0 l0.length l0) (hc0 : l0.length ≤ c0) (h : haulierlaw04_ScanBack.f k l0 = some r) (hT : NumTab w) :
    Calls Tryd.prog 4 #[.slice A0 l0.length c0] w fun e w' => e = .returned (.bool r) ∧ Below w.heap.size w w' := by
  unfold haulierlaw04_ScanBack.f at h
  obtain ⟨up, hup, h⟩ := Option.bind_eq_some_iff.mp h
  obtain ⟨ok, hok, h⟩ := Option.bind_eq_some_iff.mp h
  have hmax0 := Kd.C_max hr0
  have HUP := hidP hup
  have HOK := hidP hok
  have HR0 := hidP hr0
  have HC0 := hidP hc0
  have HT := hidP hT
  clear hup hok hr0 hc0 hT
  cases up with
  | false => simp at h
  | true =>
  rw [if_pos rfl] at h
  cases ok with
  | false =>
    rw [if_neg (by decide)] at h
    obtain rfl := Option.some.inj h
    clear h
    go_enter Tryd.func4, Tryd.ntmps4
    go_wp2_with (first
      | (go_at_call 8; (with_reducible refine (haulierlaw04_awake.calls true _ HUP.out).mono ?_); rintro e w1 ⟨rfl, hb1⟩; have HB1 := hidP hb1; clear hb1)
      | (go_at_call 9; (with_reducible refine (haulierlaw04_few.calls k _ _ l0 false _ (Kd.C_below HR0.out HB1.out) HC0.out HOK.out).mono ?_); rintro e w2 ⟨rfl, ⟨nd, rfl⟩⟩))
    go_ret
    exact ⟨rfl, pw_below_drewN HB1.out _⟩
  | true =>
    rw [if_pos rfl] at h
    have H := hidP h
    clear h
    go_enter Tryd.func4, Tryd.ntmps4
    go_wp2_with (first
      | (go_at_call 8; (with_reducible refine (haulierlaw04_awake.calls true _ HUP.out).mono ?_); rintro e w1 ⟨rfl, hb1⟩; have HB1 := hidP hb1; clear hb1)
      | (go_at_call 9; (with_reducible refine (haulierlaw04_few.calls k _ _ l0 true _ (Kd.C_below HR0.out HB1.out) HC0.out HOK.out).mono ?_); rintro e w2 ⟨rfl, ⟨nd, rfl⟩⟩))
    go_loopg [5, 6] (l0.length + 1) (fun kq v5 v6 wr => ∃ (i : Nat), Hid (kq = l0.length + 1 - i) ∧ v6 = .int .i64 (i : Int) ∧ i ≤ l0.length ∧ Hid (Kd.N (Kd.slice 3 (Kd.int .i64)) 27 wr w.heap.size (fun _ => True) v5 (full (l0.take i))) ∧ Hid (outB (l0.take i) = false) ∧ Hid (Below w.heap.size w wr))
    case atStart => exact ⟨0, hidP rfl, rfl, by omega, hidP (Kd.N_nil _ _ _ _ _), hidP rfl, hidP (pw_below_drewN HB1.out _)⟩
    case round =>
      obtain ⟨i, HI, rfl, hi, HO, HA, HB⟩ := hrel
      by_cases hlt : i < l0.length
      · have t1 : decide ((i : Int) < (l0.length : Int)) = true := decide_eq_true (by omega)
        have t1n : decide (i < l0.length) = true := decide_eq_true (by omega)
        obtain ⟨ad, A1, c1, e1, hx1, hl1, hi1⟩ := at_L2 HR0.out (i : Int) (by omega) (by omega)
        cases e1
        have p1 : (0 ≤ (i : Int)) = True := eq_true (by omega)
        have q1 : ((i : Int) < (l0.length : Int)) = True := eq_true (by omega)
        rw [rd_L2_at hlt] at hx1 hl1 hi1
        rw [Int.toNat_natCast] at hx1
        have hmax1 := Kd.C_max hi1
        have HF1 := hidP (foot hl1 hi1)
        have HI1 := hidP hi1
        obtain ⟨line, hline⟩ : ∃ line, line = l0[i] := ⟨_, rfl⟩
        rw [← hline] at hx1 HI1 hmax1 HF1
        have HLINE := hidP hline
        have hx1' := (HB.out.cell (World.block_lt_of_cell? w _ hx1)).trans hx1
        have HX1 := hidP hx1
        clear hi1 hl1 hx1 hline
        go_wp2
        go_loopg [7] (line.length + 1) (fun kq v7 wr1 => ∃ (j : Nat), Hid (kq = line.length + 1 - j) ∧ v7 = .int .i64 (j : Int) ∧ j ≤ line.length ∧ Hid (Kd.N (Kd.slice 3 (Kd.int .i64)) 27 wr1 w.heap.size (fun _ => True) u5 (full (l0.take i))) ∧ Hid ((line.take j).any outN = false) ∧ Hid (Below w.heap.size w wr1))
        case atStart => exact ⟨0, hidP rfl, rfl, by omega, HO, hidP rfl, HB⟩
        case round =>
          clear HO HB hx1'
          obtain ⟨j, HJ, rfl, hj, HO, HL, HB⟩ := hrel
          have hx1' := (HB.out.cell (World.block_lt_of_cell? w _ HX1.out)).trans HX1.out
          by_cases hlj : j < line.length
          · have s1 : decide ((j : Int) < (line.length : Int)) = true := decide_eq_true (by omega)
            have s1n : decide (j < line.length) = true := decide_eq_true (by omega)
            obtain ⟨ad2, e2, hx2⟩ := Kd.at_int HI1.out (j : Int) (by omega) (by omega)
            cases e2
            rw [rd_atP hlj] at hx2
            rw [Int.toNat_natCast] at hx2
            have hx2' := (HB.out.cell (World.block_lt_of_cell? w _ hx2)).trans hx2
            have p2 : (0 ≤ (j : Int)) = True := eq_true (by omega)
            have q2 : ((j : Int) < (line.length : Int)) = True := eq_true (by omega)
            obtain ⟨n, hn⟩ : ∃ n, n = line[j] := ⟨_, rfl⟩
            rw [← hn] at hx2 hx2'
            clear hx2
            have hstep : (line.take (j + 1)).any outN = outN n := by
              have := HL.out
              rw [List.take_succ_eq_append_getElem hlj, List.any_append, this, ← hn]; simp
            have HST := hidP hstep
            have hbad : outN n = true → r = true := by
              intro hb
              have ho : outB l0 = true := by
                unfold outB
                rw [List.any_eq_true]
                refine ⟨line, by rw [HLINE.out]; exact List.getElem_mem hlt, ?_⟩
                rw [List.any_eq_true]
                exact ⟨n, by rw [hn]; exact List.getElem_mem hlj, hb⟩
              have := H.out
              rw [if_pos ho] at this
              exact (Option.some.inj this).symm
            have HBAD := hidP hbad
            clear hn hstep hbad
            by_cases h1 : n ≤ -1000000000000
            · have g1 : decide (n ≤ -1000000000000) = true := decide_eq_true h1
              obtain rfl := HBAD.out (by unfold outN; rw [g1]; rfl)
              clear h1
              go_wp2
              go_ret
              exact ⟨rfl, HB.out⟩
            · have g1 : decide (n ≤ -1000000000000) = false := decide_eq_false h1
              by_cases h2 : n ≥ 1000000000000
              · have g2 : decide (1000000000000 ≤ n) = true := decide_eq_true h2
                obtain rfl := HBAD.out (by unfold outN; rw [g1, show decide (n ≥ 1000000000000) = true from g2]; rfl)
                clear h1 h2
                go_wp2
                go_ret
                exact ⟨rfl, HB.out⟩
              · have g2 : decide (1000000000000 ≤ n) = false := decide_eq_false h2
                clear h1 h2
                go_wp2
                go_roundg (line.length + 1 - (j + 1))
                case measure => have := HJ.out; omega
                case rel => exact ⟨j + 1, hidP rfl, by go_num, by omega, HO, hidP (by rw [HST.out]; unfold outN; rw [g1, show decide (n ≥ 1000000000000) = false from g2]; rfl), HB⟩
          · have s1 : decide ((j : Int) < (line.length : Int)) = false := decide_eq_false (by omega)
            have s1n : decide (j < line.length) = false := decide_eq_false (by omega)
            obtain rfl : j = line.length := by omega
            have HNX : Hid (outB (l0.take (i + 1)) = false) := hidP (by
              have h1 := HA.out
              have h2 := HL.out
              rw [List.take_length] at h2
              unfold outB at *
              rw [List.take_succ_eq_append_getElem hlt, List.any_append, h1, ← HLINE.out]
              simp [h2])
            have HFU : Hid (full (l0.take (i + 1)) = full (l0.take i) ++ (if line = [] then [] else [line])) := hidP (by
              unfold full
              rw [List.take_succ_eq_append_getElem hlt, List.filter_append, ← HLINE.out]
              cases line <;> simp)
            by_cases h0 : 0 < line.length
            · have g1 : decide (0 < (line.length : Int)) = true := decide_eq_true (by omega)
              have g1n : decide (0 < line.length) = true := decide_eq_true h0
              have hne : line ≠ [] := by intro h; rw [h] at h0; simp at h0
              have hfl : (full (l0.take i)).length ≤ i := by
                have := List.length_filter_le (fun x : List Int => !x.isEmpty) (l0.take i)
                rw [List.length_take] at this
                unfold full; omega
              have HFL := hidP hfl
              have HNE := hidP hne
              clear hfl hne
              have HFEW : Hid (l0.length ≤ 100) := hidP (by
                have := HOK.out
                unfold haulierlaw04_few.f at this
                split at this
                · simp at this
                · omega)
              go_wp2_with (first
                | ((with_reducible refine gate_builtin (b := .append) (xs := #[.tmp 61, .tmp 66]) rfl ?_); at_builtin; go_loud (refine Kd.N_append (Kd.slice 3 (Kd.int .i64)) (w0 := w) w.heap.size rfl (.tmp 61) (.tmp 66) 22 27 (.slice none 0 0) 24 rfl Tryd.underlying22 info27 rfl (by decide) (by omega) u5 (full (l0.take i)) line [.slice A1 line.length c1] (fun _ => True) (fun k => k < w.heap.size) rfl rfl ?aP ?aK (fun _ _ => trivial) ?aO ?aB ?aS ?aL ?_; (case aP => exact Kd.FK_below HF1.out HB.out); (case aK => exact (fun k hk => ⟨trivial, fun e => absurd (Kd.N_base HO.out k e.symm) (by omega)⟩)); (case aO => exact HO.out); (case aB => exact HB.out); (case aS => exact HB.out.size); (case aL => have := HFL.out; have := HFEW.out; omega); intro v67 w67 ho67 hb67 hg67 hat67; have HO67 := hidP ho67; have HB67 := hidP hb67; clear ho67 hb67 hg67 hat67)))
              go_roundg (l0.length + 1 - (i + 1))
              case measure => have := HI.out; omega
              case rel => exact ⟨i + 1, hidP rfl, by go_num, by omega, hidP (by rw [HFU.out, if_neg HNE.out]; exact HO67.out), HNX, HB67⟩
            · have g1 : decide (0 < (line.length : Int)) = false := decide_eq_false (by omega)
              have g1n : decide (0 < line.length) = false := decide_eq_false h0
              have hne : line = [] := List.length_eq_zero_iff.mp (by omega)
              have HNE := hidP hne
              clear hne
              go_wp2
              go_roundg (l0.length + 1 - (i + 1))
              case measure => have := HI.out; omega
              case rel => exact ⟨i + 1, hidP rfl, by go_num, by omega, hidP (by rw [HFU.out, if_pos HNE.out, List.append_nil]; exact HO.out), HNX, HB⟩
      · have t1 : decide ((i : Int) < (l0.length : Int)) = false := decide_eq_false (by omega)
        have t1n : decide (i < l0.length) = false := decide_eq_false (by omega)
        obtain rfl : i = l0.length := by omega
        have h := H.out
        have hA := HA.out
        have hO := HO.out
        rw [List.take_length] at hA hO
        rw [hA, if_neg (by decide)] at h
        unfold haulierlaw04_ScanBack.g at h
        obtain ⟨b, hb, h⟩ := Option.bind_eq_some_iff.mp h
        obtain ⟨⟨m, er⟩, hm, h⟩ := Option.bind_eq_some_iff.mp h
        simp only at h
        have HP := hidP hb
        have HM := hidP hm
        have HO1 := hidP hO
        clear hb hm hA hO HA HO H
        have hsm : scan_Print.Ok l0 := by
          have := HP.out; unfold scan_Print.f at this; split at this
          · assumption
          · cases this
        obtain rfl : textP l0 = b := by have := HP.out; unfold scan_Print.f at this; rw [if_pos hsm] at this; exact Option.some.inj this
        clear hsm
        generalize textP l0 = b at *
        obtain ⟨want, hwant⟩ : ∃ want, want = full l0 := ⟨_, rfl⟩
        rw [← hwant] at HO1 h
        clear hwant
        by_cases hlen : (b.length : Int) > 4096
        · have g1 : decide (4096 < (b.length : Int)) = true := decide_eq_true hlen
          have g1n : decide (4096 < b.length) = true := decide_eq_true (by omega)
          rw [if_pos hlen] at h
          obtain rfl := Option.some.inj h
          clear h hlen
          go_wp2_with (first
            | (go_at_call 10; (with_reducible refine (scan_Print.calls _ _ l0 b _ (Kd.C_below HR0.out HB.out) HC0.out HP.out (HT.out.on HB.out)).mono ?_); rintro e w3 ⟨v3, rfl, ho3, hb3⟩; obtain ⟨A3, c3, rfl⟩ := Kd.R_slice ho3; have HO3 := hidP ho3; have HB3 := hidP (HB.out.trans (hb3.mono HB.out.size)); clear ho3 hb3)
            | (go_at_call 12; (with_reducible refine (scan_Lines.calls _ _ b m er _ (Kd.R_reads' HO3.out).2.2 (Kd.R_reads' HO3.out).2.1 HM.out).mono ?_); rintro e w4 ⟨v4, rfl, ho4, hb4⟩; have HB4 := hidP (HB3.out.trans (hb4.mono HB3.out.size)); clear ho4 hb4))
          go_ret
          exact ⟨rfl, HB4.out⟩
        · have g1 : decide (4096 < (b.length : Int)) = false := decide_eq_false hlen
          have g1n : decide (4096 < b.length) = false := decide_eq_false (by omega)
          rw [if_neg hlen] at h
          obtain ⟨same, hs, h⟩ := Option.bind_eq_some_iff.mp h
          have HS := hidP hs
          obtain rfl := Option.some.inj h
          clear h hlen hs
          by_cases he : er = 0
          · have g2 : (er == 0) = true := by rw [he]; rfl
            have g3 : (er != 0) = false := by rw [he]; rfl
            clear he
            go_wp2_with (first
              | (go_at_call 10; (with_reducible refine (scan_Print.calls _ _ l0 b _ (Kd.C_below HR0.out HB.out) HC0.out HP.out (HT.out.on HB.out)).mono ?_); rintro e w3 ⟨v3, rfl, ho3, hb3⟩; obtain ⟨A3, c3, rfl⟩ := Kd.R_slice ho3; have HO3 := hidP ho3; have HO2 := hidP (Kd.N_below HO1.out hb3); have HB3 := hidP (HB.out.trans (hb3.mono HB.out.size)); clear ho3 hb3)
              | (go_at_call 12; (with_reducible refine (scan_Lines.calls _ _ b m er _ (Kd.R_reads' HO3.out).2.2 (Kd.R_reads' HO3.out).2.1 HM.out).mono ?_); rintro e w4 ⟨v4, rfl, ho4, hb4⟩; obtain ⟨A4, c4, rfl⟩ := Kd.S_slice ho4; obtain ⟨A5, c5, rfl⟩ := Kd.N_slice HO2.out; have HO4 := hidP ho4; have HO5 := hidP (Kd.N_below HO2.out hb4); have HB4 := hidP (HB3.out.trans (hb4.mono HB3.out.size)); clear ho4 hb4)
              | (go_at_call 13; (with_reducible refine (haulierref04_Same.calls k _ _ m _ _ want same _ (Kd.S_reads' HO4.out).2.2 (Kd.S_reads' HO4.out).2.1 (Kd.N_reads' HO5.out).2.2 (Kd.N_reads' HO5.out).2.1 HS.out).mono ?_); rintro e w5 ⟨rfl, ⟨nd5, rfl⟩⟩))
            go_ret
            exact ⟨by rw [g2]; rfl, pw_below_drewN HB4.out _⟩
          · have g2 : (er == 0) = false := beq_eq_false_iff_ne.mpr he
            have g3 : (er != 0) = true := bne_iff_ne.mpr he
            clear he
            go_wp2_with (first
              | (go_at_call 10; (with_reducible refine (scan_Print.calls _ _ l0 b _ (Kd.C_below HR0.out HB.out) HC0.out HP.out (HT.out.on HB.out)).mono ?_); rintro e w3 ⟨v3, rfl, ho3, hb3⟩; obtain ⟨A3, c3, rfl⟩ := Kd.R_slice ho3; have HO3 := hidP ho3; have HO2 := hidP (Kd.N_below HO1.out hb3); have HB3 := hidP (HB.out.trans (hb3.mono HB.out.size)); clear ho3 hb3)
              | (go_at_call 12; (with_reducible refine (scan_Lines.calls _ _ b m er _ (Kd.R_reads' HO3.out).2.2 (Kd.R_reads' HO3.out).2.1 HM.out).mono ?_); rintro e w4 ⟨v4, rfl, ho4, hb4⟩; obtain ⟨A4, c4, rfl⟩ := Kd.S_slice ho4; obtain ⟨A5, c5, rfl⟩ := Kd.N_slice HO2.out; have HO4 := hidP ho4; have HO5 := hidP (Kd.N_below HO2.out hb4); have HB4 := hidP (HB3.out.trans (hb4.mono HB3.out.size)); clear ho4 hb4)
              | (go_at_call 13; (with_reducible refine (haulierref04_Same.calls k _ _ m _ _ want same _ (Kd.S_reads' HO4.out).2.2 (Kd.S_reads' HO4.out).2.1 (Kd.N_reads' HO5.out).2.2 (Kd.N_reads' HO5.out).2.1 HS.out).mono ?_); rintro e w5 ⟨rfl, ⟨nd5, rfl⟩⟩))
            go_ret
            exact ⟨by rw [g2]; rfl, pw_below_drewN HB4.out _⟩

end Go.Proofs.YtdmlohoicgfdnaaDoor.PA
