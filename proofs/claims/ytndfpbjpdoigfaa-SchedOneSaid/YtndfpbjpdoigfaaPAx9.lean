-- Printed for this claim by wip/tools/xprint.py over the kit's print; the contracts marked BY HAND are this session's own.
import Derived.Test.YtndfpbjpdoigfaaPAx0
import Derived.Test.YtndfpbjpdoigfaaPAx2
import Derived.Test.YtndfpbjpdoigfaaPAx3
import Derived.Test.YtndfpbjpdoigfaaPAx5
import Derived.Test.YtndfpbjpdoigfaaPAx8
namespace Go.Proofs.Ytndfpbjpdoigfaa.PA
open Go.RowKit Go.Proofs.YtndfpbjpdoigfaaW.PrintWords Go.Proofs.YtndfpbjpdoigfaaW.PrintLast Go.Proofs.YtndfpbjpdoigfaaW.PrintMore
attribute [local go_sem] max2_int min2_int max_two min_two max_three min_three max_four min_four   -- for this text's walks alone
set_option linter.unusedVariables false
set_option linter.unusedSimpArgs false

/-! ### haulierlaw07_SchedOne: function 3 -/
mutual
def haulierlaw07_SchedOne.j0 : Nat → Int → Bool → Bool → Int → Int → Int → List (S28) → Option (Bool)
  | 0, _, _, _, _, _, _, _ => none
  | k + 1, x1, x5, x48, x194000, x194001, x194002, x194003 => if x48 = true then (some x5) else (if 0 ≤ x1 then (if x1 < (x194003.length : Int) then (if 0 ≤ (wrap64 (x1 + x194000)) then (if (wrap64 (x1 + x194000)) < (x194003.length : Int) then ((sched_Times.f k x194000 x194001 x194002 x194003 (([x1, wrap64 (x1 + x194000)] : List Int))).bind fun bt203 => (if 0 < (x194003.length : Int) then ((plane_Far.f ((rd_T28 x194003 0).f0) ((rd_T28 x194003 0).f1) ((rd_T28 x194003 0).f2) ((rd_T28 x194003 0).f3) ((rd_T28 x194003 0).f4) ((rd_T28 x194003 0).f5) ((rd_T28 x194003 x1).f0) ((rd_T28 x194003 x1).f1) ((rd_T28 x194003 x1).f2) ((rd_T28 x194003 x1).f3) ((rd_T28 x194003 x1).f4) ((rd_T28 x194003 x1).f5)).bind fun t210 => (if (wrap64 (((rd_T28 x194003 0).f3) + t210)) < ((rd_T28 x194003 x1).f3) then (haulierlaw07_SchedOne.j1 k bt203.1 bt203.2.1 bt203.2.2 ((rd_T28 x194003 x1).f3) x194000 x194001 x194002 x194003 ((rd_T28 x194003 x1).f0) ((rd_T28 x194003 x1).f1) ((rd_T28 x194003 x1).f2) ((rd_T28 x194003 x1).f3) ((rd_T28 x194003 x1).f4) ((rd_T28 x194003 x1).f5) ((rd_T28 x194003 (wrap64 (x1 + x194000))).f0) ((rd_T28 x194003 (wrap64 (x1 + x194000))).f1) ((rd_T28 x194003 (wrap64 (x1 + x194000))).f2) ((rd_T28 x194003 (wrap64 (x1 + x194000))).f3) ((rd_T28 x194003 (wrap64 (x1 + x194000))).f4) ((rd_T28 x194003 (wrap64 (x1 + x194000))).f5)) else (haulierlaw07_SchedOne.j1 k bt203.1 bt203.2.1 bt203.2.2 (wrap64 (((rd_T28 x194003 0).f3) + t210)) x194000 x194001 x194002 x194003 ((rd_T28 x194003 x1).f0) ((rd_T28 x194003 x1).f1) ((rd_T28 x194003 x1).f2) ((rd_T28 x194003 x1).f3) ((rd_T28 x194003 x1).f4) ((rd_T28 x194003 x1).f5) ((rd_T28 x194003 (wrap64 (x1 + x194000))).f0) ((rd_T28 x194003 (wrap64 (x1 + x194000))).f1) ((rd_T28 x194003 (wrap64 (x1 + x194000))).f2) ((rd_T28 x194003 (wrap64 (x1 + x194000))).f3) ((rd_T28 x194003 (wrap64 (x1 + x194000))).f4) ((rd_T28 x194003 (wrap64 (x1 + x194000))).f5)))) else (none))) else (none)) else (none)) else (none)) else (none))
def haulierlaw07_SchedOne.j1 : Nat → List (S36) → Int → Int → Int → Int → Int → Int → List (S28) → Int → Int → Int → Int → Int → Int → Int → Int → Int → Int → Int → Int → Option (Bool)
  | 0, _, _, _, _, _, _, _, _, _, _, _, _, _, _, _, _, _, _, _, _ => none
  | k + 1, x8, x9, x10, x11, x194000, x194001, x194002, x194003, x198000, x198001, x198002, x198003, x198004, x198005, x200000, x200001, x200002, x200003, x200004, x200005 => (plane_Far.f x198000 x198001 x198002 x198003 x198004 x198005 x200000 x200001 x200002 x200003 x200004 x200005).bind fun t211 => (if (wrap64 ((wrap64 (x11 + x198005)) + t211)) < x200003 then (haulierlaw07_SchedOne.j2 k x8 x9 x10 x11 x200003 x194000 x194001 x194002 x194003 x198000 x198001 x198002 x198003 x198004 x198005 x200000 x200001 x200002 x200003 x200004 x200005) else (haulierlaw07_SchedOne.j2 k x8 x9 x10 x11 (wrap64 ((wrap64 (x11 + x198005)) + t211)) x194000 x194001 x194002 x194003 x198000 x198001 x198002 x198003 x198004 x198005 x200000 x200001 x200002 x200003 x200004 x200005))
def haulierlaw07_SchedOne.j2 : Nat → List (S36) → Int → Int → Int → Int → Int → Int → Int → List (S28) → Int → Int → Int → Int → Int → Int → Int → Int → Int → Int → Int → Int → Option (Bool)
  | 0, _, _, _, _, _, _, _, _, _, _, _, _, _, _, _, _, _, _, _, _, _ => none
  | k + 1, x8, x9, x10, x11, x12, x194000, x194001, x194002, x194003, x198000, x198001, x198002, x198003, x198004, x198005, x200000, x200001, x200002, x200003, x200004, x200005 => if 0 < (x194003.length : Int) then ((plane_Far.f x200000 x200001 x200002 x200003 x200004 x200005 ((rd_T28 x194003 0).f0) ((rd_T28 x194003 0).f1) ((rd_T28 x194003 0).f2) ((rd_T28 x194003 0).f3) ((rd_T28 x194003 0).f4) ((rd_T28 x194003 0).f5)).bind fun t213 => (if x198002 ≤ x194002 then (if x11 ≤ x198004 then (if x12 ≤ x200004 then (haulierlaw07_SchedOne.j3 k x8 x9 x10 x11 x12 (decide ((wrap64 ((wrap64 (x12 + x200005)) + t213)) ≤ ((rd_T28 x194003 0).f4))) x194000 x194001 x194002 x194003 x198000 x198001 x198002 x198003 x198004 x198005 x200000 x200001 x200002 x200003 x200004 x200005) else (haulierlaw07_SchedOne.j3 k x8 x9 x10 x11 x12 false x194000 x194001 x194002 x194003 x198000 x198001 x198002 x198003 x198004 x198005 x200000 x200001 x200002 x200003 x200004 x200005)) else (haulierlaw07_SchedOne.j3 k x8 x9 x10 x11 x12 false x194000 x194001 x194002 x194003 x198000 x198001 x198002 x198003 x198004 x198005 x200000 x200001 x200002 x200003 x200004 x200005)) else (haulierlaw07_SchedOne.j3 k x8 x9 x10 x11 x12 false x194000 x194001 x194002 x194003 x198000 x198001 x198002 x198003 x198004 x198005 x200000 x200001 x200002 x200003 x200004 x200005))) else (none)
def haulierlaw07_SchedOne.j3 : Nat → List (S36) → Int → Int → Int → Int → Bool → Int → Int → Int → List (S28) → Int → Int → Int → Int → Int → Int → Int → Int → Int → Int → Int → Int → Option (Bool)
  | 0, _, _, _, _, _, _, _, _, _, _, _, _, _, _, _, _, _, _, _, _, _, _ => none
  | k + 1, x8, x9, x10, x11, x12, x14, x194000, x194001, x194002, x194003, x198000, x198001, x198002, x198003, x198004, x198005, x200000, x200001, x200002, x200003, x200004, x200005 => if x14 = true then (if x10 = 0 then (if 0 < (x194003.length : Int) then ((plane_Far.f ((rd_T28 x194003 0).f0) ((rd_T28 x194003 0).f1) ((rd_T28 x194003 0).f2) ((rd_T28 x194003 0).f3) ((rd_T28 x194003 0).f4) ((rd_T28 x194003 0).f5) x198000 x198001 x198002 x198003 x198004 x198005).bind fun t216 => ((plane_Far.f x198000 x198001 x198002 x198003 x198004 x198005 x200000 x200001 x200002 x200003 x200004 x200005).bind fun t217 => ((plane_Far.f x200000 x200001 x200002 x200003 x200004 x200005 ((rd_T28 x194003 0).f0) ((rd_T28 x194003 0).f1) ((rd_T28 x194003 0).f2) ((rd_T28 x194003 0).f3) ((rd_T28 x194003 0).f4) ((rd_T28 x194003 0).f5)).bind fun t219 => (if x9 = (wrap64 ((wrap64 (t216 + t217)) + t219)) then (if (x8.length : Int) = 2 then (if 0 < (x8.length : Int) then (if ((rd_T36 x8 0).f1) = x11 then (if 1 < (x8.length : Int) then (some (((rd_T36 x8 1).f1) == x12)) else (none)) else (none)) else (none)) else (none)) else (none))))) else (none)) else (none)) else (if x10 = 6 then (some true) else (some (x10 == 7)))
end
def haulierlaw07_SchedOne.f (k : Nat) (a0_0 : Int) (a0_1 : Int) (a0_2 : Int) (l0_3 : List (S28)) (a1 : Int) : Option (Bool) := (haulierlaw07_awake.f k).bind fun t194 => (if t194 = true then ((inst_May.f k a0_0 a0_1 a0_2 l0_3).bind fun t195 => (if t195 = true then (if (l0_3.length : Int) > 33 then (haulierlaw07_SchedOne.j0 k a1 t194 true a0_0 a0_1 a0_2 l0_3) else (if a1 < 1 then (haulierlaw07_SchedOne.j0 k a1 t194 true a0_0 a0_1 a0_2 l0_3) else (if a1 > a0_0 then (haulierlaw07_SchedOne.j0 k a1 t194 true a0_0 a0_1 a0_2 l0_3) else (haulierlaw07_SchedOne.j0 k a1 t194 ((l0_3.length : Int) != (wrap64 ((wrap64 (2 * a0_0)) + 1))) a0_0 a0_1 a0_2 l0_3)))) else (haulierlaw07_SchedOne.j0 k a1 t194 true a0_0 a0_1 a0_2 l0_3))) else (haulierlaw07_SchedOne.j0 k a1 t194 true a0_0 a0_1 a0_2 l0_3))
theorem haulierlaw07_SchedOne.mono_l : ∀ k, (∀ y0 y1 y2 y3 y4 y5 y6, LeO (haulierlaw07_SchedOne.j0 k y0 y1 y2 y3 y4 y5 y6) (haulierlaw07_SchedOne.j0 (k + 1) y0 y1 y2 y3 y4 y5 y6)) ∧ (∀ y0 y1 y2 y3 y4 y5 y6 y7 y8 y9 y10 y11 y12 y13 y14 y15 y16 y17 y18 y19, LeO (haulierlaw07_SchedOne.j1 k y0 y1 y2 y3 y4 y5 y6 y7 y8 y9 y10 y11 y12 y13 y14 y15 y16 y17 y18 y19) (haulierlaw07_SchedOne.j1 (k + 1) y0 y1 y2 y3 y4 y5 y6 y7 y8 y9 y10 y11 y12 y13 y14 y15 y16 y17 y18 y19)) ∧ (∀ y0 y1 y2 y3 y4 y5 y6 y7 y8 y9 y10 y11 y12 y13 y14 y15 y16 y17 y18 y19 y20, LeO (haulierlaw07_SchedOne.j2 k y0 y1 y2 y3 y4 y5 y6 y7 y8 y9 y10 y11 y12 y13 y14 y15 y16 y17 y18 y19 y20) (haulierlaw07_SchedOne.j2 (k + 1) y0 y1 y2 y3 y4 y5 y6 y7 y8 y9 y10 y11 y12 y13 y14 y15 y16 y17 y18 y19 y20)) ∧ (∀ y0 y1 y2 y3 y4 y5 y6 y7 y8 y9 y10 y11 y12 y13 y14 y15 y16 y17 y18 y19 y20 y21, LeO (haulierlaw07_SchedOne.j3 k y0 y1 y2 y3 y4 y5 y6 y7 y8 y9 y10 y11 y12 y13 y14 y15 y16 y17 y18 y19 y20 y21) (haulierlaw07_SchedOne.j3 (k + 1) y0 y1 y2 y3 y4 y5 y6 y7 y8 y9 y10 y11 y12 y13 y14 y15 y16 y17 y18 y19 y20 y21))
  | 0 => ⟨fun _ _ _ _ _ _ _ r h => by simp [haulierlaw07_SchedOne.j0] at h, fun _ _ _ _ _ _ _ _ _ _ _ _ _ _ _ _ _ _ _ _ r h => by simp [haulierlaw07_SchedOne.j1] at h, fun _ _ _ _ _ _ _ _ _ _ _ _ _ _ _ _ _ _ _ _ _ r h => by simp [haulierlaw07_SchedOne.j2] at h, fun _ _ _ _ _ _ _ _ _ _ _ _ _ _ _ _ _ _ _ _ _ _ r h => by simp [haulierlaw07_SchedOne.j3] at h⟩
  | k + 1 => by
    obtain ⟨ih0, ih1, ih2, ih3⟩ := haulierlaw07_SchedOne.mono_l k
    refine ⟨?_, ?_, ?_, ?_⟩
    · intro y0 y1 y2 y3 y4 y5 y6
      unfold haulierlaw07_SchedOne.j0
      repeat' first
      | (with_reducible exact ih0 _ _ _ _ _ _ _)
      | (with_reducible exact ih1 _ _ _ _ _ _ _ _ _ _ _ _ _ _ _ _ _ _ _ _)
      | (with_reducible exact ih2 _ _ _ _ _ _ _ _ _ _ _ _ _ _ _ _ _ _ _ _ _)
      | (with_reducible exact ih3 _ _ _ _ _ _ _ _ _ _ _ _ _ _ _ _ _ _ _ _ _ _)
      | (with_reducible exact haulierlaw07_awake.mono _)
      | (with_reducible exact inst_May.mono _ _ _ _ _)
      | (with_reducible exact sched_Times.mono _ _ _ _ _ _)
      | (with_reducible exact LeO.refl _)
      | (with_reducible exact LeO.none _)
      | (with_reducible refine LeO.ite ?_ ?_)
      | (with_reducible refine LeO.bind ?_ (fun _ => ?_))
      | exact ih0 _ _ _ _ _ _ _
      | exact ih1 _ _ _ _ _ _ _ _ _ _ _ _ _ _ _ _ _ _ _ _
      | exact ih2 _ _ _ _ _ _ _ _ _ _ _ _ _ _ _ _ _ _ _ _ _
      | exact ih3 _ _ _ _ _ _ _ _ _ _ _ _ _ _ _ _ _ _ _ _ _ _
      | exact haulierlaw07_awake.mono _
      | exact inst_May.mono _ _ _ _ _
      | exact sched_Times.mono _ _ _ _ _ _
      | exact LeO.none _
      | refine LeO.ite ?_ ?_
      | refine LeO.bind ?_ (fun _ => ?_)
    · intro y0 y1 y2 y3 y4 y5 y6 y7 y8 y9 y10 y11 y12 y13 y14 y15 y16 y17 y18 y19
      unfold haulierlaw07_SchedOne.j1
      repeat' first
      | (with_reducible exact ih0 _ _ _ _ _ _ _)
      | (with_reducible exact ih1 _ _ _ _ _ _ _ _ _ _ _ _ _ _ _ _ _ _ _ _)
      | (with_reducible exact ih2 _ _ _ _ _ _ _ _ _ _ _ _ _ _ _ _ _ _ _ _ _)
      | (with_reducible exact ih3 _ _ _ _ _ _ _ _ _ _ _ _ _ _ _ _ _ _ _ _ _ _)
      | (with_reducible exact haulierlaw07_awake.mono _)
      | (with_reducible exact inst_May.mono _ _ _ _ _)
      | (with_reducible exact sched_Times.mono _ _ _ _ _ _)
      | (with_reducible exact LeO.refl _)
      | (with_reducible exact LeO.none _)
      | (with_reducible refine LeO.ite ?_ ?_)
      | (with_reducible refine LeO.bind ?_ (fun _ => ?_))
      | exact ih0 _ _ _ _ _ _ _
      | exact ih1 _ _ _ _ _ _ _ _ _ _ _ _ _ _ _ _ _ _ _ _
      | exact ih2 _ _ _ _ _ _ _ _ _ _ _ _ _ _ _ _ _ _ _ _ _
      | exact ih3 _ _ _ _ _ _ _ _ _ _ _ _ _ _ _ _ _ _ _ _ _ _
      | exact haulierlaw07_awake.mono _
      | exact inst_May.mono _ _ _ _ _
      | exact sched_Times.mono _ _ _ _ _ _
      | exact LeO.none _
      | refine LeO.ite ?_ ?_
      | refine LeO.bind ?_ (fun _ => ?_)
    · intro y0 y1 y2 y3 y4 y5 y6 y7 y8 y9 y10 y11 y12 y13 y14 y15 y16 y17 y18 y19 y20
      unfold haulierlaw07_SchedOne.j2
      repeat' first
      | (with_reducible exact ih0 _ _ _ _ _ _ _)
      | (with_reducible exact ih1 _ _ _ _ _ _ _ _ _ _ _ _ _ _ _ _ _ _ _ _)
      | (with_reducible exact ih2 _ _ _ _ _ _ _ _ _ _ _ _ _ _ _ _ _ _ _ _ _)
      | (with_reducible exact ih3 _ _ _ _ _ _ _ _ _ _ _ _ _ _ _ _ _ _ _ _ _ _)
      | (with_reducible exact haulierlaw07_awake.mono _)
      | (with_reducible exact inst_May.mono _ _ _ _ _)
      | (with_reducible exact sched_Times.mono _ _ _ _ _ _)
      | (with_reducible exact LeO.refl _)
      | (with_reducible exact LeO.none _)
      | (with_reducible refine LeO.ite ?_ ?_)
      | (with_reducible refine LeO.bind ?_ (fun _ => ?_))
      | exact ih0 _ _ _ _ _ _ _
      | exact ih1 _ _ _ _ _ _ _ _ _ _ _ _ _ _ _ _ _ _ _ _
      | exact ih2 _ _ _ _ _ _ _ _ _ _ _ _ _ _ _ _ _ _ _ _ _
      | exact ih3 _ _ _ _ _ _ _ _ _ _ _ _ _ _ _ _ _ _ _ _ _ _
      | exact haulierlaw07_awake.mono _
      | exact inst_May.mono _ _ _ _ _
      | exact sched_Times.mono _ _ _ _ _ _
      | exact LeO.none _
      | refine LeO.ite ?_ ?_
      | refine LeO.bind ?_ (fun _ => ?_)
    · intro y0 y1 y2 y3 y4 y5 y6 y7 y8 y9 y10 y11 y12 y13 y14 y15 y16 y17 y18 y19 y20 y21
      unfold haulierlaw07_SchedOne.j3
      repeat' first
      | (with_reducible exact ih0 _ _ _ _ _ _ _)
      | (with_reducible exact ih1 _ _ _ _ _ _ _ _ _ _ _ _ _ _ _ _ _ _ _ _)
      | (with_reducible exact ih2 _ _ _ _ _ _ _ _ _ _ _ _ _ _ _ _ _ _ _ _ _)
      | (with_reducible exact ih3 _ _ _ _ _ _ _ _ _ _ _ _ _ _ _ _ _ _ _ _ _ _)
      | (with_reducible exact haulierlaw07_awake.mono _)
      | (with_reducible exact inst_May.mono _ _ _ _ _)
      | (with_reducible exact sched_Times.mono _ _ _ _ _ _)
      | (with_reducible exact LeO.refl _)
      | (with_reducible exact LeO.none _)
      | (with_reducible refine LeO.ite ?_ ?_)
      | (with_reducible refine LeO.bind ?_ (fun _ => ?_))
      | exact ih0 _ _ _ _ _ _ _
      | exact ih1 _ _ _ _ _ _ _ _ _ _ _ _ _ _ _ _ _ _ _ _
      | exact ih2 _ _ _ _ _ _ _ _ _ _ _ _ _ _ _ _ _ _ _ _ _
      | exact ih3 _ _ _ _ _ _ _ _ _ _ _ _ _ _ _ _ _ _ _ _ _ _
      | exact haulierlaw07_awake.mono _
      | exact inst_May.mono _ _ _ _ _
      | exact sched_Times.mono _ _ _ _ _ _
      | exact LeO.none _
      | refine LeO.ite ?_ ?_
      | refine LeO.bind ?_ (fun _ => ?_)
theorem haulierlaw07_SchedOne.mono : ∀ a0 a1 a2 a3 a4 k, LeO (haulierlaw07_SchedOne.f k a0 a1 a2 a3 a4) (haulierlaw07_SchedOne.f (k + 1) a0 a1 a2 a3 a4) := by
  intro a0 a1 a2 a3 a4 k
  obtain ⟨ih0, ih1, ih2, ih3⟩ := haulierlaw07_SchedOne.mono_l k
  unfold haulierlaw07_SchedOne.f
  repeat' first
      | (with_reducible exact ih0 _ _ _ _ _ _ _)
      | (with_reducible exact ih1 _ _ _ _ _ _ _ _ _ _ _ _ _ _ _ _ _ _ _ _)
      | (with_reducible exact ih2 _ _ _ _ _ _ _ _ _ _ _ _ _ _ _ _ _ _ _ _ _)
      | (with_reducible exact ih3 _ _ _ _ _ _ _ _ _ _ _ _ _ _ _ _ _ _ _ _ _ _)
      | (with_reducible exact haulierlaw07_awake.mono _)
      | (with_reducible exact inst_May.mono _ _ _ _ _)
      | (with_reducible exact sched_Times.mono _ _ _ _ _ _)
      | (with_reducible exact LeO.refl _)
      | (with_reducible exact LeO.none _)
      | (with_reducible refine LeO.ite ?_ ?_)
      | (with_reducible refine LeO.bind ?_ (fun _ => ?_))
      | exact ih0 _ _ _ _ _ _ _
      | exact ih1 _ _ _ _ _ _ _ _ _ _ _ _ _ _ _ _ _ _ _ _
      | exact ih2 _ _ _ _ _ _ _ _ _ _ _ _ _ _ _ _ _ _ _ _ _
      | exact ih3 _ _ _ _ _ _ _ _ _ _ _ _ _ _ _ _ _ _ _ _ _ _
      | exact haulierlaw07_awake.mono _
      | exact inst_May.mono _ _ _ _ _
      | exact sched_Times.mono _ _ _ _ _ _
      | exact LeO.none _
      | refine LeO.ite ?_ ?_
      | refine LeO.bind ?_ (fun _ => ?_)
def haulierlaw07_SchedOne.T7 : Bool × List (List Nat × List Nat) := (true, [([], []), ([0], [0]), ([1], [1]), ([2], [2]), ([3], [3]), ([], []), ([5], [5]), ([6], [6]), ([7], [7]), ([], []), ([8, 9], [8, 9]), ([4, 10], [4, 10]), ([11, 10, 0, 1, 2, 3, 4, 5, 6, 7, 8, 9, 10, 11], [11])])
def haulierlaw07_SchedOne.B7 : List Nat := [0, 1, 3, 7, 15, 0, 32, 96, 224, 0, 992, 2047, 4095]
theorem haulierlaw07_SchedOne.tab7 : rtab .any (opsOf Try.f3 7) = haulierlaw07_SchedOne.T7 := by kernel_rfl
theorem haulierlaw07_SchedOne.bits7 : waitsOk haulierlaw07_SchedOne.T7.2 haulierlaw07_SchedOne.B7 = true := by kernel_rfl
def haulierlaw07_SchedOne.T10 : Bool × List (List Nat × List Nat) := (true, [([], []), ([], []), ([1], [1]), ([0, 2], [0, 2]), ([], []), ([], []), ([4, 5], [4, 5]), ([3, 6], [3, 6]), ([7, 6, 0, 1, 2, 3, 4, 5, 6, 7], [7])])
def haulierlaw07_SchedOne.B10 : List Nat := [0, 0, 2, 7, 0, 0, 48, 127, 255]
theorem haulierlaw07_SchedOne.tab10 : rtab .any (opsOf Try.f3 10) = haulierlaw07_SchedOne.T10 := by kernel_rfl
theorem haulierlaw07_SchedOne.bits10 : waitsOk haulierlaw07_SchedOne.T10.2 haulierlaw07_SchedOne.B10 = true := by kernel_rfl
def haulierlaw07_SchedOne.T13 : Bool × List (List Nat × List Nat) := (true, [([], []), ([], []), ([1], [1]), ([0, 2], [0, 2]), ([], []), ([], []), ([5], [5]), ([6], [6]), ([7], [7]), ([4, 8], [4, 8]), ([3, 9], [3, 9]), ([10, 9, 0, 1, 2, 3, 4, 5, 6, 7, 8, 9, 10], [10])])
def haulierlaw07_SchedOne.B13 : List Nat := [0, 0, 2, 7, 0, 0, 32, 96, 224, 496, 1023, 2047]
theorem haulierlaw07_SchedOne.tab13 : rtab .any (opsOf Try.f3 13) = haulierlaw07_SchedOne.T13 := by kernel_rfl
theorem haulierlaw07_SchedOne.bits13 : waitsOk haulierlaw07_SchedOne.T13.2 haulierlaw07_SchedOne.B13 = true := by kernel_rfl
def haulierlaw07_SchedOne.T17 : Bool × List (List Nat × List Nat) := (true, [([], []), ([0], [0]), ([1], [1]), ([2], [2]), ([2], [2]), ([4, 2], [2, 4]), ([5, 2], [2, 5]), ([6, 2], [2, 6]), ([2], [2]), ([7, 8, 2, 2], [2, 7, 8]), ([2], [2]), ([2], [2]), ([10, 11, 9, 2], [2, 10, 11]), ([9, 12, 2], [2, 9, 12]), ([2], [2]), ([2], [2]), ([15, 2], [2, 15]), ([16, 2], [2, 16]), ([17, 2], [2, 17]), ([14, 18, 12, 2], [2, 14, 18]), ([13, 19, 2], [2, 13, 19]), ([3, 20, 2], [2, 3, 20]), ([2, 21], [2, 21]), ([22, 19], [22]), ([23], [23]), ([24, 23], [23, 24]), ([25, 23], [23, 25]), ([23, 26], [23, 26]), ([27, 23], [27]), ([28], [28]), ([29, 28], [28, 29]), ([30, 28], [28, 30]), ([31, 28], [28, 31]), ([28], [28]), ([32, 33, 28], [28, 32, 33]), ([28, 34], [28, 34]), ([35, 28], [35]), ([36], [36]), ([37, 36], [36, 37]), ([38, 36], [36, 38]), ([39, 36], [36, 39]), ([36], [36]), ([40, 41, 36], [36, 40, 41]), ([36, 42], [36, 42]), ([43, 36, 0, 1, 2, 3, 4, 5, 6, 7, 8, 9, 10, 11, 12, 13, 14, 15, 16, 17, 18, 19, 20, 21, 22, 23, 24, 25, 26, 27, 28, 29, 30, 31, 32, 33, 34, 35, 36, 37, 38, 39, 40, 41, 42, 43], [43])])
def haulierlaw07_SchedOne.B17 : List Nat := [0, 1, 3, 7, 7, 23, 55, 119, 7, 503, 7, 7, 4087, 8183, 7, 7, 32775, 98311, 229383, 516087, 1048567, 2097151, 4194303, 8388607, 16777215, 33554431, 67108863, 134217727, 268435455, 536870911, 1073741823, 2147483647, 4294967295, 536870911, 17179869183, 34359738367, 68719476735, 137438953471, 274877906943, 549755813887, 1099511627775, 137438953471, 4398046511103, 8796093022207, 17592186044415]
theorem haulierlaw07_SchedOne.tab17 : rtab .any (opsOf Try.f3 17) = haulierlaw07_SchedOne.T17 := by kernel_rfl
theorem haulierlaw07_SchedOne.bits17 : waitsOk haulierlaw07_SchedOne.T17.2 haulierlaw07_SchedOne.B17 = true := by kernel_rfl
def sndN : Nat → Code → Code
  | n + 1, .seq _ b => sndN n b
  | _, c => c
theorem at_K {K : Act → World → Prop} {P : Program} {c : Code} {Q : Exit → Act → World → Prop} {a : Act} {w : World} (hK : ∀ a w, Code.wp P c Q a w → K a w) (h : Code.wp P c Q a w) : K a w := hK a w h
set_option maxHeartbeats 16000000 in
set_option maxRecDepth 100000 in
theorem haulierlaw07_SchedOne.part2 (k : Nat) (a0_0 a0_1 a0_2 : Int) (c0_3 : Nat) (l0_3 : List S28) (a1 : Int) (r : Bool) (w : World) (HC0_3 : Aside0 (l0_3.length ≤ c0_3)) (t194 : Bool) (gb193 : Nat) (GW193 : Aside0 (w.heap.size ≤ gb193)) (GE193 : Aside0 (w.heap.size ≤ gb193)) (kj3 : Nat) (HJ3 : Aside0 (kj3 + 1 ≤ k)) (ji30 : Int) (hji30 : wrap64 (a1 + a0_0) = ji30) (hji30w : IntKind.i64.wrap (a1 + a0_0) = ji30) (t203 : List S36) (t206 t207 : Int) (ad196 : Addr) (HR0_3 : Aside0 (Kd.C k28 w (some ad196) l0_3.length l0_3)) (gb197 : Nat) (GW197 : Aside0 (w.heap.size ≤ gb197)) (GE197 : Aside0 (w.heap.size ≤ gb197)) (NB193_197 : Aside0 (gb193 ≠ gb197)) (NB197_193 : Aside0 (gb197 ≠ gb193)) (hnb39 : gb197 ≠ gb193) (hnc39 : gb193 ≠ gb197) (gb199 : Nat) (GW199 : Aside0 (w.heap.size ≤ gb199)) (GE199 : Aside0 (w.heap.size ≤ gb199)) (NB193_199 : Aside0 (gb193 ≠ gb199)) (NB199_193 : Aside0 (gb199 ≠ gb193)) (NB197_199 : Aside0 (gb197 ≠ gb199)) (NB199_197 : Aside0 (gb199 ≠ gb197)) (hnb43 : gb199 ≠ gb193) (hnc43 : gb193 ≠ gb199) (hnb44 : gb199 ≠ gb197) (hnc44 : gb197 ≠ gb199) (v204 : Value) (hw208_5 : w.cell? ⟨ad196.block, ad196.off + 5, none⟩ = some (Value.int IntKind.i64 (rd_T28 l0_3 0).f5)) (hw208_4 : w.cell? ⟨ad196.block, ad196.off + 4, none⟩ = some (Value.int IntKind.i64 (rd_T28 l0_3 0).f4)) (hw208_3 : w.cell? ⟨ad196.block, ad196.off + 3, none⟩ = some (Value.int IntKind.i64 (rd_T28 l0_3 0).f3)) (hw208_2 : w.cell? ⟨ad196.block, ad196.off + 2, none⟩ = some (Value.int IntKind.i64 (rd_T28 l0_3 0).f2)) (hw208_1 : w.cell? ⟨ad196.block, ad196.off + 1, none⟩ = some (Value.int IntKind.i64 (rd_T28 l0_3 0).f1)) (hw208_0 : w.cell? ad196 = some (Value.int IntKind.i64 (rd_T28 l0_3 0).f0)) (hw209_5 : w.cell? ⟨ad196.block, ad196.off + 5, none⟩ = some (Value.int IntKind.i64 (rd_T28 l0_3 0).f5)) (hw209_4 : w.cell? ⟨ad196.block, ad196.off + 4, none⟩ = some (Value.int IntKind.i64 (rd_T28 l0_3 0).f4)) (hw209_3 : w.cell? ⟨ad196.block, ad196.off + 3, none⟩ = some (Value.int IntKind.i64 (rd_T28 l0_3 0).f3)) (hw209_2 : w.cell? ⟨ad196.block, ad196.off + 2, none⟩ = some (Value.int IntKind.i64 (rd_T28 l0_3 0).f2)) (hw209_1 : w.cell? ⟨ad196.block, ad196.off + 1, none⟩ = some (Value.int IntKind.i64 (rd_T28 l0_3 0).f1)) (hw209_0 : w.cell? ad196 = some (Value.int IntKind.i64 (rd_T28 l0_3 0).f0)) (x11_35 : Int) (kj35 : Nat) (HJ35 : Aside0 (kj35 + 1 ≤ kj3)) (u12 u15 u16 u17 u18 u19 u20 u21 u22 u23 u24 u25 u26 u27 u28 u29 u30 u31 u32 u33 u34 u35 u36 u37 u38 u39 u40 u41 u42 u43 u44 u45 u46 u47 u48 u49 u50 u51 u52 u53 u54 u55 u56 u57 u58 u59 u60 u61 u62 u63 u64 u65 u66 u67 u68 u69 u70 u71 u72 u73 u74 u75 u76 u77 u78 u79 u80 u81 u82 u83 u84 u85 u86 u87 u88 u89 u90 u91 u92 u93 u94 u95 u96 u97 u98 u99 u100 u101 u102 u103 u104 u105 u106 u107 u108 u109 u110 u111 u112 u113 u114 u115 u116 u117 u118 u119 u120 u121 u122 u123 u124 u125 u126 u127 u128 u129 u130 u131 u132 u133 u134 u135 u136 u137 u138 u139 u140 u141 u142 u143 u144 u145 u146 u147 u148 u149 u150 u151 u152 u153 u154 u155 u156 u157 u158 u159 u160 u161 u162 u163 u164 u165 u166 u167 u168 u169 u170 u171 u172 u173 u174 u175 u176 u177 u178 u179 u180 u181 u182 u183 u184 u185 u186 u187 u188 u189 u190 u191 u192 u193 u194 u195 : Value) (wc : World)
    (hcut : ∃ (kq : Nat) (x12_58 : Int), u12 = .int .i64 x12_58 ∧ Aside0 (haulierlaw07_SchedOne.j2 kq t203 t206 t207 x11_35 x12_58 a0_0 a0_1 a0_2 l0_3 ((rd_T28 l0_3 a1).f0) ((rd_T28 l0_3 a1).f1) ((rd_T28 l0_3 a1).f2) ((rd_T28 l0_3 a1).f3) ((rd_T28 l0_3 a1).f4) ((rd_T28 l0_3 a1).f5) ((rd_T28 l0_3 (ji30)).f0) ((rd_T28 l0_3 (ji30)).f1) ((rd_T28 l0_3 (ji30)).f2) ((rd_T28 l0_3 (ji30)).f3) ((rd_T28 l0_3 (ji30)).f4) ((rd_T28 l0_3 (ji30)).f5) = some r) ∧ Aside0 (kq ≤ kj35) ∧ Aside0 (Kd.R k36 36 wc w.heap.size (fun _ => True) v204 t203) ∧ Aside0 (wc.heap[gb193]? = some (.cells #[.int .i64 a0_0, .int .i64 a0_1, .int .i64 a0_2, (.slice (some ad196) l0_3.length c0_3)] 24 (0, 0))) ∧ Aside0 (wc.heap[gb197]? = some (.cells #[.int .i64 ((rd_T28 l0_3 a1).f0), .int .i64 ((rd_T28 l0_3 a1).f1), .int .i64 ((rd_T28 l0_3 a1).f2), .int .i64 ((rd_T28 l0_3 a1).f3), .int .i64 ((rd_T28 l0_3 a1).f4), .int .i64 ((rd_T28 l0_3 a1).f5)] 28 (0, 0))) ∧ Aside0 (wc.heap[gb199]? = some (.cells #[.int .i64 ((rd_T28 l0_3 (ji30)).f0), .int .i64 ((rd_T28 l0_3 (ji30)).f1), .int .i64 ((rd_T28 l0_3 (ji30)).f2), .int .i64 ((rd_T28 l0_3 (ji30)).f3), .int .i64 ((rd_T28 l0_3 (ji30)).f4), .int .i64 ((rd_T28 l0_3 (ji30)).f5)] 28 (0, 0))) ∧ Aside0 (Below w.heap.size w wc)) :
    (sndN 10 (Option.getD Try.f3.body .skip)).wp Try.prog (bodyPost Try.prog Try.f3 fun e w' => e = .returned (.bool r) ∧ Below w.heap.size w w') { tmps := #[.agg #[.int .i64 a0_0, .int .i64 a0_1, .int .i64 a0_2, .slice (some ad196) l0_3.length c0_3], .int .i64 a1, .pointer (some ⟨gb193, 0, none⟩), undef, .bool false, .bool t194, .pointer (some ⟨gb197, 0, none⟩), .pointer (some ⟨gb199, 0, none⟩), v204, .int .i64 t206, .int .i64 t207, .int .i64 x11_35, u12, undef, undef, u15, u16, u17, u18, u19, u20, u21, u22, u23, u24, u25, u26, u27, u28, u29, u30, u31, u32, u33, u34, u35, u36, u37, u38, u39, u40, u41, u42, u43, u44, u45, u46, u47, u48, u49, u50, u51, u52, u53, u54, u55, u56, u57, u58, u59, u60, u61, u62, u63, u64, u65, u66, u67, u68, u69, u70, u71, u72, u73, u74, u75, u76, u77, u78, u79, u80, u81, u82, u83, u84, u85, u86, u87, u88, u89, u90, u91, u92, u93, u94, u95, u96, u97, u98, u99, u100, u101, u102, u103, u104, u105, u106, u107, u108, u109, u110, u111, u112, u113, u114, u115, u116, u117, u118, u119, u120, u121, u122, u123, u124, u125, u126, u127, u128, u129, u130, u131, u132, u133, u134, u135, u136, u137, u138, u139, u140, u141, u142, u143, u144, u145, u146, u147, u148, u149, u150, u151, u152, u153, u154, u155, u156, u157, u158, u159, u160, u161, u162, u163, u164, u165, u166, u167, u168, u169, u170, u171, u172, u173, u174, u175, u176, u177, u178, u179, u180, u181, u182, u183, u184, u185, u186, u187, u188, u189, u190, u191, u192, u193, u194, u195], defers := [] } wc := by
 have hu24 := Try.underlying24
 have hu28 := Try.underlying28
 generalize hq_ : (bodyPost Try.prog Try.f3 fun e w' => e = .returned (.bool r) ∧ Below w.heap.size w w') = Q_
 dsimp only [Try.f3, Option.getD, sndN]
 subst hq_
 obtain ⟨kq, x12_58, rfl, HA, HJ58, HO_8, BK193, BK197, BK199, HB⟩ := hcut
 cases kq with
 | zero => exact absurd HA.out (by simp [haulierlaw07_SchedOne.j2])
 | succ kj58 =>
  have H := HA.out
  clear HA
  simp only [haulierlaw07_SchedOne.j2] at H
  by_cases c69 : 0 < (l0_3.length : Int)
  ·
   rw [if_pos c69] at H
   have c69b0 : decide (0 < (l0_3.length : Int)) = true := decide_eq_true c69
   have c69b1 : decide (0 < l0_3.length) = true := decide_eq_true (by omega)
   clear c69
   replace H := Option.bind_eq_some_iff.mp H
   obtain ⟨t213, A700, H⟩ := H
   replace H : (if ((rd_T28 l0_3 a1).f2) ≤ a0_2 then (if x11_35 ≤ ((rd_T28 l0_3 a1).f4) then (if x12_58 ≤ ((rd_T28 l0_3 (ji30)).f4) then (haulierlaw07_SchedOne.j3 kj58 t203 t206 t207 x11_35 x12_58 (decide ((wrap64 ((wrap64 (x12_58 + ((rd_T28 l0_3 (ji30)).f5))) + t213)) ≤ ((rd_T28 l0_3 0).f4))) a0_0 a0_1 a0_2 l0_3 ((rd_T28 l0_3 a1).f0) ((rd_T28 l0_3 a1).f1) ((rd_T28 l0_3 a1).f2) ((rd_T28 l0_3 a1).f3) ((rd_T28 l0_3 a1).f4) ((rd_T28 l0_3 a1).f5) ((rd_T28 l0_3 (ji30)).f0) ((rd_T28 l0_3 (ji30)).f1) ((rd_T28 l0_3 (ji30)).f2) ((rd_T28 l0_3 (ji30)).f3) ((rd_T28 l0_3 (ji30)).f4) ((rd_T28 l0_3 (ji30)).f5)) else (haulierlaw07_SchedOne.j3 kj58 t203 t206 t207 x11_35 x12_58 false a0_0 a0_1 a0_2 l0_3 ((rd_T28 l0_3 a1).f0) ((rd_T28 l0_3 a1).f1) ((rd_T28 l0_3 a1).f2) ((rd_T28 l0_3 a1).f3) ((rd_T28 l0_3 a1).f4) ((rd_T28 l0_3 a1).f5) ((rd_T28 l0_3 (ji30)).f0) ((rd_T28 l0_3 (ji30)).f1) ((rd_T28 l0_3 (ji30)).f2) ((rd_T28 l0_3 (ji30)).f3) ((rd_T28 l0_3 (ji30)).f4) ((rd_T28 l0_3 (ji30)).f5))) else (haulierlaw07_SchedOne.j3 kj58 t203 t206 t207 x11_35 x12_58 false a0_0 a0_1 a0_2 l0_3 ((rd_T28 l0_3 a1).f0) ((rd_T28 l0_3 a1).f1) ((rd_T28 l0_3 a1).f2) ((rd_T28 l0_3 a1).f3) ((rd_T28 l0_3 a1).f4) ((rd_T28 l0_3 a1).f5) ((rd_T28 l0_3 (ji30)).f0) ((rd_T28 l0_3 (ji30)).f1) ((rd_T28 l0_3 (ji30)).f2) ((rd_T28 l0_3 (ji30)).f3) ((rd_T28 l0_3 (ji30)).f4) ((rd_T28 l0_3 (ji30)).f5))) else (haulierlaw07_SchedOne.j3 kj58 t203 t206 t207 x11_35 x12_58 false a0_0 a0_1 a0_2 l0_3 ((rd_T28 l0_3 a1).f0) ((rd_T28 l0_3 a1).f1) ((rd_T28 l0_3 a1).f2) ((rd_T28 l0_3 a1).f3) ((rd_T28 l0_3 a1).f4) ((rd_T28 l0_3 a1).f5) ((rd_T28 l0_3 (ji30)).f0) ((rd_T28 l0_3 (ji30)).f1) ((rd_T28 l0_3 (ji30)).f2) ((rd_T28 l0_3 (ji30)).f3) ((rd_T28 l0_3 (ji30)).f4) ((rd_T28 l0_3 (ji30)).f5))) = some r := H
   have A70 := zqi A700
   clear A700
   have HC71 := zqi H
   clear H
   try go_wp2
   have n0_ := zqi (Kd.R_drew HO_8.out)
   have n1_ := zqi (zqb BK193.out)
   have n2_ := zqi (zqb BK197.out)
   have n3_ := zqi (zqb BK199.out)
   have n4_ := zqi (zqh HB.out)
   clear HO_8
   clear BK193
   clear BK197
   clear BK199
   clear HB
   have HO_8 := n0_
   have BK193 := n1_
   have BK197 := n2_
   have BK199 := n3_
   have HB := n4_
   clear n0_ n1_ n2_ n3_ n4_
   have p212 : 0 ≤ (0 : Int) := (by omega)
   have q212 : 0 < (l0_3.length : Int) := of_decide_eq_true (by first | (with_reducible assumption) | assumption)
   obtain ⟨ad212, e212, hx212_0, hx212_1, hx212_2, hx212_3, hx212_4, hx212_5⟩ := at_T28 HR0_3.out 0 p212 q212
   have hw212_5 := hx212_5
   (try rw [show ((0 : Int)).toNat = 0 from rfl] at hw212_5)
   (try rw [show 0 * 6 = 0 from rfl] at hw212_5)
   (try rw [Addr.add_zero'] at hw212_5)
   have hw212_4 := hx212_4
   (try rw [show ((0 : Int)).toNat = 0 from rfl] at hw212_4)
   (try rw [show 0 * 6 = 0 from rfl] at hw212_4)
   (try rw [Addr.add_zero'] at hw212_4)
   have hw212_3 := hx212_3
   (try rw [show ((0 : Int)).toNat = 0 from rfl] at hw212_3)
   (try rw [show 0 * 6 = 0 from rfl] at hw212_3)
   (try rw [Addr.add_zero'] at hw212_3)
   have hw212_2 := hx212_2
   (try rw [show ((0 : Int)).toNat = 0 from rfl] at hw212_2)
   (try rw [show 0 * 6 = 0 from rfl] at hw212_2)
   (try rw [Addr.add_zero'] at hw212_2)
   have hw212_1 := hx212_1
   (try rw [show ((0 : Int)).toNat = 0 from rfl] at hw212_1)
   (try rw [show 0 * 6 = 0 from rfl] at hw212_1)
   (try rw [Addr.add_zero'] at hw212_1)
   have hw212_0 := hx212_0
   (try rw [show ((0 : Int)).toNat = 0 from rfl] at hw212_0)
   (try rw [show 0 * 6 = 0 from rfl] at hw212_0)
   (try rw [Addr.add_zero'] at hw212_0)
   obtain rfl : ad196 = ad212 := (by injection e212)
   have qi212 : (0 < l0_3.length) = True := eq_true (by omega)
   (try rw [show ((0 : Int)).toNat = 0 from rfl] at hx212_0)
   (try rw [show 0 * 6 = 0 from rfl] at hx212_0)
   (try rw [Addr.add_zero'] at hx212_0)
   (try rw [show ((0 : Int)).toNat = 0 from rfl] at hx212_1)
   (try rw [show 0 * 6 = 0 from rfl] at hx212_1)
   (try rw [Addr.add_zero'] at hx212_1)
   (try rw [show ((0 : Int)).toNat = 0 from rfl] at hx212_2)
   (try rw [show 0 * 6 = 0 from rfl] at hx212_2)
   (try rw [Addr.add_zero'] at hx212_2)
   (try rw [show ((0 : Int)).toNat = 0 from rfl] at hx212_3)
   (try rw [show 0 * 6 = 0 from rfl] at hx212_3)
   (try rw [Addr.add_zero'] at hx212_3)
   (try rw [show ((0 : Int)).toNat = 0 from rfl] at hx212_4)
   (try rw [show 0 * 6 = 0 from rfl] at hx212_4)
   (try rw [Addr.add_zero'] at hx212_4)
   (try rw [show ((0 : Int)).toNat = 0 from rfl] at hx212_5)
   (try rw [show 0 * 6 = 0 from rfl] at hx212_5)
   (try rw [Addr.add_zero'] at hx212_5)
   replace hx212_0 := (HB.out.cell (World.block_lt_of_cell? w _ hx212_0)).trans hx212_0
   replace hx212_1 := (HB.out.cell (World.block_lt_of_cell? w _ hx212_1)).trans hx212_1
   replace hx212_2 := (HB.out.cell (World.block_lt_of_cell? w _ hx212_2)).trans hx212_2
   replace hx212_3 := (HB.out.cell (World.block_lt_of_cell? w _ hx212_3)).trans hx212_3
   replace hx212_4 := (HB.out.cell (World.block_lt_of_cell? w _ hx212_4)).trans hx212_4
   replace hx212_5 := (HB.out.cell (World.block_lt_of_cell? w _ hx212_5)).trans hx212_5
   replace p212 := eq_true p212
   replace q212 := eq_true q212
   refine start_ (n := 12) (S := fun w' => w'.cell? ⟨gb199, 0, none⟩ = some (.int .i64 ((rd_T28 l0_3 (ji30)).f0)) ∧ w'.cell? ⟨gb199, 1, none⟩ = some (.int .i64 ((rd_T28 l0_3 (ji30)).f1)) ∧ w'.cell? ⟨gb199, 2, none⟩ = some (.int .i64 ((rd_T28 l0_3 (ji30)).f2)) ∧ w'.cell? ⟨gb199, 3, none⟩ = some (.int .i64 ((rd_T28 l0_3 (ji30)).f3)) ∧ w'.cell? ⟨gb199, 4, none⟩ = some (.int .i64 ((rd_T28 l0_3 (ji30)).f4)) ∧ w'.cell? ⟨gb199, 5, none⟩ = some (.int .i64 ((rd_T28 l0_3 (ji30)).f5)) ∧ w'.cell? ⟨gb193, 0, none⟩ = some (.int .i64 a0_0) ∧ w'.cell? ⟨gb193, 1, none⟩ = some (.int .i64 a0_1) ∧ w'.cell? ⟨gb193, 2, none⟩ = some (.int .i64 a0_2) ∧ w'.cell? ⟨gb193, 3, none⟩ = some (.slice (some ad196) l0_3.length c0_3) ∧ w'.cell? ad196 = some (.int .i64 ((rd_T28 l0_3 0).f0)) ∧ w'.cell? ⟨ad196.block, ad196.off + 1, none⟩ = some (.int .i64 ((rd_T28 l0_3 0).f1)) ∧ w'.cell? ⟨ad196.block, ad196.off + 2, none⟩ = some (.int .i64 ((rd_T28 l0_3 0).f2)) ∧ w'.cell? ⟨ad196.block, ad196.off + 3, none⟩ = some (.int .i64 ((rd_T28 l0_3 0).f3)) ∧ w'.cell? ⟨ad196.block, ad196.off + 4, none⟩ = some (.int .i64 ((rd_T28 l0_3 0).f4)) ∧ w'.cell? ⟨ad196.block, ad196.off + 5, none⟩ = some (.int .i64 ((rd_T28 l0_3 0).f5))) (ds := []) (zqB 12 0) (by kernel_rfl) rfl rfl ⟨(zqe BK199.out 0).trans rfl, (zqe BK199.out 1).trans rfl, (zqe BK199.out 2).trans rfl, (zqe BK199.out 3).trans rfl, (zqe BK199.out 4).trans rfl, (zqe BK199.out 5).trans rfl, (zqe BK193.out 0).trans rfl, (zqe BK193.out 1).trans rfl, (zqe BK193.out 2).trans rfl, (zqe BK193.out 3).trans rfl, ((HB.out.cell (World.block_lt_of_cell? w _ hw212_0)).trans hw212_0), ((HB.out.cell (World.block_lt_of_cell? w _ hw212_1)).trans hw212_1), ((HB.out.cell (World.block_lt_of_cell? w _ hw212_2)).trans hw212_2), ((HB.out.cell (World.block_lt_of_cell? w _ hw212_3)).trans hw212_3), ((HB.out.cell (World.block_lt_of_cell? w _ hw212_4)).trans hw212_4), ((HB.out.cell (World.block_lt_of_cell? w _ hw212_5)).trans hw212_5)⟩ (fun hHeld => ?_); refine with_tabW haulierlaw07_SchedOne.tab13 haulierlaw07_SchedOne.bits13 (fun HT_ HW_ => ?_)
   generalize wc.drew = w72 at HO_8 BK193 BK197 BK199 HB hx212_0 hx212_1 hx212_2 hx212_3 hx212_4 hx212_5 hHeld ⊢
   refine zqp 0 (some 107) (zqB 12 1) (any_of HT_.out (by kernel_rfl)) (h := ?_)
   refine zqp 1 (some 108) (zqB 12 3) (any_of HT_.out (by kernel_rfl)) (h := ?_)
   refine zqp 5 (some 112) (zqB 12 35) (any_of HT_.out (by kernel_rfl)) (h := ?_)
   refine zqt 2 (some 109) (zqB 12 39) (take_ofW HT_.out HW_.out (by kernel_rfl)) hHeld (h := ?_)
   refine zqp 3 (some 110) (zqB 12 47) (any_of HT_.out (by kernel_rfl)) (h := ?_)
   refine zqt 4 (some 111) (zqB 12 63) (take_ofW HT_.out HW_.out (by kernel_rfl)) hHeld (h := ?_)
   refine zqt 6 (some 113) (zqB 12 127) (take_ofW HT_.out HW_.out (by kernel_rfl)) hHeld (h := ?_)
   refine zqp 7 (some 114) (zqB 12 255) (any_of HT_.out (by kernel_rfl)) (h := ?_)
   refine zqt 8 (some 115) (zqB 12 511) (take_ofW HT_.out HW_.out (by kernel_rfl)) hHeld (h := ?_)
   refine one_ (i := 9) (N := some 116) (zqB 12 1023) rfl rfl (one_of HT_.out (by kernel_rfl)) (by decide) (fun K hK => ?_)
   refine goes_ Try.func7 (by kernel_rfl) rfl #[.agg #[.int .i64 ((rd_T28 l0_3 (ji30)).f0), .int .i64 ((rd_T28 l0_3 (ji30)).f1), .int .i64 ((rd_T28 l0_3 (ji30)).f2), .int .i64 ((rd_T28 l0_3 (ji30)).f3), .int .i64 ((rd_T28 l0_3 (ji30)).f4), .int .i64 ((rd_T28 l0_3 (ji30)).f5)], .agg #[.int .i64 ((rd_T28 l0_3 0).f0), .int .i64 ((rd_T28 l0_3 0).f1), .int .i64 ((rd_T28 l0_3 0).f2), .int .i64 ((rd_T28 l0_3 0).f3), .int .i64 ((rd_T28 l0_3 0).f4), .int .i64 ((rd_T28 l0_3 0).f5)]] (by rfl) rfl rfl (by (try simp only [List.map_toArray, List.map_cons, List.map_nil]); first | done | (simp only [hji30]; rfl) | rfl | (simp only [List.length_drop, List.length_take]; rfl)) ?_
   with_reducible refine (plane_Far.calls ((rd_T28 l0_3 (ji30)).f0) ((rd_T28 l0_3 (ji30)).f1) ((rd_T28 l0_3 (ji30)).f2) ((rd_T28 l0_3 (ji30)).f3) ((rd_T28 l0_3 (ji30)).f4) ((rd_T28 l0_3 (ji30)).f5) ((rd_T28 l0_3 0).f0) ((rd_T28 l0_3 0).f1) ((rd_T28 l0_3 0).f2) ((rd_T28 l0_3 0).f3) ((rd_T28 l0_3 0).f4) ((rd_T28 l0_3 0).f5) t213 _ A70.out).mono ?_
   rintro e w73 ⟨rfl, hb⟩
   refine ⟨_, rfl, ?_⟩
   have n0_ := zqi (Kd.R_below (by (with_reducible repeat (first | apply Kd.R_alloc | apply Kd.R_drewN | apply Kd.R_drew)); exact HO_8.out) hb)
   have n1_ := zqi (zqy BK193.out hb)
   have n2_ := zqi (zqy BK197.out hb)
   have n3_ := zqi (zqy BK199.out hb)
   have n4_ := zqi (below_step (zqn HB.out) hb)
   clear HO_8
   clear BK193
   clear BK197
   clear BK199
   clear HB
   have HO_8 := n0_
   have BK193 := n1_
   have BK197 := n2_
   have BK199 := n3_
   have HB := n4_
   clear n0_ n1_ n2_ n3_ n4_
   (try clear hb)
   (try clear hb2)
   (try clear hk)
   (try clear hi)
   refine hK.out _ _ ⟨(zqe BK199.out 0).trans rfl, (zqe BK199.out 1).trans rfl, (zqe BK199.out 2).trans rfl, (zqe BK199.out 3).trans rfl, (zqe BK199.out 4).trans rfl, (zqe BK199.out 5).trans rfl, (zqe BK193.out 0).trans rfl, (zqe BK193.out 1).trans rfl, (zqe BK193.out 2).trans rfl, (zqe BK193.out 3).trans rfl, ((HB.out.cell (World.block_lt_of_cell? w _ hw212_0)).trans hw212_0), ((HB.out.cell (World.block_lt_of_cell? w _ hw212_1)).trans hw212_1), ((HB.out.cell (World.block_lt_of_cell? w _ hw212_2)).trans hw212_2), ((HB.out.cell (World.block_lt_of_cell? w _ hw212_3)).trans hw212_3), ((HB.out.cell (World.block_lt_of_cell? w _ hw212_4)).trans hw212_4), ((HB.out.cell (World.block_lt_of_cell? w _ hw212_5)).trans hw212_5)⟩ (fun hHeld => ?_)
   clear hK K
   refine norm_ (a' := ?_) ?_ ?_
   rotate_left
   ·
    show Act.put _ (some 116) _ = _
    simp only [Act.put, List.setIfInBounds_toArray, List.set_cons_zero, List.set_cons_succ, i64_w, i32_w]
    rfl
   refine zqp 10 (some 117) (zqB 12 2047) (any_of HT_.out (by kernel_rfl)) (h := ?_)
   refine zqp 11 (some 13) (zqB 12 4095) (any_of HT_.out (by kernel_rfl)) (h := ?_)
   refine done_ (done_of HT_.out (by kernel_rfl)) ?_
   go_upto_region 14 with (fail)
   go_cut [14] (fun v14 wc => ∃ (kq : Nat) (x14_70 : Bool), v14 = .bool x14_70 ∧ Aside0 (haulierlaw07_SchedOne.j3 kq t203 t206 t207 x11_35 x12_58 x14_70 a0_0 a0_1 a0_2 l0_3 ((rd_T28 l0_3 a1).f0) ((rd_T28 l0_3 a1).f1) ((rd_T28 l0_3 a1).f2) ((rd_T28 l0_3 a1).f3) ((rd_T28 l0_3 a1).f4) ((rd_T28 l0_3 a1).f5) ((rd_T28 l0_3 (ji30)).f0) ((rd_T28 l0_3 (ji30)).f1) ((rd_T28 l0_3 (ji30)).f2) ((rd_T28 l0_3 (ji30)).f3) ((rd_T28 l0_3 (ji30)).f4) ((rd_T28 l0_3 (ji30)).f5) = some r) ∧ Aside0 (kq ≤ kj58) ∧ Aside0 (Kd.R k36 36 wc w.heap.size (fun _ => True) v204 t203) ∧ Aside0 (wc.heap[gb193]? = some (.cells #[.int .i64 a0_0, .int .i64 a0_1, .int .i64 a0_2, (.slice (some ad196) l0_3.length c0_3)] 24 (0, 0))) ∧ Aside0 (wc.heap[gb197]? = some (.cells #[.int .i64 ((rd_T28 l0_3 a1).f0), .int .i64 ((rd_T28 l0_3 a1).f1), .int .i64 ((rd_T28 l0_3 a1).f2), .int .i64 ((rd_T28 l0_3 a1).f3), .int .i64 ((rd_T28 l0_3 a1).f4), .int .i64 ((rd_T28 l0_3 a1).f5)] 28 (0, 0))) ∧ Aside0 (wc.heap[gb199]? = some (.cells #[.int .i64 ((rd_T28 l0_3 (ji30)).f0), .int .i64 ((rd_T28 l0_3 (ji30)).f1), .int .i64 ((rd_T28 l0_3 (ji30)).f2), .int .i64 ((rd_T28 l0_3 (ji30)).f3), .int .i64 ((rd_T28 l0_3 (ji30)).f4), .int .i64 ((rd_T28 l0_3 (ji30)).f5)] 28 (0, 0))) ∧ Aside0 (Below w.heap.size w wc))
   case first =>
    have H := HC71.out
    clear HC71
    by_cases c74 : ((rd_T28 l0_3 a1).f2) ≤ a0_2
    ·
     rw [if_pos c74] at H
     have c74b0 : decide (((rd_T28 l0_3 a1).f2) ≤ a0_2) = true := decide_eq_true c74
     clear c74
     (first | rw [c74b0] | (simp only [i64_w, i32_w]; rw [c74b0]) | skip)
     by_cases c75 : x11_35 ≤ ((rd_T28 l0_3 a1).f4)
     ·
      rw [if_pos c75] at H
      have c75b0 : decide (x11_35 ≤ ((rd_T28 l0_3 a1).f4)) = true := decide_eq_true c75
      clear c75
      by_cases c76 : x12_58 ≤ ((rd_T28 l0_3 (ji30)).f4)
      ·
       rw [if_pos c76] at H
       have c76b0 : decide (x12_58 ≤ ((rd_T28 l0_3 (ji30)).f4)) = true := decide_eq_true c76
       clear c76
       have H' := zqi H
       clear H
       have hnb77 := NB197_193.out
       have hnc77 := NB193_197.out
       have hnb78 := NB197_199.out
       have hnc78 := NB199_197.out
       obtain ⟨hcz79_0, hcz79_1, hcz79_2, hcz79_3, hcz79_4, hcz79_5, hfz79_0, hfz79_1, hfz79_2, hfz79_3, hfz79_4, hfz79_5⟩ := zqz6 BK197.out
       have hnb80 := NB193_199.out
       have hnc80 := NB199_193.out
       obtain ⟨hcz81_0, hcz81_1, hcz81_2, hcz81_3, hfz81_0, hfz81_1, hfz81_2, hfz81_3⟩ := zqz4 BK193.out
       obtain ⟨hcz82_0, hcz82_1, hcz82_2, hcz82_3, hcz82_4, hcz82_5, hfz82_0, hfz82_1, hfz82_2, hfz82_3, hfz82_4, hfz82_5⟩ := zqz6 BK199.out
       have p214 : 0 ≤ (0 : Int) := (by omega)
       have q214 : 0 < (l0_3.length : Int) := of_decide_eq_true (by first | (with_reducible assumption) | assumption)
       obtain ⟨ad214, e214, hx214_0, hx214_1, hx214_2, hx214_3, hx214_4, hx214_5⟩ := at_T28 HR0_3.out 0 p214 q214
       obtain rfl : ad196 = ad214 := (by injection e214)
       have qi214 : (0 < l0_3.length) = True := eq_true (by omega)
       (try rw [show ((0 : Int)).toNat = 0 from rfl] at hx214_0)
       (try rw [show 0 * 6 = 0 from rfl] at hx214_0)
       (try rw [Addr.add_zero'] at hx214_0)
       (try rw [show ((0 : Int)).toNat = 0 from rfl] at hx214_1)
       (try rw [show 0 * 6 = 0 from rfl] at hx214_1)
       (try rw [Addr.add_zero'] at hx214_1)
       (try rw [show ((0 : Int)).toNat = 0 from rfl] at hx214_2)
       (try rw [show 0 * 6 = 0 from rfl] at hx214_2)
       (try rw [Addr.add_zero'] at hx214_2)
       (try rw [show ((0 : Int)).toNat = 0 from rfl] at hx214_3)
       (try rw [show 0 * 6 = 0 from rfl] at hx214_3)
       (try rw [Addr.add_zero'] at hx214_3)
       (try rw [show ((0 : Int)).toNat = 0 from rfl] at hx214_4)
       (try rw [show 0 * 6 = 0 from rfl] at hx214_4)
       (try rw [Addr.add_zero'] at hx214_4)
       (try rw [show ((0 : Int)).toNat = 0 from rfl] at hx214_5)
       (try rw [show 0 * 6 = 0 from rfl] at hx214_5)
       (try rw [Addr.add_zero'] at hx214_5)
       replace hx214_0 := (HB.out.cell (World.block_lt_of_cell? w _ hx214_0)).trans hx214_0
       replace hx214_1 := (HB.out.cell (World.block_lt_of_cell? w _ hx214_1)).trans hx214_1
       replace hx214_2 := (HB.out.cell (World.block_lt_of_cell? w _ hx214_2)).trans hx214_2
       replace hx214_3 := (HB.out.cell (World.block_lt_of_cell? w _ hx214_3)).trans hx214_3
       replace hx214_4 := (HB.out.cell (World.block_lt_of_cell? w _ hx214_4)).trans hx214_4
       replace hx214_5 := (HB.out.cell (World.block_lt_of_cell? w _ hx214_5)).trans hx214_5
       replace p214 := eq_true p214
       replace q214 := eq_true q214
       go_wp2
       go_meet
       case rel => exact ⟨_, (decide ((wrap64 ((wrap64 (x12_58 + ((rd_T28 l0_3 (ji30)).f5))) + t213)) ≤ ((rd_T28 l0_3 0).f4))), (by first | rfl | (simp; done) | (simp only [← hji30] <;> (first | rfl | simp)) | (simp [*]; done)), H', ⟨by have := HJ3.out; have := HJ35.out; have := HJ58.out; first | omega | exact Nat.le_refl _⟩, ⟨by (with_reducible repeat (first | apply Kd.R_alloc | apply Kd.R_drewN | apply Kd.R_drew)); exact HO_8.out⟩, ⟨by (with_reducible repeat (first | apply zqa | apply zqb | apply zqc)); exact BK193.out⟩, ⟨by (with_reducible repeat (first | apply zqa | apply zqb | apply zqc)); exact BK197.out⟩, ⟨by (with_reducible repeat (first | apply zqa | apply zqb | apply zqc)); exact BK199.out⟩, ⟨by repeat (first | (with_reducible first | exact HB.out | apply zqg | apply zqf | apply zqh | refine below_set ?_ GE193.out | refine below_set ?_ GE197.out | refine below_set ?_ GE199.out) | exact HB.out)⟩⟩
      ·
       rw [if_neg c76] at H
       have c76b0 : decide (x12_58 ≤ ((rd_T28 l0_3 (ji30)).f4)) = false := decide_eq_false c76
       clear c76
       have H' := zqi H
       clear H
       have hnb83 := NB197_193.out
       have hnc83 := NB193_197.out
       have hnb84 := NB197_199.out
       have hnc84 := NB199_197.out
       obtain ⟨hcz85_0, hcz85_1, hcz85_2, hcz85_3, hcz85_4, hcz85_5, hfz85_0, hfz85_1, hfz85_2, hfz85_3, hfz85_4, hfz85_5⟩ := zqz6 BK197.out
       have hnb86 := NB193_199.out
       have hnc86 := NB199_193.out
       obtain ⟨hcz87_0, hcz87_1, hcz87_2, hcz87_3, hfz87_0, hfz87_1, hfz87_2, hfz87_3⟩ := zqz4 BK193.out
       obtain ⟨hcz88_0, hcz88_1, hcz88_2, hcz88_3, hcz88_4, hcz88_5, hfz88_0, hfz88_1, hfz88_2, hfz88_3, hfz88_4, hfz88_5⟩ := zqz6 BK199.out
       go_wp2
       go_meet
       case rel => exact ⟨_, (false), (by first | rfl | (simp; done) | (simp [*]; done)), H', ⟨by have := HJ3.out; have := HJ35.out; have := HJ58.out; first | omega | exact Nat.le_refl _⟩, ⟨by (with_reducible repeat (first | apply Kd.R_alloc | apply Kd.R_drewN | apply Kd.R_drew)); exact HO_8.out⟩, ⟨by (with_reducible repeat (first | apply zqa | apply zqb | apply zqc)); exact BK193.out⟩, ⟨by (with_reducible repeat (first | apply zqa | apply zqb | apply zqc)); exact BK197.out⟩, ⟨by (with_reducible repeat (first | apply zqa | apply zqb | apply zqc)); exact BK199.out⟩, ⟨by repeat (first | (with_reducible first | exact HB.out | apply zqg | apply zqf | apply zqh | refine below_set ?_ GE193.out | refine below_set ?_ GE197.out | refine below_set ?_ GE199.out) | exact HB.out)⟩⟩
     ·
      rw [if_neg c75] at H
      have c75b0 : decide (x11_35 ≤ ((rd_T28 l0_3 a1).f4)) = false := decide_eq_false c75
      clear c75
      have H' := zqi H
      clear H
      have hnb89 := NB197_193.out
      have hnc89 := NB193_197.out
      have hnb90 := NB197_199.out
      have hnc90 := NB199_197.out
      obtain ⟨hcz91_0, hcz91_1, hcz91_2, hcz91_3, hcz91_4, hcz91_5, hfz91_0, hfz91_1, hfz91_2, hfz91_3, hfz91_4, hfz91_5⟩ := zqz6 BK197.out
      have hnb92 := NB193_199.out
      have hnc92 := NB199_193.out
      obtain ⟨hcz93_0, hcz93_1, hcz93_2, hcz93_3, hfz93_0, hfz93_1, hfz93_2, hfz93_3⟩ := zqz4 BK193.out
      go_wp2
      go_meet
      case rel => exact ⟨_, (false), (by first | rfl | (simp; done) | (simp [*]; done)), H', ⟨by have := HJ3.out; have := HJ35.out; have := HJ58.out; first | omega | exact Nat.le_refl _⟩, ⟨by (with_reducible repeat (first | apply Kd.R_alloc | apply Kd.R_drewN | apply Kd.R_drew)); exact HO_8.out⟩, ⟨by (with_reducible repeat (first | apply zqa | apply zqb | apply zqc)); exact BK193.out⟩, ⟨by (with_reducible repeat (first | apply zqa | apply zqb | apply zqc)); exact BK197.out⟩, ⟨by (with_reducible repeat (first | apply zqa | apply zqb | apply zqc)); exact BK199.out⟩, ⟨by repeat (first | (with_reducible first | exact HB.out | apply zqg | apply zqf | apply zqh | refine below_set ?_ GE193.out | refine below_set ?_ GE197.out | refine below_set ?_ GE199.out) | exact HB.out)⟩⟩
    ·
     rw [if_neg c74] at H
     have c74b0 : decide (((rd_T28 l0_3 a1).f2) ≤ a0_2) = false := decide_eq_false c74
     clear c74
     (first | rw [c74b0] | (simp only [i64_w, i32_w]; rw [c74b0]) | skip)
     have H' := zqi H
     clear H
     have hnb94 := NB197_193.out
     have hnc94 := NB193_197.out
     have hnb95 := NB197_199.out
     have hnc95 := NB199_197.out
     obtain ⟨hcz96_0, hcz96_1, hcz96_2, hcz96_3, hcz96_4, hcz96_5, hfz96_0, hfz96_1, hfz96_2, hfz96_3, hfz96_4, hfz96_5⟩ := zqz6 BK197.out
     have hnb97 := NB193_199.out
     have hnc97 := NB199_193.out
     obtain ⟨hcz98_0, hcz98_1, hcz98_2, hcz98_3, hfz98_0, hfz98_1, hfz98_2, hfz98_3⟩ := zqz4 BK193.out
     go_wp2
     go_meet
     case rel => exact ⟨_, (false), (by first | rfl | (simp; done) | (simp [*]; done)), H', ⟨by have := HJ3.out; have := HJ35.out; have := HJ58.out; first | omega | exact Nat.le_refl _⟩, ⟨by (with_reducible repeat (first | apply Kd.R_alloc | apply Kd.R_drewN | apply Kd.R_drew)); exact HO_8.out⟩, ⟨by (with_reducible repeat (first | apply zqa | apply zqb | apply zqc)); exact BK193.out⟩, ⟨by (with_reducible repeat (first | apply zqa | apply zqb | apply zqc)); exact BK197.out⟩, ⟨by (with_reducible repeat (first | apply zqa | apply zqb | apply zqc)); exact BK199.out⟩, ⟨by repeat (first | (with_reducible first | exact HB.out | apply zqg | apply zqf | apply zqh | refine below_set ?_ GE193.out | refine below_set ?_ GE197.out | refine below_set ?_ GE199.out) | exact HB.out)⟩⟩
   case rest =>
    clear HC71
    try clear p1
    try clear q1
    try clear hx1
    try clear p2
    try clear q2
    try clear hx2
    try clear qi2
    try clear c6
    try clear p6
    try clear c7
    try clear c8
    try clear c9
    try clear p19
    try clear q19
    try clear hx19
    try clear p20
    try clear q20
    try clear hx20
    try clear p21
    try clear q21
    try clear hx21
    try clear qi21
    try clear p64
    try clear c69
    try clear c69b0
    try clear c69b1
    try clear c74
    try clear c74b0
    try clear c75
    try clear c75b0
    try clear c76
    try clear c76b0
    try clear c77
    try clear c78
    try clear c80
    try clear c83
    try clear c84
    try clear c86
    try clear c89
    try clear c90
    try clear c92
    try clear c94
    try clear c95
    try clear c97
    try clear hcz25_0
    try clear hcz25_1
    try clear hcz25_2
    try clear hcz25_3
    try clear hcz37_0
    try clear hcz37_1
    try clear hcz37_2
    try clear hcz37_3
    try clear hcz40_0
    try clear hcz40_1
    try clear hcz40_2
    try clear hcz40_3
    try clear hcz40_4
    try clear hcz40_5
    try clear hcz41_0
    try clear hcz41_1
    try clear hcz41_2
    try clear hcz41_3
    try clear hcz45_0
    try clear hcz45_1
    try clear hcz45_2
    try clear hcz45_3
    try clear hcz45_4
    try clear hcz45_5
    try clear hcz46_0
    try clear hcz46_1
    try clear hcz46_2
    try clear hcz46_3
    try clear hcz53_0
    try clear hcz53_1
    try clear hcz53_2
    try clear hcz53_3
    try clear hcz53_4
    try clear hcz53_5
    try clear hcz57_0
    try clear hcz57_1
    try clear hcz57_2
    try clear hcz57_3
    try clear hcz57_4
    try clear hcz57_5
    try clear hcz64_0
    try clear hcz64_1
    try clear hcz64_2
    try clear hcz64_3
    try clear hcz64_4
    try clear hcz64_5
    try clear hcz68_0
    try clear hcz68_1
    try clear hcz68_2
    try clear hcz68_3
    try clear hcz68_4
    try clear hcz68_5
    try clear hcz79_0
    try clear hcz79_1
    try clear hcz79_2
    try clear hcz79_3
    try clear hcz79_4
    try clear hcz79_5
    try clear hcz81_0
    try clear hcz81_1
    try clear hcz81_2
    try clear hcz81_3
    try clear hcz82_0
    try clear hcz82_1
    try clear hcz82_2
    try clear hcz82_3
    try clear hcz82_4
    try clear hcz82_5
    try clear hcz85_0
    try clear hcz85_1
    try clear hcz85_2
    try clear hcz85_3
    try clear hcz85_4
    try clear hcz85_5
    try clear hcz87_0
    try clear hcz87_1
    try clear hcz87_2
    try clear hcz87_3
    try clear hcz88_0
    try clear hcz88_1
    try clear hcz88_2
    try clear hcz88_3
    try clear hcz88_4
    try clear hcz88_5
    try clear hcz91_0
    try clear hcz91_1
    try clear hcz91_2
    try clear hcz91_3
    try clear hcz91_4
    try clear hcz91_5
    try clear hcz93_0
    try clear hcz93_1
    try clear hcz93_2
    try clear hcz93_3
    try clear hcz96_0
    try clear hcz96_1
    try clear hcz96_2
    try clear hcz96_3
    try clear hcz96_4
    try clear hcz96_5
    try clear hcz98_0
    try clear hcz98_1
    try clear hcz98_2
    try clear hcz98_3
    try clear hfz11_0
    try clear hfz11_1
    try clear hfz11_2
    try clear hfz11_3
    try clear hfz13_0
    try clear hfz13_1
    try clear hfz13_2
    try clear hfz13_3
    try clear hfz15_0
    try clear hfz15_1
    try clear hfz15_2
    try clear hfz15_3
    try clear hfz17_0
    try clear hfz17_1
    try clear hfz17_2
    try clear hfz17_3
    try clear hfz19_0
    try clear hfz19_1
    try clear hfz19_2
    try clear hfz19_3
    try clear hfz21_0
    try clear hfz21_1
    try clear hfz21_2
    try clear hfz21_3
    try clear hfz22_0
    try clear hfz22_1
    try clear hfz22_2
    try clear hfz22_3
    try clear hfz24_0
    try clear hfz24_1
    try clear hfz24_2
    try clear hfz24_3
    try clear hfz25_0
    try clear hfz25_1
    try clear hfz25_2
    try clear hfz25_3
    try clear hfz37_0
    try clear hfz37_1
    try clear hfz37_2
    try clear hfz37_3
    try clear hfz40_0
    try clear hfz40_1
    try clear hfz40_2
    try clear hfz40_3
    try clear hfz40_4
    try clear hfz40_5
    try clear hfz41_0
    try clear hfz41_1
    try clear hfz41_2
    try clear hfz41_3
    try clear hfz45_0
    try clear hfz45_1
    try clear hfz45_2
    try clear hfz45_3
    try clear hfz45_4
    try clear hfz45_5
    try clear hfz46_0
    try clear hfz46_1
    try clear hfz46_2
    try clear hfz46_3
    try clear hfz53_0
    try clear hfz53_1
    try clear hfz53_2
    try clear hfz53_3
    try clear hfz53_4
    try clear hfz53_5
    try clear hfz57_0
    try clear hfz57_1
    try clear hfz57_2
    try clear hfz57_3
    try clear hfz57_4
    try clear hfz57_5
    try clear hfz64_0
    try clear hfz64_1
    try clear hfz64_2
    try clear hfz64_3
    try clear hfz64_4
    try clear hfz64_5
    try clear hfz68_0
    try clear hfz68_1
    try clear hfz68_2
    try clear hfz68_3
    try clear hfz68_4
    try clear hfz68_5
    try clear hfz79_0
    try clear hfz79_1
    try clear hfz79_2
    try clear hfz79_3
    try clear hfz79_4
    try clear hfz79_5
    try clear hfz81_0
    try clear hfz81_1
    try clear hfz81_2
    try clear hfz81_3
    try clear hfz82_0
    try clear hfz82_1
    try clear hfz82_2
    try clear hfz82_3
    try clear hfz82_4
    try clear hfz82_5
    try clear hfz85_0
    try clear hfz85_1
    try clear hfz85_2
    try clear hfz85_3
    try clear hfz85_4
    try clear hfz85_5
    try clear hfz87_0
    try clear hfz87_1
    try clear hfz87_2
    try clear hfz87_3
    try clear hfz88_0
    try clear hfz88_1
    try clear hfz88_2
    try clear hfz88_3
    try clear hfz88_4
    try clear hfz88_5
    try clear hfz91_0
    try clear hfz91_1
    try clear hfz91_2
    try clear hfz91_3
    try clear hfz91_4
    try clear hfz91_5
    try clear hfz93_0
    try clear hfz93_1
    try clear hfz93_2
    try clear hfz93_3
    try clear hfz96_0
    try clear hfz96_1
    try clear hfz96_2
    try clear hfz96_3
    try clear hfz96_4
    try clear hfz96_5
    try clear hfz98_0
    try clear hfz98_1
    try clear hfz98_2
    try clear hfz98_3
    try clear hx196_0
    try clear hx196_1
    try clear hx196_2
    try clear hx196_3
    try clear hx196_4
    try clear hx196_5
    try clear hx198_0
    try clear hx198_1
    try clear hx198_2
    try clear hx198_3
    try clear hx198_4
    try clear hx198_5
    try clear hx208_0
    try clear hx208_1
    try clear hx208_2
    try clear hx208_3
    try clear hx208_4
    try clear hx208_5
    try clear hx209_0
    try clear hx209_1
    try clear hx209_2
    try clear hx209_3
    try clear hx209_4
    try clear hx209_5
    try clear hx212_0
    try clear hx212_1
    try clear hx212_2
    try clear hx212_3
    try clear hx212_4
    try clear hx212_5
    try clear hx214_0
    try clear hx214_1
    try clear hx214_2
    try clear hx214_3
    try clear hx214_4
    try clear hx214_5
    try clear p1
    try clear p19
    try clear p196
    try clear p198
    try clear p2
    try clear p20
    try clear p208
    try clear p209
    try clear p212
    try clear p214
    try clear p6
    try clear q1
    try clear q19
    try clear q196
    try clear q198
    try clear q2
    try clear q20
    try clear q208
    try clear q209
    try clear q212
    try clear q214
    obtain ⟨kq, x14_70, rfl, HA, HJ70, HO_8, BK193, BK197, BK199, HB⟩ := hcut
    cases kq with
    | zero => exact absurd HA.out (by simp [haulierlaw07_SchedOne.j3])
    | succ kj70 =>
     have H := HA.out
     clear HA
     simp only [haulierlaw07_SchedOne.j3] at H
     by_cases c99 : x14_70 = true
     ·
      subst c99
      have H1 : (if t207 = 0 then (if 0 < (l0_3.length : Int) then ((plane_Far.f ((rd_T28 l0_3 0).f0) ((rd_T28 l0_3 0).f1) ((rd_T28 l0_3 0).f2) ((rd_T28 l0_3 0).f3) ((rd_T28 l0_3 0).f4) ((rd_T28 l0_3 0).f5) ((rd_T28 l0_3 a1).f0) ((rd_T28 l0_3 a1).f1) ((rd_T28 l0_3 a1).f2) ((rd_T28 l0_3 a1).f3) ((rd_T28 l0_3 a1).f4) ((rd_T28 l0_3 a1).f5)).bind fun t216 => ((plane_Far.f ((rd_T28 l0_3 a1).f0) ((rd_T28 l0_3 a1).f1) ((rd_T28 l0_3 a1).f2) ((rd_T28 l0_3 a1).f3) ((rd_T28 l0_3 a1).f4) ((rd_T28 l0_3 a1).f5) ((rd_T28 l0_3 (ji30)).f0) ((rd_T28 l0_3 (ji30)).f1) ((rd_T28 l0_3 (ji30)).f2) ((rd_T28 l0_3 (ji30)).f3) ((rd_T28 l0_3 (ji30)).f4) ((rd_T28 l0_3 (ji30)).f5)).bind fun t217 => ((plane_Far.f ((rd_T28 l0_3 (ji30)).f0) ((rd_T28 l0_3 (ji30)).f1) ((rd_T28 l0_3 (ji30)).f2) ((rd_T28 l0_3 (ji30)).f3) ((rd_T28 l0_3 (ji30)).f4) ((rd_T28 l0_3 (ji30)).f5) ((rd_T28 l0_3 0).f0) ((rd_T28 l0_3 0).f1) ((rd_T28 l0_3 0).f2) ((rd_T28 l0_3 0).f3) ((rd_T28 l0_3 0).f4) ((rd_T28 l0_3 0).f5)).bind fun t219 => (if t206 = (wrap64 ((wrap64 (t216 + t217)) + t219)) then (if (t203.length : Int) = 2 then (if 0 < (t203.length : Int) then (if ((rd_T36 t203 0).f1) = x11_35 then (if 1 < (t203.length : Int) then (some (((rd_T36 t203 1).f1) == x12_58)) else (none)) else (none)) else (none)) else (none)) else (none))))) else (none)) else (none)) = some r := by rw [if_pos rfl] at H; exact H
      clear H
      have H := H1
      clear H1
      by_cases c100 : t207 = 0
      ·
       rw [if_pos c100] at H
       have c100b0 : (t207 == 0) = true := beq_iff_eq.mpr c100
       have c100b1 : (t207 != 0) = false := bne_eq_false_iff_eq.mpr c100
       clear c100
       by_cases c101 : 0 < (l0_3.length : Int)
       ·
        rw [if_pos c101] at H
        have c101b0 : decide (0 < (l0_3.length : Int)) = true := decide_eq_true c101
        have c101b1 : decide (0 < l0_3.length) = true := decide_eq_true (by omega)
        clear c101
        replace H := Option.bind_eq_some_iff.mp H
        obtain ⟨t216, A1020, H⟩ := H
        replace H : ((plane_Far.f ((rd_T28 l0_3 a1).f0) ((rd_T28 l0_3 a1).f1) ((rd_T28 l0_3 a1).f2) ((rd_T28 l0_3 a1).f3) ((rd_T28 l0_3 a1).f4) ((rd_T28 l0_3 a1).f5) ((rd_T28 l0_3 (ji30)).f0) ((rd_T28 l0_3 (ji30)).f1) ((rd_T28 l0_3 (ji30)).f2) ((rd_T28 l0_3 (ji30)).f3) ((rd_T28 l0_3 (ji30)).f4) ((rd_T28 l0_3 (ji30)).f5)).bind fun t217 => ((plane_Far.f ((rd_T28 l0_3 (ji30)).f0) ((rd_T28 l0_3 (ji30)).f1) ((rd_T28 l0_3 (ji30)).f2) ((rd_T28 l0_3 (ji30)).f3) ((rd_T28 l0_3 (ji30)).f4) ((rd_T28 l0_3 (ji30)).f5) ((rd_T28 l0_3 0).f0) ((rd_T28 l0_3 0).f1) ((rd_T28 l0_3 0).f2) ((rd_T28 l0_3 0).f3) ((rd_T28 l0_3 0).f4) ((rd_T28 l0_3 0).f5)).bind fun t219 => (if t206 = (wrap64 ((wrap64 (t216 + t217)) + t219)) then (if (t203.length : Int) = 2 then (if 0 < (t203.length : Int) then (if ((rd_T36 t203 0).f1) = x11_35 then (if 1 < (t203.length : Int) then (some (((rd_T36 t203 1).f1) == x12_58)) else (none)) else (none)) else (none)) else (none)) else (none)))) = some r := H
        have A102 := zqi A1020
        clear A1020
        replace H := Option.bind_eq_some_iff.mp H
        obtain ⟨t217, A1030, H⟩ := H
        replace H : ((plane_Far.f ((rd_T28 l0_3 (ji30)).f0) ((rd_T28 l0_3 (ji30)).f1) ((rd_T28 l0_3 (ji30)).f2) ((rd_T28 l0_3 (ji30)).f3) ((rd_T28 l0_3 (ji30)).f4) ((rd_T28 l0_3 (ji30)).f5) ((rd_T28 l0_3 0).f0) ((rd_T28 l0_3 0).f1) ((rd_T28 l0_3 0).f2) ((rd_T28 l0_3 0).f3) ((rd_T28 l0_3 0).f4) ((rd_T28 l0_3 0).f5)).bind fun t219 => (if t206 = (wrap64 ((wrap64 (t216 + t217)) + t219)) then (if (t203.length : Int) = 2 then (if 0 < (t203.length : Int) then (if ((rd_T36 t203 0).f1) = x11_35 then (if 1 < (t203.length : Int) then (some (((rd_T36 t203 1).f1) == x12_58)) else (none)) else (none)) else (none)) else (none)) else (none))) = some r := H
        have A103 := zqi A1030
        clear A1030
        replace H := Option.bind_eq_some_iff.mp H
        obtain ⟨t219, A1040, H⟩ := H
        replace H : (if t206 = (wrap64 ((wrap64 (t216 + t217)) + t219)) then (if (t203.length : Int) = 2 then (if 0 < (t203.length : Int) then (if ((rd_T36 t203 0).f1) = x11_35 then (if 1 < (t203.length : Int) then (some (((rd_T36 t203 1).f1) == x12_58)) else (none)) else (none)) else (none)) else (none)) else (none)) = some r := H
        have A104 := zqi A1040
        clear A1040
        by_cases c105 : t206 = (wrap64 ((wrap64 (t216 + t217)) + t219))
        ·
         rw [if_pos c105] at H
         have c105b0 : (t206 == (wrap64 ((wrap64 (t216 + t217)) + t219))) = true := beq_iff_eq.mpr c105
         have c105b1 : (t206 != (wrap64 ((wrap64 (t216 + t217)) + t219))) = false := bne_eq_false_iff_eq.mpr c105
         clear c105
         by_cases c106 : (t203.length : Int) = 2
         ·
          rw [if_pos c106] at H
          have c106b0 : ((t203.length : Int) == 2) = true := beq_iff_eq.mpr c106
          have c106b1 : ((t203.length : Int) != 2) = false := bne_eq_false_iff_eq.mpr c106
          clear c106
          by_cases c107 : 0 < (t203.length : Int)
          ·
           rw [if_pos c107] at H
           have c107b0 : decide (0 < (t203.length : Int)) = true := decide_eq_true c107
           have c107b1 : decide (0 < t203.length) = true := decide_eq_true (by omega)
           clear c107
           by_cases c108 : ((rd_T36 t203 0).f1) = x11_35
           ·
            rw [if_pos c108] at H
            have c108b0 : (((rd_T36 t203 0).f1) == x11_35) = true := beq_iff_eq.mpr c108
            have c108b1 : (((rd_T36 t203 0).f1) != x11_35) = false := bne_eq_false_iff_eq.mpr c108
            clear c108
            by_cases c109 : 1 < (t203.length : Int)
            ·
             rw [if_pos c109] at H
             have c109b0 : decide (1 < (t203.length : Int)) = true := decide_eq_true c109
             have c109b1 : decide (1 < t203.length) = true := decide_eq_true (by omega)
             clear c109
             obtain rfl := Option.some.inj H
             try go_wp2
             have n0_ := zqi (Kd.R_drew HO_8.out)
             have n1_ := zqi (zqb BK193.out)
             have n2_ := zqi (zqb BK197.out)
             have n3_ := zqi (zqb BK199.out)
             have n4_ := zqi (zqh HB.out)
             clear HO_8
             clear BK193
             clear BK197
             clear BK199
             clear HB
             have HO_8 := n0_
             have BK193 := n1_
             have BK197 := n2_
             have BK199 := n3_
             have HB := n4_
             clear n0_ n1_ n2_ n3_ n4_
             have p215 : 0 ≤ (0 : Int) := (by omega)
             have q215 : 0 < (l0_3.length : Int) := of_decide_eq_true (by first | (with_reducible assumption) | assumption)
             obtain ⟨ad215, e215, hx215_0, hx215_1, hx215_2, hx215_3, hx215_4, hx215_5⟩ := at_T28 HR0_3.out 0 p215 q215
             have hw215_5 := hx215_5
             (try rw [show ((0 : Int)).toNat = 0 from rfl] at hw215_5)
             (try rw [show 0 * 6 = 0 from rfl] at hw215_5)
             (try rw [Addr.add_zero'] at hw215_5)
             have hw215_4 := hx215_4
             (try rw [show ((0 : Int)).toNat = 0 from rfl] at hw215_4)
             (try rw [show 0 * 6 = 0 from rfl] at hw215_4)
             (try rw [Addr.add_zero'] at hw215_4)
             have hw215_3 := hx215_3
             (try rw [show ((0 : Int)).toNat = 0 from rfl] at hw215_3)
             (try rw [show 0 * 6 = 0 from rfl] at hw215_3)
             (try rw [Addr.add_zero'] at hw215_3)
             have hw215_2 := hx215_2
             (try rw [show ((0 : Int)).toNat = 0 from rfl] at hw215_2)
             (try rw [show 0 * 6 = 0 from rfl] at hw215_2)
             (try rw [Addr.add_zero'] at hw215_2)
             have hw215_1 := hx215_1
             (try rw [show ((0 : Int)).toNat = 0 from rfl] at hw215_1)
             (try rw [show 0 * 6 = 0 from rfl] at hw215_1)
             (try rw [Addr.add_zero'] at hw215_1)
             have hw215_0 := hx215_0
             (try rw [show ((0 : Int)).toNat = 0 from rfl] at hw215_0)
             (try rw [show 0 * 6 = 0 from rfl] at hw215_0)
             (try rw [Addr.add_zero'] at hw215_0)
             obtain rfl : ad196 = ad215 := (by injection e215)
             have qi215 : (0 < l0_3.length) = True := eq_true (by omega)
             (try rw [show ((0 : Int)).toNat = 0 from rfl] at hx215_0)
             (try rw [show 0 * 6 = 0 from rfl] at hx215_0)
             (try rw [Addr.add_zero'] at hx215_0)
             (try rw [show ((0 : Int)).toNat = 0 from rfl] at hx215_1)
             (try rw [show 0 * 6 = 0 from rfl] at hx215_1)
             (try rw [Addr.add_zero'] at hx215_1)
             (try rw [show ((0 : Int)).toNat = 0 from rfl] at hx215_2)
             (try rw [show 0 * 6 = 0 from rfl] at hx215_2)
             (try rw [Addr.add_zero'] at hx215_2)
             (try rw [show ((0 : Int)).toNat = 0 from rfl] at hx215_3)
             (try rw [show 0 * 6 = 0 from rfl] at hx215_3)
             (try rw [Addr.add_zero'] at hx215_3)
             (try rw [show ((0 : Int)).toNat = 0 from rfl] at hx215_4)
             (try rw [show 0 * 6 = 0 from rfl] at hx215_4)
             (try rw [Addr.add_zero'] at hx215_4)
             (try rw [show ((0 : Int)).toNat = 0 from rfl] at hx215_5)
             (try rw [show 0 * 6 = 0 from rfl] at hx215_5)
             (try rw [Addr.add_zero'] at hx215_5)
             replace hx215_0 := (HB.out.cell (World.block_lt_of_cell? w _ hx215_0)).trans hx215_0
             replace hx215_1 := (HB.out.cell (World.block_lt_of_cell? w _ hx215_1)).trans hx215_1
             replace hx215_2 := (HB.out.cell (World.block_lt_of_cell? w _ hx215_2)).trans hx215_2
             replace hx215_3 := (HB.out.cell (World.block_lt_of_cell? w _ hx215_3)).trans hx215_3
             replace hx215_4 := (HB.out.cell (World.block_lt_of_cell? w _ hx215_4)).trans hx215_4
             replace hx215_5 := (HB.out.cell (World.block_lt_of_cell? w _ hx215_5)).trans hx215_5
             replace p215 := eq_true p215
             replace q215 := eq_true q215
             have p218 : 0 ≤ (0 : Int) := (by omega)
             have q218 : 0 < (l0_3.length : Int) := of_decide_eq_true (by first | (with_reducible assumption) | assumption)
             obtain ⟨ad218, e218, hx218_0, hx218_1, hx218_2, hx218_3, hx218_4, hx218_5⟩ := at_T28 HR0_3.out 0 p218 q218
             have hw218_5 := hx218_5
             (try rw [show ((0 : Int)).toNat = 0 from rfl] at hw218_5)
             (try rw [show 0 * 6 = 0 from rfl] at hw218_5)
             (try rw [Addr.add_zero'] at hw218_5)
             have hw218_4 := hx218_4
             (try rw [show ((0 : Int)).toNat = 0 from rfl] at hw218_4)
             (try rw [show 0 * 6 = 0 from rfl] at hw218_4)
             (try rw [Addr.add_zero'] at hw218_4)
             have hw218_3 := hx218_3
             (try rw [show ((0 : Int)).toNat = 0 from rfl] at hw218_3)
             (try rw [show 0 * 6 = 0 from rfl] at hw218_3)
             (try rw [Addr.add_zero'] at hw218_3)
             have hw218_2 := hx218_2
             (try rw [show ((0 : Int)).toNat = 0 from rfl] at hw218_2)
             (try rw [show 0 * 6 = 0 from rfl] at hw218_2)
             (try rw [Addr.add_zero'] at hw218_2)
             have hw218_1 := hx218_1
             (try rw [show ((0 : Int)).toNat = 0 from rfl] at hw218_1)
             (try rw [show 0 * 6 = 0 from rfl] at hw218_1)
             (try rw [Addr.add_zero'] at hw218_1)
             have hw218_0 := hx218_0
             (try rw [show ((0 : Int)).toNat = 0 from rfl] at hw218_0)
             (try rw [show 0 * 6 = 0 from rfl] at hw218_0)
             (try rw [Addr.add_zero'] at hw218_0)
             obtain rfl : ad196 = ad218 := (by injection e218)
             have qi218 : (0 < l0_3.length) = True := eq_true (by omega)
             (try rw [show ((0 : Int)).toNat = 0 from rfl] at hx218_0)
             (try rw [show 0 * 6 = 0 from rfl] at hx218_0)
             (try rw [Addr.add_zero'] at hx218_0)
             (try rw [show ((0 : Int)).toNat = 0 from rfl] at hx218_1)
             (try rw [show 0 * 6 = 0 from rfl] at hx218_1)
             (try rw [Addr.add_zero'] at hx218_1)
             (try rw [show ((0 : Int)).toNat = 0 from rfl] at hx218_2)
             (try rw [show 0 * 6 = 0 from rfl] at hx218_2)
             (try rw [Addr.add_zero'] at hx218_2)
             (try rw [show ((0 : Int)).toNat = 0 from rfl] at hx218_3)
             (try rw [show 0 * 6 = 0 from rfl] at hx218_3)
             (try rw [Addr.add_zero'] at hx218_3)
             (try rw [show ((0 : Int)).toNat = 0 from rfl] at hx218_4)
             (try rw [show 0 * 6 = 0 from rfl] at hx218_4)
             (try rw [Addr.add_zero'] at hx218_4)
             (try rw [show ((0 : Int)).toNat = 0 from rfl] at hx218_5)
             (try rw [show 0 * 6 = 0 from rfl] at hx218_5)
             (try rw [Addr.add_zero'] at hx218_5)
             replace hx218_0 := (HB.out.cell (World.block_lt_of_cell? w _ hx218_0)).trans hx218_0
             replace hx218_1 := (HB.out.cell (World.block_lt_of_cell? w _ hx218_1)).trans hx218_1
             replace hx218_2 := (HB.out.cell (World.block_lt_of_cell? w _ hx218_2)).trans hx218_2
             replace hx218_3 := (HB.out.cell (World.block_lt_of_cell? w _ hx218_3)).trans hx218_3
             replace hx218_4 := (HB.out.cell (World.block_lt_of_cell? w _ hx218_4)).trans hx218_4
             replace hx218_5 := (HB.out.cell (World.block_lt_of_cell? w _ hx218_5)).trans hx218_5
             replace p218 := eq_true p218
             replace q218 := eq_true q218
             have p220 : 0 ≤ (0 : Int) := (by omega)
             have q220 : 0 < (t203.length : Int) := of_decide_eq_true (by first | (with_reducible assumption) | assumption)
             obtain ⟨Ao99, co99, eo99⟩ := Kd.R_slice HO_8.out
             subst eo99
             obtain ⟨ad220, e220, hx220_0, hx220_1, hx220_2⟩ := at_T36 (Kd.R_reads' HO_8.out).2.2 0 p220 q220
             cases e220
             have qi220 : (0 < t203.length) = True := eq_true (by omega)
             (try rw [show ((0 : Int)).toNat = 0 from rfl] at hx220_0)
             (try rw [show 0 * 3 = 0 from rfl] at hx220_0)
             (try rw [Addr.add_zero'] at hx220_0)
             (try rw [show ((0 : Int)).toNat = 0 from rfl] at hx220_1)
             (try rw [show 0 * 3 = 0 from rfl] at hx220_1)
             (try rw [Addr.add_zero'] at hx220_1)
             (try rw [show ((0 : Int)).toNat = 0 from rfl] at hx220_2)
             (try rw [show 0 * 3 = 0 from rfl] at hx220_2)
             (try rw [Addr.add_zero'] at hx220_2)
             replace p220 := eq_true p220
             replace q220 := eq_true q220
             have p221 : 0 ≤ (1 : Int) := (by omega)
             have q221 : 1 < (t203.length : Int) := of_decide_eq_true (by first | (with_reducible assumption) | assumption)
             obtain ⟨ad221, e221, hx221_0, hx221_1, hx221_2⟩ := at_T36 (Kd.R_reads' HO_8.out).2.2 1 p221 q221
             obtain rfl : ad220 = ad221 := (by injection e221)
             (try simp only [show (1 : Int).toNat = 1 from rfl, Nat.reduceMul, Nat.reduceEqDiff, Go.Addr.add, ↓reduceIte] at hx221_0)
             (try simp only [show (1 : Int).toNat = 1 from rfl, Nat.reduceMul, Nat.reduceEqDiff, Go.Addr.add, ↓reduceIte] at hx221_1)
             (try simp only [show (1 : Int).toNat = 1 from rfl, Nat.reduceMul, Nat.reduceEqDiff, Go.Addr.add, ↓reduceIte] at hx221_2)
             have qi221 : (1 < t203.length) = True := eq_true (by omega)
             (try rw [show ((1 : Int)).toNat = 1 from rfl] at hx221_0)
             (try rw [show 1 * 3 = 3 from rfl] at hx221_0)
             (try rw [show ((1 : Int)).toNat = 1 from rfl] at hx221_1)
             (try rw [show 1 * 3 = 3 from rfl] at hx221_1)
             (try rw [show ((1 : Int)).toNat = 1 from rfl] at hx221_2)
             (try rw [show 1 * 3 = 3 from rfl] at hx221_2)
             replace p221 := eq_true p221
             replace q221 := eq_true q221
             refine start_ (n := 45) (S := fun w' => w'.cell? ⟨gb193, 0, none⟩ = some (.int .i64 a0_0) ∧ w'.cell? ⟨gb193, 1, none⟩ = some (.int .i64 a0_1) ∧ w'.cell? ⟨gb193, 2, none⟩ = some (.int .i64 a0_2) ∧ w'.cell? ⟨gb193, 3, none⟩ = some (.slice (some ad196) l0_3.length c0_3) ∧ w'.cell? ⟨gb197, 0, none⟩ = some (.int .i64 ((rd_T28 l0_3 a1).f0)) ∧ w'.cell? ⟨gb197, 1, none⟩ = some (.int .i64 ((rd_T28 l0_3 a1).f1)) ∧ w'.cell? ⟨gb197, 2, none⟩ = some (.int .i64 ((rd_T28 l0_3 a1).f2)) ∧ w'.cell? ⟨gb197, 3, none⟩ = some (.int .i64 ((rd_T28 l0_3 a1).f3)) ∧ w'.cell? ⟨gb197, 4, none⟩ = some (.int .i64 ((rd_T28 l0_3 a1).f4)) ∧ w'.cell? ⟨gb197, 5, none⟩ = some (.int .i64 ((rd_T28 l0_3 a1).f5)) ∧ w'.cell? ⟨gb199, 0, none⟩ = some (.int .i64 ((rd_T28 l0_3 (ji30)).f0)) ∧ w'.cell? ⟨gb199, 1, none⟩ = some (.int .i64 ((rd_T28 l0_3 (ji30)).f1)) ∧ w'.cell? ⟨gb199, 2, none⟩ = some (.int .i64 ((rd_T28 l0_3 (ji30)).f2)) ∧ w'.cell? ⟨gb199, 3, none⟩ = some (.int .i64 ((rd_T28 l0_3 (ji30)).f3)) ∧ w'.cell? ⟨gb199, 4, none⟩ = some (.int .i64 ((rd_T28 l0_3 (ji30)).f4)) ∧ w'.cell? ⟨gb199, 5, none⟩ = some (.int .i64 ((rd_T28 l0_3 (ji30)).f5)) ∧ w'.cell? ad196 = some (.int .i64 ((rd_T28 l0_3 0).f0)) ∧ w'.cell? ⟨ad196.block, ad196.off + 1, none⟩ = some (.int .i64 ((rd_T28 l0_3 0).f1)) ∧ w'.cell? ⟨ad196.block, ad196.off + 2, none⟩ = some (.int .i64 ((rd_T28 l0_3 0).f2)) ∧ w'.cell? ⟨ad196.block, ad196.off + 3, none⟩ = some (.int .i64 ((rd_T28 l0_3 0).f3)) ∧ w'.cell? ⟨ad196.block, ad196.off + 4, none⟩ = some (.int .i64 ((rd_T28 l0_3 0).f4)) ∧ w'.cell? ⟨ad196.block, ad196.off + 5, none⟩ = some (.int .i64 ((rd_T28 l0_3 0).f5)) ∧ w'.cell? ad196 = some (.int .i64 ((rd_T28 l0_3 0).f0)) ∧ w'.cell? ⟨ad196.block, ad196.off + 1, none⟩ = some (.int .i64 ((rd_T28 l0_3 0).f1)) ∧ w'.cell? ⟨ad196.block, ad196.off + 2, none⟩ = some (.int .i64 ((rd_T28 l0_3 0).f2)) ∧ w'.cell? ⟨ad196.block, ad196.off + 3, none⟩ = some (.int .i64 ((rd_T28 l0_3 0).f3)) ∧ w'.cell? ⟨ad196.block, ad196.off + 4, none⟩ = some (.int .i64 ((rd_T28 l0_3 0).f4)) ∧ w'.cell? ⟨ad196.block, ad196.off + 5, none⟩ = some (.int .i64 ((rd_T28 l0_3 0).f5)) ∧ w'.cell? ad220 = some (.int .i64 ((rd_T36 t203 0).f0)) ∧ w'.cell? ⟨ad220.block, ad220.off + 1, none⟩ = some (.int .i64 ((rd_T36 t203 0).f1)) ∧ w'.cell? ⟨ad220.block, ad220.off + 2, none⟩ = some (.int .i64 ((rd_T36 t203 0).f2)) ∧ w'.cell? ⟨ad220.block, ad220.off + 3, none⟩ = some (.int .i64 ((rd_T36 t203 1).f0)) ∧ w'.cell? ⟨ad220.block, ad220.off + 3 + 1, none⟩ = some (.int .i64 ((rd_T36 t203 1).f1)) ∧ w'.cell? ⟨ad220.block, ad220.off + 3 + 2, none⟩ = some (.int .i64 ((rd_T36 t203 1).f2))) (ds := []) (zqB 45 0) (by kernel_rfl) rfl rfl ⟨(zqe BK193.out 0).trans rfl, (zqe BK193.out 1).trans rfl, (zqe BK193.out 2).trans rfl, (zqe BK193.out 3).trans rfl, (zqe BK197.out 0).trans rfl, (zqe BK197.out 1).trans rfl, (zqe BK197.out 2).trans rfl, (zqe BK197.out 3).trans rfl, (zqe BK197.out 4).trans rfl, (zqe BK197.out 5).trans rfl, (zqe BK199.out 0).trans rfl, (zqe BK199.out 1).trans rfl, (zqe BK199.out 2).trans rfl, (zqe BK199.out 3).trans rfl, (zqe BK199.out 4).trans rfl, (zqe BK199.out 5).trans rfl, ((HB.out.cell (World.block_lt_of_cell? w _ hw215_0)).trans hw215_0), ((HB.out.cell (World.block_lt_of_cell? w _ hw215_1)).trans hw215_1), ((HB.out.cell (World.block_lt_of_cell? w _ hw215_2)).trans hw215_2), ((HB.out.cell (World.block_lt_of_cell? w _ hw215_3)).trans hw215_3), ((HB.out.cell (World.block_lt_of_cell? w _ hw215_4)).trans hw215_4), ((HB.out.cell (World.block_lt_of_cell? w _ hw215_5)).trans hw215_5), ((HB.out.cell (World.block_lt_of_cell? w _ hw218_0)).trans hw218_0), ((HB.out.cell (World.block_lt_of_cell? w _ hw218_1)).trans hw218_1), ((HB.out.cell (World.block_lt_of_cell? w _ hw218_2)).trans hw218_2), ((HB.out.cell (World.block_lt_of_cell? w _ hw218_3)).trans hw218_3), ((HB.out.cell (World.block_lt_of_cell? w _ hw218_4)).trans hw218_4), ((HB.out.cell (World.block_lt_of_cell? w _ hw218_5)).trans hw218_5), hx220_0, hx220_1, hx220_2, hx221_0, hx221_1, hx221_2⟩ (fun hHeld => ?_); refine with_tabW haulierlaw07_SchedOne.tab17 haulierlaw07_SchedOne.bits17 (fun HT_ HW_ => ?_)
             generalize wc.drew = w110 at HO_8 BK193 BK197 BK199 HB hx215_0 hx215_1 hx215_2 hx215_3 hx215_4 hx215_5 hx218_0 hx218_1 hx218_2 hx218_3 hx218_4 hx218_5 hx220_0 hx220_1 hx220_2 hx221_0 hx221_1 hx221_2 hHeld ⊢
             refine zqp 0 (some 152) (zqB 45 1) (any_of HT_.out (by kernel_rfl)) (h := ?_)
             refine zqp 1 (some 153) (zqB 45 3) (any_of HT_.out (by kernel_rfl)) (h := ?_)
             refine zqp 2 (some 154) (zqB 45 7) (any_of HT_.out (by kernel_rfl)) (h := ?_)
             refine zqp 3 (some 155) (zqB 45 15) (any_of HT_.out (by kernel_rfl)) (h := ?_)
             refine zqp 4 (some 156) (zqB 45 31) (any_of HT_.out (by kernel_rfl)) (h := ?_)
             refine zqp 15 (some 167) (zqB 45 32799) (any_of HT_.out (by kernel_rfl)) (h := ?_)
             refine zqt 5 (some 157) (zqB 45 32831) (take_ofW HT_.out HW_.out (by kernel_rfl)) hHeld (h := ?_)
             refine zqp 6 (some 158) (zqB 45 32895) (any_of HT_.out (by kernel_rfl)) (h := ?_)
             refine zqt 7 (some 159) (zqB 45 33023) (take_ofW HT_.out HW_.out (by kernel_rfl)) hHeld (h := ?_)
             refine zqt 8 (some 160) (zqB 45 33279) (take_ofW HT_.out HW_.out (by kernel_rfl)) hHeld (h := ?_)
             refine zqt 10 (some 162) (zqB 45 34303) (take_ofW HT_.out HW_.out (by kernel_rfl)) hHeld (h := ?_)
             refine zqt 11 (some 163) (zqB 45 36351) (take_ofW HT_.out HW_.out (by kernel_rfl)) hHeld (h := ?_)
             refine zqt 14 (some 166) (zqB 45 52735) (take_ofW HT_.out HW_.out (by kernel_rfl)) hHeld (h := ?_)
             refine zqt 16 (some 168) (zqB 45 118271) (take_ofW HT_.out HW_.out (by kernel_rfl)) hHeld (h := ?_)
             refine zqp 17 (some 169) (zqB 45 249343) (any_of HT_.out (by kernel_rfl)) (h := ?_)
             refine zqt 18 (some 170) (zqB 45 511487) (take_ofW HT_.out HW_.out (by kernel_rfl)) hHeld (h := ?_)
             refine one_ (i := 9) (N := some 161) (zqB 45 511999) rfl rfl (one_of HT_.out (by kernel_rfl)) (by decide) (fun K hK => ?_)
             refine goes_ Try.func7 (by kernel_rfl) rfl #[.agg #[.int .i64 ((rd_T28 l0_3 0).f0), .int .i64 ((rd_T28 l0_3 0).f1), .int .i64 ((rd_T28 l0_3 0).f2), .int .i64 ((rd_T28 l0_3 0).f3), .int .i64 ((rd_T28 l0_3 0).f4), .int .i64 ((rd_T28 l0_3 0).f5)], .agg #[.int .i64 ((rd_T28 l0_3 a1).f0), .int .i64 ((rd_T28 l0_3 a1).f1), .int .i64 ((rd_T28 l0_3 a1).f2), .int .i64 ((rd_T28 l0_3 a1).f3), .int .i64 ((rd_T28 l0_3 a1).f4), .int .i64 ((rd_T28 l0_3 a1).f5)]] (by rfl) rfl rfl (by (try simp only [List.map_toArray, List.map_cons, List.map_nil]); first | done | rfl | (simp only [List.length_drop, List.length_take]; rfl)) ?_
             with_reducible refine (plane_Far.calls ((rd_T28 l0_3 0).f0) ((rd_T28 l0_3 0).f1) ((rd_T28 l0_3 0).f2) ((rd_T28 l0_3 0).f3) ((rd_T28 l0_3 0).f4) ((rd_T28 l0_3 0).f5) ((rd_T28 l0_3 a1).f0) ((rd_T28 l0_3 a1).f1) ((rd_T28 l0_3 a1).f2) ((rd_T28 l0_3 a1).f3) ((rd_T28 l0_3 a1).f4) ((rd_T28 l0_3 a1).f5) t216 _ A102.out).mono ?_
             rintro e w111 ⟨rfl, hb⟩
             have HS28_ := (hb.cell (World.block_lt_of_cell? _ _ (hHeld.2.2.2.2.2.2.2.2.2.2.2.2.2.2.2.2.2.2.2.2.2.2.2.2.2.2.2.2.1))).trans (hHeld.2.2.2.2.2.2.2.2.2.2.2.2.2.2.2.2.2.2.2.2.2.2.2.2.2.2.2.2.1)
             have HS29_ := (hb.cell (World.block_lt_of_cell? _ _ (hHeld.2.2.2.2.2.2.2.2.2.2.2.2.2.2.2.2.2.2.2.2.2.2.2.2.2.2.2.2.2.1))).trans (hHeld.2.2.2.2.2.2.2.2.2.2.2.2.2.2.2.2.2.2.2.2.2.2.2.2.2.2.2.2.2.1)
             have HS30_ := (hb.cell (World.block_lt_of_cell? _ _ (hHeld.2.2.2.2.2.2.2.2.2.2.2.2.2.2.2.2.2.2.2.2.2.2.2.2.2.2.2.2.2.2.1))).trans (hHeld.2.2.2.2.2.2.2.2.2.2.2.2.2.2.2.2.2.2.2.2.2.2.2.2.2.2.2.2.2.2.1)
             have HS31_ := (hb.cell (World.block_lt_of_cell? _ _ (hHeld.2.2.2.2.2.2.2.2.2.2.2.2.2.2.2.2.2.2.2.2.2.2.2.2.2.2.2.2.2.2.2.1))).trans (hHeld.2.2.2.2.2.2.2.2.2.2.2.2.2.2.2.2.2.2.2.2.2.2.2.2.2.2.2.2.2.2.2.1)
             have HS32_ := (hb.cell (World.block_lt_of_cell? _ _ (hHeld.2.2.2.2.2.2.2.2.2.2.2.2.2.2.2.2.2.2.2.2.2.2.2.2.2.2.2.2.2.2.2.2.1))).trans (hHeld.2.2.2.2.2.2.2.2.2.2.2.2.2.2.2.2.2.2.2.2.2.2.2.2.2.2.2.2.2.2.2.2.1)
             have HS33_ := (hb.cell (World.block_lt_of_cell? _ _ (hHeld.2.2.2.2.2.2.2.2.2.2.2.2.2.2.2.2.2.2.2.2.2.2.2.2.2.2.2.2.2.2.2.2.2))).trans (hHeld.2.2.2.2.2.2.2.2.2.2.2.2.2.2.2.2.2.2.2.2.2.2.2.2.2.2.2.2.2.2.2.2.2)
             refine ⟨_, rfl, ?_⟩
             have n0_ := zqi (Kd.R_below (by (with_reducible repeat (first | apply Kd.R_alloc | apply Kd.R_drewN | apply Kd.R_drew)); exact HO_8.out) hb)
             have n1_ := zqi (zqy BK193.out hb)
             have n2_ := zqi (zqy BK197.out hb)
             have n3_ := zqi (zqy BK199.out hb)
             have n4_ := zqi (below_step (zqn HB.out) hb)
             clear HO_8
             clear BK193
             clear BK197
             clear BK199
             clear HB
             have HO_8 := n0_
             have BK193 := n1_
             have BK197 := n2_
             have BK199 := n3_
             have HB := n4_
             clear n0_ n1_ n2_ n3_ n4_
             (try clear hb)
             (try clear hb2)
             (try clear hk)
             (try clear hi)
             refine hK.out _ _ ⟨(zqe BK193.out 0).trans rfl, (zqe BK193.out 1).trans rfl, (zqe BK193.out 2).trans rfl, (zqe BK193.out 3).trans rfl, (zqe BK197.out 0).trans rfl, (zqe BK197.out 1).trans rfl, (zqe BK197.out 2).trans rfl, (zqe BK197.out 3).trans rfl, (zqe BK197.out 4).trans rfl, (zqe BK197.out 5).trans rfl, (zqe BK199.out 0).trans rfl, (zqe BK199.out 1).trans rfl, (zqe BK199.out 2).trans rfl, (zqe BK199.out 3).trans rfl, (zqe BK199.out 4).trans rfl, (zqe BK199.out 5).trans rfl, ((HB.out.cell (World.block_lt_of_cell? w _ hw215_0)).trans hw215_0), ((HB.out.cell (World.block_lt_of_cell? w _ hw215_1)).trans hw215_1), ((HB.out.cell (World.block_lt_of_cell? w _ hw215_2)).trans hw215_2), ((HB.out.cell (World.block_lt_of_cell? w _ hw215_3)).trans hw215_3), ((HB.out.cell (World.block_lt_of_cell? w _ hw215_4)).trans hw215_4), ((HB.out.cell (World.block_lt_of_cell? w _ hw215_5)).trans hw215_5), ((HB.out.cell (World.block_lt_of_cell? w _ hw218_0)).trans hw218_0), ((HB.out.cell (World.block_lt_of_cell? w _ hw218_1)).trans hw218_1), ((HB.out.cell (World.block_lt_of_cell? w _ hw218_2)).trans hw218_2), ((HB.out.cell (World.block_lt_of_cell? w _ hw218_3)).trans hw218_3), ((HB.out.cell (World.block_lt_of_cell? w _ hw218_4)).trans hw218_4), ((HB.out.cell (World.block_lt_of_cell? w _ hw218_5)).trans hw218_5), HS28_, HS29_, HS30_, HS31_, HS32_, HS33_⟩ (fun hHeld => ?_)
             clear hK K
             refine norm_ (a' := ?_) ?_ ?_
             rotate_left
             ·
              show Act.put _ (some 161) _ = _
              simp only [Act.put, List.setIfInBounds_toArray, List.set_cons_zero, List.set_cons_succ, i64_w, i32_w]
              rfl
             refine one_ (i := 12) (N := some 164) (zqB 45 516095) rfl rfl (one_of HT_.out (by kernel_rfl)) (by decide) (fun K hK => ?_)
             refine goes_ Try.func7 (by kernel_rfl) rfl #[.agg #[.int .i64 ((rd_T28 l0_3 a1).f0), .int .i64 ((rd_T28 l0_3 a1).f1), .int .i64 ((rd_T28 l0_3 a1).f2), .int .i64 ((rd_T28 l0_3 a1).f3), .int .i64 ((rd_T28 l0_3 a1).f4), .int .i64 ((rd_T28 l0_3 a1).f5)], .agg #[.int .i64 ((rd_T28 l0_3 (ji30)).f0), .int .i64 ((rd_T28 l0_3 (ji30)).f1), .int .i64 ((rd_T28 l0_3 (ji30)).f2), .int .i64 ((rd_T28 l0_3 (ji30)).f3), .int .i64 ((rd_T28 l0_3 (ji30)).f4), .int .i64 ((rd_T28 l0_3 (ji30)).f5)]] (by rfl) rfl rfl (by (try simp only [List.map_toArray, List.map_cons, List.map_nil]); first | done | (simp only [hji30]; rfl) | rfl | (simp only [List.length_drop, List.length_take]; rfl)) ?_
             with_reducible refine (plane_Far.calls ((rd_T28 l0_3 a1).f0) ((rd_T28 l0_3 a1).f1) ((rd_T28 l0_3 a1).f2) ((rd_T28 l0_3 a1).f3) ((rd_T28 l0_3 a1).f4) ((rd_T28 l0_3 a1).f5) ((rd_T28 l0_3 (ji30)).f0) ((rd_T28 l0_3 (ji30)).f1) ((rd_T28 l0_3 (ji30)).f2) ((rd_T28 l0_3 (ji30)).f3) ((rd_T28 l0_3 (ji30)).f4) ((rd_T28 l0_3 (ji30)).f5) t217 _ A103.out).mono ?_
             rintro e w112 ⟨rfl, hb⟩
             have HS28_ := (hb.cell (World.block_lt_of_cell? _ _ (hHeld.2.2.2.2.2.2.2.2.2.2.2.2.2.2.2.2.2.2.2.2.2.2.2.2.2.2.2.2.1))).trans (hHeld.2.2.2.2.2.2.2.2.2.2.2.2.2.2.2.2.2.2.2.2.2.2.2.2.2.2.2.2.1)
             have HS29_ := (hb.cell (World.block_lt_of_cell? _ _ (hHeld.2.2.2.2.2.2.2.2.2.2.2.2.2.2.2.2.2.2.2.2.2.2.2.2.2.2.2.2.2.1))).trans (hHeld.2.2.2.2.2.2.2.2.2.2.2.2.2.2.2.2.2.2.2.2.2.2.2.2.2.2.2.2.2.1)
             have HS30_ := (hb.cell (World.block_lt_of_cell? _ _ (hHeld.2.2.2.2.2.2.2.2.2.2.2.2.2.2.2.2.2.2.2.2.2.2.2.2.2.2.2.2.2.2.1))).trans (hHeld.2.2.2.2.2.2.2.2.2.2.2.2.2.2.2.2.2.2.2.2.2.2.2.2.2.2.2.2.2.2.1)
             have HS31_ := (hb.cell (World.block_lt_of_cell? _ _ (hHeld.2.2.2.2.2.2.2.2.2.2.2.2.2.2.2.2.2.2.2.2.2.2.2.2.2.2.2.2.2.2.2.1))).trans (hHeld.2.2.2.2.2.2.2.2.2.2.2.2.2.2.2.2.2.2.2.2.2.2.2.2.2.2.2.2.2.2.2.1)
             have HS32_ := (hb.cell (World.block_lt_of_cell? _ _ (hHeld.2.2.2.2.2.2.2.2.2.2.2.2.2.2.2.2.2.2.2.2.2.2.2.2.2.2.2.2.2.2.2.2.1))).trans (hHeld.2.2.2.2.2.2.2.2.2.2.2.2.2.2.2.2.2.2.2.2.2.2.2.2.2.2.2.2.2.2.2.2.1)
             have HS33_ := (hb.cell (World.block_lt_of_cell? _ _ (hHeld.2.2.2.2.2.2.2.2.2.2.2.2.2.2.2.2.2.2.2.2.2.2.2.2.2.2.2.2.2.2.2.2.2))).trans (hHeld.2.2.2.2.2.2.2.2.2.2.2.2.2.2.2.2.2.2.2.2.2.2.2.2.2.2.2.2.2.2.2.2.2)
             refine ⟨_, rfl, ?_⟩
             have n0_ := zqi (Kd.R_below (by (with_reducible repeat (first | apply Kd.R_alloc | apply Kd.R_drewN | apply Kd.R_drew)); exact HO_8.out) hb)
             have n1_ := zqi (zqy BK193.out hb)
             have n2_ := zqi (zqy BK197.out hb)
             have n3_ := zqi (zqy BK199.out hb)
             have n4_ := zqi (below_step (zqn HB.out) hb)
             clear HO_8
             clear BK193
             clear BK197
             clear BK199
             clear HB
             have HO_8 := n0_
             have BK193 := n1_
             have BK197 := n2_
             have BK199 := n3_
             have HB := n4_
             clear n0_ n1_ n2_ n3_ n4_
             (try clear hb)
             (try clear hb2)
             (try clear hk)
             (try clear hi)
             refine hK.out _ _ ⟨(zqe BK193.out 0).trans rfl, (zqe BK193.out 1).trans rfl, (zqe BK193.out 2).trans rfl, (zqe BK193.out 3).trans rfl, (zqe BK197.out 0).trans rfl, (zqe BK197.out 1).trans rfl, (zqe BK197.out 2).trans rfl, (zqe BK197.out 3).trans rfl, (zqe BK197.out 4).trans rfl, (zqe BK197.out 5).trans rfl, (zqe BK199.out 0).trans rfl, (zqe BK199.out 1).trans rfl, (zqe BK199.out 2).trans rfl, (zqe BK199.out 3).trans rfl, (zqe BK199.out 4).trans rfl, (zqe BK199.out 5).trans rfl, ((HB.out.cell (World.block_lt_of_cell? w _ hw215_0)).trans hw215_0), ((HB.out.cell (World.block_lt_of_cell? w _ hw215_1)).trans hw215_1), ((HB.out.cell (World.block_lt_of_cell? w _ hw215_2)).trans hw215_2), ((HB.out.cell (World.block_lt_of_cell? w _ hw215_3)).trans hw215_3), ((HB.out.cell (World.block_lt_of_cell? w _ hw215_4)).trans hw215_4), ((HB.out.cell (World.block_lt_of_cell? w _ hw215_5)).trans hw215_5), ((HB.out.cell (World.block_lt_of_cell? w _ hw218_0)).trans hw218_0), ((HB.out.cell (World.block_lt_of_cell? w _ hw218_1)).trans hw218_1), ((HB.out.cell (World.block_lt_of_cell? w _ hw218_2)).trans hw218_2), ((HB.out.cell (World.block_lt_of_cell? w _ hw218_3)).trans hw218_3), ((HB.out.cell (World.block_lt_of_cell? w _ hw218_4)).trans hw218_4), ((HB.out.cell (World.block_lt_of_cell? w _ hw218_5)).trans hw218_5), HS28_, HS29_, HS30_, HS31_, HS32_, HS33_⟩ (fun hHeld => ?_)
             clear hK K
             refine norm_ (a' := ?_) ?_ ?_
             rotate_left
             ·
              show Act.put _ (some 164) _ = _
              simp only [Act.put, List.setIfInBounds_toArray, List.set_cons_zero, List.set_cons_succ, i64_w, i32_w]
              rfl
             refine zqp 13 (some 165) (zqB 45 524287) (any_of HT_.out (by kernel_rfl)) (h := ?_)
             refine one_ (i := 19) (N := some 171) (zqB 45 1048575) rfl rfl (one_of HT_.out (by kernel_rfl)) (by decide) (fun K hK => ?_)
             refine goes_ Try.func7 (by kernel_rfl) rfl #[.agg #[.int .i64 ((rd_T28 l0_3 (ji30)).f0), .int .i64 ((rd_T28 l0_3 (ji30)).f1), .int .i64 ((rd_T28 l0_3 (ji30)).f2), .int .i64 ((rd_T28 l0_3 (ji30)).f3), .int .i64 ((rd_T28 l0_3 (ji30)).f4), .int .i64 ((rd_T28 l0_3 (ji30)).f5)], .agg #[.int .i64 ((rd_T28 l0_3 0).f0), .int .i64 ((rd_T28 l0_3 0).f1), .int .i64 ((rd_T28 l0_3 0).f2), .int .i64 ((rd_T28 l0_3 0).f3), .int .i64 ((rd_T28 l0_3 0).f4), .int .i64 ((rd_T28 l0_3 0).f5)]] (by rfl) rfl rfl (by (try simp only [List.map_toArray, List.map_cons, List.map_nil]); first | done | (simp only [hji30]; rfl) | rfl | (simp only [List.length_drop, List.length_take]; rfl)) ?_
             with_reducible refine (plane_Far.calls ((rd_T28 l0_3 (ji30)).f0) ((rd_T28 l0_3 (ji30)).f1) ((rd_T28 l0_3 (ji30)).f2) ((rd_T28 l0_3 (ji30)).f3) ((rd_T28 l0_3 (ji30)).f4) ((rd_T28 l0_3 (ji30)).f5) ((rd_T28 l0_3 0).f0) ((rd_T28 l0_3 0).f1) ((rd_T28 l0_3 0).f2) ((rd_T28 l0_3 0).f3) ((rd_T28 l0_3 0).f4) ((rd_T28 l0_3 0).f5) t219 _ A104.out).mono ?_
             rintro e w113 ⟨rfl, hb⟩
             have HS28_ := (hb.cell (World.block_lt_of_cell? _ _ (hHeld.2.2.2.2.2.2.2.2.2.2.2.2.2.2.2.2.2.2.2.2.2.2.2.2.2.2.2.2.1))).trans (hHeld.2.2.2.2.2.2.2.2.2.2.2.2.2.2.2.2.2.2.2.2.2.2.2.2.2.2.2.2.1)
             have HS29_ := (hb.cell (World.block_lt_of_cell? _ _ (hHeld.2.2.2.2.2.2.2.2.2.2.2.2.2.2.2.2.2.2.2.2.2.2.2.2.2.2.2.2.2.1))).trans (hHeld.2.2.2.2.2.2.2.2.2.2.2.2.2.2.2.2.2.2.2.2.2.2.2.2.2.2.2.2.2.1)
             have HS30_ := (hb.cell (World.block_lt_of_cell? _ _ (hHeld.2.2.2.2.2.2.2.2.2.2.2.2.2.2.2.2.2.2.2.2.2.2.2.2.2.2.2.2.2.2.1))).trans (hHeld.2.2.2.2.2.2.2.2.2.2.2.2.2.2.2.2.2.2.2.2.2.2.2.2.2.2.2.2.2.2.1)
             have HS31_ := (hb.cell (World.block_lt_of_cell? _ _ (hHeld.2.2.2.2.2.2.2.2.2.2.2.2.2.2.2.2.2.2.2.2.2.2.2.2.2.2.2.2.2.2.2.1))).trans (hHeld.2.2.2.2.2.2.2.2.2.2.2.2.2.2.2.2.2.2.2.2.2.2.2.2.2.2.2.2.2.2.2.1)
             have HS32_ := (hb.cell (World.block_lt_of_cell? _ _ (hHeld.2.2.2.2.2.2.2.2.2.2.2.2.2.2.2.2.2.2.2.2.2.2.2.2.2.2.2.2.2.2.2.2.1))).trans (hHeld.2.2.2.2.2.2.2.2.2.2.2.2.2.2.2.2.2.2.2.2.2.2.2.2.2.2.2.2.2.2.2.2.1)
             have HS33_ := (hb.cell (World.block_lt_of_cell? _ _ (hHeld.2.2.2.2.2.2.2.2.2.2.2.2.2.2.2.2.2.2.2.2.2.2.2.2.2.2.2.2.2.2.2.2.2))).trans (hHeld.2.2.2.2.2.2.2.2.2.2.2.2.2.2.2.2.2.2.2.2.2.2.2.2.2.2.2.2.2.2.2.2.2)
             refine ⟨_, rfl, ?_⟩
             have n0_ := zqi (Kd.R_below (by (with_reducible repeat (first | apply Kd.R_alloc | apply Kd.R_drewN | apply Kd.R_drew)); exact HO_8.out) hb)
             have n1_ := zqi (zqy BK193.out hb)
             have n2_ := zqi (zqy BK197.out hb)
             have n3_ := zqi (zqy BK199.out hb)
             have n4_ := zqi (below_step (zqn HB.out) hb)
             clear HO_8
             clear BK193
             clear BK197
             clear BK199
             clear HB
             have HO_8 := n0_
             have BK193 := n1_
             have BK197 := n2_
             have BK199 := n3_
             have HB := n4_
             clear n0_ n1_ n2_ n3_ n4_
             (try clear hb)
             (try clear hb2)
             (try clear hk)
             (try clear hi)
             obtain ⟨Ao114, co114, eo114⟩ := Kd.R_slice HO_8.out
             (first | subst eo114 | (injection eo114 with f1_ f2_ f3_; have f4_ := f1_.symm; have f5_ := f3_.symm; clear f1_ f2_ f3_; subst f4_; subst f5_))
             refine hK.out _ _ ⟨(zqe BK193.out 0).trans rfl, (zqe BK193.out 1).trans rfl, (zqe BK193.out 2).trans rfl, (zqe BK193.out 3).trans rfl, (zqe BK197.out 0).trans rfl, (zqe BK197.out 1).trans rfl, (zqe BK197.out 2).trans rfl, (zqe BK197.out 3).trans rfl, (zqe BK197.out 4).trans rfl, (zqe BK197.out 5).trans rfl, (zqe BK199.out 0).trans rfl, (zqe BK199.out 1).trans rfl, (zqe BK199.out 2).trans rfl, (zqe BK199.out 3).trans rfl, (zqe BK199.out 4).trans rfl, (zqe BK199.out 5).trans rfl, ((HB.out.cell (World.block_lt_of_cell? w _ hw215_0)).trans hw215_0), ((HB.out.cell (World.block_lt_of_cell? w _ hw215_1)).trans hw215_1), ((HB.out.cell (World.block_lt_of_cell? w _ hw215_2)).trans hw215_2), ((HB.out.cell (World.block_lt_of_cell? w _ hw215_3)).trans hw215_3), ((HB.out.cell (World.block_lt_of_cell? w _ hw215_4)).trans hw215_4), ((HB.out.cell (World.block_lt_of_cell? w _ hw215_5)).trans hw215_5), ((HB.out.cell (World.block_lt_of_cell? w _ hw218_0)).trans hw218_0), ((HB.out.cell (World.block_lt_of_cell? w _ hw218_1)).trans hw218_1), ((HB.out.cell (World.block_lt_of_cell? w _ hw218_2)).trans hw218_2), ((HB.out.cell (World.block_lt_of_cell? w _ hw218_3)).trans hw218_3), ((HB.out.cell (World.block_lt_of_cell? w _ hw218_4)).trans hw218_4), ((HB.out.cell (World.block_lt_of_cell? w _ hw218_5)).trans hw218_5), HS28_, HS29_, HS30_, HS31_, HS32_, HS33_⟩ (fun hHeld => ?_)
             clear hK K
             refine norm_ (a' := ?_) ?_ ?_
             rotate_left
             ·
              show Act.put _ (some 171) _ = _
              simp only [Act.put, List.setIfInBounds_toArray, List.set_cons_zero, List.set_cons_succ, i64_w, i32_w]
              rfl
             refine zqp 20 (some 172) (zqB 45 2097151) (any_of HT_.out (by kernel_rfl)) (h := ?_)
             refine zqp 21 (some 173) (zqB 45 4194303) (any_of HT_.out (by kernel_rfl)) (h := ?_)
             refine zqp 22 (some 174) (zqB 45 8388607) (any_of HT_.out (by kernel_rfl)) (h := ?_)
             refine zqp 23 (some 175) (zqB 45 16777215) (any_of HT_.out (by kernel_rfl)) (h := ?_)
             refine zqp 24 (some 176) (zqB 45 33554431) (any_of HT_.out (by kernel_rfl)) (h := ?_)
             refine zqp 25 (some 177) (zqB 45 67108863) (any_of HT_.out (by kernel_rfl)) (h := ?_)
             refine zqp 26 (some 178) (zqB 45 134217727) (any_of HT_.out (by kernel_rfl)) (h := ?_)
             refine zqp 27 (some 179) (zqB 45 268435455) (any_of HT_.out (by kernel_rfl)) (h := ?_)
             refine zqp 28 (some 180) (zqB 45 536870911) (any_of HT_.out (by kernel_rfl)) (h := ?_)
             refine zqp 29 (some 181) (zqB 45 1073741823) (any_of HT_.out (by kernel_rfl)) (h := ?_)
             refine zqp 30 (some 182) (zqB 45 2147483647) (any_of HT_.out (by kernel_rfl)) (h := ?_)
             refine zqp 31 (some 183) (zqB 45 4294967295) (any_of HT_.out (by kernel_rfl)) (h := ?_)
             refine zqp 33 (some 185) (zqB 45 12884901887) (any_of HT_.out (by kernel_rfl)) (h := ?_)
             refine zqt 32 (some 184) (zqB 45 17179869183) (take_ofW HT_.out HW_.out (by kernel_rfl)) hHeld (h := ?_)
             refine zqp 34 (some 186) (zqB 45 34359738367) (any_of HT_.out (by kernel_rfl)) (h := ?_)
             refine zqp 35 (some 187) (zqB 45 68719476735) (any_of HT_.out (by kernel_rfl)) (h := ?_)
             refine zqp 36 (some 188) (zqB 45 137438953471) (any_of HT_.out (by kernel_rfl)) (h := ?_)
             refine zqp 37 (some 189) (zqB 45 274877906943) (any_of HT_.out (by kernel_rfl)) (h := ?_)
             refine zqp 38 (some 190) (zqB 45 549755813887) (any_of HT_.out (by kernel_rfl)) (h := ?_)
             refine zqp 39 (some 191) (zqB 45 1099511627775) (any_of HT_.out (by kernel_rfl)) (h := ?_)
             refine zqp 41 (some 193) (zqB 45 3298534883327) (any_of HT_.out (by kernel_rfl)) (h := ?_)
             refine zqt 40 (some 192) (zqB 45 4398046511103) (take_ofW HT_.out HW_.out (by kernel_rfl)) hHeld (h := ?_)
             refine zqp 42 (some 194) (zqB 45 8796093022207) (any_of HT_.out (by kernel_rfl)) (h := ?_)
             refine zqp 43 (some 195) (zqB 45 17592186044415) (any_of HT_.out (by kernel_rfl)) (h := ?_)
             refine zqp 44 (some 4) (zqB 45 35184372088831) (any_of HT_.out (by kernel_rfl)) (h := ?_)
             refine done_ (done_of HT_.out (by kernel_rfl)) ?_
             try go_wp2
             go_ret
             exact ⟨by first | rfl | (simp [errW_none, errW_some] <;> rfl) | (simp only [← hji30]; first | rfl | (simp [errW_none, errW_some] <;> rfl)) | (simp [*, errW_none, errW_some] <;> rfl), by repeat (first | (with_reducible first | exact HB.out | apply zqg | apply zqf | apply zqh | refine below_set ?_ GE193.out | refine below_set ?_ GE197.out | refine below_set ?_ GE199.out) | exact HB.out)⟩
            ·
             rw [if_neg c109] at H
             exact absurd H (by simp)
           ·
            rw [if_neg c108] at H
            have c108b0 : (((rd_T36 t203 0).f1) == x11_35) = false := beq_eq_false_iff_ne.mpr c108
            have c108b1 : (((rd_T36 t203 0).f1) != x11_35) = true := bne_iff_ne.mpr c108
            exact absurd H (by simp)
          ·
           rw [if_neg c107] at H
           exact absurd H (by simp)
         ·
          rw [if_neg c106] at H
          have c106b0 : ((t203.length : Int) == 2) = false := beq_eq_false_iff_ne.mpr c106
          have c106b1 : ((t203.length : Int) != 2) = true := bne_iff_ne.mpr c106
          exact absurd H (by simp)
        ·
         rw [if_neg c105] at H
         have c105b0 : (t206 == (wrap64 ((wrap64 (t216 + t217)) + t219))) = false := beq_eq_false_iff_ne.mpr c105
         have c105b1 : (t206 != (wrap64 ((wrap64 (t216 + t217)) + t219))) = true := bne_iff_ne.mpr c105
         exact absurd H (by simp)
       ·
        rw [if_neg c101] at H
        exact absurd H (by simp)
      ·
       rw [if_neg c100] at H
       have c100b0 : (t207 == 0) = false := beq_eq_false_iff_ne.mpr c100
       have c100b1 : (t207 != 0) = true := bne_iff_ne.mpr c100
       exact absurd H (by simp)
     ·
      replace c99 := Bool.eq_false_iff.mpr c99
      subst c99
      have H1 : (if t207 = 6 then (some true) else (some (t207 == 7))) = some r := by rw [if_neg (show ¬ (false = true) by decide)] at H; exact H
      clear H
      have H := H1
      clear H1
      by_cases c115 : t207 = 6
      ·
       rw [if_pos c115] at H
       have c115b0 : (t207 == 6) = true := beq_iff_eq.mpr c115
       have c115b1 : (t207 != 6) = false := bne_eq_false_iff_eq.mpr c115
       clear c115
       obtain rfl := Option.some.inj H
       go_wp2
       go_ret
       exact ⟨by first | rfl | (simp [errW_none, errW_some] <;> rfl) | (simp only [← hji30]; first | rfl | (simp [errW_none, errW_some] <;> rfl)) | (simp [*, errW_none, errW_some] <;> rfl), by repeat (first | (with_reducible first | exact HB.out | apply zqg | apply zqf | apply zqh | refine below_set ?_ GE193.out | refine below_set ?_ GE197.out | refine below_set ?_ GE199.out) | exact HB.out)⟩
      ·
       rw [if_neg c115] at H
       have c115b0 : (t207 == 6) = false := beq_eq_false_iff_ne.mpr c115
       have c115b1 : (t207 != 6) = true := bne_iff_ne.mpr c115
       obtain rfl := Option.some.inj H
       go_wp2
       go_ret
       exact ⟨by first | rfl | (simp [errW_none, errW_some] <;> rfl) | (simp only [← hji30]; first | rfl | (simp [errW_none, errW_some] <;> rfl)) | (simp [*, errW_none, errW_some] <;> rfl), by repeat (first | (with_reducible first | exact HB.out | apply zqg | apply zqf | apply zqh | refine below_set ?_ GE193.out | refine below_set ?_ GE197.out | refine below_set ?_ GE199.out) | exact HB.out)⟩
  ·
   rw [if_neg c69] at H
   exact absurd H (by simp)
set_option maxHeartbeats 16000000 in
set_option maxRecDepth 100000 in
theorem haulierlaw07_SchedOne.calls (k : Nat) (a0_0 : Int) (a0_1 : Int) (a0_2 : Int) (A0_3 : Option Addr) (c0_3 : Nat) (l0_3 : List (S28)) (a1 : Int) (r : Bool) (w : World) (hr0_3 : Kd.C k28 w A0_3 l0_3.length l0_3) (hc0_3 : l0_3.length ≤ c0_3) (h : haulierlaw07_SchedOne.f k a0_0 a0_1 a0_2 l0_3 a1 = some r) :
  Calls Try.prog 3 #[.agg #[.int .i64 a0_0, .int .i64 a0_1, .int .i64 a0_2, .slice A0_3 l0_3.length c0_3], .int .i64 a1] w fun e w' => e = .returned (.bool r) ∧ Below w.heap.size w w' := by
 have hu24 := Try.underlying24
 have hu28 := Try.underlying28
 have HR0_3 := zqi hr0_3
 have HC0_3 := zqi hc0_3
 clear hr0_3 hc0_3
 have HB := zqi (Below.refl w.heap.size w)
 have H : ((haulierlaw07_awake.f k).bind fun t194 => (if t194 = true then ((inst_May.f k a0_0 a0_1 a0_2 l0_3).bind fun t195 => (if t195 = true then (if (l0_3.length : Int) > 33 then (haulierlaw07_SchedOne.j0 k a1 t194 true a0_0 a0_1 a0_2 l0_3) else (if a1 < 1 then (haulierlaw07_SchedOne.j0 k a1 t194 true a0_0 a0_1 a0_2 l0_3) else (if a1 > a0_0 then (haulierlaw07_SchedOne.j0 k a1 t194 true a0_0 a0_1 a0_2 l0_3) else (haulierlaw07_SchedOne.j0 k a1 t194 ((l0_3.length : Int) != (wrap64 ((wrap64 (2 * a0_0)) + 1))) a0_0 a0_1 a0_2 l0_3)))) else (haulierlaw07_SchedOne.j0 k a1 t194 true a0_0 a0_1 a0_2 l0_3))) else (haulierlaw07_SchedOne.j0 k a1 t194 true a0_0 a0_1 a0_2 l0_3))) = some r := h
 clear h
 replace H := Option.bind_eq_some_iff.mp H
 obtain ⟨t194, A30, H⟩ := H
 replace H : (if t194 = true then ((inst_May.f k a0_0 a0_1 a0_2 l0_3).bind fun t195 => (if t195 = true then (if (l0_3.length : Int) > 33 then (haulierlaw07_SchedOne.j0 k a1 t194 true a0_0 a0_1 a0_2 l0_3) else (if a1 < 1 then (haulierlaw07_SchedOne.j0 k a1 t194 true a0_0 a0_1 a0_2 l0_3) else (if a1 > a0_0 then (haulierlaw07_SchedOne.j0 k a1 t194 true a0_0 a0_1 a0_2 l0_3) else (haulierlaw07_SchedOne.j0 k a1 t194 ((l0_3.length : Int) != (wrap64 ((wrap64 (2 * a0_0)) + 1))) a0_0 a0_1 a0_2 l0_3)))) else (haulierlaw07_SchedOne.j0 k a1 t194 true a0_0 a0_1 a0_2 l0_3))) else (haulierlaw07_SchedOne.j0 k a1 t194 true a0_0 a0_1 a0_2 l0_3)) = some r := H
 have A3 := zqi A30
 clear A30
 have HC4 := zqi H
 clear H
 go_enter Try.func3, Try.ntmps3
 go_upto_region 2 with (first | ((with_reducible refine gate_dst (N := 2) rfl ?_); (try (refine gate_guard (by rfl) ?_; dsimp only)); refine box_event ?hg (N := 2) ?hd (cs := #[.int .i64 a0_0, .int .i64 a0_1, .int .i64 a0_2, .slice A0_3 l0_3.length c0_3]) (t := 24) ?hr ?_; (case hd => rfl); (case hg => rfl); (case hr => first | (go_simp; done) | (go_simp; rfl)); intro gb193 hg w5 hbox hb; have n0_ := zqi (below_step (zqn HB.out) hb); have n1_ := zqi (hbox); have n2_ := zqi (zqo hg HB.out); have n3_ := zqi (zqo hg HB.out); clear HB; have HB := n0_; have BK193 := n1_; have GW193 := n2_; have GE193 := n3_; clear n0_ n1_ n2_ n3_; clear hb hbox hg) | ((with_reducible refine gate_callee (f := 4) rfl ?_); refine goesL_ (some 15) rfl rfl Try.func4 (by kernel_rfl) rfl #[] rfl (by (try simp only [List.map_toArray, List.map_cons, List.map_nil]); first | done | rfl | (simp only [List.length_drop, List.length_take]; rfl)) ?_; (with_reducible refine (haulierlaw07_awake.calls k  t194 _ A3.out).mono ?_); rintro e w6 ⟨rfl, hb⟩; refine ⟨_, rfl, ?_⟩; have n0_ := zqi (zqy BK193.out hb); have n1_ := zqi (below_step (zqn HB.out) hb); clear BK193; clear HB; have BK193 := n0_; have HB := n1_; clear n0_ n1_; (try clear hb); (try clear hb2); (try clear hk); (try clear hi)))
 (try simp only [Act.put, List.setIfInBounds_toArray, List.set_cons_zero, List.set_cons_succ])
 go_cut [48] (fun v48 wc => ∃ (kq : Nat) (x48_3 : Bool), v48 = .bool x48_3 ∧ Aside0 (haulierlaw07_SchedOne.j0 kq a1 t194 x48_3 a0_0 a0_1 a0_2 l0_3 = some r) ∧ Aside0 (kq ≤ k) ∧ Aside0 (wc.heap[gb193]? = some (.cells #[.int .i64 a0_0, .int .i64 a0_1, .int .i64 a0_2, (.slice A0_3 l0_3.length c0_3)] 24 (0, 0))) ∧ Aside0 (Below w.heap.size w wc))
 case first =>
  have H := HC4.out
  clear HC4
  by_cases c7 : t194 = true
  ·
   subst c7
   have H1 : ((inst_May.f k a0_0 a0_1 a0_2 l0_3).bind fun t195 => (if t195 = true then (if (l0_3.length : Int) > 33 then (haulierlaw07_SchedOne.j0 k a1 true true a0_0 a0_1 a0_2 l0_3) else (if a1 < 1 then (haulierlaw07_SchedOne.j0 k a1 true true a0_0 a0_1 a0_2 l0_3) else (if a1 > a0_0 then (haulierlaw07_SchedOne.j0 k a1 true true a0_0 a0_1 a0_2 l0_3) else (haulierlaw07_SchedOne.j0 k a1 true ((l0_3.length : Int) != (wrap64 ((wrap64 (2 * a0_0)) + 1))) a0_0 a0_1 a0_2 l0_3)))) else (haulierlaw07_SchedOne.j0 k a1 true true a0_0 a0_1 a0_2 l0_3))) = some r := by rw [if_pos rfl] at H; exact H
   clear H
   have H := H1
   clear H1
   replace H := Option.bind_eq_some_iff.mp H
   obtain ⟨t195, A80, H⟩ := H
   replace H : (if t195 = true then (if (l0_3.length : Int) > 33 then (haulierlaw07_SchedOne.j0 k a1 true true a0_0 a0_1 a0_2 l0_3) else (if a1 < 1 then (haulierlaw07_SchedOne.j0 k a1 true true a0_0 a0_1 a0_2 l0_3) else (if a1 > a0_0 then (haulierlaw07_SchedOne.j0 k a1 true true a0_0 a0_1 a0_2 l0_3) else (haulierlaw07_SchedOne.j0 k a1 true ((l0_3.length : Int) != (wrap64 ((wrap64 (2 * a0_0)) + 1))) a0_0 a0_1 a0_2 l0_3)))) else (haulierlaw07_SchedOne.j0 k a1 true true a0_0 a0_1 a0_2 l0_3)) = some r := H
   have A8 := zqi A80
   clear A80
   by_cases c9 : t195 = true
   ·
    subst c9
    have H1 : (if (l0_3.length : Int) > 33 then (haulierlaw07_SchedOne.j0 k a1 true true a0_0 a0_1 a0_2 l0_3) else (if a1 < 1 then (haulierlaw07_SchedOne.j0 k a1 true true a0_0 a0_1 a0_2 l0_3) else (if a1 > a0_0 then (haulierlaw07_SchedOne.j0 k a1 true true a0_0 a0_1 a0_2 l0_3) else (haulierlaw07_SchedOne.j0 k a1 true ((l0_3.length : Int) != (wrap64 ((wrap64 (2 * a0_0)) + 1))) a0_0 a0_1 a0_2 l0_3)))) = some r := by rw [if_pos rfl] at H; exact H
    clear H
    have H := H1
    clear H1
    by_cases c10 : (l0_3.length : Int) > 33
    ·
     rw [if_pos c10] at H
     have c10b0 : decide (33 < (l0_3.length : Int)) = true := decide_eq_true c10
     have c10b1 : decide (33 < l0_3.length) = true := decide_eq_true (by omega)
     clear c10
     (first | rw [c10b0] | (simp only [i64_w, i32_w]; rw [c10b0]) | skip)
     have H' := zqi H
     clear H
     obtain ⟨hcz11_0, hcz11_1, hcz11_2, hcz11_3, hfz11_0, hfz11_1, hfz11_2, hfz11_3⟩ := zqz4 BK193.out
     go_wp2_with (first | (go_at_call 5; (with_reducible refine (inst_May.calls k a0_0 a0_1 a0_2 _ _ l0_3 true _ ?side1 ?side2 A8.out).mono ?_); (case side1 => repeat (first | exact (Kd.C_below HR0_3.out HB.out) | (with_reducible refine Kd.C_alloc ?_ _) | (with_reducible refine Kd.C_drewN ?_ _) | (with_reducible refine Kd.C_drew ?_))); (case side2 => exact HC0_3.out); rintro e w12 ⟨rfl, hb⟩; have n0_ := zqi (zqy BK193.out hb); have n1_ := zqi (below_step (zqn HB.out) hb); clear BK193; clear HB; have BK193 := n0_; have HB := n1_; clear n0_ n1_; (try clear hb); (try clear hb2); (try clear hk); (try clear hi); obtain ⟨hcz13_0, hcz13_1, hcz13_2, hcz13_3, hfz13_0, hfz13_1, hfz13_2, hfz13_3⟩ := zqz4 BK193.out))
     go_meet
     case rel => exact ⟨_, (true), (by first | rfl | (simp; done) | (simp [*]; done)), H', ⟨by first | omega | exact Nat.le_refl _⟩, ⟨by (with_reducible repeat (first | apply zqa | apply zqb | apply zqc)); exact BK193.out⟩, ⟨by repeat (first | (with_reducible first | exact HB.out | apply zqg | apply zqf | apply zqh | refine below_set ?_ GE193.out) | exact HB.out)⟩⟩
    ·
     rw [if_neg c10] at H
     have c10b0 : decide (33 < (l0_3.length : Int)) = false := decide_eq_false c10
     have c10b1 : decide (33 < l0_3.length) = false := decide_eq_false (by omega)
     clear c10
     (first | rw [c10b0] | (simp only [i64_w, i32_w]; rw [c10b0]) | skip)
     by_cases c14 : a1 < 1
     ·
      rw [if_pos c14] at H
      have c14b0 : decide (a1 < 1) = true := decide_eq_true c14
      clear c14
      have H' := zqi H
      clear H
      obtain ⟨hcz15_0, hcz15_1, hcz15_2, hcz15_3, hfz15_0, hfz15_1, hfz15_2, hfz15_3⟩ := zqz4 BK193.out
      go_wp2_with (first | (go_at_call 5; (with_reducible refine (inst_May.calls k a0_0 a0_1 a0_2 _ _ l0_3 true _ ?side1 ?side2 A8.out).mono ?_); (case side1 => repeat (first | exact (Kd.C_below HR0_3.out HB.out) | (with_reducible refine Kd.C_alloc ?_ _) | (with_reducible refine Kd.C_drewN ?_ _) | (with_reducible refine Kd.C_drew ?_))); (case side2 => exact HC0_3.out); rintro e w16 ⟨rfl, hb⟩; have n0_ := zqi (zqy BK193.out hb); have n1_ := zqi (below_step (zqn HB.out) hb); clear BK193; clear HB; have BK193 := n0_; have HB := n1_; clear n0_ n1_; (try clear hb); (try clear hb2); (try clear hk); (try clear hi); obtain ⟨hcz17_0, hcz17_1, hcz17_2, hcz17_3, hfz17_0, hfz17_1, hfz17_2, hfz17_3⟩ := zqz4 BK193.out))
      go_meet
      case rel => exact ⟨_, (true), (by first | rfl | (simp; done) | (simp [*]; done)), H', ⟨by first | omega | exact Nat.le_refl _⟩, ⟨by (with_reducible repeat (first | apply zqa | apply zqb | apply zqc)); exact BK193.out⟩, ⟨by repeat (first | (with_reducible first | exact HB.out | apply zqg | apply zqf | apply zqh | refine below_set ?_ GE193.out) | exact HB.out)⟩⟩
     ·
      rw [if_neg c14] at H
      have c14b0 : decide (a1 < 1) = false := decide_eq_false c14
      clear c14
      by_cases c18 : a1 > a0_0
      ·
       rw [if_pos c18] at H
       have c18b0 : decide (a0_0 < a1) = true := decide_eq_true c18
       clear c18
       have H' := zqi H
       clear H
       obtain ⟨hcz19_0, hcz19_1, hcz19_2, hcz19_3, hfz19_0, hfz19_1, hfz19_2, hfz19_3⟩ := zqz4 BK193.out
       go_wp2_with (first | (go_at_call 5; (with_reducible refine (inst_May.calls k a0_0 a0_1 a0_2 _ _ l0_3 true _ ?side1 ?side2 A8.out).mono ?_); (case side1 => repeat (first | exact (Kd.C_below HR0_3.out HB.out) | (with_reducible refine Kd.C_alloc ?_ _) | (with_reducible refine Kd.C_drewN ?_ _) | (with_reducible refine Kd.C_drew ?_))); (case side2 => exact HC0_3.out); rintro e w20 ⟨rfl, hb⟩; have n0_ := zqi (zqy BK193.out hb); have n1_ := zqi (below_step (zqn HB.out) hb); clear BK193; clear HB; have BK193 := n0_; have HB := n1_; clear n0_ n1_; (try clear hb); (try clear hb2); (try clear hk); (try clear hi); obtain ⟨hcz21_0, hcz21_1, hcz21_2, hcz21_3, hfz21_0, hfz21_1, hfz21_2, hfz21_3⟩ := zqz4 BK193.out))
       go_meet
       case rel => exact ⟨_, (true), (by first | rfl | (simp; done) | (simp [*]; done)), H', ⟨by first | omega | exact Nat.le_refl _⟩, ⟨by (with_reducible repeat (first | apply zqa | apply zqb | apply zqc)); exact BK193.out⟩, ⟨by repeat (first | (with_reducible first | exact HB.out | apply zqg | apply zqf | apply zqh | refine below_set ?_ GE193.out) | exact HB.out)⟩⟩
      ·
       rw [if_neg c18] at H
       have c18b0 : decide (a0_0 < a1) = false := decide_eq_false c18
       clear c18
       have H' := zqi H
       clear H
       obtain ⟨hcz22_0, hcz22_1, hcz22_2, hcz22_3, hfz22_0, hfz22_1, hfz22_2, hfz22_3⟩ := zqz4 BK193.out
       go_wp2_with (first | (go_at_call 5; (with_reducible refine (inst_May.calls k a0_0 a0_1 a0_2 _ _ l0_3 true _ ?side1 ?side2 A8.out).mono ?_); (case side1 => repeat (first | exact (Kd.C_below HR0_3.out HB.out) | (with_reducible refine Kd.C_alloc ?_ _) | (with_reducible refine Kd.C_drewN ?_ _) | (with_reducible refine Kd.C_drew ?_))); (case side2 => exact HC0_3.out); rintro e w23 ⟨rfl, hb⟩; have n0_ := zqi (zqy BK193.out hb); have n1_ := zqi (below_step (zqn HB.out) hb); clear BK193; clear HB; have BK193 := n0_; have HB := n1_; clear n0_ n1_; (try clear hb); (try clear hb2); (try clear hk); (try clear hi); obtain ⟨hcz24_0, hcz24_1, hcz24_2, hcz24_3, hfz24_0, hfz24_1, hfz24_2, hfz24_3⟩ := zqz4 BK193.out))
       go_meet
       case rel => exact ⟨_, (((l0_3.length : Int) != (wrap64 ((wrap64 (2 * a0_0)) + 1)))), (by first | rfl | (simp; done) | (simp [*]; done)), H', ⟨by first | omega | exact Nat.le_refl _⟩, ⟨by (with_reducible repeat (first | apply zqa | apply zqb | apply zqc)); exact BK193.out⟩, ⟨by repeat (first | (with_reducible first | exact HB.out | apply zqg | apply zqf | apply zqh | refine below_set ?_ GE193.out) | exact HB.out)⟩⟩
   ·
    replace c9 := Bool.eq_false_iff.mpr c9
    subst c9
    have H1 : (haulierlaw07_SchedOne.j0 k a1 true true a0_0 a0_1 a0_2 l0_3) = some r := by rw [if_neg (show ¬ (false = true) by decide)] at H; exact H
    clear H
    have H := H1
    clear H1
    have H' := zqi H
    clear H
    obtain ⟨hcz25_0, hcz25_1, hcz25_2, hcz25_3, hfz25_0, hfz25_1, hfz25_2, hfz25_3⟩ := zqz4 BK193.out
    go_wp2_with (first | (go_at_call 5; (with_reducible refine (inst_May.calls k a0_0 a0_1 a0_2 _ _ l0_3 false _ ?side1 ?side2 A8.out).mono ?_); (case side1 => repeat (first | exact (Kd.C_below HR0_3.out HB.out) | (with_reducible refine Kd.C_alloc ?_ _) | (with_reducible refine Kd.C_drewN ?_ _) | (with_reducible refine Kd.C_drew ?_))); (case side2 => exact HC0_3.out); rintro e w26 ⟨rfl, hb⟩; have n0_ := zqi (zqy BK193.out hb); have n1_ := zqi (below_step (zqn HB.out) hb); clear BK193; clear HB; have BK193 := n0_; have HB := n1_; clear n0_ n1_; (try clear hb); (try clear hb2); (try clear hk); (try clear hi)))
    go_meet
    case rel => exact ⟨_, (true), (by first | rfl | (simp; done) | (simp [*]; done)), H', ⟨by first | omega | exact Nat.le_refl _⟩, ⟨by (with_reducible repeat (first | apply zqa | apply zqb | apply zqc)); exact BK193.out⟩, ⟨by repeat (first | (with_reducible first | exact HB.out | apply zqg | apply zqf | apply zqh | refine below_set ?_ GE193.out) | exact HB.out)⟩⟩
  ·
   replace c7 := Bool.eq_false_iff.mpr c7
   subst c7
   have H1 : (haulierlaw07_SchedOne.j0 k a1 false true a0_0 a0_1 a0_2 l0_3) = some r := by rw [if_neg (show ¬ (false = true) by decide)] at H; exact H
   clear H
   have H := H1
   clear H1
   have H' := zqi H
   clear H
   go_wp2
   go_meet
   case rel => exact ⟨_, (true), (by first | rfl | (simp; done) | (simp [*]; done)), H', ⟨by first | omega | exact Nat.le_refl _⟩, ⟨by (with_reducible repeat (first | apply zqa | apply zqb | apply zqc)); exact BK193.out⟩, ⟨by repeat (first | (with_reducible first | exact HB.out | apply zqg | apply zqf | apply zqh | refine below_set ?_ GE193.out) | exact HB.out)⟩⟩
 case rest =>
  clear HC4
  try clear c1
  try clear p2
  try clear c3
  try clear c4
  try clear p6
  try clear c7
  try clear c9
  try clear c10
  try clear c10b0
  try clear c10b1
  try clear c14
  try clear c14b0
  try clear c18
  try clear c18b0
  try clear hcz11_0
  try clear hcz11_1
  try clear hcz11_2
  try clear hcz11_3
  try clear hcz13_0
  try clear hcz13_1
  try clear hcz13_2
  try clear hcz13_3
  try clear hcz15_0
  try clear hcz15_1
  try clear hcz15_2
  try clear hcz15_3
  try clear hcz17_0
  try clear hcz17_1
  try clear hcz17_2
  try clear hcz17_3
  try clear hcz19_0
  try clear hcz19_1
  try clear hcz19_2
  try clear hcz19_3
  try clear hcz21_0
  try clear hcz21_1
  try clear hcz21_2
  try clear hcz21_3
  try clear hcz22_0
  try clear hcz22_1
  try clear hcz22_2
  try clear hcz22_3
  try clear hcz24_0
  try clear hcz24_1
  try clear hcz24_2
  try clear hcz24_3
  try clear hcz25_0
  try clear hcz25_1
  try clear hcz25_2
  try clear hcz25_3
  try clear hfz11_0
  try clear hfz11_1
  try clear hfz11_2
  try clear hfz11_3
  try clear hfz13_0
  try clear hfz13_1
  try clear hfz13_2
  try clear hfz13_3
  try clear hfz15_0
  try clear hfz15_1
  try clear hfz15_2
  try clear hfz15_3
  try clear hfz17_0
  try clear hfz17_1
  try clear hfz17_2
  try clear hfz17_3
  try clear hfz19_0
  try clear hfz19_1
  try clear hfz19_2
  try clear hfz19_3
  try clear hfz21_0
  try clear hfz21_1
  try clear hfz21_2
  try clear hfz21_3
  try clear hfz22_0
  try clear hfz22_1
  try clear hfz22_2
  try clear hfz22_3
  try clear hfz24_0
  try clear hfz24_1
  try clear hfz24_2
  try clear hfz24_3
  try clear hfz25_0
  try clear hfz25_1
  try clear hfz25_2
  try clear hfz25_3
  obtain ⟨kq, x48_3, rfl, HA, HJ3, BK193, HB⟩ := hcut
  cases kq with
  | zero => exact absurd HA.out (by simp [haulierlaw07_SchedOne.j0])
  | succ kj3 =>
   have H := HA.out
   clear HA
   simp only [haulierlaw07_SchedOne.j0] at H
   by_cases c27 : x48_3 = true
   ·
    subst c27
    have H1 : (some t194) = some r := by rw [if_pos rfl] at H; exact H
    clear H
    have H := H1
    clear H1
    obtain rfl := Option.some.inj H
    go_wp2
    go_ret
    exact ⟨by first | rfl | (simp [errW_none, errW_some] <;> rfl) | (simp [*, errW_none, errW_some] <;> rfl), by repeat (first | (with_reducible first | exact HB.out | apply zqg | apply zqf | apply zqh | refine below_set ?_ GE193.out) | exact HB.out)⟩
   ·
    replace c27 := Bool.eq_false_iff.mpr c27
    subst c27
    have H1 : (if 0 ≤ a1 then (if a1 < (l0_3.length : Int) then (if 0 ≤ (wrap64 (a1 + a0_0)) then (if (wrap64 (a1 + a0_0)) < (l0_3.length : Int) then ((sched_Times.f kj3 a0_0 a0_1 a0_2 l0_3 (([a1, wrap64 (a1 + a0_0)] : List Int))).bind fun bt203 => (if 0 < (l0_3.length : Int) then ((plane_Far.f ((rd_T28 l0_3 0).f0) ((rd_T28 l0_3 0).f1) ((rd_T28 l0_3 0).f2) ((rd_T28 l0_3 0).f3) ((rd_T28 l0_3 0).f4) ((rd_T28 l0_3 0).f5) ((rd_T28 l0_3 a1).f0) ((rd_T28 l0_3 a1).f1) ((rd_T28 l0_3 a1).f2) ((rd_T28 l0_3 a1).f3) ((rd_T28 l0_3 a1).f4) ((rd_T28 l0_3 a1).f5)).bind fun t210 => (if (wrap64 (((rd_T28 l0_3 0).f3) + t210)) < ((rd_T28 l0_3 a1).f3) then (haulierlaw07_SchedOne.j1 kj3 bt203.1 bt203.2.1 bt203.2.2 ((rd_T28 l0_3 a1).f3) a0_0 a0_1 a0_2 l0_3 ((rd_T28 l0_3 a1).f0) ((rd_T28 l0_3 a1).f1) ((rd_T28 l0_3 a1).f2) ((rd_T28 l0_3 a1).f3) ((rd_T28 l0_3 a1).f4) ((rd_T28 l0_3 a1).f5) ((rd_T28 l0_3 (wrap64 (a1 + a0_0))).f0) ((rd_T28 l0_3 (wrap64 (a1 + a0_0))).f1) ((rd_T28 l0_3 (wrap64 (a1 + a0_0))).f2) ((rd_T28 l0_3 (wrap64 (a1 + a0_0))).f3) ((rd_T28 l0_3 (wrap64 (a1 + a0_0))).f4) ((rd_T28 l0_3 (wrap64 (a1 + a0_0))).f5)) else (haulierlaw07_SchedOne.j1 kj3 bt203.1 bt203.2.1 bt203.2.2 (wrap64 (((rd_T28 l0_3 0).f3) + t210)) a0_0 a0_1 a0_2 l0_3 ((rd_T28 l0_3 a1).f0) ((rd_T28 l0_3 a1).f1) ((rd_T28 l0_3 a1).f2) ((rd_T28 l0_3 a1).f3) ((rd_T28 l0_3 a1).f4) ((rd_T28 l0_3 a1).f5) ((rd_T28 l0_3 (wrap64 (a1 + a0_0))).f0) ((rd_T28 l0_3 (wrap64 (a1 + a0_0))).f1) ((rd_T28 l0_3 (wrap64 (a1 + a0_0))).f2) ((rd_T28 l0_3 (wrap64 (a1 + a0_0))).f3) ((rd_T28 l0_3 (wrap64 (a1 + a0_0))).f4) ((rd_T28 l0_3 (wrap64 (a1 + a0_0))).f5)))) else (none))) else (none)) else (none)) else (none)) else (none)) = some r := by rw [if_neg (show ¬ (false = true) by decide)] at H; exact H
    clear H
    have H := H1
    clear H1
    by_cases c28 : 0 ≤ a1
    ·
     rw [if_pos c28] at H
     have c28b0 : decide (0 ≤ a1) = true := decide_eq_true c28
     clear c28
     by_cases c29 : a1 < (l0_3.length : Int)
     ·
      rw [if_pos c29] at H
      have c29b0 : decide (a1 < (l0_3.length : Int)) = true := decide_eq_true c29
      clear c29
      obtain ⟨ji30, hji30⟩ : ∃ j_ : Int, (wrap64 (a1 + a0_0)) = j_ := ⟨_, rfl⟩
      replace H : (if 0 ≤ (ji30) then (if (ji30) < (l0_3.length : Int) then ((sched_Times.f kj3 a0_0 a0_1 a0_2 l0_3 (([a1, ji30] : List Int))).bind fun bt203 => (if 0 < (l0_3.length : Int) then ((plane_Far.f ((rd_T28 l0_3 0).f0) ((rd_T28 l0_3 0).f1) ((rd_T28 l0_3 0).f2) ((rd_T28 l0_3 0).f3) ((rd_T28 l0_3 0).f4) ((rd_T28 l0_3 0).f5) ((rd_T28 l0_3 a1).f0) ((rd_T28 l0_3 a1).f1) ((rd_T28 l0_3 a1).f2) ((rd_T28 l0_3 a1).f3) ((rd_T28 l0_3 a1).f4) ((rd_T28 l0_3 a1).f5)).bind fun t210 => (if (wrap64 (((rd_T28 l0_3 0).f3) + t210)) < ((rd_T28 l0_3 a1).f3) then (haulierlaw07_SchedOne.j1 kj3 bt203.1 bt203.2.1 bt203.2.2 ((rd_T28 l0_3 a1).f3) a0_0 a0_1 a0_2 l0_3 ((rd_T28 l0_3 a1).f0) ((rd_T28 l0_3 a1).f1) ((rd_T28 l0_3 a1).f2) ((rd_T28 l0_3 a1).f3) ((rd_T28 l0_3 a1).f4) ((rd_T28 l0_3 a1).f5) ((rd_T28 l0_3 (ji30)).f0) ((rd_T28 l0_3 (ji30)).f1) ((rd_T28 l0_3 (ji30)).f2) ((rd_T28 l0_3 (ji30)).f3) ((rd_T28 l0_3 (ji30)).f4) ((rd_T28 l0_3 (ji30)).f5)) else (haulierlaw07_SchedOne.j1 kj3 bt203.1 bt203.2.1 bt203.2.2 (wrap64 (((rd_T28 l0_3 0).f3) + t210)) a0_0 a0_1 a0_2 l0_3 ((rd_T28 l0_3 a1).f0) ((rd_T28 l0_3 a1).f1) ((rd_T28 l0_3 a1).f2) ((rd_T28 l0_3 a1).f3) ((rd_T28 l0_3 a1).f4) ((rd_T28 l0_3 a1).f5) ((rd_T28 l0_3 (ji30)).f0) ((rd_T28 l0_3 (ji30)).f1) ((rd_T28 l0_3 (ji30)).f2) ((rd_T28 l0_3 (ji30)).f3) ((rd_T28 l0_3 (ji30)).f4) ((rd_T28 l0_3 (ji30)).f5)))) else (none))) else (none)) else (none)) = some r := by first | (rw [hji30] at H; exact H) | (simp only [hji30] at H ⊢; exact H)
      have hji30w : (IntKind.i64.wrap (a1 + a0_0)) = ji30 := (i64_w _).trans hji30
      by_cases c31 : 0 ≤ (ji30)
      ·
       rw [if_pos c31] at H
       have c31b0 : decide (0 ≤ (ji30)) = true := decide_eq_true c31
       clear c31
       by_cases c32 : (ji30) < (l0_3.length : Int)
       ·
        rw [if_pos c32] at H
        have c32b0 : decide ((ji30) < (l0_3.length : Int)) = true := decide_eq_true c32
        clear c32
        obtain ⟨y200, hy200⟩ : ∃ y_ : List Int, y_ = (([a1, ji30] : List Int)) := ⟨_, rfl⟩
        replace H : ((sched_Times.f kj3 a0_0 a0_1 a0_2 l0_3 y200).bind fun bt203 => (if 0 < (l0_3.length : Int) then ((plane_Far.f ((rd_T28 l0_3 0).f0) ((rd_T28 l0_3 0).f1) ((rd_T28 l0_3 0).f2) ((rd_T28 l0_3 0).f3) ((rd_T28 l0_3 0).f4) ((rd_T28 l0_3 0).f5) ((rd_T28 l0_3 a1).f0) ((rd_T28 l0_3 a1).f1) ((rd_T28 l0_3 a1).f2) ((rd_T28 l0_3 a1).f3) ((rd_T28 l0_3 a1).f4) ((rd_T28 l0_3 a1).f5)).bind fun t210 => (if (wrap64 (((rd_T28 l0_3 0).f3) + t210)) < ((rd_T28 l0_3 a1).f3) then (haulierlaw07_SchedOne.j1 kj3 bt203.1 bt203.2.1 bt203.2.2 ((rd_T28 l0_3 a1).f3) a0_0 a0_1 a0_2 l0_3 ((rd_T28 l0_3 a1).f0) ((rd_T28 l0_3 a1).f1) ((rd_T28 l0_3 a1).f2) ((rd_T28 l0_3 a1).f3) ((rd_T28 l0_3 a1).f4) ((rd_T28 l0_3 a1).f5) ((rd_T28 l0_3 (ji30)).f0) ((rd_T28 l0_3 (ji30)).f1) ((rd_T28 l0_3 (ji30)).f2) ((rd_T28 l0_3 (ji30)).f3) ((rd_T28 l0_3 (ji30)).f4) ((rd_T28 l0_3 (ji30)).f5)) else (haulierlaw07_SchedOne.j1 kj3 bt203.1 bt203.2.1 bt203.2.2 (wrap64 (((rd_T28 l0_3 0).f3) + t210)) a0_0 a0_1 a0_2 l0_3 ((rd_T28 l0_3 a1).f0) ((rd_T28 l0_3 a1).f1) ((rd_T28 l0_3 a1).f2) ((rd_T28 l0_3 a1).f3) ((rd_T28 l0_3 a1).f4) ((rd_T28 l0_3 a1).f5) ((rd_T28 l0_3 (ji30)).f0) ((rd_T28 l0_3 (ji30)).f1) ((rd_T28 l0_3 (ji30)).f2) ((rd_T28 l0_3 (ji30)).f3) ((rd_T28 l0_3 (ji30)).f4) ((rd_T28 l0_3 (ji30)).f5)))) else (none))) = some r := by first | (rw [hy200]; with_reducible exact H) | (have H2_ := (Option.bind_some _ _).symm.trans H; rw [hy200]; with_reducible exact H2_) | (have H2_ := (Option.bind_some _ _).symm.trans H; with_reducible exact H2_) | with_reducible exact H | (rw [hy200]; exact H) | exact H
        have Ny200 := zqi hy200
        clear hy200
        replace H := Option.bind_eq_some_iff.mp H
        obtain ⟨⟨t203, t206, t207⟩, A330, H⟩ := H
        replace H : (if 0 < (l0_3.length : Int) then ((plane_Far.f ((rd_T28 l0_3 0).f0) ((rd_T28 l0_3 0).f1) ((rd_T28 l0_3 0).f2) ((rd_T28 l0_3 0).f3) ((rd_T28 l0_3 0).f4) ((rd_T28 l0_3 0).f5) ((rd_T28 l0_3 a1).f0) ((rd_T28 l0_3 a1).f1) ((rd_T28 l0_3 a1).f2) ((rd_T28 l0_3 a1).f3) ((rd_T28 l0_3 a1).f4) ((rd_T28 l0_3 a1).f5)).bind fun t210 => (if (wrap64 (((rd_T28 l0_3 0).f3) + t210)) < ((rd_T28 l0_3 a1).f3) then (haulierlaw07_SchedOne.j1 kj3 t203 t206 t207 ((rd_T28 l0_3 a1).f3) a0_0 a0_1 a0_2 l0_3 ((rd_T28 l0_3 a1).f0) ((rd_T28 l0_3 a1).f1) ((rd_T28 l0_3 a1).f2) ((rd_T28 l0_3 a1).f3) ((rd_T28 l0_3 a1).f4) ((rd_T28 l0_3 a1).f5) ((rd_T28 l0_3 (ji30)).f0) ((rd_T28 l0_3 (ji30)).f1) ((rd_T28 l0_3 (ji30)).f2) ((rd_T28 l0_3 (ji30)).f3) ((rd_T28 l0_3 (ji30)).f4) ((rd_T28 l0_3 (ji30)).f5)) else (haulierlaw07_SchedOne.j1 kj3 t203 t206 t207 (wrap64 (((rd_T28 l0_3 0).f3) + t210)) a0_0 a0_1 a0_2 l0_3 ((rd_T28 l0_3 a1).f0) ((rd_T28 l0_3 a1).f1) ((rd_T28 l0_3 a1).f2) ((rd_T28 l0_3 a1).f3) ((rd_T28 l0_3 a1).f4) ((rd_T28 l0_3 a1).f5) ((rd_T28 l0_3 (ji30)).f0) ((rd_T28 l0_3 (ji30)).f1) ((rd_T28 l0_3 (ji30)).f2) ((rd_T28 l0_3 (ji30)).f3) ((rd_T28 l0_3 (ji30)).f4) ((rd_T28 l0_3 (ji30)).f5)))) else (none)) = some r := H
        have A33 := zqi A330
        clear A330
        by_cases c34 : 0 < (l0_3.length : Int)
        ·
         rw [if_pos c34] at H
         have c34b0 : decide (0 < (l0_3.length : Int)) = true := decide_eq_true c34
         have c34b1 : decide (0 < l0_3.length) = true := decide_eq_true (by omega)
         clear c34
         replace H := Option.bind_eq_some_iff.mp H
         obtain ⟨t210, A350, H⟩ := H
         replace H : (if (wrap64 (((rd_T28 l0_3 0).f3) + t210)) < ((rd_T28 l0_3 a1).f3) then (haulierlaw07_SchedOne.j1 kj3 t203 t206 t207 ((rd_T28 l0_3 a1).f3) a0_0 a0_1 a0_2 l0_3 ((rd_T28 l0_3 a1).f0) ((rd_T28 l0_3 a1).f1) ((rd_T28 l0_3 a1).f2) ((rd_T28 l0_3 a1).f3) ((rd_T28 l0_3 a1).f4) ((rd_T28 l0_3 a1).f5) ((rd_T28 l0_3 (ji30)).f0) ((rd_T28 l0_3 (ji30)).f1) ((rd_T28 l0_3 (ji30)).f2) ((rd_T28 l0_3 (ji30)).f3) ((rd_T28 l0_3 (ji30)).f4) ((rd_T28 l0_3 (ji30)).f5)) else (haulierlaw07_SchedOne.j1 kj3 t203 t206 t207 (wrap64 (((rd_T28 l0_3 0).f3) + t210)) a0_0 a0_1 a0_2 l0_3 ((rd_T28 l0_3 a1).f0) ((rd_T28 l0_3 a1).f1) ((rd_T28 l0_3 a1).f2) ((rd_T28 l0_3 a1).f3) ((rd_T28 l0_3 a1).f4) ((rd_T28 l0_3 a1).f5) ((rd_T28 l0_3 (ji30)).f0) ((rd_T28 l0_3 (ji30)).f1) ((rd_T28 l0_3 (ji30)).f2) ((rd_T28 l0_3 (ji30)).f3) ((rd_T28 l0_3 (ji30)).f4) ((rd_T28 l0_3 (ji30)).f5))) = some r := H
         have A35 := zqi A350
         clear A350
         have HC36 := zqi H
         clear H
         obtain ⟨hcz37_0, hcz37_1, hcz37_2, hcz37_3, hfz37_0, hfz37_1, hfz37_2, hfz37_3⟩ := zqz4 BK193.out
         have p196 : 0 ≤ (a1 : Int) := of_decide_eq_true (by first | (with_reducible assumption) | assumption)
         have q196 : a1 < (l0_3.length : Int) := of_decide_eq_true (by first | (with_reducible assumption) | assumption)
         obtain ⟨ad196, e196, hx196_0, hx196_1, hx196_2, hx196_3, hx196_4, hx196_5⟩ := at_T28 HR0_3.out a1 p196 q196
         cases e196
         replace hx196_0 := (HB.out.cell (World.block_lt_of_cell? w _ hx196_0)).trans hx196_0
         replace hx196_1 := (HB.out.cell (World.block_lt_of_cell? w _ hx196_1)).trans hx196_1
         replace hx196_2 := (HB.out.cell (World.block_lt_of_cell? w _ hx196_2)).trans hx196_2
         replace hx196_3 := (HB.out.cell (World.block_lt_of_cell? w _ hx196_3)).trans hx196_3
         replace hx196_4 := (HB.out.cell (World.block_lt_of_cell? w _ hx196_4)).trans hx196_4
         replace hx196_5 := (HB.out.cell (World.block_lt_of_cell? w _ hx196_5)).trans hx196_5
         replace p196 := eq_true p196
         replace q196 := eq_true q196
         try go_wp2_with (first | ((with_reducible refine gate_dst (N := 6) rfl ?_); (try (refine gate_guard (by rfl) ?_; dsimp only)); refine box_event ?hg (N := 6) ?hd (cs := #[.int .i64 0, .int .i64 0, .int .i64 0, .int .i64 0, .int .i64 0, .int .i64 0]) (t := 28) ?hr ?_; (case hd => rfl); (case hg => rfl); (case hr => first | (go_simp; done) | (go_simp; rfl)); intro gb197 hg w38 hbox hb; have n0_ := zqi (zqy BK193.out hb); have n1_ := zqi (below_step (zqn HB.out) hb); have n2_ := zqi (hbox); have n3_ := zqi (zqo hg HB.out); have n4_ := zqi (zqo hg HB.out); have n5_ := zqi ((zqq hg BK193.out)); have n6_ := zqi ((zqr hg BK193.out)); clear BK193; clear HB; have BK193 := n0_; have HB := n1_; have BK197 := n2_; have GW197 := n3_; have GE197 := n4_; have NB193_197 := n5_; have NB197_193 := n6_; clear n0_ n1_ n2_ n3_ n4_ n5_ n6_; clear hb hbox hg; have hnb39 := NB197_193.out; have hnc39 := NB193_197.out; obtain ⟨hcz40_0, hcz40_1, hcz40_2, hcz40_3, hcz40_4, hcz40_5, hfz40_0, hfz40_1, hfz40_2, hfz40_3, hfz40_4, hfz40_5⟩ := zqz6 BK197.out; obtain ⟨hcz41_0, hcz41_1, hcz41_2, hcz41_3, hfz41_0, hfz41_1, hfz41_2, hfz41_3⟩ := zqz4 BK193.out; have p198 : 0 ≤ ((ji30) : Int) := of_decide_eq_true (by first | (with_reducible assumption) | assumption); have q198 : (ji30) < (l0_3.length : Int) := of_decide_eq_true (by first | (with_reducible assumption) | assumption); obtain ⟨ad198, e198, hx198_0, hx198_1, hx198_2, hx198_3, hx198_4, hx198_5⟩ := at_T28 HR0_3.out (ji30) p198 q198; obtain rfl : ad196 = ad198 := (by injection e198); have hn198_0 : ad196.block ≠ gb197 := (by have h_ := zql hx198_0 GW197.out; first | exact h_ | (rw [add_block] at h_; exact h_)); have hn198_1 : ad196.block ≠ gb197 := (by have h_ := zql hx198_0 GW197.out; first | exact h_ | (rw [add_block] at h_; exact h_)); have hn198_2 : ad196.block ≠ gb197 := (by have h_ := zql hx198_0 GW197.out; first | exact h_ | (rw [add_block] at h_; exact h_)); have hn198_3 : ad196.block ≠ gb197 := (by have h_ := zql hx198_0 GW197.out; first | exact h_ | (rw [add_block] at h_; exact h_)); have hn198_4 : ad196.block ≠ gb197 := (by have h_ := zql hx198_0 GW197.out; first | exact h_ | (rw [add_block] at h_; exact h_)); have hn198_5 : ad196.block ≠ gb197 := (by have h_ := zql hx198_0 GW197.out; first | exact h_ | (rw [add_block] at h_; exact h_)); replace hx198_0 := (HB.out.cell (World.block_lt_of_cell? w _ hx198_0)).trans hx198_0; replace hx198_1 := (HB.out.cell (World.block_lt_of_cell? w _ hx198_1)).trans hx198_1; replace hx198_2 := (HB.out.cell (World.block_lt_of_cell? w _ hx198_2)).trans hx198_2; replace hx198_3 := (HB.out.cell (World.block_lt_of_cell? w _ hx198_3)).trans hx198_3; replace hx198_4 := (HB.out.cell (World.block_lt_of_cell? w _ hx198_4)).trans hx198_4; replace hx198_5 := (HB.out.cell (World.block_lt_of_cell? w _ hx198_5)).trans hx198_5; replace hx198_0 := (cell_far (p := ⟨gb197, 0, none⟩) (by first | (rw [add_block]; exact hn198_0) | (show (Addr.add _ _).block ≠ _; rw [add_block]; exact hn198_0) | exact hn198_0) (.int .i64 ((rd_T28 l0_3 a1).f0))).trans hx198_0; replace hx198_1 := (cell_far (p := ⟨gb197, 0, none⟩) (by first | (rw [add_block]; exact hn198_0) | (show (Addr.add _ _).block ≠ _; rw [add_block]; exact hn198_0) | exact hn198_0) (.int .i64 ((rd_T28 l0_3 a1).f0))).trans hx198_1; replace hx198_2 := (cell_far (p := ⟨gb197, 0, none⟩) (by first | (rw [add_block]; exact hn198_0) | (show (Addr.add _ _).block ≠ _; rw [add_block]; exact hn198_0) | exact hn198_0) (.int .i64 ((rd_T28 l0_3 a1).f0))).trans hx198_2; replace hx198_3 := (cell_far (p := ⟨gb197, 0, none⟩) (by first | (rw [add_block]; exact hn198_0) | (show (Addr.add _ _).block ≠ _; rw [add_block]; exact hn198_0) | exact hn198_0) (.int .i64 ((rd_T28 l0_3 a1).f0))).trans hx198_3; replace hx198_4 := (cell_far (p := ⟨gb197, 0, none⟩) (by first | (rw [add_block]; exact hn198_0) | (show (Addr.add _ _).block ≠ _; rw [add_block]; exact hn198_0) | exact hn198_0) (.int .i64 ((rd_T28 l0_3 a1).f0))).trans hx198_4; replace hx198_5 := (cell_far (p := ⟨gb197, 0, none⟩) (by first | (rw [add_block]; exact hn198_0) | (show (Addr.add _ _).block ≠ _; rw [add_block]; exact hn198_0) | exact hn198_0) (.int .i64 ((rd_T28 l0_3 a1).f0))).trans hx198_5; replace hx198_0 := (cell_far (p := ⟨gb197, 1, none⟩) (by first | (rw [add_block]; exact hn198_1) | (show (Addr.add _ _).block ≠ _; rw [add_block]; exact hn198_1) | exact hn198_1) (.int .i64 ((rd_T28 l0_3 a1).f1))).trans hx198_0; replace hx198_1 := (cell_far (p := ⟨gb197, 1, none⟩) (by first | (rw [add_block]; exact hn198_1) | (show (Addr.add _ _).block ≠ _; rw [add_block]; exact hn198_1) | exact hn198_1) (.int .i64 ((rd_T28 l0_3 a1).f1))).trans hx198_1; replace hx198_2 := (cell_far (p := ⟨gb197, 1, none⟩) (by first | (rw [add_block]; exact hn198_1) | (show (Addr.add _ _).block ≠ _; rw [add_block]; exact hn198_1) | exact hn198_1) (.int .i64 ((rd_T28 l0_3 a1).f1))).trans hx198_2; replace hx198_3 := (cell_far (p := ⟨gb197, 1, none⟩) (by first | (rw [add_block]; exact hn198_1) | (show (Addr.add _ _).block ≠ _; rw [add_block]; exact hn198_1) | exact hn198_1) (.int .i64 ((rd_T28 l0_3 a1).f1))).trans hx198_3; replace hx198_4 := (cell_far (p := ⟨gb197, 1, none⟩) (by first | (rw [add_block]; exact hn198_1) | (show (Addr.add _ _).block ≠ _; rw [add_block]; exact hn198_1) | exact hn198_1) (.int .i64 ((rd_T28 l0_3 a1).f1))).trans hx198_4; replace hx198_5 := (cell_far (p := ⟨gb197, 1, none⟩) (by first | (rw [add_block]; exact hn198_1) | (show (Addr.add _ _).block ≠ _; rw [add_block]; exact hn198_1) | exact hn198_1) (.int .i64 ((rd_T28 l0_3 a1).f1))).trans hx198_5; replace hx198_0 := (cell_far (p := ⟨gb197, 2, none⟩) (by first | (rw [add_block]; exact hn198_2) | (show (Addr.add _ _).block ≠ _; rw [add_block]; exact hn198_2) | exact hn198_2) (.int .i64 ((rd_T28 l0_3 a1).f2))).trans hx198_0; replace hx198_1 := (cell_far (p := ⟨gb197, 2, none⟩) (by first | (rw [add_block]; exact hn198_2) | (show (Addr.add _ _).block ≠ _; rw [add_block]; exact hn198_2) | exact hn198_2) (.int .i64 ((rd_T28 l0_3 a1).f2))).trans hx198_1; replace hx198_2 := (cell_far (p := ⟨gb197, 2, none⟩) (by first | (rw [add_block]; exact hn198_2) | (show (Addr.add _ _).block ≠ _; rw [add_block]; exact hn198_2) | exact hn198_2) (.int .i64 ((rd_T28 l0_3 a1).f2))).trans hx198_2; replace hx198_3 := (cell_far (p := ⟨gb197, 2, none⟩) (by first | (rw [add_block]; exact hn198_2) | (show (Addr.add _ _).block ≠ _; rw [add_block]; exact hn198_2) | exact hn198_2) (.int .i64 ((rd_T28 l0_3 a1).f2))).trans hx198_3; replace hx198_4 := (cell_far (p := ⟨gb197, 2, none⟩) (by first | (rw [add_block]; exact hn198_2) | (show (Addr.add _ _).block ≠ _; rw [add_block]; exact hn198_2) | exact hn198_2) (.int .i64 ((rd_T28 l0_3 a1).f2))).trans hx198_4; replace hx198_5 := (cell_far (p := ⟨gb197, 2, none⟩) (by first | (rw [add_block]; exact hn198_2) | (show (Addr.add _ _).block ≠ _; rw [add_block]; exact hn198_2) | exact hn198_2) (.int .i64 ((rd_T28 l0_3 a1).f2))).trans hx198_5; replace hx198_0 := (cell_far (p := ⟨gb197, 3, none⟩) (by first | (rw [add_block]; exact hn198_3) | (show (Addr.add _ _).block ≠ _; rw [add_block]; exact hn198_3) | exact hn198_3) (.int .i64 ((rd_T28 l0_3 a1).f3))).trans hx198_0; replace hx198_1 := (cell_far (p := ⟨gb197, 3, none⟩) (by first | (rw [add_block]; exact hn198_3) | (show (Addr.add _ _).block ≠ _; rw [add_block]; exact hn198_3) | exact hn198_3) (.int .i64 ((rd_T28 l0_3 a1).f3))).trans hx198_1; replace hx198_2 := (cell_far (p := ⟨gb197, 3, none⟩) (by first | (rw [add_block]; exact hn198_3) | (show (Addr.add _ _).block ≠ _; rw [add_block]; exact hn198_3) | exact hn198_3) (.int .i64 ((rd_T28 l0_3 a1).f3))).trans hx198_2; replace hx198_3 := (cell_far (p := ⟨gb197, 3, none⟩) (by first | (rw [add_block]; exact hn198_3) | (show (Addr.add _ _).block ≠ _; rw [add_block]; exact hn198_3) | exact hn198_3) (.int .i64 ((rd_T28 l0_3 a1).f3))).trans hx198_3; replace hx198_4 := (cell_far (p := ⟨gb197, 3, none⟩) (by first | (rw [add_block]; exact hn198_3) | (show (Addr.add _ _).block ≠ _; rw [add_block]; exact hn198_3) | exact hn198_3) (.int .i64 ((rd_T28 l0_3 a1).f3))).trans hx198_4; replace hx198_5 := (cell_far (p := ⟨gb197, 3, none⟩) (by first | (rw [add_block]; exact hn198_3) | (show (Addr.add _ _).block ≠ _; rw [add_block]; exact hn198_3) | exact hn198_3) (.int .i64 ((rd_T28 l0_3 a1).f3))).trans hx198_5; replace hx198_0 := (cell_far (p := ⟨gb197, 4, none⟩) (by first | (rw [add_block]; exact hn198_4) | (show (Addr.add _ _).block ≠ _; rw [add_block]; exact hn198_4) | exact hn198_4) (.int .i64 ((rd_T28 l0_3 a1).f4))).trans hx198_0; replace hx198_1 := (cell_far (p := ⟨gb197, 4, none⟩) (by first | (rw [add_block]; exact hn198_4) | (show (Addr.add _ _).block ≠ _; rw [add_block]; exact hn198_4) | exact hn198_4) (.int .i64 ((rd_T28 l0_3 a1).f4))).trans hx198_1; replace hx198_2 := (cell_far (p := ⟨gb197, 4, none⟩) (by first | (rw [add_block]; exact hn198_4) | (show (Addr.add _ _).block ≠ _; rw [add_block]; exact hn198_4) | exact hn198_4) (.int .i64 ((rd_T28 l0_3 a1).f4))).trans hx198_2; replace hx198_3 := (cell_far (p := ⟨gb197, 4, none⟩) (by first | (rw [add_block]; exact hn198_4) | (show (Addr.add _ _).block ≠ _; rw [add_block]; exact hn198_4) | exact hn198_4) (.int .i64 ((rd_T28 l0_3 a1).f4))).trans hx198_3; replace hx198_4 := (cell_far (p := ⟨gb197, 4, none⟩) (by first | (rw [add_block]; exact hn198_4) | (show (Addr.add _ _).block ≠ _; rw [add_block]; exact hn198_4) | exact hn198_4) (.int .i64 ((rd_T28 l0_3 a1).f4))).trans hx198_4; replace hx198_5 := (cell_far (p := ⟨gb197, 4, none⟩) (by first | (rw [add_block]; exact hn198_4) | (show (Addr.add _ _).block ≠ _; rw [add_block]; exact hn198_4) | exact hn198_4) (.int .i64 ((rd_T28 l0_3 a1).f4))).trans hx198_5; replace hx198_0 := (cell_far (p := ⟨gb197, 5, none⟩) (by first | (rw [add_block]; exact hn198_5) | (show (Addr.add _ _).block ≠ _; rw [add_block]; exact hn198_5) | exact hn198_5) (.int .i64 ((rd_T28 l0_3 a1).f5))).trans hx198_0; replace hx198_1 := (cell_far (p := ⟨gb197, 5, none⟩) (by first | (rw [add_block]; exact hn198_5) | (show (Addr.add _ _).block ≠ _; rw [add_block]; exact hn198_5) | exact hn198_5) (.int .i64 ((rd_T28 l0_3 a1).f5))).trans hx198_1; replace hx198_2 := (cell_far (p := ⟨gb197, 5, none⟩) (by first | (rw [add_block]; exact hn198_5) | (show (Addr.add _ _).block ≠ _; rw [add_block]; exact hn198_5) | exact hn198_5) (.int .i64 ((rd_T28 l0_3 a1).f5))).trans hx198_2; replace hx198_3 := (cell_far (p := ⟨gb197, 5, none⟩) (by first | (rw [add_block]; exact hn198_5) | (show (Addr.add _ _).block ≠ _; rw [add_block]; exact hn198_5) | exact hn198_5) (.int .i64 ((rd_T28 l0_3 a1).f5))).trans hx198_3; replace hx198_4 := (cell_far (p := ⟨gb197, 5, none⟩) (by first | (rw [add_block]; exact hn198_5) | (show (Addr.add _ _).block ≠ _; rw [add_block]; exact hn198_5) | exact hn198_5) (.int .i64 ((rd_T28 l0_3 a1).f5))).trans hx198_4; replace hx198_5 := (cell_far (p := ⟨gb197, 5, none⟩) (by first | (rw [add_block]; exact hn198_5) | (show (Addr.add _ _).block ≠ _; rw [add_block]; exact hn198_5) | exact hn198_5) (.int .i64 ((rd_T28 l0_3 a1).f5))).trans hx198_5; clear hn198_0; clear hn198_1; clear hn198_2; clear hn198_3; clear hn198_4; clear hn198_5; replace p198 := eq_true p198; replace q198 := eq_true q198) | ((with_reducible refine gate_dst (N := 7) rfl ?_); (try (refine gate_guard (by rfl) ?_; dsimp only)); refine box_event ?hg (N := 7) ?hd (cs := #[.int .i64 0, .int .i64 0, .int .i64 0, .int .i64 0, .int .i64 0, .int .i64 0]) (t := 28) ?hr ?_; (case hd => rfl); (case hg => rfl); (case hr => first | (go_simp; done) | (go_simp; rfl)); intro gb199 hg w42 hbox hb; have n0_ := zqi (blk_below (g := gb193) (o := .cells #[.int .i64 a0_0, .int .i64 a0_1, .int .i64 a0_2, .slice (some ad196) l0_3.length c0_3] 24 (0, 0)) (by (repeat (with_reducible first | apply zqa | apply zqb | apply zqc | refine blk_far ?_ NB193_197.out _)); exact BK193.out) hb); have n1_ := zqi (blk_below (g := gb197) (o := .cells #[.int .i64 ((rd_T28 l0_3 a1).f0), .int .i64 ((rd_T28 l0_3 a1).f1), .int .i64 ((rd_T28 l0_3 a1).f2), .int .i64 ((rd_T28 l0_3 a1).f3), .int .i64 ((rd_T28 l0_3 a1).f4), .int .i64 ((rd_T28 l0_3 a1).f5)] 28 (0, 0)) (by exact zqC (blk_set (blk_set (blk_set (blk_set (blk_set (blk_set BK197.out 0 _) 1 _) 2 _) 3 _) 4 _) 5 _) (by simp only [List.setIfInBounds_toArray, List.set_cons_zero, List.set_cons_succ])) hb); have n2_ := zqi (below_step (zqn HB.out) hb); have n3_ := zqi (hbox); have n4_ := zqi (zqo hg HB.out); have n5_ := zqi (zqo hg HB.out); have n6_ := zqi ((by rw [hg]; exact Nat.ne_of_lt (blk_lt (g := gb193) (o := .cells #[.int .i64 a0_0, .int .i64 a0_1, .int .i64 a0_2, .slice (some ad196) l0_3.length c0_3] 24 (0, 0)) (by (repeat (with_reducible first | apply zqa | apply zqb | apply zqc | refine blk_far ?_ NB193_197.out _)); exact BK193.out)) : gb193 ≠ gb199)); have n7_ := zqi ((by rw [hg]; exact Nat.ne_of_gt (blk_lt (g := gb193) (o := .cells #[.int .i64 a0_0, .int .i64 a0_1, .int .i64 a0_2, .slice (some ad196) l0_3.length c0_3] 24 (0, 0)) (by (repeat (with_reducible first | apply zqa | apply zqb | apply zqc | refine blk_far ?_ NB193_197.out _)); exact BK193.out)) : gb199 ≠ gb193)); have n8_ := zqi ((by rw [hg]; exact Nat.ne_of_lt (blk_lt (g := gb197) (o := .cells #[.int .i64 ((rd_T28 l0_3 a1).f0), .int .i64 ((rd_T28 l0_3 a1).f1), .int .i64 ((rd_T28 l0_3 a1).f2), .int .i64 ((rd_T28 l0_3 a1).f3), .int .i64 ((rd_T28 l0_3 a1).f4), .int .i64 ((rd_T28 l0_3 a1).f5)] 28 (0, 0)) (by exact zqC (blk_set (blk_set (blk_set (blk_set (blk_set (blk_set BK197.out 0 _) 1 _) 2 _) 3 _) 4 _) 5 _) (by simp only [List.setIfInBounds_toArray, List.set_cons_zero, List.set_cons_succ]))) : gb197 ≠ gb199)); have n9_ := zqi ((by rw [hg]; exact Nat.ne_of_gt (blk_lt (g := gb197) (o := .cells #[.int .i64 ((rd_T28 l0_3 a1).f0), .int .i64 ((rd_T28 l0_3 a1).f1), .int .i64 ((rd_T28 l0_3 a1).f2), .int .i64 ((rd_T28 l0_3 a1).f3), .int .i64 ((rd_T28 l0_3 a1).f4), .int .i64 ((rd_T28 l0_3 a1).f5)] 28 (0, 0)) (by exact zqC (blk_set (blk_set (blk_set (blk_set (blk_set (blk_set BK197.out 0 _) 1 _) 2 _) 3 _) 4 _) 5 _) (by simp only [List.setIfInBounds_toArray, List.set_cons_zero, List.set_cons_succ]))) : gb199 ≠ gb197)); clear BK193; clear BK197; clear HB; have BK193 := n0_; have BK197 := n1_; have HB := n2_; have BK199 := n3_; have GW199 := n4_; have GE199 := n5_; have NB193_199 := n6_; have NB199_193 := n7_; have NB197_199 := n8_; have NB199_197 := n9_; clear n0_ n1_ n2_ n3_ n4_ n5_ n6_ n7_ n8_ n9_; clear hb hbox hg; have hnb43 := NB199_193.out; have hnc43 := NB193_199.out; have hnb44 := NB199_197.out; have hnc44 := NB197_199.out; obtain ⟨hcz45_0, hcz45_1, hcz45_2, hcz45_3, hcz45_4, hcz45_5, hfz45_0, hfz45_1, hfz45_2, hfz45_3, hfz45_4, hfz45_5⟩ := zqz6 BK199.out; obtain ⟨hcz46_0, hcz46_1, hcz46_2, hcz46_3, hfz46_0, hfz46_1, hfz46_2, hfz46_3⟩ := zqz4 BK193.out) | ((with_reducible refine gate_dst (N := 70) rfl ?_); (try (refine gate_guard (by rfl) ?_; dsimp only)); refine Kd.R_lit (Kd.int .i64) _ 3 ?hg (N := 70) ?hd (xs := ([a1, ji30] : List Int)) (inner := [.int .i64 a1, .int .i64 ji30]) (ok := fun _ => True) (okp := fun _ => True) ?hr ?hp (fun _ hk => hk) trivial (Below.refl _ _) (Nat.le_refl _) (by simp) ?_; (case hd => rfl); (case hg => rfl); (case hr => first | (go_simp; done) | (go_simp; rfl)); (case hp => exact (Reps.one (show Kd.M (Kd.int .i64) _ _ _ a1 [.int .i64 a1] from rfl) (Reps.one (show Kd.M (Kd.int .i64) _ _ _ ji30 [.int .i64 ji30] from rfl) (Reps.none _ _)))); intro v201 w47 ho48 hb hg_ hnew_; clear hg_ hnew_; (first | rw [← Ny200.out] at ho48 | (simp only [Int.reduceToNat] at ho48; rw [← Ny200.out] at ho48)); have n0_ := zqi (Kd.R_lower ho48 (below_size (zqn HB.out))); have n1_ := zqi (blk_below (g := gb193) (o := .cells #[.int .i64 a0_0, .int .i64 a0_1, .int .i64 a0_2, .slice (some ad196) l0_3.length c0_3] 24 (0, 0)) (by (repeat (with_reducible first | apply zqa | apply zqb | apply zqc | refine blk_far ?_ NB193_199.out _)); exact BK193.out) hb); have n2_ := zqi (blk_below (g := gb197) (o := .cells #[.int .i64 ((rd_T28 l0_3 a1).f0), .int .i64 ((rd_T28 l0_3 a1).f1), .int .i64 ((rd_T28 l0_3 a1).f2), .int .i64 ((rd_T28 l0_3 a1).f3), .int .i64 ((rd_T28 l0_3 a1).f4), .int .i64 ((rd_T28 l0_3 a1).f5)] 28 (0, 0)) (by (repeat (with_reducible first | apply zqa | apply zqb | apply zqc | refine blk_far ?_ NB197_199.out _)); exact BK197.out) hb); have n3_ := zqi (blk_below (g := gb199) (o := .cells #[.int .i64 ((rd_T28 l0_3 (ji30)).f0), .int .i64 ((rd_T28 l0_3 (ji30)).f1), .int .i64 ((rd_T28 l0_3 (ji30)).f2), .int .i64 ((rd_T28 l0_3 (ji30)).f3), .int .i64 ((rd_T28 l0_3 (ji30)).f4), .int .i64 ((rd_T28 l0_3 (ji30)).f5)] 28 (0, 0)) (by exact zqC (blk_set (blk_set (blk_set (blk_set (blk_set (blk_set BK199.out 0 _) 1 _) 2 _) 3 _) 4 _) 5 _) (by simp only [List.setIfInBounds_toArray, List.set_cons_zero, List.set_cons_succ])) hb); have n4_ := zqi (below_step (zqn HB.out) hb); clear BK193; clear BK197; clear BK199; clear HB; have HO202 := n0_; have BK193 := n1_; have BK197 := n2_; have BK199 := n3_; have HB := n4_; clear n0_ n1_ n2_ n3_ n4_; clear hb ho48; obtain ⟨Ao49, co49, eo49⟩ := Kd.R_slice HO202.out; subst eo49) | ((with_reducible refine gate_callee (f := 6) rfl ?_); refine goesL_ (some 71) rfl rfl Try.func6 (by kernel_rfl) rfl #[.agg #[.int .i64 a0_0, .int .i64 a0_1, .int .i64 a0_2, .slice (some ad196) l0_3.length c0_3], .slice Ao49 y200.length co49] rfl (by (try simp only [List.map_toArray, List.map_cons, List.map_nil]); first | done | rfl | (simp only [List.length_drop, List.length_take]; rfl)) ?_; (with_reducible refine (sched_Times.calls kj3 a0_0 a0_1 a0_2 _ _ l0_3 _ _ y200 t203 t206 t207 _ ?side1 ?side2 ?side3 ?side4 A33.out).mono ?_); (case side1 => repeat (first | exact (Kd.C_below HR0_3.out HB.out) | (with_reducible refine Kd.C_alloc ?_ _) | (with_reducible refine Kd.C_drewN ?_ _) | (with_reducible refine Kd.C_drew ?_))); (case side2 => exact HC0_3.out); (case side3 => repeat (first | exact (Kd.R_reads' HO202.out).2.2 | (with_reducible refine Kd.C_alloc ?_ _) | (with_reducible refine Kd.C_drewN ?_ _) | (with_reducible refine Kd.C_drew ?_))); (case side4 => exact (Kd.R_reads' HO202.out).2.1); rintro e w50 ⟨v204, rfl, ho0, hb⟩; refine ⟨_, rfl, ?_⟩; have n0_ := zqi (Kd.R_below (by (with_reducible repeat (first | apply Kd.R_alloc | apply Kd.R_drewN | apply Kd.R_drew)); exact HO202.out) hb); have n1_ := zqi (Kd.R_lower ho0 (below_size (zqn HB.out))); have n2_ := zqi (zqy BK193.out hb); have n3_ := zqi (zqy BK197.out hb); have n4_ := zqi (zqy BK199.out hb); have n5_ := zqi (below_step (zqn HB.out) hb); clear HO202; clear BK193; clear BK197; clear BK199; clear HB; have HO202 := n0_; have HO205 := n1_; have BK193 := n2_; have BK197 := n3_; have BK199 := n4_; have HB := n5_; clear n0_ n1_ n2_ n3_ n4_ n5_; (try clear hb); (try clear hb2); (try clear hk); (try clear hi); (try clear ho0)))
         have n0_ := zqi (Kd.R_drew HO202.out)
         have n1_ := zqi (Kd.R_drew HO205.out)
         have n2_ := zqi (zqb BK193.out)
         have n3_ := zqi (zqb BK197.out)
         have n4_ := zqi (zqb BK199.out)
         have n5_ := zqi (zqh HB.out)
         clear HO202
         clear HO205
         clear BK193
         clear BK197
         clear BK199
         clear HB
         have HO202 := n0_
         have HO205 := n1_
         have BK193 := n2_
         have BK197 := n3_
         have BK199 := n4_
         have HB := n5_
         clear n0_ n1_ n2_ n3_ n4_ n5_
         have p208 : 0 ≤ (0 : Int) := (by omega)
         have q208 : 0 < (l0_3.length : Int) := of_decide_eq_true (by first | (with_reducible assumption) | assumption)
         obtain ⟨ad208, e208, hx208_0, hx208_1, hx208_2, hx208_3, hx208_4, hx208_5⟩ := at_T28 HR0_3.out 0 p208 q208
         have hw208_5 := hx208_5
         (try rw [show ((0 : Int)).toNat = 0 from rfl] at hw208_5)
         (try rw [show 0 * 6 = 0 from rfl] at hw208_5)
         (try rw [Addr.add_zero'] at hw208_5)
         have hw208_4 := hx208_4
         (try rw [show ((0 : Int)).toNat = 0 from rfl] at hw208_4)
         (try rw [show 0 * 6 = 0 from rfl] at hw208_4)
         (try rw [Addr.add_zero'] at hw208_4)
         have hw208_3 := hx208_3
         (try rw [show ((0 : Int)).toNat = 0 from rfl] at hw208_3)
         (try rw [show 0 * 6 = 0 from rfl] at hw208_3)
         (try rw [Addr.add_zero'] at hw208_3)
         have hw208_2 := hx208_2
         (try rw [show ((0 : Int)).toNat = 0 from rfl] at hw208_2)
         (try rw [show 0 * 6 = 0 from rfl] at hw208_2)
         (try rw [Addr.add_zero'] at hw208_2)
         have hw208_1 := hx208_1
         (try rw [show ((0 : Int)).toNat = 0 from rfl] at hw208_1)
         (try rw [show 0 * 6 = 0 from rfl] at hw208_1)
         (try rw [Addr.add_zero'] at hw208_1)
         have hw208_0 := hx208_0
         (try rw [show ((0 : Int)).toNat = 0 from rfl] at hw208_0)
         (try rw [show 0 * 6 = 0 from rfl] at hw208_0)
         (try rw [Addr.add_zero'] at hw208_0)
         obtain rfl : ad196 = ad208 := (by injection e208)
         have qi208 : (0 < l0_3.length) = True := eq_true (by omega)
         (try rw [show ((0 : Int)).toNat = 0 from rfl] at hx208_0)
         (try rw [show 0 * 6 = 0 from rfl] at hx208_0)
         (try rw [Addr.add_zero'] at hx208_0)
         (try rw [show ((0 : Int)).toNat = 0 from rfl] at hx208_1)
         (try rw [show 0 * 6 = 0 from rfl] at hx208_1)
         (try rw [Addr.add_zero'] at hx208_1)
         (try rw [show ((0 : Int)).toNat = 0 from rfl] at hx208_2)
         (try rw [show 0 * 6 = 0 from rfl] at hx208_2)
         (try rw [Addr.add_zero'] at hx208_2)
         (try rw [show ((0 : Int)).toNat = 0 from rfl] at hx208_3)
         (try rw [show 0 * 6 = 0 from rfl] at hx208_3)
         (try rw [Addr.add_zero'] at hx208_3)
         (try rw [show ((0 : Int)).toNat = 0 from rfl] at hx208_4)
         (try rw [show 0 * 6 = 0 from rfl] at hx208_4)
         (try rw [Addr.add_zero'] at hx208_4)
         (try rw [show ((0 : Int)).toNat = 0 from rfl] at hx208_5)
         (try rw [show 0 * 6 = 0 from rfl] at hx208_5)
         (try rw [Addr.add_zero'] at hx208_5)
         replace hx208_0 := (HB.out.cell (World.block_lt_of_cell? w _ hx208_0)).trans hx208_0
         replace hx208_1 := (HB.out.cell (World.block_lt_of_cell? w _ hx208_1)).trans hx208_1
         replace hx208_2 := (HB.out.cell (World.block_lt_of_cell? w _ hx208_2)).trans hx208_2
         replace hx208_3 := (HB.out.cell (World.block_lt_of_cell? w _ hx208_3)).trans hx208_3
         replace hx208_4 := (HB.out.cell (World.block_lt_of_cell? w _ hx208_4)).trans hx208_4
         replace hx208_5 := (HB.out.cell (World.block_lt_of_cell? w _ hx208_5)).trans hx208_5
         replace p208 := eq_true p208
         replace q208 := eq_true q208
         have p209 : 0 ≤ (0 : Int) := (by omega)
         have q209 : 0 < (l0_3.length : Int) := of_decide_eq_true (by first | (with_reducible assumption) | assumption)
         obtain ⟨ad209, e209, hx209_0, hx209_1, hx209_2, hx209_3, hx209_4, hx209_5⟩ := at_T28 HR0_3.out 0 p209 q209
         have hw209_5 := hx209_5
         (try rw [show ((0 : Int)).toNat = 0 from rfl] at hw209_5)
         (try rw [show 0 * 6 = 0 from rfl] at hw209_5)
         (try rw [Addr.add_zero'] at hw209_5)
         have hw209_4 := hx209_4
         (try rw [show ((0 : Int)).toNat = 0 from rfl] at hw209_4)
         (try rw [show 0 * 6 = 0 from rfl] at hw209_4)
         (try rw [Addr.add_zero'] at hw209_4)
         have hw209_3 := hx209_3
         (try rw [show ((0 : Int)).toNat = 0 from rfl] at hw209_3)
         (try rw [show 0 * 6 = 0 from rfl] at hw209_3)
         (try rw [Addr.add_zero'] at hw209_3)
         have hw209_2 := hx209_2
         (try rw [show ((0 : Int)).toNat = 0 from rfl] at hw209_2)
         (try rw [show 0 * 6 = 0 from rfl] at hw209_2)
         (try rw [Addr.add_zero'] at hw209_2)
         have hw209_1 := hx209_1
         (try rw [show ((0 : Int)).toNat = 0 from rfl] at hw209_1)
         (try rw [show 0 * 6 = 0 from rfl] at hw209_1)
         (try rw [Addr.add_zero'] at hw209_1)
         have hw209_0 := hx209_0
         (try rw [show ((0 : Int)).toNat = 0 from rfl] at hw209_0)
         (try rw [show 0 * 6 = 0 from rfl] at hw209_0)
         (try rw [Addr.add_zero'] at hw209_0)
         obtain rfl : ad196 = ad209 := (by injection e209)
         have qi209 : (0 < l0_3.length) = True := eq_true (by omega)
         (try rw [show ((0 : Int)).toNat = 0 from rfl] at hx209_0)
         (try rw [show 0 * 6 = 0 from rfl] at hx209_0)
         (try rw [Addr.add_zero'] at hx209_0)
         (try rw [show ((0 : Int)).toNat = 0 from rfl] at hx209_1)
         (try rw [show 0 * 6 = 0 from rfl] at hx209_1)
         (try rw [Addr.add_zero'] at hx209_1)
         (try rw [show ((0 : Int)).toNat = 0 from rfl] at hx209_2)
         (try rw [show 0 * 6 = 0 from rfl] at hx209_2)
         (try rw [Addr.add_zero'] at hx209_2)
         (try rw [show ((0 : Int)).toNat = 0 from rfl] at hx209_3)
         (try rw [show 0 * 6 = 0 from rfl] at hx209_3)
         (try rw [Addr.add_zero'] at hx209_3)
         (try rw [show ((0 : Int)).toNat = 0 from rfl] at hx209_4)
         (try rw [show 0 * 6 = 0 from rfl] at hx209_4)
         (try rw [Addr.add_zero'] at hx209_4)
         (try rw [show ((0 : Int)).toNat = 0 from rfl] at hx209_5)
         (try rw [show 0 * 6 = 0 from rfl] at hx209_5)
         (try rw [Addr.add_zero'] at hx209_5)
         replace hx209_0 := (HB.out.cell (World.block_lt_of_cell? w _ hx209_0)).trans hx209_0
         replace hx209_1 := (HB.out.cell (World.block_lt_of_cell? w _ hx209_1)).trans hx209_1
         replace hx209_2 := (HB.out.cell (World.block_lt_of_cell? w _ hx209_2)).trans hx209_2
         replace hx209_3 := (HB.out.cell (World.block_lt_of_cell? w _ hx209_3)).trans hx209_3
         replace hx209_4 := (HB.out.cell (World.block_lt_of_cell? w _ hx209_4)).trans hx209_4
         replace hx209_5 := (HB.out.cell (World.block_lt_of_cell? w _ hx209_5)).trans hx209_5
         replace p209 := eq_true p209
         replace q209 := eq_true q209
         refine start_ (n := 13) (S := fun w' => w'.cell? ⟨gb193, 0, none⟩ = some (.int .i64 a0_0) ∧ w'.cell? ⟨gb193, 1, none⟩ = some (.int .i64 a0_1) ∧ w'.cell? ⟨gb193, 2, none⟩ = some (.int .i64 a0_2) ∧ w'.cell? ⟨gb193, 3, none⟩ = some (.slice (some ad196) l0_3.length c0_3) ∧ w'.cell? ⟨gb197, 0, none⟩ = some (.int .i64 ((rd_T28 l0_3 a1).f0)) ∧ w'.cell? ⟨gb197, 1, none⟩ = some (.int .i64 ((rd_T28 l0_3 a1).f1)) ∧ w'.cell? ⟨gb197, 2, none⟩ = some (.int .i64 ((rd_T28 l0_3 a1).f2)) ∧ w'.cell? ⟨gb197, 3, none⟩ = some (.int .i64 ((rd_T28 l0_3 a1).f3)) ∧ w'.cell? ⟨gb197, 4, none⟩ = some (.int .i64 ((rd_T28 l0_3 a1).f4)) ∧ w'.cell? ⟨gb197, 5, none⟩ = some (.int .i64 ((rd_T28 l0_3 a1).f5)) ∧ w'.cell? ad196 = some (.int .i64 ((rd_T28 l0_3 0).f0)) ∧ w'.cell? ⟨ad196.block, ad196.off + 1, none⟩ = some (.int .i64 ((rd_T28 l0_3 0).f1)) ∧ w'.cell? ⟨ad196.block, ad196.off + 2, none⟩ = some (.int .i64 ((rd_T28 l0_3 0).f2)) ∧ w'.cell? ⟨ad196.block, ad196.off + 3, none⟩ = some (.int .i64 ((rd_T28 l0_3 0).f3)) ∧ w'.cell? ⟨ad196.block, ad196.off + 4, none⟩ = some (.int .i64 ((rd_T28 l0_3 0).f4)) ∧ w'.cell? ⟨ad196.block, ad196.off + 5, none⟩ = some (.int .i64 ((rd_T28 l0_3 0).f5)) ∧ w'.cell? ad196 = some (.int .i64 ((rd_T28 l0_3 0).f0)) ∧ w'.cell? ⟨ad196.block, ad196.off + 1, none⟩ = some (.int .i64 ((rd_T28 l0_3 0).f1)) ∧ w'.cell? ⟨ad196.block, ad196.off + 2, none⟩ = some (.int .i64 ((rd_T28 l0_3 0).f2)) ∧ w'.cell? ⟨ad196.block, ad196.off + 3, none⟩ = some (.int .i64 ((rd_T28 l0_3 0).f3)) ∧ w'.cell? ⟨ad196.block, ad196.off + 4, none⟩ = some (.int .i64 ((rd_T28 l0_3 0).f4)) ∧ w'.cell? ⟨ad196.block, ad196.off + 5, none⟩ = some (.int .i64 ((rd_T28 l0_3 0).f5))) (ds := []) (zqB 13 0) (by kernel_rfl) rfl rfl ⟨(zqe BK193.out 0).trans rfl, (zqe BK193.out 1).trans rfl, (zqe BK193.out 2).trans rfl, (zqe BK193.out 3).trans rfl, (zqe BK197.out 0).trans rfl, (zqe BK197.out 1).trans rfl, (zqe BK197.out 2).trans rfl, (zqe BK197.out 3).trans rfl, (zqe BK197.out 4).trans rfl, (zqe BK197.out 5).trans rfl, ((HB.out.cell (World.block_lt_of_cell? w _ hw208_0)).trans hw208_0), ((HB.out.cell (World.block_lt_of_cell? w _ hw208_1)).trans hw208_1), ((HB.out.cell (World.block_lt_of_cell? w _ hw208_2)).trans hw208_2), ((HB.out.cell (World.block_lt_of_cell? w _ hw208_3)).trans hw208_3), ((HB.out.cell (World.block_lt_of_cell? w _ hw208_4)).trans hw208_4), ((HB.out.cell (World.block_lt_of_cell? w _ hw208_5)).trans hw208_5), ((HB.out.cell (World.block_lt_of_cell? w _ hw209_0)).trans hw209_0), ((HB.out.cell (World.block_lt_of_cell? w _ hw209_1)).trans hw209_1), ((HB.out.cell (World.block_lt_of_cell? w _ hw209_2)).trans hw209_2), ((HB.out.cell (World.block_lt_of_cell? w _ hw209_3)).trans hw209_3), ((HB.out.cell (World.block_lt_of_cell? w _ hw209_4)).trans hw209_4), ((HB.out.cell (World.block_lt_of_cell? w _ hw209_5)).trans hw209_5)⟩ (fun hHeld => ?_); refine with_tabW haulierlaw07_SchedOne.tab7 haulierlaw07_SchedOne.bits7 (fun HT_ HW_ => ?_)
         generalize w50.drew = w51 at HO202 HO205 BK193 BK197 BK199 HB hx208_0 hx208_1 hx208_2 hx208_3 hx208_4 hx208_5 hx209_0 hx209_1 hx209_2 hx209_3 hx209_4 hx209_5 hHeld ⊢
         refine zqp 0 (some 75) (zqB 13 1) (any_of HT_.out (by kernel_rfl)) (h := ?_)
         refine zqp 5 (some 80) (zqB 13 33) (any_of HT_.out (by kernel_rfl)) (h := ?_)
         refine zqt 1 (some 76) (zqB 13 35) (take_ofW HT_.out HW_.out (by kernel_rfl)) hHeld (h := ?_)
         refine zqp 2 (some 77) (zqB 13 39) (any_of HT_.out (by kernel_rfl)) (h := ?_)
         refine zqp 3 (some 78) (zqB 13 47) (any_of HT_.out (by kernel_rfl)) (h := ?_)
         refine zqt 4 (some 79) (zqB 13 63) (take_ofW HT_.out HW_.out (by kernel_rfl)) hHeld (h := ?_)
         refine zqt 6 (some 81) (zqB 13 127) (take_ofW HT_.out HW_.out (by kernel_rfl)) hHeld (h := ?_)
         refine zqp 7 (some 82) (zqB 13 255) (any_of HT_.out (by kernel_rfl)) (h := ?_)
         refine zqt 8 (some 83) (zqB 13 511) (take_ofW HT_.out HW_.out (by kernel_rfl)) hHeld (h := ?_)
         refine zqt 9 (some 84) (zqB 13 1023) (take_ofW HT_.out HW_.out (by kernel_rfl)) hHeld (h := ?_)
         refine one_ (i := 10) (N := some 85) (zqB 13 2047) rfl rfl (one_of HT_.out (by kernel_rfl)) (by decide) (fun K hK => ?_)
         refine goes_ Try.func7 (by kernel_rfl) rfl #[.agg #[.int .i64 ((rd_T28 l0_3 0).f0), .int .i64 ((rd_T28 l0_3 0).f1), .int .i64 ((rd_T28 l0_3 0).f2), .int .i64 ((rd_T28 l0_3 0).f3), .int .i64 ((rd_T28 l0_3 0).f4), .int .i64 ((rd_T28 l0_3 0).f5)], .agg #[.int .i64 ((rd_T28 l0_3 a1).f0), .int .i64 ((rd_T28 l0_3 a1).f1), .int .i64 ((rd_T28 l0_3 a1).f2), .int .i64 ((rd_T28 l0_3 a1).f3), .int .i64 ((rd_T28 l0_3 a1).f4), .int .i64 ((rd_T28 l0_3 a1).f5)]] (by rfl) rfl rfl (by (try simp only [List.map_toArray, List.map_cons, List.map_nil]); first | done | rfl | (simp only [List.length_drop, List.length_take]; rfl)) ?_
         with_reducible refine (plane_Far.calls ((rd_T28 l0_3 0).f0) ((rd_T28 l0_3 0).f1) ((rd_T28 l0_3 0).f2) ((rd_T28 l0_3 0).f3) ((rd_T28 l0_3 0).f4) ((rd_T28 l0_3 0).f5) ((rd_T28 l0_3 a1).f0) ((rd_T28 l0_3 a1).f1) ((rd_T28 l0_3 a1).f2) ((rd_T28 l0_3 a1).f3) ((rd_T28 l0_3 a1).f4) ((rd_T28 l0_3 a1).f5) t210 _ A35.out).mono ?_
         rintro e w52 ⟨rfl, hb⟩
         refine ⟨_, rfl, ?_⟩
         have n0_ := zqi (Kd.R_below (by (with_reducible repeat (first | apply Kd.R_alloc | apply Kd.R_drewN | apply Kd.R_drew)); exact HO202.out) hb)
         have n1_ := zqi (Kd.R_below (by (with_reducible repeat (first | apply Kd.R_alloc | apply Kd.R_drewN | apply Kd.R_drew)); exact HO205.out) hb)
         have n2_ := zqi (zqy BK193.out hb)
         have n3_ := zqi (zqy BK197.out hb)
         have n4_ := zqi (zqy BK199.out hb)
         have n5_ := zqi (below_step (zqn HB.out) hb)
         clear HO202
         clear HO205
         clear BK193
         clear BK197
         clear BK199
         clear HB
         have HO202 := n0_
         have HO205 := n1_
         have BK193 := n2_
         have BK197 := n3_
         have BK199 := n4_
         have HB := n5_
         clear n0_ n1_ n2_ n3_ n4_ n5_
         (try clear hb)
         (try clear hb2)
         (try clear hk)
         (try clear hi)
         refine hK.out _ _ ⟨(zqe BK193.out 0).trans rfl, (zqe BK193.out 1).trans rfl, (zqe BK193.out 2).trans rfl, (zqe BK193.out 3).trans rfl, (zqe BK197.out 0).trans rfl, (zqe BK197.out 1).trans rfl, (zqe BK197.out 2).trans rfl, (zqe BK197.out 3).trans rfl, (zqe BK197.out 4).trans rfl, (zqe BK197.out 5).trans rfl, ((HB.out.cell (World.block_lt_of_cell? w _ hw208_0)).trans hw208_0), ((HB.out.cell (World.block_lt_of_cell? w _ hw208_1)).trans hw208_1), ((HB.out.cell (World.block_lt_of_cell? w _ hw208_2)).trans hw208_2), ((HB.out.cell (World.block_lt_of_cell? w _ hw208_3)).trans hw208_3), ((HB.out.cell (World.block_lt_of_cell? w _ hw208_4)).trans hw208_4), ((HB.out.cell (World.block_lt_of_cell? w _ hw208_5)).trans hw208_5), ((HB.out.cell (World.block_lt_of_cell? w _ hw209_0)).trans hw209_0), ((HB.out.cell (World.block_lt_of_cell? w _ hw209_1)).trans hw209_1), ((HB.out.cell (World.block_lt_of_cell? w _ hw209_2)).trans hw209_2), ((HB.out.cell (World.block_lt_of_cell? w _ hw209_3)).trans hw209_3), ((HB.out.cell (World.block_lt_of_cell? w _ hw209_4)).trans hw209_4), ((HB.out.cell (World.block_lt_of_cell? w _ hw209_5)).trans hw209_5)⟩ (fun hHeld => ?_)
         clear hK K
         refine norm_ (a' := ?_) ?_ ?_
         rotate_left
         ·
          show Act.put _ (some 85) _ = _
          simp only [Act.put, List.setIfInBounds_toArray, List.set_cons_zero, List.set_cons_succ, i64_w, i32_w]
          rfl
         refine zqp 11 (some 86) (zqB 13 4095) (any_of HT_.out (by kernel_rfl)) (h := ?_)
         refine zqp 12 (some 11) (zqB 13 8191) (any_of HT_.out (by kernel_rfl)) (h := ?_)
         refine done_ (done_of HT_.out (by kernel_rfl)) ?_
         obtain ⟨hcz53_0, hcz53_1, hcz53_2, hcz53_3, hcz53_4, hcz53_5, hfz53_0, hfz53_1, hfz53_2, hfz53_3, hfz53_4, hfz53_5⟩ := zqz6 BK197.out
         go_upto_if 90 with (fail)
         go_cut [11] (fun v11 wc => ∃ (kq : Nat) (x11_35 : Int), v11 = .int .i64 x11_35 ∧ Aside0 (haulierlaw07_SchedOne.j1 kq t203 t206 t207 x11_35 a0_0 a0_1 a0_2 l0_3 ((rd_T28 l0_3 a1).f0) ((rd_T28 l0_3 a1).f1) ((rd_T28 l0_3 a1).f2) ((rd_T28 l0_3 a1).f3) ((rd_T28 l0_3 a1).f4) ((rd_T28 l0_3 a1).f5) ((rd_T28 l0_3 (ji30)).f0) ((rd_T28 l0_3 (ji30)).f1) ((rd_T28 l0_3 (ji30)).f2) ((rd_T28 l0_3 (ji30)).f3) ((rd_T28 l0_3 (ji30)).f4) ((rd_T28 l0_3 (ji30)).f5) = some r) ∧ Aside0 (kq ≤ kj3) ∧ Aside0 (Kd.R k36 36 wc w.heap.size (fun _ => True) v204 t203) ∧ Aside0 (wc.heap[gb193]? = some (.cells #[.int .i64 a0_0, .int .i64 a0_1, .int .i64 a0_2, (.slice (some ad196) l0_3.length c0_3)] 24 (0, 0))) ∧ Aside0 (wc.heap[gb197]? = some (.cells #[.int .i64 ((rd_T28 l0_3 a1).f0), .int .i64 ((rd_T28 l0_3 a1).f1), .int .i64 ((rd_T28 l0_3 a1).f2), .int .i64 ((rd_T28 l0_3 a1).f3), .int .i64 ((rd_T28 l0_3 a1).f4), .int .i64 ((rd_T28 l0_3 a1).f5)] 28 (0, 0))) ∧ Aside0 (wc.heap[gb199]? = some (.cells #[.int .i64 ((rd_T28 l0_3 (ji30)).f0), .int .i64 ((rd_T28 l0_3 (ji30)).f1), .int .i64 ((rd_T28 l0_3 (ji30)).f2), .int .i64 ((rd_T28 l0_3 (ji30)).f3), .int .i64 ((rd_T28 l0_3 (ji30)).f4), .int .i64 ((rd_T28 l0_3 (ji30)).f5)] 28 (0, 0))) ∧ Aside0 (Below w.heap.size w wc))
         case first =>
          have H := HC36.out
          clear HC36
          by_cases c54 : (wrap64 (((rd_T28 l0_3 0).f3) + t210)) < ((rd_T28 l0_3 a1).f3)
          ·
           rw [if_pos c54] at H
           have c54b0 : decide ((wrap64 (((rd_T28 l0_3 0).f3) + t210)) < ((rd_T28 l0_3 a1).f3)) = true := decide_eq_true c54
           clear c54
           (first | rw [c54b0] | (simp only [i64_w, i32_w]; rw [c54b0]) | skip)
           have H' := zqi H
           clear H
           have hnb55 := NB197_193.out
           have hnc55 := NB193_197.out
           have hnb56 := NB197_199.out
           have hnc56 := NB199_197.out
           obtain ⟨hcz57_0, hcz57_1, hcz57_2, hcz57_3, hcz57_4, hcz57_5, hfz57_0, hfz57_1, hfz57_2, hfz57_3, hfz57_4, hfz57_5⟩ := zqz6 BK197.out
           go_wp2
           go_meet
           case rel => exact ⟨_, ((rd_T28 l0_3 a1).f3), (by first | rfl | (simp; done) | (simp [*]; done)), H', ⟨by have := HJ3.out; first | omega | exact Nat.le_refl _⟩, ⟨by (with_reducible repeat (first | apply Kd.R_alloc | apply Kd.R_drewN | apply Kd.R_drew)); exact HO205.out⟩, ⟨by (with_reducible repeat (first | apply zqa | apply zqb | apply zqc)); exact BK193.out⟩, ⟨by (with_reducible repeat (first | apply zqa | apply zqb | apply zqc)); exact BK197.out⟩, ⟨by (with_reducible repeat (first | apply zqa | apply zqb | apply zqc)); exact BK199.out⟩, ⟨by repeat (first | (with_reducible first | exact HB.out | apply zqg | apply zqf | apply zqh | refine below_set ?_ GE193.out | refine below_set ?_ GE197.out | refine below_set ?_ GE199.out) | exact HB.out)⟩⟩
          ·
           rw [if_neg c54] at H
           have c54b0 : decide ((wrap64 (((rd_T28 l0_3 0).f3) + t210)) < ((rd_T28 l0_3 a1).f3)) = false := decide_eq_false c54
           clear c54
           (first | rw [c54b0] | (simp only [i64_w, i32_w]; rw [c54b0]) | skip)
           have H' := zqi H
           clear H
           go_wp2
           go_meet
           case rel => exact ⟨_, (wrap64 (((rd_T28 l0_3 0).f3) + t210)), (by first | rfl | (simp; done) | (simp [*]; done)), H', ⟨by have := HJ3.out; first | omega | exact Nat.le_refl _⟩, ⟨by (with_reducible repeat (first | apply Kd.R_alloc | apply Kd.R_drewN | apply Kd.R_drew)); exact HO205.out⟩, ⟨by (with_reducible repeat (first | apply zqa | apply zqb | apply zqc)); exact BK193.out⟩, ⟨by (with_reducible repeat (first | apply zqa | apply zqb | apply zqc)); exact BK197.out⟩, ⟨by (with_reducible repeat (first | apply zqa | apply zqb | apply zqc)); exact BK199.out⟩, ⟨by repeat (first | (with_reducible first | exact HB.out | apply zqg | apply zqf | apply zqh | refine below_set ?_ GE193.out | refine below_set ?_ GE197.out | refine below_set ?_ GE199.out) | exact HB.out)⟩⟩
         case rest =>
          clear HC36
          try clear c1
          try clear p1
          try clear q1
          try clear hx1
          try clear c2
          try clear p2
          try clear q2
          try clear hx2
          try clear qi2
          try clear c3
          try clear c4
          try clear c5
          try clear c6
          try clear p6
          try clear c7
          try clear c9
          try clear c10
          try clear c10b0
          try clear c10b1
          try clear c14
          try clear c14b0
          try clear c18
          try clear c18b0
          try clear p19
          try clear q19
          try clear hx19
          try clear p20
          try clear q20
          try clear hx20
          try clear qi20
          try clear c27
          try clear c28
          try clear c28b0
          try clear c29
          try clear c29b0
          try clear c31
          try clear c31b0
          try clear c32
          try clear c32b0
          try clear c34
          try clear c34b0
          try clear c34b1
          try clear c39
          try clear c43
          try clear c44
          try clear c54
          try clear c54b0
          try clear c55
          try clear c56
          try clear hcz11_0
          try clear hcz11_1
          try clear hcz11_2
          try clear hcz11_3
          try clear hcz13_0
          try clear hcz13_1
          try clear hcz13_2
          try clear hcz13_3
          try clear hcz15_0
          try clear hcz15_1
          try clear hcz15_2
          try clear hcz15_3
          try clear hcz17_0
          try clear hcz17_1
          try clear hcz17_2
          try clear hcz17_3
          try clear hcz19_0
          try clear hcz19_1
          try clear hcz19_2
          try clear hcz19_3
          try clear hcz21_0
          try clear hcz21_1
          try clear hcz21_2
          try clear hcz21_3
          try clear hcz22_0
          try clear hcz22_1
          try clear hcz22_2
          try clear hcz22_3
          try clear hcz24_0
          try clear hcz24_1
          try clear hcz24_2
          try clear hcz24_3
          try clear hcz25_0
          try clear hcz25_1
          try clear hcz25_2
          try clear hcz25_3
          try clear hcz37_0
          try clear hcz37_1
          try clear hcz37_2
          try clear hcz37_3
          try clear hcz40_0
          try clear hcz40_1
          try clear hcz40_2
          try clear hcz40_3
          try clear hcz40_4
          try clear hcz40_5
          try clear hcz41_0
          try clear hcz41_1
          try clear hcz41_2
          try clear hcz41_3
          try clear hcz45_0
          try clear hcz45_1
          try clear hcz45_2
          try clear hcz45_3
          try clear hcz45_4
          try clear hcz45_5
          try clear hcz46_0
          try clear hcz46_1
          try clear hcz46_2
          try clear hcz46_3
          try clear hcz53_0
          try clear hcz53_1
          try clear hcz53_2
          try clear hcz53_3
          try clear hcz53_4
          try clear hcz53_5
          try clear hcz57_0
          try clear hcz57_1
          try clear hcz57_2
          try clear hcz57_3
          try clear hcz57_4
          try clear hcz57_5
          try clear hfz11_0
          try clear hfz11_1
          try clear hfz11_2
          try clear hfz11_3
          try clear hfz13_0
          try clear hfz13_1
          try clear hfz13_2
          try clear hfz13_3
          try clear hfz15_0
          try clear hfz15_1
          try clear hfz15_2
          try clear hfz15_3
          try clear hfz17_0
          try clear hfz17_1
          try clear hfz17_2
          try clear hfz17_3
          try clear hfz19_0
          try clear hfz19_1
          try clear hfz19_2
          try clear hfz19_3
          try clear hfz21_0
          try clear hfz21_1
          try clear hfz21_2
          try clear hfz21_3
          try clear hfz22_0
          try clear hfz22_1
          try clear hfz22_2
          try clear hfz22_3
          try clear hfz24_0
          try clear hfz24_1
          try clear hfz24_2
          try clear hfz24_3
          try clear hfz25_0
          try clear hfz25_1
          try clear hfz25_2
          try clear hfz25_3
          try clear hfz37_0
          try clear hfz37_1
          try clear hfz37_2
          try clear hfz37_3
          try clear hfz40_0
          try clear hfz40_1
          try clear hfz40_2
          try clear hfz40_3
          try clear hfz40_4
          try clear hfz40_5
          try clear hfz41_0
          try clear hfz41_1
          try clear hfz41_2
          try clear hfz41_3
          try clear hfz45_0
          try clear hfz45_1
          try clear hfz45_2
          try clear hfz45_3
          try clear hfz45_4
          try clear hfz45_5
          try clear hfz46_0
          try clear hfz46_1
          try clear hfz46_2
          try clear hfz46_3
          try clear hfz53_0
          try clear hfz53_1
          try clear hfz53_2
          try clear hfz53_3
          try clear hfz53_4
          try clear hfz53_5
          try clear hfz57_0
          try clear hfz57_1
          try clear hfz57_2
          try clear hfz57_3
          try clear hfz57_4
          try clear hfz57_5
          try clear hx196_0
          try clear hx196_1
          try clear hx196_2
          try clear hx196_3
          try clear hx196_4
          try clear hx196_5
          try clear hx198_0
          try clear hx198_1
          try clear hx198_2
          try clear hx198_3
          try clear hx198_4
          try clear hx198_5
          try clear hx208_0
          try clear hx208_1
          try clear hx208_2
          try clear hx208_3
          try clear hx208_4
          try clear hx208_5
          try clear hx209_0
          try clear hx209_1
          try clear hx209_2
          try clear hx209_3
          try clear hx209_4
          try clear hx209_5
          try clear p196
          try clear p198
          try clear p2
          try clear p208
          try clear p209
          try clear p6
          try clear q196
          try clear q198
          try clear q208
          try clear q209
          obtain ⟨kq, x11_35, rfl, HA, HJ35, HO_8, BK193, BK197, BK199, HB⟩ := hcut
          cases kq with
          | zero => exact absurd HA.out (by simp [haulierlaw07_SchedOne.j1])
          | succ kj35 =>
           have H := HA.out
           clear HA
           simp only [haulierlaw07_SchedOne.j1] at H
           replace H := Option.bind_eq_some_iff.mp H
           obtain ⟨t211, A580, H⟩ := H
           replace H : (if (wrap64 ((wrap64 (x11_35 + ((rd_T28 l0_3 a1).f5))) + t211)) < ((rd_T28 l0_3 (ji30)).f3) then (haulierlaw07_SchedOne.j2 kj35 t203 t206 t207 x11_35 ((rd_T28 l0_3 (ji30)).f3) a0_0 a0_1 a0_2 l0_3 ((rd_T28 l0_3 a1).f0) ((rd_T28 l0_3 a1).f1) ((rd_T28 l0_3 a1).f2) ((rd_T28 l0_3 a1).f3) ((rd_T28 l0_3 a1).f4) ((rd_T28 l0_3 a1).f5) ((rd_T28 l0_3 (ji30)).f0) ((rd_T28 l0_3 (ji30)).f1) ((rd_T28 l0_3 (ji30)).f2) ((rd_T28 l0_3 (ji30)).f3) ((rd_T28 l0_3 (ji30)).f4) ((rd_T28 l0_3 (ji30)).f5)) else (haulierlaw07_SchedOne.j2 kj35 t203 t206 t207 x11_35 (wrap64 ((wrap64 (x11_35 + ((rd_T28 l0_3 a1).f5))) + t211)) a0_0 a0_1 a0_2 l0_3 ((rd_T28 l0_3 a1).f0) ((rd_T28 l0_3 a1).f1) ((rd_T28 l0_3 a1).f2) ((rd_T28 l0_3 a1).f3) ((rd_T28 l0_3 a1).f4) ((rd_T28 l0_3 a1).f5) ((rd_T28 l0_3 (ji30)).f0) ((rd_T28 l0_3 (ji30)).f1) ((rd_T28 l0_3 (ji30)).f2) ((rd_T28 l0_3 (ji30)).f3) ((rd_T28 l0_3 (ji30)).f4) ((rd_T28 l0_3 (ji30)).f5))) = some r := H
           have A58 := zqi A580
           clear A580
           have HC59 := zqi H
           clear H
           try go_wp2
           have n0_ := zqi (Kd.R_drew HO_8.out)
           have n1_ := zqi (zqb BK193.out)
           have n2_ := zqi (zqb BK197.out)
           have n3_ := zqi (zqb BK199.out)
           have n4_ := zqi (zqh HB.out)
           clear HO_8
           clear BK193
           clear BK197
           clear BK199
           clear HB
           have HO_8 := n0_
           have BK193 := n1_
           have BK197 := n2_
           have BK199 := n3_
           have HB := n4_
           clear n0_ n1_ n2_ n3_ n4_
           refine start_ (n := 9) (S := fun w' => w'.cell? ⟨gb197, 0, none⟩ = some (.int .i64 ((rd_T28 l0_3 a1).f0)) ∧ w'.cell? ⟨gb197, 1, none⟩ = some (.int .i64 ((rd_T28 l0_3 a1).f1)) ∧ w'.cell? ⟨gb197, 2, none⟩ = some (.int .i64 ((rd_T28 l0_3 a1).f2)) ∧ w'.cell? ⟨gb197, 3, none⟩ = some (.int .i64 ((rd_T28 l0_3 a1).f3)) ∧ w'.cell? ⟨gb197, 4, none⟩ = some (.int .i64 ((rd_T28 l0_3 a1).f4)) ∧ w'.cell? ⟨gb197, 5, none⟩ = some (.int .i64 ((rd_T28 l0_3 a1).f5)) ∧ w'.cell? ⟨gb199, 0, none⟩ = some (.int .i64 ((rd_T28 l0_3 (ji30)).f0)) ∧ w'.cell? ⟨gb199, 1, none⟩ = some (.int .i64 ((rd_T28 l0_3 (ji30)).f1)) ∧ w'.cell? ⟨gb199, 2, none⟩ = some (.int .i64 ((rd_T28 l0_3 (ji30)).f2)) ∧ w'.cell? ⟨gb199, 3, none⟩ = some (.int .i64 ((rd_T28 l0_3 (ji30)).f3)) ∧ w'.cell? ⟨gb199, 4, none⟩ = some (.int .i64 ((rd_T28 l0_3 (ji30)).f4)) ∧ w'.cell? ⟨gb199, 5, none⟩ = some (.int .i64 ((rd_T28 l0_3 (ji30)).f5))) (ds := []) (zqB 9 0) (by kernel_rfl) rfl rfl ⟨(zqe BK197.out 0).trans rfl, (zqe BK197.out 1).trans rfl, (zqe BK197.out 2).trans rfl, (zqe BK197.out 3).trans rfl, (zqe BK197.out 4).trans rfl, (zqe BK197.out 5).trans rfl, (zqe BK199.out 0).trans rfl, (zqe BK199.out 1).trans rfl, (zqe BK199.out 2).trans rfl, (zqe BK199.out 3).trans rfl, (zqe BK199.out 4).trans rfl, (zqe BK199.out 5).trans rfl⟩ (fun hHeld => ?_); refine with_tabW haulierlaw07_SchedOne.tab10 haulierlaw07_SchedOne.bits10 (fun HT_ HW_ => ?_)
           generalize wc.drew = w60 at HO_8 BK193 BK197 BK199 HB hHeld ⊢
           refine zqp 0 (some 93) (zqB 9 1) (any_of HT_.out (by kernel_rfl)) (h := ?_)
           refine zqp 1 (some 94) (zqB 9 3) (any_of HT_.out (by kernel_rfl)) (h := ?_)
           refine zqt 2 (some 95) (zqB 9 7) (take_ofW HT_.out HW_.out (by kernel_rfl)) hHeld (h := ?_)
           refine zqp 3 (some 96) (zqB 9 15) (any_of HT_.out (by kernel_rfl)) (h := ?_)
           refine zqt 4 (some 97) (zqB 9 31) (take_ofW HT_.out HW_.out (by kernel_rfl)) hHeld (h := ?_)
           refine zqt 5 (some 98) (zqB 9 63) (take_ofW HT_.out HW_.out (by kernel_rfl)) hHeld (h := ?_)
           refine one_ (i := 6) (N := some 99) (zqB 9 127) rfl rfl (one_of HT_.out (by kernel_rfl)) (by decide) (fun K hK => ?_)
           refine goes_ Try.func7 (by kernel_rfl) rfl #[.agg #[.int .i64 ((rd_T28 l0_3 a1).f0), .int .i64 ((rd_T28 l0_3 a1).f1), .int .i64 ((rd_T28 l0_3 a1).f2), .int .i64 ((rd_T28 l0_3 a1).f3), .int .i64 ((rd_T28 l0_3 a1).f4), .int .i64 ((rd_T28 l0_3 a1).f5)], .agg #[.int .i64 ((rd_T28 l0_3 (ji30)).f0), .int .i64 ((rd_T28 l0_3 (ji30)).f1), .int .i64 ((rd_T28 l0_3 (ji30)).f2), .int .i64 ((rd_T28 l0_3 (ji30)).f3), .int .i64 ((rd_T28 l0_3 (ji30)).f4), .int .i64 ((rd_T28 l0_3 (ji30)).f5)]] (by rfl) rfl rfl (by (try simp only [List.map_toArray, List.map_cons, List.map_nil]); first | done | (simp only [hji30]; rfl) | rfl | (simp only [List.length_drop, List.length_take]; rfl)) ?_
           with_reducible refine (plane_Far.calls ((rd_T28 l0_3 a1).f0) ((rd_T28 l0_3 a1).f1) ((rd_T28 l0_3 a1).f2) ((rd_T28 l0_3 a1).f3) ((rd_T28 l0_3 a1).f4) ((rd_T28 l0_3 a1).f5) ((rd_T28 l0_3 (ji30)).f0) ((rd_T28 l0_3 (ji30)).f1) ((rd_T28 l0_3 (ji30)).f2) ((rd_T28 l0_3 (ji30)).f3) ((rd_T28 l0_3 (ji30)).f4) ((rd_T28 l0_3 (ji30)).f5) t211 _ A58.out).mono ?_
           rintro e w61 ⟨rfl, hb⟩
           refine ⟨_, rfl, ?_⟩
           have n0_ := zqi (Kd.R_below (by (with_reducible repeat (first | apply Kd.R_alloc | apply Kd.R_drewN | apply Kd.R_drew)); exact HO_8.out) hb)
           have n1_ := zqi (zqy BK193.out hb)
           have n2_ := zqi (zqy BK197.out hb)
           have n3_ := zqi (zqy BK199.out hb)
           have n4_ := zqi (below_step (zqn HB.out) hb)
           clear HO_8
           clear BK193
           clear BK197
           clear BK199
           clear HB
           have HO_8 := n0_
           have BK193 := n1_
           have BK197 := n2_
           have BK199 := n3_
           have HB := n4_
           clear n0_ n1_ n2_ n3_ n4_
           (try clear hb)
           (try clear hb2)
           (try clear hk)
           (try clear hi)
           refine hK.out _ _ ⟨(zqe BK197.out 0).trans rfl, (zqe BK197.out 1).trans rfl, (zqe BK197.out 2).trans rfl, (zqe BK197.out 3).trans rfl, (zqe BK197.out 4).trans rfl, (zqe BK197.out 5).trans rfl, (zqe BK199.out 0).trans rfl, (zqe BK199.out 1).trans rfl, (zqe BK199.out 2).trans rfl, (zqe BK199.out 3).trans rfl, (zqe BK199.out 4).trans rfl, (zqe BK199.out 5).trans rfl⟩ (fun hHeld => ?_)
           clear hK K
           refine norm_ (a' := ?_) ?_ ?_
           rotate_left
           ·
            show Act.put _ (some 99) _ = _
            simp only [Act.put, List.setIfInBounds_toArray, List.set_cons_zero, List.set_cons_succ, i64_w, i32_w]
            rfl
           refine zqp 7 (some 100) (zqB 9 255) (any_of HT_.out (by kernel_rfl)) (h := ?_)
           refine zqp 8 (some 12) (zqB 9 511) (any_of HT_.out (by kernel_rfl)) (h := ?_)
           refine done_ (done_of HT_.out (by kernel_rfl)) ?_
           have hnb62 := NB199_193.out
           have hnc62 := NB193_199.out
           have hnb63 := NB199_197.out
           have hnc63 := NB197_199.out
           obtain ⟨hcz64_0, hcz64_1, hcz64_2, hcz64_3, hcz64_4, hcz64_5, hfz64_0, hfz64_1, hfz64_2, hfz64_3, hfz64_4, hfz64_5⟩ := zqz6 BK199.out
           go_upto_if 104 with (fail)
           go_cut [12] (fun v12 wc => ∃ (kq : Nat) (x12_58 : Int), v12 = .int .i64 x12_58 ∧ Aside0 (haulierlaw07_SchedOne.j2 kq t203 t206 t207 x11_35 x12_58 a0_0 a0_1 a0_2 l0_3 ((rd_T28 l0_3 a1).f0) ((rd_T28 l0_3 a1).f1) ((rd_T28 l0_3 a1).f2) ((rd_T28 l0_3 a1).f3) ((rd_T28 l0_3 a1).f4) ((rd_T28 l0_3 a1).f5) ((rd_T28 l0_3 (ji30)).f0) ((rd_T28 l0_3 (ji30)).f1) ((rd_T28 l0_3 (ji30)).f2) ((rd_T28 l0_3 (ji30)).f3) ((rd_T28 l0_3 (ji30)).f4) ((rd_T28 l0_3 (ji30)).f5) = some r) ∧ Aside0 (kq ≤ kj35) ∧ Aside0 (Kd.R k36 36 wc w.heap.size (fun _ => True) v204 t203) ∧ Aside0 (wc.heap[gb193]? = some (.cells #[.int .i64 a0_0, .int .i64 a0_1, .int .i64 a0_2, (.slice (some ad196) l0_3.length c0_3)] 24 (0, 0))) ∧ Aside0 (wc.heap[gb197]? = some (.cells #[.int .i64 ((rd_T28 l0_3 a1).f0), .int .i64 ((rd_T28 l0_3 a1).f1), .int .i64 ((rd_T28 l0_3 a1).f2), .int .i64 ((rd_T28 l0_3 a1).f3), .int .i64 ((rd_T28 l0_3 a1).f4), .int .i64 ((rd_T28 l0_3 a1).f5)] 28 (0, 0))) ∧ Aside0 (wc.heap[gb199]? = some (.cells #[.int .i64 ((rd_T28 l0_3 (ji30)).f0), .int .i64 ((rd_T28 l0_3 (ji30)).f1), .int .i64 ((rd_T28 l0_3 (ji30)).f2), .int .i64 ((rd_T28 l0_3 (ji30)).f3), .int .i64 ((rd_T28 l0_3 (ji30)).f4), .int .i64 ((rd_T28 l0_3 (ji30)).f5)] 28 (0, 0))) ∧ Aside0 (Below w.heap.size w wc))
           case first =>
            have H := HC59.out
            clear HC59
            by_cases c65 : (wrap64 ((wrap64 (x11_35 + ((rd_T28 l0_3 a1).f5))) + t211)) < ((rd_T28 l0_3 (ji30)).f3)
            ·
             rw [if_pos c65] at H
             have c65b0 : decide ((wrap64 ((wrap64 (x11_35 + ((rd_T28 l0_3 a1).f5))) + t211)) < ((rd_T28 l0_3 (ji30)).f3)) = true := decide_eq_true c65
             clear c65
             (first | rw [c65b0] | (simp only [i64_w, i32_w]; rw [c65b0]) | skip)
             have H' := zqi H
             clear H
             have hnb66 := NB199_193.out
             have hnc66 := NB193_199.out
             have hnb67 := NB199_197.out
             have hnc67 := NB197_199.out
             obtain ⟨hcz68_0, hcz68_1, hcz68_2, hcz68_3, hcz68_4, hcz68_5, hfz68_0, hfz68_1, hfz68_2, hfz68_3, hfz68_4, hfz68_5⟩ := zqz6 BK199.out
             go_wp2
             go_meet
             case rel => exact ⟨_, (((rd_T28 l0_3 (ji30)).f3)), (by first | rfl | (simp; done) | (simp only [← hji30] <;> (first | rfl | simp)) | (simp [*]; done)), H', ⟨by have := HJ3.out; have := HJ35.out; first | omega | exact Nat.le_refl _⟩, ⟨by (with_reducible repeat (first | apply Kd.R_alloc | apply Kd.R_drewN | apply Kd.R_drew)); exact HO_8.out⟩, ⟨by (with_reducible repeat (first | apply zqa | apply zqb | apply zqc)); exact BK193.out⟩, ⟨by (with_reducible repeat (first | apply zqa | apply zqb | apply zqc)); exact BK197.out⟩, ⟨by (with_reducible repeat (first | apply zqa | apply zqb | apply zqc)); exact BK199.out⟩, ⟨by repeat (first | (with_reducible first | exact HB.out | apply zqg | apply zqf | apply zqh | refine below_set ?_ GE193.out | refine below_set ?_ GE197.out | refine below_set ?_ GE199.out) | exact HB.out)⟩⟩
            ·
             rw [if_neg c65] at H
             have c65b0 : decide ((wrap64 ((wrap64 (x11_35 + ((rd_T28 l0_3 a1).f5))) + t211)) < ((rd_T28 l0_3 (ji30)).f3)) = false := decide_eq_false c65
             clear c65
             (first | rw [c65b0] | (simp only [i64_w, i32_w]; rw [c65b0]) | skip)
             have H' := zqi H
             clear H
             go_wp2
             go_meet
             case rel => exact ⟨_, (wrap64 ((wrap64 (x11_35 + ((rd_T28 l0_3 a1).f5))) + t211)), (by first | rfl | (simp; done) | (simp [*]; done)), H', ⟨by have := HJ3.out; have := HJ35.out; first | omega | exact Nat.le_refl _⟩, ⟨by (with_reducible repeat (first | apply Kd.R_alloc | apply Kd.R_drewN | apply Kd.R_drew)); exact HO_8.out⟩, ⟨by (with_reducible repeat (first | apply zqa | apply zqb | apply zqc)); exact BK193.out⟩, ⟨by (with_reducible repeat (first | apply zqa | apply zqb | apply zqc)); exact BK197.out⟩, ⟨by (with_reducible repeat (first | apply zqa | apply zqb | apply zqc)); exact BK199.out⟩, ⟨by repeat (first | (with_reducible first | exact HB.out | apply zqg | apply zqf | apply zqh | refine below_set ?_ GE193.out | refine below_set ?_ GE197.out | refine below_set ?_ GE199.out) | exact HB.out)⟩⟩
           case rest =>
            refine at_K (by assumption) ?_
            exact haulierlaw07_SchedOne.part2 k a0_0 a0_1 a0_2 c0_3 l0_3 a1 r w HC0_3 t194 gb193 GW193 GE193 kj3 HJ3 ji30 hji30 hji30w t203 t206 t207 ad196 HR0_3 gb197 GW197 GE197 NB193_197 NB197_193 hnb39 hnc39 gb199 GW199 GE199 NB193_199 NB199_193 NB197_199 NB199_197 hnb43 hnc43 hnb44 hnc44 v204 hw208_5 hw208_4 hw208_3 hw208_2 hw208_1 hw208_0 hw209_5 hw209_4 hw209_3 hw209_2 hw209_1 hw209_0 x11_35 kj35 HJ35 _ _ _ _ _ _ _ _ _ _ _ _ _ _ _ _ _ _ _ _ _ _ _ _ _ _ _ _ _ _ _ _ _ _ _ _ _ _ _ _ _ _ _ _ _ _ _ _ _ _ _ _ _ _ _ _ _ _ _ _ _ _ _ _ _ _ _ _ _ _ _ _ _ _ _ _ _ _ _ _ _ _ _ _ _ _ _ _ _ _ _ _ _ _ _ _ _ _ _ _ _ _ _ _ _ _ _ _ _ _ _ _ _ _ _ _ _ _ _ _ _ _ _ _ _ _ _ _ _ _ _ _ _ _ _ _ _ _ _ _ _ _ _ _ _ _ _ _ _ _ _ _ _ _ _ _ _ _ _ _ _ _ _ _ _ _ _ _ _ _ _ _ _ _ _ _ _ _ _ _ _ _ _ hcut
        ·
         rw [if_neg c34] at H
         exact absurd H (by simp)
       ·
        rw [if_neg c32] at H
        exact absurd H (by simp)
      ·
       rw [if_neg c31] at H
       exact absurd H (by simp)
     ·
      rw [if_neg c29] at H
      exact absurd H (by simp)
    ·
     rw [if_neg c28] at H
     exact absurd H (by simp)

end Go.Proofs.Ytndfpbjpdoigfaa.PA
