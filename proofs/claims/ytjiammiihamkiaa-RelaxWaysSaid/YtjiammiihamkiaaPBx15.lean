-- Printed for this claim by wip/tools/xprint.py over the kit's print; the contracts marked BY HAND are this session's own.
import Derived.Test.YtjiammiihamkiaaPBx0
import Derived.Test.YtjiammiihamkiaaPBx6
import Derived.Test.YtjiammiihamkiaaPBx7
import Derived.Test.YtjiammiihamkiaaPBx11
import Derived.Test.YtjiammiihamkiaaPBx12
namespace Go.Proofs.Ytjiammiihamkiaa.PB
open Go.RowKit Go.Proofs.YtjiammiihamkiaaW.PrintWords Go.Proofs.YtjiammiihamkiaaW.PrintLast Go.Proofs.YtjiammiihamkiaaW.PrintMore
attribute [local go_sem] max2_int min2_int max_two min_two max_three min_three max_four min_four   -- for this text's walks alone
set_option linter.unusedVariables false
set_option linter.unusedSimpArgs false

/-! ### haulierlaw11_RelaxWays: function 6 -/
mutual
def haulierlaw11_RelaxWays.j0 : Nat → List Int → Bool → Bool → Int → Int → Int → List (S23) → Int → Int → Int → Int → Int → Int → Int → Int → Int → Int → Int → Int → Int → Int → Int → Int → Option (Bool)
  | 0, _, _, _, _, _, _, _, _, _, _, _, _, _, _, _, _, _, _, _, _, _, _, _ => none
  | k + 1, x3, x9, x62, x319000, x319001, x319002, x319003, x320000, x320001, x320002, x320003, x320004, x320005, x320006, x320007, x321000, x321001, x321002, x321003, x321004, x321005, x321006, x321007 => if x62 = true then (some x9) else (haulierlaw11_RelaxWays.l0 k x3 0 0 0 x319000 x319001 x319002 x319003 x320000 x320001 x320002 x320003 x320004 x320005 x320006 x320007 x321000 x321001 x321002 x321003 x321004 x321005 x321006 x321007)
def haulierlaw11_RelaxWays.l0 : Nat → List Int → Int → Int → Int → Int → Int → Int → List (S23) → Int → Int → Int → Int → Int → Int → Int → Int → Int → Int → Int → Int → Int → Int → Int → Int → Option (Bool)
  | 0, _, _, _, _, _, _, _, _, _, _, _, _, _, _, _, _, _, _, _, _, _, _, _, _ => none
  | k + 1, x3, x10, x11, x12, x319000, x319001, x319002, x319003, x320000, x320001, x320002, x320003, x320004, x320005, x320006, x320007, x321000, x321001, x321002, x321003, x321004, x321005, x321006, x321007 => if x12 < (x3.length : Int) then (if 0 ≤ x12 then ((state_Move.f k x319000 x319001 x319002 x319003 x321000 x321001 x321002 x321003 x321004 x321005 x321006 x321007 (rd x3 x12)).bind fun bt328 => ((state_Move.f k x319000 x319001 x319002 x319003 x320000 x320001 x320002 x320003 x320004 x320005 x320006 x320007 (rd x3 x12)).bind fun bt340 => (if bt328.2.2.2.2.2.2.2.2.2 = true then (if bt340.2.2.2.2.2.2.2.2.2 = true then (haulierlaw11_RelaxWays.l0 k x3 (wrap64 (x10 + bt328.2.2.2.2.2.2.2.2.1)) (wrap64 (x11 + bt340.2.2.2.2.2.2.2.2.1)) (wrap64 (x12 + 1)) x319000 x319001 x319002 x319003 bt340.1 bt340.2.1 bt340.2.2.1 bt340.2.2.2.1 bt340.2.2.2.2.1 bt340.2.2.2.2.2.1 bt340.2.2.2.2.2.2.1 bt340.2.2.2.2.2.2.2.1 bt328.1 bt328.2.1 bt328.2.2.1 bt328.2.2.2.1 bt328.2.2.2.2.1 bt328.2.2.2.2.2.1 bt328.2.2.2.2.2.2.1 bt328.2.2.2.2.2.2.2.1) else (none)) else (some true)))) else (none)) else ((state_End.f k x319000 x319001 x319002 x319003 x321000 x321001 x321002 x321003 x321004 x321005 x321006 x321007).bind fun bt323 => ((state_End.f k x319000 x319001 x319002 x319003 x320000 x320001 x320002 x320003 x320004 x320005 x320006 x320007).bind fun bt325 => (if x10 = x11 then (if bt323.2 = true then (if bt325.2 = true then (some (bt323.1 == bt325.1)) else (none)) else (some true)) else (none))))
end
def haulierlaw11_RelaxWays.f (k : Nat) (a0_0 : Int) (a0_1 : Int) (a0_2 : Int) (l0_3 : List (S23)) (a1_0 : Int) (a1_1 : Int) (a1_2 : Int) (a1_3 : Int) (a1_4 : Int) (a1_5 : Int) (a1_6 : Int) (a1_7 : Int) (a2_0 : Int) (a2_1 : Int) (a2_2 : Int) (a2_3 : Int) (a2_4 : Int) (a2_5 : Int) (a2_6 : Int) (a2_7 : Int) (l3 : List Int) : Option (Bool) := (haulierlaw11_awake.f).bind fun t321 => (if t321 = true then (if (l0_3.length : Int) > 33 then (haulierlaw11_RelaxWays.j0 k l3 t321 true a0_0 a0_1 a0_2 l0_3 a1_0 a1_1 a1_2 a1_3 a1_4 a1_5 a1_6 a1_7 a2_0 a2_1 a2_2 a2_3 a2_4 a2_5 a2_6 a2_7) else (if (l3.length : Int) > 100 then (haulierlaw11_RelaxWays.j0 k l3 t321 true a0_0 a0_1 a0_2 l0_3 a1_0 a1_1 a1_2 a1_3 a1_4 a1_5 a1_6 a1_7 a2_0 a2_1 a2_2 a2_3 a2_4 a2_5 a2_6 a2_7) else (if a0_0 = 0 then (haulierlaw11_RelaxWays.j0 k l3 t321 true a0_0 a0_1 a0_2 l0_3 a1_0 a1_1 a1_2 a1_3 a1_4 a1_5 a1_6 a1_7 a2_0 a2_1 a2_2 a2_3 a2_4 a2_5 a2_6 a2_7) else ((relax_Covers.f a1_0 a1_1 a1_2 a1_3 a1_4 a1_5 a1_6 a1_7 a2_0 a2_1 a2_2 a2_3 a2_4 a2_5 a2_6 a2_7).bind fun t322 => (if t322 = true then (if a1_1 < 1 then (haulierlaw11_RelaxWays.j0 k l3 t321 true a0_0 a0_1 a0_2 l0_3 a1_0 a1_1 a1_2 a1_3 a1_4 a1_5 a1_6 a1_7 a2_0 a2_1 a2_2 a2_3 a2_4 a2_5 a2_6 a2_7) else (if a1_2 < 0 then (haulierlaw11_RelaxWays.j0 k l3 t321 true a0_0 a0_1 a0_2 l0_3 a1_0 a1_1 a1_2 a1_3 a1_4 a1_5 a1_6 a1_7 a2_0 a2_1 a2_2 a2_3 a2_4 a2_5 a2_6 a2_7) else (haulierlaw11_RelaxWays.j0 k l3 t321 (decide (a1_3 < 0)) a0_0 a0_1 a0_2 l0_3 a1_0 a1_1 a1_2 a1_3 a1_4 a1_5 a1_6 a1_7 a2_0 a2_1 a2_2 a2_3 a2_4 a2_5 a2_6 a2_7))) else (haulierlaw11_RelaxWays.j0 k l3 t321 true a0_0 a0_1 a0_2 l0_3 a1_0 a1_1 a1_2 a1_3 a1_4 a1_5 a1_6 a1_7 a2_0 a2_1 a2_2 a2_3 a2_4 a2_5 a2_6 a2_7)))))) else (haulierlaw11_RelaxWays.j0 k l3 t321 true a0_0 a0_1 a0_2 l0_3 a1_0 a1_1 a1_2 a1_3 a1_4 a1_5 a1_6 a1_7 a2_0 a2_1 a2_2 a2_3 a2_4 a2_5 a2_6 a2_7))
theorem haulierlaw11_RelaxWays.mono_l : ∀ k, (∀ y0 y1 y2 y3 y4 y5 y6 y7 y8 y9 y10 y11 y12 y13 y14 y15 y16 y17 y18 y19 y20 y21 y22, LeO (haulierlaw11_RelaxWays.j0 k y0 y1 y2 y3 y4 y5 y6 y7 y8 y9 y10 y11 y12 y13 y14 y15 y16 y17 y18 y19 y20 y21 y22) (haulierlaw11_RelaxWays.j0 (k + 1) y0 y1 y2 y3 y4 y5 y6 y7 y8 y9 y10 y11 y12 y13 y14 y15 y16 y17 y18 y19 y20 y21 y22)) ∧ (∀ y0 y1 y2 y3 y4 y5 y6 y7 y8 y9 y10 y11 y12 y13 y14 y15 y16 y17 y18 y19 y20 y21 y22 y23, LeO (haulierlaw11_RelaxWays.l0 k y0 y1 y2 y3 y4 y5 y6 y7 y8 y9 y10 y11 y12 y13 y14 y15 y16 y17 y18 y19 y20 y21 y22 y23) (haulierlaw11_RelaxWays.l0 (k + 1) y0 y1 y2 y3 y4 y5 y6 y7 y8 y9 y10 y11 y12 y13 y14 y15 y16 y17 y18 y19 y20 y21 y22 y23))
  | 0 => ⟨fun _ _ _ _ _ _ _ _ _ _ _ _ _ _ _ _ _ _ _ _ _ _ _ r h => by simp [haulierlaw11_RelaxWays.j0] at h, fun _ _ _ _ _ _ _ _ _ _ _ _ _ _ _ _ _ _ _ _ _ _ _ _ r h => by simp [haulierlaw11_RelaxWays.l0] at h⟩
  | k + 1 => by
    obtain ⟨ih0, ih1⟩ := haulierlaw11_RelaxWays.mono_l k
    refine ⟨?_, ?_⟩
    · intro y0 y1 y2 y3 y4 y5 y6 y7 y8 y9 y10 y11 y12 y13 y14 y15 y16 y17 y18 y19 y20 y21 y22
      unfold haulierlaw11_RelaxWays.j0
      repeat' first
      | (with_reducible exact ih0 _ _ _ _ _ _ _ _ _ _ _ _ _ _ _ _ _ _ _ _ _ _ _)
      | (with_reducible exact ih1 _ _ _ _ _ _ _ _ _ _ _ _ _ _ _ _ _ _ _ _ _ _ _ _)
      | (with_reducible exact state_End.mono _ _ _ _ _ _ _ _ _ _ _ _ _)
      | (with_reducible exact state_Move.mono _ _ _ _ _ _ _ _ _ _ _ _ _ _)
      | (with_reducible exact LeO.refl _)
      | (with_reducible exact LeO.none _)
      | (with_reducible refine LeO.ite ?_ ?_)
      | (with_reducible refine LeO.bind ?_ (fun _ => ?_))
      | exact ih0 _ _ _ _ _ _ _ _ _ _ _ _ _ _ _ _ _ _ _ _ _ _ _
      | exact ih1 _ _ _ _ _ _ _ _ _ _ _ _ _ _ _ _ _ _ _ _ _ _ _ _
      | exact state_End.mono _ _ _ _ _ _ _ _ _ _ _ _ _
      | exact state_Move.mono _ _ _ _ _ _ _ _ _ _ _ _ _ _
      | exact LeO.none _
      | refine LeO.ite ?_ ?_
      | refine LeO.bind ?_ (fun _ => ?_)
    · intro y0 y1 y2 y3 y4 y5 y6 y7 y8 y9 y10 y11 y12 y13 y14 y15 y16 y17 y18 y19 y20 y21 y22 y23
      unfold haulierlaw11_RelaxWays.l0
      repeat' first
      | (with_reducible exact ih0 _ _ _ _ _ _ _ _ _ _ _ _ _ _ _ _ _ _ _ _ _ _ _)
      | (with_reducible exact ih1 _ _ _ _ _ _ _ _ _ _ _ _ _ _ _ _ _ _ _ _ _ _ _ _)
      | (with_reducible exact state_End.mono _ _ _ _ _ _ _ _ _ _ _ _ _)
      | (with_reducible exact state_Move.mono _ _ _ _ _ _ _ _ _ _ _ _ _ _)
      | (with_reducible exact LeO.refl _)
      | (with_reducible exact LeO.none _)
      | (with_reducible refine LeO.ite ?_ ?_)
      | (with_reducible refine LeO.bind ?_ (fun _ => ?_))
      | exact ih0 _ _ _ _ _ _ _ _ _ _ _ _ _ _ _ _ _ _ _ _ _ _ _
      | exact ih1 _ _ _ _ _ _ _ _ _ _ _ _ _ _ _ _ _ _ _ _ _ _ _ _
      | exact state_End.mono _ _ _ _ _ _ _ _ _ _ _ _ _
      | exact state_Move.mono _ _ _ _ _ _ _ _ _ _ _ _ _ _
      | exact LeO.none _
      | refine LeO.ite ?_ ?_
      | refine LeO.bind ?_ (fun _ => ?_)
theorem haulierlaw11_RelaxWays.mono : ∀ a0 a1 a2 a3 a4 a5 a6 a7 a8 a9 a10 a11 a12 a13 a14 a15 a16 a17 a18 a19 a20 k, LeO (haulierlaw11_RelaxWays.f k a0 a1 a2 a3 a4 a5 a6 a7 a8 a9 a10 a11 a12 a13 a14 a15 a16 a17 a18 a19 a20) (haulierlaw11_RelaxWays.f (k + 1) a0 a1 a2 a3 a4 a5 a6 a7 a8 a9 a10 a11 a12 a13 a14 a15 a16 a17 a18 a19 a20) := by
  intro a0 a1 a2 a3 a4 a5 a6 a7 a8 a9 a10 a11 a12 a13 a14 a15 a16 a17 a18 a19 a20 k
  obtain ⟨ih0, ih1⟩ := haulierlaw11_RelaxWays.mono_l k
  unfold haulierlaw11_RelaxWays.f
  repeat' first
      | (with_reducible exact ih0 _ _ _ _ _ _ _ _ _ _ _ _ _ _ _ _ _ _ _ _ _ _ _)
      | (with_reducible exact ih1 _ _ _ _ _ _ _ _ _ _ _ _ _ _ _ _ _ _ _ _ _ _ _ _)
      | (with_reducible exact state_End.mono _ _ _ _ _ _ _ _ _ _ _ _ _)
      | (with_reducible exact state_Move.mono _ _ _ _ _ _ _ _ _ _ _ _ _ _)
      | (with_reducible exact LeO.refl _)
      | (with_reducible exact LeO.none _)
      | (with_reducible refine LeO.ite ?_ ?_)
      | (with_reducible refine LeO.bind ?_ (fun _ => ?_))
      | exact ih0 _ _ _ _ _ _ _ _ _ _ _ _ _ _ _ _ _ _ _ _ _ _ _
      | exact ih1 _ _ _ _ _ _ _ _ _ _ _ _ _ _ _ _ _ _ _ _ _ _ _ _
      | exact state_End.mono _ _ _ _ _ _ _ _ _ _ _ _ _
      | exact state_Move.mono _ _ _ _ _ _ _ _ _ _ _ _ _ _
      | exact LeO.none _
      | refine LeO.ite ?_ ?_
      | refine LeO.bind ?_ (fun _ => ?_)
def haulierlaw11_RelaxWays.T9 : Bool × List (List Nat × List Nat) := (true, [([], []), ([], []), ([], []), ([], []), ([2, 3], [2, 3]), ([4], [4]), ([0, 1, 5], [0, 1, 5]), ([6], [6]), ([7], [7]), ([7], [7]), ([7], [7]), ([], []), ([11, 8, 6, 0, 1, 2, 3, 4, 5, 6, 7, 8, 11], [8, 11]), ([9, 12, 0, 1, 2, 3, 4, 5, 6, 7, 8, 9, 11, 12], [9]), ([10, 13, 0, 1, 2, 3, 4, 5, 6, 7, 8, 9, 10, 11, 12, 13], [10])])
def haulierlaw11_RelaxWays.B9 : List Nat := [0, 0, 0, 0, 12, 28, 63, 127, 255, 255, 255, 0, 2559, 7167, 16383]
theorem haulierlaw11_RelaxWays.tab9 : rtab .any (opsOf Try.f6 9) = haulierlaw11_RelaxWays.T9 := by kernel_rfl
theorem haulierlaw11_RelaxWays.bits9 : waitsOk haulierlaw11_RelaxWays.T9.2 haulierlaw11_RelaxWays.B9 = true := by kernel_rfl
def haulierlaw11_RelaxWays.T10 : Bool × List (List Nat × List Nat) := (true, [([], []), ([], []), ([], []), ([], []), ([2, 3], [2, 3]), ([4], [4]), ([0, 1, 5], [0, 1, 5]), ([6], [6]), ([7], [7]), ([7], [7]), ([7], [7]), ([], []), ([11, 8, 6, 0, 1, 2, 3, 4, 5, 6, 7, 8, 11], [8, 11]), ([9, 12, 0, 1, 2, 3, 4, 5, 6, 7, 8, 9, 11, 12], [9]), ([10, 13, 0, 1, 2, 3, 4, 5, 6, 7, 8, 9, 10, 11, 12, 13], [10])])
def haulierlaw11_RelaxWays.B10 : List Nat := [0, 0, 0, 0, 12, 28, 63, 127, 255, 255, 255, 0, 2559, 7167, 16383]
theorem haulierlaw11_RelaxWays.tab10 : rtab .any (opsOf Try.f6 10) = haulierlaw11_RelaxWays.T10 := by kernel_rfl
theorem haulierlaw11_RelaxWays.bits10 : waitsOk haulierlaw11_RelaxWays.T10.2 haulierlaw11_RelaxWays.B10 = true := by kernel_rfl
set_option maxHeartbeats 16000000 in
set_option maxRecDepth 100000 in
theorem haulierlaw11_RelaxWays.calls (k : Nat) (a0_0 : Int) (a0_1 : Int) (a0_2 : Int) (A0_3 : Option Addr) (c0_3 : Nat) (l0_3 : List (S23)) (a1_0 : Int) (a1_1 : Int) (a1_2 : Int) (a1_3 : Int) (a1_4 : Int) (a1_5 : Int) (a1_6 : Int) (a1_7 : Int) (a2_0 : Int) (a2_1 : Int) (a2_2 : Int) (a2_3 : Int) (a2_4 : Int) (a2_5 : Int) (a2_6 : Int) (a2_7 : Int) (A3 : Option Addr) (c3 : Nat) (l3 : List Int) (r : Bool) (w : World) (hr0_3 : Kd.C k23 w A0_3 l0_3.length l0_3) (hc0_3 : l0_3.length ≤ c0_3) (hr3 : Kd.C (Kd.int .i64) w A3 l3.length l3) (hc3 : l3.length ≤ c3) (h : haulierlaw11_RelaxWays.f k a0_0 a0_1 a0_2 l0_3 a1_0 a1_1 a1_2 a1_3 a1_4 a1_5 a1_6 a1_7 a2_0 a2_1 a2_2 a2_3 a2_4 a2_5 a2_6 a2_7 l3 = some r) :
  Calls Try.prog 6 #[.agg #[.int .i64 a0_0, .int .i64 a0_1, .int .i64 a0_2, .slice A0_3 l0_3.length c0_3], .agg #[.int .i64 a1_0, .int .i64 a1_1, .int .i64 a1_2, .int .i64 a1_3, .int .i64 a1_4, .int .u64 a1_5, .int .u64 a1_6, .int .u64 a1_7], .agg #[.int .i64 a2_0, .int .i64 a2_1, .int .i64 a2_2, .int .i64 a2_3, .int .i64 a2_4, .int .u64 a2_5, .int .u64 a2_6, .int .u64 a2_7], .slice A3 l3.length c3] w fun e w' => e = .returned (.bool r) ∧ Below w.heap.size w w' := by
 have hu26 := Try.underlying26
 have hu40 := Try.underlying40
 have HR0_3 := zqi hr0_3
 have HC0_3 := zqi hc0_3
 clear hr0_3 hc0_3
 have HR3 := zqi hr3
 have HC3 := zqi hc3
 clear hr3 hc3
 have HB := zqi (Below.refl w.heap.size w)
 have H : ((haulierlaw11_awake.f).bind fun t321 => (if t321 = true then (if (l0_3.length : Int) > 33 then (haulierlaw11_RelaxWays.j0 k l3 t321 true a0_0 a0_1 a0_2 l0_3 a1_0 a1_1 a1_2 a1_3 a1_4 a1_5 a1_6 a1_7 a2_0 a2_1 a2_2 a2_3 a2_4 a2_5 a2_6 a2_7) else (if (l3.length : Int) > 100 then (haulierlaw11_RelaxWays.j0 k l3 t321 true a0_0 a0_1 a0_2 l0_3 a1_0 a1_1 a1_2 a1_3 a1_4 a1_5 a1_6 a1_7 a2_0 a2_1 a2_2 a2_3 a2_4 a2_5 a2_6 a2_7) else (if a0_0 = 0 then (haulierlaw11_RelaxWays.j0 k l3 t321 true a0_0 a0_1 a0_2 l0_3 a1_0 a1_1 a1_2 a1_3 a1_4 a1_5 a1_6 a1_7 a2_0 a2_1 a2_2 a2_3 a2_4 a2_5 a2_6 a2_7) else ((relax_Covers.f a1_0 a1_1 a1_2 a1_3 a1_4 a1_5 a1_6 a1_7 a2_0 a2_1 a2_2 a2_3 a2_4 a2_5 a2_6 a2_7).bind fun t322 => (if t322 = true then (if a1_1 < 1 then (haulierlaw11_RelaxWays.j0 k l3 t321 true a0_0 a0_1 a0_2 l0_3 a1_0 a1_1 a1_2 a1_3 a1_4 a1_5 a1_6 a1_7 a2_0 a2_1 a2_2 a2_3 a2_4 a2_5 a2_6 a2_7) else (if a1_2 < 0 then (haulierlaw11_RelaxWays.j0 k l3 t321 true a0_0 a0_1 a0_2 l0_3 a1_0 a1_1 a1_2 a1_3 a1_4 a1_5 a1_6 a1_7 a2_0 a2_1 a2_2 a2_3 a2_4 a2_5 a2_6 a2_7) else (haulierlaw11_RelaxWays.j0 k l3 t321 (decide (a1_3 < 0)) a0_0 a0_1 a0_2 l0_3 a1_0 a1_1 a1_2 a1_3 a1_4 a1_5 a1_6 a1_7 a2_0 a2_1 a2_2 a2_3 a2_4 a2_5 a2_6 a2_7))) else (haulierlaw11_RelaxWays.j0 k l3 t321 true a0_0 a0_1 a0_2 l0_3 a1_0 a1_1 a1_2 a1_3 a1_4 a1_5 a1_6 a1_7 a2_0 a2_1 a2_2 a2_3 a2_4 a2_5 a2_6 a2_7)))))) else (haulierlaw11_RelaxWays.j0 k l3 t321 true a0_0 a0_1 a0_2 l0_3 a1_0 a1_1 a1_2 a1_3 a1_4 a1_5 a1_6 a1_7 a2_0 a2_1 a2_2 a2_3 a2_4 a2_5 a2_6 a2_7))) = some r := h
 clear h
 replace H := Option.bind_eq_some_iff.mp H
 obtain ⟨t321, A50, H⟩ := H
 replace H : (if t321 = true then (if (l0_3.length : Int) > 33 then (haulierlaw11_RelaxWays.j0 k l3 t321 true a0_0 a0_1 a0_2 l0_3 a1_0 a1_1 a1_2 a1_3 a1_4 a1_5 a1_6 a1_7 a2_0 a2_1 a2_2 a2_3 a2_4 a2_5 a2_6 a2_7) else (if (l3.length : Int) > 100 then (haulierlaw11_RelaxWays.j0 k l3 t321 true a0_0 a0_1 a0_2 l0_3 a1_0 a1_1 a1_2 a1_3 a1_4 a1_5 a1_6 a1_7 a2_0 a2_1 a2_2 a2_3 a2_4 a2_5 a2_6 a2_7) else (if a0_0 = 0 then (haulierlaw11_RelaxWays.j0 k l3 t321 true a0_0 a0_1 a0_2 l0_3 a1_0 a1_1 a1_2 a1_3 a1_4 a1_5 a1_6 a1_7 a2_0 a2_1 a2_2 a2_3 a2_4 a2_5 a2_6 a2_7) else ((relax_Covers.f a1_0 a1_1 a1_2 a1_3 a1_4 a1_5 a1_6 a1_7 a2_0 a2_1 a2_2 a2_3 a2_4 a2_5 a2_6 a2_7).bind fun t322 => (if t322 = true then (if a1_1 < 1 then (haulierlaw11_RelaxWays.j0 k l3 t321 true a0_0 a0_1 a0_2 l0_3 a1_0 a1_1 a1_2 a1_3 a1_4 a1_5 a1_6 a1_7 a2_0 a2_1 a2_2 a2_3 a2_4 a2_5 a2_6 a2_7) else (if a1_2 < 0 then (haulierlaw11_RelaxWays.j0 k l3 t321 true a0_0 a0_1 a0_2 l0_3 a1_0 a1_1 a1_2 a1_3 a1_4 a1_5 a1_6 a1_7 a2_0 a2_1 a2_2 a2_3 a2_4 a2_5 a2_6 a2_7) else (haulierlaw11_RelaxWays.j0 k l3 t321 (decide (a1_3 < 0)) a0_0 a0_1 a0_2 l0_3 a1_0 a1_1 a1_2 a1_3 a1_4 a1_5 a1_6 a1_7 a2_0 a2_1 a2_2 a2_3 a2_4 a2_5 a2_6 a2_7))) else (haulierlaw11_RelaxWays.j0 k l3 t321 true a0_0 a0_1 a0_2 l0_3 a1_0 a1_1 a1_2 a1_3 a1_4 a1_5 a1_6 a1_7 a2_0 a2_1 a2_2 a2_3 a2_4 a2_5 a2_6 a2_7)))))) else (haulierlaw11_RelaxWays.j0 k l3 t321 true a0_0 a0_1 a0_2 l0_3 a1_0 a1_1 a1_2 a1_3 a1_4 a1_5 a1_6 a1_7 a2_0 a2_1 a2_2 a2_3 a2_4 a2_5 a2_6 a2_7)) = some r := H
 have A5 := zqi A50
 clear A50
 have HC6 := zqi H
 clear H
 go_enter Try.func6, Try.ntmps6
 go_upto_region 2 with (first | ((with_reducible refine gate_dst (N := 4) rfl ?_); (try (refine gate_guard (by rfl) ?_; dsimp only)); refine box_event ?hg (N := 4) ?hd (cs := #[.int .i64 a0_0, .int .i64 a0_1, .int .i64 a0_2, .slice A0_3 l0_3.length c0_3]) (t := 26) ?hr ?_; (case hd => rfl); (case hg => rfl); (case hr => first | (go_simp; done) | (go_simp; rfl)); intro gb318 hg w7 hbox hb; have n0_ := zqi (below_step (zqn HB.out) hb); have n1_ := zqi (hbox); have n2_ := zqi (zqo hg HB.out); have n3_ := zqi (zqo hg HB.out); clear HB; have HB := n0_; have BK318 := n1_; have GW318 := n2_; have GE318 := n3_; clear n0_ n1_ n2_ n3_; clear hb hbox hg) | ((with_reducible refine gate_dst (N := 5) rfl ?_); (try (refine gate_guard (by rfl) ?_; dsimp only)); refine box_event ?hg (N := 5) ?hd (cs := #[.int .i64 a1_0, .int .i64 a1_1, .int .i64 a1_2, .int .i64 a1_3, .int .i64 a1_4, .int .u64 a1_5, .int .u64 a1_6, .int .u64 a1_7]) (t := 40) ?hr ?_; (case hd => rfl); (case hg => rfl); (case hr => first | (go_simp; done) | (go_simp; rfl)); intro gb319 hg w8 hbox hb; have n0_ := zqi (zqy BK318.out hb); have n1_ := zqi (below_step (zqn HB.out) hb); have n2_ := zqi (hbox); have n3_ := zqi (zqo hg HB.out); have n4_ := zqi (zqo hg HB.out); have n5_ := zqi ((zqq hg BK318.out)); have n6_ := zqi ((zqr hg BK318.out)); clear BK318; clear HB; have BK318 := n0_; have HB := n1_; have BK319 := n2_; have GW319 := n3_; have GE319 := n4_; have NB318_319 := n5_; have NB319_318 := n6_; clear n0_ n1_ n2_ n3_ n4_ n5_ n6_; clear hb hbox hg) | ((with_reducible refine gate_dst (N := 6) rfl ?_); (try (refine gate_guard (by rfl) ?_; dsimp only)); refine box_event ?hg (N := 6) ?hd (cs := #[.int .i64 a2_0, .int .i64 a2_1, .int .i64 a2_2, .int .i64 a2_3, .int .i64 a2_4, .int .u64 a2_5, .int .u64 a2_6, .int .u64 a2_7]) (t := 40) ?hr ?_; (case hd => rfl); (case hg => rfl); (case hr => first | (go_simp; done) | (go_simp; rfl)); intro gb320 hg w9 hbox hb; have n0_ := zqi (zqy BK318.out hb); have n1_ := zqi (zqy BK319.out hb); have n2_ := zqi (below_step (zqn HB.out) hb); have n3_ := zqi (hbox); have n4_ := zqi (zqo hg HB.out); have n5_ := zqi (zqo hg HB.out); have n6_ := zqi ((zqq hg BK318.out)); have n7_ := zqi ((zqr hg BK318.out)); have n8_ := zqi ((zqq hg BK319.out)); have n9_ := zqi ((zqr hg BK319.out)); clear BK318; clear BK319; clear HB; have BK318 := n0_; have BK319 := n1_; have HB := n2_; have BK320 := n3_; have GW320 := n4_; have GE320 := n5_; have NB318_320 := n6_; have NB320_318 := n7_; have NB319_320 := n8_; have NB320_319 := n9_; clear n0_ n1_ n2_ n3_ n4_ n5_ n6_ n7_ n8_ n9_; clear hb hbox hg) | ((with_reducible refine gate_callee (f := 20) rfl ?_); refine goesL_ (some 23) rfl rfl Try.func20 (by kernel_rfl) rfl #[] rfl (by (try simp only [List.map_toArray, List.map_cons, List.map_nil]); first | done | rfl | (simp only [List.length_drop, List.length_take]; rfl)) ?_; (with_reducible refine (haulierlaw11_awake.calls  t321 _ A5.out).mono ?_); rintro e w10 ⟨rfl, hb⟩; refine ⟨_, rfl, ?_⟩; have n0_ := zqi (zqy BK318.out hb); have n1_ := zqi (zqy BK319.out hb); have n2_ := zqi (zqy BK320.out hb); have n3_ := zqi (below_step (zqn HB.out) hb); clear BK318; clear BK319; clear BK320; clear HB; have BK318 := n0_; have BK319 := n1_; have BK320 := n2_; have HB := n3_; clear n0_ n1_ n2_ n3_; (try clear hb); (try clear hb2); (try clear hk); (try clear hi)))
 (try simp only [Act.put, List.setIfInBounds_toArray, List.set_cons_zero, List.set_cons_succ])
 go_cut [62] (fun v62 wc => ∃ (kq : Nat) (x62_5 : Bool), v62 = .bool x62_5 ∧ Aside0 (haulierlaw11_RelaxWays.j0 kq l3 t321 x62_5 a0_0 a0_1 a0_2 l0_3 a1_0 a1_1 a1_2 a1_3 a1_4 a1_5 a1_6 a1_7 a2_0 a2_1 a2_2 a2_3 a2_4 a2_5 a2_6 a2_7 = some r) ∧ Aside0 (kq ≤ k) ∧ Aside0 (wc.heap[gb318]? = some (.cells #[.int .i64 a0_0, .int .i64 a0_1, .int .i64 a0_2, (.slice A0_3 l0_3.length c0_3)] 26 (0, 0))) ∧ Aside0 (wc.heap[gb319]? = some (.cells #[.int .i64 a1_0, .int .i64 a1_1, .int .i64 a1_2, .int .i64 a1_3, .int .i64 a1_4, .int .u64 a1_5, .int .u64 a1_6, .int .u64 a1_7] 40 (0, 0))) ∧ Aside0 (wc.heap[gb320]? = some (.cells #[.int .i64 a2_0, .int .i64 a2_1, .int .i64 a2_2, .int .i64 a2_3, .int .i64 a2_4, .int .u64 a2_5, .int .u64 a2_6, .int .u64 a2_7] 40 (0, 0))) ∧ Aside0 (Below w.heap.size w wc))
 case first =>
  have H := HC6.out
  clear HC6
  by_cases c11 : t321 = true
  ·
   subst c11
   have H1 : (if (l0_3.length : Int) > 33 then (haulierlaw11_RelaxWays.j0 k l3 true true a0_0 a0_1 a0_2 l0_3 a1_0 a1_1 a1_2 a1_3 a1_4 a1_5 a1_6 a1_7 a2_0 a2_1 a2_2 a2_3 a2_4 a2_5 a2_6 a2_7) else (if (l3.length : Int) > 100 then (haulierlaw11_RelaxWays.j0 k l3 true true a0_0 a0_1 a0_2 l0_3 a1_0 a1_1 a1_2 a1_3 a1_4 a1_5 a1_6 a1_7 a2_0 a2_1 a2_2 a2_3 a2_4 a2_5 a2_6 a2_7) else (if a0_0 = 0 then (haulierlaw11_RelaxWays.j0 k l3 true true a0_0 a0_1 a0_2 l0_3 a1_0 a1_1 a1_2 a1_3 a1_4 a1_5 a1_6 a1_7 a2_0 a2_1 a2_2 a2_3 a2_4 a2_5 a2_6 a2_7) else ((relax_Covers.f a1_0 a1_1 a1_2 a1_3 a1_4 a1_5 a1_6 a1_7 a2_0 a2_1 a2_2 a2_3 a2_4 a2_5 a2_6 a2_7).bind fun t322 => (if t322 = true then (if a1_1 < 1 then (haulierlaw11_RelaxWays.j0 k l3 true true a0_0 a0_1 a0_2 l0_3 a1_0 a1_1 a1_2 a1_3 a1_4 a1_5 a1_6 a1_7 a2_0 a2_1 a2_2 a2_3 a2_4 a2_5 a2_6 a2_7) else (if a1_2 < 0 then (haulierlaw11_RelaxWays.j0 k l3 true true a0_0 a0_1 a0_2 l0_3 a1_0 a1_1 a1_2 a1_3 a1_4 a1_5 a1_6 a1_7 a2_0 a2_1 a2_2 a2_3 a2_4 a2_5 a2_6 a2_7) else (haulierlaw11_RelaxWays.j0 k l3 true (decide (a1_3 < 0)) a0_0 a0_1 a0_2 l0_3 a1_0 a1_1 a1_2 a1_3 a1_4 a1_5 a1_6 a1_7 a2_0 a2_1 a2_2 a2_3 a2_4 a2_5 a2_6 a2_7))) else (haulierlaw11_RelaxWays.j0 k l3 true true a0_0 a0_1 a0_2 l0_3 a1_0 a1_1 a1_2 a1_3 a1_4 a1_5 a1_6 a1_7 a2_0 a2_1 a2_2 a2_3 a2_4 a2_5 a2_6 a2_7)))))) = some r := by rw [if_pos rfl] at H; exact H
   clear H
   have H := H1
   clear H1
   by_cases c12 : (l0_3.length : Int) > 33
   ·
    rw [if_pos c12] at H
    have c12b0 : decide (33 < (l0_3.length : Int)) = true := decide_eq_true c12
    have c12b1 : decide (33 < l0_3.length) = true := decide_eq_true (by omega)
    clear c12
    (first | rw [c12b0] | (simp only [i64_w, i32_w]; rw [c12b0]) | skip)
    have H' := zqi H
    clear H
    have hnb13 := NB318_319.out
    have hnc13 := NB319_318.out
    have hnb14 := NB318_320.out
    have hnc14 := NB320_318.out
    obtain ⟨hcz15_0, hcz15_1, hcz15_2, hcz15_3, hfz15_0, hfz15_1, hfz15_2, hfz15_3⟩ := zqz4 BK318.out
    go_wp2
    go_meet
    case rel => exact ⟨_, (true), (by first | rfl | (simp; done) | (simp [*]; done)), H', ⟨by first | omega | exact Nat.le_refl _⟩, ⟨by (with_reducible repeat (first | apply zqa | apply zqb | apply zqc)); exact BK318.out⟩, ⟨by (with_reducible repeat (first | apply zqa | apply zqb | apply zqc)); exact BK319.out⟩, ⟨by (with_reducible repeat (first | apply zqa | apply zqb | apply zqc)); exact BK320.out⟩, ⟨by repeat (first | (with_reducible first | exact HB.out | apply zqg | apply zqf | apply zqh | refine below_set ?_ GE318.out | refine below_set ?_ GE319.out | refine below_set ?_ GE320.out) | exact HB.out)⟩⟩
   ·
    rw [if_neg c12] at H
    have c12b0 : decide (33 < (l0_3.length : Int)) = false := decide_eq_false c12
    have c12b1 : decide (33 < l0_3.length) = false := decide_eq_false (by omega)
    clear c12
    (first | rw [c12b0] | (simp only [i64_w, i32_w]; rw [c12b0]) | skip)
    by_cases c16 : (l3.length : Int) > 100
    ·
     rw [if_pos c16] at H
     have c16b0 : decide (100 < (l3.length : Int)) = true := decide_eq_true c16
     have c16b1 : decide (100 < l3.length) = true := decide_eq_true (by omega)
     clear c16
     have H' := zqi H
     clear H
     have hnb17 := NB318_319.out
     have hnc17 := NB319_318.out
     have hnb18 := NB318_320.out
     have hnc18 := NB320_318.out
     obtain ⟨hcz19_0, hcz19_1, hcz19_2, hcz19_3, hfz19_0, hfz19_1, hfz19_2, hfz19_3⟩ := zqz4 BK318.out
     go_wp2
     go_meet
     case rel => exact ⟨_, (true), (by first | rfl | (simp; done) | (simp [*]; done)), H', ⟨by first | omega | exact Nat.le_refl _⟩, ⟨by (with_reducible repeat (first | apply zqa | apply zqb | apply zqc)); exact BK318.out⟩, ⟨by (with_reducible repeat (first | apply zqa | apply zqb | apply zqc)); exact BK319.out⟩, ⟨by (with_reducible repeat (first | apply zqa | apply zqb | apply zqc)); exact BK320.out⟩, ⟨by repeat (first | (with_reducible first | exact HB.out | apply zqg | apply zqf | apply zqh | refine below_set ?_ GE318.out | refine below_set ?_ GE319.out | refine below_set ?_ GE320.out) | exact HB.out)⟩⟩
    ·
     rw [if_neg c16] at H
     have c16b0 : decide (100 < (l3.length : Int)) = false := decide_eq_false c16
     have c16b1 : decide (100 < l3.length) = false := decide_eq_false (by omega)
     clear c16
     by_cases c20 : a0_0 = 0
     ·
      rw [if_pos c20] at H
      have c20b0 : (a0_0 == 0) = true := beq_iff_eq.mpr c20
      have c20b1 : (a0_0 != 0) = false := bne_eq_false_iff_eq.mpr c20
      clear c20
      have H' := zqi H
      clear H
      have hnb21 := NB318_319.out
      have hnc21 := NB319_318.out
      have hnb22 := NB318_320.out
      have hnc22 := NB320_318.out
      obtain ⟨hcz23_0, hcz23_1, hcz23_2, hcz23_3, hfz23_0, hfz23_1, hfz23_2, hfz23_3⟩ := zqz4 BK318.out
      go_wp2
      go_meet
      case rel => exact ⟨_, (true), (by first | rfl | (simp; done) | (simp [*]; done)), H', ⟨by first | omega | exact Nat.le_refl _⟩, ⟨by (with_reducible repeat (first | apply zqa | apply zqb | apply zqc)); exact BK318.out⟩, ⟨by (with_reducible repeat (first | apply zqa | apply zqb | apply zqc)); exact BK319.out⟩, ⟨by (with_reducible repeat (first | apply zqa | apply zqb | apply zqc)); exact BK320.out⟩, ⟨by repeat (first | (with_reducible first | exact HB.out | apply zqg | apply zqf | apply zqh | refine below_set ?_ GE318.out | refine below_set ?_ GE319.out | refine below_set ?_ GE320.out) | exact HB.out)⟩⟩
     ·
      rw [if_neg c20] at H
      have c20b0 : (a0_0 == 0) = false := beq_eq_false_iff_ne.mpr c20
      have c20b1 : (a0_0 != 0) = true := bne_iff_ne.mpr c20
      replace H := Option.bind_eq_some_iff.mp H
      obtain ⟨t322, A240, H⟩ := H
      replace H : (if t322 = true then (if a1_1 < 1 then (haulierlaw11_RelaxWays.j0 k l3 true true a0_0 a0_1 a0_2 l0_3 a1_0 a1_1 a1_2 a1_3 a1_4 a1_5 a1_6 a1_7 a2_0 a2_1 a2_2 a2_3 a2_4 a2_5 a2_6 a2_7) else (if a1_2 < 0 then (haulierlaw11_RelaxWays.j0 k l3 true true a0_0 a0_1 a0_2 l0_3 a1_0 a1_1 a1_2 a1_3 a1_4 a1_5 a1_6 a1_7 a2_0 a2_1 a2_2 a2_3 a2_4 a2_5 a2_6 a2_7) else (haulierlaw11_RelaxWays.j0 k l3 true (decide (a1_3 < 0)) a0_0 a0_1 a0_2 l0_3 a1_0 a1_1 a1_2 a1_3 a1_4 a1_5 a1_6 a1_7 a2_0 a2_1 a2_2 a2_3 a2_4 a2_5 a2_6 a2_7))) else (haulierlaw11_RelaxWays.j0 k l3 true true a0_0 a0_1 a0_2 l0_3 a1_0 a1_1 a1_2 a1_3 a1_4 a1_5 a1_6 a1_7 a2_0 a2_1 a2_2 a2_3 a2_4 a2_5 a2_6 a2_7)) = some r := H
      have A24 := zqi A240
      clear A240
      by_cases c25 : t322 = true
      ·
       subst c25
       have H1 : (if a1_1 < 1 then (haulierlaw11_RelaxWays.j0 k l3 true true a0_0 a0_1 a0_2 l0_3 a1_0 a1_1 a1_2 a1_3 a1_4 a1_5 a1_6 a1_7 a2_0 a2_1 a2_2 a2_3 a2_4 a2_5 a2_6 a2_7) else (if a1_2 < 0 then (haulierlaw11_RelaxWays.j0 k l3 true true a0_0 a0_1 a0_2 l0_3 a1_0 a1_1 a1_2 a1_3 a1_4 a1_5 a1_6 a1_7 a2_0 a2_1 a2_2 a2_3 a2_4 a2_5 a2_6 a2_7) else (haulierlaw11_RelaxWays.j0 k l3 true (decide (a1_3 < 0)) a0_0 a0_1 a0_2 l0_3 a1_0 a1_1 a1_2 a1_3 a1_4 a1_5 a1_6 a1_7 a2_0 a2_1 a2_2 a2_3 a2_4 a2_5 a2_6 a2_7))) = some r := by rw [if_pos rfl] at H; exact H
       clear H
       have H := H1
       clear H1
       by_cases c26 : a1_1 < 1
       ·
        rw [if_pos c26] at H
        have c26b0 : decide (a1_1 < 1) = true := decide_eq_true c26
        clear c26
        have H' := zqi H
        clear H
        have hnb27 := NB318_319.out
        have hnc27 := NB319_318.out
        have hnb28 := NB318_320.out
        have hnc28 := NB320_318.out
        obtain ⟨hcz29_0, hcz29_1, hcz29_2, hcz29_3, hfz29_0, hfz29_1, hfz29_2, hfz29_3⟩ := zqz4 BK318.out
        have hnb30 := NB319_320.out
        have hnc30 := NB320_319.out
        obtain ⟨hcz31_0, hcz31_1, hcz31_2, hcz31_3, hcz31_4, hcz31_5, hcz31_6, hcz31_7, hfz31_0, hfz31_1, hfz31_2, hfz31_3, hfz31_4, hfz31_5, hfz31_6, hfz31_7⟩ := zqz8 BK319.out
        obtain ⟨hcz32_0, hcz32_1, hcz32_2, hcz32_3, hcz32_4, hcz32_5, hcz32_6, hcz32_7, hfz32_0, hfz32_1, hfz32_2, hfz32_3, hfz32_4, hfz32_5, hfz32_6, hfz32_7⟩ := zqz8 BK320.out
        go_wp2_with (first | (go_at_call 21; (with_reducible refine (relax_Covers.calls a1_0 a1_1 a1_2 a1_3 a1_4 a1_5 a1_6 a1_7 a2_0 a2_1 a2_2 a2_3 a2_4 a2_5 a2_6 a2_7 true _ A24.out).mono ?_); rintro e w33 ⟨rfl, hb⟩; have n0_ := zqi (zqy BK318.out hb); have n1_ := zqi (zqy BK319.out hb); have n2_ := zqi (zqy BK320.out hb); have n3_ := zqi (below_step (zqn HB.out) hb); clear BK318; clear BK319; clear BK320; clear HB; have BK318 := n0_; have BK319 := n1_; have BK320 := n2_; have HB := n3_; clear n0_ n1_ n2_ n3_; (try clear hb); (try clear hb2); (try clear hk); (try clear hi); obtain ⟨hcz34_0, hcz34_1, hcz34_2, hcz34_3, hcz34_4, hcz34_5, hcz34_6, hcz34_7, hfz34_0, hfz34_1, hfz34_2, hfz34_3, hfz34_4, hfz34_5, hfz34_6, hfz34_7⟩ := zqz8 BK319.out))
        go_meet
        case rel => exact ⟨_, (true), (by first | rfl | (simp; done) | (simp [*]; done)), H', ⟨by first | omega | exact Nat.le_refl _⟩, ⟨by (with_reducible repeat (first | apply zqa | apply zqb | apply zqc)); exact BK318.out⟩, ⟨by (with_reducible repeat (first | apply zqa | apply zqb | apply zqc)); exact BK319.out⟩, ⟨by (with_reducible repeat (first | apply zqa | apply zqb | apply zqc)); exact BK320.out⟩, ⟨by repeat (first | (with_reducible first | exact HB.out | apply zqg | apply zqf | apply zqh | refine below_set ?_ GE318.out | refine below_set ?_ GE319.out | refine below_set ?_ GE320.out) | exact HB.out)⟩⟩
       ·
        rw [if_neg c26] at H
        have c26b0 : decide (a1_1 < 1) = false := decide_eq_false c26
        clear c26
        by_cases c35 : a1_2 < 0
        ·
         rw [if_pos c35] at H
         have c35b0 : decide (a1_2 < 0) = true := decide_eq_true c35
         clear c35
         have H' := zqi H
         clear H
         have hnb36 := NB318_319.out
         have hnc36 := NB319_318.out
         have hnb37 := NB318_320.out
         have hnc37 := NB320_318.out
         obtain ⟨hcz38_0, hcz38_1, hcz38_2, hcz38_3, hfz38_0, hfz38_1, hfz38_2, hfz38_3⟩ := zqz4 BK318.out
         have hnb39 := NB319_320.out
         have hnc39 := NB320_319.out
         obtain ⟨hcz40_0, hcz40_1, hcz40_2, hcz40_3, hcz40_4, hcz40_5, hcz40_6, hcz40_7, hfz40_0, hfz40_1, hfz40_2, hfz40_3, hfz40_4, hfz40_5, hfz40_6, hfz40_7⟩ := zqz8 BK319.out
         obtain ⟨hcz41_0, hcz41_1, hcz41_2, hcz41_3, hcz41_4, hcz41_5, hcz41_6, hcz41_7, hfz41_0, hfz41_1, hfz41_2, hfz41_3, hfz41_4, hfz41_5, hfz41_6, hfz41_7⟩ := zqz8 BK320.out
         go_wp2_with (first | (go_at_call 21; (with_reducible refine (relax_Covers.calls a1_0 a1_1 a1_2 a1_3 a1_4 a1_5 a1_6 a1_7 a2_0 a2_1 a2_2 a2_3 a2_4 a2_5 a2_6 a2_7 true _ A24.out).mono ?_); rintro e w42 ⟨rfl, hb⟩; have n0_ := zqi (zqy BK318.out hb); have n1_ := zqi (zqy BK319.out hb); have n2_ := zqi (zqy BK320.out hb); have n3_ := zqi (below_step (zqn HB.out) hb); clear BK318; clear BK319; clear BK320; clear HB; have BK318 := n0_; have BK319 := n1_; have BK320 := n2_; have HB := n3_; clear n0_ n1_ n2_ n3_; (try clear hb); (try clear hb2); (try clear hk); (try clear hi); obtain ⟨hcz43_0, hcz43_1, hcz43_2, hcz43_3, hcz43_4, hcz43_5, hcz43_6, hcz43_7, hfz43_0, hfz43_1, hfz43_2, hfz43_3, hfz43_4, hfz43_5, hfz43_6, hfz43_7⟩ := zqz8 BK319.out))
         go_meet
         case rel => exact ⟨_, (true), (by first | rfl | (simp; done) | (simp [*]; done)), H', ⟨by first | omega | exact Nat.le_refl _⟩, ⟨by (with_reducible repeat (first | apply zqa | apply zqb | apply zqc)); exact BK318.out⟩, ⟨by (with_reducible repeat (first | apply zqa | apply zqb | apply zqc)); exact BK319.out⟩, ⟨by (with_reducible repeat (first | apply zqa | apply zqb | apply zqc)); exact BK320.out⟩, ⟨by repeat (first | (with_reducible first | exact HB.out | apply zqg | apply zqf | apply zqh | refine below_set ?_ GE318.out | refine below_set ?_ GE319.out | refine below_set ?_ GE320.out) | exact HB.out)⟩⟩
        ·
         rw [if_neg c35] at H
         have c35b0 : decide (a1_2 < 0) = false := decide_eq_false c35
         clear c35
         have H' := zqi H
         clear H
         have hnb44 := NB318_319.out
         have hnc44 := NB319_318.out
         have hnb45 := NB318_320.out
         have hnc45 := NB320_318.out
         obtain ⟨hcz46_0, hcz46_1, hcz46_2, hcz46_3, hfz46_0, hfz46_1, hfz46_2, hfz46_3⟩ := zqz4 BK318.out
         have hnb47 := NB319_320.out
         have hnc47 := NB320_319.out
         obtain ⟨hcz48_0, hcz48_1, hcz48_2, hcz48_3, hcz48_4, hcz48_5, hcz48_6, hcz48_7, hfz48_0, hfz48_1, hfz48_2, hfz48_3, hfz48_4, hfz48_5, hfz48_6, hfz48_7⟩ := zqz8 BK319.out
         obtain ⟨hcz49_0, hcz49_1, hcz49_2, hcz49_3, hcz49_4, hcz49_5, hcz49_6, hcz49_7, hfz49_0, hfz49_1, hfz49_2, hfz49_3, hfz49_4, hfz49_5, hfz49_6, hfz49_7⟩ := zqz8 BK320.out
         go_wp2_with (first | (go_at_call 21; (with_reducible refine (relax_Covers.calls a1_0 a1_1 a1_2 a1_3 a1_4 a1_5 a1_6 a1_7 a2_0 a2_1 a2_2 a2_3 a2_4 a2_5 a2_6 a2_7 true _ A24.out).mono ?_); rintro e w50 ⟨rfl, hb⟩; have n0_ := zqi (zqy BK318.out hb); have n1_ := zqi (zqy BK319.out hb); have n2_ := zqi (zqy BK320.out hb); have n3_ := zqi (below_step (zqn HB.out) hb); clear BK318; clear BK319; clear BK320; clear HB; have BK318 := n0_; have BK319 := n1_; have BK320 := n2_; have HB := n3_; clear n0_ n1_ n2_ n3_; (try clear hb); (try clear hb2); (try clear hk); (try clear hi); obtain ⟨hcz51_0, hcz51_1, hcz51_2, hcz51_3, hcz51_4, hcz51_5, hcz51_6, hcz51_7, hfz51_0, hfz51_1, hfz51_2, hfz51_3, hfz51_4, hfz51_5, hfz51_6, hfz51_7⟩ := zqz8 BK319.out))
         go_meet
         case rel => exact ⟨_, (decide (a1_3 < 0)), (by first | rfl | (simp; done) | (simp [*]; done)), H', ⟨by first | omega | exact Nat.le_refl _⟩, ⟨by (with_reducible repeat (first | apply zqa | apply zqb | apply zqc)); exact BK318.out⟩, ⟨by (with_reducible repeat (first | apply zqa | apply zqb | apply zqc)); exact BK319.out⟩, ⟨by (with_reducible repeat (first | apply zqa | apply zqb | apply zqc)); exact BK320.out⟩, ⟨by repeat (first | (with_reducible first | exact HB.out | apply zqg | apply zqf | apply zqh | refine below_set ?_ GE318.out | refine below_set ?_ GE319.out | refine below_set ?_ GE320.out) | exact HB.out)⟩⟩
      ·
       replace c25 := Bool.eq_false_iff.mpr c25
       subst c25
       have H1 : (haulierlaw11_RelaxWays.j0 k l3 true true a0_0 a0_1 a0_2 l0_3 a1_0 a1_1 a1_2 a1_3 a1_4 a1_5 a1_6 a1_7 a2_0 a2_1 a2_2 a2_3 a2_4 a2_5 a2_6 a2_7) = some r := by rw [if_neg (show ¬ (false = true) by decide)] at H; exact H
       clear H
       have H := H1
       clear H1
       have H' := zqi H
       clear H
       have hnb52 := NB318_319.out
       have hnc52 := NB319_318.out
       have hnb53 := NB318_320.out
       have hnc53 := NB320_318.out
       obtain ⟨hcz54_0, hcz54_1, hcz54_2, hcz54_3, hfz54_0, hfz54_1, hfz54_2, hfz54_3⟩ := zqz4 BK318.out
       have hnb55 := NB319_320.out
       have hnc55 := NB320_319.out
       obtain ⟨hcz56_0, hcz56_1, hcz56_2, hcz56_3, hcz56_4, hcz56_5, hcz56_6, hcz56_7, hfz56_0, hfz56_1, hfz56_2, hfz56_3, hfz56_4, hfz56_5, hfz56_6, hfz56_7⟩ := zqz8 BK319.out
       obtain ⟨hcz57_0, hcz57_1, hcz57_2, hcz57_3, hcz57_4, hcz57_5, hcz57_6, hcz57_7, hfz57_0, hfz57_1, hfz57_2, hfz57_3, hfz57_4, hfz57_5, hfz57_6, hfz57_7⟩ := zqz8 BK320.out
       go_wp2_with (first | (go_at_call 21; (with_reducible refine (relax_Covers.calls a1_0 a1_1 a1_2 a1_3 a1_4 a1_5 a1_6 a1_7 a2_0 a2_1 a2_2 a2_3 a2_4 a2_5 a2_6 a2_7 false _ A24.out).mono ?_); rintro e w58 ⟨rfl, hb⟩; have n0_ := zqi (zqy BK318.out hb); have n1_ := zqi (zqy BK319.out hb); have n2_ := zqi (zqy BK320.out hb); have n3_ := zqi (below_step (zqn HB.out) hb); clear BK318; clear BK319; clear BK320; clear HB; have BK318 := n0_; have BK319 := n1_; have BK320 := n2_; have HB := n3_; clear n0_ n1_ n2_ n3_; (try clear hb); (try clear hb2); (try clear hk); (try clear hi)))
       go_meet
       case rel => exact ⟨_, (true), (by first | rfl | (simp; done) | (simp [*]; done)), H', ⟨by first | omega | exact Nat.le_refl _⟩, ⟨by (with_reducible repeat (first | apply zqa | apply zqb | apply zqc)); exact BK318.out⟩, ⟨by (with_reducible repeat (first | apply zqa | apply zqb | apply zqc)); exact BK319.out⟩, ⟨by (with_reducible repeat (first | apply zqa | apply zqb | apply zqc)); exact BK320.out⟩, ⟨by repeat (first | (with_reducible first | exact HB.out | apply zqg | apply zqf | apply zqh | refine below_set ?_ GE318.out | refine below_set ?_ GE319.out | refine below_set ?_ GE320.out) | exact HB.out)⟩⟩
  ·
   replace c11 := Bool.eq_false_iff.mpr c11
   subst c11
   have H1 : (haulierlaw11_RelaxWays.j0 k l3 false true a0_0 a0_1 a0_2 l0_3 a1_0 a1_1 a1_2 a1_3 a1_4 a1_5 a1_6 a1_7 a2_0 a2_1 a2_2 a2_3 a2_4 a2_5 a2_6 a2_7) = some r := by rw [if_neg (show ¬ (false = true) by decide)] at H; exact H
   clear H
   have H := H1
   clear H1
   have H' := zqi H
   clear H
   go_wp2
   go_meet
   case rel => exact ⟨_, (true), (by first | rfl | (simp; done) | (simp [*]; done)), H', ⟨by first | omega | exact Nat.le_refl _⟩, ⟨by (with_reducible repeat (first | apply zqa | apply zqb | apply zqc)); exact BK318.out⟩, ⟨by (with_reducible repeat (first | apply zqa | apply zqb | apply zqc)); exact BK319.out⟩, ⟨by (with_reducible repeat (first | apply zqa | apply zqb | apply zqc)); exact BK320.out⟩, ⟨by repeat (first | (with_reducible first | exact HB.out | apply zqg | apply zqf | apply zqh | refine below_set ?_ GE318.out | refine below_set ?_ GE319.out | refine below_set ?_ GE320.out) | exact HB.out)⟩⟩
 case rest =>
  clear HC6
  try clear c1
  try clear c2
  try clear p2
  try clear c3
  try clear c4
  try clear c5
  try clear c6
  try clear c11
  try clear c12
  try clear c12b0
  try clear c12b1
  try clear c13
  try clear c14
  try clear c16
  try clear c16b0
  try clear c16b1
  try clear c17
  try clear c18
  try clear c20
  try clear c20b0
  try clear c20b1
  try clear c21
  try clear c22
  try clear c25
  try clear c26
  try clear c26b0
  try clear c27
  try clear c28
  try clear c30
  try clear c35
  try clear c35b0
  try clear c36
  try clear c37
  try clear c39
  try clear c44
  try clear c45
  try clear c47
  try clear c52
  try clear c53
  try clear c55
  try clear hcz15_0
  try clear hcz15_1
  try clear hcz15_2
  try clear hcz15_3
  try clear hcz19_0
  try clear hcz19_1
  try clear hcz19_2
  try clear hcz19_3
  try clear hcz23_0
  try clear hcz23_1
  try clear hcz23_2
  try clear hcz23_3
  try clear hcz29_0
  try clear hcz29_1
  try clear hcz29_2
  try clear hcz29_3
  try clear hcz31_0
  try clear hcz31_1
  try clear hcz31_2
  try clear hcz31_3
  try clear hcz31_4
  try clear hcz31_5
  try clear hcz31_6
  try clear hcz31_7
  try clear hcz32_0
  try clear hcz32_1
  try clear hcz32_2
  try clear hcz32_3
  try clear hcz32_4
  try clear hcz32_5
  try clear hcz32_6
  try clear hcz32_7
  try clear hcz34_0
  try clear hcz34_1
  try clear hcz34_2
  try clear hcz34_3
  try clear hcz34_4
  try clear hcz34_5
  try clear hcz34_6
  try clear hcz34_7
  try clear hcz38_0
  try clear hcz38_1
  try clear hcz38_2
  try clear hcz38_3
  try clear hcz40_0
  try clear hcz40_1
  try clear hcz40_2
  try clear hcz40_3
  try clear hcz40_4
  try clear hcz40_5
  try clear hcz40_6
  try clear hcz40_7
  try clear hcz41_0
  try clear hcz41_1
  try clear hcz41_2
  try clear hcz41_3
  try clear hcz41_4
  try clear hcz41_5
  try clear hcz41_6
  try clear hcz41_7
  try clear hcz43_0
  try clear hcz43_1
  try clear hcz43_2
  try clear hcz43_3
  try clear hcz43_4
  try clear hcz43_5
  try clear hcz43_6
  try clear hcz43_7
  try clear hcz46_0
  try clear hcz46_1
  try clear hcz46_2
  try clear hcz46_3
  try clear hcz48_0
  try clear hcz48_1
  try clear hcz48_2
  try clear hcz48_3
  try clear hcz48_4
  try clear hcz48_5
  try clear hcz48_6
  try clear hcz48_7
  try clear hcz49_0
  try clear hcz49_1
  try clear hcz49_2
  try clear hcz49_3
  try clear hcz49_4
  try clear hcz49_5
  try clear hcz49_6
  try clear hcz49_7
  try clear hcz51_0
  try clear hcz51_1
  try clear hcz51_2
  try clear hcz51_3
  try clear hcz51_4
  try clear hcz51_5
  try clear hcz51_6
  try clear hcz51_7
  try clear hcz54_0
  try clear hcz54_1
  try clear hcz54_2
  try clear hcz54_3
  try clear hcz56_0
  try clear hcz56_1
  try clear hcz56_2
  try clear hcz56_3
  try clear hcz56_4
  try clear hcz56_5
  try clear hcz56_6
  try clear hcz56_7
  try clear hcz57_0
  try clear hcz57_1
  try clear hcz57_2
  try clear hcz57_3
  try clear hcz57_4
  try clear hcz57_5
  try clear hcz57_6
  try clear hcz57_7
  try clear hfz15_0
  try clear hfz15_1
  try clear hfz15_2
  try clear hfz15_3
  try clear hfz19_0
  try clear hfz19_1
  try clear hfz19_2
  try clear hfz19_3
  try clear hfz23_0
  try clear hfz23_1
  try clear hfz23_2
  try clear hfz23_3
  try clear hfz29_0
  try clear hfz29_1
  try clear hfz29_2
  try clear hfz29_3
  try clear hfz31_0
  try clear hfz31_1
  try clear hfz31_2
  try clear hfz31_3
  try clear hfz31_4
  try clear hfz31_5
  try clear hfz31_6
  try clear hfz31_7
  try clear hfz32_0
  try clear hfz32_1
  try clear hfz32_2
  try clear hfz32_3
  try clear hfz32_4
  try clear hfz32_5
  try clear hfz32_6
  try clear hfz32_7
  try clear hfz34_0
  try clear hfz34_1
  try clear hfz34_2
  try clear hfz34_3
  try clear hfz34_4
  try clear hfz34_5
  try clear hfz34_6
  try clear hfz34_7
  try clear hfz38_0
  try clear hfz38_1
  try clear hfz38_2
  try clear hfz38_3
  try clear hfz40_0
  try clear hfz40_1
  try clear hfz40_2
  try clear hfz40_3
  try clear hfz40_4
  try clear hfz40_5
  try clear hfz40_6
  try clear hfz40_7
  try clear hfz41_0
  try clear hfz41_1
  try clear hfz41_2
  try clear hfz41_3
  try clear hfz41_4
  try clear hfz41_5
  try clear hfz41_6
  try clear hfz41_7
  try clear hfz43_0
  try clear hfz43_1
  try clear hfz43_2
  try clear hfz43_3
  try clear hfz43_4
  try clear hfz43_5
  try clear hfz43_6
  try clear hfz43_7
  try clear hfz46_0
  try clear hfz46_1
  try clear hfz46_2
  try clear hfz46_3
  try clear hfz48_0
  try clear hfz48_1
  try clear hfz48_2
  try clear hfz48_3
  try clear hfz48_4
  try clear hfz48_5
  try clear hfz48_6
  try clear hfz48_7
  try clear hfz49_0
  try clear hfz49_1
  try clear hfz49_2
  try clear hfz49_3
  try clear hfz49_4
  try clear hfz49_5
  try clear hfz49_6
  try clear hfz49_7
  try clear hfz51_0
  try clear hfz51_1
  try clear hfz51_2
  try clear hfz51_3
  try clear hfz51_4
  try clear hfz51_5
  try clear hfz51_6
  try clear hfz51_7
  try clear hfz54_0
  try clear hfz54_1
  try clear hfz54_2
  try clear hfz54_3
  try clear hfz56_0
  try clear hfz56_1
  try clear hfz56_2
  try clear hfz56_3
  try clear hfz56_4
  try clear hfz56_5
  try clear hfz56_6
  try clear hfz56_7
  try clear hfz57_0
  try clear hfz57_1
  try clear hfz57_2
  try clear hfz57_3
  try clear hfz57_4
  try clear hfz57_5
  try clear hfz57_6
  try clear hfz57_7
  obtain ⟨kq, x62_5, rfl, HA, HJ5, BK318, BK319, BK320, HB⟩ := hcut
  cases kq with
  | zero => exact absurd HA.out (by simp [haulierlaw11_RelaxWays.j0])
  | succ kj5 =>
   have H := HA.out
   clear HA
   simp only [haulierlaw11_RelaxWays.j0] at H
   by_cases c59 : x62_5 = true
   ·
    subst c59
    have H1 : (some t321) = some r := by rw [if_pos rfl] at H; exact H
    clear H
    have H := H1
    clear H1
    obtain rfl := Option.some.inj H
    go_wp2
    go_ret
    exact ⟨by first | rfl | (simp [errW_none, errW_some] <;> rfl) | (simp [*, errW_none, errW_some] <;> rfl), by repeat (first | (with_reducible first | exact HB.out | apply zqg | apply zqf | apply zqh | refine below_set ?_ GE318.out | refine below_set ?_ GE319.out | refine below_set ?_ GE320.out) | exact HB.out)⟩
   ·
    replace c59 := Bool.eq_false_iff.mpr c59
    subst c59
    have H1 : (haulierlaw11_RelaxWays.l0 kj5 l3 0 0 0 a0_0 a0_1 a0_2 l0_3 a1_0 a1_1 a1_2 a1_3 a1_4 a1_5 a1_6 a1_7 a2_0 a2_1 a2_2 a2_3 a2_4 a2_5 a2_6 a2_7) = some r := by rw [if_neg (show ¬ (false = true) by decide)] at H; exact H
    clear H
    have H := H1
    clear H1
    have H' := zqi H
    clear H
    go_wp2
    go_loopg [10, 11, 12] kj5 (fun kq v10 v11 v12 w' => ∃ (x10_2 : Int) (x11_2 : Int) (x12_2 : Int) (x320000_2 : Int) (x320001_2 : Int) (x320002_2 : Int) (x320003_2 : Int) (x320004_2 : Int) (x320005_2 : Int) (x320006_2 : Int) (x320007_2 : Int) (x321000_2 : Int) (x321001_2 : Int) (x321002_2 : Int) (x321003_2 : Int) (x321004_2 : Int) (x321005_2 : Int) (x321006_2 : Int) (x321007_2 : Int), v10 = .int .i64 x10_2 ∧ v11 = .int .i64 x11_2 ∧ v12 = .int .i64 x12_2 ∧ Aside0 (haulierlaw11_RelaxWays.l0 kq l3 x10_2 x11_2 x12_2 a0_0 a0_1 a0_2 l0_3 x320000_2 x320001_2 x320002_2 x320003_2 x320004_2 x320005_2 x320006_2 x320007_2 x321000_2 x321001_2 x321002_2 x321003_2 x321004_2 x321005_2 x321006_2 x321007_2 = some r) ∧ Aside0 (kq ≤ kj5) ∧ Aside0 (w'.heap[gb318]? = some (.cells #[.int .i64 a0_0, .int .i64 a0_1, .int .i64 a0_2, (.slice A0_3 l0_3.length c0_3)] 26 (0, 0))) ∧ Aside0 (w'.heap[gb319]? = some (.cells #[.int .i64 x320000_2, .int .i64 x320001_2, .int .i64 x320002_2, .int .i64 x320003_2, .int .i64 x320004_2, .int .u64 x320005_2, .int .u64 x320006_2, .int .u64 x320007_2] 40 (0, 0))) ∧ Aside0 (w'.heap[gb320]? = some (.cells #[.int .i64 x321000_2, .int .i64 x321001_2, .int .i64 x321002_2, .int .i64 x321003_2, .int .i64 x321004_2, .int .u64 x321005_2, .int .u64 x321006_2, .int .u64 x321007_2] 40 (0, 0))) ∧ Aside0 (Below w.heap.size w w'))
    case atStart => exact ⟨(0), (0), (0), (a1_0), (a1_1), (a1_2), (a1_3), (a1_4), (a1_5), (a1_6), (a1_7), (a2_0), (a2_1), (a2_2), (a2_3), (a2_4), (a2_5), (a2_6), (a2_7), (by first | rfl | (simp; done) | (simp [*]; done)), (by first | rfl | (simp; done) | (simp [*]; done)), (by first | rfl | (simp; done) | (simp [*]; done)), H', ⟨Nat.le_refl _⟩, ⟨by (with_reducible repeat (first | apply zqa | apply zqb | apply zqc)); exact BK318.out⟩, ⟨by (with_reducible repeat (first | apply zqa | apply zqb | apply zqc)); exact BK319.out⟩, ⟨by (with_reducible repeat (first | apply zqa | apply zqb | apply zqc)); exact BK320.out⟩, ⟨by repeat (first | (with_reducible first | exact HB.out | apply zqg | apply zqf | apply zqh | refine below_set ?_ GE318.out | refine below_set ?_ GE319.out | refine below_set ?_ GE320.out) | exact HB.out)⟩⟩
    case round =>
     clear H'
     try clear c1
     try clear c2
     try clear p2
     try clear c3
     try clear c4
     try clear c5
     try clear c6
     try clear c11
     try clear c12
     try clear c12b0
     try clear c12b1
     try clear c13
     try clear c14
     try clear c16
     try clear c16b0
     try clear c16b1
     try clear c17
     try clear c18
     try clear c20
     try clear c20b0
     try clear c20b1
     try clear c21
     try clear c22
     try clear c25
     try clear c26
     try clear c26b0
     try clear c27
     try clear c28
     try clear c30
     try clear c35
     try clear c35b0
     try clear c36
     try clear c37
     try clear c39
     try clear c44
     try clear c45
     try clear c47
     try clear c52
     try clear c53
     try clear c55
     try clear c59
     try clear hcz15_0
     try clear hcz15_1
     try clear hcz15_2
     try clear hcz15_3
     try clear hcz19_0
     try clear hcz19_1
     try clear hcz19_2
     try clear hcz19_3
     try clear hcz23_0
     try clear hcz23_1
     try clear hcz23_2
     try clear hcz23_3
     try clear hcz29_0
     try clear hcz29_1
     try clear hcz29_2
     try clear hcz29_3
     try clear hcz31_0
     try clear hcz31_1
     try clear hcz31_2
     try clear hcz31_3
     try clear hcz31_4
     try clear hcz31_5
     try clear hcz31_6
     try clear hcz31_7
     try clear hcz32_0
     try clear hcz32_1
     try clear hcz32_2
     try clear hcz32_3
     try clear hcz32_4
     try clear hcz32_5
     try clear hcz32_6
     try clear hcz32_7
     try clear hcz34_0
     try clear hcz34_1
     try clear hcz34_2
     try clear hcz34_3
     try clear hcz34_4
     try clear hcz34_5
     try clear hcz34_6
     try clear hcz34_7
     try clear hcz38_0
     try clear hcz38_1
     try clear hcz38_2
     try clear hcz38_3
     try clear hcz40_0
     try clear hcz40_1
     try clear hcz40_2
     try clear hcz40_3
     try clear hcz40_4
     try clear hcz40_5
     try clear hcz40_6
     try clear hcz40_7
     try clear hcz41_0
     try clear hcz41_1
     try clear hcz41_2
     try clear hcz41_3
     try clear hcz41_4
     try clear hcz41_5
     try clear hcz41_6
     try clear hcz41_7
     try clear hcz43_0
     try clear hcz43_1
     try clear hcz43_2
     try clear hcz43_3
     try clear hcz43_4
     try clear hcz43_5
     try clear hcz43_6
     try clear hcz43_7
     try clear hcz46_0
     try clear hcz46_1
     try clear hcz46_2
     try clear hcz46_3
     try clear hcz48_0
     try clear hcz48_1
     try clear hcz48_2
     try clear hcz48_3
     try clear hcz48_4
     try clear hcz48_5
     try clear hcz48_6
     try clear hcz48_7
     try clear hcz49_0
     try clear hcz49_1
     try clear hcz49_2
     try clear hcz49_3
     try clear hcz49_4
     try clear hcz49_5
     try clear hcz49_6
     try clear hcz49_7
     try clear hcz51_0
     try clear hcz51_1
     try clear hcz51_2
     try clear hcz51_3
     try clear hcz51_4
     try clear hcz51_5
     try clear hcz51_6
     try clear hcz51_7
     try clear hcz54_0
     try clear hcz54_1
     try clear hcz54_2
     try clear hcz54_3
     try clear hcz56_0
     try clear hcz56_1
     try clear hcz56_2
     try clear hcz56_3
     try clear hcz56_4
     try clear hcz56_5
     try clear hcz56_6
     try clear hcz56_7
     try clear hcz57_0
     try clear hcz57_1
     try clear hcz57_2
     try clear hcz57_3
     try clear hcz57_4
     try clear hcz57_5
     try clear hcz57_6
     try clear hcz57_7
     try clear hfz15_0
     try clear hfz15_1
     try clear hfz15_2
     try clear hfz15_3
     try clear hfz19_0
     try clear hfz19_1
     try clear hfz19_2
     try clear hfz19_3
     try clear hfz23_0
     try clear hfz23_1
     try clear hfz23_2
     try clear hfz23_3
     try clear hfz29_0
     try clear hfz29_1
     try clear hfz29_2
     try clear hfz29_3
     try clear hfz31_0
     try clear hfz31_1
     try clear hfz31_2
     try clear hfz31_3
     try clear hfz31_4
     try clear hfz31_5
     try clear hfz31_6
     try clear hfz31_7
     try clear hfz32_0
     try clear hfz32_1
     try clear hfz32_2
     try clear hfz32_3
     try clear hfz32_4
     try clear hfz32_5
     try clear hfz32_6
     try clear hfz32_7
     try clear hfz34_0
     try clear hfz34_1
     try clear hfz34_2
     try clear hfz34_3
     try clear hfz34_4
     try clear hfz34_5
     try clear hfz34_6
     try clear hfz34_7
     try clear hfz38_0
     try clear hfz38_1
     try clear hfz38_2
     try clear hfz38_3
     try clear hfz40_0
     try clear hfz40_1
     try clear hfz40_2
     try clear hfz40_3
     try clear hfz40_4
     try clear hfz40_5
     try clear hfz40_6
     try clear hfz40_7
     try clear hfz41_0
     try clear hfz41_1
     try clear hfz41_2
     try clear hfz41_3
     try clear hfz41_4
     try clear hfz41_5
     try clear hfz41_6
     try clear hfz41_7
     try clear hfz43_0
     try clear hfz43_1
     try clear hfz43_2
     try clear hfz43_3
     try clear hfz43_4
     try clear hfz43_5
     try clear hfz43_6
     try clear hfz43_7
     try clear hfz46_0
     try clear hfz46_1
     try clear hfz46_2
     try clear hfz46_3
     try clear hfz48_0
     try clear hfz48_1
     try clear hfz48_2
     try clear hfz48_3
     try clear hfz48_4
     try clear hfz48_5
     try clear hfz48_6
     try clear hfz48_7
     try clear hfz49_0
     try clear hfz49_1
     try clear hfz49_2
     try clear hfz49_3
     try clear hfz49_4
     try clear hfz49_5
     try clear hfz49_6
     try clear hfz49_7
     try clear hfz51_0
     try clear hfz51_1
     try clear hfz51_2
     try clear hfz51_3
     try clear hfz51_4
     try clear hfz51_5
     try clear hfz51_6
     try clear hfz51_7
     try clear hfz54_0
     try clear hfz54_1
     try clear hfz54_2
     try clear hfz54_3
     try clear hfz56_0
     try clear hfz56_1
     try clear hfz56_2
     try clear hfz56_3
     try clear hfz56_4
     try clear hfz56_5
     try clear hfz56_6
     try clear hfz56_7
     try clear hfz57_0
     try clear hfz57_1
     try clear hfz57_2
     try clear hfz57_3
     try clear hfz57_4
     try clear hfz57_5
     try clear hfz57_6
     try clear hfz57_7
     try clear p2
     obtain ⟨x10_2, x11_2, x12_2, x320000_2, x320001_2, x320002_2, x320003_2, x320004_2, x320005_2, x320006_2, x320007_2, x321000_2, x321001_2, x321002_2, x321003_2, x321004_2, x321005_2, x321006_2, x321007_2, rfl, rfl, rfl, HA, HK2, BK318, BK319, BK320, HB⟩ := hrel
     cases gk with
     | zero => exact absurd HA.out (by simp [haulierlaw11_RelaxWays.l0])
     | succ k2 =>
      have H := HA.out
      clear HA
      simp only [haulierlaw11_RelaxWays.l0] at H
      by_cases c60 : x12_2 < (l3.length : Int)
      ·
       rw [if_pos c60] at H
       have c60b0 : decide (x12_2 < (l3.length : Int)) = true := decide_eq_true c60
       clear c60
       by_cases c61 : 0 ≤ x12_2
       ·
        rw [if_pos c61] at H
        have c61b0 : decide (0 ≤ x12_2) = true := decide_eq_true c61
        clear c61
        replace H := Option.bind_eq_some_iff.mp H
        obtain ⟨⟨t328, t329, t330, t331, t332, t333, t334, t335, t336, t337⟩, A620, H⟩ := H
        replace H : ((state_Move.f k2 a0_0 a0_1 a0_2 l0_3 x320000_2 x320001_2 x320002_2 x320003_2 x320004_2 x320005_2 x320006_2 x320007_2 (rd l3 x12_2)).bind fun bt340 => (if t337 = true then (if bt340.2.2.2.2.2.2.2.2.2 = true then (haulierlaw11_RelaxWays.l0 k2 l3 (wrap64 (x10_2 + t336)) (wrap64 (x11_2 + bt340.2.2.2.2.2.2.2.2.1)) (wrap64 (x12_2 + 1)) a0_0 a0_1 a0_2 l0_3 bt340.1 bt340.2.1 bt340.2.2.1 bt340.2.2.2.1 bt340.2.2.2.2.1 bt340.2.2.2.2.2.1 bt340.2.2.2.2.2.2.1 bt340.2.2.2.2.2.2.2.1 t328 t329 t330 t331 t332 t333 t334 t335) else (none)) else (some true))) = some r := H
        have A62 := zqi A620
        clear A620
        replace H := Option.bind_eq_some_iff.mp H
        obtain ⟨⟨t340, t341, t342, t343, t344, t345, t346, t347, t348, t349⟩, A630, H⟩ := H
        replace H : (if t337 = true then (if t349 = true then (haulierlaw11_RelaxWays.l0 k2 l3 (wrap64 (x10_2 + t336)) (wrap64 (x11_2 + t348)) (wrap64 (x12_2 + 1)) a0_0 a0_1 a0_2 l0_3 t340 t341 t342 t343 t344 t345 t346 t347 t328 t329 t330 t331 t332 t333 t334 t335) else (none)) else (some true)) = some r := H
        have A63 := zqi A630
        clear A630
        by_cases c64 : t337 = true
        ·
         subst c64
         have H1 : (if t349 = true then (haulierlaw11_RelaxWays.l0 k2 l3 (wrap64 (x10_2 + t336)) (wrap64 (x11_2 + t348)) (wrap64 (x12_2 + 1)) a0_0 a0_1 a0_2 l0_3 t340 t341 t342 t343 t344 t345 t346 t347 t328 t329 t330 t331 t332 t333 t334 t335) else (none)) = some r := by rw [if_pos rfl] at H; exact H
         clear H
         have H := H1
         clear H1
         by_cases c65 : t349 = true
         ·
          subst c65
          have H1 : (haulierlaw11_RelaxWays.l0 k2 l3 (wrap64 (x10_2 + t336)) (wrap64 (x11_2 + t348)) (wrap64 (x12_2 + 1)) a0_0 a0_1 a0_2 l0_3 t340 t341 t342 t343 t344 t345 t346 t347 t328 t329 t330 t331 t332 t333 t334 t335) = some r := by rw [if_pos rfl] at H; exact H
          clear H
          have H := H1
          clear H1
          have H' := zqi H
          clear H
          try go_wp2
          have n0_ := zqi (zqb BK318.out)
          have n1_ := zqi (zqb BK319.out)
          have n2_ := zqi (zqb BK320.out)
          have n3_ := zqi (zqh HB.out)
          clear BK318
          clear BK319
          clear BK320
          clear HB
          have BK318 := n0_
          have BK319 := n1_
          have BK320 := n2_
          have HB := n3_
          clear n0_ n1_ n2_ n3_
          have p327 : 0 ≤ (x12_2 : Int) := of_decide_eq_true (by first | (with_reducible assumption) | assumption)
          have q327 : x12_2 < (l3.length : Int) := of_decide_eq_true (by first | (with_reducible assumption) | assumption)
          obtain ⟨ad327, e327, hx327_0⟩ := Kd.at_int HR3.out x12_2 p327 q327
          have hw327_0 := hx327_0
          cases e327
          replace hx327_0 := (HB.out.cell (World.block_lt_of_cell? w _ hx327_0)).trans hx327_0
          replace p327 := eq_true p327
          replace q327 := eq_true q327
          refine start_ (n := 15) (S := fun w' => w'.cell? ⟨gb318, 0, none⟩ = some (.int .i64 a0_0) ∧ w'.cell? ⟨gb318, 1, none⟩ = some (.int .i64 a0_1) ∧ w'.cell? ⟨gb318, 2, none⟩ = some (.int .i64 a0_2) ∧ w'.cell? ⟨gb318, 3, none⟩ = some (.slice A0_3 l0_3.length c0_3) ∧ w'.cell? ⟨gb320, 0, none⟩ = some (.int .i64 x321000_2) ∧ w'.cell? ⟨gb320, 1, none⟩ = some (.int .i64 x321001_2) ∧ w'.cell? ⟨gb320, 2, none⟩ = some (.int .i64 x321002_2) ∧ w'.cell? ⟨gb320, 3, none⟩ = some (.int .i64 x321003_2) ∧ w'.cell? ⟨gb320, 4, none⟩ = some (.int .i64 x321004_2) ∧ w'.cell? ⟨gb320, 5, none⟩ = some (.int .u64 x321005_2) ∧ w'.cell? ⟨gb320, 6, none⟩ = some (.int .u64 x321006_2) ∧ w'.cell? ⟨gb320, 7, none⟩ = some (.int .u64 x321007_2) ∧ w'.cell? (ad327.add (x12_2).toNat) = some (.int .i64 (rd l3 x12_2))) (ds := []) (zqB 15 0) (by kernel_rfl) rfl rfl ⟨(zqe BK318.out 0).trans rfl, (zqe BK318.out 1).trans rfl, (zqe BK318.out 2).trans rfl, (zqe BK318.out 3).trans rfl, (zqe BK320.out 0).trans rfl, (zqe BK320.out 1).trans rfl, (zqe BK320.out 2).trans rfl, (zqe BK320.out 3).trans rfl, (zqe BK320.out 4).trans rfl, (zqe BK320.out 5).trans rfl, (zqe BK320.out 6).trans rfl, (zqe BK320.out 7).trans rfl, ((HB.out.cell (World.block_lt_of_cell? w _ hw327_0)).trans hw327_0)⟩ (fun hHeld => ?_); refine with_tabW haulierlaw11_RelaxWays.tab9 haulierlaw11_RelaxWays.bits9 (fun HT_ HW_ => ?_)
          generalize wr.drew = w66 at BK318 BK319 BK320 HB hx327_0 hHeld ⊢
          refine zqp 2 (some 73) (zqB 15 4) (any_of HT_.out (by kernel_rfl)) (h := ?_)
          refine zqp 3 (some 74) (zqB 15 12) (any_of HT_.out (by kernel_rfl)) (h := ?_)
          refine zqp 4 (some 75) (zqB 15 28) (any_of HT_.out (by kernel_rfl)) (h := ?_)
          refine zqt 0 (some 71) (zqB 15 29) (take_ofW HT_.out HW_.out (by kernel_rfl)) hHeld (h := ?_)
          refine zqt 1 (some 72) (zqB 15 31) (take_ofW HT_.out HW_.out (by kernel_rfl)) hHeld (h := ?_)
          refine zqt 5 (some 76) (zqB 15 63) (take_ofW HT_.out HW_.out (by kernel_rfl)) hHeld (h := ?_)
          refine join_ (σ := Nat) 3 (zqB 15 4095) (fun s_ => [(77, .tuple #[.agg #[.int .i64 t328, .int .i64 t329, .int .i64 t330, .int .i64 t331, .int .i64 t332, .int .u64 t333, .int .u64 t334, .int .u64 t335], .int .i64 t336, .bool true]), (13, .pointer (some ⟨s_, 0, none⟩)), (70, .tuple #[.agg #[.int .i64 t328, .int .i64 t329, .int .i64 t330, .int .i64 t331, .int .i64 t332, .int .u64 t333, .int .u64 t334, .int .u64 t335], .int .i64 t336, .bool true]), (78, .agg #[.int .i64 t328, .int .i64 t329, .int .i64 t330, .int .i64 t331, .int .i64 t332, .int .u64 t333, .int .u64 t334, .int .u64 t335]), (79, .int .i64 t336), (80, .bool true)]) (fun s_ w' => (w'.cell? ⟨gb318, 0, none⟩ = some (.int .i64 a0_0) ∧ w'.cell? ⟨gb318, 1, none⟩ = some (.int .i64 a0_1) ∧ w'.cell? ⟨gb318, 2, none⟩ = some (.int .i64 a0_2) ∧ w'.cell? ⟨gb318, 3, none⟩ = some (.slice A0_3 l0_3.length c0_3) ∧ w'.cell? ⟨gb320, 0, none⟩ = some (.int .i64 x321000_2) ∧ w'.cell? ⟨gb320, 1, none⟩ = some (.int .i64 x321001_2) ∧ w'.cell? ⟨gb320, 2, none⟩ = some (.int .i64 x321002_2) ∧ w'.cell? ⟨gb320, 3, none⟩ = some (.int .i64 x321003_2) ∧ w'.cell? ⟨gb320, 4, none⟩ = some (.int .i64 x321004_2) ∧ w'.cell? ⟨gb320, 5, none⟩ = some (.int .u64 x321005_2) ∧ w'.cell? ⟨gb320, 6, none⟩ = some (.int .u64 x321006_2) ∧ w'.cell? ⟨gb320, 7, none⟩ = some (.int .u64 x321007_2) ∧ w'.cell? (ad327.add (x12_2).toNat) = some (.int .i64 (rd l3 x12_2))) ∧ (w'.heap[gb318]? = some (.cells #[.int .i64 a0_0, .int .i64 a0_1, .int .i64 a0_2, .slice A0_3 l0_3.length c0_3] 26 (0, 0))) ∧ (w'.heap[gb319]? = some (.cells #[.int .i64 x320000_2, .int .i64 x320001_2, .int .i64 x320002_2, .int .i64 x320003_2, .int .i64 x320004_2, .int .u64 x320005_2, .int .u64 x320006_2, .int .u64 x320007_2] 40 (0, 0))) ∧ (w'.heap[gb320]? = some (.cells #[.int .i64 x321000_2, .int .i64 x321001_2, .int .i64 x321002_2, .int .i64 x321003_2, .int .i64 x321004_2, .int .u64 x321005_2, .int .u64 x321006_2, .int .u64 x321007_2] 40 (0, 0))) ∧ (w'.heap[s_]? = some (.cells #[.int .i64 0, .int .i64 0, .int .i64 0, .int .i64 0, .int .i64 0, .int .u64 0, .int .u64 0, .int .u64 0] 40 (0, 0))) ∧ (w.heap.size ≤ s_) ∧ (w.heap.size ≤ s_) ∧ (gb318 ≠ s_) ∧ (s_ ≠ gb318) ∧ (gb319 ≠ s_) ∧ (s_ ≠ gb319) ∧ (gb320 ≠ s_) ∧ (s_ ≠ gb320) ∧ (Below w.heap.size w w')) ?_ ?_
          rotate_left
          ·
           intro hCont
           refine two_ (i := 6) (j := 11) (Ni := some 77) (Nj := some 13) (zqB 15 127) (zqB 15 2111) rfl rfl rfl rfl (two_of HT_.out (by kernel_rfl)) (by decide) (by decide) (fun K hK => ?_) (fun K hK => ?_)
           ·
            skip
            refine goes_ Try.func22 (by kernel_rfl) rfl #[.agg #[.int .i64 a0_0, .int .i64 a0_1, .int .i64 a0_2, .slice A0_3 l0_3.length c0_3], .agg #[.int .i64 x321000_2, .int .i64 x321001_2, .int .i64 x321002_2, .int .i64 x321003_2, .int .i64 x321004_2, .int .u64 x321005_2, .int .u64 x321006_2, .int .u64 x321007_2], .int .i64 (rd l3 x12_2)] (by rfl) rfl rfl (by (try simp only [List.map_toArray, List.map_cons, List.map_nil]); first | done | rfl | (simp only [List.length_drop, List.length_take]; rfl)) ?_
            with_reducible refine (state_Move.calls k2 a0_0 a0_1 a0_2 _ _ l0_3 x321000_2 x321001_2 x321002_2 x321003_2 x321004_2 x321005_2 x321006_2 x321007_2 (rd l3 x12_2) t328 t329 t330 t331 t332 t333 t334 t335 t336 true _ ?side1 ?side2 A62.out).mono ?_
            (case side1 => repeat (first | exact (Kd.C_below HR0_3.out HB.out) | (with_reducible refine Kd.C_alloc ?_ _) | (with_reducible refine Kd.C_drewN ?_ _) | (with_reducible refine Kd.C_drew ?_)))
            (case side2 => exact HC0_3.out)
            rintro e w67 ⟨rfl, hb⟩
            refine ⟨_, rfl, ?_⟩
            have n0_ := zqi (zqy BK318.out hb)
            have n1_ := zqi (zqy BK319.out hb)
            have n2_ := zqi (zqy BK320.out hb)
            have n3_ := zqi (below_step (zqn HB.out) hb)
            clear BK318
            clear BK319
            clear BK320
            clear HB
            have BK318 := n0_
            have BK319 := n1_
            have BK320 := n2_
            have HB := n3_
            clear n0_ n1_ n2_ n3_
            (try clear hb)
            (try clear hb2)
            (try clear hk)
            (try clear hi)
            refine hK.out _ _ ⟨(zqe BK318.out 0).trans rfl, (zqe BK318.out 1).trans rfl, (zqe BK318.out 2).trans rfl, (zqe BK318.out 3).trans rfl, (zqe BK320.out 0).trans rfl, (zqe BK320.out 1).trans rfl, (zqe BK320.out 2).trans rfl, (zqe BK320.out 3).trans rfl, (zqe BK320.out 4).trans rfl, (zqe BK320.out 5).trans rfl, (zqe BK320.out 6).trans rfl, (zqe BK320.out 7).trans rfl, ((HB.out.cell (World.block_lt_of_cell? w _ hw327_0)).trans hw327_0)⟩ (fun hHeld => ?_)
            clear hK K
            refine norm_ (a' := ?_) ?_ ?_
            rotate_left
            ·
             show Act.put _ (some 77) _ = _
             simp only [Act.put, List.setIfInBounds_toArray, List.set_cons_zero, List.set_cons_succ, i64_w, i32_w]
             rfl
            refine zqp 7 (some 70) (zqB 15 255) (any_of HT_.out (by kernel_rfl)) (h := ?_)
            refine zqp 8 (some 78) (zqB 15 511) (any_of HT_.out (by kernel_rfl)) (h := ?_)
            refine zqp 9 (some 79) (zqB 15 1023) (any_of HT_.out (by kernel_rfl)) (h := ?_)
            refine zqp 10 (some 80) (zqB 15 2047) (any_of HT_.out (by kernel_rfl)) (h := ?_)
            refine one_ (i := 11) (N := some 13) (zqB 15 4095) rfl rfl (one_of HT_.out (by kernel_rfl)) (by decide) (fun K hK => ?_)
            refine box_step ?hg (N := 13) ?hd (cs := #[.int .i64 0, .int .i64 0, .int .i64 0, .int .i64 0, .int .i64 0, .int .u64 0, .int .u64 0, .int .u64 0]) (t := 40) ?hr ?_; (case hd => rfl); (case hg => rfl); (case hr => first | (go_simp; done) | (go_simp; rfl))
            intro gb338 hg w68 hbox hb
            have n0_ := zqi (zqy BK318.out hb)
            have n1_ := zqi (zqy BK319.out hb)
            have n2_ := zqi (zqy BK320.out hb)
            have n3_ := zqi (below_step (zqn HB.out) hb)
            have n4_ := zqi (hbox)
            have n5_ := zqi (zqo hg HB.out)
            have n6_ := zqi (zqo hg HB.out)
            have n7_ := zqi ((zqq hg BK318.out))
            have n8_ := zqi ((zqr hg BK318.out))
            have n9_ := zqi ((zqq hg BK319.out))
            have n10_ := zqi ((zqr hg BK319.out))
            have n11_ := zqi ((zqq hg BK320.out))
            have n12_ := zqi ((zqr hg BK320.out))
            clear BK318
            clear BK319
            clear BK320
            clear HB
            have BK318 := n0_
            have BK319 := n1_
            have BK320 := n2_
            have HB := n3_
            have BK338 := n4_
            have GW338 := n5_
            have GE338 := n6_
            have NB318_338 := n7_
            have NB338_318 := n8_
            have NB319_338 := n9_
            have NB338_319 := n10_
            have NB320_338 := n11_
            have NB338_320 := n12_
            clear n0_ n1_ n2_ n3_ n4_ n5_ n6_ n7_ n8_ n9_ n10_ n11_ n12_
            clear hb hbox hg
            refine hK.out _ _ ⟨(zqe BK318.out 0).trans rfl, (zqe BK318.out 1).trans rfl, (zqe BK318.out 2).trans rfl, (zqe BK318.out 3).trans rfl, (zqe BK320.out 0).trans rfl, (zqe BK320.out 1).trans rfl, (zqe BK320.out 2).trans rfl, (zqe BK320.out 3).trans rfl, (zqe BK320.out 4).trans rfl, (zqe BK320.out 5).trans rfl, (zqe BK320.out 6).trans rfl, (zqe BK320.out 7).trans rfl, ((HB.out.cell (World.block_lt_of_cell? w _ hw327_0)).trans hw327_0)⟩ (fun hHeld => ?_)
            clear hK K
            refine norm_ (a' := ?_) ?_ ?_
            rotate_left
            ·
             show Act.put _ (some 13) _ = _
             simp only [Act.put, List.setIfInBounds_toArray, List.set_cons_zero, List.set_cons_succ, i64_w, i32_w]
             rfl
            exact norm_ (by simp only [putAll, Act.put, List.setIfInBounds_toArray, List.set_cons_zero, List.set_cons_succ]) (hCont (gb338) _ ⟨hHeld, (zqm BK318.out), (zqm BK319.out), (zqm BK320.out), (zqm BK338.out), GW338.out, GE338.out, NB318_338.out, NB338_318.out, NB319_338.out, NB338_319.out, NB320_338.out, NB338_320.out, (zqn HB.out)⟩)
           ·
            skip
            refine box_step ?hg (N := 13) ?hd (cs := #[.int .i64 0, .int .i64 0, .int .i64 0, .int .i64 0, .int .i64 0, .int .u64 0, .int .u64 0, .int .u64 0]) (t := 40) ?hr ?_; (case hd => rfl); (case hg => rfl); (case hr => first | (go_simp; done) | (go_simp; rfl))
            intro gb338 hg w67 hbox hb
            have n0_ := zqi (zqy BK318.out hb)
            have n1_ := zqi (zqy BK319.out hb)
            have n2_ := zqi (zqy BK320.out hb)
            have n3_ := zqi (below_step (zqn HB.out) hb)
            have n4_ := zqi (hbox)
            have n5_ := zqi (zqo hg HB.out)
            have n6_ := zqi (zqo hg HB.out)
            have n7_ := zqi ((zqq hg BK318.out))
            have n8_ := zqi ((zqr hg BK318.out))
            have n9_ := zqi ((zqq hg BK319.out))
            have n10_ := zqi ((zqr hg BK319.out))
            have n11_ := zqi ((zqq hg BK320.out))
            have n12_ := zqi ((zqr hg BK320.out))
            clear BK318
            clear BK319
            clear BK320
            clear HB
            have BK318 := n0_
            have BK319 := n1_
            have BK320 := n2_
            have HB := n3_
            have BK338 := n4_
            have GW338 := n5_
            have GE338 := n6_
            have NB318_338 := n7_
            have NB338_318 := n8_
            have NB319_338 := n9_
            have NB338_319 := n10_
            have NB320_338 := n11_
            have NB338_320 := n12_
            clear n0_ n1_ n2_ n3_ n4_ n5_ n6_ n7_ n8_ n9_ n10_ n11_ n12_
            clear hb hbox hg
            refine hK.out _ _ ⟨(zqe BK318.out 0).trans rfl, (zqe BK318.out 1).trans rfl, (zqe BK318.out 2).trans rfl, (zqe BK318.out 3).trans rfl, (zqe BK320.out 0).trans rfl, (zqe BK320.out 1).trans rfl, (zqe BK320.out 2).trans rfl, (zqe BK320.out 3).trans rfl, (zqe BK320.out 4).trans rfl, (zqe BK320.out 5).trans rfl, (zqe BK320.out 6).trans rfl, (zqe BK320.out 7).trans rfl, ((HB.out.cell (World.block_lt_of_cell? w _ hw327_0)).trans hw327_0)⟩ (fun hHeld => ?_)
            clear hK K
            refine norm_ (a' := ?_) ?_ ?_
            rotate_left
            ·
             show Act.put _ (some 13) _ = _
             simp only [Act.put, List.setIfInBounds_toArray, List.set_cons_zero, List.set_cons_succ, i64_w, i32_w]
             rfl
            refine one_ (i := 6) (N := some 77) (zqB 15 2175) rfl rfl (one_of HT_.out (by kernel_rfl)) (by decide) (fun K hK => ?_)
            refine goes_ Try.func22 (by kernel_rfl) rfl #[.agg #[.int .i64 a0_0, .int .i64 a0_1, .int .i64 a0_2, .slice A0_3 l0_3.length c0_3], .agg #[.int .i64 x321000_2, .int .i64 x321001_2, .int .i64 x321002_2, .int .i64 x321003_2, .int .i64 x321004_2, .int .u64 x321005_2, .int .u64 x321006_2, .int .u64 x321007_2], .int .i64 (rd l3 x12_2)] (by rfl) rfl rfl (by (try simp only [List.map_toArray, List.map_cons, List.map_nil]); first | done | rfl | (simp only [List.length_drop, List.length_take]; rfl)) ?_
            with_reducible refine (state_Move.calls k2 a0_0 a0_1 a0_2 _ _ l0_3 x321000_2 x321001_2 x321002_2 x321003_2 x321004_2 x321005_2 x321006_2 x321007_2 (rd l3 x12_2) t328 t329 t330 t331 t332 t333 t334 t335 t336 true _ ?side1 ?side2 A62.out).mono ?_
            (case side1 => repeat (first | exact (Kd.C_below HR0_3.out HB.out) | (with_reducible refine Kd.C_alloc ?_ _) | (with_reducible refine Kd.C_drewN ?_ _) | (with_reducible refine Kd.C_drew ?_)))
            (case side2 => exact HC0_3.out)
            rintro e w68 ⟨rfl, hb⟩
            refine ⟨_, rfl, ?_⟩
            have n0_ := zqi (zqy BK318.out hb)
            have n1_ := zqi (zqy BK319.out hb)
            have n2_ := zqi (zqy BK320.out hb)
            have n3_ := zqi (zqy BK338.out hb)
            have n4_ := zqi (below_step (zqn HB.out) hb)
            clear BK318
            clear BK319
            clear BK320
            clear BK338
            clear HB
            have BK318 := n0_
            have BK319 := n1_
            have BK320 := n2_
            have BK338 := n3_
            have HB := n4_
            clear n0_ n1_ n2_ n3_ n4_
            (try clear hb)
            (try clear hb2)
            (try clear hk)
            (try clear hi)
            refine hK.out _ _ ⟨(zqe BK318.out 0).trans rfl, (zqe BK318.out 1).trans rfl, (zqe BK318.out 2).trans rfl, (zqe BK318.out 3).trans rfl, (zqe BK320.out 0).trans rfl, (zqe BK320.out 1).trans rfl, (zqe BK320.out 2).trans rfl, (zqe BK320.out 3).trans rfl, (zqe BK320.out 4).trans rfl, (zqe BK320.out 5).trans rfl, (zqe BK320.out 6).trans rfl, (zqe BK320.out 7).trans rfl, ((HB.out.cell (World.block_lt_of_cell? w _ hw327_0)).trans hw327_0)⟩ (fun hHeld => ?_)
            clear hK K
            refine norm_ (a' := ?_) ?_ ?_
            rotate_left
            ·
             show Act.put _ (some 77) _ = _
             simp only [Act.put, List.setIfInBounds_toArray, List.set_cons_zero, List.set_cons_succ, i64_w, i32_w]
             rfl
            refine zqp 7 (some 70) (zqB 15 2303) (any_of HT_.out (by kernel_rfl)) (h := ?_)
            refine zqp 8 (some 78) (zqB 15 2559) (any_of HT_.out (by kernel_rfl)) (h := ?_)
            refine zqp 9 (some 79) (zqB 15 3071) (any_of HT_.out (by kernel_rfl)) (h := ?_)
            refine zqp 10 (some 80) (zqB 15 4095) (any_of HT_.out (by kernel_rfl)) (h := ?_)
            exact norm_ (by simp only [putAll, Act.put, List.setIfInBounds_toArray, List.set_cons_zero, List.set_cons_succ]) (hCont (gb338) _ ⟨hHeld, (zqm BK318.out), (zqm BK319.out), (zqm BK320.out), (zqm BK338.out), GW338.out, GE338.out, NB318_338.out, NB338_318.out, NB319_338.out, NB338_319.out, NB320_338.out, NB338_320.out, (zqn HB.out)⟩)
          rintro gb338 w69 ⟨hS_, h0_, h1_, h2_, h3_, h4_, h5_, h6_, h7_, h8_, h9_, h10_, h11_, h12_⟩
          have n0_ : Aside0 (w69.heap[gb318]? = some (.cells #[.int .i64 a0_0, .int .i64 a0_1, .int .i64 a0_2, .slice A0_3 l0_3.length c0_3] 26 (0, 0))) := ⟨h0_⟩
          have n1_ : Aside0 (w69.heap[gb319]? = some (.cells #[.int .i64 x320000_2, .int .i64 x320001_2, .int .i64 x320002_2, .int .i64 x320003_2, .int .i64 x320004_2, .int .u64 x320005_2, .int .u64 x320006_2, .int .u64 x320007_2] 40 (0, 0))) := ⟨h1_⟩
          have n2_ : Aside0 (w69.heap[gb320]? = some (.cells #[.int .i64 x321000_2, .int .i64 x321001_2, .int .i64 x321002_2, .int .i64 x321003_2, .int .i64 x321004_2, .int .u64 x321005_2, .int .u64 x321006_2, .int .u64 x321007_2] 40 (0, 0))) := ⟨h2_⟩
          have n3_ : Aside0 (w69.heap[gb338]? = some (.cells #[.int .i64 0, .int .i64 0, .int .i64 0, .int .i64 0, .int .i64 0, .int .u64 0, .int .u64 0, .int .u64 0] 40 (0, 0))) := ⟨h3_⟩
          have n4_ : Aside0 (w.heap.size ≤ gb338) := ⟨h4_⟩
          have n5_ : Aside0 (w.heap.size ≤ gb338) := ⟨h5_⟩
          have n6_ : Aside0 (gb318 ≠ gb338) := ⟨h6_⟩
          have n7_ : Aside0 (gb338 ≠ gb318) := ⟨h7_⟩
          have n8_ : Aside0 (gb319 ≠ gb338) := ⟨h8_⟩
          have n9_ : Aside0 (gb338 ≠ gb319) := ⟨h9_⟩
          have n10_ : Aside0 (gb320 ≠ gb338) := ⟨h10_⟩
          have n11_ : Aside0 (gb338 ≠ gb320) := ⟨h11_⟩
          have n12_ : Aside0 (Below w.heap.size w w69) := ⟨h12_⟩
          clear BK318
          clear BK319
          clear BK320
          clear HB
          clear h0_ h1_ h2_ h3_ h4_ h5_ h6_ h7_ h8_ h9_ h10_ h11_ h12_
          have BK318 := n0_
          have BK319 := n1_
          have BK320 := n2_
          have BK338 := n3_
          have GW338 := n4_
          have GE338 := n5_
          have NB318_338 := n6_
          have NB338_318 := n7_
          have NB319_338 := n8_
          have NB338_319 := n9_
          have NB320_338 := n10_
          have NB338_320 := n11_
          have HB := n12_
          clear n0_ n1_ n2_ n3_ n4_ n5_ n6_ n7_ n8_ n9_ n10_ n11_ n12_
          have hHeld : w69.cell? ⟨gb318, 0, none⟩ = some (.int .i64 a0_0) ∧ w69.cell? ⟨gb318, 1, none⟩ = some (.int .i64 a0_1) ∧ w69.cell? ⟨gb318, 2, none⟩ = some (.int .i64 a0_2) ∧ w69.cell? ⟨gb318, 3, none⟩ = some (.slice A0_3 l0_3.length c0_3) ∧ w69.cell? ⟨gb320, 0, none⟩ = some (.int .i64 x321000_2) ∧ w69.cell? ⟨gb320, 1, none⟩ = some (.int .i64 x321001_2) ∧ w69.cell? ⟨gb320, 2, none⟩ = some (.int .i64 x321002_2) ∧ w69.cell? ⟨gb320, 3, none⟩ = some (.int .i64 x321003_2) ∧ w69.cell? ⟨gb320, 4, none⟩ = some (.int .i64 x321004_2) ∧ w69.cell? ⟨gb320, 5, none⟩ = some (.int .u64 x321005_2) ∧ w69.cell? ⟨gb320, 6, none⟩ = some (.int .u64 x321006_2) ∧ w69.cell? ⟨gb320, 7, none⟩ = some (.int .u64 x321007_2) ∧ w69.cell? (ad327.add (x12_2).toNat) = some (.int .i64 (rd l3 x12_2)) := hS_
          refine norm_ (a' := ?_) ?_ ?_
          rotate_left
          ·
           simp only [putAll, Act.put, List.setIfInBounds_toArray, List.set_cons_zero, List.set_cons_succ]
           rfl
          refine one_ (i := 12) (N := none) (zqB 15 8191) rfl rfl (one_of HT_.out (by kernel_rfl)) (by decide) (fun K hK => ?_)
          have hs70 : w69.cell? ⟨gb338, 0, none⟩ = some (.int .i64 0) := (zqe BK338.out 0).trans rfl
          have hfs70 := zqd BK338.out 0
          have hns70_0 := NB318_338.out
          have hns70_1 := NB319_338.out
          have hns70_2 := NB320_338.out
          have hms70_0 := NB338_318.out
          have hms70_1 := NB338_319.out
          have hms70_2 := NB338_320.out
          have hs71 : w69.cell? ⟨gb338, 1, none⟩ = some (.int .i64 0) := (zqe BK338.out 1).trans rfl
          have hfs71 := zqd BK338.out 1
          have hns71_0 := NB318_338.out
          have hns71_1 := NB319_338.out
          have hns71_2 := NB320_338.out
          have hms71_0 := NB338_318.out
          have hms71_1 := NB338_319.out
          have hms71_2 := NB338_320.out
          have hs72 : w69.cell? ⟨gb338, 2, none⟩ = some (.int .i64 0) := (zqe BK338.out 2).trans rfl
          have hfs72 := zqd BK338.out 2
          have hns72_0 := NB318_338.out
          have hns72_1 := NB319_338.out
          have hns72_2 := NB320_338.out
          have hms72_0 := NB338_318.out
          have hms72_1 := NB338_319.out
          have hms72_2 := NB338_320.out
          have hs73 : w69.cell? ⟨gb338, 3, none⟩ = some (.int .i64 0) := (zqe BK338.out 3).trans rfl
          have hfs73 := zqd BK338.out 3
          have hns73_0 := NB318_338.out
          have hns73_1 := NB319_338.out
          have hns73_2 := NB320_338.out
          have hms73_0 := NB338_318.out
          have hms73_1 := NB338_319.out
          have hms73_2 := NB338_320.out
          have hs74 : w69.cell? ⟨gb338, 4, none⟩ = some (.int .i64 0) := (zqe BK338.out 4).trans rfl
          have hfs74 := zqd BK338.out 4
          have hns74_0 := NB318_338.out
          have hns74_1 := NB319_338.out
          have hns74_2 := NB320_338.out
          have hms74_0 := NB338_318.out
          have hms74_1 := NB338_319.out
          have hms74_2 := NB338_320.out
          have hs75 : w69.cell? ⟨gb338, 5, none⟩ = some (.int .u64 0) := (zqe BK338.out 5).trans rfl
          have hfs75 := zqd BK338.out 5
          have hns75_0 := NB318_338.out
          have hns75_1 := NB319_338.out
          have hns75_2 := NB320_338.out
          have hms75_0 := NB338_318.out
          have hms75_1 := NB338_319.out
          have hms75_2 := NB338_320.out
          have hs76 : w69.cell? ⟨gb338, 6, none⟩ = some (.int .u64 0) := (zqe BK338.out 6).trans rfl
          have hfs76 := zqd BK338.out 6
          have hns76_0 := NB318_338.out
          have hns76_1 := NB319_338.out
          have hns76_2 := NB320_338.out
          have hms76_0 := NB338_318.out
          have hms76_1 := NB338_319.out
          have hms76_2 := NB338_320.out
          have hs77 : w69.cell? ⟨gb338, 7, none⟩ = some (.int .u64 0) := (zqe BK338.out 7).trans rfl
          have hfs77 := zqd BK338.out 7
          have hns77_0 := NB318_338.out
          have hns77_1 := NB319_338.out
          have hns77_2 := NB320_338.out
          have hms77_0 := NB338_318.out
          have hms77_1 := NB338_319.out
          have hms77_2 := NB338_320.out
          refine skip_ (w1 := ?_) (by rfl) rfl ?_ ?_
          rotate_left
          ·
           go_simp
           rfl
          refine hK.out _ _ ⟨((zqk NB318_338.out).trans (((zqk NB318_338.out).trans (((zqk NB318_338.out).trans (((zqk NB318_338.out).trans (((zqk NB318_338.out).trans (((zqk NB318_338.out).trans (((zqk NB318_338.out).trans (((zqk NB318_338.out).trans (hHeld.1)))))))))))))))), ((zqk NB318_338.out).trans (((zqk NB318_338.out).trans (((zqk NB318_338.out).trans (((zqk NB318_338.out).trans (((zqk NB318_338.out).trans (((zqk NB318_338.out).trans (((zqk NB318_338.out).trans (((zqk NB318_338.out).trans (hHeld.2.1)))))))))))))))), ((zqk NB318_338.out).trans (((zqk NB318_338.out).trans (((zqk NB318_338.out).trans (((zqk NB318_338.out).trans (((zqk NB318_338.out).trans (((zqk NB318_338.out).trans (((zqk NB318_338.out).trans (((zqk NB318_338.out).trans (hHeld.2.2.1)))))))))))))))), ((zqk NB318_338.out).trans (((zqk NB318_338.out).trans (((zqk NB318_338.out).trans (((zqk NB318_338.out).trans (((zqk NB318_338.out).trans (((zqk NB318_338.out).trans (((zqk NB318_338.out).trans (((zqk NB318_338.out).trans (hHeld.2.2.2.1)))))))))))))))), ((zqk NB320_338.out).trans (((zqk NB320_338.out).trans (((zqk NB320_338.out).trans (((zqk NB320_338.out).trans (((zqk NB320_338.out).trans (((zqk NB320_338.out).trans (((zqk NB320_338.out).trans (((zqk NB320_338.out).trans (hHeld.2.2.2.2.1)))))))))))))))), ((zqk NB320_338.out).trans (((zqk NB320_338.out).trans (((zqk NB320_338.out).trans (((zqk NB320_338.out).trans (((zqk NB320_338.out).trans (((zqk NB320_338.out).trans (((zqk NB320_338.out).trans (((zqk NB320_338.out).trans (hHeld.2.2.2.2.2.1)))))))))))))))), ((zqk NB320_338.out).trans (((zqk NB320_338.out).trans (((zqk NB320_338.out).trans (((zqk NB320_338.out).trans (((zqk NB320_338.out).trans (((zqk NB320_338.out).trans (((zqk NB320_338.out).trans (((zqk NB320_338.out).trans (hHeld.2.2.2.2.2.2.1)))))))))))))))), ((zqk NB320_338.out).trans (((zqk NB320_338.out).trans (((zqk NB320_338.out).trans (((zqk NB320_338.out).trans (((zqk NB320_338.out).trans (((zqk NB320_338.out).trans (((zqk NB320_338.out).trans (((zqk NB320_338.out).trans (hHeld.2.2.2.2.2.2.2.1)))))))))))))))), ((zqk NB320_338.out).trans (((zqk NB320_338.out).trans (((zqk NB320_338.out).trans (((zqk NB320_338.out).trans (((zqk NB320_338.out).trans (((zqk NB320_338.out).trans (((zqk NB320_338.out).trans (((zqk NB320_338.out).trans (hHeld.2.2.2.2.2.2.2.2.1)))))))))))))))), ((zqk NB320_338.out).trans (((zqk NB320_338.out).trans (((zqk NB320_338.out).trans (((zqk NB320_338.out).trans (((zqk NB320_338.out).trans (((zqk NB320_338.out).trans (((zqk NB320_338.out).trans (((zqk NB320_338.out).trans (hHeld.2.2.2.2.2.2.2.2.2.1)))))))))))))))), ((zqk NB320_338.out).trans (((zqk NB320_338.out).trans (((zqk NB320_338.out).trans (((zqk NB320_338.out).trans (((zqk NB320_338.out).trans (((zqk NB320_338.out).trans (((zqk NB320_338.out).trans (((zqk NB320_338.out).trans (hHeld.2.2.2.2.2.2.2.2.2.2.1)))))))))))))))), ((zqk NB320_338.out).trans (((zqk NB320_338.out).trans (((zqk NB320_338.out).trans (((zqk NB320_338.out).trans (((zqk NB320_338.out).trans (((zqk NB320_338.out).trans (((zqk NB320_338.out).trans (((zqk NB320_338.out).trans (hHeld.2.2.2.2.2.2.2.2.2.2.2.1)))))))))))))))), ((zqk (by first | exact zql hw327_0 GW338.out | (rw [add_block]; exact zql hw327_0 GW338.out) | (show (Addr.add _ _).block ≠ _; rw [add_block]; exact zql hw327_0 GW338.out) | (dsimp only; exact zql hw327_0 GW338.out))).trans (((zqk (by first | exact zql hw327_0 GW338.out | (rw [add_block]; exact zql hw327_0 GW338.out) | (show (Addr.add _ _).block ≠ _; rw [add_block]; exact zql hw327_0 GW338.out) | (dsimp only; exact zql hw327_0 GW338.out))).trans (((zqk (by first | exact zql hw327_0 GW338.out | (rw [add_block]; exact zql hw327_0 GW338.out) | (show (Addr.add _ _).block ≠ _; rw [add_block]; exact zql hw327_0 GW338.out) | (dsimp only; exact zql hw327_0 GW338.out))).trans (((zqk (by first | exact zql hw327_0 GW338.out | (rw [add_block]; exact zql hw327_0 GW338.out) | (show (Addr.add _ _).block ≠ _; rw [add_block]; exact zql hw327_0 GW338.out) | (dsimp only; exact zql hw327_0 GW338.out))).trans (((zqk (by first | exact zql hw327_0 GW338.out | (rw [add_block]; exact zql hw327_0 GW338.out) | (show (Addr.add _ _).block ≠ _; rw [add_block]; exact zql hw327_0 GW338.out) | (dsimp only; exact zql hw327_0 GW338.out))).trans (((zqk (by first | exact zql hw327_0 GW338.out | (rw [add_block]; exact zql hw327_0 GW338.out) | (show (Addr.add _ _).block ≠ _; rw [add_block]; exact zql hw327_0 GW338.out) | (dsimp only; exact zql hw327_0 GW338.out))).trans (((zqk (by first | exact zql hw327_0 GW338.out | (rw [add_block]; exact zql hw327_0 GW338.out) | (show (Addr.add _ _).block ≠ _; rw [add_block]; exact zql hw327_0 GW338.out) | (dsimp only; exact zql hw327_0 GW338.out))).trans (((zqk (by first | exact zql hw327_0 GW338.out | (rw [add_block]; exact zql hw327_0 GW338.out) | (show (Addr.add _ _).block ≠ _; rw [add_block]; exact zql hw327_0 GW338.out) | (dsimp only; exact zql hw327_0 GW338.out))).trans (hHeld.2.2.2.2.2.2.2.2.2.2.2.2))))))))))))))))⟩ (fun hHeld => ?_)
          clear hK K
          refine zqp 13 (some 14) (zqB 15 16383) (any_of HT_.out (by kernel_rfl)) (h := ?_)
          refine zqp 14 (some 15) (zqB 15 32767) (any_of HT_.out (by kernel_rfl)) (h := ?_)
          refine done_ (done_of HT_.out (by kernel_rfl)) ?_
          try go_wp2
          generalize hW_ : ((((((((w69.setCell ⟨gb338, 0, none⟩ (.int .i64 t328)).setCell ⟨gb338, 1, none⟩ (.int .i64 t329)).setCell ⟨gb338, 2, none⟩ (.int .i64 t330)).setCell ⟨gb338, 3, none⟩ (.int .i64 t331)).setCell ⟨gb338, 4, none⟩ (.int .i64 t332)).setCell ⟨gb338, 5, none⟩ (.int .u64 t333)).setCell ⟨gb338, 6, none⟩ (.int .u64 t334)).setCell ⟨gb338, 7, none⟩ (.int .u64 t335)) = w78
          have n0_ : Aside0 (w78.heap[gb318]? = some (.cells #[.int .i64 a0_0, .int .i64 a0_1, .int .i64 a0_2, .slice A0_3 l0_3.length c0_3] 26 (0, 0))) := ⟨by subst hW_; (repeat (with_reducible first | apply zqa | apply zqb | apply zqc | refine blk_far ?_ NB318_338.out _)); exact BK318.out⟩
          have n1_ : Aside0 (w78.heap[gb319]? = some (.cells #[.int .i64 x320000_2, .int .i64 x320001_2, .int .i64 x320002_2, .int .i64 x320003_2, .int .i64 x320004_2, .int .u64 x320005_2, .int .u64 x320006_2, .int .u64 x320007_2] 40 (0, 0))) := ⟨by subst hW_; (repeat (with_reducible first | apply zqa | apply zqb | apply zqc | refine blk_far ?_ NB319_338.out _)); exact BK319.out⟩
          have n2_ : Aside0 (w78.heap[gb320]? = some (.cells #[.int .i64 x321000_2, .int .i64 x321001_2, .int .i64 x321002_2, .int .i64 x321003_2, .int .i64 x321004_2, .int .u64 x321005_2, .int .u64 x321006_2, .int .u64 x321007_2] 40 (0, 0))) := ⟨by subst hW_; (repeat (with_reducible first | apply zqa | apply zqb | apply zqc | refine blk_far ?_ NB320_338.out _)); exact BK320.out⟩
          have n3_ : Aside0 (w78.heap[gb338]? = some (.cells #[.int .i64 t328, .int .i64 t329, .int .i64 t330, .int .i64 t331, .int .i64 t332, .int .u64 t333, .int .u64 t334, .int .u64 t335] 40 (0, 0))) := ⟨by subst hW_; exact zqC (blk_set (blk_set (blk_set (blk_set (blk_set (blk_set (blk_set (blk_set BK338.out 0 _) 1 _) 2 _) 3 _) 4 _) 5 _) 6 _) 7 _) (by simp only [List.setIfInBounds_toArray, List.set_cons_zero, List.set_cons_succ])⟩
          have n4_ : Aside0 (Below w.heap.size w w78) := ⟨by subst hW_; repeat (first | (with_reducible first | exact HB.out | apply zqg | apply zqf | apply zqh | refine below_set ?_ GE318.out | refine below_set ?_ GE319.out | refine below_set ?_ GE320.out | refine below_set ?_ GE338.out) | exact HB.out)⟩
          clear hW_
          (try clear BK318)
          (try clear BK319)
          (try clear BK320)
          (try clear BK338)
          (try clear HB)
          have BK318 := n0_
          have BK319 := n1_
          have BK320 := n2_
          have BK338 := n3_
          have HB := n4_
          clear n0_ n1_ n2_ n3_ n4_
          have n0_ := zqi (zqb BK318.out)
          have n1_ := zqi (zqb BK319.out)
          have n2_ := zqi (zqb BK320.out)
          have n3_ := zqi (zqb BK338.out)
          have n4_ := zqi (zqh HB.out)
          clear BK318
          clear BK319
          clear BK320
          clear BK338
          clear HB
          have BK318 := n0_
          have BK319 := n1_
          have BK320 := n2_
          have BK338 := n3_
          have HB := n4_
          clear n0_ n1_ n2_ n3_ n4_
          have p339 : 0 ≤ (x12_2 : Int) := of_decide_eq_true (by first | (with_reducible assumption) | assumption)
          have q339 : x12_2 < (l3.length : Int) := of_decide_eq_true (by first | (with_reducible assumption) | assumption)
          obtain ⟨ad339, e339, hx339_0⟩ := Kd.at_int HR3.out x12_2 p339 q339
          have hw339_0 := hx339_0
          obtain rfl : ad327 = ad339 := (by injection e339)
          replace hx339_0 := (HB.out.cell (World.block_lt_of_cell? w _ hx339_0)).trans hx339_0
          replace p339 := eq_true p339
          replace q339 := eq_true q339
          refine start_ (n := 15) (S := fun w' => w'.cell? ⟨gb318, 0, none⟩ = some (.int .i64 a0_0) ∧ w'.cell? ⟨gb318, 1, none⟩ = some (.int .i64 a0_1) ∧ w'.cell? ⟨gb318, 2, none⟩ = some (.int .i64 a0_2) ∧ w'.cell? ⟨gb318, 3, none⟩ = some (.slice A0_3 l0_3.length c0_3) ∧ w'.cell? ⟨gb319, 0, none⟩ = some (.int .i64 x320000_2) ∧ w'.cell? ⟨gb319, 1, none⟩ = some (.int .i64 x320001_2) ∧ w'.cell? ⟨gb319, 2, none⟩ = some (.int .i64 x320002_2) ∧ w'.cell? ⟨gb319, 3, none⟩ = some (.int .i64 x320003_2) ∧ w'.cell? ⟨gb319, 4, none⟩ = some (.int .i64 x320004_2) ∧ w'.cell? ⟨gb319, 5, none⟩ = some (.int .u64 x320005_2) ∧ w'.cell? ⟨gb319, 6, none⟩ = some (.int .u64 x320006_2) ∧ w'.cell? ⟨gb319, 7, none⟩ = some (.int .u64 x320007_2) ∧ w'.cell? (ad327.add (x12_2).toNat) = some (.int .i64 (rd l3 x12_2))) (ds := []) (zqB 15 0) (by kernel_rfl) rfl rfl ⟨(zqe BK318.out 0).trans rfl, (zqe BK318.out 1).trans rfl, (zqe BK318.out 2).trans rfl, (zqe BK318.out 3).trans rfl, (zqe BK319.out 0).trans rfl, (zqe BK319.out 1).trans rfl, (zqe BK319.out 2).trans rfl, (zqe BK319.out 3).trans rfl, (zqe BK319.out 4).trans rfl, (zqe BK319.out 5).trans rfl, (zqe BK319.out 6).trans rfl, (zqe BK319.out 7).trans rfl, ((HB.out.cell (World.block_lt_of_cell? w _ hw339_0)).trans hw339_0)⟩ (fun hHeld => ?_); refine with_tabW haulierlaw11_RelaxWays.tab10 haulierlaw11_RelaxWays.bits10 (fun HT_ HW_ => ?_)
          generalize w78.drew = w79 at BK318 BK319 BK320 BK338 HB hx339_0 hHeld ⊢
          refine zqp 2 (some 84) (zqB 15 4) (any_of HT_.out (by kernel_rfl)) (h := ?_)
          refine zqp 3 (some 85) (zqB 15 12) (any_of HT_.out (by kernel_rfl)) (h := ?_)
          refine zqp 4 (some 86) (zqB 15 28) (any_of HT_.out (by kernel_rfl)) (h := ?_)
          refine zqt 0 (some 82) (zqB 15 29) (take_ofW HT_.out HW_.out (by kernel_rfl)) hHeld (h := ?_)
          refine zqt 1 (some 83) (zqB 15 31) (take_ofW HT_.out HW_.out (by kernel_rfl)) hHeld (h := ?_)
          refine zqt 5 (some 87) (zqB 15 63) (take_ofW HT_.out HW_.out (by kernel_rfl)) hHeld (h := ?_)
          refine join_ (σ := Nat) 3 (zqB 15 4095) (fun s_ => [(88, .tuple #[.agg #[.int .i64 t340, .int .i64 t341, .int .i64 t342, .int .i64 t343, .int .i64 t344, .int .u64 t345, .int .u64 t346, .int .u64 t347], .int .i64 t348, .bool true]), (16, .pointer (some ⟨s_, 0, none⟩)), (81, .tuple #[.agg #[.int .i64 t340, .int .i64 t341, .int .i64 t342, .int .i64 t343, .int .i64 t344, .int .u64 t345, .int .u64 t346, .int .u64 t347], .int .i64 t348, .bool true]), (89, .agg #[.int .i64 t340, .int .i64 t341, .int .i64 t342, .int .i64 t343, .int .i64 t344, .int .u64 t345, .int .u64 t346, .int .u64 t347]), (90, .int .i64 t348), (91, .bool true)]) (fun s_ w' => (w'.cell? ⟨gb318, 0, none⟩ = some (.int .i64 a0_0) ∧ w'.cell? ⟨gb318, 1, none⟩ = some (.int .i64 a0_1) ∧ w'.cell? ⟨gb318, 2, none⟩ = some (.int .i64 a0_2) ∧ w'.cell? ⟨gb318, 3, none⟩ = some (.slice A0_3 l0_3.length c0_3) ∧ w'.cell? ⟨gb319, 0, none⟩ = some (.int .i64 x320000_2) ∧ w'.cell? ⟨gb319, 1, none⟩ = some (.int .i64 x320001_2) ∧ w'.cell? ⟨gb319, 2, none⟩ = some (.int .i64 x320002_2) ∧ w'.cell? ⟨gb319, 3, none⟩ = some (.int .i64 x320003_2) ∧ w'.cell? ⟨gb319, 4, none⟩ = some (.int .i64 x320004_2) ∧ w'.cell? ⟨gb319, 5, none⟩ = some (.int .u64 x320005_2) ∧ w'.cell? ⟨gb319, 6, none⟩ = some (.int .u64 x320006_2) ∧ w'.cell? ⟨gb319, 7, none⟩ = some (.int .u64 x320007_2) ∧ w'.cell? (ad327.add (x12_2).toNat) = some (.int .i64 (rd l3 x12_2))) ∧ (w'.heap[gb318]? = some (.cells #[.int .i64 a0_0, .int .i64 a0_1, .int .i64 a0_2, .slice A0_3 l0_3.length c0_3] 26 (0, 0))) ∧ (w'.heap[gb319]? = some (.cells #[.int .i64 x320000_2, .int .i64 x320001_2, .int .i64 x320002_2, .int .i64 x320003_2, .int .i64 x320004_2, .int .u64 x320005_2, .int .u64 x320006_2, .int .u64 x320007_2] 40 (0, 0))) ∧ (w'.heap[gb320]? = some (.cells #[.int .i64 x321000_2, .int .i64 x321001_2, .int .i64 x321002_2, .int .i64 x321003_2, .int .i64 x321004_2, .int .u64 x321005_2, .int .u64 x321006_2, .int .u64 x321007_2] 40 (0, 0))) ∧ (w'.heap[gb338]? = some (.cells #[.int .i64 t328, .int .i64 t329, .int .i64 t330, .int .i64 t331, .int .i64 t332, .int .u64 t333, .int .u64 t334, .int .u64 t335] 40 (0, 0))) ∧ (w'.heap[s_]? = some (.cells #[.int .i64 0, .int .i64 0, .int .i64 0, .int .i64 0, .int .i64 0, .int .u64 0, .int .u64 0, .int .u64 0] 40 (0, 0))) ∧ (w.heap.size ≤ s_) ∧ (w.heap.size ≤ s_) ∧ (gb318 ≠ s_) ∧ (s_ ≠ gb318) ∧ (gb319 ≠ s_) ∧ (s_ ≠ gb319) ∧ (gb320 ≠ s_) ∧ (s_ ≠ gb320) ∧ (gb338 ≠ s_) ∧ (s_ ≠ gb338) ∧ (Below w.heap.size w w')) ?_ ?_
          rotate_left
          ·
           intro hCont
           refine two_ (i := 6) (j := 11) (Ni := some 88) (Nj := some 16) (zqB 15 127) (zqB 15 2111) rfl rfl rfl rfl (two_of HT_.out (by kernel_rfl)) (by decide) (by decide) (fun K hK => ?_) (fun K hK => ?_)
           ·
            skip
            refine goes_ Try.func22 (by kernel_rfl) rfl #[.agg #[.int .i64 a0_0, .int .i64 a0_1, .int .i64 a0_2, .slice A0_3 l0_3.length c0_3], .agg #[.int .i64 x320000_2, .int .i64 x320001_2, .int .i64 x320002_2, .int .i64 x320003_2, .int .i64 x320004_2, .int .u64 x320005_2, .int .u64 x320006_2, .int .u64 x320007_2], .int .i64 (rd l3 x12_2)] (by rfl) rfl rfl (by (try simp only [List.map_toArray, List.map_cons, List.map_nil]); first | done | rfl | (simp only [List.length_drop, List.length_take]; rfl)) ?_
            with_reducible refine (state_Move.calls k2 a0_0 a0_1 a0_2 _ _ l0_3 x320000_2 x320001_2 x320002_2 x320003_2 x320004_2 x320005_2 x320006_2 x320007_2 (rd l3 x12_2) t340 t341 t342 t343 t344 t345 t346 t347 t348 true _ ?side1 ?side2 A63.out).mono ?_
            (case side1 => repeat (first | exact (Kd.C_below HR0_3.out HB.out) | (with_reducible refine Kd.C_alloc ?_ _) | (with_reducible refine Kd.C_drewN ?_ _) | (with_reducible refine Kd.C_drew ?_)))
            (case side2 => exact HC0_3.out)
            rintro e w80 ⟨rfl, hb⟩
            refine ⟨_, rfl, ?_⟩
            have n0_ := zqi (zqy BK318.out hb)
            have n1_ := zqi (zqy BK319.out hb)
            have n2_ := zqi (zqy BK320.out hb)
            have n3_ := zqi (zqy BK338.out hb)
            have n4_ := zqi (below_step (zqn HB.out) hb)
            clear BK318
            clear BK319
            clear BK320
            clear BK338
            clear HB
            have BK318 := n0_
            have BK319 := n1_
            have BK320 := n2_
            have BK338 := n3_
            have HB := n4_
            clear n0_ n1_ n2_ n3_ n4_
            (try clear hb)
            (try clear hb2)
            (try clear hk)
            (try clear hi)
            refine hK.out _ _ ⟨(zqe BK318.out 0).trans rfl, (zqe BK318.out 1).trans rfl, (zqe BK318.out 2).trans rfl, (zqe BK318.out 3).trans rfl, (zqe BK319.out 0).trans rfl, (zqe BK319.out 1).trans rfl, (zqe BK319.out 2).trans rfl, (zqe BK319.out 3).trans rfl, (zqe BK319.out 4).trans rfl, (zqe BK319.out 5).trans rfl, (zqe BK319.out 6).trans rfl, (zqe BK319.out 7).trans rfl, ((HB.out.cell (World.block_lt_of_cell? w _ hw339_0)).trans hw339_0)⟩ (fun hHeld => ?_)
            clear hK K
            refine norm_ (a' := ?_) ?_ ?_
            rotate_left
            ·
             show Act.put _ (some 88) _ = _
             simp only [Act.put, List.setIfInBounds_toArray, List.set_cons_zero, List.set_cons_succ, i64_w, i32_w]
             rfl
            refine zqp 7 (some 81) (zqB 15 255) (any_of HT_.out (by kernel_rfl)) (h := ?_)
            refine zqp 8 (some 89) (zqB 15 511) (any_of HT_.out (by kernel_rfl)) (h := ?_)
            refine zqp 9 (some 90) (zqB 15 1023) (any_of HT_.out (by kernel_rfl)) (h := ?_)
            refine zqp 10 (some 91) (zqB 15 2047) (any_of HT_.out (by kernel_rfl)) (h := ?_)
            refine one_ (i := 11) (N := some 16) (zqB 15 4095) rfl rfl (one_of HT_.out (by kernel_rfl)) (by decide) (fun K hK => ?_)
            refine box_step ?hg (N := 16) ?hd (cs := #[.int .i64 0, .int .i64 0, .int .i64 0, .int .i64 0, .int .i64 0, .int .u64 0, .int .u64 0, .int .u64 0]) (t := 40) ?hr ?_; (case hd => rfl); (case hg => rfl); (case hr => first | (go_simp; done) | (go_simp; rfl))
            intro gb350 hg w81 hbox hb
            have n0_ := zqi (zqy BK318.out hb)
            have n1_ := zqi (zqy BK319.out hb)
            have n2_ := zqi (zqy BK320.out hb)
            have n3_ := zqi (zqy BK338.out hb)
            have n4_ := zqi (below_step (zqn HB.out) hb)
            have n5_ := zqi (hbox)
            have n6_ := zqi (zqo hg HB.out)
            have n7_ := zqi (zqo hg HB.out)
            have n8_ := zqi ((zqq hg BK318.out))
            have n9_ := zqi ((zqr hg BK318.out))
            have n10_ := zqi ((zqq hg BK319.out))
            have n11_ := zqi ((zqr hg BK319.out))
            have n12_ := zqi ((zqq hg BK320.out))
            have n13_ := zqi ((zqr hg BK320.out))
            have n14_ := zqi ((zqq hg BK338.out))
            have n15_ := zqi ((zqr hg BK338.out))
            clear BK318
            clear BK319
            clear BK320
            clear BK338
            clear HB
            have BK318 := n0_
            have BK319 := n1_
            have BK320 := n2_
            have BK338 := n3_
            have HB := n4_
            have BK350 := n5_
            have GW350 := n6_
            have GE350 := n7_
            have NB318_350 := n8_
            have NB350_318 := n9_
            have NB319_350 := n10_
            have NB350_319 := n11_
            have NB320_350 := n12_
            have NB350_320 := n13_
            have NB338_350 := n14_
            have NB350_338 := n15_
            clear n0_ n1_ n2_ n3_ n4_ n5_ n6_ n7_ n8_ n9_ n10_ n11_ n12_ n13_ n14_ n15_
            clear hb hbox hg
            refine hK.out _ _ ⟨(zqe BK318.out 0).trans rfl, (zqe BK318.out 1).trans rfl, (zqe BK318.out 2).trans rfl, (zqe BK318.out 3).trans rfl, (zqe BK319.out 0).trans rfl, (zqe BK319.out 1).trans rfl, (zqe BK319.out 2).trans rfl, (zqe BK319.out 3).trans rfl, (zqe BK319.out 4).trans rfl, (zqe BK319.out 5).trans rfl, (zqe BK319.out 6).trans rfl, (zqe BK319.out 7).trans rfl, ((HB.out.cell (World.block_lt_of_cell? w _ hw339_0)).trans hw339_0)⟩ (fun hHeld => ?_)
            clear hK K
            refine norm_ (a' := ?_) ?_ ?_
            rotate_left
            ·
             show Act.put _ (some 16) _ = _
             simp only [Act.put, List.setIfInBounds_toArray, List.set_cons_zero, List.set_cons_succ, i64_w, i32_w]
             rfl
            exact norm_ (by simp only [putAll, Act.put, List.setIfInBounds_toArray, List.set_cons_zero, List.set_cons_succ]) (hCont (gb350) _ ⟨hHeld, (zqm BK318.out), (zqm BK319.out), (zqm BK320.out), (zqm BK338.out), (zqm BK350.out), GW350.out, GE350.out, NB318_350.out, NB350_318.out, NB319_350.out, NB350_319.out, NB320_350.out, NB350_320.out, NB338_350.out, NB350_338.out, (zqn HB.out)⟩)
           ·
            skip
            refine box_step ?hg (N := 16) ?hd (cs := #[.int .i64 0, .int .i64 0, .int .i64 0, .int .i64 0, .int .i64 0, .int .u64 0, .int .u64 0, .int .u64 0]) (t := 40) ?hr ?_; (case hd => rfl); (case hg => rfl); (case hr => first | (go_simp; done) | (go_simp; rfl))
            intro gb350 hg w80 hbox hb
            have n0_ := zqi (zqy BK318.out hb)
            have n1_ := zqi (zqy BK319.out hb)
            have n2_ := zqi (zqy BK320.out hb)
            have n3_ := zqi (zqy BK338.out hb)
            have n4_ := zqi (below_step (zqn HB.out) hb)
            have n5_ := zqi (hbox)
            have n6_ := zqi (zqo hg HB.out)
            have n7_ := zqi (zqo hg HB.out)
            have n8_ := zqi ((zqq hg BK318.out))
            have n9_ := zqi ((zqr hg BK318.out))
            have n10_ := zqi ((zqq hg BK319.out))
            have n11_ := zqi ((zqr hg BK319.out))
            have n12_ := zqi ((zqq hg BK320.out))
            have n13_ := zqi ((zqr hg BK320.out))
            have n14_ := zqi ((zqq hg BK338.out))
            have n15_ := zqi ((zqr hg BK338.out))
            clear BK318
            clear BK319
            clear BK320
            clear BK338
            clear HB
            have BK318 := n0_
            have BK319 := n1_
            have BK320 := n2_
            have BK338 := n3_
            have HB := n4_
            have BK350 := n5_
            have GW350 := n6_
            have GE350 := n7_
            have NB318_350 := n8_
            have NB350_318 := n9_
            have NB319_350 := n10_
            have NB350_319 := n11_
            have NB320_350 := n12_
            have NB350_320 := n13_
            have NB338_350 := n14_
            have NB350_338 := n15_
            clear n0_ n1_ n2_ n3_ n4_ n5_ n6_ n7_ n8_ n9_ n10_ n11_ n12_ n13_ n14_ n15_
            clear hb hbox hg
            refine hK.out _ _ ⟨(zqe BK318.out 0).trans rfl, (zqe BK318.out 1).trans rfl, (zqe BK318.out 2).trans rfl, (zqe BK318.out 3).trans rfl, (zqe BK319.out 0).trans rfl, (zqe BK319.out 1).trans rfl, (zqe BK319.out 2).trans rfl, (zqe BK319.out 3).trans rfl, (zqe BK319.out 4).trans rfl, (zqe BK319.out 5).trans rfl, (zqe BK319.out 6).trans rfl, (zqe BK319.out 7).trans rfl, ((HB.out.cell (World.block_lt_of_cell? w _ hw339_0)).trans hw339_0)⟩ (fun hHeld => ?_)
            clear hK K
            refine norm_ (a' := ?_) ?_ ?_
            rotate_left
            ·
             show Act.put _ (some 16) _ = _
             simp only [Act.put, List.setIfInBounds_toArray, List.set_cons_zero, List.set_cons_succ, i64_w, i32_w]
             rfl
            refine one_ (i := 6) (N := some 88) (zqB 15 2175) rfl rfl (one_of HT_.out (by kernel_rfl)) (by decide) (fun K hK => ?_)
            refine goes_ Try.func22 (by kernel_rfl) rfl #[.agg #[.int .i64 a0_0, .int .i64 a0_1, .int .i64 a0_2, .slice A0_3 l0_3.length c0_3], .agg #[.int .i64 x320000_2, .int .i64 x320001_2, .int .i64 x320002_2, .int .i64 x320003_2, .int .i64 x320004_2, .int .u64 x320005_2, .int .u64 x320006_2, .int .u64 x320007_2], .int .i64 (rd l3 x12_2)] (by rfl) rfl rfl (by (try simp only [List.map_toArray, List.map_cons, List.map_nil]); first | done | rfl | (simp only [List.length_drop, List.length_take]; rfl)) ?_
            with_reducible refine (state_Move.calls k2 a0_0 a0_1 a0_2 _ _ l0_3 x320000_2 x320001_2 x320002_2 x320003_2 x320004_2 x320005_2 x320006_2 x320007_2 (rd l3 x12_2) t340 t341 t342 t343 t344 t345 t346 t347 t348 true _ ?side1 ?side2 A63.out).mono ?_
            (case side1 => repeat (first | exact (Kd.C_below HR0_3.out HB.out) | (with_reducible refine Kd.C_alloc ?_ _) | (with_reducible refine Kd.C_drewN ?_ _) | (with_reducible refine Kd.C_drew ?_)))
            (case side2 => exact HC0_3.out)
            rintro e w81 ⟨rfl, hb⟩
            refine ⟨_, rfl, ?_⟩
            have n0_ := zqi (zqy BK318.out hb)
            have n1_ := zqi (zqy BK319.out hb)
            have n2_ := zqi (zqy BK320.out hb)
            have n3_ := zqi (zqy BK338.out hb)
            have n4_ := zqi (zqy BK350.out hb)
            have n5_ := zqi (below_step (zqn HB.out) hb)
            clear BK318
            clear BK319
            clear BK320
            clear BK338
            clear BK350
            clear HB
            have BK318 := n0_
            have BK319 := n1_
            have BK320 := n2_
            have BK338 := n3_
            have BK350 := n4_
            have HB := n5_
            clear n0_ n1_ n2_ n3_ n4_ n5_
            (try clear hb)
            (try clear hb2)
            (try clear hk)
            (try clear hi)
            refine hK.out _ _ ⟨(zqe BK318.out 0).trans rfl, (zqe BK318.out 1).trans rfl, (zqe BK318.out 2).trans rfl, (zqe BK318.out 3).trans rfl, (zqe BK319.out 0).trans rfl, (zqe BK319.out 1).trans rfl, (zqe BK319.out 2).trans rfl, (zqe BK319.out 3).trans rfl, (zqe BK319.out 4).trans rfl, (zqe BK319.out 5).trans rfl, (zqe BK319.out 6).trans rfl, (zqe BK319.out 7).trans rfl, ((HB.out.cell (World.block_lt_of_cell? w _ hw339_0)).trans hw339_0)⟩ (fun hHeld => ?_)
            clear hK K
            refine norm_ (a' := ?_) ?_ ?_
            rotate_left
            ·
             show Act.put _ (some 88) _ = _
             simp only [Act.put, List.setIfInBounds_toArray, List.set_cons_zero, List.set_cons_succ, i64_w, i32_w]
             rfl
            refine zqp 7 (some 81) (zqB 15 2303) (any_of HT_.out (by kernel_rfl)) (h := ?_)
            refine zqp 8 (some 89) (zqB 15 2559) (any_of HT_.out (by kernel_rfl)) (h := ?_)
            refine zqp 9 (some 90) (zqB 15 3071) (any_of HT_.out (by kernel_rfl)) (h := ?_)
            refine zqp 10 (some 91) (zqB 15 4095) (any_of HT_.out (by kernel_rfl)) (h := ?_)
            exact norm_ (by simp only [putAll, Act.put, List.setIfInBounds_toArray, List.set_cons_zero, List.set_cons_succ]) (hCont (gb350) _ ⟨hHeld, (zqm BK318.out), (zqm BK319.out), (zqm BK320.out), (zqm BK338.out), (zqm BK350.out), GW350.out, GE350.out, NB318_350.out, NB350_318.out, NB319_350.out, NB350_319.out, NB320_350.out, NB350_320.out, NB338_350.out, NB350_338.out, (zqn HB.out)⟩)
          rintro gb350 w82 ⟨hS_, h0_, h1_, h2_, h3_, h4_, h5_, h6_, h7_, h8_, h9_, h10_, h11_, h12_, h13_, h14_, h15_⟩
          have n0_ : Aside0 (w82.heap[gb318]? = some (.cells #[.int .i64 a0_0, .int .i64 a0_1, .int .i64 a0_2, .slice A0_3 l0_3.length c0_3] 26 (0, 0))) := ⟨h0_⟩
          have n1_ : Aside0 (w82.heap[gb319]? = some (.cells #[.int .i64 x320000_2, .int .i64 x320001_2, .int .i64 x320002_2, .int .i64 x320003_2, .int .i64 x320004_2, .int .u64 x320005_2, .int .u64 x320006_2, .int .u64 x320007_2] 40 (0, 0))) := ⟨h1_⟩
          have n2_ : Aside0 (w82.heap[gb320]? = some (.cells #[.int .i64 x321000_2, .int .i64 x321001_2, .int .i64 x321002_2, .int .i64 x321003_2, .int .i64 x321004_2, .int .u64 x321005_2, .int .u64 x321006_2, .int .u64 x321007_2] 40 (0, 0))) := ⟨h2_⟩
          have n3_ : Aside0 (w82.heap[gb338]? = some (.cells #[.int .i64 t328, .int .i64 t329, .int .i64 t330, .int .i64 t331, .int .i64 t332, .int .u64 t333, .int .u64 t334, .int .u64 t335] 40 (0, 0))) := ⟨h3_⟩
          have n4_ : Aside0 (w82.heap[gb350]? = some (.cells #[.int .i64 0, .int .i64 0, .int .i64 0, .int .i64 0, .int .i64 0, .int .u64 0, .int .u64 0, .int .u64 0] 40 (0, 0))) := ⟨h4_⟩
          have n5_ : Aside0 (w.heap.size ≤ gb350) := ⟨h5_⟩
          have n6_ : Aside0 (w.heap.size ≤ gb350) := ⟨h6_⟩
          have n7_ : Aside0 (gb318 ≠ gb350) := ⟨h7_⟩
          have n8_ : Aside0 (gb350 ≠ gb318) := ⟨h8_⟩
          have n9_ : Aside0 (gb319 ≠ gb350) := ⟨h9_⟩
          have n10_ : Aside0 (gb350 ≠ gb319) := ⟨h10_⟩
          have n11_ : Aside0 (gb320 ≠ gb350) := ⟨h11_⟩
          have n12_ : Aside0 (gb350 ≠ gb320) := ⟨h12_⟩
          have n13_ : Aside0 (gb338 ≠ gb350) := ⟨h13_⟩
          have n14_ : Aside0 (gb350 ≠ gb338) := ⟨h14_⟩
          have n15_ : Aside0 (Below w.heap.size w w82) := ⟨h15_⟩
          clear BK318
          clear BK319
          clear BK320
          clear BK338
          clear HB
          clear h0_ h1_ h2_ h3_ h4_ h5_ h6_ h7_ h8_ h9_ h10_ h11_ h12_ h13_ h14_ h15_
          have BK318 := n0_
          have BK319 := n1_
          have BK320 := n2_
          have BK338 := n3_
          have BK350 := n4_
          have GW350 := n5_
          have GE350 := n6_
          have NB318_350 := n7_
          have NB350_318 := n8_
          have NB319_350 := n9_
          have NB350_319 := n10_
          have NB320_350 := n11_
          have NB350_320 := n12_
          have NB338_350 := n13_
          have NB350_338 := n14_
          have HB := n15_
          clear n0_ n1_ n2_ n3_ n4_ n5_ n6_ n7_ n8_ n9_ n10_ n11_ n12_ n13_ n14_ n15_
          have hHeld : w82.cell? ⟨gb318, 0, none⟩ = some (.int .i64 a0_0) ∧ w82.cell? ⟨gb318, 1, none⟩ = some (.int .i64 a0_1) ∧ w82.cell? ⟨gb318, 2, none⟩ = some (.int .i64 a0_2) ∧ w82.cell? ⟨gb318, 3, none⟩ = some (.slice A0_3 l0_3.length c0_3) ∧ w82.cell? ⟨gb319, 0, none⟩ = some (.int .i64 x320000_2) ∧ w82.cell? ⟨gb319, 1, none⟩ = some (.int .i64 x320001_2) ∧ w82.cell? ⟨gb319, 2, none⟩ = some (.int .i64 x320002_2) ∧ w82.cell? ⟨gb319, 3, none⟩ = some (.int .i64 x320003_2) ∧ w82.cell? ⟨gb319, 4, none⟩ = some (.int .i64 x320004_2) ∧ w82.cell? ⟨gb319, 5, none⟩ = some (.int .u64 x320005_2) ∧ w82.cell? ⟨gb319, 6, none⟩ = some (.int .u64 x320006_2) ∧ w82.cell? ⟨gb319, 7, none⟩ = some (.int .u64 x320007_2) ∧ w82.cell? (ad327.add (x12_2).toNat) = some (.int .i64 (rd l3 x12_2)) := hS_
          refine norm_ (a' := ?_) ?_ ?_
          rotate_left
          ·
           simp only [putAll, Act.put, List.setIfInBounds_toArray, List.set_cons_zero, List.set_cons_succ]
           rfl
          refine one_ (i := 12) (N := none) (zqB 15 8191) rfl rfl (one_of HT_.out (by kernel_rfl)) (by decide) (fun K hK => ?_)
          have hs83 : w82.cell? ⟨gb350, 0, none⟩ = some (.int .i64 0) := (zqe BK350.out 0).trans rfl
          have hfs83 := zqd BK350.out 0
          have hns83_0 := NB318_350.out
          have hns83_1 := NB319_350.out
          have hns83_2 := NB320_350.out
          have hns83_3 := NB338_350.out
          have hms83_0 := NB350_318.out
          have hms83_1 := NB350_319.out
          have hms83_2 := NB350_320.out
          have hms83_3 := NB350_338.out
          have hs84 : w82.cell? ⟨gb350, 1, none⟩ = some (.int .i64 0) := (zqe BK350.out 1).trans rfl
          have hfs84 := zqd BK350.out 1
          have hns84_0 := NB318_350.out
          have hns84_1 := NB319_350.out
          have hns84_2 := NB320_350.out
          have hns84_3 := NB338_350.out
          have hms84_0 := NB350_318.out
          have hms84_1 := NB350_319.out
          have hms84_2 := NB350_320.out
          have hms84_3 := NB350_338.out
          have hs85 : w82.cell? ⟨gb350, 2, none⟩ = some (.int .i64 0) := (zqe BK350.out 2).trans rfl
          have hfs85 := zqd BK350.out 2
          have hns85_0 := NB318_350.out
          have hns85_1 := NB319_350.out
          have hns85_2 := NB320_350.out
          have hns85_3 := NB338_350.out
          have hms85_0 := NB350_318.out
          have hms85_1 := NB350_319.out
          have hms85_2 := NB350_320.out
          have hms85_3 := NB350_338.out
          have hs86 : w82.cell? ⟨gb350, 3, none⟩ = some (.int .i64 0) := (zqe BK350.out 3).trans rfl
          have hfs86 := zqd BK350.out 3
          have hns86_0 := NB318_350.out
          have hns86_1 := NB319_350.out
          have hns86_2 := NB320_350.out
          have hns86_3 := NB338_350.out
          have hms86_0 := NB350_318.out
          have hms86_1 := NB350_319.out
          have hms86_2 := NB350_320.out
          have hms86_3 := NB350_338.out
          have hs87 : w82.cell? ⟨gb350, 4, none⟩ = some (.int .i64 0) := (zqe BK350.out 4).trans rfl
          have hfs87 := zqd BK350.out 4
          have hns87_0 := NB318_350.out
          have hns87_1 := NB319_350.out
          have hns87_2 := NB320_350.out
          have hns87_3 := NB338_350.out
          have hms87_0 := NB350_318.out
          have hms87_1 := NB350_319.out
          have hms87_2 := NB350_320.out
          have hms87_3 := NB350_338.out
          have hs88 : w82.cell? ⟨gb350, 5, none⟩ = some (.int .u64 0) := (zqe BK350.out 5).trans rfl
          have hfs88 := zqd BK350.out 5
          have hns88_0 := NB318_350.out
          have hns88_1 := NB319_350.out
          have hns88_2 := NB320_350.out
          have hns88_3 := NB338_350.out
          have hms88_0 := NB350_318.out
          have hms88_1 := NB350_319.out
          have hms88_2 := NB350_320.out
          have hms88_3 := NB350_338.out
          have hs89 : w82.cell? ⟨gb350, 6, none⟩ = some (.int .u64 0) := (zqe BK350.out 6).trans rfl
          have hfs89 := zqd BK350.out 6
          have hns89_0 := NB318_350.out
          have hns89_1 := NB319_350.out
          have hns89_2 := NB320_350.out
          have hns89_3 := NB338_350.out
          have hms89_0 := NB350_318.out
          have hms89_1 := NB350_319.out
          have hms89_2 := NB350_320.out
          have hms89_3 := NB350_338.out
          have hs90 : w82.cell? ⟨gb350, 7, none⟩ = some (.int .u64 0) := (zqe BK350.out 7).trans rfl
          have hfs90 := zqd BK350.out 7
          have hns90_0 := NB318_350.out
          have hns90_1 := NB319_350.out
          have hns90_2 := NB320_350.out
          have hns90_3 := NB338_350.out
          have hms90_0 := NB350_318.out
          have hms90_1 := NB350_319.out
          have hms90_2 := NB350_320.out
          have hms90_3 := NB350_338.out
          refine skip_ (w1 := ?_) (by rfl) rfl ?_ ?_
          rotate_left
          ·
           go_simp
           rfl
          refine hK.out _ _ ⟨((zqk NB318_350.out).trans (((zqk NB318_350.out).trans (((zqk NB318_350.out).trans (((zqk NB318_350.out).trans (((zqk NB318_350.out).trans (((zqk NB318_350.out).trans (((zqk NB318_350.out).trans (((zqk NB318_350.out).trans (hHeld.1)))))))))))))))), ((zqk NB318_350.out).trans (((zqk NB318_350.out).trans (((zqk NB318_350.out).trans (((zqk NB318_350.out).trans (((zqk NB318_350.out).trans (((zqk NB318_350.out).trans (((zqk NB318_350.out).trans (((zqk NB318_350.out).trans (hHeld.2.1)))))))))))))))), ((zqk NB318_350.out).trans (((zqk NB318_350.out).trans (((zqk NB318_350.out).trans (((zqk NB318_350.out).trans (((zqk NB318_350.out).trans (((zqk NB318_350.out).trans (((zqk NB318_350.out).trans (((zqk NB318_350.out).trans (hHeld.2.2.1)))))))))))))))), ((zqk NB318_350.out).trans (((zqk NB318_350.out).trans (((zqk NB318_350.out).trans (((zqk NB318_350.out).trans (((zqk NB318_350.out).trans (((zqk NB318_350.out).trans (((zqk NB318_350.out).trans (((zqk NB318_350.out).trans (hHeld.2.2.2.1)))))))))))))))), ((zqk NB319_350.out).trans (((zqk NB319_350.out).trans (((zqk NB319_350.out).trans (((zqk NB319_350.out).trans (((zqk NB319_350.out).trans (((zqk NB319_350.out).trans (((zqk NB319_350.out).trans (((zqk NB319_350.out).trans (hHeld.2.2.2.2.1)))))))))))))))), ((zqk NB319_350.out).trans (((zqk NB319_350.out).trans (((zqk NB319_350.out).trans (((zqk NB319_350.out).trans (((zqk NB319_350.out).trans (((zqk NB319_350.out).trans (((zqk NB319_350.out).trans (((zqk NB319_350.out).trans (hHeld.2.2.2.2.2.1)))))))))))))))), ((zqk NB319_350.out).trans (((zqk NB319_350.out).trans (((zqk NB319_350.out).trans (((zqk NB319_350.out).trans (((zqk NB319_350.out).trans (((zqk NB319_350.out).trans (((zqk NB319_350.out).trans (((zqk NB319_350.out).trans (hHeld.2.2.2.2.2.2.1)))))))))))))))), ((zqk NB319_350.out).trans (((zqk NB319_350.out).trans (((zqk NB319_350.out).trans (((zqk NB319_350.out).trans (((zqk NB319_350.out).trans (((zqk NB319_350.out).trans (((zqk NB319_350.out).trans (((zqk NB319_350.out).trans (hHeld.2.2.2.2.2.2.2.1)))))))))))))))), ((zqk NB319_350.out).trans (((zqk NB319_350.out).trans (((zqk NB319_350.out).trans (((zqk NB319_350.out).trans (((zqk NB319_350.out).trans (((zqk NB319_350.out).trans (((zqk NB319_350.out).trans (((zqk NB319_350.out).trans (hHeld.2.2.2.2.2.2.2.2.1)))))))))))))))), ((zqk NB319_350.out).trans (((zqk NB319_350.out).trans (((zqk NB319_350.out).trans (((zqk NB319_350.out).trans (((zqk NB319_350.out).trans (((zqk NB319_350.out).trans (((zqk NB319_350.out).trans (((zqk NB319_350.out).trans (hHeld.2.2.2.2.2.2.2.2.2.1)))))))))))))))), ((zqk NB319_350.out).trans (((zqk NB319_350.out).trans (((zqk NB319_350.out).trans (((zqk NB319_350.out).trans (((zqk NB319_350.out).trans (((zqk NB319_350.out).trans (((zqk NB319_350.out).trans (((zqk NB319_350.out).trans (hHeld.2.2.2.2.2.2.2.2.2.2.1)))))))))))))))), ((zqk NB319_350.out).trans (((zqk NB319_350.out).trans (((zqk NB319_350.out).trans (((zqk NB319_350.out).trans (((zqk NB319_350.out).trans (((zqk NB319_350.out).trans (((zqk NB319_350.out).trans (((zqk NB319_350.out).trans (hHeld.2.2.2.2.2.2.2.2.2.2.2.1)))))))))))))))), ((zqk (by first | exact zql hw339_0 GW350.out | (rw [add_block]; exact zql hw339_0 GW350.out) | (show (Addr.add _ _).block ≠ _; rw [add_block]; exact zql hw339_0 GW350.out) | (dsimp only; exact zql hw339_0 GW350.out))).trans (((zqk (by first | exact zql hw339_0 GW350.out | (rw [add_block]; exact zql hw339_0 GW350.out) | (show (Addr.add _ _).block ≠ _; rw [add_block]; exact zql hw339_0 GW350.out) | (dsimp only; exact zql hw339_0 GW350.out))).trans (((zqk (by first | exact zql hw339_0 GW350.out | (rw [add_block]; exact zql hw339_0 GW350.out) | (show (Addr.add _ _).block ≠ _; rw [add_block]; exact zql hw339_0 GW350.out) | (dsimp only; exact zql hw339_0 GW350.out))).trans (((zqk (by first | exact zql hw339_0 GW350.out | (rw [add_block]; exact zql hw339_0 GW350.out) | (show (Addr.add _ _).block ≠ _; rw [add_block]; exact zql hw339_0 GW350.out) | (dsimp only; exact zql hw339_0 GW350.out))).trans (((zqk (by first | exact zql hw339_0 GW350.out | (rw [add_block]; exact zql hw339_0 GW350.out) | (show (Addr.add _ _).block ≠ _; rw [add_block]; exact zql hw339_0 GW350.out) | (dsimp only; exact zql hw339_0 GW350.out))).trans (((zqk (by first | exact zql hw339_0 GW350.out | (rw [add_block]; exact zql hw339_0 GW350.out) | (show (Addr.add _ _).block ≠ _; rw [add_block]; exact zql hw339_0 GW350.out) | (dsimp only; exact zql hw339_0 GW350.out))).trans (((zqk (by first | exact zql hw339_0 GW350.out | (rw [add_block]; exact zql hw339_0 GW350.out) | (show (Addr.add _ _).block ≠ _; rw [add_block]; exact zql hw339_0 GW350.out) | (dsimp only; exact zql hw339_0 GW350.out))).trans (((zqk (by first | exact zql hw339_0 GW350.out | (rw [add_block]; exact zql hw339_0 GW350.out) | (show (Addr.add _ _).block ≠ _; rw [add_block]; exact zql hw339_0 GW350.out) | (dsimp only; exact zql hw339_0 GW350.out))).trans (hHeld.2.2.2.2.2.2.2.2.2.2.2.2))))))))))))))))⟩ (fun hHeld => ?_)
          clear hK K
          refine zqp 13 (some 17) (zqB 15 16383) (any_of HT_.out (by kernel_rfl)) (h := ?_)
          refine zqp 14 (some 18) (zqB 15 32767) (any_of HT_.out (by kernel_rfl)) (h := ?_)
          refine done_ (done_of HT_.out (by kernel_rfl)) ?_
          have hnb91 := NB350_318.out
          have hnc91 := NB318_350.out
          have hnb92 := NB350_319.out
          have hnc92 := NB319_350.out
          have hnb93 := NB350_320.out
          have hnc93 := NB320_350.out
          have hnb94 := NB350_338.out
          have hnc94 := NB338_350.out
          obtain ⟨hcz95_0, hcz95_1, hcz95_2, hcz95_3, hcz95_4, hcz95_5, hcz95_6, hcz95_7, hfz95_0, hfz95_1, hfz95_2, hfz95_3, hfz95_4, hfz95_5, hfz95_6, hfz95_7⟩ := zqz8 BK350.out
          have hnb96 := NB319_318.out
          have hnc96 := NB318_319.out
          have hnb97 := NB319_320.out
          have hnc97 := NB320_319.out
          have hnb98 := NB319_338.out
          have hnc98 := NB338_319.out
          obtain ⟨hcz99_0, hcz99_1, hcz99_2, hcz99_3, hcz99_4, hcz99_5, hcz99_6, hcz99_7, hfz99_0, hfz99_1, hfz99_2, hfz99_3, hfz99_4, hfz99_5, hfz99_6, hfz99_7⟩ := zqz8 BK319.out
          have hnb100 := NB338_318.out
          have hnc100 := NB318_338.out
          have hnb101 := NB338_320.out
          have hnc101 := NB320_338.out
          obtain ⟨hcz102_0, hcz102_1, hcz102_2, hcz102_3, hcz102_4, hcz102_5, hcz102_6, hcz102_7, hfz102_0, hfz102_1, hfz102_2, hfz102_3, hfz102_4, hfz102_5, hfz102_6, hfz102_7⟩ := zqz8 BK338.out
          have hnb103 := NB320_318.out
          have hnc103 := NB318_320.out
          obtain ⟨hcz104_0, hcz104_1, hcz104_2, hcz104_3, hcz104_4, hcz104_5, hcz104_6, hcz104_7, hfz104_0, hfz104_1, hfz104_2, hfz104_3, hfz104_4, hfz104_5, hfz104_6, hfz104_7⟩ := zqz8 BK320.out
          try go_wp2
          go_roundg k2
          case measure => have := HJ5.out; have := HK2.out; omega
          case rel => exact ⟨(wrap64 (x10_2 + t336)), (wrap64 (x11_2 + t348)), (wrap64 (x12_2 + 1)), (t340), (t341), (t342), (t343), (t344), (t345), (t346), (t347), (t328), (t329), (t330), (t331), (t332), (t333), (t334), (t335), (by first | rfl | (simp; done) | (simp [*]; done)), (by first | rfl | (simp; done) | (simp [*]; done)), (by first | rfl | (simp; done) | (simp [*]; done)), H', ⟨by have := HJ5.out; have := HK2.out; omega⟩, ⟨by (repeat (with_reducible first | apply zqa | apply zqb | apply zqc | refine blk_far ?_ NB318_320.out _ | refine blk_far ?_ NB318_319.out _ | refine blk_far ?_ NB318_350.out _)); exact BK318.out⟩, ⟨by exact zqC (blk_far (blk_far (blk_far (blk_far (blk_far (blk_far (blk_far (blk_far (blk_set (blk_set (blk_set (blk_set (blk_set (blk_set (blk_set (blk_set (blk_far (blk_far (blk_far (blk_far (blk_far (blk_far (blk_far (blk_far BK319.out NB319_350.out _) NB319_350.out _) NB319_350.out _) NB319_350.out _) NB319_350.out _) NB319_350.out _) NB319_350.out _) NB319_350.out _) 0 _) 1 _) 2 _) 3 _) 4 _) 5 _) 6 _) 7 _) NB319_320.out _) NB319_320.out _) NB319_320.out _) NB319_320.out _) NB319_320.out _) NB319_320.out _) NB319_320.out _) NB319_320.out _) (by simp only [List.setIfInBounds_toArray, List.set_cons_zero, List.set_cons_succ])⟩, ⟨by exact zqC (blk_set (blk_set (blk_set (blk_set (blk_set (blk_set (blk_set (blk_set (blk_far (blk_far (blk_far (blk_far (blk_far (blk_far (blk_far (blk_far (blk_far (blk_far (blk_far (blk_far (blk_far (blk_far (blk_far (blk_far BK320.out NB320_350.out _) NB320_350.out _) NB320_350.out _) NB320_350.out _) NB320_350.out _) NB320_350.out _) NB320_350.out _) NB320_350.out _) NB320_319.out _) NB320_319.out _) NB320_319.out _) NB320_319.out _) NB320_319.out _) NB320_319.out _) NB320_319.out _) NB320_319.out _) 0 _) 1 _) 2 _) 3 _) 4 _) 5 _) 6 _) 7 _) (by simp only [List.setIfInBounds_toArray, List.set_cons_zero, List.set_cons_succ])⟩, ⟨by repeat (first | (with_reducible first | exact HB.out | apply zqg | apply zqf | apply zqh | refine below_set ?_ GE318.out | refine below_set ?_ GE319.out | refine below_set ?_ GE320.out | refine below_set ?_ GE338.out | refine below_set ?_ GE350.out) | exact HB.out)⟩⟩
         ·
          replace c65 := Bool.eq_false_iff.mpr c65
          subst c65
          have H1 : (none) = some r := by rw [if_neg (show ¬ (false = true) by decide)] at H; exact H
          clear H
          have H := H1
          clear H1
          exact absurd H (by simp)
        ·
         replace c64 := Bool.eq_false_iff.mpr c64
         subst c64
         have H1 : (some true) = some r := by rw [if_neg (show ¬ (false = true) by decide)] at H; exact H
         clear H
         have H := H1
         clear H1
         obtain rfl := Option.some.inj H
         try go_wp2
         have n0_ := zqi (zqb BK318.out)
         have n1_ := zqi (zqb BK319.out)
         have n2_ := zqi (zqb BK320.out)
         have n3_ := zqi (zqh HB.out)
         clear BK318
         clear BK319
         clear BK320
         clear HB
         have BK318 := n0_
         have BK319 := n1_
         have BK320 := n2_
         have HB := n3_
         clear n0_ n1_ n2_ n3_
         have p327 : 0 ≤ (x12_2 : Int) := of_decide_eq_true (by first | (with_reducible assumption) | assumption)
         have q327 : x12_2 < (l3.length : Int) := of_decide_eq_true (by first | (with_reducible assumption) | assumption)
         obtain ⟨ad327, e327, hx327_0⟩ := Kd.at_int HR3.out x12_2 p327 q327
         have hw327_0 := hx327_0
         cases e327
         replace hx327_0 := (HB.out.cell (World.block_lt_of_cell? w _ hx327_0)).trans hx327_0
         replace p327 := eq_true p327
         replace q327 := eq_true q327
         refine start_ (n := 15) (S := fun w' => w'.cell? ⟨gb318, 0, none⟩ = some (.int .i64 a0_0) ∧ w'.cell? ⟨gb318, 1, none⟩ = some (.int .i64 a0_1) ∧ w'.cell? ⟨gb318, 2, none⟩ = some (.int .i64 a0_2) ∧ w'.cell? ⟨gb318, 3, none⟩ = some (.slice A0_3 l0_3.length c0_3) ∧ w'.cell? ⟨gb320, 0, none⟩ = some (.int .i64 x321000_2) ∧ w'.cell? ⟨gb320, 1, none⟩ = some (.int .i64 x321001_2) ∧ w'.cell? ⟨gb320, 2, none⟩ = some (.int .i64 x321002_2) ∧ w'.cell? ⟨gb320, 3, none⟩ = some (.int .i64 x321003_2) ∧ w'.cell? ⟨gb320, 4, none⟩ = some (.int .i64 x321004_2) ∧ w'.cell? ⟨gb320, 5, none⟩ = some (.int .u64 x321005_2) ∧ w'.cell? ⟨gb320, 6, none⟩ = some (.int .u64 x321006_2) ∧ w'.cell? ⟨gb320, 7, none⟩ = some (.int .u64 x321007_2) ∧ w'.cell? (ad327.add (x12_2).toNat) = some (.int .i64 (rd l3 x12_2))) (ds := []) (zqB 15 0) (by kernel_rfl) rfl rfl ⟨(zqe BK318.out 0).trans rfl, (zqe BK318.out 1).trans rfl, (zqe BK318.out 2).trans rfl, (zqe BK318.out 3).trans rfl, (zqe BK320.out 0).trans rfl, (zqe BK320.out 1).trans rfl, (zqe BK320.out 2).trans rfl, (zqe BK320.out 3).trans rfl, (zqe BK320.out 4).trans rfl, (zqe BK320.out 5).trans rfl, (zqe BK320.out 6).trans rfl, (zqe BK320.out 7).trans rfl, ((HB.out.cell (World.block_lt_of_cell? w _ hw327_0)).trans hw327_0)⟩ (fun hHeld => ?_); refine with_tabW haulierlaw11_RelaxWays.tab9 haulierlaw11_RelaxWays.bits9 (fun HT_ HW_ => ?_)
         generalize wr.drew = w105 at BK318 BK319 BK320 HB hx327_0 hHeld ⊢
         refine zqp 2 (some 73) (zqB 15 4) (any_of HT_.out (by kernel_rfl)) (h := ?_)
         refine zqp 3 (some 74) (zqB 15 12) (any_of HT_.out (by kernel_rfl)) (h := ?_)
         refine zqp 4 (some 75) (zqB 15 28) (any_of HT_.out (by kernel_rfl)) (h := ?_)
         refine zqt 0 (some 71) (zqB 15 29) (take_ofW HT_.out HW_.out (by kernel_rfl)) hHeld (h := ?_)
         refine zqt 1 (some 72) (zqB 15 31) (take_ofW HT_.out HW_.out (by kernel_rfl)) hHeld (h := ?_)
         refine zqt 5 (some 76) (zqB 15 63) (take_ofW HT_.out HW_.out (by kernel_rfl)) hHeld (h := ?_)
         refine join_ (σ := Nat) 3 (zqB 15 4095) (fun s_ => [(77, .tuple #[.agg #[.int .i64 t328, .int .i64 t329, .int .i64 t330, .int .i64 t331, .int .i64 t332, .int .u64 t333, .int .u64 t334, .int .u64 t335], .int .i64 t336, .bool false]), (13, .pointer (some ⟨s_, 0, none⟩)), (70, .tuple #[.agg #[.int .i64 t328, .int .i64 t329, .int .i64 t330, .int .i64 t331, .int .i64 t332, .int .u64 t333, .int .u64 t334, .int .u64 t335], .int .i64 t336, .bool false]), (78, .agg #[.int .i64 t328, .int .i64 t329, .int .i64 t330, .int .i64 t331, .int .i64 t332, .int .u64 t333, .int .u64 t334, .int .u64 t335]), (79, .int .i64 t336), (80, .bool false)]) (fun s_ w' => (w'.cell? ⟨gb318, 0, none⟩ = some (.int .i64 a0_0) ∧ w'.cell? ⟨gb318, 1, none⟩ = some (.int .i64 a0_1) ∧ w'.cell? ⟨gb318, 2, none⟩ = some (.int .i64 a0_2) ∧ w'.cell? ⟨gb318, 3, none⟩ = some (.slice A0_3 l0_3.length c0_3) ∧ w'.cell? ⟨gb320, 0, none⟩ = some (.int .i64 x321000_2) ∧ w'.cell? ⟨gb320, 1, none⟩ = some (.int .i64 x321001_2) ∧ w'.cell? ⟨gb320, 2, none⟩ = some (.int .i64 x321002_2) ∧ w'.cell? ⟨gb320, 3, none⟩ = some (.int .i64 x321003_2) ∧ w'.cell? ⟨gb320, 4, none⟩ = some (.int .i64 x321004_2) ∧ w'.cell? ⟨gb320, 5, none⟩ = some (.int .u64 x321005_2) ∧ w'.cell? ⟨gb320, 6, none⟩ = some (.int .u64 x321006_2) ∧ w'.cell? ⟨gb320, 7, none⟩ = some (.int .u64 x321007_2) ∧ w'.cell? (ad327.add (x12_2).toNat) = some (.int .i64 (rd l3 x12_2))) ∧ (w'.heap[gb318]? = some (.cells #[.int .i64 a0_0, .int .i64 a0_1, .int .i64 a0_2, .slice A0_3 l0_3.length c0_3] 26 (0, 0))) ∧ (w'.heap[gb319]? = some (.cells #[.int .i64 x320000_2, .int .i64 x320001_2, .int .i64 x320002_2, .int .i64 x320003_2, .int .i64 x320004_2, .int .u64 x320005_2, .int .u64 x320006_2, .int .u64 x320007_2] 40 (0, 0))) ∧ (w'.heap[gb320]? = some (.cells #[.int .i64 x321000_2, .int .i64 x321001_2, .int .i64 x321002_2, .int .i64 x321003_2, .int .i64 x321004_2, .int .u64 x321005_2, .int .u64 x321006_2, .int .u64 x321007_2] 40 (0, 0))) ∧ (w'.heap[s_]? = some (.cells #[.int .i64 0, .int .i64 0, .int .i64 0, .int .i64 0, .int .i64 0, .int .u64 0, .int .u64 0, .int .u64 0] 40 (0, 0))) ∧ (w.heap.size ≤ s_) ∧ (w.heap.size ≤ s_) ∧ (gb318 ≠ s_) ∧ (s_ ≠ gb318) ∧ (gb319 ≠ s_) ∧ (s_ ≠ gb319) ∧ (gb320 ≠ s_) ∧ (s_ ≠ gb320) ∧ (Below w.heap.size w w')) ?_ ?_
         rotate_left
         ·
          intro hCont
          refine two_ (i := 6) (j := 11) (Ni := some 77) (Nj := some 13) (zqB 15 127) (zqB 15 2111) rfl rfl rfl rfl (two_of HT_.out (by kernel_rfl)) (by decide) (by decide) (fun K hK => ?_) (fun K hK => ?_)
          ·
           skip
           refine goes_ Try.func22 (by kernel_rfl) rfl #[.agg #[.int .i64 a0_0, .int .i64 a0_1, .int .i64 a0_2, .slice A0_3 l0_3.length c0_3], .agg #[.int .i64 x321000_2, .int .i64 x321001_2, .int .i64 x321002_2, .int .i64 x321003_2, .int .i64 x321004_2, .int .u64 x321005_2, .int .u64 x321006_2, .int .u64 x321007_2], .int .i64 (rd l3 x12_2)] (by rfl) rfl rfl (by (try simp only [List.map_toArray, List.map_cons, List.map_nil]); first | done | rfl | (simp only [List.length_drop, List.length_take]; rfl)) ?_
           with_reducible refine (state_Move.calls k2 a0_0 a0_1 a0_2 _ _ l0_3 x321000_2 x321001_2 x321002_2 x321003_2 x321004_2 x321005_2 x321006_2 x321007_2 (rd l3 x12_2) t328 t329 t330 t331 t332 t333 t334 t335 t336 false _ ?side1 ?side2 A62.out).mono ?_
           (case side1 => repeat (first | exact (Kd.C_below HR0_3.out HB.out) | (with_reducible refine Kd.C_alloc ?_ _) | (with_reducible refine Kd.C_drewN ?_ _) | (with_reducible refine Kd.C_drew ?_)))
           (case side2 => exact HC0_3.out)
           rintro e w106 ⟨rfl, hb⟩
           refine ⟨_, rfl, ?_⟩
           have n0_ := zqi (zqy BK318.out hb)
           have n1_ := zqi (zqy BK319.out hb)
           have n2_ := zqi (zqy BK320.out hb)
           have n3_ := zqi (below_step (zqn HB.out) hb)
           clear BK318
           clear BK319
           clear BK320
           clear HB
           have BK318 := n0_
           have BK319 := n1_
           have BK320 := n2_
           have HB := n3_
           clear n0_ n1_ n2_ n3_
           (try clear hb)
           (try clear hb2)
           (try clear hk)
           (try clear hi)
           refine hK.out _ _ ⟨(zqe BK318.out 0).trans rfl, (zqe BK318.out 1).trans rfl, (zqe BK318.out 2).trans rfl, (zqe BK318.out 3).trans rfl, (zqe BK320.out 0).trans rfl, (zqe BK320.out 1).trans rfl, (zqe BK320.out 2).trans rfl, (zqe BK320.out 3).trans rfl, (zqe BK320.out 4).trans rfl, (zqe BK320.out 5).trans rfl, (zqe BK320.out 6).trans rfl, (zqe BK320.out 7).trans rfl, ((HB.out.cell (World.block_lt_of_cell? w _ hw327_0)).trans hw327_0)⟩ (fun hHeld => ?_)
           clear hK K
           refine norm_ (a' := ?_) ?_ ?_
           rotate_left
           ·
            show Act.put _ (some 77) _ = _
            simp only [Act.put, List.setIfInBounds_toArray, List.set_cons_zero, List.set_cons_succ, i64_w, i32_w]
            rfl
           refine zqp 7 (some 70) (zqB 15 255) (any_of HT_.out (by kernel_rfl)) (h := ?_)
           refine zqp 8 (some 78) (zqB 15 511) (any_of HT_.out (by kernel_rfl)) (h := ?_)
           refine zqp 9 (some 79) (zqB 15 1023) (any_of HT_.out (by kernel_rfl)) (h := ?_)
           refine zqp 10 (some 80) (zqB 15 2047) (any_of HT_.out (by kernel_rfl)) (h := ?_)
           refine one_ (i := 11) (N := some 13) (zqB 15 4095) rfl rfl (one_of HT_.out (by kernel_rfl)) (by decide) (fun K hK => ?_)
           refine box_step ?hg (N := 13) ?hd (cs := #[.int .i64 0, .int .i64 0, .int .i64 0, .int .i64 0, .int .i64 0, .int .u64 0, .int .u64 0, .int .u64 0]) (t := 40) ?hr ?_; (case hd => rfl); (case hg => rfl); (case hr => first | (go_simp; done) | (go_simp; rfl))
           intro gb338 hg w107 hbox hb
           have n0_ := zqi (zqy BK318.out hb)
           have n1_ := zqi (zqy BK319.out hb)
           have n2_ := zqi (zqy BK320.out hb)
           have n3_ := zqi (below_step (zqn HB.out) hb)
           have n4_ := zqi (hbox)
           have n5_ := zqi (zqo hg HB.out)
           have n6_ := zqi (zqo hg HB.out)
           have n7_ := zqi ((zqq hg BK318.out))
           have n8_ := zqi ((zqr hg BK318.out))
           have n9_ := zqi ((zqq hg BK319.out))
           have n10_ := zqi ((zqr hg BK319.out))
           have n11_ := zqi ((zqq hg BK320.out))
           have n12_ := zqi ((zqr hg BK320.out))
           clear BK318
           clear BK319
           clear BK320
           clear HB
           have BK318 := n0_
           have BK319 := n1_
           have BK320 := n2_
           have HB := n3_
           have BK338 := n4_
           have GW338 := n5_
           have GE338 := n6_
           have NB318_338 := n7_
           have NB338_318 := n8_
           have NB319_338 := n9_
           have NB338_319 := n10_
           have NB320_338 := n11_
           have NB338_320 := n12_
           clear n0_ n1_ n2_ n3_ n4_ n5_ n6_ n7_ n8_ n9_ n10_ n11_ n12_
           clear hb hbox hg
           refine hK.out _ _ ⟨(zqe BK318.out 0).trans rfl, (zqe BK318.out 1).trans rfl, (zqe BK318.out 2).trans rfl, (zqe BK318.out 3).trans rfl, (zqe BK320.out 0).trans rfl, (zqe BK320.out 1).trans rfl, (zqe BK320.out 2).trans rfl, (zqe BK320.out 3).trans rfl, (zqe BK320.out 4).trans rfl, (zqe BK320.out 5).trans rfl, (zqe BK320.out 6).trans rfl, (zqe BK320.out 7).trans rfl, ((HB.out.cell (World.block_lt_of_cell? w _ hw327_0)).trans hw327_0)⟩ (fun hHeld => ?_)
           clear hK K
           refine norm_ (a' := ?_) ?_ ?_
           rotate_left
           ·
            show Act.put _ (some 13) _ = _
            simp only [Act.put, List.setIfInBounds_toArray, List.set_cons_zero, List.set_cons_succ, i64_w, i32_w]
            rfl
           exact norm_ (by simp only [putAll, Act.put, List.setIfInBounds_toArray, List.set_cons_zero, List.set_cons_succ]) (hCont (gb338) _ ⟨hHeld, (zqm BK318.out), (zqm BK319.out), (zqm BK320.out), (zqm BK338.out), GW338.out, GE338.out, NB318_338.out, NB338_318.out, NB319_338.out, NB338_319.out, NB320_338.out, NB338_320.out, (zqn HB.out)⟩)
          ·
           skip
           refine box_step ?hg (N := 13) ?hd (cs := #[.int .i64 0, .int .i64 0, .int .i64 0, .int .i64 0, .int .i64 0, .int .u64 0, .int .u64 0, .int .u64 0]) (t := 40) ?hr ?_; (case hd => rfl); (case hg => rfl); (case hr => first | (go_simp; done) | (go_simp; rfl))
           intro gb338 hg w106 hbox hb
           have n0_ := zqi (zqy BK318.out hb)
           have n1_ := zqi (zqy BK319.out hb)
           have n2_ := zqi (zqy BK320.out hb)
           have n3_ := zqi (below_step (zqn HB.out) hb)
           have n4_ := zqi (hbox)
           have n5_ := zqi (zqo hg HB.out)
           have n6_ := zqi (zqo hg HB.out)
           have n7_ := zqi ((zqq hg BK318.out))
           have n8_ := zqi ((zqr hg BK318.out))
           have n9_ := zqi ((zqq hg BK319.out))
           have n10_ := zqi ((zqr hg BK319.out))
           have n11_ := zqi ((zqq hg BK320.out))
           have n12_ := zqi ((zqr hg BK320.out))
           clear BK318
           clear BK319
           clear BK320
           clear HB
           have BK318 := n0_
           have BK319 := n1_
           have BK320 := n2_
           have HB := n3_
           have BK338 := n4_
           have GW338 := n5_
           have GE338 := n6_
           have NB318_338 := n7_
           have NB338_318 := n8_
           have NB319_338 := n9_
           have NB338_319 := n10_
           have NB320_338 := n11_
           have NB338_320 := n12_
           clear n0_ n1_ n2_ n3_ n4_ n5_ n6_ n7_ n8_ n9_ n10_ n11_ n12_
           clear hb hbox hg
           refine hK.out _ _ ⟨(zqe BK318.out 0).trans rfl, (zqe BK318.out 1).trans rfl, (zqe BK318.out 2).trans rfl, (zqe BK318.out 3).trans rfl, (zqe BK320.out 0).trans rfl, (zqe BK320.out 1).trans rfl, (zqe BK320.out 2).trans rfl, (zqe BK320.out 3).trans rfl, (zqe BK320.out 4).trans rfl, (zqe BK320.out 5).trans rfl, (zqe BK320.out 6).trans rfl, (zqe BK320.out 7).trans rfl, ((HB.out.cell (World.block_lt_of_cell? w _ hw327_0)).trans hw327_0)⟩ (fun hHeld => ?_)
           clear hK K
           refine norm_ (a' := ?_) ?_ ?_
           rotate_left
           ·
            show Act.put _ (some 13) _ = _
            simp only [Act.put, List.setIfInBounds_toArray, List.set_cons_zero, List.set_cons_succ, i64_w, i32_w]
            rfl
           refine one_ (i := 6) (N := some 77) (zqB 15 2175) rfl rfl (one_of HT_.out (by kernel_rfl)) (by decide) (fun K hK => ?_)
           refine goes_ Try.func22 (by kernel_rfl) rfl #[.agg #[.int .i64 a0_0, .int .i64 a0_1, .int .i64 a0_2, .slice A0_3 l0_3.length c0_3], .agg #[.int .i64 x321000_2, .int .i64 x321001_2, .int .i64 x321002_2, .int .i64 x321003_2, .int .i64 x321004_2, .int .u64 x321005_2, .int .u64 x321006_2, .int .u64 x321007_2], .int .i64 (rd l3 x12_2)] (by rfl) rfl rfl (by (try simp only [List.map_toArray, List.map_cons, List.map_nil]); first | done | rfl | (simp only [List.length_drop, List.length_take]; rfl)) ?_
           with_reducible refine (state_Move.calls k2 a0_0 a0_1 a0_2 _ _ l0_3 x321000_2 x321001_2 x321002_2 x321003_2 x321004_2 x321005_2 x321006_2 x321007_2 (rd l3 x12_2) t328 t329 t330 t331 t332 t333 t334 t335 t336 false _ ?side1 ?side2 A62.out).mono ?_
           (case side1 => repeat (first | exact (Kd.C_below HR0_3.out HB.out) | (with_reducible refine Kd.C_alloc ?_ _) | (with_reducible refine Kd.C_drewN ?_ _) | (with_reducible refine Kd.C_drew ?_)))
           (case side2 => exact HC0_3.out)
           rintro e w107 ⟨rfl, hb⟩
           refine ⟨_, rfl, ?_⟩
           have n0_ := zqi (zqy BK318.out hb)
           have n1_ := zqi (zqy BK319.out hb)
           have n2_ := zqi (zqy BK320.out hb)
           have n3_ := zqi (zqy BK338.out hb)
           have n4_ := zqi (below_step (zqn HB.out) hb)
           clear BK318
           clear BK319
           clear BK320
           clear BK338
           clear HB
           have BK318 := n0_
           have BK319 := n1_
           have BK320 := n2_
           have BK338 := n3_
           have HB := n4_
           clear n0_ n1_ n2_ n3_ n4_
           (try clear hb)
           (try clear hb2)
           (try clear hk)
           (try clear hi)
           refine hK.out _ _ ⟨(zqe BK318.out 0).trans rfl, (zqe BK318.out 1).trans rfl, (zqe BK318.out 2).trans rfl, (zqe BK318.out 3).trans rfl, (zqe BK320.out 0).trans rfl, (zqe BK320.out 1).trans rfl, (zqe BK320.out 2).trans rfl, (zqe BK320.out 3).trans rfl, (zqe BK320.out 4).trans rfl, (zqe BK320.out 5).trans rfl, (zqe BK320.out 6).trans rfl, (zqe BK320.out 7).trans rfl, ((HB.out.cell (World.block_lt_of_cell? w _ hw327_0)).trans hw327_0)⟩ (fun hHeld => ?_)
           clear hK K
           refine norm_ (a' := ?_) ?_ ?_
           rotate_left
           ·
            show Act.put _ (some 77) _ = _
            simp only [Act.put, List.setIfInBounds_toArray, List.set_cons_zero, List.set_cons_succ, i64_w, i32_w]
            rfl
           refine zqp 7 (some 70) (zqB 15 2303) (any_of HT_.out (by kernel_rfl)) (h := ?_)
           refine zqp 8 (some 78) (zqB 15 2559) (any_of HT_.out (by kernel_rfl)) (h := ?_)
           refine zqp 9 (some 79) (zqB 15 3071) (any_of HT_.out (by kernel_rfl)) (h := ?_)
           refine zqp 10 (some 80) (zqB 15 4095) (any_of HT_.out (by kernel_rfl)) (h := ?_)
           exact norm_ (by simp only [putAll, Act.put, List.setIfInBounds_toArray, List.set_cons_zero, List.set_cons_succ]) (hCont (gb338) _ ⟨hHeld, (zqm BK318.out), (zqm BK319.out), (zqm BK320.out), (zqm BK338.out), GW338.out, GE338.out, NB318_338.out, NB338_318.out, NB319_338.out, NB338_319.out, NB320_338.out, NB338_320.out, (zqn HB.out)⟩)
         rintro gb338 w108 ⟨hS_, h0_, h1_, h2_, h3_, h4_, h5_, h6_, h7_, h8_, h9_, h10_, h11_, h12_⟩
         have n0_ : Aside0 (w108.heap[gb318]? = some (.cells #[.int .i64 a0_0, .int .i64 a0_1, .int .i64 a0_2, .slice A0_3 l0_3.length c0_3] 26 (0, 0))) := ⟨h0_⟩
         have n1_ : Aside0 (w108.heap[gb319]? = some (.cells #[.int .i64 x320000_2, .int .i64 x320001_2, .int .i64 x320002_2, .int .i64 x320003_2, .int .i64 x320004_2, .int .u64 x320005_2, .int .u64 x320006_2, .int .u64 x320007_2] 40 (0, 0))) := ⟨h1_⟩
         have n2_ : Aside0 (w108.heap[gb320]? = some (.cells #[.int .i64 x321000_2, .int .i64 x321001_2, .int .i64 x321002_2, .int .i64 x321003_2, .int .i64 x321004_2, .int .u64 x321005_2, .int .u64 x321006_2, .int .u64 x321007_2] 40 (0, 0))) := ⟨h2_⟩
         have n3_ : Aside0 (w108.heap[gb338]? = some (.cells #[.int .i64 0, .int .i64 0, .int .i64 0, .int .i64 0, .int .i64 0, .int .u64 0, .int .u64 0, .int .u64 0] 40 (0, 0))) := ⟨h3_⟩
         have n4_ : Aside0 (w.heap.size ≤ gb338) := ⟨h4_⟩
         have n5_ : Aside0 (w.heap.size ≤ gb338) := ⟨h5_⟩
         have n6_ : Aside0 (gb318 ≠ gb338) := ⟨h6_⟩
         have n7_ : Aside0 (gb338 ≠ gb318) := ⟨h7_⟩
         have n8_ : Aside0 (gb319 ≠ gb338) := ⟨h8_⟩
         have n9_ : Aside0 (gb338 ≠ gb319) := ⟨h9_⟩
         have n10_ : Aside0 (gb320 ≠ gb338) := ⟨h10_⟩
         have n11_ : Aside0 (gb338 ≠ gb320) := ⟨h11_⟩
         have n12_ : Aside0 (Below w.heap.size w w108) := ⟨h12_⟩
         clear BK318
         clear BK319
         clear BK320
         clear HB
         clear h0_ h1_ h2_ h3_ h4_ h5_ h6_ h7_ h8_ h9_ h10_ h11_ h12_
         have BK318 := n0_
         have BK319 := n1_
         have BK320 := n2_
         have BK338 := n3_
         have GW338 := n4_
         have GE338 := n5_
         have NB318_338 := n6_
         have NB338_318 := n7_
         have NB319_338 := n8_
         have NB338_319 := n9_
         have NB320_338 := n10_
         have NB338_320 := n11_
         have HB := n12_
         clear n0_ n1_ n2_ n3_ n4_ n5_ n6_ n7_ n8_ n9_ n10_ n11_ n12_
         have hHeld : w108.cell? ⟨gb318, 0, none⟩ = some (.int .i64 a0_0) ∧ w108.cell? ⟨gb318, 1, none⟩ = some (.int .i64 a0_1) ∧ w108.cell? ⟨gb318, 2, none⟩ = some (.int .i64 a0_2) ∧ w108.cell? ⟨gb318, 3, none⟩ = some (.slice A0_3 l0_3.length c0_3) ∧ w108.cell? ⟨gb320, 0, none⟩ = some (.int .i64 x321000_2) ∧ w108.cell? ⟨gb320, 1, none⟩ = some (.int .i64 x321001_2) ∧ w108.cell? ⟨gb320, 2, none⟩ = some (.int .i64 x321002_2) ∧ w108.cell? ⟨gb320, 3, none⟩ = some (.int .i64 x321003_2) ∧ w108.cell? ⟨gb320, 4, none⟩ = some (.int .i64 x321004_2) ∧ w108.cell? ⟨gb320, 5, none⟩ = some (.int .u64 x321005_2) ∧ w108.cell? ⟨gb320, 6, none⟩ = some (.int .u64 x321006_2) ∧ w108.cell? ⟨gb320, 7, none⟩ = some (.int .u64 x321007_2) ∧ w108.cell? (ad327.add (x12_2).toNat) = some (.int .i64 (rd l3 x12_2)) := hS_
         refine norm_ (a' := ?_) ?_ ?_
         rotate_left
         ·
          simp only [putAll, Act.put, List.setIfInBounds_toArray, List.set_cons_zero, List.set_cons_succ]
          rfl
         refine one_ (i := 12) (N := none) (zqB 15 8191) rfl rfl (one_of HT_.out (by kernel_rfl)) (by decide) (fun K hK => ?_)
         have hs109 : w108.cell? ⟨gb338, 0, none⟩ = some (.int .i64 0) := (zqe BK338.out 0).trans rfl
         have hfs109 := zqd BK338.out 0
         have hns109_0 := NB318_338.out
         have hns109_1 := NB319_338.out
         have hns109_2 := NB320_338.out
         have hms109_0 := NB338_318.out
         have hms109_1 := NB338_319.out
         have hms109_2 := NB338_320.out
         have hs110 : w108.cell? ⟨gb338, 1, none⟩ = some (.int .i64 0) := (zqe BK338.out 1).trans rfl
         have hfs110 := zqd BK338.out 1
         have hns110_0 := NB318_338.out
         have hns110_1 := NB319_338.out
         have hns110_2 := NB320_338.out
         have hms110_0 := NB338_318.out
         have hms110_1 := NB338_319.out
         have hms110_2 := NB338_320.out
         have hs111 : w108.cell? ⟨gb338, 2, none⟩ = some (.int .i64 0) := (zqe BK338.out 2).trans rfl
         have hfs111 := zqd BK338.out 2
         have hns111_0 := NB318_338.out
         have hns111_1 := NB319_338.out
         have hns111_2 := NB320_338.out
         have hms111_0 := NB338_318.out
         have hms111_1 := NB338_319.out
         have hms111_2 := NB338_320.out
         have hs112 : w108.cell? ⟨gb338, 3, none⟩ = some (.int .i64 0) := (zqe BK338.out 3).trans rfl
         have hfs112 := zqd BK338.out 3
         have hns112_0 := NB318_338.out
         have hns112_1 := NB319_338.out
         have hns112_2 := NB320_338.out
         have hms112_0 := NB338_318.out
         have hms112_1 := NB338_319.out
         have hms112_2 := NB338_320.out
         have hs113 : w108.cell? ⟨gb338, 4, none⟩ = some (.int .i64 0) := (zqe BK338.out 4).trans rfl
         have hfs113 := zqd BK338.out 4
         have hns113_0 := NB318_338.out
         have hns113_1 := NB319_338.out
         have hns113_2 := NB320_338.out
         have hms113_0 := NB338_318.out
         have hms113_1 := NB338_319.out
         have hms113_2 := NB338_320.out
         have hs114 : w108.cell? ⟨gb338, 5, none⟩ = some (.int .u64 0) := (zqe BK338.out 5).trans rfl
         have hfs114 := zqd BK338.out 5
         have hns114_0 := NB318_338.out
         have hns114_1 := NB319_338.out
         have hns114_2 := NB320_338.out
         have hms114_0 := NB338_318.out
         have hms114_1 := NB338_319.out
         have hms114_2 := NB338_320.out
         have hs115 : w108.cell? ⟨gb338, 6, none⟩ = some (.int .u64 0) := (zqe BK338.out 6).trans rfl
         have hfs115 := zqd BK338.out 6
         have hns115_0 := NB318_338.out
         have hns115_1 := NB319_338.out
         have hns115_2 := NB320_338.out
         have hms115_0 := NB338_318.out
         have hms115_1 := NB338_319.out
         have hms115_2 := NB338_320.out
         have hs116 : w108.cell? ⟨gb338, 7, none⟩ = some (.int .u64 0) := (zqe BK338.out 7).trans rfl
         have hfs116 := zqd BK338.out 7
         have hns116_0 := NB318_338.out
         have hns116_1 := NB319_338.out
         have hns116_2 := NB320_338.out
         have hms116_0 := NB338_318.out
         have hms116_1 := NB338_319.out
         have hms116_2 := NB338_320.out
         refine skip_ (w1 := ?_) (by rfl) rfl ?_ ?_
         rotate_left
         ·
          go_simp
          rfl
         refine hK.out _ _ ⟨((zqk NB318_338.out).trans (((zqk NB318_338.out).trans (((zqk NB318_338.out).trans (((zqk NB318_338.out).trans (((zqk NB318_338.out).trans (((zqk NB318_338.out).trans (((zqk NB318_338.out).trans (((zqk NB318_338.out).trans (hHeld.1)))))))))))))))), ((zqk NB318_338.out).trans (((zqk NB318_338.out).trans (((zqk NB318_338.out).trans (((zqk NB318_338.out).trans (((zqk NB318_338.out).trans (((zqk NB318_338.out).trans (((zqk NB318_338.out).trans (((zqk NB318_338.out).trans (hHeld.2.1)))))))))))))))), ((zqk NB318_338.out).trans (((zqk NB318_338.out).trans (((zqk NB318_338.out).trans (((zqk NB318_338.out).trans (((zqk NB318_338.out).trans (((zqk NB318_338.out).trans (((zqk NB318_338.out).trans (((zqk NB318_338.out).trans (hHeld.2.2.1)))))))))))))))), ((zqk NB318_338.out).trans (((zqk NB318_338.out).trans (((zqk NB318_338.out).trans (((zqk NB318_338.out).trans (((zqk NB318_338.out).trans (((zqk NB318_338.out).trans (((zqk NB318_338.out).trans (((zqk NB318_338.out).trans (hHeld.2.2.2.1)))))))))))))))), ((zqk NB320_338.out).trans (((zqk NB320_338.out).trans (((zqk NB320_338.out).trans (((zqk NB320_338.out).trans (((zqk NB320_338.out).trans (((zqk NB320_338.out).trans (((zqk NB320_338.out).trans (((zqk NB320_338.out).trans (hHeld.2.2.2.2.1)))))))))))))))), ((zqk NB320_338.out).trans (((zqk NB320_338.out).trans (((zqk NB320_338.out).trans (((zqk NB320_338.out).trans (((zqk NB320_338.out).trans (((zqk NB320_338.out).trans (((zqk NB320_338.out).trans (((zqk NB320_338.out).trans (hHeld.2.2.2.2.2.1)))))))))))))))), ((zqk NB320_338.out).trans (((zqk NB320_338.out).trans (((zqk NB320_338.out).trans (((zqk NB320_338.out).trans (((zqk NB320_338.out).trans (((zqk NB320_338.out).trans (((zqk NB320_338.out).trans (((zqk NB320_338.out).trans (hHeld.2.2.2.2.2.2.1)))))))))))))))), ((zqk NB320_338.out).trans (((zqk NB320_338.out).trans (((zqk NB320_338.out).trans (((zqk NB320_338.out).trans (((zqk NB320_338.out).trans (((zqk NB320_338.out).trans (((zqk NB320_338.out).trans (((zqk NB320_338.out).trans (hHeld.2.2.2.2.2.2.2.1)))))))))))))))), ((zqk NB320_338.out).trans (((zqk NB320_338.out).trans (((zqk NB320_338.out).trans (((zqk NB320_338.out).trans (((zqk NB320_338.out).trans (((zqk NB320_338.out).trans (((zqk NB320_338.out).trans (((zqk NB320_338.out).trans (hHeld.2.2.2.2.2.2.2.2.1)))))))))))))))), ((zqk NB320_338.out).trans (((zqk NB320_338.out).trans (((zqk NB320_338.out).trans (((zqk NB320_338.out).trans (((zqk NB320_338.out).trans (((zqk NB320_338.out).trans (((zqk NB320_338.out).trans (((zqk NB320_338.out).trans (hHeld.2.2.2.2.2.2.2.2.2.1)))))))))))))))), ((zqk NB320_338.out).trans (((zqk NB320_338.out).trans (((zqk NB320_338.out).trans (((zqk NB320_338.out).trans (((zqk NB320_338.out).trans (((zqk NB320_338.out).trans (((zqk NB320_338.out).trans (((zqk NB320_338.out).trans (hHeld.2.2.2.2.2.2.2.2.2.2.1)))))))))))))))), ((zqk NB320_338.out).trans (((zqk NB320_338.out).trans (((zqk NB320_338.out).trans (((zqk NB320_338.out).trans (((zqk NB320_338.out).trans (((zqk NB320_338.out).trans (((zqk NB320_338.out).trans (((zqk NB320_338.out).trans (hHeld.2.2.2.2.2.2.2.2.2.2.2.1)))))))))))))))), ((zqk (by first | exact zql hw327_0 GW338.out | (rw [add_block]; exact zql hw327_0 GW338.out) | (show (Addr.add _ _).block ≠ _; rw [add_block]; exact zql hw327_0 GW338.out) | (dsimp only; exact zql hw327_0 GW338.out))).trans (((zqk (by first | exact zql hw327_0 GW338.out | (rw [add_block]; exact zql hw327_0 GW338.out) | (show (Addr.add _ _).block ≠ _; rw [add_block]; exact zql hw327_0 GW338.out) | (dsimp only; exact zql hw327_0 GW338.out))).trans (((zqk (by first | exact zql hw327_0 GW338.out | (rw [add_block]; exact zql hw327_0 GW338.out) | (show (Addr.add _ _).block ≠ _; rw [add_block]; exact zql hw327_0 GW338.out) | (dsimp only; exact zql hw327_0 GW338.out))).trans (((zqk (by first | exact zql hw327_0 GW338.out | (rw [add_block]; exact zql hw327_0 GW338.out) | (show (Addr.add _ _).block ≠ _; rw [add_block]; exact zql hw327_0 GW338.out) | (dsimp only; exact zql hw327_0 GW338.out))).trans (((zqk (by first | exact zql hw327_0 GW338.out | (rw [add_block]; exact zql hw327_0 GW338.out) | (show (Addr.add _ _).block ≠ _; rw [add_block]; exact zql hw327_0 GW338.out) | (dsimp only; exact zql hw327_0 GW338.out))).trans (((zqk (by first | exact zql hw327_0 GW338.out | (rw [add_block]; exact zql hw327_0 GW338.out) | (show (Addr.add _ _).block ≠ _; rw [add_block]; exact zql hw327_0 GW338.out) | (dsimp only; exact zql hw327_0 GW338.out))).trans (((zqk (by first | exact zql hw327_0 GW338.out | (rw [add_block]; exact zql hw327_0 GW338.out) | (show (Addr.add _ _).block ≠ _; rw [add_block]; exact zql hw327_0 GW338.out) | (dsimp only; exact zql hw327_0 GW338.out))).trans (((zqk (by first | exact zql hw327_0 GW338.out | (rw [add_block]; exact zql hw327_0 GW338.out) | (show (Addr.add _ _).block ≠ _; rw [add_block]; exact zql hw327_0 GW338.out) | (dsimp only; exact zql hw327_0 GW338.out))).trans (hHeld.2.2.2.2.2.2.2.2.2.2.2.2))))))))))))))))⟩ (fun hHeld => ?_)
         clear hK K
         refine zqp 13 (some 14) (zqB 15 16383) (any_of HT_.out (by kernel_rfl)) (h := ?_)
         refine zqp 14 (some 15) (zqB 15 32767) (any_of HT_.out (by kernel_rfl)) (h := ?_)
         refine done_ (done_of HT_.out (by kernel_rfl)) ?_
         try go_wp2
         generalize hW_ : ((((((((w108.setCell ⟨gb338, 0, none⟩ (.int .i64 t328)).setCell ⟨gb338, 1, none⟩ (.int .i64 t329)).setCell ⟨gb338, 2, none⟩ (.int .i64 t330)).setCell ⟨gb338, 3, none⟩ (.int .i64 t331)).setCell ⟨gb338, 4, none⟩ (.int .i64 t332)).setCell ⟨gb338, 5, none⟩ (.int .u64 t333)).setCell ⟨gb338, 6, none⟩ (.int .u64 t334)).setCell ⟨gb338, 7, none⟩ (.int .u64 t335)) = w117
         have n0_ : Aside0 (w117.heap[gb318]? = some (.cells #[.int .i64 a0_0, .int .i64 a0_1, .int .i64 a0_2, .slice A0_3 l0_3.length c0_3] 26 (0, 0))) := ⟨by subst hW_; (repeat (with_reducible first | apply zqa | apply zqb | apply zqc | refine blk_far ?_ NB318_338.out _)); exact BK318.out⟩
         have n1_ : Aside0 (w117.heap[gb319]? = some (.cells #[.int .i64 x320000_2, .int .i64 x320001_2, .int .i64 x320002_2, .int .i64 x320003_2, .int .i64 x320004_2, .int .u64 x320005_2, .int .u64 x320006_2, .int .u64 x320007_2] 40 (0, 0))) := ⟨by subst hW_; (repeat (with_reducible first | apply zqa | apply zqb | apply zqc | refine blk_far ?_ NB319_338.out _)); exact BK319.out⟩
         have n2_ : Aside0 (w117.heap[gb320]? = some (.cells #[.int .i64 x321000_2, .int .i64 x321001_2, .int .i64 x321002_2, .int .i64 x321003_2, .int .i64 x321004_2, .int .u64 x321005_2, .int .u64 x321006_2, .int .u64 x321007_2] 40 (0, 0))) := ⟨by subst hW_; (repeat (with_reducible first | apply zqa | apply zqb | apply zqc | refine blk_far ?_ NB320_338.out _)); exact BK320.out⟩
         have n3_ : Aside0 (w117.heap[gb338]? = some (.cells #[.int .i64 t328, .int .i64 t329, .int .i64 t330, .int .i64 t331, .int .i64 t332, .int .u64 t333, .int .u64 t334, .int .u64 t335] 40 (0, 0))) := ⟨by subst hW_; exact zqC (blk_set (blk_set (blk_set (blk_set (blk_set (blk_set (blk_set (blk_set BK338.out 0 _) 1 _) 2 _) 3 _) 4 _) 5 _) 6 _) 7 _) (by simp only [List.setIfInBounds_toArray, List.set_cons_zero, List.set_cons_succ])⟩
         have n4_ : Aside0 (Below w.heap.size w w117) := ⟨by subst hW_; repeat (first | (with_reducible first | exact HB.out | apply zqg | apply zqf | apply zqh | refine below_set ?_ GE318.out | refine below_set ?_ GE319.out | refine below_set ?_ GE320.out | refine below_set ?_ GE338.out) | exact HB.out)⟩
         clear hW_
         (try clear BK318)
         (try clear BK319)
         (try clear BK320)
         (try clear BK338)
         (try clear HB)
         have BK318 := n0_
         have BK319 := n1_
         have BK320 := n2_
         have BK338 := n3_
         have HB := n4_
         clear n0_ n1_ n2_ n3_ n4_
         have n0_ := zqi (zqb BK318.out)
         have n1_ := zqi (zqb BK319.out)
         have n2_ := zqi (zqb BK320.out)
         have n3_ := zqi (zqb BK338.out)
         have n4_ := zqi (zqh HB.out)
         clear BK318
         clear BK319
         clear BK320
         clear BK338
         clear HB
         have BK318 := n0_
         have BK319 := n1_
         have BK320 := n2_
         have BK338 := n3_
         have HB := n4_
         clear n0_ n1_ n2_ n3_ n4_
         have p339 : 0 ≤ (x12_2 : Int) := of_decide_eq_true (by first | (with_reducible assumption) | assumption)
         have q339 : x12_2 < (l3.length : Int) := of_decide_eq_true (by first | (with_reducible assumption) | assumption)
         obtain ⟨ad339, e339, hx339_0⟩ := Kd.at_int HR3.out x12_2 p339 q339
         have hw339_0 := hx339_0
         obtain rfl : ad327 = ad339 := (by injection e339)
         replace hx339_0 := (HB.out.cell (World.block_lt_of_cell? w _ hx339_0)).trans hx339_0
         replace p339 := eq_true p339
         replace q339 := eq_true q339
         refine start_ (n := 15) (S := fun w' => w'.cell? ⟨gb318, 0, none⟩ = some (.int .i64 a0_0) ∧ w'.cell? ⟨gb318, 1, none⟩ = some (.int .i64 a0_1) ∧ w'.cell? ⟨gb318, 2, none⟩ = some (.int .i64 a0_2) ∧ w'.cell? ⟨gb318, 3, none⟩ = some (.slice A0_3 l0_3.length c0_3) ∧ w'.cell? ⟨gb319, 0, none⟩ = some (.int .i64 x320000_2) ∧ w'.cell? ⟨gb319, 1, none⟩ = some (.int .i64 x320001_2) ∧ w'.cell? ⟨gb319, 2, none⟩ = some (.int .i64 x320002_2) ∧ w'.cell? ⟨gb319, 3, none⟩ = some (.int .i64 x320003_2) ∧ w'.cell? ⟨gb319, 4, none⟩ = some (.int .i64 x320004_2) ∧ w'.cell? ⟨gb319, 5, none⟩ = some (.int .u64 x320005_2) ∧ w'.cell? ⟨gb319, 6, none⟩ = some (.int .u64 x320006_2) ∧ w'.cell? ⟨gb319, 7, none⟩ = some (.int .u64 x320007_2) ∧ w'.cell? (ad327.add (x12_2).toNat) = some (.int .i64 (rd l3 x12_2))) (ds := []) (zqB 15 0) (by kernel_rfl) rfl rfl ⟨(zqe BK318.out 0).trans rfl, (zqe BK318.out 1).trans rfl, (zqe BK318.out 2).trans rfl, (zqe BK318.out 3).trans rfl, (zqe BK319.out 0).trans rfl, (zqe BK319.out 1).trans rfl, (zqe BK319.out 2).trans rfl, (zqe BK319.out 3).trans rfl, (zqe BK319.out 4).trans rfl, (zqe BK319.out 5).trans rfl, (zqe BK319.out 6).trans rfl, (zqe BK319.out 7).trans rfl, ((HB.out.cell (World.block_lt_of_cell? w _ hw339_0)).trans hw339_0)⟩ (fun hHeld => ?_); refine with_tabW haulierlaw11_RelaxWays.tab10 haulierlaw11_RelaxWays.bits10 (fun HT_ HW_ => ?_)
         generalize w117.drew = w118 at BK318 BK319 BK320 BK338 HB hx339_0 hHeld ⊢
         refine zqp 2 (some 84) (zqB 15 4) (any_of HT_.out (by kernel_rfl)) (h := ?_)
         refine zqp 3 (some 85) (zqB 15 12) (any_of HT_.out (by kernel_rfl)) (h := ?_)
         refine zqp 4 (some 86) (zqB 15 28) (any_of HT_.out (by kernel_rfl)) (h := ?_)
         refine zqt 0 (some 82) (zqB 15 29) (take_ofW HT_.out HW_.out (by kernel_rfl)) hHeld (h := ?_)
         refine zqt 1 (some 83) (zqB 15 31) (take_ofW HT_.out HW_.out (by kernel_rfl)) hHeld (h := ?_)
         refine zqt 5 (some 87) (zqB 15 63) (take_ofW HT_.out HW_.out (by kernel_rfl)) hHeld (h := ?_)
         refine join_ (σ := Nat) 3 (zqB 15 4095) (fun s_ => [(88, .tuple #[.agg #[.int .i64 t340, .int .i64 t341, .int .i64 t342, .int .i64 t343, .int .i64 t344, .int .u64 t345, .int .u64 t346, .int .u64 t347], .int .i64 t348, .bool t349]), (16, .pointer (some ⟨s_, 0, none⟩)), (81, .tuple #[.agg #[.int .i64 t340, .int .i64 t341, .int .i64 t342, .int .i64 t343, .int .i64 t344, .int .u64 t345, .int .u64 t346, .int .u64 t347], .int .i64 t348, .bool t349]), (89, .agg #[.int .i64 t340, .int .i64 t341, .int .i64 t342, .int .i64 t343, .int .i64 t344, .int .u64 t345, .int .u64 t346, .int .u64 t347]), (90, .int .i64 t348), (91, .bool t349)]) (fun s_ w' => (w'.cell? ⟨gb318, 0, none⟩ = some (.int .i64 a0_0) ∧ w'.cell? ⟨gb318, 1, none⟩ = some (.int .i64 a0_1) ∧ w'.cell? ⟨gb318, 2, none⟩ = some (.int .i64 a0_2) ∧ w'.cell? ⟨gb318, 3, none⟩ = some (.slice A0_3 l0_3.length c0_3) ∧ w'.cell? ⟨gb319, 0, none⟩ = some (.int .i64 x320000_2) ∧ w'.cell? ⟨gb319, 1, none⟩ = some (.int .i64 x320001_2) ∧ w'.cell? ⟨gb319, 2, none⟩ = some (.int .i64 x320002_2) ∧ w'.cell? ⟨gb319, 3, none⟩ = some (.int .i64 x320003_2) ∧ w'.cell? ⟨gb319, 4, none⟩ = some (.int .i64 x320004_2) ∧ w'.cell? ⟨gb319, 5, none⟩ = some (.int .u64 x320005_2) ∧ w'.cell? ⟨gb319, 6, none⟩ = some (.int .u64 x320006_2) ∧ w'.cell? ⟨gb319, 7, none⟩ = some (.int .u64 x320007_2) ∧ w'.cell? (ad327.add (x12_2).toNat) = some (.int .i64 (rd l3 x12_2))) ∧ (w'.heap[gb318]? = some (.cells #[.int .i64 a0_0, .int .i64 a0_1, .int .i64 a0_2, .slice A0_3 l0_3.length c0_3] 26 (0, 0))) ∧ (w'.heap[gb319]? = some (.cells #[.int .i64 x320000_2, .int .i64 x320001_2, .int .i64 x320002_2, .int .i64 x320003_2, .int .i64 x320004_2, .int .u64 x320005_2, .int .u64 x320006_2, .int .u64 x320007_2] 40 (0, 0))) ∧ (w'.heap[gb320]? = some (.cells #[.int .i64 x321000_2, .int .i64 x321001_2, .int .i64 x321002_2, .int .i64 x321003_2, .int .i64 x321004_2, .int .u64 x321005_2, .int .u64 x321006_2, .int .u64 x321007_2] 40 (0, 0))) ∧ (w'.heap[gb338]? = some (.cells #[.int .i64 t328, .int .i64 t329, .int .i64 t330, .int .i64 t331, .int .i64 t332, .int .u64 t333, .int .u64 t334, .int .u64 t335] 40 (0, 0))) ∧ (w'.heap[s_]? = some (.cells #[.int .i64 0, .int .i64 0, .int .i64 0, .int .i64 0, .int .i64 0, .int .u64 0, .int .u64 0, .int .u64 0] 40 (0, 0))) ∧ (w.heap.size ≤ s_) ∧ (w.heap.size ≤ s_) ∧ (gb318 ≠ s_) ∧ (s_ ≠ gb318) ∧ (gb319 ≠ s_) ∧ (s_ ≠ gb319) ∧ (gb320 ≠ s_) ∧ (s_ ≠ gb320) ∧ (gb338 ≠ s_) ∧ (s_ ≠ gb338) ∧ (Below w.heap.size w w')) ?_ ?_
         rotate_left
         ·
          intro hCont
          refine two_ (i := 6) (j := 11) (Ni := some 88) (Nj := some 16) (zqB 15 127) (zqB 15 2111) rfl rfl rfl rfl (two_of HT_.out (by kernel_rfl)) (by decide) (by decide) (fun K hK => ?_) (fun K hK => ?_)
          ·
           skip
           refine goes_ Try.func22 (by kernel_rfl) rfl #[.agg #[.int .i64 a0_0, .int .i64 a0_1, .int .i64 a0_2, .slice A0_3 l0_3.length c0_3], .agg #[.int .i64 x320000_2, .int .i64 x320001_2, .int .i64 x320002_2, .int .i64 x320003_2, .int .i64 x320004_2, .int .u64 x320005_2, .int .u64 x320006_2, .int .u64 x320007_2], .int .i64 (rd l3 x12_2)] (by rfl) rfl rfl (by (try simp only [List.map_toArray, List.map_cons, List.map_nil]); first | done | rfl | (simp only [List.length_drop, List.length_take]; rfl)) ?_
           with_reducible refine (state_Move.calls k2 a0_0 a0_1 a0_2 _ _ l0_3 x320000_2 x320001_2 x320002_2 x320003_2 x320004_2 x320005_2 x320006_2 x320007_2 (rd l3 x12_2) t340 t341 t342 t343 t344 t345 t346 t347 t348 t349 _ ?side1 ?side2 A63.out).mono ?_
           (case side1 => repeat (first | exact (Kd.C_below HR0_3.out HB.out) | (with_reducible refine Kd.C_alloc ?_ _) | (with_reducible refine Kd.C_drewN ?_ _) | (with_reducible refine Kd.C_drew ?_)))
           (case side2 => exact HC0_3.out)
           rintro e w119 ⟨rfl, hb⟩
           refine ⟨_, rfl, ?_⟩
           have n0_ := zqi (zqy BK318.out hb)
           have n1_ := zqi (zqy BK319.out hb)
           have n2_ := zqi (zqy BK320.out hb)
           have n3_ := zqi (zqy BK338.out hb)
           have n4_ := zqi (below_step (zqn HB.out) hb)
           clear BK318
           clear BK319
           clear BK320
           clear BK338
           clear HB
           have BK318 := n0_
           have BK319 := n1_
           have BK320 := n2_
           have BK338 := n3_
           have HB := n4_
           clear n0_ n1_ n2_ n3_ n4_
           (try clear hb)
           (try clear hb2)
           (try clear hk)
           (try clear hi)
           refine hK.out _ _ ⟨(zqe BK318.out 0).trans rfl, (zqe BK318.out 1).trans rfl, (zqe BK318.out 2).trans rfl, (zqe BK318.out 3).trans rfl, (zqe BK319.out 0).trans rfl, (zqe BK319.out 1).trans rfl, (zqe BK319.out 2).trans rfl, (zqe BK319.out 3).trans rfl, (zqe BK319.out 4).trans rfl, (zqe BK319.out 5).trans rfl, (zqe BK319.out 6).trans rfl, (zqe BK319.out 7).trans rfl, ((HB.out.cell (World.block_lt_of_cell? w _ hw339_0)).trans hw339_0)⟩ (fun hHeld => ?_)
           clear hK K
           refine norm_ (a' := ?_) ?_ ?_
           rotate_left
           ·
            show Act.put _ (some 88) _ = _
            simp only [Act.put, List.setIfInBounds_toArray, List.set_cons_zero, List.set_cons_succ, i64_w, i32_w]
            rfl
           refine zqp 7 (some 81) (zqB 15 255) (any_of HT_.out (by kernel_rfl)) (h := ?_)
           refine zqp 8 (some 89) (zqB 15 511) (any_of HT_.out (by kernel_rfl)) (h := ?_)
           refine zqp 9 (some 90) (zqB 15 1023) (any_of HT_.out (by kernel_rfl)) (h := ?_)
           refine zqp 10 (some 91) (zqB 15 2047) (any_of HT_.out (by kernel_rfl)) (h := ?_)
           refine one_ (i := 11) (N := some 16) (zqB 15 4095) rfl rfl (one_of HT_.out (by kernel_rfl)) (by decide) (fun K hK => ?_)
           refine box_step ?hg (N := 16) ?hd (cs := #[.int .i64 0, .int .i64 0, .int .i64 0, .int .i64 0, .int .i64 0, .int .u64 0, .int .u64 0, .int .u64 0]) (t := 40) ?hr ?_; (case hd => rfl); (case hg => rfl); (case hr => first | (go_simp; done) | (go_simp; rfl))
           intro gb350 hg w120 hbox hb
           have n0_ := zqi (zqy BK318.out hb)
           have n1_ := zqi (zqy BK319.out hb)
           have n2_ := zqi (zqy BK320.out hb)
           have n3_ := zqi (zqy BK338.out hb)
           have n4_ := zqi (below_step (zqn HB.out) hb)
           have n5_ := zqi (hbox)
           have n6_ := zqi (zqo hg HB.out)
           have n7_ := zqi (zqo hg HB.out)
           have n8_ := zqi ((zqq hg BK318.out))
           have n9_ := zqi ((zqr hg BK318.out))
           have n10_ := zqi ((zqq hg BK319.out))
           have n11_ := zqi ((zqr hg BK319.out))
           have n12_ := zqi ((zqq hg BK320.out))
           have n13_ := zqi ((zqr hg BK320.out))
           have n14_ := zqi ((zqq hg BK338.out))
           have n15_ := zqi ((zqr hg BK338.out))
           clear BK318
           clear BK319
           clear BK320
           clear BK338
           clear HB
           have BK318 := n0_
           have BK319 := n1_
           have BK320 := n2_
           have BK338 := n3_
           have HB := n4_
           have BK350 := n5_
           have GW350 := n6_
           have GE350 := n7_
           have NB318_350 := n8_
           have NB350_318 := n9_
           have NB319_350 := n10_
           have NB350_319 := n11_
           have NB320_350 := n12_
           have NB350_320 := n13_
           have NB338_350 := n14_
           have NB350_338 := n15_
           clear n0_ n1_ n2_ n3_ n4_ n5_ n6_ n7_ n8_ n9_ n10_ n11_ n12_ n13_ n14_ n15_
           clear hb hbox hg
           refine hK.out _ _ ⟨(zqe BK318.out 0).trans rfl, (zqe BK318.out 1).trans rfl, (zqe BK318.out 2).trans rfl, (zqe BK318.out 3).trans rfl, (zqe BK319.out 0).trans rfl, (zqe BK319.out 1).trans rfl, (zqe BK319.out 2).trans rfl, (zqe BK319.out 3).trans rfl, (zqe BK319.out 4).trans rfl, (zqe BK319.out 5).trans rfl, (zqe BK319.out 6).trans rfl, (zqe BK319.out 7).trans rfl, ((HB.out.cell (World.block_lt_of_cell? w _ hw339_0)).trans hw339_0)⟩ (fun hHeld => ?_)
           clear hK K
           refine norm_ (a' := ?_) ?_ ?_
           rotate_left
           ·
            show Act.put _ (some 16) _ = _
            simp only [Act.put, List.setIfInBounds_toArray, List.set_cons_zero, List.set_cons_succ, i64_w, i32_w]
            rfl
           exact norm_ (by simp only [putAll, Act.put, List.setIfInBounds_toArray, List.set_cons_zero, List.set_cons_succ]) (hCont (gb350) _ ⟨hHeld, (zqm BK318.out), (zqm BK319.out), (zqm BK320.out), (zqm BK338.out), (zqm BK350.out), GW350.out, GE350.out, NB318_350.out, NB350_318.out, NB319_350.out, NB350_319.out, NB320_350.out, NB350_320.out, NB338_350.out, NB350_338.out, (zqn HB.out)⟩)
          ·
           skip
           refine box_step ?hg (N := 16) ?hd (cs := #[.int .i64 0, .int .i64 0, .int .i64 0, .int .i64 0, .int .i64 0, .int .u64 0, .int .u64 0, .int .u64 0]) (t := 40) ?hr ?_; (case hd => rfl); (case hg => rfl); (case hr => first | (go_simp; done) | (go_simp; rfl))
           intro gb350 hg w119 hbox hb
           have n0_ := zqi (zqy BK318.out hb)
           have n1_ := zqi (zqy BK319.out hb)
           have n2_ := zqi (zqy BK320.out hb)
           have n3_ := zqi (zqy BK338.out hb)
           have n4_ := zqi (below_step (zqn HB.out) hb)
           have n5_ := zqi (hbox)
           have n6_ := zqi (zqo hg HB.out)
           have n7_ := zqi (zqo hg HB.out)
           have n8_ := zqi ((zqq hg BK318.out))
           have n9_ := zqi ((zqr hg BK318.out))
           have n10_ := zqi ((zqq hg BK319.out))
           have n11_ := zqi ((zqr hg BK319.out))
           have n12_ := zqi ((zqq hg BK320.out))
           have n13_ := zqi ((zqr hg BK320.out))
           have n14_ := zqi ((zqq hg BK338.out))
           have n15_ := zqi ((zqr hg BK338.out))
           clear BK318
           clear BK319
           clear BK320
           clear BK338
           clear HB
           have BK318 := n0_
           have BK319 := n1_
           have BK320 := n2_
           have BK338 := n3_
           have HB := n4_
           have BK350 := n5_
           have GW350 := n6_
           have GE350 := n7_
           have NB318_350 := n8_
           have NB350_318 := n9_
           have NB319_350 := n10_
           have NB350_319 := n11_
           have NB320_350 := n12_
           have NB350_320 := n13_
           have NB338_350 := n14_
           have NB350_338 := n15_
           clear n0_ n1_ n2_ n3_ n4_ n5_ n6_ n7_ n8_ n9_ n10_ n11_ n12_ n13_ n14_ n15_
           clear hb hbox hg
           refine hK.out _ _ ⟨(zqe BK318.out 0).trans rfl, (zqe BK318.out 1).trans rfl, (zqe BK318.out 2).trans rfl, (zqe BK318.out 3).trans rfl, (zqe BK319.out 0).trans rfl, (zqe BK319.out 1).trans rfl, (zqe BK319.out 2).trans rfl, (zqe BK319.out 3).trans rfl, (zqe BK319.out 4).trans rfl, (zqe BK319.out 5).trans rfl, (zqe BK319.out 6).trans rfl, (zqe BK319.out 7).trans rfl, ((HB.out.cell (World.block_lt_of_cell? w _ hw339_0)).trans hw339_0)⟩ (fun hHeld => ?_)
           clear hK K
           refine norm_ (a' := ?_) ?_ ?_
           rotate_left
           ·
            show Act.put _ (some 16) _ = _
            simp only [Act.put, List.setIfInBounds_toArray, List.set_cons_zero, List.set_cons_succ, i64_w, i32_w]
            rfl
           refine one_ (i := 6) (N := some 88) (zqB 15 2175) rfl rfl (one_of HT_.out (by kernel_rfl)) (by decide) (fun K hK => ?_)
           refine goes_ Try.func22 (by kernel_rfl) rfl #[.agg #[.int .i64 a0_0, .int .i64 a0_1, .int .i64 a0_2, .slice A0_3 l0_3.length c0_3], .agg #[.int .i64 x320000_2, .int .i64 x320001_2, .int .i64 x320002_2, .int .i64 x320003_2, .int .i64 x320004_2, .int .u64 x320005_2, .int .u64 x320006_2, .int .u64 x320007_2], .int .i64 (rd l3 x12_2)] (by rfl) rfl rfl (by (try simp only [List.map_toArray, List.map_cons, List.map_nil]); first | done | rfl | (simp only [List.length_drop, List.length_take]; rfl)) ?_
           with_reducible refine (state_Move.calls k2 a0_0 a0_1 a0_2 _ _ l0_3 x320000_2 x320001_2 x320002_2 x320003_2 x320004_2 x320005_2 x320006_2 x320007_2 (rd l3 x12_2) t340 t341 t342 t343 t344 t345 t346 t347 t348 t349 _ ?side1 ?side2 A63.out).mono ?_
           (case side1 => repeat (first | exact (Kd.C_below HR0_3.out HB.out) | (with_reducible refine Kd.C_alloc ?_ _) | (with_reducible refine Kd.C_drewN ?_ _) | (with_reducible refine Kd.C_drew ?_)))
           (case side2 => exact HC0_3.out)
           rintro e w120 ⟨rfl, hb⟩
           refine ⟨_, rfl, ?_⟩
           have n0_ := zqi (zqy BK318.out hb)
           have n1_ := zqi (zqy BK319.out hb)
           have n2_ := zqi (zqy BK320.out hb)
           have n3_ := zqi (zqy BK338.out hb)
           have n4_ := zqi (zqy BK350.out hb)
           have n5_ := zqi (below_step (zqn HB.out) hb)
           clear BK318
           clear BK319
           clear BK320
           clear BK338
           clear BK350
           clear HB
           have BK318 := n0_
           have BK319 := n1_
           have BK320 := n2_
           have BK338 := n3_
           have BK350 := n4_
           have HB := n5_
           clear n0_ n1_ n2_ n3_ n4_ n5_
           (try clear hb)
           (try clear hb2)
           (try clear hk)
           (try clear hi)
           refine hK.out _ _ ⟨(zqe BK318.out 0).trans rfl, (zqe BK318.out 1).trans rfl, (zqe BK318.out 2).trans rfl, (zqe BK318.out 3).trans rfl, (zqe BK319.out 0).trans rfl, (zqe BK319.out 1).trans rfl, (zqe BK319.out 2).trans rfl, (zqe BK319.out 3).trans rfl, (zqe BK319.out 4).trans rfl, (zqe BK319.out 5).trans rfl, (zqe BK319.out 6).trans rfl, (zqe BK319.out 7).trans rfl, ((HB.out.cell (World.block_lt_of_cell? w _ hw339_0)).trans hw339_0)⟩ (fun hHeld => ?_)
           clear hK K
           refine norm_ (a' := ?_) ?_ ?_
           rotate_left
           ·
            show Act.put _ (some 88) _ = _
            simp only [Act.put, List.setIfInBounds_toArray, List.set_cons_zero, List.set_cons_succ, i64_w, i32_w]
            rfl
           refine zqp 7 (some 81) (zqB 15 2303) (any_of HT_.out (by kernel_rfl)) (h := ?_)
           refine zqp 8 (some 89) (zqB 15 2559) (any_of HT_.out (by kernel_rfl)) (h := ?_)
           refine zqp 9 (some 90) (zqB 15 3071) (any_of HT_.out (by kernel_rfl)) (h := ?_)
           refine zqp 10 (some 91) (zqB 15 4095) (any_of HT_.out (by kernel_rfl)) (h := ?_)
           exact norm_ (by simp only [putAll, Act.put, List.setIfInBounds_toArray, List.set_cons_zero, List.set_cons_succ]) (hCont (gb350) _ ⟨hHeld, (zqm BK318.out), (zqm BK319.out), (zqm BK320.out), (zqm BK338.out), (zqm BK350.out), GW350.out, GE350.out, NB318_350.out, NB350_318.out, NB319_350.out, NB350_319.out, NB320_350.out, NB350_320.out, NB338_350.out, NB350_338.out, (zqn HB.out)⟩)
         rintro gb350 w121 ⟨hS_, h0_, h1_, h2_, h3_, h4_, h5_, h6_, h7_, h8_, h9_, h10_, h11_, h12_, h13_, h14_, h15_⟩
         have n0_ : Aside0 (w121.heap[gb318]? = some (.cells #[.int .i64 a0_0, .int .i64 a0_1, .int .i64 a0_2, .slice A0_3 l0_3.length c0_3] 26 (0, 0))) := ⟨h0_⟩
         have n1_ : Aside0 (w121.heap[gb319]? = some (.cells #[.int .i64 x320000_2, .int .i64 x320001_2, .int .i64 x320002_2, .int .i64 x320003_2, .int .i64 x320004_2, .int .u64 x320005_2, .int .u64 x320006_2, .int .u64 x320007_2] 40 (0, 0))) := ⟨h1_⟩
         have n2_ : Aside0 (w121.heap[gb320]? = some (.cells #[.int .i64 x321000_2, .int .i64 x321001_2, .int .i64 x321002_2, .int .i64 x321003_2, .int .i64 x321004_2, .int .u64 x321005_2, .int .u64 x321006_2, .int .u64 x321007_2] 40 (0, 0))) := ⟨h2_⟩
         have n3_ : Aside0 (w121.heap[gb338]? = some (.cells #[.int .i64 t328, .int .i64 t329, .int .i64 t330, .int .i64 t331, .int .i64 t332, .int .u64 t333, .int .u64 t334, .int .u64 t335] 40 (0, 0))) := ⟨h3_⟩
         have n4_ : Aside0 (w121.heap[gb350]? = some (.cells #[.int .i64 0, .int .i64 0, .int .i64 0, .int .i64 0, .int .i64 0, .int .u64 0, .int .u64 0, .int .u64 0] 40 (0, 0))) := ⟨h4_⟩
         have n5_ : Aside0 (w.heap.size ≤ gb350) := ⟨h5_⟩
         have n6_ : Aside0 (w.heap.size ≤ gb350) := ⟨h6_⟩
         have n7_ : Aside0 (gb318 ≠ gb350) := ⟨h7_⟩
         have n8_ : Aside0 (gb350 ≠ gb318) := ⟨h8_⟩
         have n9_ : Aside0 (gb319 ≠ gb350) := ⟨h9_⟩
         have n10_ : Aside0 (gb350 ≠ gb319) := ⟨h10_⟩
         have n11_ : Aside0 (gb320 ≠ gb350) := ⟨h11_⟩
         have n12_ : Aside0 (gb350 ≠ gb320) := ⟨h12_⟩
         have n13_ : Aside0 (gb338 ≠ gb350) := ⟨h13_⟩
         have n14_ : Aside0 (gb350 ≠ gb338) := ⟨h14_⟩
         have n15_ : Aside0 (Below w.heap.size w w121) := ⟨h15_⟩
         clear BK318
         clear BK319
         clear BK320
         clear BK338
         clear HB
         clear h0_ h1_ h2_ h3_ h4_ h5_ h6_ h7_ h8_ h9_ h10_ h11_ h12_ h13_ h14_ h15_
         have BK318 := n0_
         have BK319 := n1_
         have BK320 := n2_
         have BK338 := n3_
         have BK350 := n4_
         have GW350 := n5_
         have GE350 := n6_
         have NB318_350 := n7_
         have NB350_318 := n8_
         have NB319_350 := n9_
         have NB350_319 := n10_
         have NB320_350 := n11_
         have NB350_320 := n12_
         have NB338_350 := n13_
         have NB350_338 := n14_
         have HB := n15_
         clear n0_ n1_ n2_ n3_ n4_ n5_ n6_ n7_ n8_ n9_ n10_ n11_ n12_ n13_ n14_ n15_
         have hHeld : w121.cell? ⟨gb318, 0, none⟩ = some (.int .i64 a0_0) ∧ w121.cell? ⟨gb318, 1, none⟩ = some (.int .i64 a0_1) ∧ w121.cell? ⟨gb318, 2, none⟩ = some (.int .i64 a0_2) ∧ w121.cell? ⟨gb318, 3, none⟩ = some (.slice A0_3 l0_3.length c0_3) ∧ w121.cell? ⟨gb319, 0, none⟩ = some (.int .i64 x320000_2) ∧ w121.cell? ⟨gb319, 1, none⟩ = some (.int .i64 x320001_2) ∧ w121.cell? ⟨gb319, 2, none⟩ = some (.int .i64 x320002_2) ∧ w121.cell? ⟨gb319, 3, none⟩ = some (.int .i64 x320003_2) ∧ w121.cell? ⟨gb319, 4, none⟩ = some (.int .i64 x320004_2) ∧ w121.cell? ⟨gb319, 5, none⟩ = some (.int .u64 x320005_2) ∧ w121.cell? ⟨gb319, 6, none⟩ = some (.int .u64 x320006_2) ∧ w121.cell? ⟨gb319, 7, none⟩ = some (.int .u64 x320007_2) ∧ w121.cell? (ad327.add (x12_2).toNat) = some (.int .i64 (rd l3 x12_2)) := hS_
         refine norm_ (a' := ?_) ?_ ?_
         rotate_left
         ·
          simp only [putAll, Act.put, List.setIfInBounds_toArray, List.set_cons_zero, List.set_cons_succ]
          rfl
         refine one_ (i := 12) (N := none) (zqB 15 8191) rfl rfl (one_of HT_.out (by kernel_rfl)) (by decide) (fun K hK => ?_)
         have hs122 : w121.cell? ⟨gb350, 0, none⟩ = some (.int .i64 0) := (zqe BK350.out 0).trans rfl
         have hfs122 := zqd BK350.out 0
         have hns122_0 := NB318_350.out
         have hns122_1 := NB319_350.out
         have hns122_2 := NB320_350.out
         have hns122_3 := NB338_350.out
         have hms122_0 := NB350_318.out
         have hms122_1 := NB350_319.out
         have hms122_2 := NB350_320.out
         have hms122_3 := NB350_338.out
         have hs123 : w121.cell? ⟨gb350, 1, none⟩ = some (.int .i64 0) := (zqe BK350.out 1).trans rfl
         have hfs123 := zqd BK350.out 1
         have hns123_0 := NB318_350.out
         have hns123_1 := NB319_350.out
         have hns123_2 := NB320_350.out
         have hns123_3 := NB338_350.out
         have hms123_0 := NB350_318.out
         have hms123_1 := NB350_319.out
         have hms123_2 := NB350_320.out
         have hms123_3 := NB350_338.out
         have hs124 : w121.cell? ⟨gb350, 2, none⟩ = some (.int .i64 0) := (zqe BK350.out 2).trans rfl
         have hfs124 := zqd BK350.out 2
         have hns124_0 := NB318_350.out
         have hns124_1 := NB319_350.out
         have hns124_2 := NB320_350.out
         have hns124_3 := NB338_350.out
         have hms124_0 := NB350_318.out
         have hms124_1 := NB350_319.out
         have hms124_2 := NB350_320.out
         have hms124_3 := NB350_338.out
         have hs125 : w121.cell? ⟨gb350, 3, none⟩ = some (.int .i64 0) := (zqe BK350.out 3).trans rfl
         have hfs125 := zqd BK350.out 3
         have hns125_0 := NB318_350.out
         have hns125_1 := NB319_350.out
         have hns125_2 := NB320_350.out
         have hns125_3 := NB338_350.out
         have hms125_0 := NB350_318.out
         have hms125_1 := NB350_319.out
         have hms125_2 := NB350_320.out
         have hms125_3 := NB350_338.out
         have hs126 : w121.cell? ⟨gb350, 4, none⟩ = some (.int .i64 0) := (zqe BK350.out 4).trans rfl
         have hfs126 := zqd BK350.out 4
         have hns126_0 := NB318_350.out
         have hns126_1 := NB319_350.out
         have hns126_2 := NB320_350.out
         have hns126_3 := NB338_350.out
         have hms126_0 := NB350_318.out
         have hms126_1 := NB350_319.out
         have hms126_2 := NB350_320.out
         have hms126_3 := NB350_338.out
         have hs127 : w121.cell? ⟨gb350, 5, none⟩ = some (.int .u64 0) := (zqe BK350.out 5).trans rfl
         have hfs127 := zqd BK350.out 5
         have hns127_0 := NB318_350.out
         have hns127_1 := NB319_350.out
         have hns127_2 := NB320_350.out
         have hns127_3 := NB338_350.out
         have hms127_0 := NB350_318.out
         have hms127_1 := NB350_319.out
         have hms127_2 := NB350_320.out
         have hms127_3 := NB350_338.out
         have hs128 : w121.cell? ⟨gb350, 6, none⟩ = some (.int .u64 0) := (zqe BK350.out 6).trans rfl
         have hfs128 := zqd BK350.out 6
         have hns128_0 := NB318_350.out
         have hns128_1 := NB319_350.out
         have hns128_2 := NB320_350.out
         have hns128_3 := NB338_350.out
         have hms128_0 := NB350_318.out
         have hms128_1 := NB350_319.out
         have hms128_2 := NB350_320.out
         have hms128_3 := NB350_338.out
         have hs129 : w121.cell? ⟨gb350, 7, none⟩ = some (.int .u64 0) := (zqe BK350.out 7).trans rfl
         have hfs129 := zqd BK350.out 7
         have hns129_0 := NB318_350.out
         have hns129_1 := NB319_350.out
         have hns129_2 := NB320_350.out
         have hns129_3 := NB338_350.out
         have hms129_0 := NB350_318.out
         have hms129_1 := NB350_319.out
         have hms129_2 := NB350_320.out
         have hms129_3 := NB350_338.out
         refine skip_ (w1 := ?_) (by rfl) rfl ?_ ?_
         rotate_left
         ·
          go_simp
          rfl
         refine hK.out _ _ ⟨((zqk NB318_350.out).trans (((zqk NB318_350.out).trans (((zqk NB318_350.out).trans (((zqk NB318_350.out).trans (((zqk NB318_350.out).trans (((zqk NB318_350.out).trans (((zqk NB318_350.out).trans (((zqk NB318_350.out).trans (hHeld.1)))))))))))))))), ((zqk NB318_350.out).trans (((zqk NB318_350.out).trans (((zqk NB318_350.out).trans (((zqk NB318_350.out).trans (((zqk NB318_350.out).trans (((zqk NB318_350.out).trans (((zqk NB318_350.out).trans (((zqk NB318_350.out).trans (hHeld.2.1)))))))))))))))), ((zqk NB318_350.out).trans (((zqk NB318_350.out).trans (((zqk NB318_350.out).trans (((zqk NB318_350.out).trans (((zqk NB318_350.out).trans (((zqk NB318_350.out).trans (((zqk NB318_350.out).trans (((zqk NB318_350.out).trans (hHeld.2.2.1)))))))))))))))), ((zqk NB318_350.out).trans (((zqk NB318_350.out).trans (((zqk NB318_350.out).trans (((zqk NB318_350.out).trans (((zqk NB318_350.out).trans (((zqk NB318_350.out).trans (((zqk NB318_350.out).trans (((zqk NB318_350.out).trans (hHeld.2.2.2.1)))))))))))))))), ((zqk NB319_350.out).trans (((zqk NB319_350.out).trans (((zqk NB319_350.out).trans (((zqk NB319_350.out).trans (((zqk NB319_350.out).trans (((zqk NB319_350.out).trans (((zqk NB319_350.out).trans (((zqk NB319_350.out).trans (hHeld.2.2.2.2.1)))))))))))))))), ((zqk NB319_350.out).trans (((zqk NB319_350.out).trans (((zqk NB319_350.out).trans (((zqk NB319_350.out).trans (((zqk NB319_350.out).trans (((zqk NB319_350.out).trans (((zqk NB319_350.out).trans (((zqk NB319_350.out).trans (hHeld.2.2.2.2.2.1)))))))))))))))), ((zqk NB319_350.out).trans (((zqk NB319_350.out).trans (((zqk NB319_350.out).trans (((zqk NB319_350.out).trans (((zqk NB319_350.out).trans (((zqk NB319_350.out).trans (((zqk NB319_350.out).trans (((zqk NB319_350.out).trans (hHeld.2.2.2.2.2.2.1)))))))))))))))), ((zqk NB319_350.out).trans (((zqk NB319_350.out).trans (((zqk NB319_350.out).trans (((zqk NB319_350.out).trans (((zqk NB319_350.out).trans (((zqk NB319_350.out).trans (((zqk NB319_350.out).trans (((zqk NB319_350.out).trans (hHeld.2.2.2.2.2.2.2.1)))))))))))))))), ((zqk NB319_350.out).trans (((zqk NB319_350.out).trans (((zqk NB319_350.out).trans (((zqk NB319_350.out).trans (((zqk NB319_350.out).trans (((zqk NB319_350.out).trans (((zqk NB319_350.out).trans (((zqk NB319_350.out).trans (hHeld.2.2.2.2.2.2.2.2.1)))))))))))))))), ((zqk NB319_350.out).trans (((zqk NB319_350.out).trans (((zqk NB319_350.out).trans (((zqk NB319_350.out).trans (((zqk NB319_350.out).trans (((zqk NB319_350.out).trans (((zqk NB319_350.out).trans (((zqk NB319_350.out).trans (hHeld.2.2.2.2.2.2.2.2.2.1)))))))))))))))), ((zqk NB319_350.out).trans (((zqk NB319_350.out).trans (((zqk NB319_350.out).trans (((zqk NB319_350.out).trans (((zqk NB319_350.out).trans (((zqk NB319_350.out).trans (((zqk NB319_350.out).trans (((zqk NB319_350.out).trans (hHeld.2.2.2.2.2.2.2.2.2.2.1)))))))))))))))), ((zqk NB319_350.out).trans (((zqk NB319_350.out).trans (((zqk NB319_350.out).trans (((zqk NB319_350.out).trans (((zqk NB319_350.out).trans (((zqk NB319_350.out).trans (((zqk NB319_350.out).trans (((zqk NB319_350.out).trans (hHeld.2.2.2.2.2.2.2.2.2.2.2.1)))))))))))))))), ((zqk (by first | exact zql hw339_0 GW350.out | (rw [add_block]; exact zql hw339_0 GW350.out) | (show (Addr.add _ _).block ≠ _; rw [add_block]; exact zql hw339_0 GW350.out) | (dsimp only; exact zql hw339_0 GW350.out))).trans (((zqk (by first | exact zql hw339_0 GW350.out | (rw [add_block]; exact zql hw339_0 GW350.out) | (show (Addr.add _ _).block ≠ _; rw [add_block]; exact zql hw339_0 GW350.out) | (dsimp only; exact zql hw339_0 GW350.out))).trans (((zqk (by first | exact zql hw339_0 GW350.out | (rw [add_block]; exact zql hw339_0 GW350.out) | (show (Addr.add _ _).block ≠ _; rw [add_block]; exact zql hw339_0 GW350.out) | (dsimp only; exact zql hw339_0 GW350.out))).trans (((zqk (by first | exact zql hw339_0 GW350.out | (rw [add_block]; exact zql hw339_0 GW350.out) | (show (Addr.add _ _).block ≠ _; rw [add_block]; exact zql hw339_0 GW350.out) | (dsimp only; exact zql hw339_0 GW350.out))).trans (((zqk (by first | exact zql hw339_0 GW350.out | (rw [add_block]; exact zql hw339_0 GW350.out) | (show (Addr.add _ _).block ≠ _; rw [add_block]; exact zql hw339_0 GW350.out) | (dsimp only; exact zql hw339_0 GW350.out))).trans (((zqk (by first | exact zql hw339_0 GW350.out | (rw [add_block]; exact zql hw339_0 GW350.out) | (show (Addr.add _ _).block ≠ _; rw [add_block]; exact zql hw339_0 GW350.out) | (dsimp only; exact zql hw339_0 GW350.out))).trans (((zqk (by first | exact zql hw339_0 GW350.out | (rw [add_block]; exact zql hw339_0 GW350.out) | (show (Addr.add _ _).block ≠ _; rw [add_block]; exact zql hw339_0 GW350.out) | (dsimp only; exact zql hw339_0 GW350.out))).trans (((zqk (by first | exact zql hw339_0 GW350.out | (rw [add_block]; exact zql hw339_0 GW350.out) | (show (Addr.add _ _).block ≠ _; rw [add_block]; exact zql hw339_0 GW350.out) | (dsimp only; exact zql hw339_0 GW350.out))).trans (hHeld.2.2.2.2.2.2.2.2.2.2.2.2))))))))))))))))⟩ (fun hHeld => ?_)
         clear hK K
         refine zqp 13 (some 17) (zqB 15 16383) (any_of HT_.out (by kernel_rfl)) (h := ?_)
         refine zqp 14 (some 18) (zqB 15 32767) (any_of HT_.out (by kernel_rfl)) (h := ?_)
         refine done_ (done_of HT_.out (by kernel_rfl)) ?_
         try go_wp2
         go_ret
         exact ⟨by first | rfl | (simp [errW_none, errW_some] <;> rfl) | (simp [*, errW_none, errW_some] <;> rfl), by repeat (first | (with_reducible first | exact HB.out | apply zqg | apply zqf | apply zqh | refine below_set ?_ GE318.out | refine below_set ?_ GE319.out | refine below_set ?_ GE320.out | refine below_set ?_ GE338.out | refine below_set ?_ GE350.out) | exact HB.out)⟩
       ·
        rw [if_neg c61] at H
        exact absurd H (by simp)
      ·
       rw [if_neg c60] at H
       have c60b0 : decide (x12_2 < (l3.length : Int)) = false := decide_eq_false c60
       clear c60
       replace H := Option.bind_eq_some_iff.mp H
       obtain ⟨⟨t323, t324⟩, A1300, H⟩ := H
       replace H : ((state_End.f k2 a0_0 a0_1 a0_2 l0_3 x320000_2 x320001_2 x320002_2 x320003_2 x320004_2 x320005_2 x320006_2 x320007_2).bind fun bt325 => (if x10_2 = x11_2 then (if t324 = true then (if bt325.2 = true then (some (t323 == bt325.1)) else (none)) else (some true)) else (none))) = some r := H
       have A130 := zqi A1300
       clear A1300
       replace H := Option.bind_eq_some_iff.mp H
       obtain ⟨⟨t325, t326⟩, A1310, H⟩ := H
       replace H : (if x10_2 = x11_2 then (if t324 = true then (if t326 = true then (some (t323 == t325)) else (none)) else (some true)) else (none)) = some r := H
       have A131 := zqi A1310
       clear A1310
       by_cases c132 : x10_2 = x11_2
       ·
        rw [if_pos c132] at H
        have c132b0 : (x10_2 == x11_2) = true := beq_iff_eq.mpr c132
        have c132b1 : (x10_2 != x11_2) = false := bne_eq_false_iff_eq.mpr c132
        clear c132
        by_cases c133 : t324 = true
        ·
         subst c133
         have H1 : (if t326 = true then (some (t323 == t325)) else (none)) = some r := by rw [if_pos rfl] at H; exact H
         clear H
         have H := H1
         clear H1
         by_cases c134 : t326 = true
         ·
          subst c134
          have H1 : (some (t323 == t325)) = some r := by rw [if_pos rfl] at H; exact H
          clear H
          have H := H1
          clear H1
          obtain rfl := Option.some.inj H
          have hnb135 := NB318_319.out
          have hnc135 := NB319_318.out
          have hnb136 := NB318_320.out
          have hnc136 := NB320_318.out
          obtain ⟨hcz137_0, hcz137_1, hcz137_2, hcz137_3, hfz137_0, hfz137_1, hfz137_2, hfz137_3⟩ := zqz4 BK318.out
          have hnb138 := NB320_319.out
          have hnc138 := NB319_320.out
          obtain ⟨hcz139_0, hcz139_1, hcz139_2, hcz139_3, hcz139_4, hcz139_5, hcz139_6, hcz139_7, hfz139_0, hfz139_1, hfz139_2, hfz139_3, hfz139_4, hfz139_5, hfz139_6, hfz139_7⟩ := zqz8 BK320.out
          go_wp2_with (first | ((with_reducible refine gate_callee (f := 23) rfl ?_); refine goesL_ (some 107) rfl rfl Try.func23 (by kernel_rfl) rfl #[.agg #[.int .i64 a0_0, .int .i64 a0_1, .int .i64 a0_2, .slice A0_3 l0_3.length c0_3], .agg #[.int .i64 x321000_2, .int .i64 x321001_2, .int .i64 x321002_2, .int .i64 x321003_2, .int .i64 x321004_2, .int .u64 x321005_2, .int .u64 x321006_2, .int .u64 x321007_2]] rfl (by (try simp only [List.map_toArray, List.map_cons, List.map_nil]); first | done | rfl | (simp only [List.length_drop, List.length_take]; rfl)) ?_; (with_reducible refine (state_End.calls k2 a0_0 a0_1 a0_2 _ _ l0_3 x321000_2 x321001_2 x321002_2 x321003_2 x321004_2 x321005_2 x321006_2 x321007_2 t323 true _ ?side1 ?side2 A130.out).mono ?_); (case side1 => repeat (first | exact (Kd.C_below HR0_3.out HB.out) | (with_reducible refine Kd.C_alloc ?_ _) | (with_reducible refine Kd.C_drewN ?_ _) | (with_reducible refine Kd.C_drew ?_))); (case side2 => exact HC0_3.out); rintro e w140 ⟨rfl, hb⟩; refine ⟨_, rfl, ?_⟩; have n0_ := zqi (zqy BK318.out hb); have n1_ := zqi (zqy BK319.out hb); have n2_ := zqi (zqy BK320.out hb); have n3_ := zqi (below_step (zqn HB.out) hb); clear BK318; clear BK319; clear BK320; clear HB; have BK318 := n0_; have BK319 := n1_; have BK320 := n2_; have HB := n3_; clear n0_ n1_ n2_ n3_; (try clear hb); (try clear hb2); (try clear hk); (try clear hi); obtain ⟨hcz141_0, hcz141_1, hcz141_2, hcz141_3, hfz141_0, hfz141_1, hfz141_2, hfz141_3⟩ := zqz4 BK318.out; obtain ⟨hcz142_0, hcz142_1, hcz142_2, hcz142_3, hcz142_4, hcz142_5, hcz142_6, hcz142_7, hfz142_0, hfz142_1, hfz142_2, hfz142_3, hfz142_4, hfz142_5, hfz142_6, hfz142_7⟩ := zqz8 BK319.out) | ((with_reducible refine gate_callee (f := 23) rfl ?_); refine goesL_ (some 113) rfl rfl Try.func23 (by kernel_rfl) rfl #[.agg #[.int .i64 a0_0, .int .i64 a0_1, .int .i64 a0_2, .slice A0_3 l0_3.length c0_3], .agg #[.int .i64 x320000_2, .int .i64 x320001_2, .int .i64 x320002_2, .int .i64 x320003_2, .int .i64 x320004_2, .int .u64 x320005_2, .int .u64 x320006_2, .int .u64 x320007_2]] rfl (by (try simp only [List.map_toArray, List.map_cons, List.map_nil]); first | done | rfl | (simp only [List.length_drop, List.length_take]; rfl)) ?_; (with_reducible refine (state_End.calls k2 a0_0 a0_1 a0_2 _ _ l0_3 x320000_2 x320001_2 x320002_2 x320003_2 x320004_2 x320005_2 x320006_2 x320007_2 t325 true _ ?side1 ?side2 A131.out).mono ?_); (case side1 => repeat (first | exact (Kd.C_below HR0_3.out HB.out) | (with_reducible refine Kd.C_alloc ?_ _) | (with_reducible refine Kd.C_drewN ?_ _) | (with_reducible refine Kd.C_drew ?_))); (case side2 => exact HC0_3.out); rintro e w143 ⟨rfl, hb⟩; refine ⟨_, rfl, ?_⟩; have n0_ := zqi (zqy BK318.out hb); have n1_ := zqi (zqy BK319.out hb); have n2_ := zqi (zqy BK320.out hb); have n3_ := zqi (below_step (zqn HB.out) hb); clear BK318; clear BK319; clear BK320; clear HB; have BK318 := n0_; have BK319 := n1_; have BK320 := n2_; have HB := n3_; clear n0_ n1_ n2_ n3_; (try clear hb); (try clear hb2); (try clear hk); (try clear hi)))
          go_ret
          exact ⟨by first | rfl | (simp [errW_none, errW_some] <;> rfl) | (simp [*, errW_none, errW_some] <;> rfl), by repeat (first | (with_reducible first | exact HB.out | apply zqg | apply zqf | apply zqh | refine below_set ?_ GE318.out | refine below_set ?_ GE319.out | refine below_set ?_ GE320.out) | exact HB.out)⟩
         ·
          replace c134 := Bool.eq_false_iff.mpr c134
          subst c134
          have H1 : (none) = some r := by rw [if_neg (show ¬ (false = true) by decide)] at H; exact H
          clear H
          have H := H1
          clear H1
          exact absurd H (by simp)
        ·
         replace c133 := Bool.eq_false_iff.mpr c133
         subst c133
         have H1 : (some true) = some r := by rw [if_neg (show ¬ (false = true) by decide)] at H; exact H
         clear H
         have H := H1
         clear H1
         obtain rfl := Option.some.inj H
         have hnb144 := NB318_319.out
         have hnc144 := NB319_318.out
         have hnb145 := NB318_320.out
         have hnc145 := NB320_318.out
         obtain ⟨hcz146_0, hcz146_1, hcz146_2, hcz146_3, hfz146_0, hfz146_1, hfz146_2, hfz146_3⟩ := zqz4 BK318.out
         have hnb147 := NB320_319.out
         have hnc147 := NB319_320.out
         obtain ⟨hcz148_0, hcz148_1, hcz148_2, hcz148_3, hcz148_4, hcz148_5, hcz148_6, hcz148_7, hfz148_0, hfz148_1, hfz148_2, hfz148_3, hfz148_4, hfz148_5, hfz148_6, hfz148_7⟩ := zqz8 BK320.out
         go_wp2_with (first | ((with_reducible refine gate_callee (f := 23) rfl ?_); refine goesL_ (some 107) rfl rfl Try.func23 (by kernel_rfl) rfl #[.agg #[.int .i64 a0_0, .int .i64 a0_1, .int .i64 a0_2, .slice A0_3 l0_3.length c0_3], .agg #[.int .i64 x321000_2, .int .i64 x321001_2, .int .i64 x321002_2, .int .i64 x321003_2, .int .i64 x321004_2, .int .u64 x321005_2, .int .u64 x321006_2, .int .u64 x321007_2]] rfl (by (try simp only [List.map_toArray, List.map_cons, List.map_nil]); first | done | rfl | (simp only [List.length_drop, List.length_take]; rfl)) ?_; (with_reducible refine (state_End.calls k2 a0_0 a0_1 a0_2 _ _ l0_3 x321000_2 x321001_2 x321002_2 x321003_2 x321004_2 x321005_2 x321006_2 x321007_2 t323 false _ ?side1 ?side2 A130.out).mono ?_); (case side1 => repeat (first | exact (Kd.C_below HR0_3.out HB.out) | (with_reducible refine Kd.C_alloc ?_ _) | (with_reducible refine Kd.C_drewN ?_ _) | (with_reducible refine Kd.C_drew ?_))); (case side2 => exact HC0_3.out); rintro e w149 ⟨rfl, hb⟩; refine ⟨_, rfl, ?_⟩; have n0_ := zqi (zqy BK318.out hb); have n1_ := zqi (zqy BK319.out hb); have n2_ := zqi (zqy BK320.out hb); have n3_ := zqi (below_step (zqn HB.out) hb); clear BK318; clear BK319; clear BK320; clear HB; have BK318 := n0_; have BK319 := n1_; have BK320 := n2_; have HB := n3_; clear n0_ n1_ n2_ n3_; (try clear hb); (try clear hb2); (try clear hk); (try clear hi); obtain ⟨hcz150_0, hcz150_1, hcz150_2, hcz150_3, hfz150_0, hfz150_1, hfz150_2, hfz150_3⟩ := zqz4 BK318.out; obtain ⟨hcz151_0, hcz151_1, hcz151_2, hcz151_3, hcz151_4, hcz151_5, hcz151_6, hcz151_7, hfz151_0, hfz151_1, hfz151_2, hfz151_3, hfz151_4, hfz151_5, hfz151_6, hfz151_7⟩ := zqz8 BK319.out) | ((with_reducible refine gate_callee (f := 23) rfl ?_); refine goesL_ (some 113) rfl rfl Try.func23 (by kernel_rfl) rfl #[.agg #[.int .i64 a0_0, .int .i64 a0_1, .int .i64 a0_2, .slice A0_3 l0_3.length c0_3], .agg #[.int .i64 x320000_2, .int .i64 x320001_2, .int .i64 x320002_2, .int .i64 x320003_2, .int .i64 x320004_2, .int .u64 x320005_2, .int .u64 x320006_2, .int .u64 x320007_2]] rfl (by (try simp only [List.map_toArray, List.map_cons, List.map_nil]); first | done | rfl | (simp only [List.length_drop, List.length_take]; rfl)) ?_; (with_reducible refine (state_End.calls k2 a0_0 a0_1 a0_2 _ _ l0_3 x320000_2 x320001_2 x320002_2 x320003_2 x320004_2 x320005_2 x320006_2 x320007_2 t325 t326 _ ?side1 ?side2 A131.out).mono ?_); (case side1 => repeat (first | exact (Kd.C_below HR0_3.out HB.out) | (with_reducible refine Kd.C_alloc ?_ _) | (with_reducible refine Kd.C_drewN ?_ _) | (with_reducible refine Kd.C_drew ?_))); (case side2 => exact HC0_3.out); rintro e w152 ⟨rfl, hb⟩; refine ⟨_, rfl, ?_⟩; have n0_ := zqi (zqy BK318.out hb); have n1_ := zqi (zqy BK319.out hb); have n2_ := zqi (zqy BK320.out hb); have n3_ := zqi (below_step (zqn HB.out) hb); clear BK318; clear BK319; clear BK320; clear HB; have BK318 := n0_; have BK319 := n1_; have BK320 := n2_; have HB := n3_; clear n0_ n1_ n2_ n3_; (try clear hb); (try clear hb2); (try clear hk); (try clear hi)))
         go_ret
         exact ⟨by first | rfl | (simp [errW_none, errW_some] <;> rfl) | (simp [*, errW_none, errW_some] <;> rfl), by repeat (first | (with_reducible first | exact HB.out | apply zqg | apply zqf | apply zqh | refine below_set ?_ GE318.out | refine below_set ?_ GE319.out | refine below_set ?_ GE320.out) | exact HB.out)⟩
       ·
        rw [if_neg c132] at H
        exact absurd H (by simp)

end Go.Proofs.Ytjiammiihamkiaa.PB
