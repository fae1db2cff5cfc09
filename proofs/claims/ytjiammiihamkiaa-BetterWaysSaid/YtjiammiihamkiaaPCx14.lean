-- Printed for this claim by wip/tools/xprint.py over the kit's print; the contracts marked BY HAND are this session's own.
import Derived.Test.YtjiammiihamkiaaPCx0
import Derived.Test.YtjiammiihamkiaaPCx2
import Derived.Test.YtjiammiihamkiaaPCx11
import Derived.Test.YtjiammiihamkiaaPCx12
import Derived.Test.YtjiammiihamkiaaPCx13
namespace Go.Proofs.Ytjiammiihamkiaa.PC
open Go.RowKit Go.Proofs.YtjiammiihamkiaaW.PrintWords Go.Proofs.YtjiammiihamkiaaW.PrintLast Go.Proofs.YtjiammiihamkiaaW.PrintMore
attribute [local go_sem] max2_int min2_int max_two min_two max_three min_three max_four min_four   -- for this text's walks alone
set_option linter.unusedVariables false
set_option linter.unusedSimpArgs false

/-! ### haulierlaw13_BetterWays: function 8 -/
mutual
def haulierlaw13_BetterWays.j0 : Nat → List Int → Bool → Bool → Int → Int → Int → List (S23) → Int → Int → Int → Int → Int → Int → Int → Int → Int → List Int → Int → Int → Int → Int → Int → Int → Int → Int → Int → List Int → Option (Bool)
  | 0, _, _, _, _, _, _, _, _, _, _, _, _, _, _, _, _, _, _, _, _, _, _, _, _, _, _, _ => none
  | k + 1, x3, x9, x77, x257000, x257001, x257002, x257003, x258000, x258001, x258002, x258003, x258004, x258005, x258006, x258007, x258008, x258009, x259000, x259001, x259002, x259003, x259004, x259005, x259006, x259007, x259008, x259009 => if x77 = true then (some x9) else (haulierlaw13_BetterWays.l0 k x3 x258008 x259008 0 x257000 x257001 x257002 x257003 x258000 x258001 x258002 x258003 x258004 x258005 x258006 x258007 x259000 x259001 x259002 x259003 x259004 x259005 x259006 x259007)
def haulierlaw13_BetterWays.l0 : Nat → List Int → Int → Int → Int → Int → Int → Int → List (S23) → Int → Int → Int → Int → Int → Int → Int → Int → Int → Int → Int → Int → Int → Int → Int → Int → Option (Bool)
  | 0, _, _, _, _, _, _, _, _, _, _, _, _, _, _, _, _, _, _, _, _, _, _, _, _ => none
  | k + 1, x3, x12, x13, x14, x257000, x257001, x257002, x257003, x262000, x262001, x262002, x262003, x262004, x262005, x262006, x262007, x263000, x263001, x263002, x263003, x263004, x263005, x263006, x263007 => if x14 < (x3.length : Int) then (if 0 ≤ x14 then ((state_Move.f k x257000 x257001 x257002 x257003 x263000 x263001 x263002 x263003 x263004 x263005 x263006 x263007 (rd x3 x14)).bind fun bt268 => ((state_Move.f k x257000 x257001 x257002 x257003 x262000 x262001 x262002 x262003 x262004 x262005 x262006 x262007 (rd x3 x14)).bind fun bt280 => (if bt268.2.2.2.2.2.2.2.2.2 = true then (if bt280.2.2.2.2.2.2.2.2.2 = true then (haulierlaw13_BetterWays.l0 k x3 (wrap64 (x12 + bt280.2.2.2.2.2.2.2.2.1)) (wrap64 (x13 + bt268.2.2.2.2.2.2.2.2.1)) (wrap64 (x14 + 1)) x257000 x257001 x257002 x257003 bt280.1 bt280.2.1 bt280.2.2.1 bt280.2.2.2.1 bt280.2.2.2.2.1 bt280.2.2.2.2.2.1 bt280.2.2.2.2.2.2.1 bt280.2.2.2.2.2.2.2.1 bt268.1 bt268.2.1 bt268.2.2.1 bt268.2.2.2.1 bt268.2.2.2.2.1 bt268.2.2.2.2.2.1 bt268.2.2.2.2.2.2.1 bt268.2.2.2.2.2.2.2.1) else (none)) else (some true)))) else (none)) else ((state_End.f k x257000 x257001 x257002 x257003 x263000 x263001 x263002 x263003 x263004 x263005 x263006 x263007).bind fun bt263 => ((state_End.f k x257000 x257001 x257002 x257003 x262000 x262001 x262002 x262003 x262004 x262005 x262006 x262007).bind fun bt265 => (if bt263.2 = true then (if bt265.2 = true then (some (decide ((wrap64 (x12 + bt265.1)) ≤ (wrap64 (x13 + bt263.1))))) else (none)) else (some true))))
end
def haulierlaw13_BetterWays.f (k : Nat) (a0_0 : Int) (a0_1 : Int) (a0_2 : Int) (l0_3 : List (S23)) (a1_0 : Int) (a1_1 : Int) (a1_2 : Int) (a1_3 : Int) (a1_4 : Int) (a1_5 : Int) (a1_6 : Int) (a1_7 : Int) (a1_8 : Int) (l1_9 : List Int) (a2_0 : Int) (a2_1 : Int) (a2_2 : Int) (a2_3 : Int) (a2_4 : Int) (a2_5 : Int) (a2_6 : Int) (a2_7 : Int) (a2_8 : Int) (l2_9 : List Int) (l3 : List Int) : Option (Bool) := (haulierlaw13_awake.f).bind fun t259 => (if t259 = true then (if (l0_3.length : Int) > 100 then (haulierlaw13_BetterWays.j0 k l3 t259 true a0_0 a0_1 a0_2 l0_3 a1_0 a1_1 a1_2 a1_3 a1_4 a1_5 a1_6 a1_7 a1_8 l1_9 a2_0 a2_1 a2_2 a2_3 a2_4 a2_5 a2_6 a2_7 a2_8 l2_9) else (if (l3.length : Int) > 100 then (haulierlaw13_BetterWays.j0 k l3 t259 true a0_0 a0_1 a0_2 l0_3 a1_0 a1_1 a1_2 a1_3 a1_4 a1_5 a1_6 a1_7 a1_8 l1_9 a2_0 a2_1 a2_2 a2_3 a2_4 a2_5 a2_6 a2_7 a2_8 l2_9) else ((better_Than.f a1_0 a1_1 a1_2 a1_3 a1_4 a1_5 a1_6 a1_7 a1_8 l1_9 a2_0 a2_1 a2_2 a2_3 a2_4 a2_5 a2_6 a2_7 a2_8 l2_9).bind fun t260 => (if t260 = true then (if a1_1 < 1 then (haulierlaw13_BetterWays.j0 k l3 t259 true a0_0 a0_1 a0_2 l0_3 a1_0 a1_1 a1_2 a1_3 a1_4 a1_5 a1_6 a1_7 a1_8 l1_9 a2_0 a2_1 a2_2 a2_3 a2_4 a2_5 a2_6 a2_7 a2_8 l2_9) else (if a1_2 < 0 then (haulierlaw13_BetterWays.j0 k l3 t259 true a0_0 a0_1 a0_2 l0_3 a1_0 a1_1 a1_2 a1_3 a1_4 a1_5 a1_6 a1_7 a1_8 l1_9 a2_0 a2_1 a2_2 a2_3 a2_4 a2_5 a2_6 a2_7 a2_8 l2_9) else (if a1_3 < 0 then (haulierlaw13_BetterWays.j0 k l3 t259 true a0_0 a0_1 a0_2 l0_3 a1_0 a1_1 a1_2 a1_3 a1_4 a1_5 a1_6 a1_7 a1_8 l1_9 a2_0 a2_1 a2_2 a2_3 a2_4 a2_5 a2_6 a2_7 a2_8 l2_9) else (if a0_0 = 0 then (haulierlaw13_BetterWays.j0 k l3 t259 true a0_0 a0_1 a0_2 l0_3 a1_0 a1_1 a1_2 a1_3 a1_4 a1_5 a1_6 a1_7 a1_8 l1_9 a2_0 a2_1 a2_2 a2_3 a2_4 a2_5 a2_6 a2_7 a2_8 l2_9) else (if a1_8 < 0 then (haulierlaw13_BetterWays.j0 k l3 t259 true a0_0 a0_1 a0_2 l0_3 a1_0 a1_1 a1_2 a1_3 a1_4 a1_5 a1_6 a1_7 a1_8 l1_9 a2_0 a2_1 a2_2 a2_3 a2_4 a2_5 a2_6 a2_7 a2_8 l2_9) else (haulierlaw13_BetterWays.j0 k l3 t259 (decide (a2_8 > 1152921504606846976)) a0_0 a0_1 a0_2 l0_3 a1_0 a1_1 a1_2 a1_3 a1_4 a1_5 a1_6 a1_7 a1_8 l1_9 a2_0 a2_1 a2_2 a2_3 a2_4 a2_5 a2_6 a2_7 a2_8 l2_9)))))) else (haulierlaw13_BetterWays.j0 k l3 t259 true a0_0 a0_1 a0_2 l0_3 a1_0 a1_1 a1_2 a1_3 a1_4 a1_5 a1_6 a1_7 a1_8 l1_9 a2_0 a2_1 a2_2 a2_3 a2_4 a2_5 a2_6 a2_7 a2_8 l2_9))))) else (haulierlaw13_BetterWays.j0 k l3 t259 true a0_0 a0_1 a0_2 l0_3 a1_0 a1_1 a1_2 a1_3 a1_4 a1_5 a1_6 a1_7 a1_8 l1_9 a2_0 a2_1 a2_2 a2_3 a2_4 a2_5 a2_6 a2_7 a2_8 l2_9))
theorem haulierlaw13_BetterWays.mono_l : ∀ k, (∀ y0 y1 y2 y3 y4 y5 y6 y7 y8 y9 y10 y11 y12 y13 y14 y15 y16 y17 y18 y19 y20 y21 y22 y23 y24 y25 y26, LeO (haulierlaw13_BetterWays.j0 k y0 y1 y2 y3 y4 y5 y6 y7 y8 y9 y10 y11 y12 y13 y14 y15 y16 y17 y18 y19 y20 y21 y22 y23 y24 y25 y26) (haulierlaw13_BetterWays.j0 (k + 1) y0 y1 y2 y3 y4 y5 y6 y7 y8 y9 y10 y11 y12 y13 y14 y15 y16 y17 y18 y19 y20 y21 y22 y23 y24 y25 y26)) ∧ (∀ y0 y1 y2 y3 y4 y5 y6 y7 y8 y9 y10 y11 y12 y13 y14 y15 y16 y17 y18 y19 y20 y21 y22 y23, LeO (haulierlaw13_BetterWays.l0 k y0 y1 y2 y3 y4 y5 y6 y7 y8 y9 y10 y11 y12 y13 y14 y15 y16 y17 y18 y19 y20 y21 y22 y23) (haulierlaw13_BetterWays.l0 (k + 1) y0 y1 y2 y3 y4 y5 y6 y7 y8 y9 y10 y11 y12 y13 y14 y15 y16 y17 y18 y19 y20 y21 y22 y23))
  | 0 => ⟨fun _ _ _ _ _ _ _ _ _ _ _ _ _ _ _ _ _ _ _ _ _ _ _ _ _ _ _ r h => by simp [haulierlaw13_BetterWays.j0] at h, fun _ _ _ _ _ _ _ _ _ _ _ _ _ _ _ _ _ _ _ _ _ _ _ _ r h => by simp [haulierlaw13_BetterWays.l0] at h⟩
  | k + 1 => by
    obtain ⟨ih0, ih1⟩ := haulierlaw13_BetterWays.mono_l k
    refine ⟨?_, ?_⟩
    · intro y0 y1 y2 y3 y4 y5 y6 y7 y8 y9 y10 y11 y12 y13 y14 y15 y16 y17 y18 y19 y20 y21 y22 y23 y24 y25 y26
      unfold haulierlaw13_BetterWays.j0
      repeat' first
      | (with_reducible exact ih0 _ _ _ _ _ _ _ _ _ _ _ _ _ _ _ _ _ _ _ _ _ _ _ _ _ _ _)
      | (with_reducible exact ih1 _ _ _ _ _ _ _ _ _ _ _ _ _ _ _ _ _ _ _ _ _ _ _ _)
      | (with_reducible exact state_End.mono _ _ _ _ _ _ _ _ _ _ _ _ _)
      | (with_reducible exact state_Move.mono _ _ _ _ _ _ _ _ _ _ _ _ _ _)
      | (with_reducible exact LeO.refl _)
      | (with_reducible exact LeO.none _)
      | (with_reducible refine LeO.ite ?_ ?_)
      | (with_reducible refine LeO.bind ?_ (fun _ => ?_))
      | exact ih0 _ _ _ _ _ _ _ _ _ _ _ _ _ _ _ _ _ _ _ _ _ _ _ _ _ _ _
      | exact ih1 _ _ _ _ _ _ _ _ _ _ _ _ _ _ _ _ _ _ _ _ _ _ _ _
      | exact state_End.mono _ _ _ _ _ _ _ _ _ _ _ _ _
      | exact state_Move.mono _ _ _ _ _ _ _ _ _ _ _ _ _ _
      | exact LeO.none _
      | refine LeO.ite ?_ ?_
      | refine LeO.bind ?_ (fun _ => ?_)
    · intro y0 y1 y2 y3 y4 y5 y6 y7 y8 y9 y10 y11 y12 y13 y14 y15 y16 y17 y18 y19 y20 y21 y22 y23
      unfold haulierlaw13_BetterWays.l0
      repeat' first
      | (with_reducible exact ih0 _ _ _ _ _ _ _ _ _ _ _ _ _ _ _ _ _ _ _ _ _ _ _ _ _ _ _)
      | (with_reducible exact ih1 _ _ _ _ _ _ _ _ _ _ _ _ _ _ _ _ _ _ _ _ _ _ _ _)
      | (with_reducible exact state_End.mono _ _ _ _ _ _ _ _ _ _ _ _ _)
      | (with_reducible exact state_Move.mono _ _ _ _ _ _ _ _ _ _ _ _ _ _)
      | (with_reducible exact LeO.refl _)
      | (with_reducible exact LeO.none _)
      | (with_reducible refine LeO.ite ?_ ?_)
      | (with_reducible refine LeO.bind ?_ (fun _ => ?_))
      | exact ih0 _ _ _ _ _ _ _ _ _ _ _ _ _ _ _ _ _ _ _ _ _ _ _ _ _ _ _
      | exact ih1 _ _ _ _ _ _ _ _ _ _ _ _ _ _ _ _ _ _ _ _ _ _ _ _
      | exact state_End.mono _ _ _ _ _ _ _ _ _ _ _ _ _
      | exact state_Move.mono _ _ _ _ _ _ _ _ _ _ _ _ _ _
      | exact LeO.none _
      | refine LeO.ite ?_ ?_
      | refine LeO.bind ?_ (fun _ => ?_)
theorem haulierlaw13_BetterWays.mono : ∀ a0 a1 a2 a3 a4 a5 a6 a7 a8 a9 a10 a11 a12 a13 a14 a15 a16 a17 a18 a19 a20 a21 a22 a23 a24 k, LeO (haulierlaw13_BetterWays.f k a0 a1 a2 a3 a4 a5 a6 a7 a8 a9 a10 a11 a12 a13 a14 a15 a16 a17 a18 a19 a20 a21 a22 a23 a24) (haulierlaw13_BetterWays.f (k + 1) a0 a1 a2 a3 a4 a5 a6 a7 a8 a9 a10 a11 a12 a13 a14 a15 a16 a17 a18 a19 a20 a21 a22 a23 a24) := by
  intro a0 a1 a2 a3 a4 a5 a6 a7 a8 a9 a10 a11 a12 a13 a14 a15 a16 a17 a18 a19 a20 a21 a22 a23 a24 k
  obtain ⟨ih0, ih1⟩ := haulierlaw13_BetterWays.mono_l k
  unfold haulierlaw13_BetterWays.f
  repeat' first
      | (with_reducible exact ih0 _ _ _ _ _ _ _ _ _ _ _ _ _ _ _ _ _ _ _ _ _ _ _ _ _ _ _)
      | (with_reducible exact ih1 _ _ _ _ _ _ _ _ _ _ _ _ _ _ _ _ _ _ _ _ _ _ _ _)
      | (with_reducible exact state_End.mono _ _ _ _ _ _ _ _ _ _ _ _ _)
      | (with_reducible exact state_Move.mono _ _ _ _ _ _ _ _ _ _ _ _ _ _)
      | (with_reducible exact LeO.refl _)
      | (with_reducible exact LeO.none _)
      | (with_reducible refine LeO.ite ?_ ?_)
      | (with_reducible refine LeO.bind ?_ (fun _ => ?_))
      | exact ih0 _ _ _ _ _ _ _ _ _ _ _ _ _ _ _ _ _ _ _ _ _ _ _ _ _ _ _
      | exact ih1 _ _ _ _ _ _ _ _ _ _ _ _ _ _ _ _ _ _ _ _ _ _ _ _
      | exact state_End.mono _ _ _ _ _ _ _ _ _ _ _ _ _
      | exact state_Move.mono _ _ _ _ _ _ _ _ _ _ _ _ _ _
      | exact LeO.none _
      | refine LeO.ite ?_ ?_
      | refine LeO.bind ?_ (fun _ => ?_)
def haulierlaw13_BetterWays.T11 : Bool × List (List Nat × List Nat) := (true, [([], []), ([], []), ([], []), ([], []), ([2, 3], [2, 3]), ([4], [4]), ([0, 1, 5], [0, 1, 5]), ([6], [6]), ([7], [7]), ([7], [7]), ([7], [7]), ([], []), ([11, 8, 6, 0, 1, 2, 3, 4, 5, 6, 7, 8, 11], [8, 11]), ([9, 12, 0, 1, 2, 3, 4, 5, 6, 7, 8, 9, 11, 12], [9]), ([10, 13, 0, 1, 2, 3, 4, 5, 6, 7, 8, 9, 10, 11, 12, 13], [10])])
def haulierlaw13_BetterWays.B11 : List Nat := [0, 0, 0, 0, 12, 28, 63, 127, 255, 255, 255, 0, 2559, 7167, 16383]
theorem haulierlaw13_BetterWays.tab11 : rtab .any (opsOf Try.f8 11) = haulierlaw13_BetterWays.T11 := by kernel_rfl
theorem haulierlaw13_BetterWays.bits11 : waitsOk haulierlaw13_BetterWays.T11.2 haulierlaw13_BetterWays.B11 = true := by kernel_rfl
def haulierlaw13_BetterWays.T12 : Bool × List (List Nat × List Nat) := (true, [([], []), ([], []), ([], []), ([], []), ([2, 3], [2, 3]), ([4], [4]), ([0, 1, 5], [0, 1, 5]), ([6], [6]), ([7], [7]), ([7], [7]), ([7], [7]), ([], []), ([11, 8, 6, 0, 1, 2, 3, 4, 5, 6, 7, 8, 11], [8, 11]), ([9, 12, 0, 1, 2, 3, 4, 5, 6, 7, 8, 9, 11, 12], [9]), ([10, 13, 0, 1, 2, 3, 4, 5, 6, 7, 8, 9, 10, 11, 12, 13], [10])])
def haulierlaw13_BetterWays.B12 : List Nat := [0, 0, 0, 0, 12, 28, 63, 127, 255, 255, 255, 0, 2559, 7167, 16383]
theorem haulierlaw13_BetterWays.tab12 : rtab .any (opsOf Try.f8 12) = haulierlaw13_BetterWays.T12 := by kernel_rfl
theorem haulierlaw13_BetterWays.bits12 : waitsOk haulierlaw13_BetterWays.T12.2 haulierlaw13_BetterWays.B12 = true := by kernel_rfl
set_option maxHeartbeats 16000000 in
set_option maxRecDepth 100000 in
theorem haulierlaw13_BetterWays.calls (k : Nat) (a0_0 : Int) (a0_1 : Int) (a0_2 : Int) (A0_3 : Option Addr) (c0_3 : Nat) (l0_3 : List (S23)) (a1_0 : Int) (a1_1 : Int) (a1_2 : Int) (a1_3 : Int) (a1_4 : Int) (a1_5 : Int) (a1_6 : Int) (a1_7 : Int) (a1_8 : Int) (A1_9 : Option Addr) (c1_9 : Nat) (l1_9 : List Int) (a2_0 : Int) (a2_1 : Int) (a2_2 : Int) (a2_3 : Int) (a2_4 : Int) (a2_5 : Int) (a2_6 : Int) (a2_7 : Int) (a2_8 : Int) (A2_9 : Option Addr) (c2_9 : Nat) (l2_9 : List Int) (A3 : Option Addr) (c3 : Nat) (l3 : List Int) (r : Bool) (w : World) (hr0_3 : Kd.C k23 w A0_3 l0_3.length l0_3) (hc0_3 : l0_3.length ≤ c0_3) (hr1_9 : Kd.C (Kd.int .i64) w A1_9 l1_9.length l1_9) (hc1_9 : l1_9.length ≤ c1_9) (hr2_9 : Kd.C (Kd.int .i64) w A2_9 l2_9.length l2_9) (hc2_9 : l2_9.length ≤ c2_9) (hr3 : Kd.C (Kd.int .i64) w A3 l3.length l3) (hc3 : l3.length ≤ c3) (h : haulierlaw13_BetterWays.f k a0_0 a0_1 a0_2 l0_3 a1_0 a1_1 a1_2 a1_3 a1_4 a1_5 a1_6 a1_7 a1_8 l1_9 a2_0 a2_1 a2_2 a2_3 a2_4 a2_5 a2_6 a2_7 a2_8 l2_9 l3 = some r) :
  Calls Try.prog 8 #[.agg #[.int .i64 a0_0, .int .i64 a0_1, .int .i64 a0_2, .slice A0_3 l0_3.length c0_3], .agg #[.int .i64 a1_0, .int .i64 a1_1, .int .i64 a1_2, .int .i64 a1_3, .int .i64 a1_4, .int .u64 a1_5, .int .u64 a1_6, .int .u64 a1_7, .int .i64 a1_8, .slice A1_9 l1_9.length c1_9], .agg #[.int .i64 a2_0, .int .i64 a2_1, .int .i64 a2_2, .int .i64 a2_3, .int .i64 a2_4, .int .u64 a2_5, .int .u64 a2_6, .int .u64 a2_7, .int .i64 a2_8, .slice A2_9 l2_9.length c2_9], .slice A3 l3.length c3] w fun e w' => e = .returned (.bool r) ∧ Below w.heap.size w w' := by
 have hu26 := Try.underlying26
 have hu50 := Try.underlying50
 have hu40 := Try.underlying40
 have HR0_3 := zqi hr0_3
 have HC0_3 := zqi hc0_3
 clear hr0_3 hc0_3
 have HR1_9 := zqi hr1_9
 have HC1_9 := zqi hc1_9
 clear hr1_9 hc1_9
 have HR2_9 := zqi hr2_9
 have HC2_9 := zqi hc2_9
 clear hr2_9 hc2_9
 have HR3 := zqi hr3
 have HC3 := zqi hc3
 clear hr3 hc3
 have HB := zqi (Below.refl w.heap.size w)
 have H : ((haulierlaw13_awake.f).bind fun t259 => (if t259 = true then (if (l0_3.length : Int) > 100 then (haulierlaw13_BetterWays.j0 k l3 t259 true a0_0 a0_1 a0_2 l0_3 a1_0 a1_1 a1_2 a1_3 a1_4 a1_5 a1_6 a1_7 a1_8 l1_9 a2_0 a2_1 a2_2 a2_3 a2_4 a2_5 a2_6 a2_7 a2_8 l2_9) else (if (l3.length : Int) > 100 then (haulierlaw13_BetterWays.j0 k l3 t259 true a0_0 a0_1 a0_2 l0_3 a1_0 a1_1 a1_2 a1_3 a1_4 a1_5 a1_6 a1_7 a1_8 l1_9 a2_0 a2_1 a2_2 a2_3 a2_4 a2_5 a2_6 a2_7 a2_8 l2_9) else ((better_Than.f a1_0 a1_1 a1_2 a1_3 a1_4 a1_5 a1_6 a1_7 a1_8 l1_9 a2_0 a2_1 a2_2 a2_3 a2_4 a2_5 a2_6 a2_7 a2_8 l2_9).bind fun t260 => (if t260 = true then (if a1_1 < 1 then (haulierlaw13_BetterWays.j0 k l3 t259 true a0_0 a0_1 a0_2 l0_3 a1_0 a1_1 a1_2 a1_3 a1_4 a1_5 a1_6 a1_7 a1_8 l1_9 a2_0 a2_1 a2_2 a2_3 a2_4 a2_5 a2_6 a2_7 a2_8 l2_9) else (if a1_2 < 0 then (haulierlaw13_BetterWays.j0 k l3 t259 true a0_0 a0_1 a0_2 l0_3 a1_0 a1_1 a1_2 a1_3 a1_4 a1_5 a1_6 a1_7 a1_8 l1_9 a2_0 a2_1 a2_2 a2_3 a2_4 a2_5 a2_6 a2_7 a2_8 l2_9) else (if a1_3 < 0 then (haulierlaw13_BetterWays.j0 k l3 t259 true a0_0 a0_1 a0_2 l0_3 a1_0 a1_1 a1_2 a1_3 a1_4 a1_5 a1_6 a1_7 a1_8 l1_9 a2_0 a2_1 a2_2 a2_3 a2_4 a2_5 a2_6 a2_7 a2_8 l2_9) else (if a0_0 = 0 then (haulierlaw13_BetterWays.j0 k l3 t259 true a0_0 a0_1 a0_2 l0_3 a1_0 a1_1 a1_2 a1_3 a1_4 a1_5 a1_6 a1_7 a1_8 l1_9 a2_0 a2_1 a2_2 a2_3 a2_4 a2_5 a2_6 a2_7 a2_8 l2_9) else (if a1_8 < 0 then (haulierlaw13_BetterWays.j0 k l3 t259 true a0_0 a0_1 a0_2 l0_3 a1_0 a1_1 a1_2 a1_3 a1_4 a1_5 a1_6 a1_7 a1_8 l1_9 a2_0 a2_1 a2_2 a2_3 a2_4 a2_5 a2_6 a2_7 a2_8 l2_9) else (haulierlaw13_BetterWays.j0 k l3 t259 (decide (a2_8 > 1152921504606846976)) a0_0 a0_1 a0_2 l0_3 a1_0 a1_1 a1_2 a1_3 a1_4 a1_5 a1_6 a1_7 a1_8 l1_9 a2_0 a2_1 a2_2 a2_3 a2_4 a2_5 a2_6 a2_7 a2_8 l2_9)))))) else (haulierlaw13_BetterWays.j0 k l3 t259 true a0_0 a0_1 a0_2 l0_3 a1_0 a1_1 a1_2 a1_3 a1_4 a1_5 a1_6 a1_7 a1_8 l1_9 a2_0 a2_1 a2_2 a2_3 a2_4 a2_5 a2_6 a2_7 a2_8 l2_9))))) else (haulierlaw13_BetterWays.j0 k l3 t259 true a0_0 a0_1 a0_2 l0_3 a1_0 a1_1 a1_2 a1_3 a1_4 a1_5 a1_6 a1_7 a1_8 l1_9 a2_0 a2_1 a2_2 a2_3 a2_4 a2_5 a2_6 a2_7 a2_8 l2_9))) = some r := h
 clear h
 replace H := Option.bind_eq_some_iff.mp H
 obtain ⟨t259, A50, H⟩ := H
 replace H : (if t259 = true then (if (l0_3.length : Int) > 100 then (haulierlaw13_BetterWays.j0 k l3 t259 true a0_0 a0_1 a0_2 l0_3 a1_0 a1_1 a1_2 a1_3 a1_4 a1_5 a1_6 a1_7 a1_8 l1_9 a2_0 a2_1 a2_2 a2_3 a2_4 a2_5 a2_6 a2_7 a2_8 l2_9) else (if (l3.length : Int) > 100 then (haulierlaw13_BetterWays.j0 k l3 t259 true a0_0 a0_1 a0_2 l0_3 a1_0 a1_1 a1_2 a1_3 a1_4 a1_5 a1_6 a1_7 a1_8 l1_9 a2_0 a2_1 a2_2 a2_3 a2_4 a2_5 a2_6 a2_7 a2_8 l2_9) else ((better_Than.f a1_0 a1_1 a1_2 a1_3 a1_4 a1_5 a1_6 a1_7 a1_8 l1_9 a2_0 a2_1 a2_2 a2_3 a2_4 a2_5 a2_6 a2_7 a2_8 l2_9).bind fun t260 => (if t260 = true then (if a1_1 < 1 then (haulierlaw13_BetterWays.j0 k l3 t259 true a0_0 a0_1 a0_2 l0_3 a1_0 a1_1 a1_2 a1_3 a1_4 a1_5 a1_6 a1_7 a1_8 l1_9 a2_0 a2_1 a2_2 a2_3 a2_4 a2_5 a2_6 a2_7 a2_8 l2_9) else (if a1_2 < 0 then (haulierlaw13_BetterWays.j0 k l3 t259 true a0_0 a0_1 a0_2 l0_3 a1_0 a1_1 a1_2 a1_3 a1_4 a1_5 a1_6 a1_7 a1_8 l1_9 a2_0 a2_1 a2_2 a2_3 a2_4 a2_5 a2_6 a2_7 a2_8 l2_9) else (if a1_3 < 0 then (haulierlaw13_BetterWays.j0 k l3 t259 true a0_0 a0_1 a0_2 l0_3 a1_0 a1_1 a1_2 a1_3 a1_4 a1_5 a1_6 a1_7 a1_8 l1_9 a2_0 a2_1 a2_2 a2_3 a2_4 a2_5 a2_6 a2_7 a2_8 l2_9) else (if a0_0 = 0 then (haulierlaw13_BetterWays.j0 k l3 t259 true a0_0 a0_1 a0_2 l0_3 a1_0 a1_1 a1_2 a1_3 a1_4 a1_5 a1_6 a1_7 a1_8 l1_9 a2_0 a2_1 a2_2 a2_3 a2_4 a2_5 a2_6 a2_7 a2_8 l2_9) else (if a1_8 < 0 then (haulierlaw13_BetterWays.j0 k l3 t259 true a0_0 a0_1 a0_2 l0_3 a1_0 a1_1 a1_2 a1_3 a1_4 a1_5 a1_6 a1_7 a1_8 l1_9 a2_0 a2_1 a2_2 a2_3 a2_4 a2_5 a2_6 a2_7 a2_8 l2_9) else (haulierlaw13_BetterWays.j0 k l3 t259 (decide (a2_8 > 1152921504606846976)) a0_0 a0_1 a0_2 l0_3 a1_0 a1_1 a1_2 a1_3 a1_4 a1_5 a1_6 a1_7 a1_8 l1_9 a2_0 a2_1 a2_2 a2_3 a2_4 a2_5 a2_6 a2_7 a2_8 l2_9)))))) else (haulierlaw13_BetterWays.j0 k l3 t259 true a0_0 a0_1 a0_2 l0_3 a1_0 a1_1 a1_2 a1_3 a1_4 a1_5 a1_6 a1_7 a1_8 l1_9 a2_0 a2_1 a2_2 a2_3 a2_4 a2_5 a2_6 a2_7 a2_8 l2_9))))) else (haulierlaw13_BetterWays.j0 k l3 t259 true a0_0 a0_1 a0_2 l0_3 a1_0 a1_1 a1_2 a1_3 a1_4 a1_5 a1_6 a1_7 a1_8 l1_9 a2_0 a2_1 a2_2 a2_3 a2_4 a2_5 a2_6 a2_7 a2_8 l2_9)) = some r := H
 have A5 := zqi A50
 clear A50
 have HC6 := zqi H
 clear H
 go_enter Try.func8, Try.ntmps8
 go_upto_region 2 with (first | ((with_reducible refine gate_dst (N := 4) rfl ?_); (try (refine gate_guard (by rfl) ?_; dsimp only)); refine box_event ?hg (N := 4) ?hd (cs := #[.int .i64 a0_0, .int .i64 a0_1, .int .i64 a0_2, .slice A0_3 l0_3.length c0_3]) (t := 26) ?hr ?_; (case hd => rfl); (case hg => rfl); (case hr => first | (go_simp; done) | (go_simp; rfl)); intro gb256 hg w7 hbox hb; have n0_ := zqi (below_step (zqn HB.out) hb); have n1_ := zqi (hbox); have n2_ := zqi (zqo hg HB.out); have n3_ := zqi (zqo hg HB.out); clear HB; have HB := n0_; have BK256 := n1_; have GW256 := n2_; have GE256 := n3_; clear n0_ n1_ n2_ n3_; clear hb hbox hg) | ((with_reducible refine gate_dst (N := 5) rfl ?_); (try (refine gate_guard (by rfl) ?_; dsimp only)); refine box_event ?hg (N := 5) ?hd (cs := #[.int .i64 a1_0, .int .i64 a1_1, .int .i64 a1_2, .int .i64 a1_3, .int .i64 a1_4, .int .u64 a1_5, .int .u64 a1_6, .int .u64 a1_7, .int .i64 a1_8, .slice A1_9 l1_9.length c1_9]) (t := 50) ?hr ?_; (case hd => rfl); (case hg => rfl); (case hr => first | (go_simp; done) | (go_simp; rfl)); intro gb257 hg w8 hbox hb; have n0_ := zqi (zqy BK256.out hb); have n1_ := zqi (below_step (zqn HB.out) hb); have n2_ := zqi (hbox); have n3_ := zqi (zqo hg HB.out); have n4_ := zqi (zqo hg HB.out); have n5_ := zqi ((zqq hg BK256.out)); have n6_ := zqi ((zqr hg BK256.out)); clear BK256; clear HB; have BK256 := n0_; have HB := n1_; have BK257 := n2_; have GW257 := n3_; have GE257 := n4_; have NB256_257 := n5_; have NB257_256 := n6_; clear n0_ n1_ n2_ n3_ n4_ n5_ n6_; clear hb hbox hg) | ((with_reducible refine gate_dst (N := 6) rfl ?_); (try (refine gate_guard (by rfl) ?_; dsimp only)); refine box_event ?hg (N := 6) ?hd (cs := #[.int .i64 a2_0, .int .i64 a2_1, .int .i64 a2_2, .int .i64 a2_3, .int .i64 a2_4, .int .u64 a2_5, .int .u64 a2_6, .int .u64 a2_7, .int .i64 a2_8, .slice A2_9 l2_9.length c2_9]) (t := 50) ?hr ?_; (case hd => rfl); (case hg => rfl); (case hr => first | (go_simp; done) | (go_simp; rfl)); intro gb258 hg w9 hbox hb; have n0_ := zqi (zqy BK256.out hb); have n1_ := zqi (zqy BK257.out hb); have n2_ := zqi (below_step (zqn HB.out) hb); have n3_ := zqi (hbox); have n4_ := zqi (zqo hg HB.out); have n5_ := zqi (zqo hg HB.out); have n6_ := zqi ((zqq hg BK256.out)); have n7_ := zqi ((zqr hg BK256.out)); have n8_ := zqi ((zqq hg BK257.out)); have n9_ := zqi ((zqr hg BK257.out)); clear BK256; clear BK257; clear HB; have BK256 := n0_; have BK257 := n1_; have HB := n2_; have BK258 := n3_; have GW258 := n4_; have GE258 := n5_; have NB256_258 := n6_; have NB258_256 := n7_; have NB257_258 := n8_; have NB258_257 := n9_; clear n0_ n1_ n2_ n3_ n4_ n5_ n6_ n7_ n8_ n9_; clear hb hbox hg) | ((with_reducible refine gate_callee (f := 25) rfl ?_); refine goesL_ (some 25) rfl rfl Try.func25 (by kernel_rfl) rfl #[] rfl (by (try simp only [List.map_toArray, List.map_cons, List.map_nil]); first | done | rfl | (simp only [List.length_drop, List.length_take]; rfl)) ?_; (with_reducible refine (haulierlaw13_awake.calls  t259 _ A5.out).mono ?_); rintro e w10 ⟨rfl, hb⟩; refine ⟨_, rfl, ?_⟩; have n0_ := zqi (zqy BK256.out hb); have n1_ := zqi (zqy BK257.out hb); have n2_ := zqi (zqy BK258.out hb); have n3_ := zqi (below_step (zqn HB.out) hb); clear BK256; clear BK257; clear BK258; clear HB; have BK256 := n0_; have BK257 := n1_; have BK258 := n2_; have HB := n3_; clear n0_ n1_ n2_ n3_; (try clear hb); (try clear hb2); (try clear hk); (try clear hi)))
 (try simp only [Act.put, List.setIfInBounds_toArray, List.set_cons_zero, List.set_cons_succ])
 go_cut [77] (fun v77 wc => ∃ (kq : Nat) (x77_5 : Bool), v77 = .bool x77_5 ∧ Aside0 (haulierlaw13_BetterWays.j0 kq l3 t259 x77_5 a0_0 a0_1 a0_2 l0_3 a1_0 a1_1 a1_2 a1_3 a1_4 a1_5 a1_6 a1_7 a1_8 l1_9 a2_0 a2_1 a2_2 a2_3 a2_4 a2_5 a2_6 a2_7 a2_8 l2_9 = some r) ∧ Aside0 (kq ≤ k) ∧ Aside0 (wc.heap[gb256]? = some (.cells #[.int .i64 a0_0, .int .i64 a0_1, .int .i64 a0_2, (.slice A0_3 l0_3.length c0_3)] 26 (0, 0))) ∧ Aside0 (wc.heap[gb257]? = some (.cells #[.int .i64 a1_0, .int .i64 a1_1, .int .i64 a1_2, .int .i64 a1_3, .int .i64 a1_4, .int .u64 a1_5, .int .u64 a1_6, .int .u64 a1_7, .int .i64 a1_8, (.slice A1_9 l1_9.length c1_9)] 50 (0, 0))) ∧ Aside0 (wc.heap[gb258]? = some (.cells #[.int .i64 a2_0, .int .i64 a2_1, .int .i64 a2_2, .int .i64 a2_3, .int .i64 a2_4, .int .u64 a2_5, .int .u64 a2_6, .int .u64 a2_7, .int .i64 a2_8, (.slice A2_9 l2_9.length c2_9)] 50 (0, 0))) ∧ Aside0 (Below w.heap.size w wc))
 case first =>
  have H := HC6.out
  clear HC6
  by_cases c11 : t259 = true
  ·
   subst c11
   have H1 : (if (l0_3.length : Int) > 100 then (haulierlaw13_BetterWays.j0 k l3 true true a0_0 a0_1 a0_2 l0_3 a1_0 a1_1 a1_2 a1_3 a1_4 a1_5 a1_6 a1_7 a1_8 l1_9 a2_0 a2_1 a2_2 a2_3 a2_4 a2_5 a2_6 a2_7 a2_8 l2_9) else (if (l3.length : Int) > 100 then (haulierlaw13_BetterWays.j0 k l3 true true a0_0 a0_1 a0_2 l0_3 a1_0 a1_1 a1_2 a1_3 a1_4 a1_5 a1_6 a1_7 a1_8 l1_9 a2_0 a2_1 a2_2 a2_3 a2_4 a2_5 a2_6 a2_7 a2_8 l2_9) else ((better_Than.f a1_0 a1_1 a1_2 a1_3 a1_4 a1_5 a1_6 a1_7 a1_8 l1_9 a2_0 a2_1 a2_2 a2_3 a2_4 a2_5 a2_6 a2_7 a2_8 l2_9).bind fun t260 => (if t260 = true then (if a1_1 < 1 then (haulierlaw13_BetterWays.j0 k l3 true true a0_0 a0_1 a0_2 l0_3 a1_0 a1_1 a1_2 a1_3 a1_4 a1_5 a1_6 a1_7 a1_8 l1_9 a2_0 a2_1 a2_2 a2_3 a2_4 a2_5 a2_6 a2_7 a2_8 l2_9) else (if a1_2 < 0 then (haulierlaw13_BetterWays.j0 k l3 true true a0_0 a0_1 a0_2 l0_3 a1_0 a1_1 a1_2 a1_3 a1_4 a1_5 a1_6 a1_7 a1_8 l1_9 a2_0 a2_1 a2_2 a2_3 a2_4 a2_5 a2_6 a2_7 a2_8 l2_9) else (if a1_3 < 0 then (haulierlaw13_BetterWays.j0 k l3 true true a0_0 a0_1 a0_2 l0_3 a1_0 a1_1 a1_2 a1_3 a1_4 a1_5 a1_6 a1_7 a1_8 l1_9 a2_0 a2_1 a2_2 a2_3 a2_4 a2_5 a2_6 a2_7 a2_8 l2_9) else (if a0_0 = 0 then (haulierlaw13_BetterWays.j0 k l3 true true a0_0 a0_1 a0_2 l0_3 a1_0 a1_1 a1_2 a1_3 a1_4 a1_5 a1_6 a1_7 a1_8 l1_9 a2_0 a2_1 a2_2 a2_3 a2_4 a2_5 a2_6 a2_7 a2_8 l2_9) else (if a1_8 < 0 then (haulierlaw13_BetterWays.j0 k l3 true true a0_0 a0_1 a0_2 l0_3 a1_0 a1_1 a1_2 a1_3 a1_4 a1_5 a1_6 a1_7 a1_8 l1_9 a2_0 a2_1 a2_2 a2_3 a2_4 a2_5 a2_6 a2_7 a2_8 l2_9) else (haulierlaw13_BetterWays.j0 k l3 true (decide (a2_8 > 1152921504606846976)) a0_0 a0_1 a0_2 l0_3 a1_0 a1_1 a1_2 a1_3 a1_4 a1_5 a1_6 a1_7 a1_8 l1_9 a2_0 a2_1 a2_2 a2_3 a2_4 a2_5 a2_6 a2_7 a2_8 l2_9)))))) else (haulierlaw13_BetterWays.j0 k l3 true true a0_0 a0_1 a0_2 l0_3 a1_0 a1_1 a1_2 a1_3 a1_4 a1_5 a1_6 a1_7 a1_8 l1_9 a2_0 a2_1 a2_2 a2_3 a2_4 a2_5 a2_6 a2_7 a2_8 l2_9))))) = some r := by rw [if_pos rfl] at H; exact H
   clear H
   have H := H1
   clear H1
   by_cases c12 : (l0_3.length : Int) > 100
   ·
    rw [if_pos c12] at H
    have c12b0 : decide (100 < (l0_3.length : Int)) = true := decide_eq_true c12
    have c12b1 : decide (100 < l0_3.length) = true := decide_eq_true (by omega)
    clear c12
    (first | rw [c12b0] | (simp only [i64_w, i32_w]; rw [c12b0]) | skip)
    have H' := zqi H
    clear H
    have hnb13 := NB256_257.out
    have hnc13 := NB257_256.out
    have hnb14 := NB256_258.out
    have hnc14 := NB258_256.out
    obtain ⟨hcz15_0, hcz15_1, hcz15_2, hcz15_3, hfz15_0, hfz15_1, hfz15_2, hfz15_3⟩ := zqz4 BK256.out
    go_wp2
    go_meet
    case rel => exact ⟨_, (true), (by first | rfl | (simp; done) | (simp [*]; done)), H', ⟨by first | omega | exact Nat.le_refl _⟩, ⟨by (with_reducible repeat (first | apply zqa | apply zqb | apply zqc)); exact BK256.out⟩, ⟨by (with_reducible repeat (first | apply zqa | apply zqb | apply zqc)); exact BK257.out⟩, ⟨by (with_reducible repeat (first | apply zqa | apply zqb | apply zqc)); exact BK258.out⟩, ⟨by repeat (first | (with_reducible first | exact HB.out | apply zqg | apply zqf | apply zqh | refine below_set ?_ GE256.out | refine below_set ?_ GE257.out | refine below_set ?_ GE258.out) | exact HB.out)⟩⟩
   ·
    rw [if_neg c12] at H
    have c12b0 : decide (100 < (l0_3.length : Int)) = false := decide_eq_false c12
    have c12b1 : decide (100 < l0_3.length) = false := decide_eq_false (by omega)
    clear c12
    (first | rw [c12b0] | (simp only [i64_w, i32_w]; rw [c12b0]) | skip)
    by_cases c16 : (l3.length : Int) > 100
    ·
     rw [if_pos c16] at H
     have c16b0 : decide (100 < (l3.length : Int)) = true := decide_eq_true c16
     have c16b1 : decide (100 < l3.length) = true := decide_eq_true (by omega)
     clear c16
     have H' := zqi H
     clear H
     have hnb17 := NB256_257.out
     have hnc17 := NB257_256.out
     have hnb18 := NB256_258.out
     have hnc18 := NB258_256.out
     obtain ⟨hcz19_0, hcz19_1, hcz19_2, hcz19_3, hfz19_0, hfz19_1, hfz19_2, hfz19_3⟩ := zqz4 BK256.out
     go_wp2
     go_meet
     case rel => exact ⟨_, (true), (by first | rfl | (simp; done) | (simp [*]; done)), H', ⟨by first | omega | exact Nat.le_refl _⟩, ⟨by (with_reducible repeat (first | apply zqa | apply zqb | apply zqc)); exact BK256.out⟩, ⟨by (with_reducible repeat (first | apply zqa | apply zqb | apply zqc)); exact BK257.out⟩, ⟨by (with_reducible repeat (first | apply zqa | apply zqb | apply zqc)); exact BK258.out⟩, ⟨by repeat (first | (with_reducible first | exact HB.out | apply zqg | apply zqf | apply zqh | refine below_set ?_ GE256.out | refine below_set ?_ GE257.out | refine below_set ?_ GE258.out) | exact HB.out)⟩⟩
    ·
     rw [if_neg c16] at H
     have c16b0 : decide (100 < (l3.length : Int)) = false := decide_eq_false c16
     have c16b1 : decide (100 < l3.length) = false := decide_eq_false (by omega)
     clear c16
     replace H := Option.bind_eq_some_iff.mp H
     obtain ⟨t260, A200, H⟩ := H
     replace H : (if t260 = true then (if a1_1 < 1 then (haulierlaw13_BetterWays.j0 k l3 true true a0_0 a0_1 a0_2 l0_3 a1_0 a1_1 a1_2 a1_3 a1_4 a1_5 a1_6 a1_7 a1_8 l1_9 a2_0 a2_1 a2_2 a2_3 a2_4 a2_5 a2_6 a2_7 a2_8 l2_9) else (if a1_2 < 0 then (haulierlaw13_BetterWays.j0 k l3 true true a0_0 a0_1 a0_2 l0_3 a1_0 a1_1 a1_2 a1_3 a1_4 a1_5 a1_6 a1_7 a1_8 l1_9 a2_0 a2_1 a2_2 a2_3 a2_4 a2_5 a2_6 a2_7 a2_8 l2_9) else (if a1_3 < 0 then (haulierlaw13_BetterWays.j0 k l3 true true a0_0 a0_1 a0_2 l0_3 a1_0 a1_1 a1_2 a1_3 a1_4 a1_5 a1_6 a1_7 a1_8 l1_9 a2_0 a2_1 a2_2 a2_3 a2_4 a2_5 a2_6 a2_7 a2_8 l2_9) else (if a0_0 = 0 then (haulierlaw13_BetterWays.j0 k l3 true true a0_0 a0_1 a0_2 l0_3 a1_0 a1_1 a1_2 a1_3 a1_4 a1_5 a1_6 a1_7 a1_8 l1_9 a2_0 a2_1 a2_2 a2_3 a2_4 a2_5 a2_6 a2_7 a2_8 l2_9) else (if a1_8 < 0 then (haulierlaw13_BetterWays.j0 k l3 true true a0_0 a0_1 a0_2 l0_3 a1_0 a1_1 a1_2 a1_3 a1_4 a1_5 a1_6 a1_7 a1_8 l1_9 a2_0 a2_1 a2_2 a2_3 a2_4 a2_5 a2_6 a2_7 a2_8 l2_9) else (haulierlaw13_BetterWays.j0 k l3 true (decide (a2_8 > 1152921504606846976)) a0_0 a0_1 a0_2 l0_3 a1_0 a1_1 a1_2 a1_3 a1_4 a1_5 a1_6 a1_7 a1_8 l1_9 a2_0 a2_1 a2_2 a2_3 a2_4 a2_5 a2_6 a2_7 a2_8 l2_9)))))) else (haulierlaw13_BetterWays.j0 k l3 true true a0_0 a0_1 a0_2 l0_3 a1_0 a1_1 a1_2 a1_3 a1_4 a1_5 a1_6 a1_7 a1_8 l1_9 a2_0 a2_1 a2_2 a2_3 a2_4 a2_5 a2_6 a2_7 a2_8 l2_9)) = some r := H
     have A20 := zqi A200
     clear A200
     by_cases c21 : t260 = true
     ·
      subst c21
      have H1 : (if a1_1 < 1 then (haulierlaw13_BetterWays.j0 k l3 true true a0_0 a0_1 a0_2 l0_3 a1_0 a1_1 a1_2 a1_3 a1_4 a1_5 a1_6 a1_7 a1_8 l1_9 a2_0 a2_1 a2_2 a2_3 a2_4 a2_5 a2_6 a2_7 a2_8 l2_9) else (if a1_2 < 0 then (haulierlaw13_BetterWays.j0 k l3 true true a0_0 a0_1 a0_2 l0_3 a1_0 a1_1 a1_2 a1_3 a1_4 a1_5 a1_6 a1_7 a1_8 l1_9 a2_0 a2_1 a2_2 a2_3 a2_4 a2_5 a2_6 a2_7 a2_8 l2_9) else (if a1_3 < 0 then (haulierlaw13_BetterWays.j0 k l3 true true a0_0 a0_1 a0_2 l0_3 a1_0 a1_1 a1_2 a1_3 a1_4 a1_5 a1_6 a1_7 a1_8 l1_9 a2_0 a2_1 a2_2 a2_3 a2_4 a2_5 a2_6 a2_7 a2_8 l2_9) else (if a0_0 = 0 then (haulierlaw13_BetterWays.j0 k l3 true true a0_0 a0_1 a0_2 l0_3 a1_0 a1_1 a1_2 a1_3 a1_4 a1_5 a1_6 a1_7 a1_8 l1_9 a2_0 a2_1 a2_2 a2_3 a2_4 a2_5 a2_6 a2_7 a2_8 l2_9) else (if a1_8 < 0 then (haulierlaw13_BetterWays.j0 k l3 true true a0_0 a0_1 a0_2 l0_3 a1_0 a1_1 a1_2 a1_3 a1_4 a1_5 a1_6 a1_7 a1_8 l1_9 a2_0 a2_1 a2_2 a2_3 a2_4 a2_5 a2_6 a2_7 a2_8 l2_9) else (haulierlaw13_BetterWays.j0 k l3 true (decide (a2_8 > 1152921504606846976)) a0_0 a0_1 a0_2 l0_3 a1_0 a1_1 a1_2 a1_3 a1_4 a1_5 a1_6 a1_7 a1_8 l1_9 a2_0 a2_1 a2_2 a2_3 a2_4 a2_5 a2_6 a2_7 a2_8 l2_9)))))) = some r := by rw [if_pos rfl] at H; exact H
      clear H
      have H := H1
      clear H1
      by_cases c22 : a1_1 < 1
      ·
       rw [if_pos c22] at H
       have c22b0 : decide (a1_1 < 1) = true := decide_eq_true c22
       clear c22
       have H' := zqi H
       clear H
       have hnb23 := NB256_257.out
       have hnc23 := NB257_256.out
       have hnb24 := NB256_258.out
       have hnc24 := NB258_256.out
       obtain ⟨hcz25_0, hcz25_1, hcz25_2, hcz25_3, hfz25_0, hfz25_1, hfz25_2, hfz25_3⟩ := zqz4 BK256.out
       have hnb26 := NB257_258.out
       have hnc26 := NB258_257.out
       obtain ⟨hcz27_0, hcz27_1, hcz27_2, hcz27_3, hcz27_4, hcz27_5, hcz27_6, hcz27_7, hcz27_8, hcz27_9, hfz27_0, hfz27_1, hfz27_2, hfz27_3, hfz27_4, hfz27_5, hfz27_6, hfz27_7, hfz27_8, hfz27_9⟩ := zqz10 BK257.out
       obtain ⟨hcz28_0, hcz28_1, hcz28_2, hcz28_3, hcz28_4, hcz28_5, hcz28_6, hcz28_7, hcz28_8, hcz28_9, hfz28_0, hfz28_1, hfz28_2, hfz28_3, hfz28_4, hfz28_5, hfz28_6, hfz28_7, hfz28_8, hfz28_9⟩ := zqz10 BK258.out
       go_wp2_with (first | (go_at_call 26; (with_reducible refine (better_Than.calls a1_0 a1_1 a1_2 a1_3 a1_4 a1_5 a1_6 a1_7 a1_8 _ _ l1_9 a2_0 a2_1 a2_2 a2_3 a2_4 a2_5 a2_6 a2_7 a2_8 _ _ l2_9 true _ ?side1 ?side2 ?side3 ?side4 A20.out).mono ?_); (case side1 => repeat (first | exact (Kd.C_below HR1_9.out HB.out) | (with_reducible refine Kd.C_alloc ?_ _) | (with_reducible refine Kd.C_drewN ?_ _) | (with_reducible refine Kd.C_drew ?_))); (case side2 => exact HC1_9.out); (case side3 => repeat (first | exact (Kd.C_below HR2_9.out HB.out) | (with_reducible refine Kd.C_alloc ?_ _) | (with_reducible refine Kd.C_drewN ?_ _) | (with_reducible refine Kd.C_drew ?_))); (case side4 => exact HC2_9.out); rintro e w29 ⟨rfl, hb⟩; have n0_ := zqi (zqy BK256.out hb); have n1_ := zqi (zqy BK257.out hb); have n2_ := zqi (zqy BK258.out hb); have n3_ := zqi (below_step (zqn HB.out) hb); clear BK256; clear BK257; clear BK258; clear HB; have BK256 := n0_; have BK257 := n1_; have BK258 := n2_; have HB := n3_; clear n0_ n1_ n2_ n3_; (try clear hb); (try clear hb2); (try clear hk); (try clear hi); obtain ⟨hcz30_0, hcz30_1, hcz30_2, hcz30_3, hcz30_4, hcz30_5, hcz30_6, hcz30_7, hcz30_8, hcz30_9, hfz30_0, hfz30_1, hfz30_2, hfz30_3, hfz30_4, hfz30_5, hfz30_6, hfz30_7, hfz30_8, hfz30_9⟩ := zqz10 BK257.out))
       go_meet
       case rel => exact ⟨_, (true), (by first | rfl | (simp; done) | (simp [*]; done)), H', ⟨by first | omega | exact Nat.le_refl _⟩, ⟨by (with_reducible repeat (first | apply zqa | apply zqb | apply zqc)); exact BK256.out⟩, ⟨by (with_reducible repeat (first | apply zqa | apply zqb | apply zqc)); exact BK257.out⟩, ⟨by (with_reducible repeat (first | apply zqa | apply zqb | apply zqc)); exact BK258.out⟩, ⟨by repeat (first | (with_reducible first | exact HB.out | apply zqg | apply zqf | apply zqh | refine below_set ?_ GE256.out | refine below_set ?_ GE257.out | refine below_set ?_ GE258.out) | exact HB.out)⟩⟩
      ·
       rw [if_neg c22] at H
       have c22b0 : decide (a1_1 < 1) = false := decide_eq_false c22
       clear c22
       by_cases c31 : a1_2 < 0
       ·
        rw [if_pos c31] at H
        have c31b0 : decide (a1_2 < 0) = true := decide_eq_true c31
        clear c31
        have H' := zqi H
        clear H
        have hnb32 := NB256_257.out
        have hnc32 := NB257_256.out
        have hnb33 := NB256_258.out
        have hnc33 := NB258_256.out
        obtain ⟨hcz34_0, hcz34_1, hcz34_2, hcz34_3, hfz34_0, hfz34_1, hfz34_2, hfz34_3⟩ := zqz4 BK256.out
        have hnb35 := NB257_258.out
        have hnc35 := NB258_257.out
        obtain ⟨hcz36_0, hcz36_1, hcz36_2, hcz36_3, hcz36_4, hcz36_5, hcz36_6, hcz36_7, hcz36_8, hcz36_9, hfz36_0, hfz36_1, hfz36_2, hfz36_3, hfz36_4, hfz36_5, hfz36_6, hfz36_7, hfz36_8, hfz36_9⟩ := zqz10 BK257.out
        obtain ⟨hcz37_0, hcz37_1, hcz37_2, hcz37_3, hcz37_4, hcz37_5, hcz37_6, hcz37_7, hcz37_8, hcz37_9, hfz37_0, hfz37_1, hfz37_2, hfz37_3, hfz37_4, hfz37_5, hfz37_6, hfz37_7, hfz37_8, hfz37_9⟩ := zqz10 BK258.out
        go_wp2_with (first | (go_at_call 26; (with_reducible refine (better_Than.calls a1_0 a1_1 a1_2 a1_3 a1_4 a1_5 a1_6 a1_7 a1_8 _ _ l1_9 a2_0 a2_1 a2_2 a2_3 a2_4 a2_5 a2_6 a2_7 a2_8 _ _ l2_9 true _ ?side1 ?side2 ?side3 ?side4 A20.out).mono ?_); (case side1 => repeat (first | exact (Kd.C_below HR1_9.out HB.out) | (with_reducible refine Kd.C_alloc ?_ _) | (with_reducible refine Kd.C_drewN ?_ _) | (with_reducible refine Kd.C_drew ?_))); (case side2 => exact HC1_9.out); (case side3 => repeat (first | exact (Kd.C_below HR2_9.out HB.out) | (with_reducible refine Kd.C_alloc ?_ _) | (with_reducible refine Kd.C_drewN ?_ _) | (with_reducible refine Kd.C_drew ?_))); (case side4 => exact HC2_9.out); rintro e w38 ⟨rfl, hb⟩; have n0_ := zqi (zqy BK256.out hb); have n1_ := zqi (zqy BK257.out hb); have n2_ := zqi (zqy BK258.out hb); have n3_ := zqi (below_step (zqn HB.out) hb); clear BK256; clear BK257; clear BK258; clear HB; have BK256 := n0_; have BK257 := n1_; have BK258 := n2_; have HB := n3_; clear n0_ n1_ n2_ n3_; (try clear hb); (try clear hb2); (try clear hk); (try clear hi); obtain ⟨hcz39_0, hcz39_1, hcz39_2, hcz39_3, hcz39_4, hcz39_5, hcz39_6, hcz39_7, hcz39_8, hcz39_9, hfz39_0, hfz39_1, hfz39_2, hfz39_3, hfz39_4, hfz39_5, hfz39_6, hfz39_7, hfz39_8, hfz39_9⟩ := zqz10 BK257.out))
        go_meet
        case rel => exact ⟨_, (true), (by first | rfl | (simp; done) | (simp [*]; done)), H', ⟨by first | omega | exact Nat.le_refl _⟩, ⟨by (with_reducible repeat (first | apply zqa | apply zqb | apply zqc)); exact BK256.out⟩, ⟨by (with_reducible repeat (first | apply zqa | apply zqb | apply zqc)); exact BK257.out⟩, ⟨by (with_reducible repeat (first | apply zqa | apply zqb | apply zqc)); exact BK258.out⟩, ⟨by repeat (first | (with_reducible first | exact HB.out | apply zqg | apply zqf | apply zqh | refine below_set ?_ GE256.out | refine below_set ?_ GE257.out | refine below_set ?_ GE258.out) | exact HB.out)⟩⟩
       ·
        rw [if_neg c31] at H
        have c31b0 : decide (a1_2 < 0) = false := decide_eq_false c31
        clear c31
        by_cases c40 : a1_3 < 0
        ·
         rw [if_pos c40] at H
         have c40b0 : decide (a1_3 < 0) = true := decide_eq_true c40
         clear c40
         have H' := zqi H
         clear H
         have hnb41 := NB256_257.out
         have hnc41 := NB257_256.out
         have hnb42 := NB256_258.out
         have hnc42 := NB258_256.out
         obtain ⟨hcz43_0, hcz43_1, hcz43_2, hcz43_3, hfz43_0, hfz43_1, hfz43_2, hfz43_3⟩ := zqz4 BK256.out
         have hnb44 := NB257_258.out
         have hnc44 := NB258_257.out
         obtain ⟨hcz45_0, hcz45_1, hcz45_2, hcz45_3, hcz45_4, hcz45_5, hcz45_6, hcz45_7, hcz45_8, hcz45_9, hfz45_0, hfz45_1, hfz45_2, hfz45_3, hfz45_4, hfz45_5, hfz45_6, hfz45_7, hfz45_8, hfz45_9⟩ := zqz10 BK257.out
         obtain ⟨hcz46_0, hcz46_1, hcz46_2, hcz46_3, hcz46_4, hcz46_5, hcz46_6, hcz46_7, hcz46_8, hcz46_9, hfz46_0, hfz46_1, hfz46_2, hfz46_3, hfz46_4, hfz46_5, hfz46_6, hfz46_7, hfz46_8, hfz46_9⟩ := zqz10 BK258.out
         go_wp2_with (first | (go_at_call 26; (with_reducible refine (better_Than.calls a1_0 a1_1 a1_2 a1_3 a1_4 a1_5 a1_6 a1_7 a1_8 _ _ l1_9 a2_0 a2_1 a2_2 a2_3 a2_4 a2_5 a2_6 a2_7 a2_8 _ _ l2_9 true _ ?side1 ?side2 ?side3 ?side4 A20.out).mono ?_); (case side1 => repeat (first | exact (Kd.C_below HR1_9.out HB.out) | (with_reducible refine Kd.C_alloc ?_ _) | (with_reducible refine Kd.C_drewN ?_ _) | (with_reducible refine Kd.C_drew ?_))); (case side2 => exact HC1_9.out); (case side3 => repeat (first | exact (Kd.C_below HR2_9.out HB.out) | (with_reducible refine Kd.C_alloc ?_ _) | (with_reducible refine Kd.C_drewN ?_ _) | (with_reducible refine Kd.C_drew ?_))); (case side4 => exact HC2_9.out); rintro e w47 ⟨rfl, hb⟩; have n0_ := zqi (zqy BK256.out hb); have n1_ := zqi (zqy BK257.out hb); have n2_ := zqi (zqy BK258.out hb); have n3_ := zqi (below_step (zqn HB.out) hb); clear BK256; clear BK257; clear BK258; clear HB; have BK256 := n0_; have BK257 := n1_; have BK258 := n2_; have HB := n3_; clear n0_ n1_ n2_ n3_; (try clear hb); (try clear hb2); (try clear hk); (try clear hi); obtain ⟨hcz48_0, hcz48_1, hcz48_2, hcz48_3, hcz48_4, hcz48_5, hcz48_6, hcz48_7, hcz48_8, hcz48_9, hfz48_0, hfz48_1, hfz48_2, hfz48_3, hfz48_4, hfz48_5, hfz48_6, hfz48_7, hfz48_8, hfz48_9⟩ := zqz10 BK257.out))
         go_meet
         case rel => exact ⟨_, (true), (by first | rfl | (simp; done) | (simp [*]; done)), H', ⟨by first | omega | exact Nat.le_refl _⟩, ⟨by (with_reducible repeat (first | apply zqa | apply zqb | apply zqc)); exact BK256.out⟩, ⟨by (with_reducible repeat (first | apply zqa | apply zqb | apply zqc)); exact BK257.out⟩, ⟨by (with_reducible repeat (first | apply zqa | apply zqb | apply zqc)); exact BK258.out⟩, ⟨by repeat (first | (with_reducible first | exact HB.out | apply zqg | apply zqf | apply zqh | refine below_set ?_ GE256.out | refine below_set ?_ GE257.out | refine below_set ?_ GE258.out) | exact HB.out)⟩⟩
        ·
         rw [if_neg c40] at H
         have c40b0 : decide (a1_3 < 0) = false := decide_eq_false c40
         clear c40
         by_cases c49 : a0_0 = 0
         ·
          rw [if_pos c49] at H
          have c49b0 : (a0_0 == 0) = true := beq_iff_eq.mpr c49
          have c49b1 : (a0_0 != 0) = false := bne_eq_false_iff_eq.mpr c49
          clear c49
          have H' := zqi H
          clear H
          have hnb50 := NB256_257.out
          have hnc50 := NB257_256.out
          have hnb51 := NB256_258.out
          have hnc51 := NB258_256.out
          obtain ⟨hcz52_0, hcz52_1, hcz52_2, hcz52_3, hfz52_0, hfz52_1, hfz52_2, hfz52_3⟩ := zqz4 BK256.out
          have hnb53 := NB257_258.out
          have hnc53 := NB258_257.out
          obtain ⟨hcz54_0, hcz54_1, hcz54_2, hcz54_3, hcz54_4, hcz54_5, hcz54_6, hcz54_7, hcz54_8, hcz54_9, hfz54_0, hfz54_1, hfz54_2, hfz54_3, hfz54_4, hfz54_5, hfz54_6, hfz54_7, hfz54_8, hfz54_9⟩ := zqz10 BK257.out
          obtain ⟨hcz55_0, hcz55_1, hcz55_2, hcz55_3, hcz55_4, hcz55_5, hcz55_6, hcz55_7, hcz55_8, hcz55_9, hfz55_0, hfz55_1, hfz55_2, hfz55_3, hfz55_4, hfz55_5, hfz55_6, hfz55_7, hfz55_8, hfz55_9⟩ := zqz10 BK258.out
          go_wp2_with (first | (go_at_call 26; (with_reducible refine (better_Than.calls a1_0 a1_1 a1_2 a1_3 a1_4 a1_5 a1_6 a1_7 a1_8 _ _ l1_9 a2_0 a2_1 a2_2 a2_3 a2_4 a2_5 a2_6 a2_7 a2_8 _ _ l2_9 true _ ?side1 ?side2 ?side3 ?side4 A20.out).mono ?_); (case side1 => repeat (first | exact (Kd.C_below HR1_9.out HB.out) | (with_reducible refine Kd.C_alloc ?_ _) | (with_reducible refine Kd.C_drewN ?_ _) | (with_reducible refine Kd.C_drew ?_))); (case side2 => exact HC1_9.out); (case side3 => repeat (first | exact (Kd.C_below HR2_9.out HB.out) | (with_reducible refine Kd.C_alloc ?_ _) | (with_reducible refine Kd.C_drewN ?_ _) | (with_reducible refine Kd.C_drew ?_))); (case side4 => exact HC2_9.out); rintro e w56 ⟨rfl, hb⟩; have n0_ := zqi (zqy BK256.out hb); have n1_ := zqi (zqy BK257.out hb); have n2_ := zqi (zqy BK258.out hb); have n3_ := zqi (below_step (zqn HB.out) hb); clear BK256; clear BK257; clear BK258; clear HB; have BK256 := n0_; have BK257 := n1_; have BK258 := n2_; have HB := n3_; clear n0_ n1_ n2_ n3_; (try clear hb); (try clear hb2); (try clear hk); (try clear hi); obtain ⟨hcz57_0, hcz57_1, hcz57_2, hcz57_3, hcz57_4, hcz57_5, hcz57_6, hcz57_7, hcz57_8, hcz57_9, hfz57_0, hfz57_1, hfz57_2, hfz57_3, hfz57_4, hfz57_5, hfz57_6, hfz57_7, hfz57_8, hfz57_9⟩ := zqz10 BK257.out; obtain ⟨hcz58_0, hcz58_1, hcz58_2, hcz58_3, hfz58_0, hfz58_1, hfz58_2, hfz58_3⟩ := zqz4 BK256.out))
          go_meet
          case rel => exact ⟨_, (true), (by first | rfl | (simp; done) | (simp [*]; done)), H', ⟨by first | omega | exact Nat.le_refl _⟩, ⟨by (with_reducible repeat (first | apply zqa | apply zqb | apply zqc)); exact BK256.out⟩, ⟨by (with_reducible repeat (first | apply zqa | apply zqb | apply zqc)); exact BK257.out⟩, ⟨by (with_reducible repeat (first | apply zqa | apply zqb | apply zqc)); exact BK258.out⟩, ⟨by repeat (first | (with_reducible first | exact HB.out | apply zqg | apply zqf | apply zqh | refine below_set ?_ GE256.out | refine below_set ?_ GE257.out | refine below_set ?_ GE258.out) | exact HB.out)⟩⟩
         ·
          rw [if_neg c49] at H
          have c49b0 : (a0_0 == 0) = false := beq_eq_false_iff_ne.mpr c49
          have c49b1 : (a0_0 != 0) = true := bne_iff_ne.mpr c49
          by_cases c59 : a1_8 < 0
          ·
           rw [if_pos c59] at H
           have c59b0 : decide (a1_8 < 0) = true := decide_eq_true c59
           clear c59
           have H' := zqi H
           clear H
           have hnb60 := NB256_257.out
           have hnc60 := NB257_256.out
           have hnb61 := NB256_258.out
           have hnc61 := NB258_256.out
           obtain ⟨hcz62_0, hcz62_1, hcz62_2, hcz62_3, hfz62_0, hfz62_1, hfz62_2, hfz62_3⟩ := zqz4 BK256.out
           have hnb63 := NB257_258.out
           have hnc63 := NB258_257.out
           obtain ⟨hcz64_0, hcz64_1, hcz64_2, hcz64_3, hcz64_4, hcz64_5, hcz64_6, hcz64_7, hcz64_8, hcz64_9, hfz64_0, hfz64_1, hfz64_2, hfz64_3, hfz64_4, hfz64_5, hfz64_6, hfz64_7, hfz64_8, hfz64_9⟩ := zqz10 BK257.out
           obtain ⟨hcz65_0, hcz65_1, hcz65_2, hcz65_3, hcz65_4, hcz65_5, hcz65_6, hcz65_7, hcz65_8, hcz65_9, hfz65_0, hfz65_1, hfz65_2, hfz65_3, hfz65_4, hfz65_5, hfz65_6, hfz65_7, hfz65_8, hfz65_9⟩ := zqz10 BK258.out
           go_wp2_with (first | (go_at_call 26; (with_reducible refine (better_Than.calls a1_0 a1_1 a1_2 a1_3 a1_4 a1_5 a1_6 a1_7 a1_8 _ _ l1_9 a2_0 a2_1 a2_2 a2_3 a2_4 a2_5 a2_6 a2_7 a2_8 _ _ l2_9 true _ ?side1 ?side2 ?side3 ?side4 A20.out).mono ?_); (case side1 => repeat (first | exact (Kd.C_below HR1_9.out HB.out) | (with_reducible refine Kd.C_alloc ?_ _) | (with_reducible refine Kd.C_drewN ?_ _) | (with_reducible refine Kd.C_drew ?_))); (case side2 => exact HC1_9.out); (case side3 => repeat (first | exact (Kd.C_below HR2_9.out HB.out) | (with_reducible refine Kd.C_alloc ?_ _) | (with_reducible refine Kd.C_drewN ?_ _) | (with_reducible refine Kd.C_drew ?_))); (case side4 => exact HC2_9.out); rintro e w66 ⟨rfl, hb⟩; have n0_ := zqi (zqy BK256.out hb); have n1_ := zqi (zqy BK257.out hb); have n2_ := zqi (zqy BK258.out hb); have n3_ := zqi (below_step (zqn HB.out) hb); clear BK256; clear BK257; clear BK258; clear HB; have BK256 := n0_; have BK257 := n1_; have BK258 := n2_; have HB := n3_; clear n0_ n1_ n2_ n3_; (try clear hb); (try clear hb2); (try clear hk); (try clear hi); obtain ⟨hcz67_0, hcz67_1, hcz67_2, hcz67_3, hcz67_4, hcz67_5, hcz67_6, hcz67_7, hcz67_8, hcz67_9, hfz67_0, hfz67_1, hfz67_2, hfz67_3, hfz67_4, hfz67_5, hfz67_6, hfz67_7, hfz67_8, hfz67_9⟩ := zqz10 BK257.out; obtain ⟨hcz68_0, hcz68_1, hcz68_2, hcz68_3, hfz68_0, hfz68_1, hfz68_2, hfz68_3⟩ := zqz4 BK256.out))
           go_meet
           case rel => exact ⟨_, (true), (by first | rfl | (simp; done) | (simp [*]; done)), H', ⟨by first | omega | exact Nat.le_refl _⟩, ⟨by (with_reducible repeat (first | apply zqa | apply zqb | apply zqc)); exact BK256.out⟩, ⟨by (with_reducible repeat (first | apply zqa | apply zqb | apply zqc)); exact BK257.out⟩, ⟨by (with_reducible repeat (first | apply zqa | apply zqb | apply zqc)); exact BK258.out⟩, ⟨by repeat (first | (with_reducible first | exact HB.out | apply zqg | apply zqf | apply zqh | refine below_set ?_ GE256.out | refine below_set ?_ GE257.out | refine below_set ?_ GE258.out) | exact HB.out)⟩⟩
          ·
           rw [if_neg c59] at H
           have c59b0 : decide (a1_8 < 0) = false := decide_eq_false c59
           clear c59
           have H' := zqi H
           clear H
           have hnb69 := NB256_257.out
           have hnc69 := NB257_256.out
           have hnb70 := NB256_258.out
           have hnc70 := NB258_256.out
           obtain ⟨hcz71_0, hcz71_1, hcz71_2, hcz71_3, hfz71_0, hfz71_1, hfz71_2, hfz71_3⟩ := zqz4 BK256.out
           have hnb72 := NB257_258.out
           have hnc72 := NB258_257.out
           obtain ⟨hcz73_0, hcz73_1, hcz73_2, hcz73_3, hcz73_4, hcz73_5, hcz73_6, hcz73_7, hcz73_8, hcz73_9, hfz73_0, hfz73_1, hfz73_2, hfz73_3, hfz73_4, hfz73_5, hfz73_6, hfz73_7, hfz73_8, hfz73_9⟩ := zqz10 BK257.out
           obtain ⟨hcz74_0, hcz74_1, hcz74_2, hcz74_3, hcz74_4, hcz74_5, hcz74_6, hcz74_7, hcz74_8, hcz74_9, hfz74_0, hfz74_1, hfz74_2, hfz74_3, hfz74_4, hfz74_5, hfz74_6, hfz74_7, hfz74_8, hfz74_9⟩ := zqz10 BK258.out
           go_wp2_with (first | (go_at_call 26; (with_reducible refine (better_Than.calls a1_0 a1_1 a1_2 a1_3 a1_4 a1_5 a1_6 a1_7 a1_8 _ _ l1_9 a2_0 a2_1 a2_2 a2_3 a2_4 a2_5 a2_6 a2_7 a2_8 _ _ l2_9 true _ ?side1 ?side2 ?side3 ?side4 A20.out).mono ?_); (case side1 => repeat (first | exact (Kd.C_below HR1_9.out HB.out) | (with_reducible refine Kd.C_alloc ?_ _) | (with_reducible refine Kd.C_drewN ?_ _) | (with_reducible refine Kd.C_drew ?_))); (case side2 => exact HC1_9.out); (case side3 => repeat (first | exact (Kd.C_below HR2_9.out HB.out) | (with_reducible refine Kd.C_alloc ?_ _) | (with_reducible refine Kd.C_drewN ?_ _) | (with_reducible refine Kd.C_drew ?_))); (case side4 => exact HC2_9.out); rintro e w75 ⟨rfl, hb⟩; have n0_ := zqi (zqy BK256.out hb); have n1_ := zqi (zqy BK257.out hb); have n2_ := zqi (zqy BK258.out hb); have n3_ := zqi (below_step (zqn HB.out) hb); clear BK256; clear BK257; clear BK258; clear HB; have BK256 := n0_; have BK257 := n1_; have BK258 := n2_; have HB := n3_; clear n0_ n1_ n2_ n3_; (try clear hb); (try clear hb2); (try clear hk); (try clear hi); obtain ⟨hcz76_0, hcz76_1, hcz76_2, hcz76_3, hcz76_4, hcz76_5, hcz76_6, hcz76_7, hcz76_8, hcz76_9, hfz76_0, hfz76_1, hfz76_2, hfz76_3, hfz76_4, hfz76_5, hfz76_6, hfz76_7, hfz76_8, hfz76_9⟩ := zqz10 BK257.out; obtain ⟨hcz77_0, hcz77_1, hcz77_2, hcz77_3, hfz77_0, hfz77_1, hfz77_2, hfz77_3⟩ := zqz4 BK256.out; obtain ⟨hcz78_0, hcz78_1, hcz78_2, hcz78_3, hcz78_4, hcz78_5, hcz78_6, hcz78_7, hcz78_8, hcz78_9, hfz78_0, hfz78_1, hfz78_2, hfz78_3, hfz78_4, hfz78_5, hfz78_6, hfz78_7, hfz78_8, hfz78_9⟩ := zqz10 BK258.out))
           go_meet
           case rel => exact ⟨_, (decide (a2_8 > 1152921504606846976)), (by first | rfl | (simp; done) | (simp [*]; done)), H', ⟨by first | omega | exact Nat.le_refl _⟩, ⟨by (with_reducible repeat (first | apply zqa | apply zqb | apply zqc)); exact BK256.out⟩, ⟨by (with_reducible repeat (first | apply zqa | apply zqb | apply zqc)); exact BK257.out⟩, ⟨by (with_reducible repeat (first | apply zqa | apply zqb | apply zqc)); exact BK258.out⟩, ⟨by repeat (first | (with_reducible first | exact HB.out | apply zqg | apply zqf | apply zqh | refine below_set ?_ GE256.out | refine below_set ?_ GE257.out | refine below_set ?_ GE258.out) | exact HB.out)⟩⟩
     ·
      replace c21 := Bool.eq_false_iff.mpr c21
      subst c21
      have H1 : (haulierlaw13_BetterWays.j0 k l3 true true a0_0 a0_1 a0_2 l0_3 a1_0 a1_1 a1_2 a1_3 a1_4 a1_5 a1_6 a1_7 a1_8 l1_9 a2_0 a2_1 a2_2 a2_3 a2_4 a2_5 a2_6 a2_7 a2_8 l2_9) = some r := by rw [if_neg (show ¬ (false = true) by decide)] at H; exact H
      clear H
      have H := H1
      clear H1
      have H' := zqi H
      clear H
      have hnb79 := NB256_257.out
      have hnc79 := NB257_256.out
      have hnb80 := NB256_258.out
      have hnc80 := NB258_256.out
      obtain ⟨hcz81_0, hcz81_1, hcz81_2, hcz81_3, hfz81_0, hfz81_1, hfz81_2, hfz81_3⟩ := zqz4 BK256.out
      have hnb82 := NB257_258.out
      have hnc82 := NB258_257.out
      obtain ⟨hcz83_0, hcz83_1, hcz83_2, hcz83_3, hcz83_4, hcz83_5, hcz83_6, hcz83_7, hcz83_8, hcz83_9, hfz83_0, hfz83_1, hfz83_2, hfz83_3, hfz83_4, hfz83_5, hfz83_6, hfz83_7, hfz83_8, hfz83_9⟩ := zqz10 BK257.out
      obtain ⟨hcz84_0, hcz84_1, hcz84_2, hcz84_3, hcz84_4, hcz84_5, hcz84_6, hcz84_7, hcz84_8, hcz84_9, hfz84_0, hfz84_1, hfz84_2, hfz84_3, hfz84_4, hfz84_5, hfz84_6, hfz84_7, hfz84_8, hfz84_9⟩ := zqz10 BK258.out
      go_wp2_with (first | (go_at_call 26; (with_reducible refine (better_Than.calls a1_0 a1_1 a1_2 a1_3 a1_4 a1_5 a1_6 a1_7 a1_8 _ _ l1_9 a2_0 a2_1 a2_2 a2_3 a2_4 a2_5 a2_6 a2_7 a2_8 _ _ l2_9 false _ ?side1 ?side2 ?side3 ?side4 A20.out).mono ?_); (case side1 => repeat (first | exact (Kd.C_below HR1_9.out HB.out) | (with_reducible refine Kd.C_alloc ?_ _) | (with_reducible refine Kd.C_drewN ?_ _) | (with_reducible refine Kd.C_drew ?_))); (case side2 => exact HC1_9.out); (case side3 => repeat (first | exact (Kd.C_below HR2_9.out HB.out) | (with_reducible refine Kd.C_alloc ?_ _) | (with_reducible refine Kd.C_drewN ?_ _) | (with_reducible refine Kd.C_drew ?_))); (case side4 => exact HC2_9.out); rintro e w85 ⟨rfl, hb⟩; have n0_ := zqi (zqy BK256.out hb); have n1_ := zqi (zqy BK257.out hb); have n2_ := zqi (zqy BK258.out hb); have n3_ := zqi (below_step (zqn HB.out) hb); clear BK256; clear BK257; clear BK258; clear HB; have BK256 := n0_; have BK257 := n1_; have BK258 := n2_; have HB := n3_; clear n0_ n1_ n2_ n3_; (try clear hb); (try clear hb2); (try clear hk); (try clear hi)))
      go_meet
      case rel => exact ⟨_, (true), (by first | rfl | (simp; done) | (simp [*]; done)), H', ⟨by first | omega | exact Nat.le_refl _⟩, ⟨by (with_reducible repeat (first | apply zqa | apply zqb | apply zqc)); exact BK256.out⟩, ⟨by (with_reducible repeat (first | apply zqa | apply zqb | apply zqc)); exact BK257.out⟩, ⟨by (with_reducible repeat (first | apply zqa | apply zqb | apply zqc)); exact BK258.out⟩, ⟨by repeat (first | (with_reducible first | exact HB.out | apply zqg | apply zqf | apply zqh | refine below_set ?_ GE256.out | refine below_set ?_ GE257.out | refine below_set ?_ GE258.out) | exact HB.out)⟩⟩
  ·
   replace c11 := Bool.eq_false_iff.mpr c11
   subst c11
   have H1 : (haulierlaw13_BetterWays.j0 k l3 false true a0_0 a0_1 a0_2 l0_3 a1_0 a1_1 a1_2 a1_3 a1_4 a1_5 a1_6 a1_7 a1_8 l1_9 a2_0 a2_1 a2_2 a2_3 a2_4 a2_5 a2_6 a2_7 a2_8 l2_9) = some r := by rw [if_neg (show ¬ (false = true) by decide)] at H; exact H
   clear H
   have H := H1
   clear H1
   have H' := zqi H
   clear H
   go_wp2
   go_meet
   case rel => exact ⟨_, (true), (by first | rfl | (simp; done) | (simp [*]; done)), H', ⟨by first | omega | exact Nat.le_refl _⟩, ⟨by (with_reducible repeat (first | apply zqa | apply zqb | apply zqc)); exact BK256.out⟩, ⟨by (with_reducible repeat (first | apply zqa | apply zqb | apply zqc)); exact BK257.out⟩, ⟨by (with_reducible repeat (first | apply zqa | apply zqb | apply zqc)); exact BK258.out⟩, ⟨by repeat (first | (with_reducible first | exact HB.out | apply zqg | apply zqf | apply zqh | refine below_set ?_ GE256.out | refine below_set ?_ GE257.out | refine below_set ?_ GE258.out) | exact HB.out)⟩⟩
 case rest =>
  clear HC6
  try clear c1
  try clear c2
  try clear p2
  try clear c3
  try clear c4
  try clear c5
  try clear c6
  try clear c7
  try clear c8
  try clear c11
  try clear c12
  try clear c12b0
  try clear c12b1
  try clear c13
  try clear c14
  try clear c16
  try clear c16b0
  try clear c16b1
  try clear c17
  try clear c18
  try clear c21
  try clear c22
  try clear c22b0
  try clear c23
  try clear c24
  try clear c25
  try clear c26
  try clear c31
  try clear c31b0
  try clear c32
  try clear c33
  try clear c35
  try clear c40
  try clear c40b0
  try clear c41
  try clear c42
  try clear c44
  try clear c49
  try clear c49b0
  try clear c49b1
  try clear c50
  try clear c51
  try clear c53
  try clear c59
  try clear c59b0
  try clear c60
  try clear c61
  try clear c63
  try clear c69
  try clear c70
  try clear c72
  try clear c79
  try clear c80
  try clear c82
  try clear hcz15_0
  try clear hcz15_1
  try clear hcz15_2
  try clear hcz15_3
  try clear hcz19_0
  try clear hcz19_1
  try clear hcz19_2
  try clear hcz19_3
  try clear hcz25_0
  try clear hcz25_1
  try clear hcz25_2
  try clear hcz25_3
  try clear hcz27_0
  try clear hcz27_1
  try clear hcz27_2
  try clear hcz27_3
  try clear hcz27_4
  try clear hcz27_5
  try clear hcz27_6
  try clear hcz27_7
  try clear hcz27_8
  try clear hcz27_9
  try clear hcz28_0
  try clear hcz28_1
  try clear hcz28_2
  try clear hcz28_3
  try clear hcz28_4
  try clear hcz28_5
  try clear hcz28_6
  try clear hcz28_7
  try clear hcz28_8
  try clear hcz28_9
  try clear hcz30_0
  try clear hcz30_1
  try clear hcz30_2
  try clear hcz30_3
  try clear hcz30_4
  try clear hcz30_5
  try clear hcz30_6
  try clear hcz30_7
  try clear hcz30_8
  try clear hcz30_9
  try clear hcz34_0
  try clear hcz34_1
  try clear hcz34_2
  try clear hcz34_3
  try clear hcz36_0
  try clear hcz36_1
  try clear hcz36_2
  try clear hcz36_3
  try clear hcz36_4
  try clear hcz36_5
  try clear hcz36_6
  try clear hcz36_7
  try clear hcz36_8
  try clear hcz36_9
  try clear hcz37_0
  try clear hcz37_1
  try clear hcz37_2
  try clear hcz37_3
  try clear hcz37_4
  try clear hcz37_5
  try clear hcz37_6
  try clear hcz37_7
  try clear hcz37_8
  try clear hcz37_9
  try clear hcz39_0
  try clear hcz39_1
  try clear hcz39_2
  try clear hcz39_3
  try clear hcz39_4
  try clear hcz39_5
  try clear hcz39_6
  try clear hcz39_7
  try clear hcz39_8
  try clear hcz39_9
  try clear hcz43_0
  try clear hcz43_1
  try clear hcz43_2
  try clear hcz43_3
  try clear hcz45_0
  try clear hcz45_1
  try clear hcz45_2
  try clear hcz45_3
  try clear hcz45_4
  try clear hcz45_5
  try clear hcz45_6
  try clear hcz45_7
  try clear hcz45_8
  try clear hcz45_9
  try clear hcz46_0
  try clear hcz46_1
  try clear hcz46_2
  try clear hcz46_3
  try clear hcz46_4
  try clear hcz46_5
  try clear hcz46_6
  try clear hcz46_7
  try clear hcz46_8
  try clear hcz46_9
  try clear hcz48_0
  try clear hcz48_1
  try clear hcz48_2
  try clear hcz48_3
  try clear hcz48_4
  try clear hcz48_5
  try clear hcz48_6
  try clear hcz48_7
  try clear hcz48_8
  try clear hcz48_9
  try clear hcz52_0
  try clear hcz52_1
  try clear hcz52_2
  try clear hcz52_3
  try clear hcz54_0
  try clear hcz54_1
  try clear hcz54_2
  try clear hcz54_3
  try clear hcz54_4
  try clear hcz54_5
  try clear hcz54_6
  try clear hcz54_7
  try clear hcz54_8
  try clear hcz54_9
  try clear hcz55_0
  try clear hcz55_1
  try clear hcz55_2
  try clear hcz55_3
  try clear hcz55_4
  try clear hcz55_5
  try clear hcz55_6
  try clear hcz55_7
  try clear hcz55_8
  try clear hcz55_9
  try clear hcz57_0
  try clear hcz57_1
  try clear hcz57_2
  try clear hcz57_3
  try clear hcz57_4
  try clear hcz57_5
  try clear hcz57_6
  try clear hcz57_7
  try clear hcz57_8
  try clear hcz57_9
  try clear hcz58_0
  try clear hcz58_1
  try clear hcz58_2
  try clear hcz58_3
  try clear hcz62_0
  try clear hcz62_1
  try clear hcz62_2
  try clear hcz62_3
  try clear hcz64_0
  try clear hcz64_1
  try clear hcz64_2
  try clear hcz64_3
  try clear hcz64_4
  try clear hcz64_5
  try clear hcz64_6
  try clear hcz64_7
  try clear hcz64_8
  try clear hcz64_9
  try clear hcz65_0
  try clear hcz65_1
  try clear hcz65_2
  try clear hcz65_3
  try clear hcz65_4
  try clear hcz65_5
  try clear hcz65_6
  try clear hcz65_7
  try clear hcz65_8
  try clear hcz65_9
  try clear hcz67_0
  try clear hcz67_1
  try clear hcz67_2
  try clear hcz67_3
  try clear hcz67_4
  try clear hcz67_5
  try clear hcz67_6
  try clear hcz67_7
  try clear hcz67_8
  try clear hcz67_9
  try clear hcz68_0
  try clear hcz68_1
  try clear hcz68_2
  try clear hcz68_3
  try clear hcz71_0
  try clear hcz71_1
  try clear hcz71_2
  try clear hcz71_3
  try clear hcz73_0
  try clear hcz73_1
  try clear hcz73_2
  try clear hcz73_3
  try clear hcz73_4
  try clear hcz73_5
  try clear hcz73_6
  try clear hcz73_7
  try clear hcz73_8
  try clear hcz73_9
  try clear hcz74_0
  try clear hcz74_1
  try clear hcz74_2
  try clear hcz74_3
  try clear hcz74_4
  try clear hcz74_5
  try clear hcz74_6
  try clear hcz74_7
  try clear hcz74_8
  try clear hcz74_9
  try clear hcz76_0
  try clear hcz76_1
  try clear hcz76_2
  try clear hcz76_3
  try clear hcz76_4
  try clear hcz76_5
  try clear hcz76_6
  try clear hcz76_7
  try clear hcz76_8
  try clear hcz76_9
  try clear hcz77_0
  try clear hcz77_1
  try clear hcz77_2
  try clear hcz77_3
  try clear hcz78_0
  try clear hcz78_1
  try clear hcz78_2
  try clear hcz78_3
  try clear hcz78_4
  try clear hcz78_5
  try clear hcz78_6
  try clear hcz78_7
  try clear hcz78_8
  try clear hcz78_9
  try clear hcz81_0
  try clear hcz81_1
  try clear hcz81_2
  try clear hcz81_3
  try clear hcz83_0
  try clear hcz83_1
  try clear hcz83_2
  try clear hcz83_3
  try clear hcz83_4
  try clear hcz83_5
  try clear hcz83_6
  try clear hcz83_7
  try clear hcz83_8
  try clear hcz83_9
  try clear hcz84_0
  try clear hcz84_1
  try clear hcz84_2
  try clear hcz84_3
  try clear hcz84_4
  try clear hcz84_5
  try clear hcz84_6
  try clear hcz84_7
  try clear hcz84_8
  try clear hcz84_9
  try clear hfz15_0
  try clear hfz15_1
  try clear hfz15_2
  try clear hfz15_3
  try clear hfz19_0
  try clear hfz19_1
  try clear hfz19_2
  try clear hfz19_3
  try clear hfz25_0
  try clear hfz25_1
  try clear hfz25_2
  try clear hfz25_3
  try clear hfz27_0
  try clear hfz27_1
  try clear hfz27_2
  try clear hfz27_3
  try clear hfz27_4
  try clear hfz27_5
  try clear hfz27_6
  try clear hfz27_7
  try clear hfz27_8
  try clear hfz27_9
  try clear hfz28_0
  try clear hfz28_1
  try clear hfz28_2
  try clear hfz28_3
  try clear hfz28_4
  try clear hfz28_5
  try clear hfz28_6
  try clear hfz28_7
  try clear hfz28_8
  try clear hfz28_9
  try clear hfz30_0
  try clear hfz30_1
  try clear hfz30_2
  try clear hfz30_3
  try clear hfz30_4
  try clear hfz30_5
  try clear hfz30_6
  try clear hfz30_7
  try clear hfz30_8
  try clear hfz30_9
  try clear hfz34_0
  try clear hfz34_1
  try clear hfz34_2
  try clear hfz34_3
  try clear hfz36_0
  try clear hfz36_1
  try clear hfz36_2
  try clear hfz36_3
  try clear hfz36_4
  try clear hfz36_5
  try clear hfz36_6
  try clear hfz36_7
  try clear hfz36_8
  try clear hfz36_9
  try clear hfz37_0
  try clear hfz37_1
  try clear hfz37_2
  try clear hfz37_3
  try clear hfz37_4
  try clear hfz37_5
  try clear hfz37_6
  try clear hfz37_7
  try clear hfz37_8
  try clear hfz37_9
  try clear hfz39_0
  try clear hfz39_1
  try clear hfz39_2
  try clear hfz39_3
  try clear hfz39_4
  try clear hfz39_5
  try clear hfz39_6
  try clear hfz39_7
  try clear hfz39_8
  try clear hfz39_9
  try clear hfz43_0
  try clear hfz43_1
  try clear hfz43_2
  try clear hfz43_3
  try clear hfz45_0
  try clear hfz45_1
  try clear hfz45_2
  try clear hfz45_3
  try clear hfz45_4
  try clear hfz45_5
  try clear hfz45_6
  try clear hfz45_7
  try clear hfz45_8
  try clear hfz45_9
  try clear hfz46_0
  try clear hfz46_1
  try clear hfz46_2
  try clear hfz46_3
  try clear hfz46_4
  try clear hfz46_5
  try clear hfz46_6
  try clear hfz46_7
  try clear hfz46_8
  try clear hfz46_9
  try clear hfz48_0
  try clear hfz48_1
  try clear hfz48_2
  try clear hfz48_3
  try clear hfz48_4
  try clear hfz48_5
  try clear hfz48_6
  try clear hfz48_7
  try clear hfz48_8
  try clear hfz48_9
  try clear hfz52_0
  try clear hfz52_1
  try clear hfz52_2
  try clear hfz52_3
  try clear hfz54_0
  try clear hfz54_1
  try clear hfz54_2
  try clear hfz54_3
  try clear hfz54_4
  try clear hfz54_5
  try clear hfz54_6
  try clear hfz54_7
  try clear hfz54_8
  try clear hfz54_9
  try clear hfz55_0
  try clear hfz55_1
  try clear hfz55_2
  try clear hfz55_3
  try clear hfz55_4
  try clear hfz55_5
  try clear hfz55_6
  try clear hfz55_7
  try clear hfz55_8
  try clear hfz55_9
  try clear hfz57_0
  try clear hfz57_1
  try clear hfz57_2
  try clear hfz57_3
  try clear hfz57_4
  try clear hfz57_5
  try clear hfz57_6
  try clear hfz57_7
  try clear hfz57_8
  try clear hfz57_9
  try clear hfz58_0
  try clear hfz58_1
  try clear hfz58_2
  try clear hfz58_3
  try clear hfz62_0
  try clear hfz62_1
  try clear hfz62_2
  try clear hfz62_3
  try clear hfz64_0
  try clear hfz64_1
  try clear hfz64_2
  try clear hfz64_3
  try clear hfz64_4
  try clear hfz64_5
  try clear hfz64_6
  try clear hfz64_7
  try clear hfz64_8
  try clear hfz64_9
  try clear hfz65_0
  try clear hfz65_1
  try clear hfz65_2
  try clear hfz65_3
  try clear hfz65_4
  try clear hfz65_5
  try clear hfz65_6
  try clear hfz65_7
  try clear hfz65_8
  try clear hfz65_9
  try clear hfz67_0
  try clear hfz67_1
  try clear hfz67_2
  try clear hfz67_3
  try clear hfz67_4
  try clear hfz67_5
  try clear hfz67_6
  try clear hfz67_7
  try clear hfz67_8
  try clear hfz67_9
  try clear hfz68_0
  try clear hfz68_1
  try clear hfz68_2
  try clear hfz68_3
  try clear hfz71_0
  try clear hfz71_1
  try clear hfz71_2
  try clear hfz71_3
  try clear hfz73_0
  try clear hfz73_1
  try clear hfz73_2
  try clear hfz73_3
  try clear hfz73_4
  try clear hfz73_5
  try clear hfz73_6
  try clear hfz73_7
  try clear hfz73_8
  try clear hfz73_9
  try clear hfz74_0
  try clear hfz74_1
  try clear hfz74_2
  try clear hfz74_3
  try clear hfz74_4
  try clear hfz74_5
  try clear hfz74_6
  try clear hfz74_7
  try clear hfz74_8
  try clear hfz74_9
  try clear hfz76_0
  try clear hfz76_1
  try clear hfz76_2
  try clear hfz76_3
  try clear hfz76_4
  try clear hfz76_5
  try clear hfz76_6
  try clear hfz76_7
  try clear hfz76_8
  try clear hfz76_9
  try clear hfz77_0
  try clear hfz77_1
  try clear hfz77_2
  try clear hfz77_3
  try clear hfz78_0
  try clear hfz78_1
  try clear hfz78_2
  try clear hfz78_3
  try clear hfz78_4
  try clear hfz78_5
  try clear hfz78_6
  try clear hfz78_7
  try clear hfz78_8
  try clear hfz78_9
  try clear hfz81_0
  try clear hfz81_1
  try clear hfz81_2
  try clear hfz81_3
  try clear hfz83_0
  try clear hfz83_1
  try clear hfz83_2
  try clear hfz83_3
  try clear hfz83_4
  try clear hfz83_5
  try clear hfz83_6
  try clear hfz83_7
  try clear hfz83_8
  try clear hfz83_9
  try clear hfz84_0
  try clear hfz84_1
  try clear hfz84_2
  try clear hfz84_3
  try clear hfz84_4
  try clear hfz84_5
  try clear hfz84_6
  try clear hfz84_7
  try clear hfz84_8
  try clear hfz84_9
  obtain ⟨kq, x77_5, rfl, HA, HJ5, BK256, BK257, BK258, HB⟩ := hcut
  cases kq with
  | zero => exact absurd HA.out (by simp [haulierlaw13_BetterWays.j0])
  | succ kj5 =>
   have H := HA.out
   clear HA
   simp only [haulierlaw13_BetterWays.j0] at H
   by_cases c86 : x77_5 = true
   ·
    subst c86
    have H1 : (some t259) = some r := by rw [if_pos rfl] at H; exact H
    clear H
    have H := H1
    clear H1
    obtain rfl := Option.some.inj H
    go_wp2
    go_ret
    exact ⟨by first | rfl | (simp [errW_none, errW_some] <;> rfl) | (simp [*, errW_none, errW_some] <;> rfl), by repeat (first | (with_reducible first | exact HB.out | apply zqg | apply zqf | apply zqh | refine below_set ?_ GE256.out | refine below_set ?_ GE257.out | refine below_set ?_ GE258.out) | exact HB.out)⟩
   ·
    replace c86 := Bool.eq_false_iff.mpr c86
    subst c86
    have H1 : (haulierlaw13_BetterWays.l0 kj5 l3 a1_8 a2_8 0 a0_0 a0_1 a0_2 l0_3 a1_0 a1_1 a1_2 a1_3 a1_4 a1_5 a1_6 a1_7 a2_0 a2_1 a2_2 a2_3 a2_4 a2_5 a2_6 a2_7) = some r := by rw [if_neg (show ¬ (false = true) by decide)] at H; exact H
    clear H
    have H := H1
    clear H1
    have H' := zqi H
    clear H
    have hnb87 := NB257_256.out
    have hnc87 := NB256_257.out
    have hnb88 := NB257_258.out
    have hnc88 := NB258_257.out
    obtain ⟨hcz89_0, hcz89_1, hcz89_2, hcz89_3, hcz89_4, hcz89_5, hcz89_6, hcz89_7, hcz89_8, hcz89_9, hfz89_0, hfz89_1, hfz89_2, hfz89_3, hfz89_4, hfz89_5, hfz89_6, hfz89_7, hfz89_8, hfz89_9⟩ := zqz10 BK257.out
    go_wp2_with (first | ((with_reducible refine gate_dst (N := 10) rfl ?_); (try (refine gate_guard (by rfl) ?_; dsimp only)); refine box_event ?hg (N := 10) ?hd (cs := #[.int .i64 0, .int .i64 0, .int .i64 0, .int .i64 0, .int .i64 0, .int .u64 0, .int .u64 0, .int .u64 0]) (t := 40) ?hr ?_; (case hd => rfl); (case hg => rfl); (case hr => first | (go_simp; done) | (go_simp; rfl)); intro gb261 hg w90 hbox hb; have n0_ := zqi (zqy BK256.out hb); have n1_ := zqi (zqy BK257.out hb); have n2_ := zqi (zqy BK258.out hb); have n3_ := zqi (below_step (zqn HB.out) hb); have n4_ := zqi (hbox); have n5_ := zqi (zqo hg HB.out); have n6_ := zqi (zqo hg HB.out); have n7_ := zqi ((zqq hg BK256.out)); have n8_ := zqi ((zqr hg BK256.out)); have n9_ := zqi ((zqq hg BK257.out)); have n10_ := zqi ((zqr hg BK257.out)); have n11_ := zqi ((zqq hg BK258.out)); have n12_ := zqi ((zqr hg BK258.out)); clear BK256; clear BK257; clear BK258; clear HB; have BK256 := n0_; have BK257 := n1_; have BK258 := n2_; have HB := n3_; have BK261 := n4_; have GW261 := n5_; have GE261 := n6_; have NB256_261 := n7_; have NB261_256 := n8_; have NB257_261 := n9_; have NB261_257 := n10_; have NB258_261 := n11_; have NB261_258 := n12_; clear n0_ n1_ n2_ n3_ n4_ n5_ n6_ n7_ n8_ n9_ n10_ n11_ n12_; clear hb hbox hg; have hnb91 := NB261_256.out; have hnc91 := NB256_261.out; have hnb92 := NB261_257.out; have hnc92 := NB257_261.out; have hnb93 := NB261_258.out; have hnc93 := NB258_261.out; obtain ⟨hcz94_0, hcz94_1, hcz94_2, hcz94_3, hcz94_4, hcz94_5, hcz94_6, hcz94_7, hfz94_0, hfz94_1, hfz94_2, hfz94_3, hfz94_4, hfz94_5, hfz94_6, hfz94_7⟩ := zqz8 BK261.out; have hnb95 := NB258_256.out; have hnc95 := NB256_258.out; obtain ⟨hcz96_0, hcz96_1, hcz96_2, hcz96_3, hcz96_4, hcz96_5, hcz96_6, hcz96_7, hcz96_8, hcz96_9, hfz96_0, hfz96_1, hfz96_2, hfz96_3, hfz96_4, hfz96_5, hfz96_6, hfz96_7, hfz96_8, hfz96_9⟩ := zqz10 BK258.out) | ((with_reducible refine gate_dst (N := 11) rfl ?_); (try (refine gate_guard (by rfl) ?_; dsimp only)); refine box_event ?hg (N := 11) ?hd (cs := #[.int .i64 0, .int .i64 0, .int .i64 0, .int .i64 0, .int .i64 0, .int .u64 0, .int .u64 0, .int .u64 0]) (t := 40) ?hr ?_; (case hd => rfl); (case hg => rfl); (case hr => first | (go_simp; done) | (go_simp; rfl)); intro gb262 hg w97 hbox hb; have n0_ := zqi (blk_below (g := gb256) (o := .cells #[.int .i64 a0_0, .int .i64 a0_1, .int .i64 a0_2, .slice A0_3 l0_3.length c0_3] 26 (0, 0)) (by (repeat (with_reducible first | apply zqa | apply zqb | apply zqc | refine blk_far ?_ NB256_261.out _)); exact BK256.out) hb); have n1_ := zqi (blk_below (g := gb257) (o := .cells #[.int .i64 a1_0, .int .i64 a1_1, .int .i64 a1_2, .int .i64 a1_3, .int .i64 a1_4, .int .u64 a1_5, .int .u64 a1_6, .int .u64 a1_7, .int .i64 a1_8, .slice A1_9 l1_9.length c1_9] 50 (0, 0)) (by (repeat (with_reducible first | apply zqa | apply zqb | apply zqc | refine blk_far ?_ NB257_261.out _)); exact BK257.out) hb); have n2_ := zqi (blk_below (g := gb258) (o := .cells #[.int .i64 a2_0, .int .i64 a2_1, .int .i64 a2_2, .int .i64 a2_3, .int .i64 a2_4, .int .u64 a2_5, .int .u64 a2_6, .int .u64 a2_7, .int .i64 a2_8, .slice A2_9 l2_9.length c2_9] 50 (0, 0)) (by (repeat (with_reducible first | apply zqa | apply zqb | apply zqc | refine blk_far ?_ NB258_261.out _)); exact BK258.out) hb); have n3_ := zqi (blk_below (g := gb261) (o := .cells #[.int .i64 a1_0, .int .i64 a1_1, .int .i64 a1_2, .int .i64 a1_3, .int .i64 a1_4, .int .u64 a1_5, .int .u64 a1_6, .int .u64 a1_7] 40 (0, 0)) (by exact zqC (blk_set (blk_set (blk_set (blk_set (blk_set (blk_set (blk_set (blk_set BK261.out 0 _) 1 _) 2 _) 3 _) 4 _) 5 _) 6 _) 7 _) (by simp only [List.setIfInBounds_toArray, List.set_cons_zero, List.set_cons_succ])) hb); have n4_ := zqi (below_step (zqn HB.out) hb); have n5_ := zqi (hbox); have n6_ := zqi (zqo hg HB.out); have n7_ := zqi (zqo hg HB.out); have n8_ := zqi ((by rw [hg]; exact Nat.ne_of_lt (blk_lt (g := gb256) (o := .cells #[.int .i64 a0_0, .int .i64 a0_1, .int .i64 a0_2, .slice A0_3 l0_3.length c0_3] 26 (0, 0)) (by (repeat (with_reducible first | apply zqa | apply zqb | apply zqc | refine blk_far ?_ NB256_261.out _)); exact BK256.out)) : gb256 ≠ gb262)); have n9_ := zqi ((by rw [hg]; exact Nat.ne_of_gt (blk_lt (g := gb256) (o := .cells #[.int .i64 a0_0, .int .i64 a0_1, .int .i64 a0_2, .slice A0_3 l0_3.length c0_3] 26 (0, 0)) (by (repeat (with_reducible first | apply zqa | apply zqb | apply zqc | refine blk_far ?_ NB256_261.out _)); exact BK256.out)) : gb262 ≠ gb256)); have n10_ := zqi ((by rw [hg]; exact Nat.ne_of_lt (blk_lt (g := gb257) (o := .cells #[.int .i64 a1_0, .int .i64 a1_1, .int .i64 a1_2, .int .i64 a1_3, .int .i64 a1_4, .int .u64 a1_5, .int .u64 a1_6, .int .u64 a1_7, .int .i64 a1_8, .slice A1_9 l1_9.length c1_9] 50 (0, 0)) (by (repeat (with_reducible first | apply zqa | apply zqb | apply zqc | refine blk_far ?_ NB257_261.out _)); exact BK257.out)) : gb257 ≠ gb262)); have n11_ := zqi ((by rw [hg]; exact Nat.ne_of_gt (blk_lt (g := gb257) (o := .cells #[.int .i64 a1_0, .int .i64 a1_1, .int .i64 a1_2, .int .i64 a1_3, .int .i64 a1_4, .int .u64 a1_5, .int .u64 a1_6, .int .u64 a1_7, .int .i64 a1_8, .slice A1_9 l1_9.length c1_9] 50 (0, 0)) (by (repeat (with_reducible first | apply zqa | apply zqb | apply zqc | refine blk_far ?_ NB257_261.out _)); exact BK257.out)) : gb262 ≠ gb257)); have n12_ := zqi ((by rw [hg]; exact Nat.ne_of_lt (blk_lt (g := gb258) (o := .cells #[.int .i64 a2_0, .int .i64 a2_1, .int .i64 a2_2, .int .i64 a2_3, .int .i64 a2_4, .int .u64 a2_5, .int .u64 a2_6, .int .u64 a2_7, .int .i64 a2_8, .slice A2_9 l2_9.length c2_9] 50 (0, 0)) (by (repeat (with_reducible first | apply zqa | apply zqb | apply zqc | refine blk_far ?_ NB258_261.out _)); exact BK258.out)) : gb258 ≠ gb262)); have n13_ := zqi ((by rw [hg]; exact Nat.ne_of_gt (blk_lt (g := gb258) (o := .cells #[.int .i64 a2_0, .int .i64 a2_1, .int .i64 a2_2, .int .i64 a2_3, .int .i64 a2_4, .int .u64 a2_5, .int .u64 a2_6, .int .u64 a2_7, .int .i64 a2_8, .slice A2_9 l2_9.length c2_9] 50 (0, 0)) (by (repeat (with_reducible first | apply zqa | apply zqb | apply zqc | refine blk_far ?_ NB258_261.out _)); exact BK258.out)) : gb262 ≠ gb258)); have n14_ := zqi ((by rw [hg]; exact Nat.ne_of_lt (blk_lt (g := gb261) (o := .cells #[.int .i64 a1_0, .int .i64 a1_1, .int .i64 a1_2, .int .i64 a1_3, .int .i64 a1_4, .int .u64 a1_5, .int .u64 a1_6, .int .u64 a1_7] 40 (0, 0)) (by exact zqC (blk_set (blk_set (blk_set (blk_set (blk_set (blk_set (blk_set (blk_set BK261.out 0 _) 1 _) 2 _) 3 _) 4 _) 5 _) 6 _) 7 _) (by simp only [List.setIfInBounds_toArray, List.set_cons_zero, List.set_cons_succ]))) : gb261 ≠ gb262)); have n15_ := zqi ((by rw [hg]; exact Nat.ne_of_gt (blk_lt (g := gb261) (o := .cells #[.int .i64 a1_0, .int .i64 a1_1, .int .i64 a1_2, .int .i64 a1_3, .int .i64 a1_4, .int .u64 a1_5, .int .u64 a1_6, .int .u64 a1_7] 40 (0, 0)) (by exact zqC (blk_set (blk_set (blk_set (blk_set (blk_set (blk_set (blk_set (blk_set BK261.out 0 _) 1 _) 2 _) 3 _) 4 _) 5 _) 6 _) 7 _) (by simp only [List.setIfInBounds_toArray, List.set_cons_zero, List.set_cons_succ]))) : gb262 ≠ gb261)); clear BK256; clear BK257; clear BK258; clear BK261; clear HB; have BK256 := n0_; have BK257 := n1_; have BK258 := n2_; have BK261 := n3_; have HB := n4_; have BK262 := n5_; have GW262 := n6_; have GE262 := n7_; have NB256_262 := n8_; have NB262_256 := n9_; have NB257_262 := n10_; have NB262_257 := n11_; have NB258_262 := n12_; have NB262_258 := n13_; have NB261_262 := n14_; have NB262_261 := n15_; clear n0_ n1_ n2_ n3_ n4_ n5_ n6_ n7_ n8_ n9_ n10_ n11_ n12_ n13_ n14_ n15_; clear hb hbox hg; have hnb98 := NB262_256.out; have hnc98 := NB256_262.out; have hnb99 := NB262_257.out; have hnc99 := NB257_262.out; have hnb100 := NB262_258.out; have hnc100 := NB258_262.out; have hnb101 := NB262_261.out; have hnc101 := NB261_262.out; obtain ⟨hcz102_0, hcz102_1, hcz102_2, hcz102_3, hcz102_4, hcz102_5, hcz102_6, hcz102_7, hfz102_0, hfz102_1, hfz102_2, hfz102_3, hfz102_4, hfz102_5, hfz102_6, hfz102_7⟩ := zqz8 BK262.out; obtain ⟨hcz103_0, hcz103_1, hcz103_2, hcz103_3, hcz103_4, hcz103_5, hcz103_6, hcz103_7, hcz103_8, hcz103_9, hfz103_0, hfz103_1, hfz103_2, hfz103_3, hfz103_4, hfz103_5, hfz103_6, hfz103_7, hfz103_8, hfz103_9⟩ := zqz10 BK257.out; obtain ⟨hcz104_0, hcz104_1, hcz104_2, hcz104_3, hcz104_4, hcz104_5, hcz104_6, hcz104_7, hcz104_8, hcz104_9, hfz104_0, hfz104_1, hfz104_2, hfz104_3, hfz104_4, hfz104_5, hfz104_6, hfz104_7, hfz104_8, hfz104_9⟩ := zqz10 BK258.out))
    go_loopg [12, 13, 14] kj5 (fun kq v12 v13 v14 w' => ∃ (x12_2 : Int) (x13_2 : Int) (x14_2 : Int) (x262000_2 : Int) (x262001_2 : Int) (x262002_2 : Int) (x262003_2 : Int) (x262004_2 : Int) (x262005_2 : Int) (x262006_2 : Int) (x262007_2 : Int) (x263000_2 : Int) (x263001_2 : Int) (x263002_2 : Int) (x263003_2 : Int) (x263004_2 : Int) (x263005_2 : Int) (x263006_2 : Int) (x263007_2 : Int), v12 = .int .i64 x12_2 ∧ v13 = .int .i64 x13_2 ∧ v14 = .int .i64 x14_2 ∧ Aside0 (haulierlaw13_BetterWays.l0 kq l3 x12_2 x13_2 x14_2 a0_0 a0_1 a0_2 l0_3 x262000_2 x262001_2 x262002_2 x262003_2 x262004_2 x262005_2 x262006_2 x262007_2 x263000_2 x263001_2 x263002_2 x263003_2 x263004_2 x263005_2 x263006_2 x263007_2 = some r) ∧ Aside0 (kq ≤ kj5) ∧ Aside0 (w'.heap[gb256]? = some (.cells #[.int .i64 a0_0, .int .i64 a0_1, .int .i64 a0_2, (.slice A0_3 l0_3.length c0_3)] 26 (0, 0))) ∧ Aside0 (w'.heap[gb257]? = some (.cells #[.int .i64 a1_0, .int .i64 a1_1, .int .i64 a1_2, .int .i64 a1_3, .int .i64 a1_4, .int .u64 a1_5, .int .u64 a1_6, .int .u64 a1_7, .int .i64 a1_8, (.slice A1_9 l1_9.length c1_9)] 50 (0, 0))) ∧ Aside0 (w'.heap[gb258]? = some (.cells #[.int .i64 a2_0, .int .i64 a2_1, .int .i64 a2_2, .int .i64 a2_3, .int .i64 a2_4, .int .u64 a2_5, .int .u64 a2_6, .int .u64 a2_7, .int .i64 a2_8, (.slice A2_9 l2_9.length c2_9)] 50 (0, 0))) ∧ Aside0 (w'.heap[gb261]? = some (.cells #[.int .i64 x262000_2, .int .i64 x262001_2, .int .i64 x262002_2, .int .i64 x262003_2, .int .i64 x262004_2, .int .u64 x262005_2, .int .u64 x262006_2, .int .u64 x262007_2] 40 (0, 0))) ∧ Aside0 (w'.heap[gb262]? = some (.cells #[.int .i64 x263000_2, .int .i64 x263001_2, .int .i64 x263002_2, .int .i64 x263003_2, .int .i64 x263004_2, .int .u64 x263005_2, .int .u64 x263006_2, .int .u64 x263007_2] 40 (0, 0))) ∧ Aside0 (Below w.heap.size w w'))
    case atStart => exact ⟨(a1_8), (a2_8), (0), (a1_0), (a1_1), (a1_2), (a1_3), (a1_4), (a1_5), (a1_6), (a1_7), (a2_0), (a2_1), (a2_2), (a2_3), (a2_4), (a2_5), (a2_6), (a2_7), (by first | rfl | (simp; done) | (simp [*]; done)), (by first | rfl | (simp; done) | (simp [*]; done)), (by first | rfl | (simp; done) | (simp [*]; done)), H', ⟨Nat.le_refl _⟩, ⟨by (repeat (with_reducible first | apply zqa | apply zqb | apply zqc | refine blk_far ?_ NB256_262.out _)); exact BK256.out⟩, ⟨by (repeat (with_reducible first | apply zqa | apply zqb | apply zqc | refine blk_far ?_ NB257_262.out _)); exact BK257.out⟩, ⟨by (repeat (with_reducible first | apply zqa | apply zqb | apply zqc | refine blk_far ?_ NB258_262.out _)); exact BK258.out⟩, ⟨by (repeat (with_reducible first | apply zqa | apply zqb | apply zqc | refine blk_far ?_ NB261_262.out _)); exact BK261.out⟩, ⟨by exact zqC (blk_set (blk_set (blk_set (blk_set (blk_set (blk_set (blk_set (blk_set BK262.out 0 _) 1 _) 2 _) 3 _) 4 _) 5 _) 6 _) 7 _) (by simp only [List.setIfInBounds_toArray, List.set_cons_zero, List.set_cons_succ])⟩, ⟨by repeat (first | (with_reducible first | exact HB.out | apply zqg | apply zqf | apply zqh | refine below_set ?_ GE256.out | refine below_set ?_ GE257.out | refine below_set ?_ GE258.out | refine below_set ?_ GE261.out | refine below_set ?_ GE262.out) | exact HB.out)⟩⟩
    case round =>
     clear H'
     try clear c1
     try clear c2
     try clear p2
     try clear c3
     try clear c4
     try clear c5
     try clear c6
     try clear c7
     try clear c8
     try clear c9
     try clear c10
     try clear c24
     try clear c25
     try clear c26
     try clear c31
     try clear c31b0
     try clear c32
     try clear c33
     try clear c35
     try clear c40
     try clear c40b0
     try clear c41
     try clear c42
     try clear c44
     try clear c49
     try clear c49b0
     try clear c49b1
     try clear c50
     try clear c51
     try clear c53
     try clear c59
     try clear c59b0
     try clear c60
     try clear c61
     try clear c63
     try clear c69
     try clear c70
     try clear c72
     try clear c79
     try clear c80
     try clear c82
     try clear c86
     try clear c87
     try clear c88
     try clear c91
     try clear c92
     try clear c93
     try clear c95
     try clear c98
     try clear c99
     try clear c100
     try clear c101
     try clear hcz102_0
     try clear hcz102_1
     try clear hcz102_2
     try clear hcz102_3
     try clear hcz102_4
     try clear hcz102_5
     try clear hcz102_6
     try clear hcz102_7
     try clear hcz103_0
     try clear hcz103_1
     try clear hcz103_2
     try clear hcz103_3
     try clear hcz103_4
     try clear hcz103_5
     try clear hcz103_6
     try clear hcz103_7
     try clear hcz103_8
     try clear hcz103_9
     try clear hcz104_0
     try clear hcz104_1
     try clear hcz104_2
     try clear hcz104_3
     try clear hcz104_4
     try clear hcz104_5
     try clear hcz104_6
     try clear hcz104_7
     try clear hcz104_8
     try clear hcz104_9
     try clear hcz15_0
     try clear hcz15_1
     try clear hcz15_2
     try clear hcz15_3
     try clear hcz19_0
     try clear hcz19_1
     try clear hcz19_2
     try clear hcz19_3
     try clear hcz25_0
     try clear hcz25_1
     try clear hcz25_2
     try clear hcz25_3
     try clear hcz27_0
     try clear hcz27_1
     try clear hcz27_2
     try clear hcz27_3
     try clear hcz27_4
     try clear hcz27_5
     try clear hcz27_6
     try clear hcz27_7
     try clear hcz27_8
     try clear hcz27_9
     try clear hcz28_0
     try clear hcz28_1
     try clear hcz28_2
     try clear hcz28_3
     try clear hcz28_4
     try clear hcz28_5
     try clear hcz28_6
     try clear hcz28_7
     try clear hcz28_8
     try clear hcz28_9
     try clear hcz30_0
     try clear hcz30_1
     try clear hcz30_2
     try clear hcz30_3
     try clear hcz30_4
     try clear hcz30_5
     try clear hcz30_6
     try clear hcz30_7
     try clear hcz30_8
     try clear hcz30_9
     try clear hcz34_0
     try clear hcz34_1
     try clear hcz34_2
     try clear hcz34_3
     try clear hcz36_0
     try clear hcz36_1
     try clear hcz36_2
     try clear hcz36_3
     try clear hcz36_4
     try clear hcz36_5
     try clear hcz36_6
     try clear hcz36_7
     try clear hcz36_8
     try clear hcz36_9
     try clear hcz37_0
     try clear hcz37_1
     try clear hcz37_2
     try clear hcz37_3
     try clear hcz37_4
     try clear hcz37_5
     try clear hcz37_6
     try clear hcz37_7
     try clear hcz37_8
     try clear hcz37_9
     try clear hcz39_0
     try clear hcz39_1
     try clear hcz39_2
     try clear hcz39_3
     try clear hcz39_4
     try clear hcz39_5
     try clear hcz39_6
     try clear hcz39_7
     try clear hcz39_8
     try clear hcz39_9
     try clear hcz43_0
     try clear hcz43_1
     try clear hcz43_2
     try clear hcz43_3
     try clear hcz45_0
     try clear hcz45_1
     try clear hcz45_2
     try clear hcz45_3
     try clear hcz45_4
     try clear hcz45_5
     try clear hcz45_6
     try clear hcz45_7
     try clear hcz45_8
     try clear hcz45_9
     try clear hcz46_0
     try clear hcz46_1
     try clear hcz46_2
     try clear hcz46_3
     try clear hcz46_4
     try clear hcz46_5
     try clear hcz46_6
     try clear hcz46_7
     try clear hcz46_8
     try clear hcz46_9
     try clear hcz48_0
     try clear hcz48_1
     try clear hcz48_2
     try clear hcz48_3
     try clear hcz48_4
     try clear hcz48_5
     try clear hcz48_6
     try clear hcz48_7
     try clear hcz48_8
     try clear hcz48_9
     try clear hcz52_0
     try clear hcz52_1
     try clear hcz52_2
     try clear hcz52_3
     try clear hcz54_0
     try clear hcz54_1
     try clear hcz54_2
     try clear hcz54_3
     try clear hcz54_4
     try clear hcz54_5
     try clear hcz54_6
     try clear hcz54_7
     try clear hcz54_8
     try clear hcz54_9
     try clear hcz55_0
     try clear hcz55_1
     try clear hcz55_2
     try clear hcz55_3
     try clear hcz55_4
     try clear hcz55_5
     try clear hcz55_6
     try clear hcz55_7
     try clear hcz55_8
     try clear hcz55_9
     try clear hcz57_0
     try clear hcz57_1
     try clear hcz57_2
     try clear hcz57_3
     try clear hcz57_4
     try clear hcz57_5
     try clear hcz57_6
     try clear hcz57_7
     try clear hcz57_8
     try clear hcz57_9
     try clear hcz58_0
     try clear hcz58_1
     try clear hcz58_2
     try clear hcz58_3
     try clear hcz62_0
     try clear hcz62_1
     try clear hcz62_2
     try clear hcz62_3
     try clear hcz64_0
     try clear hcz64_1
     try clear hcz64_2
     try clear hcz64_3
     try clear hcz64_4
     try clear hcz64_5
     try clear hcz64_6
     try clear hcz64_7
     try clear hcz64_8
     try clear hcz64_9
     try clear hcz65_0
     try clear hcz65_1
     try clear hcz65_2
     try clear hcz65_3
     try clear hcz65_4
     try clear hcz65_5
     try clear hcz65_6
     try clear hcz65_7
     try clear hcz65_8
     try clear hcz65_9
     try clear hcz67_0
     try clear hcz67_1
     try clear hcz67_2
     try clear hcz67_3
     try clear hcz67_4
     try clear hcz67_5
     try clear hcz67_6
     try clear hcz67_7
     try clear hcz67_8
     try clear hcz67_9
     try clear hcz68_0
     try clear hcz68_1
     try clear hcz68_2
     try clear hcz68_3
     try clear hcz71_0
     try clear hcz71_1
     try clear hcz71_2
     try clear hcz71_3
     try clear hcz73_0
     try clear hcz73_1
     try clear hcz73_2
     try clear hcz73_3
     try clear hcz73_4
     try clear hcz73_5
     try clear hcz73_6
     try clear hcz73_7
     try clear hcz73_8
     try clear hcz73_9
     try clear hcz74_0
     try clear hcz74_1
     try clear hcz74_2
     try clear hcz74_3
     try clear hcz74_4
     try clear hcz74_5
     try clear hcz74_6
     try clear hcz74_7
     try clear hcz74_8
     try clear hcz74_9
     try clear hcz76_0
     try clear hcz76_1
     try clear hcz76_2
     try clear hcz76_3
     try clear hcz76_4
     try clear hcz76_5
     try clear hcz76_6
     try clear hcz76_7
     try clear hcz76_8
     try clear hcz76_9
     try clear hcz77_0
     try clear hcz77_1
     try clear hcz77_2
     try clear hcz77_3
     try clear hcz78_0
     try clear hcz78_1
     try clear hcz78_2
     try clear hcz78_3
     try clear hcz78_4
     try clear hcz78_5
     try clear hcz78_6
     try clear hcz78_7
     try clear hcz78_8
     try clear hcz78_9
     try clear hcz81_0
     try clear hcz81_1
     try clear hcz81_2
     try clear hcz81_3
     try clear hcz83_0
     try clear hcz83_1
     try clear hcz83_2
     try clear hcz83_3
     try clear hcz83_4
     try clear hcz83_5
     try clear hcz83_6
     try clear hcz83_7
     try clear hcz83_8
     try clear hcz83_9
     try clear hcz84_0
     try clear hcz84_1
     try clear hcz84_2
     try clear hcz84_3
     try clear hcz84_4
     try clear hcz84_5
     try clear hcz84_6
     try clear hcz84_7
     try clear hcz84_8
     try clear hcz84_9
     try clear hcz89_0
     try clear hcz89_1
     try clear hcz89_2
     try clear hcz89_3
     try clear hcz89_4
     try clear hcz89_5
     try clear hcz89_6
     try clear hcz89_7
     try clear hcz89_8
     try clear hcz89_9
     try clear hcz94_0
     try clear hcz94_1
     try clear hcz94_2
     try clear hcz94_3
     try clear hcz94_4
     try clear hcz94_5
     try clear hcz94_6
     try clear hcz94_7
     try clear hcz96_0
     try clear hcz96_1
     try clear hcz96_2
     try clear hcz96_3
     try clear hcz96_4
     try clear hcz96_5
     try clear hcz96_6
     try clear hcz96_7
     try clear hcz96_8
     try clear hcz96_9
     try clear hfz102_0
     try clear hfz102_1
     try clear hfz102_2
     try clear hfz102_3
     try clear hfz102_4
     try clear hfz102_5
     try clear hfz102_6
     try clear hfz102_7
     try clear hfz103_0
     try clear hfz103_1
     try clear hfz103_2
     try clear hfz103_3
     try clear hfz103_4
     try clear hfz103_5
     try clear hfz103_6
     try clear hfz103_7
     try clear hfz103_8
     try clear hfz103_9
     try clear hfz104_0
     try clear hfz104_1
     try clear hfz104_2
     try clear hfz104_3
     try clear hfz104_4
     try clear hfz104_5
     try clear hfz104_6
     try clear hfz104_7
     try clear hfz104_8
     try clear hfz104_9
     try clear hfz15_0
     try clear hfz15_1
     try clear hfz15_2
     try clear hfz15_3
     try clear hfz19_0
     try clear hfz19_1
     try clear hfz19_2
     try clear hfz19_3
     try clear hfz25_0
     try clear hfz25_1
     try clear hfz25_2
     try clear hfz25_3
     try clear hfz27_0
     try clear hfz27_1
     try clear hfz27_2
     try clear hfz27_3
     try clear hfz27_4
     try clear hfz27_5
     try clear hfz27_6
     try clear hfz27_7
     try clear hfz27_8
     try clear hfz27_9
     try clear hfz28_0
     try clear hfz28_1
     try clear hfz28_2
     try clear hfz28_3
     try clear hfz28_4
     try clear hfz28_5
     try clear hfz28_6
     try clear hfz28_7
     try clear hfz28_8
     try clear hfz28_9
     try clear hfz30_0
     try clear hfz30_1
     try clear hfz30_2
     try clear hfz30_3
     try clear hfz30_4
     try clear hfz30_5
     try clear hfz30_6
     try clear hfz30_7
     try clear hfz30_8
     try clear hfz30_9
     try clear hfz34_0
     try clear hfz34_1
     try clear hfz34_2
     try clear hfz34_3
     try clear hfz36_0
     try clear hfz36_1
     try clear hfz36_2
     try clear hfz36_3
     try clear hfz36_4
     try clear hfz36_5
     try clear hfz36_6
     try clear hfz36_7
     try clear hfz36_8
     try clear hfz36_9
     try clear hfz37_0
     try clear hfz37_1
     try clear hfz37_2
     try clear hfz37_3
     try clear hfz37_4
     try clear hfz37_5
     try clear hfz37_6
     try clear hfz37_7
     try clear hfz37_8
     try clear hfz37_9
     try clear hfz39_0
     try clear hfz39_1
     try clear hfz39_2
     try clear hfz39_3
     try clear hfz39_4
     try clear hfz39_5
     try clear hfz39_6
     try clear hfz39_7
     try clear hfz39_8
     try clear hfz39_9
     try clear hfz43_0
     try clear hfz43_1
     try clear hfz43_2
     try clear hfz43_3
     try clear hfz45_0
     try clear hfz45_1
     try clear hfz45_2
     try clear hfz45_3
     try clear hfz45_4
     try clear hfz45_5
     try clear hfz45_6
     try clear hfz45_7
     try clear hfz45_8
     try clear hfz45_9
     try clear hfz46_0
     try clear hfz46_1
     try clear hfz46_2
     try clear hfz46_3
     try clear hfz46_4
     try clear hfz46_5
     try clear hfz46_6
     try clear hfz46_7
     try clear hfz46_8
     try clear hfz46_9
     try clear hfz48_0
     try clear hfz48_1
     try clear hfz48_2
     try clear hfz48_3
     try clear hfz48_4
     try clear hfz48_5
     try clear hfz48_6
     try clear hfz48_7
     try clear hfz48_8
     try clear hfz48_9
     try clear hfz52_0
     try clear hfz52_1
     try clear hfz52_2
     try clear hfz52_3
     try clear hfz54_0
     try clear hfz54_1
     try clear hfz54_2
     try clear hfz54_3
     try clear hfz54_4
     try clear hfz54_5
     try clear hfz54_6
     try clear hfz54_7
     try clear hfz54_8
     try clear hfz54_9
     try clear hfz55_0
     try clear hfz55_1
     try clear hfz55_2
     try clear hfz55_3
     try clear hfz55_4
     try clear hfz55_5
     try clear hfz55_6
     try clear hfz55_7
     try clear hfz55_8
     try clear hfz55_9
     try clear hfz57_0
     try clear hfz57_1
     try clear hfz57_2
     try clear hfz57_3
     try clear hfz57_4
     try clear hfz57_5
     try clear hfz57_6
     try clear hfz57_7
     try clear hfz57_8
     try clear hfz57_9
     try clear hfz58_0
     try clear hfz58_1
     try clear hfz58_2
     try clear hfz58_3
     try clear hfz62_0
     try clear hfz62_1
     try clear hfz62_2
     try clear hfz62_3
     try clear hfz64_0
     try clear hfz64_1
     try clear hfz64_2
     try clear hfz64_3
     try clear hfz64_4
     try clear hfz64_5
     try clear hfz64_6
     try clear hfz64_7
     try clear hfz64_8
     try clear hfz64_9
     try clear hfz65_0
     try clear hfz65_1
     try clear hfz65_2
     try clear hfz65_3
     try clear hfz65_4
     try clear hfz65_5
     try clear hfz65_6
     try clear hfz65_7
     try clear hfz65_8
     try clear hfz65_9
     try clear hfz67_0
     try clear hfz67_1
     try clear hfz67_2
     try clear hfz67_3
     try clear hfz67_4
     try clear hfz67_5
     try clear hfz67_6
     try clear hfz67_7
     try clear hfz67_8
     try clear hfz67_9
     try clear hfz68_0
     try clear hfz68_1
     try clear hfz68_2
     try clear hfz68_3
     try clear hfz71_0
     try clear hfz71_1
     try clear hfz71_2
     try clear hfz71_3
     try clear hfz73_0
     try clear hfz73_1
     try clear hfz73_2
     try clear hfz73_3
     try clear hfz73_4
     try clear hfz73_5
     try clear hfz73_6
     try clear hfz73_7
     try clear hfz73_8
     try clear hfz73_9
     try clear hfz74_0
     try clear hfz74_1
     try clear hfz74_2
     try clear hfz74_3
     try clear hfz74_4
     try clear hfz74_5
     try clear hfz74_6
     try clear hfz74_7
     try clear hfz74_8
     try clear hfz74_9
     try clear hfz76_0
     try clear hfz76_1
     try clear hfz76_2
     try clear hfz76_3
     try clear hfz76_4
     try clear hfz76_5
     try clear hfz76_6
     try clear hfz76_7
     try clear hfz76_8
     try clear hfz76_9
     try clear hfz77_0
     try clear hfz77_1
     try clear hfz77_2
     try clear hfz77_3
     try clear hfz78_0
     try clear hfz78_1
     try clear hfz78_2
     try clear hfz78_3
     try clear hfz78_4
     try clear hfz78_5
     try clear hfz78_6
     try clear hfz78_7
     try clear hfz78_8
     try clear hfz78_9
     try clear hfz81_0
     try clear hfz81_1
     try clear hfz81_2
     try clear hfz81_3
     try clear hfz83_0
     try clear hfz83_1
     try clear hfz83_2
     try clear hfz83_3
     try clear hfz83_4
     try clear hfz83_5
     try clear hfz83_6
     try clear hfz83_7
     try clear hfz83_8
     try clear hfz83_9
     try clear hfz84_0
     try clear hfz84_1
     try clear hfz84_2
     try clear hfz84_3
     try clear hfz84_4
     try clear hfz84_5
     try clear hfz84_6
     try clear hfz84_7
     try clear hfz84_8
     try clear hfz84_9
     try clear hfz89_0
     try clear hfz89_1
     try clear hfz89_2
     try clear hfz89_3
     try clear hfz89_4
     try clear hfz89_5
     try clear hfz89_6
     try clear hfz89_7
     try clear hfz89_8
     try clear hfz89_9
     try clear hfz94_0
     try clear hfz94_1
     try clear hfz94_2
     try clear hfz94_3
     try clear hfz94_4
     try clear hfz94_5
     try clear hfz94_6
     try clear hfz94_7
     try clear hfz96_0
     try clear hfz96_1
     try clear hfz96_2
     try clear hfz96_3
     try clear hfz96_4
     try clear hfz96_5
     try clear hfz96_6
     try clear hfz96_7
     try clear hfz96_8
     try clear hfz96_9
     obtain ⟨x12_2, x13_2, x14_2, x262000_2, x262001_2, x262002_2, x262003_2, x262004_2, x262005_2, x262006_2, x262007_2, x263000_2, x263001_2, x263002_2, x263003_2, x263004_2, x263005_2, x263006_2, x263007_2, rfl, rfl, rfl, HA, HK2, BK256, BK257, BK258, BK261, BK262, HB⟩ := hrel
     cases gk with
     | zero => exact absurd HA.out (by simp [haulierlaw13_BetterWays.l0])
     | succ k2 =>
      have H := HA.out
      clear HA
      simp only [haulierlaw13_BetterWays.l0] at H
      by_cases c105 : x14_2 < (l3.length : Int)
      ·
       rw [if_pos c105] at H
       have c105b0 : decide (x14_2 < (l3.length : Int)) = true := decide_eq_true c105
       clear c105
       by_cases c106 : 0 ≤ x14_2
       ·
        rw [if_pos c106] at H
        have c106b0 : decide (0 ≤ x14_2) = true := decide_eq_true c106
        clear c106
        replace H := Option.bind_eq_some_iff.mp H
        obtain ⟨⟨t268, t269, t270, t271, t272, t273, t274, t275, t276, t277⟩, A1070, H⟩ := H
        replace H : ((state_Move.f k2 a0_0 a0_1 a0_2 l0_3 x262000_2 x262001_2 x262002_2 x262003_2 x262004_2 x262005_2 x262006_2 x262007_2 (rd l3 x14_2)).bind fun bt280 => (if t277 = true then (if bt280.2.2.2.2.2.2.2.2.2 = true then (haulierlaw13_BetterWays.l0 k2 l3 (wrap64 (x12_2 + bt280.2.2.2.2.2.2.2.2.1)) (wrap64 (x13_2 + t276)) (wrap64 (x14_2 + 1)) a0_0 a0_1 a0_2 l0_3 bt280.1 bt280.2.1 bt280.2.2.1 bt280.2.2.2.1 bt280.2.2.2.2.1 bt280.2.2.2.2.2.1 bt280.2.2.2.2.2.2.1 bt280.2.2.2.2.2.2.2.1 t268 t269 t270 t271 t272 t273 t274 t275) else (none)) else (some true))) = some r := H
        have A107 := zqi A1070
        clear A1070
        replace H := Option.bind_eq_some_iff.mp H
        obtain ⟨⟨t280, t281, t282, t283, t284, t285, t286, t287, t288, t289⟩, A1080, H⟩ := H
        replace H : (if t277 = true then (if t289 = true then (haulierlaw13_BetterWays.l0 k2 l3 (wrap64 (x12_2 + t288)) (wrap64 (x13_2 + t276)) (wrap64 (x14_2 + 1)) a0_0 a0_1 a0_2 l0_3 t280 t281 t282 t283 t284 t285 t286 t287 t268 t269 t270 t271 t272 t273 t274 t275) else (none)) else (some true)) = some r := H
        have A108 := zqi A1080
        clear A1080
        by_cases c109 : t277 = true
        ·
         subst c109
         have H1 : (if t289 = true then (haulierlaw13_BetterWays.l0 k2 l3 (wrap64 (x12_2 + t288)) (wrap64 (x13_2 + t276)) (wrap64 (x14_2 + 1)) a0_0 a0_1 a0_2 l0_3 t280 t281 t282 t283 t284 t285 t286 t287 t268 t269 t270 t271 t272 t273 t274 t275) else (none)) = some r := by rw [if_pos rfl] at H; exact H
         clear H
         have H := H1
         clear H1
         by_cases c110 : t289 = true
         ·
          subst c110
          have H1 : (haulierlaw13_BetterWays.l0 k2 l3 (wrap64 (x12_2 + t288)) (wrap64 (x13_2 + t276)) (wrap64 (x14_2 + 1)) a0_0 a0_1 a0_2 l0_3 t280 t281 t282 t283 t284 t285 t286 t287 t268 t269 t270 t271 t272 t273 t274 t275) = some r := by rw [if_pos rfl] at H; exact H
          clear H
          have H := H1
          clear H1
          have H' := zqi H
          clear H
          try go_wp2
          have n0_ := zqi (zqb BK256.out)
          have n1_ := zqi (zqb BK257.out)
          have n2_ := zqi (zqb BK258.out)
          have n3_ := zqi (zqb BK261.out)
          have n4_ := zqi (zqb BK262.out)
          have n5_ := zqi (zqh HB.out)
          clear BK256
          clear BK257
          clear BK258
          clear BK261
          clear BK262
          clear HB
          have BK256 := n0_
          have BK257 := n1_
          have BK258 := n2_
          have BK261 := n3_
          have BK262 := n4_
          have HB := n5_
          clear n0_ n1_ n2_ n3_ n4_ n5_
          have p267 : 0 ≤ (x14_2 : Int) := of_decide_eq_true (by first | (with_reducible assumption) | assumption)
          have q267 : x14_2 < (l3.length : Int) := of_decide_eq_true (by first | (with_reducible assumption) | assumption)
          obtain ⟨ad267, e267, hx267_0⟩ := Kd.at_int HR3.out x14_2 p267 q267
          have hw267_0 := hx267_0
          cases e267
          replace hx267_0 := (HB.out.cell (World.block_lt_of_cell? w _ hx267_0)).trans hx267_0
          replace p267 := eq_true p267
          replace q267 := eq_true q267
          refine start_ (n := 15) (S := fun w' => w'.cell? ⟨gb256, 0, none⟩ = some (.int .i64 a0_0) ∧ w'.cell? ⟨gb256, 1, none⟩ = some (.int .i64 a0_1) ∧ w'.cell? ⟨gb256, 2, none⟩ = some (.int .i64 a0_2) ∧ w'.cell? ⟨gb256, 3, none⟩ = some (.slice A0_3 l0_3.length c0_3) ∧ w'.cell? ⟨gb262, 0, none⟩ = some (.int .i64 x263000_2) ∧ w'.cell? ⟨gb262, 1, none⟩ = some (.int .i64 x263001_2) ∧ w'.cell? ⟨gb262, 2, none⟩ = some (.int .i64 x263002_2) ∧ w'.cell? ⟨gb262, 3, none⟩ = some (.int .i64 x263003_2) ∧ w'.cell? ⟨gb262, 4, none⟩ = some (.int .i64 x263004_2) ∧ w'.cell? ⟨gb262, 5, none⟩ = some (.int .u64 x263005_2) ∧ w'.cell? ⟨gb262, 6, none⟩ = some (.int .u64 x263006_2) ∧ w'.cell? ⟨gb262, 7, none⟩ = some (.int .u64 x263007_2) ∧ w'.cell? (ad267.add (x14_2).toNat) = some (.int .i64 (rd l3 x14_2))) (ds := []) (zqB 15 0) (by kernel_rfl) rfl rfl ⟨(zqe BK256.out 0).trans rfl, (zqe BK256.out 1).trans rfl, (zqe BK256.out 2).trans rfl, (zqe BK256.out 3).trans rfl, (zqe BK262.out 0).trans rfl, (zqe BK262.out 1).trans rfl, (zqe BK262.out 2).trans rfl, (zqe BK262.out 3).trans rfl, (zqe BK262.out 4).trans rfl, (zqe BK262.out 5).trans rfl, (zqe BK262.out 6).trans rfl, (zqe BK262.out 7).trans rfl, ((HB.out.cell (World.block_lt_of_cell? w _ hw267_0)).trans hw267_0)⟩ (fun hHeld => ?_); refine with_tabW haulierlaw13_BetterWays.tab11 haulierlaw13_BetterWays.bits11 (fun HT_ HW_ => ?_)
          generalize wr.drew = w111 at BK256 BK257 BK258 BK261 BK262 HB hx267_0 hHeld ⊢
          refine zqp 2 (some 96) (zqB 15 4) (any_of HT_.out (by kernel_rfl)) (h := ?_)
          refine zqp 3 (some 97) (zqB 15 12) (any_of HT_.out (by kernel_rfl)) (h := ?_)
          refine zqp 4 (some 98) (zqB 15 28) (any_of HT_.out (by kernel_rfl)) (h := ?_)
          refine zqt 0 (some 94) (zqB 15 29) (take_ofW HT_.out HW_.out (by kernel_rfl)) hHeld (h := ?_)
          refine zqt 1 (some 95) (zqB 15 31) (take_ofW HT_.out HW_.out (by kernel_rfl)) hHeld (h := ?_)
          refine zqt 5 (some 99) (zqB 15 63) (take_ofW HT_.out HW_.out (by kernel_rfl)) hHeld (h := ?_)
          refine join_ (σ := Nat) 3 (zqB 15 4095) (fun s_ => [(100, .tuple #[.agg #[.int .i64 t268, .int .i64 t269, .int .i64 t270, .int .i64 t271, .int .i64 t272, .int .u64 t273, .int .u64 t274, .int .u64 t275], .int .i64 t276, .bool true]), (15, .pointer (some ⟨s_, 0, none⟩)), (93, .tuple #[.agg #[.int .i64 t268, .int .i64 t269, .int .i64 t270, .int .i64 t271, .int .i64 t272, .int .u64 t273, .int .u64 t274, .int .u64 t275], .int .i64 t276, .bool true]), (101, .agg #[.int .i64 t268, .int .i64 t269, .int .i64 t270, .int .i64 t271, .int .i64 t272, .int .u64 t273, .int .u64 t274, .int .u64 t275]), (102, .int .i64 t276), (103, .bool true)]) (fun s_ w' => (w'.cell? ⟨gb256, 0, none⟩ = some (.int .i64 a0_0) ∧ w'.cell? ⟨gb256, 1, none⟩ = some (.int .i64 a0_1) ∧ w'.cell? ⟨gb256, 2, none⟩ = some (.int .i64 a0_2) ∧ w'.cell? ⟨gb256, 3, none⟩ = some (.slice A0_3 l0_3.length c0_3) ∧ w'.cell? ⟨gb262, 0, none⟩ = some (.int .i64 x263000_2) ∧ w'.cell? ⟨gb262, 1, none⟩ = some (.int .i64 x263001_2) ∧ w'.cell? ⟨gb262, 2, none⟩ = some (.int .i64 x263002_2) ∧ w'.cell? ⟨gb262, 3, none⟩ = some (.int .i64 x263003_2) ∧ w'.cell? ⟨gb262, 4, none⟩ = some (.int .i64 x263004_2) ∧ w'.cell? ⟨gb262, 5, none⟩ = some (.int .u64 x263005_2) ∧ w'.cell? ⟨gb262, 6, none⟩ = some (.int .u64 x263006_2) ∧ w'.cell? ⟨gb262, 7, none⟩ = some (.int .u64 x263007_2) ∧ w'.cell? (ad267.add (x14_2).toNat) = some (.int .i64 (rd l3 x14_2))) ∧ (w'.heap[gb256]? = some (.cells #[.int .i64 a0_0, .int .i64 a0_1, .int .i64 a0_2, .slice A0_3 l0_3.length c0_3] 26 (0, 0))) ∧ (w'.heap[gb257]? = some (.cells #[.int .i64 a1_0, .int .i64 a1_1, .int .i64 a1_2, .int .i64 a1_3, .int .i64 a1_4, .int .u64 a1_5, .int .u64 a1_6, .int .u64 a1_7, .int .i64 a1_8, .slice A1_9 l1_9.length c1_9] 50 (0, 0))) ∧ (w'.heap[gb258]? = some (.cells #[.int .i64 a2_0, .int .i64 a2_1, .int .i64 a2_2, .int .i64 a2_3, .int .i64 a2_4, .int .u64 a2_5, .int .u64 a2_6, .int .u64 a2_7, .int .i64 a2_8, .slice A2_9 l2_9.length c2_9] 50 (0, 0))) ∧ (w'.heap[gb261]? = some (.cells #[.int .i64 x262000_2, .int .i64 x262001_2, .int .i64 x262002_2, .int .i64 x262003_2, .int .i64 x262004_2, .int .u64 x262005_2, .int .u64 x262006_2, .int .u64 x262007_2] 40 (0, 0))) ∧ (w'.heap[gb262]? = some (.cells #[.int .i64 x263000_2, .int .i64 x263001_2, .int .i64 x263002_2, .int .i64 x263003_2, .int .i64 x263004_2, .int .u64 x263005_2, .int .u64 x263006_2, .int .u64 x263007_2] 40 (0, 0))) ∧ (w'.heap[s_]? = some (.cells #[.int .i64 0, .int .i64 0, .int .i64 0, .int .i64 0, .int .i64 0, .int .u64 0, .int .u64 0, .int .u64 0] 40 (0, 0))) ∧ (w.heap.size ≤ s_) ∧ (w.heap.size ≤ s_) ∧ (gb256 ≠ s_) ∧ (s_ ≠ gb256) ∧ (gb257 ≠ s_) ∧ (s_ ≠ gb257) ∧ (gb258 ≠ s_) ∧ (s_ ≠ gb258) ∧ (gb261 ≠ s_) ∧ (s_ ≠ gb261) ∧ (gb262 ≠ s_) ∧ (s_ ≠ gb262) ∧ (Below w.heap.size w w')) ?_ ?_
          rotate_left
          ·
           intro hCont
           refine two_ (i := 6) (j := 11) (Ni := some 100) (Nj := some 15) (zqB 15 127) (zqB 15 2111) rfl rfl rfl rfl (two_of HT_.out (by kernel_rfl)) (by decide) (by decide) (fun K hK => ?_) (fun K hK => ?_)
           ·
            skip
            refine goes_ Try.func22 (by kernel_rfl) rfl #[.agg #[.int .i64 a0_0, .int .i64 a0_1, .int .i64 a0_2, .slice A0_3 l0_3.length c0_3], .agg #[.int .i64 x263000_2, .int .i64 x263001_2, .int .i64 x263002_2, .int .i64 x263003_2, .int .i64 x263004_2, .int .u64 x263005_2, .int .u64 x263006_2, .int .u64 x263007_2], .int .i64 (rd l3 x14_2)] (by rfl) rfl rfl (by (try simp only [List.map_toArray, List.map_cons, List.map_nil]); first | done | rfl | (simp only [List.length_drop, List.length_take]; rfl)) ?_
            with_reducible refine (state_Move.calls k2 a0_0 a0_1 a0_2 _ _ l0_3 x263000_2 x263001_2 x263002_2 x263003_2 x263004_2 x263005_2 x263006_2 x263007_2 (rd l3 x14_2) t268 t269 t270 t271 t272 t273 t274 t275 t276 true _ ?side1 ?side2 A107.out).mono ?_
            (case side1 => repeat (first | exact (Kd.C_below HR0_3.out HB.out) | (with_reducible refine Kd.C_alloc ?_ _) | (with_reducible refine Kd.C_drewN ?_ _) | (with_reducible refine Kd.C_drew ?_)))
            (case side2 => exact HC0_3.out)
            rintro e w112 ⟨rfl, hb⟩
            refine ⟨_, rfl, ?_⟩
            have n0_ := zqi (zqy BK256.out hb)
            have n1_ := zqi (zqy BK257.out hb)
            have n2_ := zqi (zqy BK258.out hb)
            have n3_ := zqi (zqy BK261.out hb)
            have n4_ := zqi (zqy BK262.out hb)
            have n5_ := zqi (below_step (zqn HB.out) hb)
            clear BK256
            clear BK257
            clear BK258
            clear BK261
            clear BK262
            clear HB
            have BK256 := n0_
            have BK257 := n1_
            have BK258 := n2_
            have BK261 := n3_
            have BK262 := n4_
            have HB := n5_
            clear n0_ n1_ n2_ n3_ n4_ n5_
            (try clear hb)
            (try clear hb2)
            (try clear hk)
            (try clear hi)
            refine hK.out _ _ ⟨(zqe BK256.out 0).trans rfl, (zqe BK256.out 1).trans rfl, (zqe BK256.out 2).trans rfl, (zqe BK256.out 3).trans rfl, (zqe BK262.out 0).trans rfl, (zqe BK262.out 1).trans rfl, (zqe BK262.out 2).trans rfl, (zqe BK262.out 3).trans rfl, (zqe BK262.out 4).trans rfl, (zqe BK262.out 5).trans rfl, (zqe BK262.out 6).trans rfl, (zqe BK262.out 7).trans rfl, ((HB.out.cell (World.block_lt_of_cell? w _ hw267_0)).trans hw267_0)⟩ (fun hHeld => ?_)
            clear hK K
            refine norm_ (a' := ?_) ?_ ?_
            rotate_left
            ·
             show Act.put _ (some 100) _ = _
             simp only [Act.put, List.setIfInBounds_toArray, List.set_cons_zero, List.set_cons_succ, i64_w, i32_w]
             rfl
            refine zqp 7 (some 93) (zqB 15 255) (any_of HT_.out (by kernel_rfl)) (h := ?_)
            refine zqp 8 (some 101) (zqB 15 511) (any_of HT_.out (by kernel_rfl)) (h := ?_)
            refine zqp 9 (some 102) (zqB 15 1023) (any_of HT_.out (by kernel_rfl)) (h := ?_)
            refine zqp 10 (some 103) (zqB 15 2047) (any_of HT_.out (by kernel_rfl)) (h := ?_)
            refine one_ (i := 11) (N := some 15) (zqB 15 4095) rfl rfl (one_of HT_.out (by kernel_rfl)) (by decide) (fun K hK => ?_)
            refine box_step ?hg (N := 15) ?hd (cs := #[.int .i64 0, .int .i64 0, .int .i64 0, .int .i64 0, .int .i64 0, .int .u64 0, .int .u64 0, .int .u64 0]) (t := 40) ?hr ?_; (case hd => rfl); (case hg => rfl); (case hr => first | (go_simp; done) | (go_simp; rfl))
            intro gb278 hg w113 hbox hb
            have n0_ := zqi (zqy BK256.out hb)
            have n1_ := zqi (zqy BK257.out hb)
            have n2_ := zqi (zqy BK258.out hb)
            have n3_ := zqi (zqy BK261.out hb)
            have n4_ := zqi (zqy BK262.out hb)
            have n5_ := zqi (below_step (zqn HB.out) hb)
            have n6_ := zqi (hbox)
            have n7_ := zqi (zqo hg HB.out)
            have n8_ := zqi (zqo hg HB.out)
            have n9_ := zqi ((zqq hg BK256.out))
            have n10_ := zqi ((zqr hg BK256.out))
            have n11_ := zqi ((zqq hg BK257.out))
            have n12_ := zqi ((zqr hg BK257.out))
            have n13_ := zqi ((zqq hg BK258.out))
            have n14_ := zqi ((zqr hg BK258.out))
            have n15_ := zqi ((zqq hg BK261.out))
            have n16_ := zqi ((zqr hg BK261.out))
            have n17_ := zqi ((zqq hg BK262.out))
            have n18_ := zqi ((zqr hg BK262.out))
            clear BK256
            clear BK257
            clear BK258
            clear BK261
            clear BK262
            clear HB
            have BK256 := n0_
            have BK257 := n1_
            have BK258 := n2_
            have BK261 := n3_
            have BK262 := n4_
            have HB := n5_
            have BK278 := n6_
            have GW278 := n7_
            have GE278 := n8_
            have NB256_278 := n9_
            have NB278_256 := n10_
            have NB257_278 := n11_
            have NB278_257 := n12_
            have NB258_278 := n13_
            have NB278_258 := n14_
            have NB261_278 := n15_
            have NB278_261 := n16_
            have NB262_278 := n17_
            have NB278_262 := n18_
            clear n0_ n1_ n2_ n3_ n4_ n5_ n6_ n7_ n8_ n9_ n10_ n11_ n12_ n13_ n14_ n15_ n16_ n17_ n18_
            clear hb hbox hg
            refine hK.out _ _ ⟨(zqe BK256.out 0).trans rfl, (zqe BK256.out 1).trans rfl, (zqe BK256.out 2).trans rfl, (zqe BK256.out 3).trans rfl, (zqe BK262.out 0).trans rfl, (zqe BK262.out 1).trans rfl, (zqe BK262.out 2).trans rfl, (zqe BK262.out 3).trans rfl, (zqe BK262.out 4).trans rfl, (zqe BK262.out 5).trans rfl, (zqe BK262.out 6).trans rfl, (zqe BK262.out 7).trans rfl, ((HB.out.cell (World.block_lt_of_cell? w _ hw267_0)).trans hw267_0)⟩ (fun hHeld => ?_)
            clear hK K
            refine norm_ (a' := ?_) ?_ ?_
            rotate_left
            ·
             show Act.put _ (some 15) _ = _
             simp only [Act.put, List.setIfInBounds_toArray, List.set_cons_zero, List.set_cons_succ, i64_w, i32_w]
             rfl
            exact norm_ (by simp only [putAll, Act.put, List.setIfInBounds_toArray, List.set_cons_zero, List.set_cons_succ]) (hCont (gb278) _ ⟨hHeld, (zqm BK256.out), (zqm BK257.out), (zqm BK258.out), (zqm BK261.out), (zqm BK262.out), (zqm BK278.out), GW278.out, GE278.out, NB256_278.out, NB278_256.out, NB257_278.out, NB278_257.out, NB258_278.out, NB278_258.out, NB261_278.out, NB278_261.out, NB262_278.out, NB278_262.out, (zqn HB.out)⟩)
           ·
            skip
            refine box_step ?hg (N := 15) ?hd (cs := #[.int .i64 0, .int .i64 0, .int .i64 0, .int .i64 0, .int .i64 0, .int .u64 0, .int .u64 0, .int .u64 0]) (t := 40) ?hr ?_; (case hd => rfl); (case hg => rfl); (case hr => first | (go_simp; done) | (go_simp; rfl))
            intro gb278 hg w112 hbox hb
            have n0_ := zqi (zqy BK256.out hb)
            have n1_ := zqi (zqy BK257.out hb)
            have n2_ := zqi (zqy BK258.out hb)
            have n3_ := zqi (zqy BK261.out hb)
            have n4_ := zqi (zqy BK262.out hb)
            have n5_ := zqi (below_step (zqn HB.out) hb)
            have n6_ := zqi (hbox)
            have n7_ := zqi (zqo hg HB.out)
            have n8_ := zqi (zqo hg HB.out)
            have n9_ := zqi ((zqq hg BK256.out))
            have n10_ := zqi ((zqr hg BK256.out))
            have n11_ := zqi ((zqq hg BK257.out))
            have n12_ := zqi ((zqr hg BK257.out))
            have n13_ := zqi ((zqq hg BK258.out))
            have n14_ := zqi ((zqr hg BK258.out))
            have n15_ := zqi ((zqq hg BK261.out))
            have n16_ := zqi ((zqr hg BK261.out))
            have n17_ := zqi ((zqq hg BK262.out))
            have n18_ := zqi ((zqr hg BK262.out))
            clear BK256
            clear BK257
            clear BK258
            clear BK261
            clear BK262
            clear HB
            have BK256 := n0_
            have BK257 := n1_
            have BK258 := n2_
            have BK261 := n3_
            have BK262 := n4_
            have HB := n5_
            have BK278 := n6_
            have GW278 := n7_
            have GE278 := n8_
            have NB256_278 := n9_
            have NB278_256 := n10_
            have NB257_278 := n11_
            have NB278_257 := n12_
            have NB258_278 := n13_
            have NB278_258 := n14_
            have NB261_278 := n15_
            have NB278_261 := n16_
            have NB262_278 := n17_
            have NB278_262 := n18_
            clear n0_ n1_ n2_ n3_ n4_ n5_ n6_ n7_ n8_ n9_ n10_ n11_ n12_ n13_ n14_ n15_ n16_ n17_ n18_
            clear hb hbox hg
            refine hK.out _ _ ⟨(zqe BK256.out 0).trans rfl, (zqe BK256.out 1).trans rfl, (zqe BK256.out 2).trans rfl, (zqe BK256.out 3).trans rfl, (zqe BK262.out 0).trans rfl, (zqe BK262.out 1).trans rfl, (zqe BK262.out 2).trans rfl, (zqe BK262.out 3).trans rfl, (zqe BK262.out 4).trans rfl, (zqe BK262.out 5).trans rfl, (zqe BK262.out 6).trans rfl, (zqe BK262.out 7).trans rfl, ((HB.out.cell (World.block_lt_of_cell? w _ hw267_0)).trans hw267_0)⟩ (fun hHeld => ?_)
            clear hK K
            refine norm_ (a' := ?_) ?_ ?_
            rotate_left
            ·
             show Act.put _ (some 15) _ = _
             simp only [Act.put, List.setIfInBounds_toArray, List.set_cons_zero, List.set_cons_succ, i64_w, i32_w]
             rfl
            refine one_ (i := 6) (N := some 100) (zqB 15 2175) rfl rfl (one_of HT_.out (by kernel_rfl)) (by decide) (fun K hK => ?_)
            refine goes_ Try.func22 (by kernel_rfl) rfl #[.agg #[.int .i64 a0_0, .int .i64 a0_1, .int .i64 a0_2, .slice A0_3 l0_3.length c0_3], .agg #[.int .i64 x263000_2, .int .i64 x263001_2, .int .i64 x263002_2, .int .i64 x263003_2, .int .i64 x263004_2, .int .u64 x263005_2, .int .u64 x263006_2, .int .u64 x263007_2], .int .i64 (rd l3 x14_2)] (by rfl) rfl rfl (by (try simp only [List.map_toArray, List.map_cons, List.map_nil]); first | done | rfl | (simp only [List.length_drop, List.length_take]; rfl)) ?_
            with_reducible refine (state_Move.calls k2 a0_0 a0_1 a0_2 _ _ l0_3 x263000_2 x263001_2 x263002_2 x263003_2 x263004_2 x263005_2 x263006_2 x263007_2 (rd l3 x14_2) t268 t269 t270 t271 t272 t273 t274 t275 t276 true _ ?side1 ?side2 A107.out).mono ?_
            (case side1 => repeat (first | exact (Kd.C_below HR0_3.out HB.out) | (with_reducible refine Kd.C_alloc ?_ _) | (with_reducible refine Kd.C_drewN ?_ _) | (with_reducible refine Kd.C_drew ?_)))
            (case side2 => exact HC0_3.out)
            rintro e w113 ⟨rfl, hb⟩
            refine ⟨_, rfl, ?_⟩
            have n0_ := zqi (zqy BK256.out hb)
            have n1_ := zqi (zqy BK257.out hb)
            have n2_ := zqi (zqy BK258.out hb)
            have n3_ := zqi (zqy BK261.out hb)
            have n4_ := zqi (zqy BK262.out hb)
            have n5_ := zqi (zqy BK278.out hb)
            have n6_ := zqi (below_step (zqn HB.out) hb)
            clear BK256
            clear BK257
            clear BK258
            clear BK261
            clear BK262
            clear BK278
            clear HB
            have BK256 := n0_
            have BK257 := n1_
            have BK258 := n2_
            have BK261 := n3_
            have BK262 := n4_
            have BK278 := n5_
            have HB := n6_
            clear n0_ n1_ n2_ n3_ n4_ n5_ n6_
            (try clear hb)
            (try clear hb2)
            (try clear hk)
            (try clear hi)
            refine hK.out _ _ ⟨(zqe BK256.out 0).trans rfl, (zqe BK256.out 1).trans rfl, (zqe BK256.out 2).trans rfl, (zqe BK256.out 3).trans rfl, (zqe BK262.out 0).trans rfl, (zqe BK262.out 1).trans rfl, (zqe BK262.out 2).trans rfl, (zqe BK262.out 3).trans rfl, (zqe BK262.out 4).trans rfl, (zqe BK262.out 5).trans rfl, (zqe BK262.out 6).trans rfl, (zqe BK262.out 7).trans rfl, ((HB.out.cell (World.block_lt_of_cell? w _ hw267_0)).trans hw267_0)⟩ (fun hHeld => ?_)
            clear hK K
            refine norm_ (a' := ?_) ?_ ?_
            rotate_left
            ·
             show Act.put _ (some 100) _ = _
             simp only [Act.put, List.setIfInBounds_toArray, List.set_cons_zero, List.set_cons_succ, i64_w, i32_w]
             rfl
            refine zqp 7 (some 93) (zqB 15 2303) (any_of HT_.out (by kernel_rfl)) (h := ?_)
            refine zqp 8 (some 101) (zqB 15 2559) (any_of HT_.out (by kernel_rfl)) (h := ?_)
            refine zqp 9 (some 102) (zqB 15 3071) (any_of HT_.out (by kernel_rfl)) (h := ?_)
            refine zqp 10 (some 103) (zqB 15 4095) (any_of HT_.out (by kernel_rfl)) (h := ?_)
            exact norm_ (by simp only [putAll, Act.put, List.setIfInBounds_toArray, List.set_cons_zero, List.set_cons_succ]) (hCont (gb278) _ ⟨hHeld, (zqm BK256.out), (zqm BK257.out), (zqm BK258.out), (zqm BK261.out), (zqm BK262.out), (zqm BK278.out), GW278.out, GE278.out, NB256_278.out, NB278_256.out, NB257_278.out, NB278_257.out, NB258_278.out, NB278_258.out, NB261_278.out, NB278_261.out, NB262_278.out, NB278_262.out, (zqn HB.out)⟩)
          rintro gb278 w114 ⟨hS_, h0_, h1_, h2_, h3_, h4_, h5_, h6_, h7_, h8_, h9_, h10_, h11_, h12_, h13_, h14_, h15_, h16_, h17_, h18_⟩
          have n0_ : Aside0 (w114.heap[gb256]? = some (.cells #[.int .i64 a0_0, .int .i64 a0_1, .int .i64 a0_2, .slice A0_3 l0_3.length c0_3] 26 (0, 0))) := ⟨h0_⟩
          have n1_ : Aside0 (w114.heap[gb257]? = some (.cells #[.int .i64 a1_0, .int .i64 a1_1, .int .i64 a1_2, .int .i64 a1_3, .int .i64 a1_4, .int .u64 a1_5, .int .u64 a1_6, .int .u64 a1_7, .int .i64 a1_8, .slice A1_9 l1_9.length c1_9] 50 (0, 0))) := ⟨h1_⟩
          have n2_ : Aside0 (w114.heap[gb258]? = some (.cells #[.int .i64 a2_0, .int .i64 a2_1, .int .i64 a2_2, .int .i64 a2_3, .int .i64 a2_4, .int .u64 a2_5, .int .u64 a2_6, .int .u64 a2_7, .int .i64 a2_8, .slice A2_9 l2_9.length c2_9] 50 (0, 0))) := ⟨h2_⟩
          have n3_ : Aside0 (w114.heap[gb261]? = some (.cells #[.int .i64 x262000_2, .int .i64 x262001_2, .int .i64 x262002_2, .int .i64 x262003_2, .int .i64 x262004_2, .int .u64 x262005_2, .int .u64 x262006_2, .int .u64 x262007_2] 40 (0, 0))) := ⟨h3_⟩
          have n4_ : Aside0 (w114.heap[gb262]? = some (.cells #[.int .i64 x263000_2, .int .i64 x263001_2, .int .i64 x263002_2, .int .i64 x263003_2, .int .i64 x263004_2, .int .u64 x263005_2, .int .u64 x263006_2, .int .u64 x263007_2] 40 (0, 0))) := ⟨h4_⟩
          have n5_ : Aside0 (w114.heap[gb278]? = some (.cells #[.int .i64 0, .int .i64 0, .int .i64 0, .int .i64 0, .int .i64 0, .int .u64 0, .int .u64 0, .int .u64 0] 40 (0, 0))) := ⟨h5_⟩
          have n6_ : Aside0 (w.heap.size ≤ gb278) := ⟨h6_⟩
          have n7_ : Aside0 (w.heap.size ≤ gb278) := ⟨h7_⟩
          have n8_ : Aside0 (gb256 ≠ gb278) := ⟨h8_⟩
          have n9_ : Aside0 (gb278 ≠ gb256) := ⟨h9_⟩
          have n10_ : Aside0 (gb257 ≠ gb278) := ⟨h10_⟩
          have n11_ : Aside0 (gb278 ≠ gb257) := ⟨h11_⟩
          have n12_ : Aside0 (gb258 ≠ gb278) := ⟨h12_⟩
          have n13_ : Aside0 (gb278 ≠ gb258) := ⟨h13_⟩
          have n14_ : Aside0 (gb261 ≠ gb278) := ⟨h14_⟩
          have n15_ : Aside0 (gb278 ≠ gb261) := ⟨h15_⟩
          have n16_ : Aside0 (gb262 ≠ gb278) := ⟨h16_⟩
          have n17_ : Aside0 (gb278 ≠ gb262) := ⟨h17_⟩
          have n18_ : Aside0 (Below w.heap.size w w114) := ⟨h18_⟩
          clear BK256
          clear BK257
          clear BK258
          clear BK261
          clear BK262
          clear HB
          clear h0_ h1_ h2_ h3_ h4_ h5_ h6_ h7_ h8_ h9_ h10_ h11_ h12_ h13_ h14_ h15_ h16_ h17_ h18_
          have BK256 := n0_
          have BK257 := n1_
          have BK258 := n2_
          have BK261 := n3_
          have BK262 := n4_
          have BK278 := n5_
          have GW278 := n6_
          have GE278 := n7_
          have NB256_278 := n8_
          have NB278_256 := n9_
          have NB257_278 := n10_
          have NB278_257 := n11_
          have NB258_278 := n12_
          have NB278_258 := n13_
          have NB261_278 := n14_
          have NB278_261 := n15_
          have NB262_278 := n16_
          have NB278_262 := n17_
          have HB := n18_
          clear n0_ n1_ n2_ n3_ n4_ n5_ n6_ n7_ n8_ n9_ n10_ n11_ n12_ n13_ n14_ n15_ n16_ n17_ n18_
          have hHeld : w114.cell? ⟨gb256, 0, none⟩ = some (.int .i64 a0_0) ∧ w114.cell? ⟨gb256, 1, none⟩ = some (.int .i64 a0_1) ∧ w114.cell? ⟨gb256, 2, none⟩ = some (.int .i64 a0_2) ∧ w114.cell? ⟨gb256, 3, none⟩ = some (.slice A0_3 l0_3.length c0_3) ∧ w114.cell? ⟨gb262, 0, none⟩ = some (.int .i64 x263000_2) ∧ w114.cell? ⟨gb262, 1, none⟩ = some (.int .i64 x263001_2) ∧ w114.cell? ⟨gb262, 2, none⟩ = some (.int .i64 x263002_2) ∧ w114.cell? ⟨gb262, 3, none⟩ = some (.int .i64 x263003_2) ∧ w114.cell? ⟨gb262, 4, none⟩ = some (.int .i64 x263004_2) ∧ w114.cell? ⟨gb262, 5, none⟩ = some (.int .u64 x263005_2) ∧ w114.cell? ⟨gb262, 6, none⟩ = some (.int .u64 x263006_2) ∧ w114.cell? ⟨gb262, 7, none⟩ = some (.int .u64 x263007_2) ∧ w114.cell? (ad267.add (x14_2).toNat) = some (.int .i64 (rd l3 x14_2)) := hS_
          refine norm_ (a' := ?_) ?_ ?_
          rotate_left
          ·
           simp only [putAll, Act.put, List.setIfInBounds_toArray, List.set_cons_zero, List.set_cons_succ]
           rfl
          refine one_ (i := 12) (N := none) (zqB 15 8191) rfl rfl (one_of HT_.out (by kernel_rfl)) (by decide) (fun K hK => ?_)
          have hs115 : w114.cell? ⟨gb278, 0, none⟩ = some (.int .i64 0) := (zqe BK278.out 0).trans rfl
          have hfs115 := zqd BK278.out 0
          have hns115_0 := NB256_278.out
          have hns115_1 := NB257_278.out
          have hns115_2 := NB258_278.out
          have hns115_3 := NB261_278.out
          have hns115_4 := NB262_278.out
          have hms115_0 := NB278_256.out
          have hms115_1 := NB278_257.out
          have hms115_2 := NB278_258.out
          have hms115_3 := NB278_261.out
          have hms115_4 := NB278_262.out
          have hs116 : w114.cell? ⟨gb278, 1, none⟩ = some (.int .i64 0) := (zqe BK278.out 1).trans rfl
          have hfs116 := zqd BK278.out 1
          have hns116_0 := NB256_278.out
          have hns116_1 := NB257_278.out
          have hns116_2 := NB258_278.out
          have hns116_3 := NB261_278.out
          have hns116_4 := NB262_278.out
          have hms116_0 := NB278_256.out
          have hms116_1 := NB278_257.out
          have hms116_2 := NB278_258.out
          have hms116_3 := NB278_261.out
          have hms116_4 := NB278_262.out
          have hs117 : w114.cell? ⟨gb278, 2, none⟩ = some (.int .i64 0) := (zqe BK278.out 2).trans rfl
          have hfs117 := zqd BK278.out 2
          have hns117_0 := NB256_278.out
          have hns117_1 := NB257_278.out
          have hns117_2 := NB258_278.out
          have hns117_3 := NB261_278.out
          have hns117_4 := NB262_278.out
          have hms117_0 := NB278_256.out
          have hms117_1 := NB278_257.out
          have hms117_2 := NB278_258.out
          have hms117_3 := NB278_261.out
          have hms117_4 := NB278_262.out
          have hs118 : w114.cell? ⟨gb278, 3, none⟩ = some (.int .i64 0) := (zqe BK278.out 3).trans rfl
          have hfs118 := zqd BK278.out 3
          have hns118_0 := NB256_278.out
          have hns118_1 := NB257_278.out
          have hns118_2 := NB258_278.out
          have hns118_3 := NB261_278.out
          have hns118_4 := NB262_278.out
          have hms118_0 := NB278_256.out
          have hms118_1 := NB278_257.out
          have hms118_2 := NB278_258.out
          have hms118_3 := NB278_261.out
          have hms118_4 := NB278_262.out
          have hs119 : w114.cell? ⟨gb278, 4, none⟩ = some (.int .i64 0) := (zqe BK278.out 4).trans rfl
          have hfs119 := zqd BK278.out 4
          have hns119_0 := NB256_278.out
          have hns119_1 := NB257_278.out
          have hns119_2 := NB258_278.out
          have hns119_3 := NB261_278.out
          have hns119_4 := NB262_278.out
          have hms119_0 := NB278_256.out
          have hms119_1 := NB278_257.out
          have hms119_2 := NB278_258.out
          have hms119_3 := NB278_261.out
          have hms119_4 := NB278_262.out
          have hs120 : w114.cell? ⟨gb278, 5, none⟩ = some (.int .u64 0) := (zqe BK278.out 5).trans rfl
          have hfs120 := zqd BK278.out 5
          have hns120_0 := NB256_278.out
          have hns120_1 := NB257_278.out
          have hns120_2 := NB258_278.out
          have hns120_3 := NB261_278.out
          have hns120_4 := NB262_278.out
          have hms120_0 := NB278_256.out
          have hms120_1 := NB278_257.out
          have hms120_2 := NB278_258.out
          have hms120_3 := NB278_261.out
          have hms120_4 := NB278_262.out
          have hs121 : w114.cell? ⟨gb278, 6, none⟩ = some (.int .u64 0) := (zqe BK278.out 6).trans rfl
          have hfs121 := zqd BK278.out 6
          have hns121_0 := NB256_278.out
          have hns121_1 := NB257_278.out
          have hns121_2 := NB258_278.out
          have hns121_3 := NB261_278.out
          have hns121_4 := NB262_278.out
          have hms121_0 := NB278_256.out
          have hms121_1 := NB278_257.out
          have hms121_2 := NB278_258.out
          have hms121_3 := NB278_261.out
          have hms121_4 := NB278_262.out
          have hs122 : w114.cell? ⟨gb278, 7, none⟩ = some (.int .u64 0) := (zqe BK278.out 7).trans rfl
          have hfs122 := zqd BK278.out 7
          have hns122_0 := NB256_278.out
          have hns122_1 := NB257_278.out
          have hns122_2 := NB258_278.out
          have hns122_3 := NB261_278.out
          have hns122_4 := NB262_278.out
          have hms122_0 := NB278_256.out
          have hms122_1 := NB278_257.out
          have hms122_2 := NB278_258.out
          have hms122_3 := NB278_261.out
          have hms122_4 := NB278_262.out
          refine skip_ (w1 := ?_) (by rfl) rfl ?_ ?_
          rotate_left
          ·
           go_simp
           rfl
          refine hK.out _ _ ⟨((zqk NB256_278.out).trans (((zqk NB256_278.out).trans (((zqk NB256_278.out).trans (((zqk NB256_278.out).trans (((zqk NB256_278.out).trans (((zqk NB256_278.out).trans (((zqk NB256_278.out).trans (((zqk NB256_278.out).trans (hHeld.1)))))))))))))))), ((zqk NB256_278.out).trans (((zqk NB256_278.out).trans (((zqk NB256_278.out).trans (((zqk NB256_278.out).trans (((zqk NB256_278.out).trans (((zqk NB256_278.out).trans (((zqk NB256_278.out).trans (((zqk NB256_278.out).trans (hHeld.2.1)))))))))))))))), ((zqk NB256_278.out).trans (((zqk NB256_278.out).trans (((zqk NB256_278.out).trans (((zqk NB256_278.out).trans (((zqk NB256_278.out).trans (((zqk NB256_278.out).trans (((zqk NB256_278.out).trans (((zqk NB256_278.out).trans (hHeld.2.2.1)))))))))))))))), ((zqk NB256_278.out).trans (((zqk NB256_278.out).trans (((zqk NB256_278.out).trans (((zqk NB256_278.out).trans (((zqk NB256_278.out).trans (((zqk NB256_278.out).trans (((zqk NB256_278.out).trans (((zqk NB256_278.out).trans (hHeld.2.2.2.1)))))))))))))))), ((zqk NB262_278.out).trans (((zqk NB262_278.out).trans (((zqk NB262_278.out).trans (((zqk NB262_278.out).trans (((zqk NB262_278.out).trans (((zqk NB262_278.out).trans (((zqk NB262_278.out).trans (((zqk NB262_278.out).trans (hHeld.2.2.2.2.1)))))))))))))))), ((zqk NB262_278.out).trans (((zqk NB262_278.out).trans (((zqk NB262_278.out).trans (((zqk NB262_278.out).trans (((zqk NB262_278.out).trans (((zqk NB262_278.out).trans (((zqk NB262_278.out).trans (((zqk NB262_278.out).trans (hHeld.2.2.2.2.2.1)))))))))))))))), ((zqk NB262_278.out).trans (((zqk NB262_278.out).trans (((zqk NB262_278.out).trans (((zqk NB262_278.out).trans (((zqk NB262_278.out).trans (((zqk NB262_278.out).trans (((zqk NB262_278.out).trans (((zqk NB262_278.out).trans (hHeld.2.2.2.2.2.2.1)))))))))))))))), ((zqk NB262_278.out).trans (((zqk NB262_278.out).trans (((zqk NB262_278.out).trans (((zqk NB262_278.out).trans (((zqk NB262_278.out).trans (((zqk NB262_278.out).trans (((zqk NB262_278.out).trans (((zqk NB262_278.out).trans (hHeld.2.2.2.2.2.2.2.1)))))))))))))))), ((zqk NB262_278.out).trans (((zqk NB262_278.out).trans (((zqk NB262_278.out).trans (((zqk NB262_278.out).trans (((zqk NB262_278.out).trans (((zqk NB262_278.out).trans (((zqk NB262_278.out).trans (((zqk NB262_278.out).trans (hHeld.2.2.2.2.2.2.2.2.1)))))))))))))))), ((zqk NB262_278.out).trans (((zqk NB262_278.out).trans (((zqk NB262_278.out).trans (((zqk NB262_278.out).trans (((zqk NB262_278.out).trans (((zqk NB262_278.out).trans (((zqk NB262_278.out).trans (((zqk NB262_278.out).trans (hHeld.2.2.2.2.2.2.2.2.2.1)))))))))))))))), ((zqk NB262_278.out).trans (((zqk NB262_278.out).trans (((zqk NB262_278.out).trans (((zqk NB262_278.out).trans (((zqk NB262_278.out).trans (((zqk NB262_278.out).trans (((zqk NB262_278.out).trans (((zqk NB262_278.out).trans (hHeld.2.2.2.2.2.2.2.2.2.2.1)))))))))))))))), ((zqk NB262_278.out).trans (((zqk NB262_278.out).trans (((zqk NB262_278.out).trans (((zqk NB262_278.out).trans (((zqk NB262_278.out).trans (((zqk NB262_278.out).trans (((zqk NB262_278.out).trans (((zqk NB262_278.out).trans (hHeld.2.2.2.2.2.2.2.2.2.2.2.1)))))))))))))))), ((zqk (by first | exact zql hw267_0 GW278.out | (rw [add_block]; exact zql hw267_0 GW278.out) | (show (Addr.add _ _).block ≠ _; rw [add_block]; exact zql hw267_0 GW278.out) | (dsimp only; exact zql hw267_0 GW278.out))).trans (((zqk (by first | exact zql hw267_0 GW278.out | (rw [add_block]; exact zql hw267_0 GW278.out) | (show (Addr.add _ _).block ≠ _; rw [add_block]; exact zql hw267_0 GW278.out) | (dsimp only; exact zql hw267_0 GW278.out))).trans (((zqk (by first | exact zql hw267_0 GW278.out | (rw [add_block]; exact zql hw267_0 GW278.out) | (show (Addr.add _ _).block ≠ _; rw [add_block]; exact zql hw267_0 GW278.out) | (dsimp only; exact zql hw267_0 GW278.out))).trans (((zqk (by first | exact zql hw267_0 GW278.out | (rw [add_block]; exact zql hw267_0 GW278.out) | (show (Addr.add _ _).block ≠ _; rw [add_block]; exact zql hw267_0 GW278.out) | (dsimp only; exact zql hw267_0 GW278.out))).trans (((zqk (by first | exact zql hw267_0 GW278.out | (rw [add_block]; exact zql hw267_0 GW278.out) | (show (Addr.add _ _).block ≠ _; rw [add_block]; exact zql hw267_0 GW278.out) | (dsimp only; exact zql hw267_0 GW278.out))).trans (((zqk (by first | exact zql hw267_0 GW278.out | (rw [add_block]; exact zql hw267_0 GW278.out) | (show (Addr.add _ _).block ≠ _; rw [add_block]; exact zql hw267_0 GW278.out) | (dsimp only; exact zql hw267_0 GW278.out))).trans (((zqk (by first | exact zql hw267_0 GW278.out | (rw [add_block]; exact zql hw267_0 GW278.out) | (show (Addr.add _ _).block ≠ _; rw [add_block]; exact zql hw267_0 GW278.out) | (dsimp only; exact zql hw267_0 GW278.out))).trans (((zqk (by first | exact zql hw267_0 GW278.out | (rw [add_block]; exact zql hw267_0 GW278.out) | (show (Addr.add _ _).block ≠ _; rw [add_block]; exact zql hw267_0 GW278.out) | (dsimp only; exact zql hw267_0 GW278.out))).trans (hHeld.2.2.2.2.2.2.2.2.2.2.2.2))))))))))))))))⟩ (fun hHeld => ?_)
          clear hK K
          refine zqp 13 (some 16) (zqB 15 16383) (any_of HT_.out (by kernel_rfl)) (h := ?_)
          refine zqp 14 (some 17) (zqB 15 32767) (any_of HT_.out (by kernel_rfl)) (h := ?_)
          refine done_ (done_of HT_.out (by kernel_rfl)) ?_
          try go_wp2
          generalize hW_ : ((((((((w114.setCell ⟨gb278, 0, none⟩ (.int .i64 t268)).setCell ⟨gb278, 1, none⟩ (.int .i64 t269)).setCell ⟨gb278, 2, none⟩ (.int .i64 t270)).setCell ⟨gb278, 3, none⟩ (.int .i64 t271)).setCell ⟨gb278, 4, none⟩ (.int .i64 t272)).setCell ⟨gb278, 5, none⟩ (.int .u64 t273)).setCell ⟨gb278, 6, none⟩ (.int .u64 t274)).setCell ⟨gb278, 7, none⟩ (.int .u64 t275)) = w123
          have n0_ : Aside0 (w123.heap[gb256]? = some (.cells #[.int .i64 a0_0, .int .i64 a0_1, .int .i64 a0_2, .slice A0_3 l0_3.length c0_3] 26 (0, 0))) := ⟨by subst hW_; (repeat (with_reducible first | apply zqa | apply zqb | apply zqc | refine blk_far ?_ NB256_278.out _)); exact BK256.out⟩
          have n1_ : Aside0 (w123.heap[gb257]? = some (.cells #[.int .i64 a1_0, .int .i64 a1_1, .int .i64 a1_2, .int .i64 a1_3, .int .i64 a1_4, .int .u64 a1_5, .int .u64 a1_6, .int .u64 a1_7, .int .i64 a1_8, .slice A1_9 l1_9.length c1_9] 50 (0, 0))) := ⟨by subst hW_; (repeat (with_reducible first | apply zqa | apply zqb | apply zqc | refine blk_far ?_ NB257_278.out _)); exact BK257.out⟩
          have n2_ : Aside0 (w123.heap[gb258]? = some (.cells #[.int .i64 a2_0, .int .i64 a2_1, .int .i64 a2_2, .int .i64 a2_3, .int .i64 a2_4, .int .u64 a2_5, .int .u64 a2_6, .int .u64 a2_7, .int .i64 a2_8, .slice A2_9 l2_9.length c2_9] 50 (0, 0))) := ⟨by subst hW_; (repeat (with_reducible first | apply zqa | apply zqb | apply zqc | refine blk_far ?_ NB258_278.out _)); exact BK258.out⟩
          have n3_ : Aside0 (w123.heap[gb261]? = some (.cells #[.int .i64 x262000_2, .int .i64 x262001_2, .int .i64 x262002_2, .int .i64 x262003_2, .int .i64 x262004_2, .int .u64 x262005_2, .int .u64 x262006_2, .int .u64 x262007_2] 40 (0, 0))) := ⟨by subst hW_; (repeat (with_reducible first | apply zqa | apply zqb | apply zqc | refine blk_far ?_ NB261_278.out _)); exact BK261.out⟩
          have n4_ : Aside0 (w123.heap[gb262]? = some (.cells #[.int .i64 x263000_2, .int .i64 x263001_2, .int .i64 x263002_2, .int .i64 x263003_2, .int .i64 x263004_2, .int .u64 x263005_2, .int .u64 x263006_2, .int .u64 x263007_2] 40 (0, 0))) := ⟨by subst hW_; (repeat (with_reducible first | apply zqa | apply zqb | apply zqc | refine blk_far ?_ NB262_278.out _)); exact BK262.out⟩
          have n5_ : Aside0 (w123.heap[gb278]? = some (.cells #[.int .i64 t268, .int .i64 t269, .int .i64 t270, .int .i64 t271, .int .i64 t272, .int .u64 t273, .int .u64 t274, .int .u64 t275] 40 (0, 0))) := ⟨by subst hW_; exact zqC (blk_set (blk_set (blk_set (blk_set (blk_set (blk_set (blk_set (blk_set BK278.out 0 _) 1 _) 2 _) 3 _) 4 _) 5 _) 6 _) 7 _) (by simp only [List.setIfInBounds_toArray, List.set_cons_zero, List.set_cons_succ])⟩
          have n6_ : Aside0 (Below w.heap.size w w123) := ⟨by subst hW_; repeat (first | (with_reducible first | exact HB.out | apply zqg | apply zqf | apply zqh | refine below_set ?_ GE256.out | refine below_set ?_ GE257.out | refine below_set ?_ GE258.out | refine below_set ?_ GE261.out | refine below_set ?_ GE262.out | refine below_set ?_ GE278.out) | exact HB.out)⟩
          clear hW_
          (try clear BK256)
          (try clear BK257)
          (try clear BK258)
          (try clear BK261)
          (try clear BK262)
          (try clear BK278)
          (try clear HB)
          have BK256 := n0_
          have BK257 := n1_
          have BK258 := n2_
          have BK261 := n3_
          have BK262 := n4_
          have BK278 := n5_
          have HB := n6_
          clear n0_ n1_ n2_ n3_ n4_ n5_ n6_
          have n0_ := zqi (zqb BK256.out)
          have n1_ := zqi (zqb BK257.out)
          have n2_ := zqi (zqb BK258.out)
          have n3_ := zqi (zqb BK261.out)
          have n4_ := zqi (zqb BK262.out)
          have n5_ := zqi (zqb BK278.out)
          have n6_ := zqi (zqh HB.out)
          clear BK256
          clear BK257
          clear BK258
          clear BK261
          clear BK262
          clear BK278
          clear HB
          have BK256 := n0_
          have BK257 := n1_
          have BK258 := n2_
          have BK261 := n3_
          have BK262 := n4_
          have BK278 := n5_
          have HB := n6_
          clear n0_ n1_ n2_ n3_ n4_ n5_ n6_
          have p279 : 0 ≤ (x14_2 : Int) := of_decide_eq_true (by first | (with_reducible assumption) | assumption)
          have q279 : x14_2 < (l3.length : Int) := of_decide_eq_true (by first | (with_reducible assumption) | assumption)
          obtain ⟨ad279, e279, hx279_0⟩ := Kd.at_int HR3.out x14_2 p279 q279
          have hw279_0 := hx279_0
          obtain rfl : ad267 = ad279 := (by injection e279)
          replace hx279_0 := (HB.out.cell (World.block_lt_of_cell? w _ hx279_0)).trans hx279_0
          replace p279 := eq_true p279
          replace q279 := eq_true q279
          refine start_ (n := 15) (S := fun w' => w'.cell? ⟨gb256, 0, none⟩ = some (.int .i64 a0_0) ∧ w'.cell? ⟨gb256, 1, none⟩ = some (.int .i64 a0_1) ∧ w'.cell? ⟨gb256, 2, none⟩ = some (.int .i64 a0_2) ∧ w'.cell? ⟨gb256, 3, none⟩ = some (.slice A0_3 l0_3.length c0_3) ∧ w'.cell? ⟨gb261, 0, none⟩ = some (.int .i64 x262000_2) ∧ w'.cell? ⟨gb261, 1, none⟩ = some (.int .i64 x262001_2) ∧ w'.cell? ⟨gb261, 2, none⟩ = some (.int .i64 x262002_2) ∧ w'.cell? ⟨gb261, 3, none⟩ = some (.int .i64 x262003_2) ∧ w'.cell? ⟨gb261, 4, none⟩ = some (.int .i64 x262004_2) ∧ w'.cell? ⟨gb261, 5, none⟩ = some (.int .u64 x262005_2) ∧ w'.cell? ⟨gb261, 6, none⟩ = some (.int .u64 x262006_2) ∧ w'.cell? ⟨gb261, 7, none⟩ = some (.int .u64 x262007_2) ∧ w'.cell? (ad267.add (x14_2).toNat) = some (.int .i64 (rd l3 x14_2))) (ds := []) (zqB 15 0) (by kernel_rfl) rfl rfl ⟨(zqe BK256.out 0).trans rfl, (zqe BK256.out 1).trans rfl, (zqe BK256.out 2).trans rfl, (zqe BK256.out 3).trans rfl, (zqe BK261.out 0).trans rfl, (zqe BK261.out 1).trans rfl, (zqe BK261.out 2).trans rfl, (zqe BK261.out 3).trans rfl, (zqe BK261.out 4).trans rfl, (zqe BK261.out 5).trans rfl, (zqe BK261.out 6).trans rfl, (zqe BK261.out 7).trans rfl, ((HB.out.cell (World.block_lt_of_cell? w _ hw279_0)).trans hw279_0)⟩ (fun hHeld => ?_); refine with_tabW haulierlaw13_BetterWays.tab12 haulierlaw13_BetterWays.bits12 (fun HT_ HW_ => ?_)
          generalize w123.drew = w124 at BK256 BK257 BK258 BK261 BK262 BK278 HB hx279_0 hHeld ⊢
          refine zqp 2 (some 107) (zqB 15 4) (any_of HT_.out (by kernel_rfl)) (h := ?_)
          refine zqp 3 (some 108) (zqB 15 12) (any_of HT_.out (by kernel_rfl)) (h := ?_)
          refine zqp 4 (some 109) (zqB 15 28) (any_of HT_.out (by kernel_rfl)) (h := ?_)
          refine zqt 0 (some 105) (zqB 15 29) (take_ofW HT_.out HW_.out (by kernel_rfl)) hHeld (h := ?_)
          refine zqt 1 (some 106) (zqB 15 31) (take_ofW HT_.out HW_.out (by kernel_rfl)) hHeld (h := ?_)
          refine zqt 5 (some 110) (zqB 15 63) (take_ofW HT_.out HW_.out (by kernel_rfl)) hHeld (h := ?_)
          refine join_ (σ := Nat) 3 (zqB 15 4095) (fun s_ => [(111, .tuple #[.agg #[.int .i64 t280, .int .i64 t281, .int .i64 t282, .int .i64 t283, .int .i64 t284, .int .u64 t285, .int .u64 t286, .int .u64 t287], .int .i64 t288, .bool true]), (18, .pointer (some ⟨s_, 0, none⟩)), (104, .tuple #[.agg #[.int .i64 t280, .int .i64 t281, .int .i64 t282, .int .i64 t283, .int .i64 t284, .int .u64 t285, .int .u64 t286, .int .u64 t287], .int .i64 t288, .bool true]), (112, .agg #[.int .i64 t280, .int .i64 t281, .int .i64 t282, .int .i64 t283, .int .i64 t284, .int .u64 t285, .int .u64 t286, .int .u64 t287]), (113, .int .i64 t288), (114, .bool true)]) (fun s_ w' => (w'.cell? ⟨gb256, 0, none⟩ = some (.int .i64 a0_0) ∧ w'.cell? ⟨gb256, 1, none⟩ = some (.int .i64 a0_1) ∧ w'.cell? ⟨gb256, 2, none⟩ = some (.int .i64 a0_2) ∧ w'.cell? ⟨gb256, 3, none⟩ = some (.slice A0_3 l0_3.length c0_3) ∧ w'.cell? ⟨gb261, 0, none⟩ = some (.int .i64 x262000_2) ∧ w'.cell? ⟨gb261, 1, none⟩ = some (.int .i64 x262001_2) ∧ w'.cell? ⟨gb261, 2, none⟩ = some (.int .i64 x262002_2) ∧ w'.cell? ⟨gb261, 3, none⟩ = some (.int .i64 x262003_2) ∧ w'.cell? ⟨gb261, 4, none⟩ = some (.int .i64 x262004_2) ∧ w'.cell? ⟨gb261, 5, none⟩ = some (.int .u64 x262005_2) ∧ w'.cell? ⟨gb261, 6, none⟩ = some (.int .u64 x262006_2) ∧ w'.cell? ⟨gb261, 7, none⟩ = some (.int .u64 x262007_2) ∧ w'.cell? (ad267.add (x14_2).toNat) = some (.int .i64 (rd l3 x14_2))) ∧ (w'.heap[gb256]? = some (.cells #[.int .i64 a0_0, .int .i64 a0_1, .int .i64 a0_2, .slice A0_3 l0_3.length c0_3] 26 (0, 0))) ∧ (w'.heap[gb257]? = some (.cells #[.int .i64 a1_0, .int .i64 a1_1, .int .i64 a1_2, .int .i64 a1_3, .int .i64 a1_4, .int .u64 a1_5, .int .u64 a1_6, .int .u64 a1_7, .int .i64 a1_8, .slice A1_9 l1_9.length c1_9] 50 (0, 0))) ∧ (w'.heap[gb258]? = some (.cells #[.int .i64 a2_0, .int .i64 a2_1, .int .i64 a2_2, .int .i64 a2_3, .int .i64 a2_4, .int .u64 a2_5, .int .u64 a2_6, .int .u64 a2_7, .int .i64 a2_8, .slice A2_9 l2_9.length c2_9] 50 (0, 0))) ∧ (w'.heap[gb261]? = some (.cells #[.int .i64 x262000_2, .int .i64 x262001_2, .int .i64 x262002_2, .int .i64 x262003_2, .int .i64 x262004_2, .int .u64 x262005_2, .int .u64 x262006_2, .int .u64 x262007_2] 40 (0, 0))) ∧ (w'.heap[gb262]? = some (.cells #[.int .i64 x263000_2, .int .i64 x263001_2, .int .i64 x263002_2, .int .i64 x263003_2, .int .i64 x263004_2, .int .u64 x263005_2, .int .u64 x263006_2, .int .u64 x263007_2] 40 (0, 0))) ∧ (w'.heap[gb278]? = some (.cells #[.int .i64 t268, .int .i64 t269, .int .i64 t270, .int .i64 t271, .int .i64 t272, .int .u64 t273, .int .u64 t274, .int .u64 t275] 40 (0, 0))) ∧ (w'.heap[s_]? = some (.cells #[.int .i64 0, .int .i64 0, .int .i64 0, .int .i64 0, .int .i64 0, .int .u64 0, .int .u64 0, .int .u64 0] 40 (0, 0))) ∧ (w.heap.size ≤ s_) ∧ (w.heap.size ≤ s_) ∧ (gb256 ≠ s_) ∧ (s_ ≠ gb256) ∧ (gb257 ≠ s_) ∧ (s_ ≠ gb257) ∧ (gb258 ≠ s_) ∧ (s_ ≠ gb258) ∧ (gb261 ≠ s_) ∧ (s_ ≠ gb261) ∧ (gb262 ≠ s_) ∧ (s_ ≠ gb262) ∧ (gb278 ≠ s_) ∧ (s_ ≠ gb278) ∧ (Below w.heap.size w w')) ?_ ?_
          rotate_left
          ·
           intro hCont
           refine two_ (i := 6) (j := 11) (Ni := some 111) (Nj := some 18) (zqB 15 127) (zqB 15 2111) rfl rfl rfl rfl (two_of HT_.out (by kernel_rfl)) (by decide) (by decide) (fun K hK => ?_) (fun K hK => ?_)
           ·
            skip
            refine goes_ Try.func22 (by kernel_rfl) rfl #[.agg #[.int .i64 a0_0, .int .i64 a0_1, .int .i64 a0_2, .slice A0_3 l0_3.length c0_3], .agg #[.int .i64 x262000_2, .int .i64 x262001_2, .int .i64 x262002_2, .int .i64 x262003_2, .int .i64 x262004_2, .int .u64 x262005_2, .int .u64 x262006_2, .int .u64 x262007_2], .int .i64 (rd l3 x14_2)] (by rfl) rfl rfl (by (try simp only [List.map_toArray, List.map_cons, List.map_nil]); first | done | rfl | (simp only [List.length_drop, List.length_take]; rfl)) ?_
            with_reducible refine (state_Move.calls k2 a0_0 a0_1 a0_2 _ _ l0_3 x262000_2 x262001_2 x262002_2 x262003_2 x262004_2 x262005_2 x262006_2 x262007_2 (rd l3 x14_2) t280 t281 t282 t283 t284 t285 t286 t287 t288 true _ ?side1 ?side2 A108.out).mono ?_
            (case side1 => repeat (first | exact (Kd.C_below HR0_3.out HB.out) | (with_reducible refine Kd.C_alloc ?_ _) | (with_reducible refine Kd.C_drewN ?_ _) | (with_reducible refine Kd.C_drew ?_)))
            (case side2 => exact HC0_3.out)
            rintro e w125 ⟨rfl, hb⟩
            refine ⟨_, rfl, ?_⟩
            have n0_ := zqi (zqy BK256.out hb)
            have n1_ := zqi (zqy BK257.out hb)
            have n2_ := zqi (zqy BK258.out hb)
            have n3_ := zqi (zqy BK261.out hb)
            have n4_ := zqi (zqy BK262.out hb)
            have n5_ := zqi (zqy BK278.out hb)
            have n6_ := zqi (below_step (zqn HB.out) hb)
            clear BK256
            clear BK257
            clear BK258
            clear BK261
            clear BK262
            clear BK278
            clear HB
            have BK256 := n0_
            have BK257 := n1_
            have BK258 := n2_
            have BK261 := n3_
            have BK262 := n4_
            have BK278 := n5_
            have HB := n6_
            clear n0_ n1_ n2_ n3_ n4_ n5_ n6_
            (try clear hb)
            (try clear hb2)
            (try clear hk)
            (try clear hi)
            refine hK.out _ _ ⟨(zqe BK256.out 0).trans rfl, (zqe BK256.out 1).trans rfl, (zqe BK256.out 2).trans rfl, (zqe BK256.out 3).trans rfl, (zqe BK261.out 0).trans rfl, (zqe BK261.out 1).trans rfl, (zqe BK261.out 2).trans rfl, (zqe BK261.out 3).trans rfl, (zqe BK261.out 4).trans rfl, (zqe BK261.out 5).trans rfl, (zqe BK261.out 6).trans rfl, (zqe BK261.out 7).trans rfl, ((HB.out.cell (World.block_lt_of_cell? w _ hw279_0)).trans hw279_0)⟩ (fun hHeld => ?_)
            clear hK K
            refine norm_ (a' := ?_) ?_ ?_
            rotate_left
            ·
             show Act.put _ (some 111) _ = _
             simp only [Act.put, List.setIfInBounds_toArray, List.set_cons_zero, List.set_cons_succ, i64_w, i32_w]
             rfl
            refine zqp 7 (some 104) (zqB 15 255) (any_of HT_.out (by kernel_rfl)) (h := ?_)
            refine zqp 8 (some 112) (zqB 15 511) (any_of HT_.out (by kernel_rfl)) (h := ?_)
            refine zqp 9 (some 113) (zqB 15 1023) (any_of HT_.out (by kernel_rfl)) (h := ?_)
            refine zqp 10 (some 114) (zqB 15 2047) (any_of HT_.out (by kernel_rfl)) (h := ?_)
            refine one_ (i := 11) (N := some 18) (zqB 15 4095) rfl rfl (one_of HT_.out (by kernel_rfl)) (by decide) (fun K hK => ?_)
            refine box_step ?hg (N := 18) ?hd (cs := #[.int .i64 0, .int .i64 0, .int .i64 0, .int .i64 0, .int .i64 0, .int .u64 0, .int .u64 0, .int .u64 0]) (t := 40) ?hr ?_; (case hd => rfl); (case hg => rfl); (case hr => first | (go_simp; done) | (go_simp; rfl))
            intro gb290 hg w126 hbox hb
            have n0_ := zqi (zqy BK256.out hb)
            have n1_ := zqi (zqy BK257.out hb)
            have n2_ := zqi (zqy BK258.out hb)
            have n3_ := zqi (zqy BK261.out hb)
            have n4_ := zqi (zqy BK262.out hb)
            have n5_ := zqi (zqy BK278.out hb)
            have n6_ := zqi (below_step (zqn HB.out) hb)
            have n7_ := zqi (hbox)
            have n8_ := zqi (zqo hg HB.out)
            have n9_ := zqi (zqo hg HB.out)
            have n10_ := zqi ((zqq hg BK256.out))
            have n11_ := zqi ((zqr hg BK256.out))
            have n12_ := zqi ((zqq hg BK257.out))
            have n13_ := zqi ((zqr hg BK257.out))
            have n14_ := zqi ((zqq hg BK258.out))
            have n15_ := zqi ((zqr hg BK258.out))
            have n16_ := zqi ((zqq hg BK261.out))
            have n17_ := zqi ((zqr hg BK261.out))
            have n18_ := zqi ((zqq hg BK262.out))
            have n19_ := zqi ((zqr hg BK262.out))
            have n20_ := zqi ((zqq hg BK278.out))
            have n21_ := zqi ((zqr hg BK278.out))
            clear BK256
            clear BK257
            clear BK258
            clear BK261
            clear BK262
            clear BK278
            clear HB
            have BK256 := n0_
            have BK257 := n1_
            have BK258 := n2_
            have BK261 := n3_
            have BK262 := n4_
            have BK278 := n5_
            have HB := n6_
            have BK290 := n7_
            have GW290 := n8_
            have GE290 := n9_
            have NB256_290 := n10_
            have NB290_256 := n11_
            have NB257_290 := n12_
            have NB290_257 := n13_
            have NB258_290 := n14_
            have NB290_258 := n15_
            have NB261_290 := n16_
            have NB290_261 := n17_
            have NB262_290 := n18_
            have NB290_262 := n19_
            have NB278_290 := n20_
            have NB290_278 := n21_
            clear n0_ n1_ n2_ n3_ n4_ n5_ n6_ n7_ n8_ n9_ n10_ n11_ n12_ n13_ n14_ n15_ n16_ n17_ n18_ n19_ n20_ n21_
            clear hb hbox hg
            refine hK.out _ _ ⟨(zqe BK256.out 0).trans rfl, (zqe BK256.out 1).trans rfl, (zqe BK256.out 2).trans rfl, (zqe BK256.out 3).trans rfl, (zqe BK261.out 0).trans rfl, (zqe BK261.out 1).trans rfl, (zqe BK261.out 2).trans rfl, (zqe BK261.out 3).trans rfl, (zqe BK261.out 4).trans rfl, (zqe BK261.out 5).trans rfl, (zqe BK261.out 6).trans rfl, (zqe BK261.out 7).trans rfl, ((HB.out.cell (World.block_lt_of_cell? w _ hw279_0)).trans hw279_0)⟩ (fun hHeld => ?_)
            clear hK K
            refine norm_ (a' := ?_) ?_ ?_
            rotate_left
            ·
             show Act.put _ (some 18) _ = _
             simp only [Act.put, List.setIfInBounds_toArray, List.set_cons_zero, List.set_cons_succ, i64_w, i32_w]
             rfl
            exact norm_ (by simp only [putAll, Act.put, List.setIfInBounds_toArray, List.set_cons_zero, List.set_cons_succ]) (hCont (gb290) _ ⟨hHeld, (zqm BK256.out), (zqm BK257.out), (zqm BK258.out), (zqm BK261.out), (zqm BK262.out), (zqm BK278.out), (zqm BK290.out), GW290.out, GE290.out, NB256_290.out, NB290_256.out, NB257_290.out, NB290_257.out, NB258_290.out, NB290_258.out, NB261_290.out, NB290_261.out, NB262_290.out, NB290_262.out, NB278_290.out, NB290_278.out, (zqn HB.out)⟩)
           ·
            skip
            refine box_step ?hg (N := 18) ?hd (cs := #[.int .i64 0, .int .i64 0, .int .i64 0, .int .i64 0, .int .i64 0, .int .u64 0, .int .u64 0, .int .u64 0]) (t := 40) ?hr ?_; (case hd => rfl); (case hg => rfl); (case hr => first | (go_simp; done) | (go_simp; rfl))
            intro gb290 hg w125 hbox hb
            have n0_ := zqi (zqy BK256.out hb)
            have n1_ := zqi (zqy BK257.out hb)
            have n2_ := zqi (zqy BK258.out hb)
            have n3_ := zqi (zqy BK261.out hb)
            have n4_ := zqi (zqy BK262.out hb)
            have n5_ := zqi (zqy BK278.out hb)
            have n6_ := zqi (below_step (zqn HB.out) hb)
            have n7_ := zqi (hbox)
            have n8_ := zqi (zqo hg HB.out)
            have n9_ := zqi (zqo hg HB.out)
            have n10_ := zqi ((zqq hg BK256.out))
            have n11_ := zqi ((zqr hg BK256.out))
            have n12_ := zqi ((zqq hg BK257.out))
            have n13_ := zqi ((zqr hg BK257.out))
            have n14_ := zqi ((zqq hg BK258.out))
            have n15_ := zqi ((zqr hg BK258.out))
            have n16_ := zqi ((zqq hg BK261.out))
            have n17_ := zqi ((zqr hg BK261.out))
            have n18_ := zqi ((zqq hg BK262.out))
            have n19_ := zqi ((zqr hg BK262.out))
            have n20_ := zqi ((zqq hg BK278.out))
            have n21_ := zqi ((zqr hg BK278.out))
            clear BK256
            clear BK257
            clear BK258
            clear BK261
            clear BK262
            clear BK278
            clear HB
            have BK256 := n0_
            have BK257 := n1_
            have BK258 := n2_
            have BK261 := n3_
            have BK262 := n4_
            have BK278 := n5_
            have HB := n6_
            have BK290 := n7_
            have GW290 := n8_
            have GE290 := n9_
            have NB256_290 := n10_
            have NB290_256 := n11_
            have NB257_290 := n12_
            have NB290_257 := n13_
            have NB258_290 := n14_
            have NB290_258 := n15_
            have NB261_290 := n16_
            have NB290_261 := n17_
            have NB262_290 := n18_
            have NB290_262 := n19_
            have NB278_290 := n20_
            have NB290_278 := n21_
            clear n0_ n1_ n2_ n3_ n4_ n5_ n6_ n7_ n8_ n9_ n10_ n11_ n12_ n13_ n14_ n15_ n16_ n17_ n18_ n19_ n20_ n21_
            clear hb hbox hg
            refine hK.out _ _ ⟨(zqe BK256.out 0).trans rfl, (zqe BK256.out 1).trans rfl, (zqe BK256.out 2).trans rfl, (zqe BK256.out 3).trans rfl, (zqe BK261.out 0).trans rfl, (zqe BK261.out 1).trans rfl, (zqe BK261.out 2).trans rfl, (zqe BK261.out 3).trans rfl, (zqe BK261.out 4).trans rfl, (zqe BK261.out 5).trans rfl, (zqe BK261.out 6).trans rfl, (zqe BK261.out 7).trans rfl, ((HB.out.cell (World.block_lt_of_cell? w _ hw279_0)).trans hw279_0)⟩ (fun hHeld => ?_)
            clear hK K
            refine norm_ (a' := ?_) ?_ ?_
            rotate_left
            ·
             show Act.put _ (some 18) _ = _
             simp only [Act.put, List.setIfInBounds_toArray, List.set_cons_zero, List.set_cons_succ, i64_w, i32_w]
             rfl
            refine one_ (i := 6) (N := some 111) (zqB 15 2175) rfl rfl (one_of HT_.out (by kernel_rfl)) (by decide) (fun K hK => ?_)
            refine goes_ Try.func22 (by kernel_rfl) rfl #[.agg #[.int .i64 a0_0, .int .i64 a0_1, .int .i64 a0_2, .slice A0_3 l0_3.length c0_3], .agg #[.int .i64 x262000_2, .int .i64 x262001_2, .int .i64 x262002_2, .int .i64 x262003_2, .int .i64 x262004_2, .int .u64 x262005_2, .int .u64 x262006_2, .int .u64 x262007_2], .int .i64 (rd l3 x14_2)] (by rfl) rfl rfl (by (try simp only [List.map_toArray, List.map_cons, List.map_nil]); first | done | rfl | (simp only [List.length_drop, List.length_take]; rfl)) ?_
            with_reducible refine (state_Move.calls k2 a0_0 a0_1 a0_2 _ _ l0_3 x262000_2 x262001_2 x262002_2 x262003_2 x262004_2 x262005_2 x262006_2 x262007_2 (rd l3 x14_2) t280 t281 t282 t283 t284 t285 t286 t287 t288 true _ ?side1 ?side2 A108.out).mono ?_
            (case side1 => repeat (first | exact (Kd.C_below HR0_3.out HB.out) | (with_reducible refine Kd.C_alloc ?_ _) | (with_reducible refine Kd.C_drewN ?_ _) | (with_reducible refine Kd.C_drew ?_)))
            (case side2 => exact HC0_3.out)
            rintro e w126 ⟨rfl, hb⟩
            refine ⟨_, rfl, ?_⟩
            have n0_ := zqi (zqy BK256.out hb)
            have n1_ := zqi (zqy BK257.out hb)
            have n2_ := zqi (zqy BK258.out hb)
            have n3_ := zqi (zqy BK261.out hb)
            have n4_ := zqi (zqy BK262.out hb)
            have n5_ := zqi (zqy BK278.out hb)
            have n6_ := zqi (zqy BK290.out hb)
            have n7_ := zqi (below_step (zqn HB.out) hb)
            clear BK256
            clear BK257
            clear BK258
            clear BK261
            clear BK262
            clear BK278
            clear BK290
            clear HB
            have BK256 := n0_
            have BK257 := n1_
            have BK258 := n2_
            have BK261 := n3_
            have BK262 := n4_
            have BK278 := n5_
            have BK290 := n6_
            have HB := n7_
            clear n0_ n1_ n2_ n3_ n4_ n5_ n6_ n7_
            (try clear hb)
            (try clear hb2)
            (try clear hk)
            (try clear hi)
            refine hK.out _ _ ⟨(zqe BK256.out 0).trans rfl, (zqe BK256.out 1).trans rfl, (zqe BK256.out 2).trans rfl, (zqe BK256.out 3).trans rfl, (zqe BK261.out 0).trans rfl, (zqe BK261.out 1).trans rfl, (zqe BK261.out 2).trans rfl, (zqe BK261.out 3).trans rfl, (zqe BK261.out 4).trans rfl, (zqe BK261.out 5).trans rfl, (zqe BK261.out 6).trans rfl, (zqe BK261.out 7).trans rfl, ((HB.out.cell (World.block_lt_of_cell? w _ hw279_0)).trans hw279_0)⟩ (fun hHeld => ?_)
            clear hK K
            refine norm_ (a' := ?_) ?_ ?_
            rotate_left
            ·
             show Act.put _ (some 111) _ = _
             simp only [Act.put, List.setIfInBounds_toArray, List.set_cons_zero, List.set_cons_succ, i64_w, i32_w]
             rfl
            refine zqp 7 (some 104) (zqB 15 2303) (any_of HT_.out (by kernel_rfl)) (h := ?_)
            refine zqp 8 (some 112) (zqB 15 2559) (any_of HT_.out (by kernel_rfl)) (h := ?_)
            refine zqp 9 (some 113) (zqB 15 3071) (any_of HT_.out (by kernel_rfl)) (h := ?_)
            refine zqp 10 (some 114) (zqB 15 4095) (any_of HT_.out (by kernel_rfl)) (h := ?_)
            exact norm_ (by simp only [putAll, Act.put, List.setIfInBounds_toArray, List.set_cons_zero, List.set_cons_succ]) (hCont (gb290) _ ⟨hHeld, (zqm BK256.out), (zqm BK257.out), (zqm BK258.out), (zqm BK261.out), (zqm BK262.out), (zqm BK278.out), (zqm BK290.out), GW290.out, GE290.out, NB256_290.out, NB290_256.out, NB257_290.out, NB290_257.out, NB258_290.out, NB290_258.out, NB261_290.out, NB290_261.out, NB262_290.out, NB290_262.out, NB278_290.out, NB290_278.out, (zqn HB.out)⟩)
          rintro gb290 w127 ⟨hS_, h0_, h1_, h2_, h3_, h4_, h5_, h6_, h7_, h8_, h9_, h10_, h11_, h12_, h13_, h14_, h15_, h16_, h17_, h18_, h19_, h20_, h21_⟩
          have n0_ : Aside0 (w127.heap[gb256]? = some (.cells #[.int .i64 a0_0, .int .i64 a0_1, .int .i64 a0_2, .slice A0_3 l0_3.length c0_3] 26 (0, 0))) := ⟨h0_⟩
          have n1_ : Aside0 (w127.heap[gb257]? = some (.cells #[.int .i64 a1_0, .int .i64 a1_1, .int .i64 a1_2, .int .i64 a1_3, .int .i64 a1_4, .int .u64 a1_5, .int .u64 a1_6, .int .u64 a1_7, .int .i64 a1_8, .slice A1_9 l1_9.length c1_9] 50 (0, 0))) := ⟨h1_⟩
          have n2_ : Aside0 (w127.heap[gb258]? = some (.cells #[.int .i64 a2_0, .int .i64 a2_1, .int .i64 a2_2, .int .i64 a2_3, .int .i64 a2_4, .int .u64 a2_5, .int .u64 a2_6, .int .u64 a2_7, .int .i64 a2_8, .slice A2_9 l2_9.length c2_9] 50 (0, 0))) := ⟨h2_⟩
          have n3_ : Aside0 (w127.heap[gb261]? = some (.cells #[.int .i64 x262000_2, .int .i64 x262001_2, .int .i64 x262002_2, .int .i64 x262003_2, .int .i64 x262004_2, .int .u64 x262005_2, .int .u64 x262006_2, .int .u64 x262007_2] 40 (0, 0))) := ⟨h3_⟩
          have n4_ : Aside0 (w127.heap[gb262]? = some (.cells #[.int .i64 x263000_2, .int .i64 x263001_2, .int .i64 x263002_2, .int .i64 x263003_2, .int .i64 x263004_2, .int .u64 x263005_2, .int .u64 x263006_2, .int .u64 x263007_2] 40 (0, 0))) := ⟨h4_⟩
          have n5_ : Aside0 (w127.heap[gb278]? = some (.cells #[.int .i64 t268, .int .i64 t269, .int .i64 t270, .int .i64 t271, .int .i64 t272, .int .u64 t273, .int .u64 t274, .int .u64 t275] 40 (0, 0))) := ⟨h5_⟩
          have n6_ : Aside0 (w127.heap[gb290]? = some (.cells #[.int .i64 0, .int .i64 0, .int .i64 0, .int .i64 0, .int .i64 0, .int .u64 0, .int .u64 0, .int .u64 0] 40 (0, 0))) := ⟨h6_⟩
          have n7_ : Aside0 (w.heap.size ≤ gb290) := ⟨h7_⟩
          have n8_ : Aside0 (w.heap.size ≤ gb290) := ⟨h8_⟩
          have n9_ : Aside0 (gb256 ≠ gb290) := ⟨h9_⟩
          have n10_ : Aside0 (gb290 ≠ gb256) := ⟨h10_⟩
          have n11_ : Aside0 (gb257 ≠ gb290) := ⟨h11_⟩
          have n12_ : Aside0 (gb290 ≠ gb257) := ⟨h12_⟩
          have n13_ : Aside0 (gb258 ≠ gb290) := ⟨h13_⟩
          have n14_ : Aside0 (gb290 ≠ gb258) := ⟨h14_⟩
          have n15_ : Aside0 (gb261 ≠ gb290) := ⟨h15_⟩
          have n16_ : Aside0 (gb290 ≠ gb261) := ⟨h16_⟩
          have n17_ : Aside0 (gb262 ≠ gb290) := ⟨h17_⟩
          have n18_ : Aside0 (gb290 ≠ gb262) := ⟨h18_⟩
          have n19_ : Aside0 (gb278 ≠ gb290) := ⟨h19_⟩
          have n20_ : Aside0 (gb290 ≠ gb278) := ⟨h20_⟩
          have n21_ : Aside0 (Below w.heap.size w w127) := ⟨h21_⟩
          clear BK256
          clear BK257
          clear BK258
          clear BK261
          clear BK262
          clear BK278
          clear HB
          clear h0_ h1_ h2_ h3_ h4_ h5_ h6_ h7_ h8_ h9_ h10_ h11_ h12_ h13_ h14_ h15_ h16_ h17_ h18_ h19_ h20_ h21_
          have BK256 := n0_
          have BK257 := n1_
          have BK258 := n2_
          have BK261 := n3_
          have BK262 := n4_
          have BK278 := n5_
          have BK290 := n6_
          have GW290 := n7_
          have GE290 := n8_
          have NB256_290 := n9_
          have NB290_256 := n10_
          have NB257_290 := n11_
          have NB290_257 := n12_
          have NB258_290 := n13_
          have NB290_258 := n14_
          have NB261_290 := n15_
          have NB290_261 := n16_
          have NB262_290 := n17_
          have NB290_262 := n18_
          have NB278_290 := n19_
          have NB290_278 := n20_
          have HB := n21_
          clear n0_ n1_ n2_ n3_ n4_ n5_ n6_ n7_ n8_ n9_ n10_ n11_ n12_ n13_ n14_ n15_ n16_ n17_ n18_ n19_ n20_ n21_
          have hHeld : w127.cell? ⟨gb256, 0, none⟩ = some (.int .i64 a0_0) ∧ w127.cell? ⟨gb256, 1, none⟩ = some (.int .i64 a0_1) ∧ w127.cell? ⟨gb256, 2, none⟩ = some (.int .i64 a0_2) ∧ w127.cell? ⟨gb256, 3, none⟩ = some (.slice A0_3 l0_3.length c0_3) ∧ w127.cell? ⟨gb261, 0, none⟩ = some (.int .i64 x262000_2) ∧ w127.cell? ⟨gb261, 1, none⟩ = some (.int .i64 x262001_2) ∧ w127.cell? ⟨gb261, 2, none⟩ = some (.int .i64 x262002_2) ∧ w127.cell? ⟨gb261, 3, none⟩ = some (.int .i64 x262003_2) ∧ w127.cell? ⟨gb261, 4, none⟩ = some (.int .i64 x262004_2) ∧ w127.cell? ⟨gb261, 5, none⟩ = some (.int .u64 x262005_2) ∧ w127.cell? ⟨gb261, 6, none⟩ = some (.int .u64 x262006_2) ∧ w127.cell? ⟨gb261, 7, none⟩ = some (.int .u64 x262007_2) ∧ w127.cell? (ad267.add (x14_2).toNat) = some (.int .i64 (rd l3 x14_2)) := hS_
          refine norm_ (a' := ?_) ?_ ?_
          rotate_left
          ·
           simp only [putAll, Act.put, List.setIfInBounds_toArray, List.set_cons_zero, List.set_cons_succ]
           rfl
          refine one_ (i := 12) (N := none) (zqB 15 8191) rfl rfl (one_of HT_.out (by kernel_rfl)) (by decide) (fun K hK => ?_)
          have hs128 : w127.cell? ⟨gb290, 0, none⟩ = some (.int .i64 0) := (zqe BK290.out 0).trans rfl
          have hfs128 := zqd BK290.out 0
          have hns128_0 := NB256_290.out
          have hns128_1 := NB257_290.out
          have hns128_2 := NB258_290.out
          have hns128_3 := NB261_290.out
          have hns128_4 := NB262_290.out
          have hns128_5 := NB278_290.out
          have hms128_0 := NB290_256.out
          have hms128_1 := NB290_257.out
          have hms128_2 := NB290_258.out
          have hms128_3 := NB290_261.out
          have hms128_4 := NB290_262.out
          have hms128_5 := NB290_278.out
          have hs129 : w127.cell? ⟨gb290, 1, none⟩ = some (.int .i64 0) := (zqe BK290.out 1).trans rfl
          have hfs129 := zqd BK290.out 1
          have hns129_0 := NB256_290.out
          have hns129_1 := NB257_290.out
          have hns129_2 := NB258_290.out
          have hns129_3 := NB261_290.out
          have hns129_4 := NB262_290.out
          have hns129_5 := NB278_290.out
          have hms129_0 := NB290_256.out
          have hms129_1 := NB290_257.out
          have hms129_2 := NB290_258.out
          have hms129_3 := NB290_261.out
          have hms129_4 := NB290_262.out
          have hms129_5 := NB290_278.out
          have hs130 : w127.cell? ⟨gb290, 2, none⟩ = some (.int .i64 0) := (zqe BK290.out 2).trans rfl
          have hfs130 := zqd BK290.out 2
          have hns130_0 := NB256_290.out
          have hns130_1 := NB257_290.out
          have hns130_2 := NB258_290.out
          have hns130_3 := NB261_290.out
          have hns130_4 := NB262_290.out
          have hns130_5 := NB278_290.out
          have hms130_0 := NB290_256.out
          have hms130_1 := NB290_257.out
          have hms130_2 := NB290_258.out
          have hms130_3 := NB290_261.out
          have hms130_4 := NB290_262.out
          have hms130_5 := NB290_278.out
          have hs131 : w127.cell? ⟨gb290, 3, none⟩ = some (.int .i64 0) := (zqe BK290.out 3).trans rfl
          have hfs131 := zqd BK290.out 3
          have hns131_0 := NB256_290.out
          have hns131_1 := NB257_290.out
          have hns131_2 := NB258_290.out
          have hns131_3 := NB261_290.out
          have hns131_4 := NB262_290.out
          have hns131_5 := NB278_290.out
          have hms131_0 := NB290_256.out
          have hms131_1 := NB290_257.out
          have hms131_2 := NB290_258.out
          have hms131_3 := NB290_261.out
          have hms131_4 := NB290_262.out
          have hms131_5 := NB290_278.out
          have hs132 : w127.cell? ⟨gb290, 4, none⟩ = some (.int .i64 0) := (zqe BK290.out 4).trans rfl
          have hfs132 := zqd BK290.out 4
          have hns132_0 := NB256_290.out
          have hns132_1 := NB257_290.out
          have hns132_2 := NB258_290.out
          have hns132_3 := NB261_290.out
          have hns132_4 := NB262_290.out
          have hns132_5 := NB278_290.out
          have hms132_0 := NB290_256.out
          have hms132_1 := NB290_257.out
          have hms132_2 := NB290_258.out
          have hms132_3 := NB290_261.out
          have hms132_4 := NB290_262.out
          have hms132_5 := NB290_278.out
          have hs133 : w127.cell? ⟨gb290, 5, none⟩ = some (.int .u64 0) := (zqe BK290.out 5).trans rfl
          have hfs133 := zqd BK290.out 5
          have hns133_0 := NB256_290.out
          have hns133_1 := NB257_290.out
          have hns133_2 := NB258_290.out
          have hns133_3 := NB261_290.out
          have hns133_4 := NB262_290.out
          have hns133_5 := NB278_290.out
          have hms133_0 := NB290_256.out
          have hms133_1 := NB290_257.out
          have hms133_2 := NB290_258.out
          have hms133_3 := NB290_261.out
          have hms133_4 := NB290_262.out
          have hms133_5 := NB290_278.out
          have hs134 : w127.cell? ⟨gb290, 6, none⟩ = some (.int .u64 0) := (zqe BK290.out 6).trans rfl
          have hfs134 := zqd BK290.out 6
          have hns134_0 := NB256_290.out
          have hns134_1 := NB257_290.out
          have hns134_2 := NB258_290.out
          have hns134_3 := NB261_290.out
          have hns134_4 := NB262_290.out
          have hns134_5 := NB278_290.out
          have hms134_0 := NB290_256.out
          have hms134_1 := NB290_257.out
          have hms134_2 := NB290_258.out
          have hms134_3 := NB290_261.out
          have hms134_4 := NB290_262.out
          have hms134_5 := NB290_278.out
          have hs135 : w127.cell? ⟨gb290, 7, none⟩ = some (.int .u64 0) := (zqe BK290.out 7).trans rfl
          have hfs135 := zqd BK290.out 7
          have hns135_0 := NB256_290.out
          have hns135_1 := NB257_290.out
          have hns135_2 := NB258_290.out
          have hns135_3 := NB261_290.out
          have hns135_4 := NB262_290.out
          have hns135_5 := NB278_290.out
          have hms135_0 := NB290_256.out
          have hms135_1 := NB290_257.out
          have hms135_2 := NB290_258.out
          have hms135_3 := NB290_261.out
          have hms135_4 := NB290_262.out
          have hms135_5 := NB290_278.out
          refine skip_ (w1 := ?_) (by rfl) rfl ?_ ?_
          rotate_left
          ·
           go_simp
           rfl
          refine hK.out _ _ ⟨((zqk NB256_290.out).trans (((zqk NB256_290.out).trans (((zqk NB256_290.out).trans (((zqk NB256_290.out).trans (((zqk NB256_290.out).trans (((zqk NB256_290.out).trans (((zqk NB256_290.out).trans (((zqk NB256_290.out).trans (hHeld.1)))))))))))))))), ((zqk NB256_290.out).trans (((zqk NB256_290.out).trans (((zqk NB256_290.out).trans (((zqk NB256_290.out).trans (((zqk NB256_290.out).trans (((zqk NB256_290.out).trans (((zqk NB256_290.out).trans (((zqk NB256_290.out).trans (hHeld.2.1)))))))))))))))), ((zqk NB256_290.out).trans (((zqk NB256_290.out).trans (((zqk NB256_290.out).trans (((zqk NB256_290.out).trans (((zqk NB256_290.out).trans (((zqk NB256_290.out).trans (((zqk NB256_290.out).trans (((zqk NB256_290.out).trans (hHeld.2.2.1)))))))))))))))), ((zqk NB256_290.out).trans (((zqk NB256_290.out).trans (((zqk NB256_290.out).trans (((zqk NB256_290.out).trans (((zqk NB256_290.out).trans (((zqk NB256_290.out).trans (((zqk NB256_290.out).trans (((zqk NB256_290.out).trans (hHeld.2.2.2.1)))))))))))))))), ((zqk NB261_290.out).trans (((zqk NB261_290.out).trans (((zqk NB261_290.out).trans (((zqk NB261_290.out).trans (((zqk NB261_290.out).trans (((zqk NB261_290.out).trans (((zqk NB261_290.out).trans (((zqk NB261_290.out).trans (hHeld.2.2.2.2.1)))))))))))))))), ((zqk NB261_290.out).trans (((zqk NB261_290.out).trans (((zqk NB261_290.out).trans (((zqk NB261_290.out).trans (((zqk NB261_290.out).trans (((zqk NB261_290.out).trans (((zqk NB261_290.out).trans (((zqk NB261_290.out).trans (hHeld.2.2.2.2.2.1)))))))))))))))), ((zqk NB261_290.out).trans (((zqk NB261_290.out).trans (((zqk NB261_290.out).trans (((zqk NB261_290.out).trans (((zqk NB261_290.out).trans (((zqk NB261_290.out).trans (((zqk NB261_290.out).trans (((zqk NB261_290.out).trans (hHeld.2.2.2.2.2.2.1)))))))))))))))), ((zqk NB261_290.out).trans (((zqk NB261_290.out).trans (((zqk NB261_290.out).trans (((zqk NB261_290.out).trans (((zqk NB261_290.out).trans (((zqk NB261_290.out).trans (((zqk NB261_290.out).trans (((zqk NB261_290.out).trans (hHeld.2.2.2.2.2.2.2.1)))))))))))))))), ((zqk NB261_290.out).trans (((zqk NB261_290.out).trans (((zqk NB261_290.out).trans (((zqk NB261_290.out).trans (((zqk NB261_290.out).trans (((zqk NB261_290.out).trans (((zqk NB261_290.out).trans (((zqk NB261_290.out).trans (hHeld.2.2.2.2.2.2.2.2.1)))))))))))))))), ((zqk NB261_290.out).trans (((zqk NB261_290.out).trans (((zqk NB261_290.out).trans (((zqk NB261_290.out).trans (((zqk NB261_290.out).trans (((zqk NB261_290.out).trans (((zqk NB261_290.out).trans (((zqk NB261_290.out).trans (hHeld.2.2.2.2.2.2.2.2.2.1)))))))))))))))), ((zqk NB261_290.out).trans (((zqk NB261_290.out).trans (((zqk NB261_290.out).trans (((zqk NB261_290.out).trans (((zqk NB261_290.out).trans (((zqk NB261_290.out).trans (((zqk NB261_290.out).trans (((zqk NB261_290.out).trans (hHeld.2.2.2.2.2.2.2.2.2.2.1)))))))))))))))), ((zqk NB261_290.out).trans (((zqk NB261_290.out).trans (((zqk NB261_290.out).trans (((zqk NB261_290.out).trans (((zqk NB261_290.out).trans (((zqk NB261_290.out).trans (((zqk NB261_290.out).trans (((zqk NB261_290.out).trans (hHeld.2.2.2.2.2.2.2.2.2.2.2.1)))))))))))))))), ((zqk (by first | exact zql hw279_0 GW290.out | (rw [add_block]; exact zql hw279_0 GW290.out) | (show (Addr.add _ _).block ≠ _; rw [add_block]; exact zql hw279_0 GW290.out) | (dsimp only; exact zql hw279_0 GW290.out))).trans (((zqk (by first | exact zql hw279_0 GW290.out | (rw [add_block]; exact zql hw279_0 GW290.out) | (show (Addr.add _ _).block ≠ _; rw [add_block]; exact zql hw279_0 GW290.out) | (dsimp only; exact zql hw279_0 GW290.out))).trans (((zqk (by first | exact zql hw279_0 GW290.out | (rw [add_block]; exact zql hw279_0 GW290.out) | (show (Addr.add _ _).block ≠ _; rw [add_block]; exact zql hw279_0 GW290.out) | (dsimp only; exact zql hw279_0 GW290.out))).trans (((zqk (by first | exact zql hw279_0 GW290.out | (rw [add_block]; exact zql hw279_0 GW290.out) | (show (Addr.add _ _).block ≠ _; rw [add_block]; exact zql hw279_0 GW290.out) | (dsimp only; exact zql hw279_0 GW290.out))).trans (((zqk (by first | exact zql hw279_0 GW290.out | (rw [add_block]; exact zql hw279_0 GW290.out) | (show (Addr.add _ _).block ≠ _; rw [add_block]; exact zql hw279_0 GW290.out) | (dsimp only; exact zql hw279_0 GW290.out))).trans (((zqk (by first | exact zql hw279_0 GW290.out | (rw [add_block]; exact zql hw279_0 GW290.out) | (show (Addr.add _ _).block ≠ _; rw [add_block]; exact zql hw279_0 GW290.out) | (dsimp only; exact zql hw279_0 GW290.out))).trans (((zqk (by first | exact zql hw279_0 GW290.out | (rw [add_block]; exact zql hw279_0 GW290.out) | (show (Addr.add _ _).block ≠ _; rw [add_block]; exact zql hw279_0 GW290.out) | (dsimp only; exact zql hw279_0 GW290.out))).trans (((zqk (by first | exact zql hw279_0 GW290.out | (rw [add_block]; exact zql hw279_0 GW290.out) | (show (Addr.add _ _).block ≠ _; rw [add_block]; exact zql hw279_0 GW290.out) | (dsimp only; exact zql hw279_0 GW290.out))).trans (hHeld.2.2.2.2.2.2.2.2.2.2.2.2))))))))))))))))⟩ (fun hHeld => ?_)
          clear hK K
          refine zqp 13 (some 19) (zqB 15 16383) (any_of HT_.out (by kernel_rfl)) (h := ?_)
          refine zqp 14 (some 20) (zqB 15 32767) (any_of HT_.out (by kernel_rfl)) (h := ?_)
          refine done_ (done_of HT_.out (by kernel_rfl)) ?_
          have hnb136 := NB290_256.out
          have hnc136 := NB256_290.out
          have hnb137 := NB290_257.out
          have hnc137 := NB257_290.out
          have hnb138 := NB290_258.out
          have hnc138 := NB258_290.out
          have hnb139 := NB290_261.out
          have hnc139 := NB261_290.out
          have hnb140 := NB290_262.out
          have hnc140 := NB262_290.out
          have hnb141 := NB290_278.out
          have hnc141 := NB278_290.out
          obtain ⟨hcz142_0, hcz142_1, hcz142_2, hcz142_3, hcz142_4, hcz142_5, hcz142_6, hcz142_7, hfz142_0, hfz142_1, hfz142_2, hfz142_3, hfz142_4, hfz142_5, hfz142_6, hfz142_7⟩ := zqz8 BK290.out
          have hnb143 := NB261_256.out
          have hnc143 := NB256_261.out
          have hnb144 := NB261_257.out
          have hnc144 := NB257_261.out
          have hnb145 := NB261_258.out
          have hnc145 := NB258_261.out
          have hnb146 := NB261_262.out
          have hnc146 := NB262_261.out
          have hnb147 := NB261_278.out
          have hnc147 := NB278_261.out
          obtain ⟨hcz148_0, hcz148_1, hcz148_2, hcz148_3, hcz148_4, hcz148_5, hcz148_6, hcz148_7, hfz148_0, hfz148_1, hfz148_2, hfz148_3, hfz148_4, hfz148_5, hfz148_6, hfz148_7⟩ := zqz8 BK261.out
          have hnb149 := NB278_256.out
          have hnc149 := NB256_278.out
          have hnb150 := NB278_257.out
          have hnc150 := NB257_278.out
          have hnb151 := NB278_258.out
          have hnc151 := NB258_278.out
          have hnb152 := NB278_262.out
          have hnc152 := NB262_278.out
          obtain ⟨hcz153_0, hcz153_1, hcz153_2, hcz153_3, hcz153_4, hcz153_5, hcz153_6, hcz153_7, hfz153_0, hfz153_1, hfz153_2, hfz153_3, hfz153_4, hfz153_5, hfz153_6, hfz153_7⟩ := zqz8 BK278.out
          have hnb154 := NB262_256.out
          have hnc154 := NB256_262.out
          have hnb155 := NB262_257.out
          have hnc155 := NB257_262.out
          have hnb156 := NB262_258.out
          have hnc156 := NB258_262.out
          obtain ⟨hcz157_0, hcz157_1, hcz157_2, hcz157_3, hcz157_4, hcz157_5, hcz157_6, hcz157_7, hfz157_0, hfz157_1, hfz157_2, hfz157_3, hfz157_4, hfz157_5, hfz157_6, hfz157_7⟩ := zqz8 BK262.out
          try go_wp2
          go_roundg k2
          case measure => have := HJ5.out; have := HK2.out; omega
          case rel => exact ⟨(wrap64 (x12_2 + t288)), (wrap64 (x13_2 + t276)), (wrap64 (x14_2 + 1)), (t280), (t281), (t282), (t283), (t284), (t285), (t286), (t287), (t268), (t269), (t270), (t271), (t272), (t273), (t274), (t275), (by first | rfl | (simp; done) | (simp [*]; done)), (by first | rfl | (simp; done) | (simp [*]; done)), (by first | rfl | (simp; done) | (simp [*]; done)), H', ⟨by have := HJ5.out; have := HK2.out; omega⟩, ⟨by (repeat (with_reducible first | apply zqa | apply zqb | apply zqc | refine blk_far ?_ NB256_262.out _ | refine blk_far ?_ NB256_261.out _ | refine blk_far ?_ NB256_290.out _)); exact BK256.out⟩, ⟨by (repeat (with_reducible first | apply zqa | apply zqb | apply zqc | refine blk_far ?_ NB257_262.out _ | refine blk_far ?_ NB257_261.out _ | refine blk_far ?_ NB257_290.out _)); exact BK257.out⟩, ⟨by (repeat (with_reducible first | apply zqa | apply zqb | apply zqc | refine blk_far ?_ NB258_262.out _ | refine blk_far ?_ NB258_261.out _ | refine blk_far ?_ NB258_290.out _)); exact BK258.out⟩, ⟨by exact zqC (blk_far (blk_far (blk_far (blk_far (blk_far (blk_far (blk_far (blk_far (blk_set (blk_set (blk_set (blk_set (blk_set (blk_set (blk_set (blk_set (blk_far (blk_far (blk_far (blk_far (blk_far (blk_far (blk_far (blk_far BK261.out NB261_290.out _) NB261_290.out _) NB261_290.out _) NB261_290.out _) NB261_290.out _) NB261_290.out _) NB261_290.out _) NB261_290.out _) 0 _) 1 _) 2 _) 3 _) 4 _) 5 _) 6 _) 7 _) NB261_262.out _) NB261_262.out _) NB261_262.out _) NB261_262.out _) NB261_262.out _) NB261_262.out _) NB261_262.out _) NB261_262.out _) (by simp only [List.setIfInBounds_toArray, List.set_cons_zero, List.set_cons_succ])⟩, ⟨by exact zqC (blk_set (blk_set (blk_set (blk_set (blk_set (blk_set (blk_set (blk_set (blk_far (blk_far (blk_far (blk_far (blk_far (blk_far (blk_far (blk_far (blk_far (blk_far (blk_far (blk_far (blk_far (blk_far (blk_far (blk_far BK262.out NB262_290.out _) NB262_290.out _) NB262_290.out _) NB262_290.out _) NB262_290.out _) NB262_290.out _) NB262_290.out _) NB262_290.out _) NB262_261.out _) NB262_261.out _) NB262_261.out _) NB262_261.out _) NB262_261.out _) NB262_261.out _) NB262_261.out _) NB262_261.out _) 0 _) 1 _) 2 _) 3 _) 4 _) 5 _) 6 _) 7 _) (by simp only [List.setIfInBounds_toArray, List.set_cons_zero, List.set_cons_succ])⟩, ⟨by repeat (first | (with_reducible first | exact HB.out | apply zqg | apply zqf | apply zqh | refine below_set ?_ GE256.out | refine below_set ?_ GE257.out | refine below_set ?_ GE258.out | refine below_set ?_ GE261.out | refine below_set ?_ GE262.out | refine below_set ?_ GE278.out | refine below_set ?_ GE290.out) | exact HB.out)⟩⟩
         ·
          replace c110 := Bool.eq_false_iff.mpr c110
          subst c110
          have H1 : (none) = some r := by rw [if_neg (show ¬ (false = true) by decide)] at H; exact H
          clear H
          have H := H1
          clear H1
          exact absurd H (by simp)
        ·
         replace c109 := Bool.eq_false_iff.mpr c109
         subst c109
         have H1 : (some true) = some r := by rw [if_neg (show ¬ (false = true) by decide)] at H; exact H
         clear H
         have H := H1
         clear H1
         obtain rfl := Option.some.inj H
         try go_wp2
         have n0_ := zqi (zqb BK256.out)
         have n1_ := zqi (zqb BK257.out)
         have n2_ := zqi (zqb BK258.out)
         have n3_ := zqi (zqb BK261.out)
         have n4_ := zqi (zqb BK262.out)
         have n5_ := zqi (zqh HB.out)
         clear BK256
         clear BK257
         clear BK258
         clear BK261
         clear BK262
         clear HB
         have BK256 := n0_
         have BK257 := n1_
         have BK258 := n2_
         have BK261 := n3_
         have BK262 := n4_
         have HB := n5_
         clear n0_ n1_ n2_ n3_ n4_ n5_
         have p267 : 0 ≤ (x14_2 : Int) := of_decide_eq_true (by first | (with_reducible assumption) | assumption)
         have q267 : x14_2 < (l3.length : Int) := of_decide_eq_true (by first | (with_reducible assumption) | assumption)
         obtain ⟨ad267, e267, hx267_0⟩ := Kd.at_int HR3.out x14_2 p267 q267
         have hw267_0 := hx267_0
         cases e267
         replace hx267_0 := (HB.out.cell (World.block_lt_of_cell? w _ hx267_0)).trans hx267_0
         replace p267 := eq_true p267
         replace q267 := eq_true q267
         refine start_ (n := 15) (S := fun w' => w'.cell? ⟨gb256, 0, none⟩ = some (.int .i64 a0_0) ∧ w'.cell? ⟨gb256, 1, none⟩ = some (.int .i64 a0_1) ∧ w'.cell? ⟨gb256, 2, none⟩ = some (.int .i64 a0_2) ∧ w'.cell? ⟨gb256, 3, none⟩ = some (.slice A0_3 l0_3.length c0_3) ∧ w'.cell? ⟨gb262, 0, none⟩ = some (.int .i64 x263000_2) ∧ w'.cell? ⟨gb262, 1, none⟩ = some (.int .i64 x263001_2) ∧ w'.cell? ⟨gb262, 2, none⟩ = some (.int .i64 x263002_2) ∧ w'.cell? ⟨gb262, 3, none⟩ = some (.int .i64 x263003_2) ∧ w'.cell? ⟨gb262, 4, none⟩ = some (.int .i64 x263004_2) ∧ w'.cell? ⟨gb262, 5, none⟩ = some (.int .u64 x263005_2) ∧ w'.cell? ⟨gb262, 6, none⟩ = some (.int .u64 x263006_2) ∧ w'.cell? ⟨gb262, 7, none⟩ = some (.int .u64 x263007_2) ∧ w'.cell? (ad267.add (x14_2).toNat) = some (.int .i64 (rd l3 x14_2))) (ds := []) (zqB 15 0) (by kernel_rfl) rfl rfl ⟨(zqe BK256.out 0).trans rfl, (zqe BK256.out 1).trans rfl, (zqe BK256.out 2).trans rfl, (zqe BK256.out 3).trans rfl, (zqe BK262.out 0).trans rfl, (zqe BK262.out 1).trans rfl, (zqe BK262.out 2).trans rfl, (zqe BK262.out 3).trans rfl, (zqe BK262.out 4).trans rfl, (zqe BK262.out 5).trans rfl, (zqe BK262.out 6).trans rfl, (zqe BK262.out 7).trans rfl, ((HB.out.cell (World.block_lt_of_cell? w _ hw267_0)).trans hw267_0)⟩ (fun hHeld => ?_); refine with_tabW haulierlaw13_BetterWays.tab11 haulierlaw13_BetterWays.bits11 (fun HT_ HW_ => ?_)
         generalize wr.drew = w158 at BK256 BK257 BK258 BK261 BK262 HB hx267_0 hHeld ⊢
         refine zqp 2 (some 96) (zqB 15 4) (any_of HT_.out (by kernel_rfl)) (h := ?_)
         refine zqp 3 (some 97) (zqB 15 12) (any_of HT_.out (by kernel_rfl)) (h := ?_)
         refine zqp 4 (some 98) (zqB 15 28) (any_of HT_.out (by kernel_rfl)) (h := ?_)
         refine zqt 0 (some 94) (zqB 15 29) (take_ofW HT_.out HW_.out (by kernel_rfl)) hHeld (h := ?_)
         refine zqt 1 (some 95) (zqB 15 31) (take_ofW HT_.out HW_.out (by kernel_rfl)) hHeld (h := ?_)
         refine zqt 5 (some 99) (zqB 15 63) (take_ofW HT_.out HW_.out (by kernel_rfl)) hHeld (h := ?_)
         refine join_ (σ := Nat) 3 (zqB 15 4095) (fun s_ => [(100, .tuple #[.agg #[.int .i64 t268, .int .i64 t269, .int .i64 t270, .int .i64 t271, .int .i64 t272, .int .u64 t273, .int .u64 t274, .int .u64 t275], .int .i64 t276, .bool false]), (15, .pointer (some ⟨s_, 0, none⟩)), (93, .tuple #[.agg #[.int .i64 t268, .int .i64 t269, .int .i64 t270, .int .i64 t271, .int .i64 t272, .int .u64 t273, .int .u64 t274, .int .u64 t275], .int .i64 t276, .bool false]), (101, .agg #[.int .i64 t268, .int .i64 t269, .int .i64 t270, .int .i64 t271, .int .i64 t272, .int .u64 t273, .int .u64 t274, .int .u64 t275]), (102, .int .i64 t276), (103, .bool false)]) (fun s_ w' => (w'.cell? ⟨gb256, 0, none⟩ = some (.int .i64 a0_0) ∧ w'.cell? ⟨gb256, 1, none⟩ = some (.int .i64 a0_1) ∧ w'.cell? ⟨gb256, 2, none⟩ = some (.int .i64 a0_2) ∧ w'.cell? ⟨gb256, 3, none⟩ = some (.slice A0_3 l0_3.length c0_3) ∧ w'.cell? ⟨gb262, 0, none⟩ = some (.int .i64 x263000_2) ∧ w'.cell? ⟨gb262, 1, none⟩ = some (.int .i64 x263001_2) ∧ w'.cell? ⟨gb262, 2, none⟩ = some (.int .i64 x263002_2) ∧ w'.cell? ⟨gb262, 3, none⟩ = some (.int .i64 x263003_2) ∧ w'.cell? ⟨gb262, 4, none⟩ = some (.int .i64 x263004_2) ∧ w'.cell? ⟨gb262, 5, none⟩ = some (.int .u64 x263005_2) ∧ w'.cell? ⟨gb262, 6, none⟩ = some (.int .u64 x263006_2) ∧ w'.cell? ⟨gb262, 7, none⟩ = some (.int .u64 x263007_2) ∧ w'.cell? (ad267.add (x14_2).toNat) = some (.int .i64 (rd l3 x14_2))) ∧ (w'.heap[gb256]? = some (.cells #[.int .i64 a0_0, .int .i64 a0_1, .int .i64 a0_2, .slice A0_3 l0_3.length c0_3] 26 (0, 0))) ∧ (w'.heap[gb257]? = some (.cells #[.int .i64 a1_0, .int .i64 a1_1, .int .i64 a1_2, .int .i64 a1_3, .int .i64 a1_4, .int .u64 a1_5, .int .u64 a1_6, .int .u64 a1_7, .int .i64 a1_8, .slice A1_9 l1_9.length c1_9] 50 (0, 0))) ∧ (w'.heap[gb258]? = some (.cells #[.int .i64 a2_0, .int .i64 a2_1, .int .i64 a2_2, .int .i64 a2_3, .int .i64 a2_4, .int .u64 a2_5, .int .u64 a2_6, .int .u64 a2_7, .int .i64 a2_8, .slice A2_9 l2_9.length c2_9] 50 (0, 0))) ∧ (w'.heap[gb261]? = some (.cells #[.int .i64 x262000_2, .int .i64 x262001_2, .int .i64 x262002_2, .int .i64 x262003_2, .int .i64 x262004_2, .int .u64 x262005_2, .int .u64 x262006_2, .int .u64 x262007_2] 40 (0, 0))) ∧ (w'.heap[gb262]? = some (.cells #[.int .i64 x263000_2, .int .i64 x263001_2, .int .i64 x263002_2, .int .i64 x263003_2, .int .i64 x263004_2, .int .u64 x263005_2, .int .u64 x263006_2, .int .u64 x263007_2] 40 (0, 0))) ∧ (w'.heap[s_]? = some (.cells #[.int .i64 0, .int .i64 0, .int .i64 0, .int .i64 0, .int .i64 0, .int .u64 0, .int .u64 0, .int .u64 0] 40 (0, 0))) ∧ (w.heap.size ≤ s_) ∧ (w.heap.size ≤ s_) ∧ (gb256 ≠ s_) ∧ (s_ ≠ gb256) ∧ (gb257 ≠ s_) ∧ (s_ ≠ gb257) ∧ (gb258 ≠ s_) ∧ (s_ ≠ gb258) ∧ (gb261 ≠ s_) ∧ (s_ ≠ gb261) ∧ (gb262 ≠ s_) ∧ (s_ ≠ gb262) ∧ (Below w.heap.size w w')) ?_ ?_
         rotate_left
         ·
          intro hCont
          refine two_ (i := 6) (j := 11) (Ni := some 100) (Nj := some 15) (zqB 15 127) (zqB 15 2111) rfl rfl rfl rfl (two_of HT_.out (by kernel_rfl)) (by decide) (by decide) (fun K hK => ?_) (fun K hK => ?_)
          ·
           skip
           refine goes_ Try.func22 (by kernel_rfl) rfl #[.agg #[.int .i64 a0_0, .int .i64 a0_1, .int .i64 a0_2, .slice A0_3 l0_3.length c0_3], .agg #[.int .i64 x263000_2, .int .i64 x263001_2, .int .i64 x263002_2, .int .i64 x263003_2, .int .i64 x263004_2, .int .u64 x263005_2, .int .u64 x263006_2, .int .u64 x263007_2], .int .i64 (rd l3 x14_2)] (by rfl) rfl rfl (by (try simp only [List.map_toArray, List.map_cons, List.map_nil]); first | done | rfl | (simp only [List.length_drop, List.length_take]; rfl)) ?_
           with_reducible refine (state_Move.calls k2 a0_0 a0_1 a0_2 _ _ l0_3 x263000_2 x263001_2 x263002_2 x263003_2 x263004_2 x263005_2 x263006_2 x263007_2 (rd l3 x14_2) t268 t269 t270 t271 t272 t273 t274 t275 t276 false _ ?side1 ?side2 A107.out).mono ?_
           (case side1 => repeat (first | exact (Kd.C_below HR0_3.out HB.out) | (with_reducible refine Kd.C_alloc ?_ _) | (with_reducible refine Kd.C_drewN ?_ _) | (with_reducible refine Kd.C_drew ?_)))
           (case side2 => exact HC0_3.out)
           rintro e w159 ⟨rfl, hb⟩
           refine ⟨_, rfl, ?_⟩
           have n0_ := zqi (zqy BK256.out hb)
           have n1_ := zqi (zqy BK257.out hb)
           have n2_ := zqi (zqy BK258.out hb)
           have n3_ := zqi (zqy BK261.out hb)
           have n4_ := zqi (zqy BK262.out hb)
           have n5_ := zqi (below_step (zqn HB.out) hb)
           clear BK256
           clear BK257
           clear BK258
           clear BK261
           clear BK262
           clear HB
           have BK256 := n0_
           have BK257 := n1_
           have BK258 := n2_
           have BK261 := n3_
           have BK262 := n4_
           have HB := n5_
           clear n0_ n1_ n2_ n3_ n4_ n5_
           (try clear hb)
           (try clear hb2)
           (try clear hk)
           (try clear hi)
           refine hK.out _ _ ⟨(zqe BK256.out 0).trans rfl, (zqe BK256.out 1).trans rfl, (zqe BK256.out 2).trans rfl, (zqe BK256.out 3).trans rfl, (zqe BK262.out 0).trans rfl, (zqe BK262.out 1).trans rfl, (zqe BK262.out 2).trans rfl, (zqe BK262.out 3).trans rfl, (zqe BK262.out 4).trans rfl, (zqe BK262.out 5).trans rfl, (zqe BK262.out 6).trans rfl, (zqe BK262.out 7).trans rfl, ((HB.out.cell (World.block_lt_of_cell? w _ hw267_0)).trans hw267_0)⟩ (fun hHeld => ?_)
           clear hK K
           refine norm_ (a' := ?_) ?_ ?_
           rotate_left
           ·
            show Act.put _ (some 100) _ = _
            simp only [Act.put, List.setIfInBounds_toArray, List.set_cons_zero, List.set_cons_succ, i64_w, i32_w]
            rfl
           refine zqp 7 (some 93) (zqB 15 255) (any_of HT_.out (by kernel_rfl)) (h := ?_)
           refine zqp 8 (some 101) (zqB 15 511) (any_of HT_.out (by kernel_rfl)) (h := ?_)
           refine zqp 9 (some 102) (zqB 15 1023) (any_of HT_.out (by kernel_rfl)) (h := ?_)
           refine zqp 10 (some 103) (zqB 15 2047) (any_of HT_.out (by kernel_rfl)) (h := ?_)
           refine one_ (i := 11) (N := some 15) (zqB 15 4095) rfl rfl (one_of HT_.out (by kernel_rfl)) (by decide) (fun K hK => ?_)
           refine box_step ?hg (N := 15) ?hd (cs := #[.int .i64 0, .int .i64 0, .int .i64 0, .int .i64 0, .int .i64 0, .int .u64 0, .int .u64 0, .int .u64 0]) (t := 40) ?hr ?_; (case hd => rfl); (case hg => rfl); (case hr => first | (go_simp; done) | (go_simp; rfl))
           intro gb278 hg w160 hbox hb
           have n0_ := zqi (zqy BK256.out hb)
           have n1_ := zqi (zqy BK257.out hb)
           have n2_ := zqi (zqy BK258.out hb)
           have n3_ := zqi (zqy BK261.out hb)
           have n4_ := zqi (zqy BK262.out hb)
           have n5_ := zqi (below_step (zqn HB.out) hb)
           have n6_ := zqi (hbox)
           have n7_ := zqi (zqo hg HB.out)
           have n8_ := zqi (zqo hg HB.out)
           have n9_ := zqi ((zqq hg BK256.out))
           have n10_ := zqi ((zqr hg BK256.out))
           have n11_ := zqi ((zqq hg BK257.out))
           have n12_ := zqi ((zqr hg BK257.out))
           have n13_ := zqi ((zqq hg BK258.out))
           have n14_ := zqi ((zqr hg BK258.out))
           have n15_ := zqi ((zqq hg BK261.out))
           have n16_ := zqi ((zqr hg BK261.out))
           have n17_ := zqi ((zqq hg BK262.out))
           have n18_ := zqi ((zqr hg BK262.out))
           clear BK256
           clear BK257
           clear BK258
           clear BK261
           clear BK262
           clear HB
           have BK256 := n0_
           have BK257 := n1_
           have BK258 := n2_
           have BK261 := n3_
           have BK262 := n4_
           have HB := n5_
           have BK278 := n6_
           have GW278 := n7_
           have GE278 := n8_
           have NB256_278 := n9_
           have NB278_256 := n10_
           have NB257_278 := n11_
           have NB278_257 := n12_
           have NB258_278 := n13_
           have NB278_258 := n14_
           have NB261_278 := n15_
           have NB278_261 := n16_
           have NB262_278 := n17_
           have NB278_262 := n18_
           clear n0_ n1_ n2_ n3_ n4_ n5_ n6_ n7_ n8_ n9_ n10_ n11_ n12_ n13_ n14_ n15_ n16_ n17_ n18_
           clear hb hbox hg
           refine hK.out _ _ ⟨(zqe BK256.out 0).trans rfl, (zqe BK256.out 1).trans rfl, (zqe BK256.out 2).trans rfl, (zqe BK256.out 3).trans rfl, (zqe BK262.out 0).trans rfl, (zqe BK262.out 1).trans rfl, (zqe BK262.out 2).trans rfl, (zqe BK262.out 3).trans rfl, (zqe BK262.out 4).trans rfl, (zqe BK262.out 5).trans rfl, (zqe BK262.out 6).trans rfl, (zqe BK262.out 7).trans rfl, ((HB.out.cell (World.block_lt_of_cell? w _ hw267_0)).trans hw267_0)⟩ (fun hHeld => ?_)
           clear hK K
           refine norm_ (a' := ?_) ?_ ?_
           rotate_left
           ·
            show Act.put _ (some 15) _ = _
            simp only [Act.put, List.setIfInBounds_toArray, List.set_cons_zero, List.set_cons_succ, i64_w, i32_w]
            rfl
           exact norm_ (by simp only [putAll, Act.put, List.setIfInBounds_toArray, List.set_cons_zero, List.set_cons_succ]) (hCont (gb278) _ ⟨hHeld, (zqm BK256.out), (zqm BK257.out), (zqm BK258.out), (zqm BK261.out), (zqm BK262.out), (zqm BK278.out), GW278.out, GE278.out, NB256_278.out, NB278_256.out, NB257_278.out, NB278_257.out, NB258_278.out, NB278_258.out, NB261_278.out, NB278_261.out, NB262_278.out, NB278_262.out, (zqn HB.out)⟩)
          ·
           skip
           refine box_step ?hg (N := 15) ?hd (cs := #[.int .i64 0, .int .i64 0, .int .i64 0, .int .i64 0, .int .i64 0, .int .u64 0, .int .u64 0, .int .u64 0]) (t := 40) ?hr ?_; (case hd => rfl); (case hg => rfl); (case hr => first | (go_simp; done) | (go_simp; rfl))
           intro gb278 hg w159 hbox hb
           have n0_ := zqi (zqy BK256.out hb)
           have n1_ := zqi (zqy BK257.out hb)
           have n2_ := zqi (zqy BK258.out hb)
           have n3_ := zqi (zqy BK261.out hb)
           have n4_ := zqi (zqy BK262.out hb)
           have n5_ := zqi (below_step (zqn HB.out) hb)
           have n6_ := zqi (hbox)
           have n7_ := zqi (zqo hg HB.out)
           have n8_ := zqi (zqo hg HB.out)
           have n9_ := zqi ((zqq hg BK256.out))
           have n10_ := zqi ((zqr hg BK256.out))
           have n11_ := zqi ((zqq hg BK257.out))
           have n12_ := zqi ((zqr hg BK257.out))
           have n13_ := zqi ((zqq hg BK258.out))
           have n14_ := zqi ((zqr hg BK258.out))
           have n15_ := zqi ((zqq hg BK261.out))
           have n16_ := zqi ((zqr hg BK261.out))
           have n17_ := zqi ((zqq hg BK262.out))
           have n18_ := zqi ((zqr hg BK262.out))
           clear BK256
           clear BK257
           clear BK258
           clear BK261
           clear BK262
           clear HB
           have BK256 := n0_
           have BK257 := n1_
           have BK258 := n2_
           have BK261 := n3_
           have BK262 := n4_
           have HB := n5_
           have BK278 := n6_
           have GW278 := n7_
           have GE278 := n8_
           have NB256_278 := n9_
           have NB278_256 := n10_
           have NB257_278 := n11_
           have NB278_257 := n12_
           have NB258_278 := n13_
           have NB278_258 := n14_
           have NB261_278 := n15_
           have NB278_261 := n16_
           have NB262_278 := n17_
           have NB278_262 := n18_
           clear n0_ n1_ n2_ n3_ n4_ n5_ n6_ n7_ n8_ n9_ n10_ n11_ n12_ n13_ n14_ n15_ n16_ n17_ n18_
           clear hb hbox hg
           refine hK.out _ _ ⟨(zqe BK256.out 0).trans rfl, (zqe BK256.out 1).trans rfl, (zqe BK256.out 2).trans rfl, (zqe BK256.out 3).trans rfl, (zqe BK262.out 0).trans rfl, (zqe BK262.out 1).trans rfl, (zqe BK262.out 2).trans rfl, (zqe BK262.out 3).trans rfl, (zqe BK262.out 4).trans rfl, (zqe BK262.out 5).trans rfl, (zqe BK262.out 6).trans rfl, (zqe BK262.out 7).trans rfl, ((HB.out.cell (World.block_lt_of_cell? w _ hw267_0)).trans hw267_0)⟩ (fun hHeld => ?_)
           clear hK K
           refine norm_ (a' := ?_) ?_ ?_
           rotate_left
           ·
            show Act.put _ (some 15) _ = _
            simp only [Act.put, List.setIfInBounds_toArray, List.set_cons_zero, List.set_cons_succ, i64_w, i32_w]
            rfl
           refine one_ (i := 6) (N := some 100) (zqB 15 2175) rfl rfl (one_of HT_.out (by kernel_rfl)) (by decide) (fun K hK => ?_)
           refine goes_ Try.func22 (by kernel_rfl) rfl #[.agg #[.int .i64 a0_0, .int .i64 a0_1, .int .i64 a0_2, .slice A0_3 l0_3.length c0_3], .agg #[.int .i64 x263000_2, .int .i64 x263001_2, .int .i64 x263002_2, .int .i64 x263003_2, .int .i64 x263004_2, .int .u64 x263005_2, .int .u64 x263006_2, .int .u64 x263007_2], .int .i64 (rd l3 x14_2)] (by rfl) rfl rfl (by (try simp only [List.map_toArray, List.map_cons, List.map_nil]); first | done | rfl | (simp only [List.length_drop, List.length_take]; rfl)) ?_
           with_reducible refine (state_Move.calls k2 a0_0 a0_1 a0_2 _ _ l0_3 x263000_2 x263001_2 x263002_2 x263003_2 x263004_2 x263005_2 x263006_2 x263007_2 (rd l3 x14_2) t268 t269 t270 t271 t272 t273 t274 t275 t276 false _ ?side1 ?side2 A107.out).mono ?_
           (case side1 => repeat (first | exact (Kd.C_below HR0_3.out HB.out) | (with_reducible refine Kd.C_alloc ?_ _) | (with_reducible refine Kd.C_drewN ?_ _) | (with_reducible refine Kd.C_drew ?_)))
           (case side2 => exact HC0_3.out)
           rintro e w160 ⟨rfl, hb⟩
           refine ⟨_, rfl, ?_⟩
           have n0_ := zqi (zqy BK256.out hb)
           have n1_ := zqi (zqy BK257.out hb)
           have n2_ := zqi (zqy BK258.out hb)
           have n3_ := zqi (zqy BK261.out hb)
           have n4_ := zqi (zqy BK262.out hb)
           have n5_ := zqi (zqy BK278.out hb)
           have n6_ := zqi (below_step (zqn HB.out) hb)
           clear BK256
           clear BK257
           clear BK258
           clear BK261
           clear BK262
           clear BK278
           clear HB
           have BK256 := n0_
           have BK257 := n1_
           have BK258 := n2_
           have BK261 := n3_
           have BK262 := n4_
           have BK278 := n5_
           have HB := n6_
           clear n0_ n1_ n2_ n3_ n4_ n5_ n6_
           (try clear hb)
           (try clear hb2)
           (try clear hk)
           (try clear hi)
           refine hK.out _ _ ⟨(zqe BK256.out 0).trans rfl, (zqe BK256.out 1).trans rfl, (zqe BK256.out 2).trans rfl, (zqe BK256.out 3).trans rfl, (zqe BK262.out 0).trans rfl, (zqe BK262.out 1).trans rfl, (zqe BK262.out 2).trans rfl, (zqe BK262.out 3).trans rfl, (zqe BK262.out 4).trans rfl, (zqe BK262.out 5).trans rfl, (zqe BK262.out 6).trans rfl, (zqe BK262.out 7).trans rfl, ((HB.out.cell (World.block_lt_of_cell? w _ hw267_0)).trans hw267_0)⟩ (fun hHeld => ?_)
           clear hK K
           refine norm_ (a' := ?_) ?_ ?_
           rotate_left
           ·
            show Act.put _ (some 100) _ = _
            simp only [Act.put, List.setIfInBounds_toArray, List.set_cons_zero, List.set_cons_succ, i64_w, i32_w]
            rfl
           refine zqp 7 (some 93) (zqB 15 2303) (any_of HT_.out (by kernel_rfl)) (h := ?_)
           refine zqp 8 (some 101) (zqB 15 2559) (any_of HT_.out (by kernel_rfl)) (h := ?_)
           refine zqp 9 (some 102) (zqB 15 3071) (any_of HT_.out (by kernel_rfl)) (h := ?_)
           refine zqp 10 (some 103) (zqB 15 4095) (any_of HT_.out (by kernel_rfl)) (h := ?_)
           exact norm_ (by simp only [putAll, Act.put, List.setIfInBounds_toArray, List.set_cons_zero, List.set_cons_succ]) (hCont (gb278) _ ⟨hHeld, (zqm BK256.out), (zqm BK257.out), (zqm BK258.out), (zqm BK261.out), (zqm BK262.out), (zqm BK278.out), GW278.out, GE278.out, NB256_278.out, NB278_256.out, NB257_278.out, NB278_257.out, NB258_278.out, NB278_258.out, NB261_278.out, NB278_261.out, NB262_278.out, NB278_262.out, (zqn HB.out)⟩)
         rintro gb278 w161 ⟨hS_, h0_, h1_, h2_, h3_, h4_, h5_, h6_, h7_, h8_, h9_, h10_, h11_, h12_, h13_, h14_, h15_, h16_, h17_, h18_⟩
         have n0_ : Aside0 (w161.heap[gb256]? = some (.cells #[.int .i64 a0_0, .int .i64 a0_1, .int .i64 a0_2, .slice A0_3 l0_3.length c0_3] 26 (0, 0))) := ⟨h0_⟩
         have n1_ : Aside0 (w161.heap[gb257]? = some (.cells #[.int .i64 a1_0, .int .i64 a1_1, .int .i64 a1_2, .int .i64 a1_3, .int .i64 a1_4, .int .u64 a1_5, .int .u64 a1_6, .int .u64 a1_7, .int .i64 a1_8, .slice A1_9 l1_9.length c1_9] 50 (0, 0))) := ⟨h1_⟩
         have n2_ : Aside0 (w161.heap[gb258]? = some (.cells #[.int .i64 a2_0, .int .i64 a2_1, .int .i64 a2_2, .int .i64 a2_3, .int .i64 a2_4, .int .u64 a2_5, .int .u64 a2_6, .int .u64 a2_7, .int .i64 a2_8, .slice A2_9 l2_9.length c2_9] 50 (0, 0))) := ⟨h2_⟩
         have n3_ : Aside0 (w161.heap[gb261]? = some (.cells #[.int .i64 x262000_2, .int .i64 x262001_2, .int .i64 x262002_2, .int .i64 x262003_2, .int .i64 x262004_2, .int .u64 x262005_2, .int .u64 x262006_2, .int .u64 x262007_2] 40 (0, 0))) := ⟨h3_⟩
         have n4_ : Aside0 (w161.heap[gb262]? = some (.cells #[.int .i64 x263000_2, .int .i64 x263001_2, .int .i64 x263002_2, .int .i64 x263003_2, .int .i64 x263004_2, .int .u64 x263005_2, .int .u64 x263006_2, .int .u64 x263007_2] 40 (0, 0))) := ⟨h4_⟩
         have n5_ : Aside0 (w161.heap[gb278]? = some (.cells #[.int .i64 0, .int .i64 0, .int .i64 0, .int .i64 0, .int .i64 0, .int .u64 0, .int .u64 0, .int .u64 0] 40 (0, 0))) := ⟨h5_⟩
         have n6_ : Aside0 (w.heap.size ≤ gb278) := ⟨h6_⟩
         have n7_ : Aside0 (w.heap.size ≤ gb278) := ⟨h7_⟩
         have n8_ : Aside0 (gb256 ≠ gb278) := ⟨h8_⟩
         have n9_ : Aside0 (gb278 ≠ gb256) := ⟨h9_⟩
         have n10_ : Aside0 (gb257 ≠ gb278) := ⟨h10_⟩
         have n11_ : Aside0 (gb278 ≠ gb257) := ⟨h11_⟩
         have n12_ : Aside0 (gb258 ≠ gb278) := ⟨h12_⟩
         have n13_ : Aside0 (gb278 ≠ gb258) := ⟨h13_⟩
         have n14_ : Aside0 (gb261 ≠ gb278) := ⟨h14_⟩
         have n15_ : Aside0 (gb278 ≠ gb261) := ⟨h15_⟩
         have n16_ : Aside0 (gb262 ≠ gb278) := ⟨h16_⟩
         have n17_ : Aside0 (gb278 ≠ gb262) := ⟨h17_⟩
         have n18_ : Aside0 (Below w.heap.size w w161) := ⟨h18_⟩
         clear BK256
         clear BK257
         clear BK258
         clear BK261
         clear BK262
         clear HB
         clear h0_ h1_ h2_ h3_ h4_ h5_ h6_ h7_ h8_ h9_ h10_ h11_ h12_ h13_ h14_ h15_ h16_ h17_ h18_
         have BK256 := n0_
         have BK257 := n1_
         have BK258 := n2_
         have BK261 := n3_
         have BK262 := n4_
         have BK278 := n5_
         have GW278 := n6_
         have GE278 := n7_
         have NB256_278 := n8_
         have NB278_256 := n9_
         have NB257_278 := n10_
         have NB278_257 := n11_
         have NB258_278 := n12_
         have NB278_258 := n13_
         have NB261_278 := n14_
         have NB278_261 := n15_
         have NB262_278 := n16_
         have NB278_262 := n17_
         have HB := n18_
         clear n0_ n1_ n2_ n3_ n4_ n5_ n6_ n7_ n8_ n9_ n10_ n11_ n12_ n13_ n14_ n15_ n16_ n17_ n18_
         have hHeld : w161.cell? ⟨gb256, 0, none⟩ = some (.int .i64 a0_0) ∧ w161.cell? ⟨gb256, 1, none⟩ = some (.int .i64 a0_1) ∧ w161.cell? ⟨gb256, 2, none⟩ = some (.int .i64 a0_2) ∧ w161.cell? ⟨gb256, 3, none⟩ = some (.slice A0_3 l0_3.length c0_3) ∧ w161.cell? ⟨gb262, 0, none⟩ = some (.int .i64 x263000_2) ∧ w161.cell? ⟨gb262, 1, none⟩ = some (.int .i64 x263001_2) ∧ w161.cell? ⟨gb262, 2, none⟩ = some (.int .i64 x263002_2) ∧ w161.cell? ⟨gb262, 3, none⟩ = some (.int .i64 x263003_2) ∧ w161.cell? ⟨gb262, 4, none⟩ = some (.int .i64 x263004_2) ∧ w161.cell? ⟨gb262, 5, none⟩ = some (.int .u64 x263005_2) ∧ w161.cell? ⟨gb262, 6, none⟩ = some (.int .u64 x263006_2) ∧ w161.cell? ⟨gb262, 7, none⟩ = some (.int .u64 x263007_2) ∧ w161.cell? (ad267.add (x14_2).toNat) = some (.int .i64 (rd l3 x14_2)) := hS_
         refine norm_ (a' := ?_) ?_ ?_
         rotate_left
         ·
          simp only [putAll, Act.put, List.setIfInBounds_toArray, List.set_cons_zero, List.set_cons_succ]
          rfl
         refine one_ (i := 12) (N := none) (zqB 15 8191) rfl rfl (one_of HT_.out (by kernel_rfl)) (by decide) (fun K hK => ?_)
         have hs162 : w161.cell? ⟨gb278, 0, none⟩ = some (.int .i64 0) := (zqe BK278.out 0).trans rfl
         have hfs162 := zqd BK278.out 0
         have hns162_0 := NB256_278.out
         have hns162_1 := NB257_278.out
         have hns162_2 := NB258_278.out
         have hns162_3 := NB261_278.out
         have hns162_4 := NB262_278.out
         have hms162_0 := NB278_256.out
         have hms162_1 := NB278_257.out
         have hms162_2 := NB278_258.out
         have hms162_3 := NB278_261.out
         have hms162_4 := NB278_262.out
         have hs163 : w161.cell? ⟨gb278, 1, none⟩ = some (.int .i64 0) := (zqe BK278.out 1).trans rfl
         have hfs163 := zqd BK278.out 1
         have hns163_0 := NB256_278.out
         have hns163_1 := NB257_278.out
         have hns163_2 := NB258_278.out
         have hns163_3 := NB261_278.out
         have hns163_4 := NB262_278.out
         have hms163_0 := NB278_256.out
         have hms163_1 := NB278_257.out
         have hms163_2 := NB278_258.out
         have hms163_3 := NB278_261.out
         have hms163_4 := NB278_262.out
         have hs164 : w161.cell? ⟨gb278, 2, none⟩ = some (.int .i64 0) := (zqe BK278.out 2).trans rfl
         have hfs164 := zqd BK278.out 2
         have hns164_0 := NB256_278.out
         have hns164_1 := NB257_278.out
         have hns164_2 := NB258_278.out
         have hns164_3 := NB261_278.out
         have hns164_4 := NB262_278.out
         have hms164_0 := NB278_256.out
         have hms164_1 := NB278_257.out
         have hms164_2 := NB278_258.out
         have hms164_3 := NB278_261.out
         have hms164_4 := NB278_262.out
         have hs165 : w161.cell? ⟨gb278, 3, none⟩ = some (.int .i64 0) := (zqe BK278.out 3).trans rfl
         have hfs165 := zqd BK278.out 3
         have hns165_0 := NB256_278.out
         have hns165_1 := NB257_278.out
         have hns165_2 := NB258_278.out
         have hns165_3 := NB261_278.out
         have hns165_4 := NB262_278.out
         have hms165_0 := NB278_256.out
         have hms165_1 := NB278_257.out
         have hms165_2 := NB278_258.out
         have hms165_3 := NB278_261.out
         have hms165_4 := NB278_262.out
         have hs166 : w161.cell? ⟨gb278, 4, none⟩ = some (.int .i64 0) := (zqe BK278.out 4).trans rfl
         have hfs166 := zqd BK278.out 4
         have hns166_0 := NB256_278.out
         have hns166_1 := NB257_278.out
         have hns166_2 := NB258_278.out
         have hns166_3 := NB261_278.out
         have hns166_4 := NB262_278.out
         have hms166_0 := NB278_256.out
         have hms166_1 := NB278_257.out
         have hms166_2 := NB278_258.out
         have hms166_3 := NB278_261.out
         have hms166_4 := NB278_262.out
         have hs167 : w161.cell? ⟨gb278, 5, none⟩ = some (.int .u64 0) := (zqe BK278.out 5).trans rfl
         have hfs167 := zqd BK278.out 5
         have hns167_0 := NB256_278.out
         have hns167_1 := NB257_278.out
         have hns167_2 := NB258_278.out
         have hns167_3 := NB261_278.out
         have hns167_4 := NB262_278.out
         have hms167_0 := NB278_256.out
         have hms167_1 := NB278_257.out
         have hms167_2 := NB278_258.out
         have hms167_3 := NB278_261.out
         have hms167_4 := NB278_262.out
         have hs168 : w161.cell? ⟨gb278, 6, none⟩ = some (.int .u64 0) := (zqe BK278.out 6).trans rfl
         have hfs168 := zqd BK278.out 6
         have hns168_0 := NB256_278.out
         have hns168_1 := NB257_278.out
         have hns168_2 := NB258_278.out
         have hns168_3 := NB261_278.out
         have hns168_4 := NB262_278.out
         have hms168_0 := NB278_256.out
         have hms168_1 := NB278_257.out
         have hms168_2 := NB278_258.out
         have hms168_3 := NB278_261.out
         have hms168_4 := NB278_262.out
         have hs169 : w161.cell? ⟨gb278, 7, none⟩ = some (.int .u64 0) := (zqe BK278.out 7).trans rfl
         have hfs169 := zqd BK278.out 7
         have hns169_0 := NB256_278.out
         have hns169_1 := NB257_278.out
         have hns169_2 := NB258_278.out
         have hns169_3 := NB261_278.out
         have hns169_4 := NB262_278.out
         have hms169_0 := NB278_256.out
         have hms169_1 := NB278_257.out
         have hms169_2 := NB278_258.out
         have hms169_3 := NB278_261.out
         have hms169_4 := NB278_262.out
         refine skip_ (w1 := ?_) (by rfl) rfl ?_ ?_
         rotate_left
         ·
          go_simp
          rfl
         refine hK.out _ _ ⟨((zqk NB256_278.out).trans (((zqk NB256_278.out).trans (((zqk NB256_278.out).trans (((zqk NB256_278.out).trans (((zqk NB256_278.out).trans (((zqk NB256_278.out).trans (((zqk NB256_278.out).trans (((zqk NB256_278.out).trans (hHeld.1)))))))))))))))), ((zqk NB256_278.out).trans (((zqk NB256_278.out).trans (((zqk NB256_278.out).trans (((zqk NB256_278.out).trans (((zqk NB256_278.out).trans (((zqk NB256_278.out).trans (((zqk NB256_278.out).trans (((zqk NB256_278.out).trans (hHeld.2.1)))))))))))))))), ((zqk NB256_278.out).trans (((zqk NB256_278.out).trans (((zqk NB256_278.out).trans (((zqk NB256_278.out).trans (((zqk NB256_278.out).trans (((zqk NB256_278.out).trans (((zqk NB256_278.out).trans (((zqk NB256_278.out).trans (hHeld.2.2.1)))))))))))))))), ((zqk NB256_278.out).trans (((zqk NB256_278.out).trans (((zqk NB256_278.out).trans (((zqk NB256_278.out).trans (((zqk NB256_278.out).trans (((zqk NB256_278.out).trans (((zqk NB256_278.out).trans (((zqk NB256_278.out).trans (hHeld.2.2.2.1)))))))))))))))), ((zqk NB262_278.out).trans (((zqk NB262_278.out).trans (((zqk NB262_278.out).trans (((zqk NB262_278.out).trans (((zqk NB262_278.out).trans (((zqk NB262_278.out).trans (((zqk NB262_278.out).trans (((zqk NB262_278.out).trans (hHeld.2.2.2.2.1)))))))))))))))), ((zqk NB262_278.out).trans (((zqk NB262_278.out).trans (((zqk NB262_278.out).trans (((zqk NB262_278.out).trans (((zqk NB262_278.out).trans (((zqk NB262_278.out).trans (((zqk NB262_278.out).trans (((zqk NB262_278.out).trans (hHeld.2.2.2.2.2.1)))))))))))))))), ((zqk NB262_278.out).trans (((zqk NB262_278.out).trans (((zqk NB262_278.out).trans (((zqk NB262_278.out).trans (((zqk NB262_278.out).trans (((zqk NB262_278.out).trans (((zqk NB262_278.out).trans (((zqk NB262_278.out).trans (hHeld.2.2.2.2.2.2.1)))))))))))))))), ((zqk NB262_278.out).trans (((zqk NB262_278.out).trans (((zqk NB262_278.out).trans (((zqk NB262_278.out).trans (((zqk NB262_278.out).trans (((zqk NB262_278.out).trans (((zqk NB262_278.out).trans (((zqk NB262_278.out).trans (hHeld.2.2.2.2.2.2.2.1)))))))))))))))), ((zqk NB262_278.out).trans (((zqk NB262_278.out).trans (((zqk NB262_278.out).trans (((zqk NB262_278.out).trans (((zqk NB262_278.out).trans (((zqk NB262_278.out).trans (((zqk NB262_278.out).trans (((zqk NB262_278.out).trans (hHeld.2.2.2.2.2.2.2.2.1)))))))))))))))), ((zqk NB262_278.out).trans (((zqk NB262_278.out).trans (((zqk NB262_278.out).trans (((zqk NB262_278.out).trans (((zqk NB262_278.out).trans (((zqk NB262_278.out).trans (((zqk NB262_278.out).trans (((zqk NB262_278.out).trans (hHeld.2.2.2.2.2.2.2.2.2.1)))))))))))))))), ((zqk NB262_278.out).trans (((zqk NB262_278.out).trans (((zqk NB262_278.out).trans (((zqk NB262_278.out).trans (((zqk NB262_278.out).trans (((zqk NB262_278.out).trans (((zqk NB262_278.out).trans (((zqk NB262_278.out).trans (hHeld.2.2.2.2.2.2.2.2.2.2.1)))))))))))))))), ((zqk NB262_278.out).trans (((zqk NB262_278.out).trans (((zqk NB262_278.out).trans (((zqk NB262_278.out).trans (((zqk NB262_278.out).trans (((zqk NB262_278.out).trans (((zqk NB262_278.out).trans (((zqk NB262_278.out).trans (hHeld.2.2.2.2.2.2.2.2.2.2.2.1)))))))))))))))), ((zqk (by first | exact zql hw267_0 GW278.out | (rw [add_block]; exact zql hw267_0 GW278.out) | (show (Addr.add _ _).block ≠ _; rw [add_block]; exact zql hw267_0 GW278.out) | (dsimp only; exact zql hw267_0 GW278.out))).trans (((zqk (by first | exact zql hw267_0 GW278.out | (rw [add_block]; exact zql hw267_0 GW278.out) | (show (Addr.add _ _).block ≠ _; rw [add_block]; exact zql hw267_0 GW278.out) | (dsimp only; exact zql hw267_0 GW278.out))).trans (((zqk (by first | exact zql hw267_0 GW278.out | (rw [add_block]; exact zql hw267_0 GW278.out) | (show (Addr.add _ _).block ≠ _; rw [add_block]; exact zql hw267_0 GW278.out) | (dsimp only; exact zql hw267_0 GW278.out))).trans (((zqk (by first | exact zql hw267_0 GW278.out | (rw [add_block]; exact zql hw267_0 GW278.out) | (show (Addr.add _ _).block ≠ _; rw [add_block]; exact zql hw267_0 GW278.out) | (dsimp only; exact zql hw267_0 GW278.out))).trans (((zqk (by first | exact zql hw267_0 GW278.out | (rw [add_block]; exact zql hw267_0 GW278.out) | (show (Addr.add _ _).block ≠ _; rw [add_block]; exact zql hw267_0 GW278.out) | (dsimp only; exact zql hw267_0 GW278.out))).trans (((zqk (by first | exact zql hw267_0 GW278.out | (rw [add_block]; exact zql hw267_0 GW278.out) | (show (Addr.add _ _).block ≠ _; rw [add_block]; exact zql hw267_0 GW278.out) | (dsimp only; exact zql hw267_0 GW278.out))).trans (((zqk (by first | exact zql hw267_0 GW278.out | (rw [add_block]; exact zql hw267_0 GW278.out) | (show (Addr.add _ _).block ≠ _; rw [add_block]; exact zql hw267_0 GW278.out) | (dsimp only; exact zql hw267_0 GW278.out))).trans (((zqk (by first | exact zql hw267_0 GW278.out | (rw [add_block]; exact zql hw267_0 GW278.out) | (show (Addr.add _ _).block ≠ _; rw [add_block]; exact zql hw267_0 GW278.out) | (dsimp only; exact zql hw267_0 GW278.out))).trans (hHeld.2.2.2.2.2.2.2.2.2.2.2.2))))))))))))))))⟩ (fun hHeld => ?_)
         clear hK K
         refine zqp 13 (some 16) (zqB 15 16383) (any_of HT_.out (by kernel_rfl)) (h := ?_)
         refine zqp 14 (some 17) (zqB 15 32767) (any_of HT_.out (by kernel_rfl)) (h := ?_)
         refine done_ (done_of HT_.out (by kernel_rfl)) ?_
         try go_wp2
         generalize hW_ : ((((((((w161.setCell ⟨gb278, 0, none⟩ (.int .i64 t268)).setCell ⟨gb278, 1, none⟩ (.int .i64 t269)).setCell ⟨gb278, 2, none⟩ (.int .i64 t270)).setCell ⟨gb278, 3, none⟩ (.int .i64 t271)).setCell ⟨gb278, 4, none⟩ (.int .i64 t272)).setCell ⟨gb278, 5, none⟩ (.int .u64 t273)).setCell ⟨gb278, 6, none⟩ (.int .u64 t274)).setCell ⟨gb278, 7, none⟩ (.int .u64 t275)) = w170
         have n0_ : Aside0 (w170.heap[gb256]? = some (.cells #[.int .i64 a0_0, .int .i64 a0_1, .int .i64 a0_2, .slice A0_3 l0_3.length c0_3] 26 (0, 0))) := ⟨by subst hW_; (repeat (with_reducible first | apply zqa | apply zqb | apply zqc | refine blk_far ?_ NB256_278.out _)); exact BK256.out⟩
         have n1_ : Aside0 (w170.heap[gb257]? = some (.cells #[.int .i64 a1_0, .int .i64 a1_1, .int .i64 a1_2, .int .i64 a1_3, .int .i64 a1_4, .int .u64 a1_5, .int .u64 a1_6, .int .u64 a1_7, .int .i64 a1_8, .slice A1_9 l1_9.length c1_9] 50 (0, 0))) := ⟨by subst hW_; (repeat (with_reducible first | apply zqa | apply zqb | apply zqc | refine blk_far ?_ NB257_278.out _)); exact BK257.out⟩
         have n2_ : Aside0 (w170.heap[gb258]? = some (.cells #[.int .i64 a2_0, .int .i64 a2_1, .int .i64 a2_2, .int .i64 a2_3, .int .i64 a2_4, .int .u64 a2_5, .int .u64 a2_6, .int .u64 a2_7, .int .i64 a2_8, .slice A2_9 l2_9.length c2_9] 50 (0, 0))) := ⟨by subst hW_; (repeat (with_reducible first | apply zqa | apply zqb | apply zqc | refine blk_far ?_ NB258_278.out _)); exact BK258.out⟩
         have n3_ : Aside0 (w170.heap[gb261]? = some (.cells #[.int .i64 x262000_2, .int .i64 x262001_2, .int .i64 x262002_2, .int .i64 x262003_2, .int .i64 x262004_2, .int .u64 x262005_2, .int .u64 x262006_2, .int .u64 x262007_2] 40 (0, 0))) := ⟨by subst hW_; (repeat (with_reducible first | apply zqa | apply zqb | apply zqc | refine blk_far ?_ NB261_278.out _)); exact BK261.out⟩
         have n4_ : Aside0 (w170.heap[gb262]? = some (.cells #[.int .i64 x263000_2, .int .i64 x263001_2, .int .i64 x263002_2, .int .i64 x263003_2, .int .i64 x263004_2, .int .u64 x263005_2, .int .u64 x263006_2, .int .u64 x263007_2] 40 (0, 0))) := ⟨by subst hW_; (repeat (with_reducible first | apply zqa | apply zqb | apply zqc | refine blk_far ?_ NB262_278.out _)); exact BK262.out⟩
         have n5_ : Aside0 (w170.heap[gb278]? = some (.cells #[.int .i64 t268, .int .i64 t269, .int .i64 t270, .int .i64 t271, .int .i64 t272, .int .u64 t273, .int .u64 t274, .int .u64 t275] 40 (0, 0))) := ⟨by subst hW_; exact zqC (blk_set (blk_set (blk_set (blk_set (blk_set (blk_set (blk_set (blk_set BK278.out 0 _) 1 _) 2 _) 3 _) 4 _) 5 _) 6 _) 7 _) (by simp only [List.setIfInBounds_toArray, List.set_cons_zero, List.set_cons_succ])⟩
         have n6_ : Aside0 (Below w.heap.size w w170) := ⟨by subst hW_; repeat (first | (with_reducible first | exact HB.out | apply zqg | apply zqf | apply zqh | refine below_set ?_ GE256.out | refine below_set ?_ GE257.out | refine below_set ?_ GE258.out | refine below_set ?_ GE261.out | refine below_set ?_ GE262.out | refine below_set ?_ GE278.out) | exact HB.out)⟩
         clear hW_
         (try clear BK256)
         (try clear BK257)
         (try clear BK258)
         (try clear BK261)
         (try clear BK262)
         (try clear BK278)
         (try clear HB)
         have BK256 := n0_
         have BK257 := n1_
         have BK258 := n2_
         have BK261 := n3_
         have BK262 := n4_
         have BK278 := n5_
         have HB := n6_
         clear n0_ n1_ n2_ n3_ n4_ n5_ n6_
         have n0_ := zqi (zqb BK256.out)
         have n1_ := zqi (zqb BK257.out)
         have n2_ := zqi (zqb BK258.out)
         have n3_ := zqi (zqb BK261.out)
         have n4_ := zqi (zqb BK262.out)
         have n5_ := zqi (zqb BK278.out)
         have n6_ := zqi (zqh HB.out)
         clear BK256
         clear BK257
         clear BK258
         clear BK261
         clear BK262
         clear BK278
         clear HB
         have BK256 := n0_
         have BK257 := n1_
         have BK258 := n2_
         have BK261 := n3_
         have BK262 := n4_
         have BK278 := n5_
         have HB := n6_
         clear n0_ n1_ n2_ n3_ n4_ n5_ n6_
         have p279 : 0 ≤ (x14_2 : Int) := of_decide_eq_true (by first | (with_reducible assumption) | assumption)
         have q279 : x14_2 < (l3.length : Int) := of_decide_eq_true (by first | (with_reducible assumption) | assumption)
         obtain ⟨ad279, e279, hx279_0⟩ := Kd.at_int HR3.out x14_2 p279 q279
         have hw279_0 := hx279_0
         obtain rfl : ad267 = ad279 := (by injection e279)
         replace hx279_0 := (HB.out.cell (World.block_lt_of_cell? w _ hx279_0)).trans hx279_0
         replace p279 := eq_true p279
         replace q279 := eq_true q279
         refine start_ (n := 15) (S := fun w' => w'.cell? ⟨gb256, 0, none⟩ = some (.int .i64 a0_0) ∧ w'.cell? ⟨gb256, 1, none⟩ = some (.int .i64 a0_1) ∧ w'.cell? ⟨gb256, 2, none⟩ = some (.int .i64 a0_2) ∧ w'.cell? ⟨gb256, 3, none⟩ = some (.slice A0_3 l0_3.length c0_3) ∧ w'.cell? ⟨gb261, 0, none⟩ = some (.int .i64 x262000_2) ∧ w'.cell? ⟨gb261, 1, none⟩ = some (.int .i64 x262001_2) ∧ w'.cell? ⟨gb261, 2, none⟩ = some (.int .i64 x262002_2) ∧ w'.cell? ⟨gb261, 3, none⟩ = some (.int .i64 x262003_2) ∧ w'.cell? ⟨gb261, 4, none⟩ = some (.int .i64 x262004_2) ∧ w'.cell? ⟨gb261, 5, none⟩ = some (.int .u64 x262005_2) ∧ w'.cell? ⟨gb261, 6, none⟩ = some (.int .u64 x262006_2) ∧ w'.cell? ⟨gb261, 7, none⟩ = some (.int .u64 x262007_2) ∧ w'.cell? (ad267.add (x14_2).toNat) = some (.int .i64 (rd l3 x14_2))) (ds := []) (zqB 15 0) (by kernel_rfl) rfl rfl ⟨(zqe BK256.out 0).trans rfl, (zqe BK256.out 1).trans rfl, (zqe BK256.out 2).trans rfl, (zqe BK256.out 3).trans rfl, (zqe BK261.out 0).trans rfl, (zqe BK261.out 1).trans rfl, (zqe BK261.out 2).trans rfl, (zqe BK261.out 3).trans rfl, (zqe BK261.out 4).trans rfl, (zqe BK261.out 5).trans rfl, (zqe BK261.out 6).trans rfl, (zqe BK261.out 7).trans rfl, ((HB.out.cell (World.block_lt_of_cell? w _ hw279_0)).trans hw279_0)⟩ (fun hHeld => ?_); refine with_tabW haulierlaw13_BetterWays.tab12 haulierlaw13_BetterWays.bits12 (fun HT_ HW_ => ?_)
         generalize w170.drew = w171 at BK256 BK257 BK258 BK261 BK262 BK278 HB hx279_0 hHeld ⊢
         refine zqp 2 (some 107) (zqB 15 4) (any_of HT_.out (by kernel_rfl)) (h := ?_)
         refine zqp 3 (some 108) (zqB 15 12) (any_of HT_.out (by kernel_rfl)) (h := ?_)
         refine zqp 4 (some 109) (zqB 15 28) (any_of HT_.out (by kernel_rfl)) (h := ?_)
         refine zqt 0 (some 105) (zqB 15 29) (take_ofW HT_.out HW_.out (by kernel_rfl)) hHeld (h := ?_)
         refine zqt 1 (some 106) (zqB 15 31) (take_ofW HT_.out HW_.out (by kernel_rfl)) hHeld (h := ?_)
         refine zqt 5 (some 110) (zqB 15 63) (take_ofW HT_.out HW_.out (by kernel_rfl)) hHeld (h := ?_)
         refine join_ (σ := Nat) 3 (zqB 15 4095) (fun s_ => [(111, .tuple #[.agg #[.int .i64 t280, .int .i64 t281, .int .i64 t282, .int .i64 t283, .int .i64 t284, .int .u64 t285, .int .u64 t286, .int .u64 t287], .int .i64 t288, .bool t289]), (18, .pointer (some ⟨s_, 0, none⟩)), (104, .tuple #[.agg #[.int .i64 t280, .int .i64 t281, .int .i64 t282, .int .i64 t283, .int .i64 t284, .int .u64 t285, .int .u64 t286, .int .u64 t287], .int .i64 t288, .bool t289]), (112, .agg #[.int .i64 t280, .int .i64 t281, .int .i64 t282, .int .i64 t283, .int .i64 t284, .int .u64 t285, .int .u64 t286, .int .u64 t287]), (113, .int .i64 t288), (114, .bool t289)]) (fun s_ w' => (w'.cell? ⟨gb256, 0, none⟩ = some (.int .i64 a0_0) ∧ w'.cell? ⟨gb256, 1, none⟩ = some (.int .i64 a0_1) ∧ w'.cell? ⟨gb256, 2, none⟩ = some (.int .i64 a0_2) ∧ w'.cell? ⟨gb256, 3, none⟩ = some (.slice A0_3 l0_3.length c0_3) ∧ w'.cell? ⟨gb261, 0, none⟩ = some (.int .i64 x262000_2) ∧ w'.cell? ⟨gb261, 1, none⟩ = some (.int .i64 x262001_2) ∧ w'.cell? ⟨gb261, 2, none⟩ = some (.int .i64 x262002_2) ∧ w'.cell? ⟨gb261, 3, none⟩ = some (.int .i64 x262003_2) ∧ w'.cell? ⟨gb261, 4, none⟩ = some (.int .i64 x262004_2) ∧ w'.cell? ⟨gb261, 5, none⟩ = some (.int .u64 x262005_2) ∧ w'.cell? ⟨gb261, 6, none⟩ = some (.int .u64 x262006_2) ∧ w'.cell? ⟨gb261, 7, none⟩ = some (.int .u64 x262007_2) ∧ w'.cell? (ad267.add (x14_2).toNat) = some (.int .i64 (rd l3 x14_2))) ∧ (w'.heap[gb256]? = some (.cells #[.int .i64 a0_0, .int .i64 a0_1, .int .i64 a0_2, .slice A0_3 l0_3.length c0_3] 26 (0, 0))) ∧ (w'.heap[gb257]? = some (.cells #[.int .i64 a1_0, .int .i64 a1_1, .int .i64 a1_2, .int .i64 a1_3, .int .i64 a1_4, .int .u64 a1_5, .int .u64 a1_6, .int .u64 a1_7, .int .i64 a1_8, .slice A1_9 l1_9.length c1_9] 50 (0, 0))) ∧ (w'.heap[gb258]? = some (.cells #[.int .i64 a2_0, .int .i64 a2_1, .int .i64 a2_2, .int .i64 a2_3, .int .i64 a2_4, .int .u64 a2_5, .int .u64 a2_6, .int .u64 a2_7, .int .i64 a2_8, .slice A2_9 l2_9.length c2_9] 50 (0, 0))) ∧ (w'.heap[gb261]? = some (.cells #[.int .i64 x262000_2, .int .i64 x262001_2, .int .i64 x262002_2, .int .i64 x262003_2, .int .i64 x262004_2, .int .u64 x262005_2, .int .u64 x262006_2, .int .u64 x262007_2] 40 (0, 0))) ∧ (w'.heap[gb262]? = some (.cells #[.int .i64 x263000_2, .int .i64 x263001_2, .int .i64 x263002_2, .int .i64 x263003_2, .int .i64 x263004_2, .int .u64 x263005_2, .int .u64 x263006_2, .int .u64 x263007_2] 40 (0, 0))) ∧ (w'.heap[gb278]? = some (.cells #[.int .i64 t268, .int .i64 t269, .int .i64 t270, .int .i64 t271, .int .i64 t272, .int .u64 t273, .int .u64 t274, .int .u64 t275] 40 (0, 0))) ∧ (w'.heap[s_]? = some (.cells #[.int .i64 0, .int .i64 0, .int .i64 0, .int .i64 0, .int .i64 0, .int .u64 0, .int .u64 0, .int .u64 0] 40 (0, 0))) ∧ (w.heap.size ≤ s_) ∧ (w.heap.size ≤ s_) ∧ (gb256 ≠ s_) ∧ (s_ ≠ gb256) ∧ (gb257 ≠ s_) ∧ (s_ ≠ gb257) ∧ (gb258 ≠ s_) ∧ (s_ ≠ gb258) ∧ (gb261 ≠ s_) ∧ (s_ ≠ gb261) ∧ (gb262 ≠ s_) ∧ (s_ ≠ gb262) ∧ (gb278 ≠ s_) ∧ (s_ ≠ gb278) ∧ (Below w.heap.size w w')) ?_ ?_
         rotate_left
         ·
          intro hCont
          refine two_ (i := 6) (j := 11) (Ni := some 111) (Nj := some 18) (zqB 15 127) (zqB 15 2111) rfl rfl rfl rfl (two_of HT_.out (by kernel_rfl)) (by decide) (by decide) (fun K hK => ?_) (fun K hK => ?_)
          ·
           skip
           refine goes_ Try.func22 (by kernel_rfl) rfl #[.agg #[.int .i64 a0_0, .int .i64 a0_1, .int .i64 a0_2, .slice A0_3 l0_3.length c0_3], .agg #[.int .i64 x262000_2, .int .i64 x262001_2, .int .i64 x262002_2, .int .i64 x262003_2, .int .i64 x262004_2, .int .u64 x262005_2, .int .u64 x262006_2, .int .u64 x262007_2], .int .i64 (rd l3 x14_2)] (by rfl) rfl rfl (by (try simp only [List.map_toArray, List.map_cons, List.map_nil]); first | done | rfl | (simp only [List.length_drop, List.length_take]; rfl)) ?_
           with_reducible refine (state_Move.calls k2 a0_0 a0_1 a0_2 _ _ l0_3 x262000_2 x262001_2 x262002_2 x262003_2 x262004_2 x262005_2 x262006_2 x262007_2 (rd l3 x14_2) t280 t281 t282 t283 t284 t285 t286 t287 t288 t289 _ ?side1 ?side2 A108.out).mono ?_
           (case side1 => repeat (first | exact (Kd.C_below HR0_3.out HB.out) | (with_reducible refine Kd.C_alloc ?_ _) | (with_reducible refine Kd.C_drewN ?_ _) | (with_reducible refine Kd.C_drew ?_)))
           (case side2 => exact HC0_3.out)
           rintro e w172 ⟨rfl, hb⟩
           refine ⟨_, rfl, ?_⟩
           have n0_ := zqi (zqy BK256.out hb)
           have n1_ := zqi (zqy BK257.out hb)
           have n2_ := zqi (zqy BK258.out hb)
           have n3_ := zqi (zqy BK261.out hb)
           have n4_ := zqi (zqy BK262.out hb)
           have n5_ := zqi (zqy BK278.out hb)
           have n6_ := zqi (below_step (zqn HB.out) hb)
           clear BK256
           clear BK257
           clear BK258
           clear BK261
           clear BK262
           clear BK278
           clear HB
           have BK256 := n0_
           have BK257 := n1_
           have BK258 := n2_
           have BK261 := n3_
           have BK262 := n4_
           have BK278 := n5_
           have HB := n6_
           clear n0_ n1_ n2_ n3_ n4_ n5_ n6_
           (try clear hb)
           (try clear hb2)
           (try clear hk)
           (try clear hi)
           refine hK.out _ _ ⟨(zqe BK256.out 0).trans rfl, (zqe BK256.out 1).trans rfl, (zqe BK256.out 2).trans rfl, (zqe BK256.out 3).trans rfl, (zqe BK261.out 0).trans rfl, (zqe BK261.out 1).trans rfl, (zqe BK261.out 2).trans rfl, (zqe BK261.out 3).trans rfl, (zqe BK261.out 4).trans rfl, (zqe BK261.out 5).trans rfl, (zqe BK261.out 6).trans rfl, (zqe BK261.out 7).trans rfl, ((HB.out.cell (World.block_lt_of_cell? w _ hw279_0)).trans hw279_0)⟩ (fun hHeld => ?_)
           clear hK K
           refine norm_ (a' := ?_) ?_ ?_
           rotate_left
           ·
            show Act.put _ (some 111) _ = _
            simp only [Act.put, List.setIfInBounds_toArray, List.set_cons_zero, List.set_cons_succ, i64_w, i32_w]
            rfl
           refine zqp 7 (some 104) (zqB 15 255) (any_of HT_.out (by kernel_rfl)) (h := ?_)
           refine zqp 8 (some 112) (zqB 15 511) (any_of HT_.out (by kernel_rfl)) (h := ?_)
           refine zqp 9 (some 113) (zqB 15 1023) (any_of HT_.out (by kernel_rfl)) (h := ?_)
           refine zqp 10 (some 114) (zqB 15 2047) (any_of HT_.out (by kernel_rfl)) (h := ?_)
           refine one_ (i := 11) (N := some 18) (zqB 15 4095) rfl rfl (one_of HT_.out (by kernel_rfl)) (by decide) (fun K hK => ?_)
           refine box_step ?hg (N := 18) ?hd (cs := #[.int .i64 0, .int .i64 0, .int .i64 0, .int .i64 0, .int .i64 0, .int .u64 0, .int .u64 0, .int .u64 0]) (t := 40) ?hr ?_; (case hd => rfl); (case hg => rfl); (case hr => first | (go_simp; done) | (go_simp; rfl))
           intro gb290 hg w173 hbox hb
           have n0_ := zqi (zqy BK256.out hb)
           have n1_ := zqi (zqy BK257.out hb)
           have n2_ := zqi (zqy BK258.out hb)
           have n3_ := zqi (zqy BK261.out hb)
           have n4_ := zqi (zqy BK262.out hb)
           have n5_ := zqi (zqy BK278.out hb)
           have n6_ := zqi (below_step (zqn HB.out) hb)
           have n7_ := zqi (hbox)
           have n8_ := zqi (zqo hg HB.out)
           have n9_ := zqi (zqo hg HB.out)
           have n10_ := zqi ((zqq hg BK256.out))
           have n11_ := zqi ((zqr hg BK256.out))
           have n12_ := zqi ((zqq hg BK257.out))
           have n13_ := zqi ((zqr hg BK257.out))
           have n14_ := zqi ((zqq hg BK258.out))
           have n15_ := zqi ((zqr hg BK258.out))
           have n16_ := zqi ((zqq hg BK261.out))
           have n17_ := zqi ((zqr hg BK261.out))
           have n18_ := zqi ((zqq hg BK262.out))
           have n19_ := zqi ((zqr hg BK262.out))
           have n20_ := zqi ((zqq hg BK278.out))
           have n21_ := zqi ((zqr hg BK278.out))
           clear BK256
           clear BK257
           clear BK258
           clear BK261
           clear BK262
           clear BK278
           clear HB
           have BK256 := n0_
           have BK257 := n1_
           have BK258 := n2_
           have BK261 := n3_
           have BK262 := n4_
           have BK278 := n5_
           have HB := n6_
           have BK290 := n7_
           have GW290 := n8_
           have GE290 := n9_
           have NB256_290 := n10_
           have NB290_256 := n11_
           have NB257_290 := n12_
           have NB290_257 := n13_
           have NB258_290 := n14_
           have NB290_258 := n15_
           have NB261_290 := n16_
           have NB290_261 := n17_
           have NB262_290 := n18_
           have NB290_262 := n19_
           have NB278_290 := n20_
           have NB290_278 := n21_
           clear n0_ n1_ n2_ n3_ n4_ n5_ n6_ n7_ n8_ n9_ n10_ n11_ n12_ n13_ n14_ n15_ n16_ n17_ n18_ n19_ n20_ n21_
           clear hb hbox hg
           refine hK.out _ _ ⟨(zqe BK256.out 0).trans rfl, (zqe BK256.out 1).trans rfl, (zqe BK256.out 2).trans rfl, (zqe BK256.out 3).trans rfl, (zqe BK261.out 0).trans rfl, (zqe BK261.out 1).trans rfl, (zqe BK261.out 2).trans rfl, (zqe BK261.out 3).trans rfl, (zqe BK261.out 4).trans rfl, (zqe BK261.out 5).trans rfl, (zqe BK261.out 6).trans rfl, (zqe BK261.out 7).trans rfl, ((HB.out.cell (World.block_lt_of_cell? w _ hw279_0)).trans hw279_0)⟩ (fun hHeld => ?_)
           clear hK K
           refine norm_ (a' := ?_) ?_ ?_
           rotate_left
           ·
            show Act.put _ (some 18) _ = _
            simp only [Act.put, List.setIfInBounds_toArray, List.set_cons_zero, List.set_cons_succ, i64_w, i32_w]
            rfl
           exact norm_ (by simp only [putAll, Act.put, List.setIfInBounds_toArray, List.set_cons_zero, List.set_cons_succ]) (hCont (gb290) _ ⟨hHeld, (zqm BK256.out), (zqm BK257.out), (zqm BK258.out), (zqm BK261.out), (zqm BK262.out), (zqm BK278.out), (zqm BK290.out), GW290.out, GE290.out, NB256_290.out, NB290_256.out, NB257_290.out, NB290_257.out, NB258_290.out, NB290_258.out, NB261_290.out, NB290_261.out, NB262_290.out, NB290_262.out, NB278_290.out, NB290_278.out, (zqn HB.out)⟩)
          ·
           skip
           refine box_step ?hg (N := 18) ?hd (cs := #[.int .i64 0, .int .i64 0, .int .i64 0, .int .i64 0, .int .i64 0, .int .u64 0, .int .u64 0, .int .u64 0]) (t := 40) ?hr ?_; (case hd => rfl); (case hg => rfl); (case hr => first | (go_simp; done) | (go_simp; rfl))
           intro gb290 hg w172 hbox hb
           have n0_ := zqi (zqy BK256.out hb)
           have n1_ := zqi (zqy BK257.out hb)
           have n2_ := zqi (zqy BK258.out hb)
           have n3_ := zqi (zqy BK261.out hb)
           have n4_ := zqi (zqy BK262.out hb)
           have n5_ := zqi (zqy BK278.out hb)
           have n6_ := zqi (below_step (zqn HB.out) hb)
           have n7_ := zqi (hbox)
           have n8_ := zqi (zqo hg HB.out)
           have n9_ := zqi (zqo hg HB.out)
           have n10_ := zqi ((zqq hg BK256.out))
           have n11_ := zqi ((zqr hg BK256.out))
           have n12_ := zqi ((zqq hg BK257.out))
           have n13_ := zqi ((zqr hg BK257.out))
           have n14_ := zqi ((zqq hg BK258.out))
           have n15_ := zqi ((zqr hg BK258.out))
           have n16_ := zqi ((zqq hg BK261.out))
           have n17_ := zqi ((zqr hg BK261.out))
           have n18_ := zqi ((zqq hg BK262.out))
           have n19_ := zqi ((zqr hg BK262.out))
           have n20_ := zqi ((zqq hg BK278.out))
           have n21_ := zqi ((zqr hg BK278.out))
           clear BK256
           clear BK257
           clear BK258
           clear BK261
           clear BK262
           clear BK278
           clear HB
           have BK256 := n0_
           have BK257 := n1_
           have BK258 := n2_
           have BK261 := n3_
           have BK262 := n4_
           have BK278 := n5_
           have HB := n6_
           have BK290 := n7_
           have GW290 := n8_
           have GE290 := n9_
           have NB256_290 := n10_
           have NB290_256 := n11_
           have NB257_290 := n12_
           have NB290_257 := n13_
           have NB258_290 := n14_
           have NB290_258 := n15_
           have NB261_290 := n16_
           have NB290_261 := n17_
           have NB262_290 := n18_
           have NB290_262 := n19_
           have NB278_290 := n20_
           have NB290_278 := n21_
           clear n0_ n1_ n2_ n3_ n4_ n5_ n6_ n7_ n8_ n9_ n10_ n11_ n12_ n13_ n14_ n15_ n16_ n17_ n18_ n19_ n20_ n21_
           clear hb hbox hg
           refine hK.out _ _ ⟨(zqe BK256.out 0).trans rfl, (zqe BK256.out 1).trans rfl, (zqe BK256.out 2).trans rfl, (zqe BK256.out 3).trans rfl, (zqe BK261.out 0).trans rfl, (zqe BK261.out 1).trans rfl, (zqe BK261.out 2).trans rfl, (zqe BK261.out 3).trans rfl, (zqe BK261.out 4).trans rfl, (zqe BK261.out 5).trans rfl, (zqe BK261.out 6).trans rfl, (zqe BK261.out 7).trans rfl, ((HB.out.cell (World.block_lt_of_cell? w _ hw279_0)).trans hw279_0)⟩ (fun hHeld => ?_)
           clear hK K
           refine norm_ (a' := ?_) ?_ ?_
           rotate_left
           ·
            show Act.put _ (some 18) _ = _
            simp only [Act.put, List.setIfInBounds_toArray, List.set_cons_zero, List.set_cons_succ, i64_w, i32_w]
            rfl
           refine one_ (i := 6) (N := some 111) (zqB 15 2175) rfl rfl (one_of HT_.out (by kernel_rfl)) (by decide) (fun K hK => ?_)
           refine goes_ Try.func22 (by kernel_rfl) rfl #[.agg #[.int .i64 a0_0, .int .i64 a0_1, .int .i64 a0_2, .slice A0_3 l0_3.length c0_3], .agg #[.int .i64 x262000_2, .int .i64 x262001_2, .int .i64 x262002_2, .int .i64 x262003_2, .int .i64 x262004_2, .int .u64 x262005_2, .int .u64 x262006_2, .int .u64 x262007_2], .int .i64 (rd l3 x14_2)] (by rfl) rfl rfl (by (try simp only [List.map_toArray, List.map_cons, List.map_nil]); first | done | rfl | (simp only [List.length_drop, List.length_take]; rfl)) ?_
           with_reducible refine (state_Move.calls k2 a0_0 a0_1 a0_2 _ _ l0_3 x262000_2 x262001_2 x262002_2 x262003_2 x262004_2 x262005_2 x262006_2 x262007_2 (rd l3 x14_2) t280 t281 t282 t283 t284 t285 t286 t287 t288 t289 _ ?side1 ?side2 A108.out).mono ?_
           (case side1 => repeat (first | exact (Kd.C_below HR0_3.out HB.out) | (with_reducible refine Kd.C_alloc ?_ _) | (with_reducible refine Kd.C_drewN ?_ _) | (with_reducible refine Kd.C_drew ?_)))
           (case side2 => exact HC0_3.out)
           rintro e w173 ⟨rfl, hb⟩
           refine ⟨_, rfl, ?_⟩
           have n0_ := zqi (zqy BK256.out hb)
           have n1_ := zqi (zqy BK257.out hb)
           have n2_ := zqi (zqy BK258.out hb)
           have n3_ := zqi (zqy BK261.out hb)
           have n4_ := zqi (zqy BK262.out hb)
           have n5_ := zqi (zqy BK278.out hb)
           have n6_ := zqi (zqy BK290.out hb)
           have n7_ := zqi (below_step (zqn HB.out) hb)
           clear BK256
           clear BK257
           clear BK258
           clear BK261
           clear BK262
           clear BK278
           clear BK290
           clear HB
           have BK256 := n0_
           have BK257 := n1_
           have BK258 := n2_
           have BK261 := n3_
           have BK262 := n4_
           have BK278 := n5_
           have BK290 := n6_
           have HB := n7_
           clear n0_ n1_ n2_ n3_ n4_ n5_ n6_ n7_
           (try clear hb)
           (try clear hb2)
           (try clear hk)
           (try clear hi)
           refine hK.out _ _ ⟨(zqe BK256.out 0).trans rfl, (zqe BK256.out 1).trans rfl, (zqe BK256.out 2).trans rfl, (zqe BK256.out 3).trans rfl, (zqe BK261.out 0).trans rfl, (zqe BK261.out 1).trans rfl, (zqe BK261.out 2).trans rfl, (zqe BK261.out 3).trans rfl, (zqe BK261.out 4).trans rfl, (zqe BK261.out 5).trans rfl, (zqe BK261.out 6).trans rfl, (zqe BK261.out 7).trans rfl, ((HB.out.cell (World.block_lt_of_cell? w _ hw279_0)).trans hw279_0)⟩ (fun hHeld => ?_)
           clear hK K
           refine norm_ (a' := ?_) ?_ ?_
           rotate_left
           ·
            show Act.put _ (some 111) _ = _
            simp only [Act.put, List.setIfInBounds_toArray, List.set_cons_zero, List.set_cons_succ, i64_w, i32_w]
            rfl
           refine zqp 7 (some 104) (zqB 15 2303) (any_of HT_.out (by kernel_rfl)) (h := ?_)
           refine zqp 8 (some 112) (zqB 15 2559) (any_of HT_.out (by kernel_rfl)) (h := ?_)
           refine zqp 9 (some 113) (zqB 15 3071) (any_of HT_.out (by kernel_rfl)) (h := ?_)
           refine zqp 10 (some 114) (zqB 15 4095) (any_of HT_.out (by kernel_rfl)) (h := ?_)
           exact norm_ (by simp only [putAll, Act.put, List.setIfInBounds_toArray, List.set_cons_zero, List.set_cons_succ]) (hCont (gb290) _ ⟨hHeld, (zqm BK256.out), (zqm BK257.out), (zqm BK258.out), (zqm BK261.out), (zqm BK262.out), (zqm BK278.out), (zqm BK290.out), GW290.out, GE290.out, NB256_290.out, NB290_256.out, NB257_290.out, NB290_257.out, NB258_290.out, NB290_258.out, NB261_290.out, NB290_261.out, NB262_290.out, NB290_262.out, NB278_290.out, NB290_278.out, (zqn HB.out)⟩)
         rintro gb290 w174 ⟨hS_, h0_, h1_, h2_, h3_, h4_, h5_, h6_, h7_, h8_, h9_, h10_, h11_, h12_, h13_, h14_, h15_, h16_, h17_, h18_, h19_, h20_, h21_⟩
         have n0_ : Aside0 (w174.heap[gb256]? = some (.cells #[.int .i64 a0_0, .int .i64 a0_1, .int .i64 a0_2, .slice A0_3 l0_3.length c0_3] 26 (0, 0))) := ⟨h0_⟩
         have n1_ : Aside0 (w174.heap[gb257]? = some (.cells #[.int .i64 a1_0, .int .i64 a1_1, .int .i64 a1_2, .int .i64 a1_3, .int .i64 a1_4, .int .u64 a1_5, .int .u64 a1_6, .int .u64 a1_7, .int .i64 a1_8, .slice A1_9 l1_9.length c1_9] 50 (0, 0))) := ⟨h1_⟩
         have n2_ : Aside0 (w174.heap[gb258]? = some (.cells #[.int .i64 a2_0, .int .i64 a2_1, .int .i64 a2_2, .int .i64 a2_3, .int .i64 a2_4, .int .u64 a2_5, .int .u64 a2_6, .int .u64 a2_7, .int .i64 a2_8, .slice A2_9 l2_9.length c2_9] 50 (0, 0))) := ⟨h2_⟩
         have n3_ : Aside0 (w174.heap[gb261]? = some (.cells #[.int .i64 x262000_2, .int .i64 x262001_2, .int .i64 x262002_2, .int .i64 x262003_2, .int .i64 x262004_2, .int .u64 x262005_2, .int .u64 x262006_2, .int .u64 x262007_2] 40 (0, 0))) := ⟨h3_⟩
         have n4_ : Aside0 (w174.heap[gb262]? = some (.cells #[.int .i64 x263000_2, .int .i64 x263001_2, .int .i64 x263002_2, .int .i64 x263003_2, .int .i64 x263004_2, .int .u64 x263005_2, .int .u64 x263006_2, .int .u64 x263007_2] 40 (0, 0))) := ⟨h4_⟩
         have n5_ : Aside0 (w174.heap[gb278]? = some (.cells #[.int .i64 t268, .int .i64 t269, .int .i64 t270, .int .i64 t271, .int .i64 t272, .int .u64 t273, .int .u64 t274, .int .u64 t275] 40 (0, 0))) := ⟨h5_⟩
         have n6_ : Aside0 (w174.heap[gb290]? = some (.cells #[.int .i64 0, .int .i64 0, .int .i64 0, .int .i64 0, .int .i64 0, .int .u64 0, .int .u64 0, .int .u64 0] 40 (0, 0))) := ⟨h6_⟩
         have n7_ : Aside0 (w.heap.size ≤ gb290) := ⟨h7_⟩
         have n8_ : Aside0 (w.heap.size ≤ gb290) := ⟨h8_⟩
         have n9_ : Aside0 (gb256 ≠ gb290) := ⟨h9_⟩
         have n10_ : Aside0 (gb290 ≠ gb256) := ⟨h10_⟩
         have n11_ : Aside0 (gb257 ≠ gb290) := ⟨h11_⟩
         have n12_ : Aside0 (gb290 ≠ gb257) := ⟨h12_⟩
         have n13_ : Aside0 (gb258 ≠ gb290) := ⟨h13_⟩
         have n14_ : Aside0 (gb290 ≠ gb258) := ⟨h14_⟩
         have n15_ : Aside0 (gb261 ≠ gb290) := ⟨h15_⟩
         have n16_ : Aside0 (gb290 ≠ gb261) := ⟨h16_⟩
         have n17_ : Aside0 (gb262 ≠ gb290) := ⟨h17_⟩
         have n18_ : Aside0 (gb290 ≠ gb262) := ⟨h18_⟩
         have n19_ : Aside0 (gb278 ≠ gb290) := ⟨h19_⟩
         have n20_ : Aside0 (gb290 ≠ gb278) := ⟨h20_⟩
         have n21_ : Aside0 (Below w.heap.size w w174) := ⟨h21_⟩
         clear BK256
         clear BK257
         clear BK258
         clear BK261
         clear BK262
         clear BK278
         clear HB
         clear h0_ h1_ h2_ h3_ h4_ h5_ h6_ h7_ h8_ h9_ h10_ h11_ h12_ h13_ h14_ h15_ h16_ h17_ h18_ h19_ h20_ h21_
         have BK256 := n0_
         have BK257 := n1_
         have BK258 := n2_
         have BK261 := n3_
         have BK262 := n4_
         have BK278 := n5_
         have BK290 := n6_
         have GW290 := n7_
         have GE290 := n8_
         have NB256_290 := n9_
         have NB290_256 := n10_
         have NB257_290 := n11_
         have NB290_257 := n12_
         have NB258_290 := n13_
         have NB290_258 := n14_
         have NB261_290 := n15_
         have NB290_261 := n16_
         have NB262_290 := n17_
         have NB290_262 := n18_
         have NB278_290 := n19_
         have NB290_278 := n20_
         have HB := n21_
         clear n0_ n1_ n2_ n3_ n4_ n5_ n6_ n7_ n8_ n9_ n10_ n11_ n12_ n13_ n14_ n15_ n16_ n17_ n18_ n19_ n20_ n21_
         have hHeld : w174.cell? ⟨gb256, 0, none⟩ = some (.int .i64 a0_0) ∧ w174.cell? ⟨gb256, 1, none⟩ = some (.int .i64 a0_1) ∧ w174.cell? ⟨gb256, 2, none⟩ = some (.int .i64 a0_2) ∧ w174.cell? ⟨gb256, 3, none⟩ = some (.slice A0_3 l0_3.length c0_3) ∧ w174.cell? ⟨gb261, 0, none⟩ = some (.int .i64 x262000_2) ∧ w174.cell? ⟨gb261, 1, none⟩ = some (.int .i64 x262001_2) ∧ w174.cell? ⟨gb261, 2, none⟩ = some (.int .i64 x262002_2) ∧ w174.cell? ⟨gb261, 3, none⟩ = some (.int .i64 x262003_2) ∧ w174.cell? ⟨gb261, 4, none⟩ = some (.int .i64 x262004_2) ∧ w174.cell? ⟨gb261, 5, none⟩ = some (.int .u64 x262005_2) ∧ w174.cell? ⟨gb261, 6, none⟩ = some (.int .u64 x262006_2) ∧ w174.cell? ⟨gb261, 7, none⟩ = some (.int .u64 x262007_2) ∧ w174.cell? (ad267.add (x14_2).toNat) = some (.int .i64 (rd l3 x14_2)) := hS_
         refine norm_ (a' := ?_) ?_ ?_
         rotate_left
         ·
          simp only [putAll, Act.put, List.setIfInBounds_toArray, List.set_cons_zero, List.set_cons_succ]
          rfl
         refine one_ (i := 12) (N := none) (zqB 15 8191) rfl rfl (one_of HT_.out (by kernel_rfl)) (by decide) (fun K hK => ?_)
         have hs175 : w174.cell? ⟨gb290, 0, none⟩ = some (.int .i64 0) := (zqe BK290.out 0).trans rfl
         have hfs175 := zqd BK290.out 0
         have hns175_0 := NB256_290.out
         have hns175_1 := NB257_290.out
         have hns175_2 := NB258_290.out
         have hns175_3 := NB261_290.out
         have hns175_4 := NB262_290.out
         have hns175_5 := NB278_290.out
         have hms175_0 := NB290_256.out
         have hms175_1 := NB290_257.out
         have hms175_2 := NB290_258.out
         have hms175_3 := NB290_261.out
         have hms175_4 := NB290_262.out
         have hms175_5 := NB290_278.out
         have hs176 : w174.cell? ⟨gb290, 1, none⟩ = some (.int .i64 0) := (zqe BK290.out 1).trans rfl
         have hfs176 := zqd BK290.out 1
         have hns176_0 := NB256_290.out
         have hns176_1 := NB257_290.out
         have hns176_2 := NB258_290.out
         have hns176_3 := NB261_290.out
         have hns176_4 := NB262_290.out
         have hns176_5 := NB278_290.out
         have hms176_0 := NB290_256.out
         have hms176_1 := NB290_257.out
         have hms176_2 := NB290_258.out
         have hms176_3 := NB290_261.out
         have hms176_4 := NB290_262.out
         have hms176_5 := NB290_278.out
         have hs177 : w174.cell? ⟨gb290, 2, none⟩ = some (.int .i64 0) := (zqe BK290.out 2).trans rfl
         have hfs177 := zqd BK290.out 2
         have hns177_0 := NB256_290.out
         have hns177_1 := NB257_290.out
         have hns177_2 := NB258_290.out
         have hns177_3 := NB261_290.out
         have hns177_4 := NB262_290.out
         have hns177_5 := NB278_290.out
         have hms177_0 := NB290_256.out
         have hms177_1 := NB290_257.out
         have hms177_2 := NB290_258.out
         have hms177_3 := NB290_261.out
         have hms177_4 := NB290_262.out
         have hms177_5 := NB290_278.out
         have hs178 : w174.cell? ⟨gb290, 3, none⟩ = some (.int .i64 0) := (zqe BK290.out 3).trans rfl
         have hfs178 := zqd BK290.out 3
         have hns178_0 := NB256_290.out
         have hns178_1 := NB257_290.out
         have hns178_2 := NB258_290.out
         have hns178_3 := NB261_290.out
         have hns178_4 := NB262_290.out
         have hns178_5 := NB278_290.out
         have hms178_0 := NB290_256.out
         have hms178_1 := NB290_257.out
         have hms178_2 := NB290_258.out
         have hms178_3 := NB290_261.out
         have hms178_4 := NB290_262.out
         have hms178_5 := NB290_278.out
         have hs179 : w174.cell? ⟨gb290, 4, none⟩ = some (.int .i64 0) := (zqe BK290.out 4).trans rfl
         have hfs179 := zqd BK290.out 4
         have hns179_0 := NB256_290.out
         have hns179_1 := NB257_290.out
         have hns179_2 := NB258_290.out
         have hns179_3 := NB261_290.out
         have hns179_4 := NB262_290.out
         have hns179_5 := NB278_290.out
         have hms179_0 := NB290_256.out
         have hms179_1 := NB290_257.out
         have hms179_2 := NB290_258.out
         have hms179_3 := NB290_261.out
         have hms179_4 := NB290_262.out
         have hms179_5 := NB290_278.out
         have hs180 : w174.cell? ⟨gb290, 5, none⟩ = some (.int .u64 0) := (zqe BK290.out 5).trans rfl
         have hfs180 := zqd BK290.out 5
         have hns180_0 := NB256_290.out
         have hns180_1 := NB257_290.out
         have hns180_2 := NB258_290.out
         have hns180_3 := NB261_290.out
         have hns180_4 := NB262_290.out
         have hns180_5 := NB278_290.out
         have hms180_0 := NB290_256.out
         have hms180_1 := NB290_257.out
         have hms180_2 := NB290_258.out
         have hms180_3 := NB290_261.out
         have hms180_4 := NB290_262.out
         have hms180_5 := NB290_278.out
         have hs181 : w174.cell? ⟨gb290, 6, none⟩ = some (.int .u64 0) := (zqe BK290.out 6).trans rfl
         have hfs181 := zqd BK290.out 6
         have hns181_0 := NB256_290.out
         have hns181_1 := NB257_290.out
         have hns181_2 := NB258_290.out
         have hns181_3 := NB261_290.out
         have hns181_4 := NB262_290.out
         have hns181_5 := NB278_290.out
         have hms181_0 := NB290_256.out
         have hms181_1 := NB290_257.out
         have hms181_2 := NB290_258.out
         have hms181_3 := NB290_261.out
         have hms181_4 := NB290_262.out
         have hms181_5 := NB290_278.out
         have hs182 : w174.cell? ⟨gb290, 7, none⟩ = some (.int .u64 0) := (zqe BK290.out 7).trans rfl
         have hfs182 := zqd BK290.out 7
         have hns182_0 := NB256_290.out
         have hns182_1 := NB257_290.out
         have hns182_2 := NB258_290.out
         have hns182_3 := NB261_290.out
         have hns182_4 := NB262_290.out
         have hns182_5 := NB278_290.out
         have hms182_0 := NB290_256.out
         have hms182_1 := NB290_257.out
         have hms182_2 := NB290_258.out
         have hms182_3 := NB290_261.out
         have hms182_4 := NB290_262.out
         have hms182_5 := NB290_278.out
         refine skip_ (w1 := ?_) (by rfl) rfl ?_ ?_
         rotate_left
         ·
          go_simp
          rfl
         refine hK.out _ _ ⟨((zqk NB256_290.out).trans (((zqk NB256_290.out).trans (((zqk NB256_290.out).trans (((zqk NB256_290.out).trans (((zqk NB256_290.out).trans (((zqk NB256_290.out).trans (((zqk NB256_290.out).trans (((zqk NB256_290.out).trans (hHeld.1)))))))))))))))), ((zqk NB256_290.out).trans (((zqk NB256_290.out).trans (((zqk NB256_290.out).trans (((zqk NB256_290.out).trans (((zqk NB256_290.out).trans (((zqk NB256_290.out).trans (((zqk NB256_290.out).trans (((zqk NB256_290.out).trans (hHeld.2.1)))))))))))))))), ((zqk NB256_290.out).trans (((zqk NB256_290.out).trans (((zqk NB256_290.out).trans (((zqk NB256_290.out).trans (((zqk NB256_290.out).trans (((zqk NB256_290.out).trans (((zqk NB256_290.out).trans (((zqk NB256_290.out).trans (hHeld.2.2.1)))))))))))))))), ((zqk NB256_290.out).trans (((zqk NB256_290.out).trans (((zqk NB256_290.out).trans (((zqk NB256_290.out).trans (((zqk NB256_290.out).trans (((zqk NB256_290.out).trans (((zqk NB256_290.out).trans (((zqk NB256_290.out).trans (hHeld.2.2.2.1)))))))))))))))), ((zqk NB261_290.out).trans (((zqk NB261_290.out).trans (((zqk NB261_290.out).trans (((zqk NB261_290.out).trans (((zqk NB261_290.out).trans (((zqk NB261_290.out).trans (((zqk NB261_290.out).trans (((zqk NB261_290.out).trans (hHeld.2.2.2.2.1)))))))))))))))), ((zqk NB261_290.out).trans (((zqk NB261_290.out).trans (((zqk NB261_290.out).trans (((zqk NB261_290.out).trans (((zqk NB261_290.out).trans (((zqk NB261_290.out).trans (((zqk NB261_290.out).trans (((zqk NB261_290.out).trans (hHeld.2.2.2.2.2.1)))))))))))))))), ((zqk NB261_290.out).trans (((zqk NB261_290.out).trans (((zqk NB261_290.out).trans (((zqk NB261_290.out).trans (((zqk NB261_290.out).trans (((zqk NB261_290.out).trans (((zqk NB261_290.out).trans (((zqk NB261_290.out).trans (hHeld.2.2.2.2.2.2.1)))))))))))))))), ((zqk NB261_290.out).trans (((zqk NB261_290.out).trans (((zqk NB261_290.out).trans (((zqk NB261_290.out).trans (((zqk NB261_290.out).trans (((zqk NB261_290.out).trans (((zqk NB261_290.out).trans (((zqk NB261_290.out).trans (hHeld.2.2.2.2.2.2.2.1)))))))))))))))), ((zqk NB261_290.out).trans (((zqk NB261_290.out).trans (((zqk NB261_290.out).trans (((zqk NB261_290.out).trans (((zqk NB261_290.out).trans (((zqk NB261_290.out).trans (((zqk NB261_290.out).trans (((zqk NB261_290.out).trans (hHeld.2.2.2.2.2.2.2.2.1)))))))))))))))), ((zqk NB261_290.out).trans (((zqk NB261_290.out).trans (((zqk NB261_290.out).trans (((zqk NB261_290.out).trans (((zqk NB261_290.out).trans (((zqk NB261_290.out).trans (((zqk NB261_290.out).trans (((zqk NB261_290.out).trans (hHeld.2.2.2.2.2.2.2.2.2.1)))))))))))))))), ((zqk NB261_290.out).trans (((zqk NB261_290.out).trans (((zqk NB261_290.out).trans (((zqk NB261_290.out).trans (((zqk NB261_290.out).trans (((zqk NB261_290.out).trans (((zqk NB261_290.out).trans (((zqk NB261_290.out).trans (hHeld.2.2.2.2.2.2.2.2.2.2.1)))))))))))))))), ((zqk NB261_290.out).trans (((zqk NB261_290.out).trans (((zqk NB261_290.out).trans (((zqk NB261_290.out).trans (((zqk NB261_290.out).trans (((zqk NB261_290.out).trans (((zqk NB261_290.out).trans (((zqk NB261_290.out).trans (hHeld.2.2.2.2.2.2.2.2.2.2.2.1)))))))))))))))), ((zqk (by first | exact zql hw279_0 GW290.out | (rw [add_block]; exact zql hw279_0 GW290.out) | (show (Addr.add _ _).block ≠ _; rw [add_block]; exact zql hw279_0 GW290.out) | (dsimp only; exact zql hw279_0 GW290.out))).trans (((zqk (by first | exact zql hw279_0 GW290.out | (rw [add_block]; exact zql hw279_0 GW290.out) | (show (Addr.add _ _).block ≠ _; rw [add_block]; exact zql hw279_0 GW290.out) | (dsimp only; exact zql hw279_0 GW290.out))).trans (((zqk (by first | exact zql hw279_0 GW290.out | (rw [add_block]; exact zql hw279_0 GW290.out) | (show (Addr.add _ _).block ≠ _; rw [add_block]; exact zql hw279_0 GW290.out) | (dsimp only; exact zql hw279_0 GW290.out))).trans (((zqk (by first | exact zql hw279_0 GW290.out | (rw [add_block]; exact zql hw279_0 GW290.out) | (show (Addr.add _ _).block ≠ _; rw [add_block]; exact zql hw279_0 GW290.out) | (dsimp only; exact zql hw279_0 GW290.out))).trans (((zqk (by first | exact zql hw279_0 GW290.out | (rw [add_block]; exact zql hw279_0 GW290.out) | (show (Addr.add _ _).block ≠ _; rw [add_block]; exact zql hw279_0 GW290.out) | (dsimp only; exact zql hw279_0 GW290.out))).trans (((zqk (by first | exact zql hw279_0 GW290.out | (rw [add_block]; exact zql hw279_0 GW290.out) | (show (Addr.add _ _).block ≠ _; rw [add_block]; exact zql hw279_0 GW290.out) | (dsimp only; exact zql hw279_0 GW290.out))).trans (((zqk (by first | exact zql hw279_0 GW290.out | (rw [add_block]; exact zql hw279_0 GW290.out) | (show (Addr.add _ _).block ≠ _; rw [add_block]; exact zql hw279_0 GW290.out) | (dsimp only; exact zql hw279_0 GW290.out))).trans (((zqk (by first | exact zql hw279_0 GW290.out | (rw [add_block]; exact zql hw279_0 GW290.out) | (show (Addr.add _ _).block ≠ _; rw [add_block]; exact zql hw279_0 GW290.out) | (dsimp only; exact zql hw279_0 GW290.out))).trans (hHeld.2.2.2.2.2.2.2.2.2.2.2.2))))))))))))))))⟩ (fun hHeld => ?_)
         clear hK K
         refine zqp 13 (some 19) (zqB 15 16383) (any_of HT_.out (by kernel_rfl)) (h := ?_)
         refine zqp 14 (some 20) (zqB 15 32767) (any_of HT_.out (by kernel_rfl)) (h := ?_)
         refine done_ (done_of HT_.out (by kernel_rfl)) ?_
         try go_wp2
         go_ret
         exact ⟨by first | rfl | (simp [errW_none, errW_some] <;> rfl) | (simp [*, errW_none, errW_some] <;> rfl), by repeat (first | (with_reducible first | exact HB.out | apply zqg | apply zqf | apply zqh | refine below_set ?_ GE256.out | refine below_set ?_ GE257.out | refine below_set ?_ GE258.out | refine below_set ?_ GE261.out | refine below_set ?_ GE262.out | refine below_set ?_ GE278.out | refine below_set ?_ GE290.out) | exact HB.out)⟩
       ·
        rw [if_neg c106] at H
        exact absurd H (by simp)
      ·
       rw [if_neg c105] at H
       have c105b0 : decide (x14_2 < (l3.length : Int)) = false := decide_eq_false c105
       clear c105
       replace H := Option.bind_eq_some_iff.mp H
       obtain ⟨⟨t263, t264⟩, A1830, H⟩ := H
       replace H : ((state_End.f k2 a0_0 a0_1 a0_2 l0_3 x262000_2 x262001_2 x262002_2 x262003_2 x262004_2 x262005_2 x262006_2 x262007_2).bind fun bt265 => (if t264 = true then (if bt265.2 = true then (some (decide ((wrap64 (x12_2 + bt265.1)) ≤ (wrap64 (x13_2 + t263))))) else (none)) else (some true))) = some r := H
       have A183 := zqi A1830
       clear A1830
       replace H := Option.bind_eq_some_iff.mp H
       obtain ⟨⟨t265, t266⟩, A1840, H⟩ := H
       replace H : (if t264 = true then (if t266 = true then (some (decide ((wrap64 (x12_2 + t265)) ≤ (wrap64 (x13_2 + t263))))) else (none)) else (some true)) = some r := H
       have A184 := zqi A1840
       clear A1840
       by_cases c185 : t264 = true
       ·
        subst c185
        have H1 : (if t266 = true then (some (decide ((wrap64 (x12_2 + t265)) ≤ (wrap64 (x13_2 + t263))))) else (none)) = some r := by rw [if_pos rfl] at H; exact H
        clear H
        have H := H1
        clear H1
        by_cases c186 : t266 = true
        ·
         subst c186
         have H1 : (some (decide ((wrap64 (x12_2 + t265)) ≤ (wrap64 (x13_2 + t263))))) = some r := by rw [if_pos rfl] at H; exact H
         clear H
         have H := H1
         clear H1
         obtain rfl := Option.some.inj H
         have hnb187 := NB256_257.out
         have hnc187 := NB257_256.out
         have hnb188 := NB256_258.out
         have hnc188 := NB258_256.out
         have hnb189 := NB256_261.out
         have hnc189 := NB261_256.out
         have hnb190 := NB256_262.out
         have hnc190 := NB262_256.out
         obtain ⟨hcz191_0, hcz191_1, hcz191_2, hcz191_3, hfz191_0, hfz191_1, hfz191_2, hfz191_3⟩ := zqz4 BK256.out
         have hnb192 := NB262_257.out
         have hnc192 := NB257_262.out
         have hnb193 := NB262_258.out
         have hnc193 := NB258_262.out
         have hnb194 := NB262_261.out
         have hnc194 := NB261_262.out
         obtain ⟨hcz195_0, hcz195_1, hcz195_2, hcz195_3, hcz195_4, hcz195_5, hcz195_6, hcz195_7, hfz195_0, hfz195_1, hfz195_2, hfz195_3, hfz195_4, hfz195_5, hfz195_6, hfz195_7⟩ := zqz8 BK262.out
         go_wp2_with (first | ((with_reducible refine gate_callee (f := 23) rfl ?_); refine goesL_ (some 130) rfl rfl Try.func23 (by kernel_rfl) rfl #[.agg #[.int .i64 a0_0, .int .i64 a0_1, .int .i64 a0_2, .slice A0_3 l0_3.length c0_3], .agg #[.int .i64 x263000_2, .int .i64 x263001_2, .int .i64 x263002_2, .int .i64 x263003_2, .int .i64 x263004_2, .int .u64 x263005_2, .int .u64 x263006_2, .int .u64 x263007_2]] rfl (by (try simp only [List.map_toArray, List.map_cons, List.map_nil]); first | done | rfl | (simp only [List.length_drop, List.length_take]; rfl)) ?_; (with_reducible refine (state_End.calls k2 a0_0 a0_1 a0_2 _ _ l0_3 x263000_2 x263001_2 x263002_2 x263003_2 x263004_2 x263005_2 x263006_2 x263007_2 t263 true _ ?side1 ?side2 A183.out).mono ?_); (case side1 => repeat (first | exact (Kd.C_below HR0_3.out HB.out) | (with_reducible refine Kd.C_alloc ?_ _) | (with_reducible refine Kd.C_drewN ?_ _) | (with_reducible refine Kd.C_drew ?_))); (case side2 => exact HC0_3.out); rintro e w196 ⟨rfl, hb⟩; refine ⟨_, rfl, ?_⟩; have n0_ := zqi (zqy BK256.out hb); have n1_ := zqi (zqy BK257.out hb); have n2_ := zqi (zqy BK258.out hb); have n3_ := zqi (zqy BK261.out hb); have n4_ := zqi (zqy BK262.out hb); have n5_ := zqi (below_step (zqn HB.out) hb); clear BK256; clear BK257; clear BK258; clear BK261; clear BK262; clear HB; have BK256 := n0_; have BK257 := n1_; have BK258 := n2_; have BK261 := n3_; have BK262 := n4_; have HB := n5_; clear n0_ n1_ n2_ n3_ n4_ n5_; (try clear hb); (try clear hb2); (try clear hk); (try clear hi); obtain ⟨hcz197_0, hcz197_1, hcz197_2, hcz197_3, hfz197_0, hfz197_1, hfz197_2, hfz197_3⟩ := zqz4 BK256.out; have hnb198 := NB261_257.out; have hnc198 := NB257_261.out; have hnb199 := NB261_258.out; have hnc199 := NB258_261.out; obtain ⟨hcz200_0, hcz200_1, hcz200_2, hcz200_3, hcz200_4, hcz200_5, hcz200_6, hcz200_7, hfz200_0, hfz200_1, hfz200_2, hfz200_3, hfz200_4, hfz200_5, hfz200_6, hfz200_7⟩ := zqz8 BK261.out) | ((with_reducible refine gate_callee (f := 23) rfl ?_); refine goesL_ (some 136) rfl rfl Try.func23 (by kernel_rfl) rfl #[.agg #[.int .i64 a0_0, .int .i64 a0_1, .int .i64 a0_2, .slice A0_3 l0_3.length c0_3], .agg #[.int .i64 x262000_2, .int .i64 x262001_2, .int .i64 x262002_2, .int .i64 x262003_2, .int .i64 x262004_2, .int .u64 x262005_2, .int .u64 x262006_2, .int .u64 x262007_2]] rfl (by (try simp only [List.map_toArray, List.map_cons, List.map_nil]); first | done | rfl | (simp only [List.length_drop, List.length_take]; rfl)) ?_; (with_reducible refine (state_End.calls k2 a0_0 a0_1 a0_2 _ _ l0_3 x262000_2 x262001_2 x262002_2 x262003_2 x262004_2 x262005_2 x262006_2 x262007_2 t265 true _ ?side1 ?side2 A184.out).mono ?_); (case side1 => repeat (first | exact (Kd.C_below HR0_3.out HB.out) | (with_reducible refine Kd.C_alloc ?_ _) | (with_reducible refine Kd.C_drewN ?_ _) | (with_reducible refine Kd.C_drew ?_))); (case side2 => exact HC0_3.out); rintro e w201 ⟨rfl, hb⟩; refine ⟨_, rfl, ?_⟩; have n0_ := zqi (zqy BK256.out hb); have n1_ := zqi (zqy BK257.out hb); have n2_ := zqi (zqy BK258.out hb); have n3_ := zqi (zqy BK261.out hb); have n4_ := zqi (zqy BK262.out hb); have n5_ := zqi (below_step (zqn HB.out) hb); clear BK256; clear BK257; clear BK258; clear BK261; clear BK262; clear HB; have BK256 := n0_; have BK257 := n1_; have BK258 := n2_; have BK261 := n3_; have BK262 := n4_; have HB := n5_; clear n0_ n1_ n2_ n3_ n4_ n5_; (try clear hb); (try clear hb2); (try clear hk); (try clear hi)))
         go_ret
         exact ⟨by first | rfl | (simp [errW_none, errW_some] <;> rfl) | (simp [*, errW_none, errW_some] <;> rfl), by repeat (first | (with_reducible first | exact HB.out | apply zqg | apply zqf | apply zqh | refine below_set ?_ GE256.out | refine below_set ?_ GE257.out | refine below_set ?_ GE258.out | refine below_set ?_ GE261.out | refine below_set ?_ GE262.out) | exact HB.out)⟩
        ·
         replace c186 := Bool.eq_false_iff.mpr c186
         subst c186
         have H1 : (none) = some r := by rw [if_neg (show ¬ (false = true) by decide)] at H; exact H
         clear H
         have H := H1
         clear H1
         exact absurd H (by simp)
       ·
        replace c185 := Bool.eq_false_iff.mpr c185
        subst c185
        have H1 : (some true) = some r := by rw [if_neg (show ¬ (false = true) by decide)] at H; exact H
        clear H
        have H := H1
        clear H1
        obtain rfl := Option.some.inj H
        have hnb202 := NB256_257.out
        have hnc202 := NB257_256.out
        have hnb203 := NB256_258.out
        have hnc203 := NB258_256.out
        have hnb204 := NB256_261.out
        have hnc204 := NB261_256.out
        have hnb205 := NB256_262.out
        have hnc205 := NB262_256.out
        obtain ⟨hcz206_0, hcz206_1, hcz206_2, hcz206_3, hfz206_0, hfz206_1, hfz206_2, hfz206_3⟩ := zqz4 BK256.out
        have hnb207 := NB262_257.out
        have hnc207 := NB257_262.out
        have hnb208 := NB262_258.out
        have hnc208 := NB258_262.out
        have hnb209 := NB262_261.out
        have hnc209 := NB261_262.out
        obtain ⟨hcz210_0, hcz210_1, hcz210_2, hcz210_3, hcz210_4, hcz210_5, hcz210_6, hcz210_7, hfz210_0, hfz210_1, hfz210_2, hfz210_3, hfz210_4, hfz210_5, hfz210_6, hfz210_7⟩ := zqz8 BK262.out
        go_wp2_with (first | ((with_reducible refine gate_callee (f := 23) rfl ?_); refine goesL_ (some 130) rfl rfl Try.func23 (by kernel_rfl) rfl #[.agg #[.int .i64 a0_0, .int .i64 a0_1, .int .i64 a0_2, .slice A0_3 l0_3.length c0_3], .agg #[.int .i64 x263000_2, .int .i64 x263001_2, .int .i64 x263002_2, .int .i64 x263003_2, .int .i64 x263004_2, .int .u64 x263005_2, .int .u64 x263006_2, .int .u64 x263007_2]] rfl (by (try simp only [List.map_toArray, List.map_cons, List.map_nil]); first | done | rfl | (simp only [List.length_drop, List.length_take]; rfl)) ?_; (with_reducible refine (state_End.calls k2 a0_0 a0_1 a0_2 _ _ l0_3 x263000_2 x263001_2 x263002_2 x263003_2 x263004_2 x263005_2 x263006_2 x263007_2 t263 false _ ?side1 ?side2 A183.out).mono ?_); (case side1 => repeat (first | exact (Kd.C_below HR0_3.out HB.out) | (with_reducible refine Kd.C_alloc ?_ _) | (with_reducible refine Kd.C_drewN ?_ _) | (with_reducible refine Kd.C_drew ?_))); (case side2 => exact HC0_3.out); rintro e w211 ⟨rfl, hb⟩; refine ⟨_, rfl, ?_⟩; have n0_ := zqi (zqy BK256.out hb); have n1_ := zqi (zqy BK257.out hb); have n2_ := zqi (zqy BK258.out hb); have n3_ := zqi (zqy BK261.out hb); have n4_ := zqi (zqy BK262.out hb); have n5_ := zqi (below_step (zqn HB.out) hb); clear BK256; clear BK257; clear BK258; clear BK261; clear BK262; clear HB; have BK256 := n0_; have BK257 := n1_; have BK258 := n2_; have BK261 := n3_; have BK262 := n4_; have HB := n5_; clear n0_ n1_ n2_ n3_ n4_ n5_; (try clear hb); (try clear hb2); (try clear hk); (try clear hi); obtain ⟨hcz212_0, hcz212_1, hcz212_2, hcz212_3, hfz212_0, hfz212_1, hfz212_2, hfz212_3⟩ := zqz4 BK256.out; have hnb213 := NB261_257.out; have hnc213 := NB257_261.out; have hnb214 := NB261_258.out; have hnc214 := NB258_261.out; obtain ⟨hcz215_0, hcz215_1, hcz215_2, hcz215_3, hcz215_4, hcz215_5, hcz215_6, hcz215_7, hfz215_0, hfz215_1, hfz215_2, hfz215_3, hfz215_4, hfz215_5, hfz215_6, hfz215_7⟩ := zqz8 BK261.out) | ((with_reducible refine gate_callee (f := 23) rfl ?_); refine goesL_ (some 136) rfl rfl Try.func23 (by kernel_rfl) rfl #[.agg #[.int .i64 a0_0, .int .i64 a0_1, .int .i64 a0_2, .slice A0_3 l0_3.length c0_3], .agg #[.int .i64 x262000_2, .int .i64 x262001_2, .int .i64 x262002_2, .int .i64 x262003_2, .int .i64 x262004_2, .int .u64 x262005_2, .int .u64 x262006_2, .int .u64 x262007_2]] rfl (by (try simp only [List.map_toArray, List.map_cons, List.map_nil]); first | done | rfl | (simp only [List.length_drop, List.length_take]; rfl)) ?_; (with_reducible refine (state_End.calls k2 a0_0 a0_1 a0_2 _ _ l0_3 x262000_2 x262001_2 x262002_2 x262003_2 x262004_2 x262005_2 x262006_2 x262007_2 t265 t266 _ ?side1 ?side2 A184.out).mono ?_); (case side1 => repeat (first | exact (Kd.C_below HR0_3.out HB.out) | (with_reducible refine Kd.C_alloc ?_ _) | (with_reducible refine Kd.C_drewN ?_ _) | (with_reducible refine Kd.C_drew ?_))); (case side2 => exact HC0_3.out); rintro e w216 ⟨rfl, hb⟩; refine ⟨_, rfl, ?_⟩; have n0_ := zqi (zqy BK256.out hb); have n1_ := zqi (zqy BK257.out hb); have n2_ := zqi (zqy BK258.out hb); have n3_ := zqi (zqy BK261.out hb); have n4_ := zqi (zqy BK262.out hb); have n5_ := zqi (below_step (zqn HB.out) hb); clear BK256; clear BK257; clear BK258; clear BK261; clear BK262; clear HB; have BK256 := n0_; have BK257 := n1_; have BK258 := n2_; have BK261 := n3_; have BK262 := n4_; have HB := n5_; clear n0_ n1_ n2_ n3_ n4_ n5_; (try clear hb); (try clear hb2); (try clear hk); (try clear hi)))
        go_ret
        exact ⟨by first | rfl | (simp [errW_none, errW_some] <;> rfl) | (simp [*, errW_none, errW_some] <;> rfl), by repeat (first | (with_reducible first | exact HB.out | apply zqg | apply zqf | apply zqh | refine below_set ?_ GE256.out | refine below_set ?_ GE257.out | refine below_set ?_ GE258.out | refine below_set ?_ GE261.out | refine below_set ?_ GE262.out) | exact HB.out)⟩

end Go.Proofs.Ytjiammiihamkiaa.PC
