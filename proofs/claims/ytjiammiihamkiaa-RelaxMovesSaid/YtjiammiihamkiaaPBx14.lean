-- Printed for this claim by wip/tools/xprint.py over the kit's print; the contracts marked BY HAND are this session's own.
import Derived.Test.YtjiammiihamkiaaPBx0
import Derived.Test.YtjiammiihamkiaaPBx6
import Derived.Test.YtjiammiihamkiaaPBx7
import Derived.Test.YtjiammiihamkiaaPBx11
import Derived.Test.YtjiammiihamkiaaPBx12
import Derived.Test.YtjiammiihamkiaaPBx13
namespace Go.Proofs.Ytjiammiihamkiaa.PB
open Go.RowKit Go.Proofs.YtjiammiihamkiaaW.PrintWords Go.Proofs.YtjiammiihamkiaaW.PrintLast Go.Proofs.YtjiammiihamkiaaW.PrintMore
attribute [local go_sem] max2_int min2_int max_two min_two max_three min_three max_four min_four   -- for this text's walks alone
set_option linter.unusedVariables false
set_option linter.unusedSimpArgs false

/-! ### haulierlaw11_RelaxMoves: function 7 -/
mutual
def haulierlaw11_RelaxMoves.j0 : Nat → Bool → Bool → Int → Int → Int → List (S23) → Int → Int → Int → Int → Int → Int → Int → Int → Int → Int → Int → Int → Int → Int → Int → Int → Option (Bool)
  | 0, _, _, _, _, _, _, _, _, _, _, _, _, _, _, _, _, _, _, _, _, _, _ => none
  | k + 1, x7, x49, x282000, x282001, x282002, x282003, x283000, x283001, x283002, x283003, x283004, x283005, x283006, x283007, x284000, x284001, x284002, x284003, x284004, x284005, x284006, x284007 => if x49 = true then (some x7) else ((state_Moves.f k x282000 x282001 x282002 x282003 x284000 x284001 x284002 x284003 x284004 x284005 x284006 x284007).bind fun t286 => (haulierlaw11_RelaxMoves.l0 k t286 0 x282000 x282001 x282002 x282003 x283000 x283001 x283002 x283003 x283004 x283005 x283006 x283007 x284000 x284001 x284002 x284003 x284004 x284005 x284006 x284007))
def haulierlaw11_RelaxMoves.l0 : Nat → List Int → Int → Int → Int → Int → List (S23) → Int → Int → Int → Int → Int → Int → Int → Int → Int → Int → Int → Int → Int → Int → Int → Int → Option (Bool)
  | 0, _, _, _, _, _, _, _, _, _, _, _, _, _, _, _, _, _, _, _, _, _, _ => none
  | k + 1, x8, x9, x282000, x282001, x282002, x282003, x283000, x283001, x283002, x283003, x283004, x283005, x283006, x283007, x284000, x284001, x284002, x284003, x284004, x284005, x284006, x284007 => if x9 < (x8.length : Int) then (if 0 ≤ x9 then ((state_Move.f k x282000 x282001 x282002 x282003 x283000 x283001 x283002 x283003 x283004 x283005 x283006 x283007 (rd x8 x9)).bind fun bt294 => ((state_Move.f k x282000 x282001 x282002 x282003 x284000 x284001 x284002 x284003 x284004 x284005 x284006 x284007 (rd x8 x9)).bind fun bt306 => (if bt294.2.2.2.2.2.2.2.2.2 = true then (if bt306.2.2.2.2.2.2.2.2.2 = true then (if bt294.2.2.2.2.2.2.2.2.1 = bt306.2.2.2.2.2.2.2.2.1 then ((relax_Covers.f bt294.1 bt294.2.1 bt294.2.2.1 bt294.2.2.2.1 bt294.2.2.2.2.1 bt294.2.2.2.2.2.1 bt294.2.2.2.2.2.2.1 bt294.2.2.2.2.2.2.2.1 bt306.1 bt306.2.1 bt306.2.2.1 bt306.2.2.2.1 bt306.2.2.2.2.1 bt306.2.2.2.2.2.1 bt306.2.2.2.2.2.2.1 bt306.2.2.2.2.2.2.2.1).bind fun t317 => (if t317 = true then (haulierlaw11_RelaxMoves.l0 k x8 (wrap64 (x9 + 1)) x282000 x282001 x282002 x282003 x283000 x283001 x283002 x283003 x283004 x283005 x283006 x283007 x284000 x284001 x284002 x284003 x284004 x284005 x284006 x284007) else (none))) else (none)) else (none)) else (none)))) else (none)) else ((state_End.f k x282000 x282001 x282002 x282003 x283000 x283001 x283002 x283003 x283004 x283005 x283006 x283007).bind fun bt289 => ((state_End.f k x282000 x282001 x282002 x282003 x284000 x284001 x284002 x284003 x284004 x284005 x284006 x284007).bind fun bt291 => (if bt291.2 = true then (if bt289.2 = true then (if bt289.1 = bt291.1 then (some true) else (some (x282000 == 0))) else (some (x282000 == 0))) else (some true))))
end
def haulierlaw11_RelaxMoves.f (k : Nat) (a0_0 : Int) (a0_1 : Int) (a0_2 : Int) (l0_3 : List (S23)) (a1_0 : Int) (a1_1 : Int) (a1_2 : Int) (a1_3 : Int) (a1_4 : Int) (a1_5 : Int) (a1_6 : Int) (a1_7 : Int) (a2_0 : Int) (a2_1 : Int) (a2_2 : Int) (a2_3 : Int) (a2_4 : Int) (a2_5 : Int) (a2_6 : Int) (a2_7 : Int) : Option (Bool) := (haulierlaw11_awake.f).bind fun t284 => (if t284 = true then (if (l0_3.length : Int) > 100 then (haulierlaw11_RelaxMoves.j0 k t284 true a0_0 a0_1 a0_2 l0_3 a1_0 a1_1 a1_2 a1_3 a1_4 a1_5 a1_6 a1_7 a2_0 a2_1 a2_2 a2_3 a2_4 a2_5 a2_6 a2_7) else ((relax_Covers.f a1_0 a1_1 a1_2 a1_3 a1_4 a1_5 a1_6 a1_7 a2_0 a2_1 a2_2 a2_3 a2_4 a2_5 a2_6 a2_7).bind fun t285 => (if t285 = true then (if a1_1 < 1 then (haulierlaw11_RelaxMoves.j0 k t284 true a0_0 a0_1 a0_2 l0_3 a1_0 a1_1 a1_2 a1_3 a1_4 a1_5 a1_6 a1_7 a2_0 a2_1 a2_2 a2_3 a2_4 a2_5 a2_6 a2_7) else (if a1_2 < 0 then (haulierlaw11_RelaxMoves.j0 k t284 true a0_0 a0_1 a0_2 l0_3 a1_0 a1_1 a1_2 a1_3 a1_4 a1_5 a1_6 a1_7 a2_0 a2_1 a2_2 a2_3 a2_4 a2_5 a2_6 a2_7) else (haulierlaw11_RelaxMoves.j0 k t284 (decide (a1_3 < 0)) a0_0 a0_1 a0_2 l0_3 a1_0 a1_1 a1_2 a1_3 a1_4 a1_5 a1_6 a1_7 a2_0 a2_1 a2_2 a2_3 a2_4 a2_5 a2_6 a2_7))) else (haulierlaw11_RelaxMoves.j0 k t284 true a0_0 a0_1 a0_2 l0_3 a1_0 a1_1 a1_2 a1_3 a1_4 a1_5 a1_6 a1_7 a2_0 a2_1 a2_2 a2_3 a2_4 a2_5 a2_6 a2_7)))) else (haulierlaw11_RelaxMoves.j0 k t284 true a0_0 a0_1 a0_2 l0_3 a1_0 a1_1 a1_2 a1_3 a1_4 a1_5 a1_6 a1_7 a2_0 a2_1 a2_2 a2_3 a2_4 a2_5 a2_6 a2_7))
theorem haulierlaw11_RelaxMoves.mono_l : ∀ k, (∀ y0 y1 y2 y3 y4 y5 y6 y7 y8 y9 y10 y11 y12 y13 y14 y15 y16 y17 y18 y19 y20 y21, LeO (haulierlaw11_RelaxMoves.j0 k y0 y1 y2 y3 y4 y5 y6 y7 y8 y9 y10 y11 y12 y13 y14 y15 y16 y17 y18 y19 y20 y21) (haulierlaw11_RelaxMoves.j0 (k + 1) y0 y1 y2 y3 y4 y5 y6 y7 y8 y9 y10 y11 y12 y13 y14 y15 y16 y17 y18 y19 y20 y21)) ∧ (∀ y0 y1 y2 y3 y4 y5 y6 y7 y8 y9 y10 y11 y12 y13 y14 y15 y16 y17 y18 y19 y20 y21, LeO (haulierlaw11_RelaxMoves.l0 k y0 y1 y2 y3 y4 y5 y6 y7 y8 y9 y10 y11 y12 y13 y14 y15 y16 y17 y18 y19 y20 y21) (haulierlaw11_RelaxMoves.l0 (k + 1) y0 y1 y2 y3 y4 y5 y6 y7 y8 y9 y10 y11 y12 y13 y14 y15 y16 y17 y18 y19 y20 y21))
  | 0 => ⟨fun _ _ _ _ _ _ _ _ _ _ _ _ _ _ _ _ _ _ _ _ _ _ r h => by simp [haulierlaw11_RelaxMoves.j0] at h, fun _ _ _ _ _ _ _ _ _ _ _ _ _ _ _ _ _ _ _ _ _ _ r h => by simp [haulierlaw11_RelaxMoves.l0] at h⟩
  | k + 1 => by
    obtain ⟨ih0, ih1⟩ := haulierlaw11_RelaxMoves.mono_l k
    refine ⟨?_, ?_⟩
    · intro y0 y1 y2 y3 y4 y5 y6 y7 y8 y9 y10 y11 y12 y13 y14 y15 y16 y17 y18 y19 y20 y21
      unfold haulierlaw11_RelaxMoves.j0
      repeat' first
      | (with_reducible exact ih0 _ _ _ _ _ _ _ _ _ _ _ _ _ _ _ _ _ _ _ _ _ _)
      | (with_reducible exact ih1 _ _ _ _ _ _ _ _ _ _ _ _ _ _ _ _ _ _ _ _ _ _)
      | (with_reducible exact state_End.mono _ _ _ _ _ _ _ _ _ _ _ _ _)
      | (with_reducible exact state_Move.mono _ _ _ _ _ _ _ _ _ _ _ _ _ _)
      | (with_reducible exact state_Moves.mono _ _ _ _ _ _ _ _ _ _ _ _ _)
      | (with_reducible exact LeO.refl _)
      | (with_reducible exact LeO.none _)
      | (with_reducible refine LeO.ite ?_ ?_)
      | (with_reducible refine LeO.bind ?_ (fun _ => ?_))
      | exact ih0 _ _ _ _ _ _ _ _ _ _ _ _ _ _ _ _ _ _ _ _ _ _
      | exact ih1 _ _ _ _ _ _ _ _ _ _ _ _ _ _ _ _ _ _ _ _ _ _
      | exact state_End.mono _ _ _ _ _ _ _ _ _ _ _ _ _
      | exact state_Move.mono _ _ _ _ _ _ _ _ _ _ _ _ _ _
      | exact state_Moves.mono _ _ _ _ _ _ _ _ _ _ _ _ _
      | exact LeO.none _
      | refine LeO.ite ?_ ?_
      | refine LeO.bind ?_ (fun _ => ?_)
    · intro y0 y1 y2 y3 y4 y5 y6 y7 y8 y9 y10 y11 y12 y13 y14 y15 y16 y17 y18 y19 y20 y21
      unfold haulierlaw11_RelaxMoves.l0
      repeat' first
      | (with_reducible exact ih0 _ _ _ _ _ _ _ _ _ _ _ _ _ _ _ _ _ _ _ _ _ _)
      | (with_reducible exact ih1 _ _ _ _ _ _ _ _ _ _ _ _ _ _ _ _ _ _ _ _ _ _)
      | (with_reducible exact state_End.mono _ _ _ _ _ _ _ _ _ _ _ _ _)
      | (with_reducible exact state_Move.mono _ _ _ _ _ _ _ _ _ _ _ _ _ _)
      | (with_reducible exact state_Moves.mono _ _ _ _ _ _ _ _ _ _ _ _ _)
      | (with_reducible exact LeO.refl _)
      | (with_reducible exact LeO.none _)
      | (with_reducible refine LeO.ite ?_ ?_)
      | (with_reducible refine LeO.bind ?_ (fun _ => ?_))
      | exact ih0 _ _ _ _ _ _ _ _ _ _ _ _ _ _ _ _ _ _ _ _ _ _
      | exact ih1 _ _ _ _ _ _ _ _ _ _ _ _ _ _ _ _ _ _ _ _ _ _
      | exact state_End.mono _ _ _ _ _ _ _ _ _ _ _ _ _
      | exact state_Move.mono _ _ _ _ _ _ _ _ _ _ _ _ _ _
      | exact state_Moves.mono _ _ _ _ _ _ _ _ _ _ _ _ _
      | exact LeO.none _
      | refine LeO.ite ?_ ?_
      | refine LeO.bind ?_ (fun _ => ?_)
theorem haulierlaw11_RelaxMoves.mono : ∀ a0 a1 a2 a3 a4 a5 a6 a7 a8 a9 a10 a11 a12 a13 a14 a15 a16 a17 a18 a19 k, LeO (haulierlaw11_RelaxMoves.f k a0 a1 a2 a3 a4 a5 a6 a7 a8 a9 a10 a11 a12 a13 a14 a15 a16 a17 a18 a19) (haulierlaw11_RelaxMoves.f (k + 1) a0 a1 a2 a3 a4 a5 a6 a7 a8 a9 a10 a11 a12 a13 a14 a15 a16 a17 a18 a19) := by
  intro a0 a1 a2 a3 a4 a5 a6 a7 a8 a9 a10 a11 a12 a13 a14 a15 a16 a17 a18 a19 k
  obtain ⟨ih0, ih1⟩ := haulierlaw11_RelaxMoves.mono_l k
  unfold haulierlaw11_RelaxMoves.f
  repeat' first
      | (with_reducible exact ih0 _ _ _ _ _ _ _ _ _ _ _ _ _ _ _ _ _ _ _ _ _ _)
      | (with_reducible exact ih1 _ _ _ _ _ _ _ _ _ _ _ _ _ _ _ _ _ _ _ _ _ _)
      | (with_reducible exact state_End.mono _ _ _ _ _ _ _ _ _ _ _ _ _)
      | (with_reducible exact state_Move.mono _ _ _ _ _ _ _ _ _ _ _ _ _ _)
      | (with_reducible exact state_Moves.mono _ _ _ _ _ _ _ _ _ _ _ _ _)
      | (with_reducible exact LeO.refl _)
      | (with_reducible exact LeO.none _)
      | (with_reducible refine LeO.ite ?_ ?_)
      | (with_reducible refine LeO.bind ?_ (fun _ => ?_))
      | exact ih0 _ _ _ _ _ _ _ _ _ _ _ _ _ _ _ _ _ _ _ _ _ _
      | exact ih1 _ _ _ _ _ _ _ _ _ _ _ _ _ _ _ _ _ _ _ _ _ _
      | exact state_End.mono _ _ _ _ _ _ _ _ _ _ _ _ _
      | exact state_Move.mono _ _ _ _ _ _ _ _ _ _ _ _ _ _
      | exact state_Moves.mono _ _ _ _ _ _ _ _ _ _ _ _ _
      | exact LeO.none _
      | refine LeO.ite ?_ ?_
      | refine LeO.bind ?_ (fun _ => ?_)
def haulierlaw11_RelaxMoves.T8 : Bool × List (List Nat × List Nat) := (true, [([], []), ([], []), ([], []), ([], []), ([2, 3], [2, 3]), ([4], [4]), ([0, 1, 5], [0, 1, 5]), ([6], [6]), ([7], [7]), ([7], [7]), ([7], [7]), ([], []), ([11, 8, 6, 0, 1, 2, 3, 4, 5, 6, 7, 8, 11], [8, 11]), ([9, 12, 0, 1, 2, 3, 4, 5, 6, 7, 8, 9, 11, 12], [9]), ([10, 13, 0, 1, 2, 3, 4, 5, 6, 7, 8, 9, 10, 11, 12, 13], [10])])
def haulierlaw11_RelaxMoves.B8 : List Nat := [0, 0, 0, 0, 12, 28, 63, 127, 255, 255, 255, 0, 2559, 7167, 16383]
theorem haulierlaw11_RelaxMoves.tab8 : rtab .any (opsOf Try.f7 8) = haulierlaw11_RelaxMoves.T8 := by kernel_rfl
theorem haulierlaw11_RelaxMoves.bits8 : waitsOk haulierlaw11_RelaxMoves.T8.2 haulierlaw11_RelaxMoves.B8 = true := by kernel_rfl
def haulierlaw11_RelaxMoves.T9 : Bool × List (List Nat × List Nat) := (true, [([], []), ([], []), ([], []), ([], []), ([2, 3], [2, 3]), ([4], [4]), ([0, 1, 5], [0, 1, 5]), ([6], [6]), ([7], [7]), ([7], [7]), ([7], [7]), ([], []), ([11, 8, 6, 0, 1, 2, 3, 4, 5, 6, 7, 8, 11], [8, 11]), ([9, 12, 0, 1, 2, 3, 4, 5, 6, 7, 8, 9, 11, 12], [9]), ([10, 13, 0, 1, 2, 3, 4, 5, 6, 7, 8, 9, 10, 11, 12, 13], [10])])
def haulierlaw11_RelaxMoves.B9 : List Nat := [0, 0, 0, 0, 12, 28, 63, 127, 255, 255, 255, 0, 2559, 7167, 16383]
theorem haulierlaw11_RelaxMoves.tab9 : rtab .any (opsOf Try.f7 9) = haulierlaw11_RelaxMoves.T9 := by kernel_rfl
theorem haulierlaw11_RelaxMoves.bits9 : waitsOk haulierlaw11_RelaxMoves.T9.2 haulierlaw11_RelaxMoves.B9 = true := by kernel_rfl
set_option maxHeartbeats 16000000 in
set_option maxRecDepth 100000 in
theorem haulierlaw11_RelaxMoves.calls (k : Nat) (a0_0 : Int) (a0_1 : Int) (a0_2 : Int) (A0_3 : Option Addr) (c0_3 : Nat) (l0_3 : List (S23)) (a1_0 : Int) (a1_1 : Int) (a1_2 : Int) (a1_3 : Int) (a1_4 : Int) (a1_5 : Int) (a1_6 : Int) (a1_7 : Int) (a2_0 : Int) (a2_1 : Int) (a2_2 : Int) (a2_3 : Int) (a2_4 : Int) (a2_5 : Int) (a2_6 : Int) (a2_7 : Int) (r : Bool) (w : World) (hr0_3 : Kd.C k23 w A0_3 l0_3.length l0_3) (hc0_3 : l0_3.length ≤ c0_3) (h : haulierlaw11_RelaxMoves.f k a0_0 a0_1 a0_2 l0_3 a1_0 a1_1 a1_2 a1_3 a1_4 a1_5 a1_6 a1_7 a2_0 a2_1 a2_2 a2_3 a2_4 a2_5 a2_6 a2_7 = some r) :
  Calls Try.prog 7 #[.agg #[.int .i64 a0_0, .int .i64 a0_1, .int .i64 a0_2, .slice A0_3 l0_3.length c0_3], .agg #[.int .i64 a1_0, .int .i64 a1_1, .int .i64 a1_2, .int .i64 a1_3, .int .i64 a1_4, .int .u64 a1_5, .int .u64 a1_6, .int .u64 a1_7], .agg #[.int .i64 a2_0, .int .i64 a2_1, .int .i64 a2_2, .int .i64 a2_3, .int .i64 a2_4, .int .u64 a2_5, .int .u64 a2_6, .int .u64 a2_7]] w fun e w' => e = .returned (.bool r) ∧ Below w.heap.size w w' := by
 have hu26 := Try.underlying26
 have hu40 := Try.underlying40
 have HR0_3 := zqi hr0_3
 have HC0_3 := zqi hc0_3
 clear hr0_3 hc0_3
 have HB := zqi (Below.refl w.heap.size w)
 have H : ((haulierlaw11_awake.f).bind fun t284 => (if t284 = true then (if (l0_3.length : Int) > 100 then (haulierlaw11_RelaxMoves.j0 k t284 true a0_0 a0_1 a0_2 l0_3 a1_0 a1_1 a1_2 a1_3 a1_4 a1_5 a1_6 a1_7 a2_0 a2_1 a2_2 a2_3 a2_4 a2_5 a2_6 a2_7) else ((relax_Covers.f a1_0 a1_1 a1_2 a1_3 a1_4 a1_5 a1_6 a1_7 a2_0 a2_1 a2_2 a2_3 a2_4 a2_5 a2_6 a2_7).bind fun t285 => (if t285 = true then (if a1_1 < 1 then (haulierlaw11_RelaxMoves.j0 k t284 true a0_0 a0_1 a0_2 l0_3 a1_0 a1_1 a1_2 a1_3 a1_4 a1_5 a1_6 a1_7 a2_0 a2_1 a2_2 a2_3 a2_4 a2_5 a2_6 a2_7) else (if a1_2 < 0 then (haulierlaw11_RelaxMoves.j0 k t284 true a0_0 a0_1 a0_2 l0_3 a1_0 a1_1 a1_2 a1_3 a1_4 a1_5 a1_6 a1_7 a2_0 a2_1 a2_2 a2_3 a2_4 a2_5 a2_6 a2_7) else (haulierlaw11_RelaxMoves.j0 k t284 (decide (a1_3 < 0)) a0_0 a0_1 a0_2 l0_3 a1_0 a1_1 a1_2 a1_3 a1_4 a1_5 a1_6 a1_7 a2_0 a2_1 a2_2 a2_3 a2_4 a2_5 a2_6 a2_7))) else (haulierlaw11_RelaxMoves.j0 k t284 true a0_0 a0_1 a0_2 l0_3 a1_0 a1_1 a1_2 a1_3 a1_4 a1_5 a1_6 a1_7 a2_0 a2_1 a2_2 a2_3 a2_4 a2_5 a2_6 a2_7)))) else (haulierlaw11_RelaxMoves.j0 k t284 true a0_0 a0_1 a0_2 l0_3 a1_0 a1_1 a1_2 a1_3 a1_4 a1_5 a1_6 a1_7 a2_0 a2_1 a2_2 a2_3 a2_4 a2_5 a2_6 a2_7))) = some r := h
 clear h
 replace H := Option.bind_eq_some_iff.mp H
 obtain ⟨t284, A40, H⟩ := H
 replace H : (if t284 = true then (if (l0_3.length : Int) > 100 then (haulierlaw11_RelaxMoves.j0 k t284 true a0_0 a0_1 a0_2 l0_3 a1_0 a1_1 a1_2 a1_3 a1_4 a1_5 a1_6 a1_7 a2_0 a2_1 a2_2 a2_3 a2_4 a2_5 a2_6 a2_7) else ((relax_Covers.f a1_0 a1_1 a1_2 a1_3 a1_4 a1_5 a1_6 a1_7 a2_0 a2_1 a2_2 a2_3 a2_4 a2_5 a2_6 a2_7).bind fun t285 => (if t285 = true then (if a1_1 < 1 then (haulierlaw11_RelaxMoves.j0 k t284 true a0_0 a0_1 a0_2 l0_3 a1_0 a1_1 a1_2 a1_3 a1_4 a1_5 a1_6 a1_7 a2_0 a2_1 a2_2 a2_3 a2_4 a2_5 a2_6 a2_7) else (if a1_2 < 0 then (haulierlaw11_RelaxMoves.j0 k t284 true a0_0 a0_1 a0_2 l0_3 a1_0 a1_1 a1_2 a1_3 a1_4 a1_5 a1_6 a1_7 a2_0 a2_1 a2_2 a2_3 a2_4 a2_5 a2_6 a2_7) else (haulierlaw11_RelaxMoves.j0 k t284 (decide (a1_3 < 0)) a0_0 a0_1 a0_2 l0_3 a1_0 a1_1 a1_2 a1_3 a1_4 a1_5 a1_6 a1_7 a2_0 a2_1 a2_2 a2_3 a2_4 a2_5 a2_6 a2_7))) else (haulierlaw11_RelaxMoves.j0 k t284 true a0_0 a0_1 a0_2 l0_3 a1_0 a1_1 a1_2 a1_3 a1_4 a1_5 a1_6 a1_7 a2_0 a2_1 a2_2 a2_3 a2_4 a2_5 a2_6 a2_7)))) else (haulierlaw11_RelaxMoves.j0 k t284 true a0_0 a0_1 a0_2 l0_3 a1_0 a1_1 a1_2 a1_3 a1_4 a1_5 a1_6 a1_7 a2_0 a2_1 a2_2 a2_3 a2_4 a2_5 a2_6 a2_7)) = some r := H
 have A4 := zqi A40
 clear A40
 have HC5 := zqi H
 clear H
 go_enter Try.func7, Try.ntmps7
 go_upto_region 2 with (first | ((with_reducible refine gate_dst (N := 3) rfl ?_); (try (refine gate_guard (by rfl) ?_; dsimp only)); refine box_event ?hg (N := 3) ?hd (cs := #[.int .i64 a0_0, .int .i64 a0_1, .int .i64 a0_2, .slice A0_3 l0_3.length c0_3]) (t := 26) ?hr ?_; (case hd => rfl); (case hg => rfl); (case hr => first | (go_simp; done) | (go_simp; rfl)); intro gb281 hg w6 hbox hb; have n0_ := zqi (below_step (zqn HB.out) hb); have n1_ := zqi (hbox); have n2_ := zqi (zqo hg HB.out); have n3_ := zqi (zqo hg HB.out); clear HB; have HB := n0_; have BK281 := n1_; have GW281 := n2_; have GE281 := n3_; clear n0_ n1_ n2_ n3_; clear hb hbox hg) | ((with_reducible refine gate_dst (N := 4) rfl ?_); (try (refine gate_guard (by rfl) ?_; dsimp only)); refine box_event ?hg (N := 4) ?hd (cs := #[.int .i64 a1_0, .int .i64 a1_1, .int .i64 a1_2, .int .i64 a1_3, .int .i64 a1_4, .int .u64 a1_5, .int .u64 a1_6, .int .u64 a1_7]) (t := 40) ?hr ?_; (case hd => rfl); (case hg => rfl); (case hr => first | (go_simp; done) | (go_simp; rfl)); intro gb282 hg w7 hbox hb; have n0_ := zqi (zqy BK281.out hb); have n1_ := zqi (below_step (zqn HB.out) hb); have n2_ := zqi (hbox); have n3_ := zqi (zqo hg HB.out); have n4_ := zqi (zqo hg HB.out); have n5_ := zqi ((zqq hg BK281.out)); have n6_ := zqi ((zqr hg BK281.out)); clear BK281; clear HB; have BK281 := n0_; have HB := n1_; have BK282 := n2_; have GW282 := n3_; have GE282 := n4_; have NB281_282 := n5_; have NB282_281 := n6_; clear n0_ n1_ n2_ n3_ n4_ n5_ n6_; clear hb hbox hg) | ((with_reducible refine gate_dst (N := 5) rfl ?_); (try (refine gate_guard (by rfl) ?_; dsimp only)); refine box_event ?hg (N := 5) ?hd (cs := #[.int .i64 a2_0, .int .i64 a2_1, .int .i64 a2_2, .int .i64 a2_3, .int .i64 a2_4, .int .u64 a2_5, .int .u64 a2_6, .int .u64 a2_7]) (t := 40) ?hr ?_; (case hd => rfl); (case hg => rfl); (case hr => first | (go_simp; done) | (go_simp; rfl)); intro gb283 hg w8 hbox hb; have n0_ := zqi (zqy BK281.out hb); have n1_ := zqi (zqy BK282.out hb); have n2_ := zqi (below_step (zqn HB.out) hb); have n3_ := zqi (hbox); have n4_ := zqi (zqo hg HB.out); have n5_ := zqi (zqo hg HB.out); have n6_ := zqi ((zqq hg BK281.out)); have n7_ := zqi ((zqr hg BK281.out)); have n8_ := zqi ((zqq hg BK282.out)); have n9_ := zqi ((zqr hg BK282.out)); clear BK281; clear BK282; clear HB; have BK281 := n0_; have BK282 := n1_; have HB := n2_; have BK283 := n3_; have GW283 := n4_; have GE283 := n5_; have NB281_283 := n6_; have NB283_281 := n7_; have NB282_283 := n8_; have NB283_282 := n9_; clear n0_ n1_ n2_ n3_ n4_ n5_ n6_ n7_ n8_ n9_; clear hb hbox hg) | ((with_reducible refine gate_callee (f := 20) rfl ?_); refine goesL_ (some 20) rfl rfl Try.func20 (by kernel_rfl) rfl #[] rfl (by (try simp only [List.map_toArray, List.map_cons, List.map_nil]); first | done | rfl | (simp only [List.length_drop, List.length_take]; rfl)) ?_; (with_reducible refine (haulierlaw11_awake.calls  t284 _ A4.out).mono ?_); rintro e w9 ⟨rfl, hb⟩; refine ⟨_, rfl, ?_⟩; have n0_ := zqi (zqy BK281.out hb); have n1_ := zqi (zqy BK282.out hb); have n2_ := zqi (zqy BK283.out hb); have n3_ := zqi (below_step (zqn HB.out) hb); clear BK281; clear BK282; clear BK283; clear HB; have BK281 := n0_; have BK282 := n1_; have BK283 := n2_; have HB := n3_; clear n0_ n1_ n2_ n3_; (try clear hb); (try clear hb2); (try clear hk); (try clear hi)))
 (try simp only [Act.put, List.setIfInBounds_toArray, List.set_cons_zero, List.set_cons_succ])
 go_cut [49] (fun v49 wc => ∃ (kq : Nat) (x49_4 : Bool), v49 = .bool x49_4 ∧ Aside0 (haulierlaw11_RelaxMoves.j0 kq t284 x49_4 a0_0 a0_1 a0_2 l0_3 a1_0 a1_1 a1_2 a1_3 a1_4 a1_5 a1_6 a1_7 a2_0 a2_1 a2_2 a2_3 a2_4 a2_5 a2_6 a2_7 = some r) ∧ Aside0 (kq ≤ k) ∧ Aside0 (wc.heap[gb281]? = some (.cells #[.int .i64 a0_0, .int .i64 a0_1, .int .i64 a0_2, (.slice A0_3 l0_3.length c0_3)] 26 (0, 0))) ∧ Aside0 (wc.heap[gb282]? = some (.cells #[.int .i64 a1_0, .int .i64 a1_1, .int .i64 a1_2, .int .i64 a1_3, .int .i64 a1_4, .int .u64 a1_5, .int .u64 a1_6, .int .u64 a1_7] 40 (0, 0))) ∧ Aside0 (wc.heap[gb283]? = some (.cells #[.int .i64 a2_0, .int .i64 a2_1, .int .i64 a2_2, .int .i64 a2_3, .int .i64 a2_4, .int .u64 a2_5, .int .u64 a2_6, .int .u64 a2_7] 40 (0, 0))) ∧ Aside0 (Below w.heap.size w wc))
 case first =>
  have H := HC5.out
  clear HC5
  by_cases c10 : t284 = true
  ·
   subst c10
   have H1 : (if (l0_3.length : Int) > 100 then (haulierlaw11_RelaxMoves.j0 k true true a0_0 a0_1 a0_2 l0_3 a1_0 a1_1 a1_2 a1_3 a1_4 a1_5 a1_6 a1_7 a2_0 a2_1 a2_2 a2_3 a2_4 a2_5 a2_6 a2_7) else ((relax_Covers.f a1_0 a1_1 a1_2 a1_3 a1_4 a1_5 a1_6 a1_7 a2_0 a2_1 a2_2 a2_3 a2_4 a2_5 a2_6 a2_7).bind fun t285 => (if t285 = true then (if a1_1 < 1 then (haulierlaw11_RelaxMoves.j0 k true true a0_0 a0_1 a0_2 l0_3 a1_0 a1_1 a1_2 a1_3 a1_4 a1_5 a1_6 a1_7 a2_0 a2_1 a2_2 a2_3 a2_4 a2_5 a2_6 a2_7) else (if a1_2 < 0 then (haulierlaw11_RelaxMoves.j0 k true true a0_0 a0_1 a0_2 l0_3 a1_0 a1_1 a1_2 a1_3 a1_4 a1_5 a1_6 a1_7 a2_0 a2_1 a2_2 a2_3 a2_4 a2_5 a2_6 a2_7) else (haulierlaw11_RelaxMoves.j0 k true (decide (a1_3 < 0)) a0_0 a0_1 a0_2 l0_3 a1_0 a1_1 a1_2 a1_3 a1_4 a1_5 a1_6 a1_7 a2_0 a2_1 a2_2 a2_3 a2_4 a2_5 a2_6 a2_7))) else (haulierlaw11_RelaxMoves.j0 k true true a0_0 a0_1 a0_2 l0_3 a1_0 a1_1 a1_2 a1_3 a1_4 a1_5 a1_6 a1_7 a2_0 a2_1 a2_2 a2_3 a2_4 a2_5 a2_6 a2_7)))) = some r := by rw [if_pos rfl] at H; exact H
   clear H
   have H := H1
   clear H1
   by_cases c11 : (l0_3.length : Int) > 100
   ·
    rw [if_pos c11] at H
    have c11b0 : decide (100 < (l0_3.length : Int)) = true := decide_eq_true c11
    have c11b1 : decide (100 < l0_3.length) = true := decide_eq_true (by omega)
    clear c11
    (first | rw [c11b0] | (simp only [i64_w, i32_w]; rw [c11b0]) | skip)
    have H' := zqi H
    clear H
    have hnb12 := NB281_282.out
    have hnc12 := NB282_281.out
    have hnb13 := NB281_283.out
    have hnc13 := NB283_281.out
    obtain ⟨hcz14_0, hcz14_1, hcz14_2, hcz14_3, hfz14_0, hfz14_1, hfz14_2, hfz14_3⟩ := zqz4 BK281.out
    go_wp2
    go_meet
    case rel => exact ⟨_, (true), (by first | rfl | (simp; done) | (simp [*]; done)), H', ⟨by first | omega | exact Nat.le_refl _⟩, ⟨by (with_reducible repeat (first | apply zqa | apply zqb | apply zqc)); exact BK281.out⟩, ⟨by (with_reducible repeat (first | apply zqa | apply zqb | apply zqc)); exact BK282.out⟩, ⟨by (with_reducible repeat (first | apply zqa | apply zqb | apply zqc)); exact BK283.out⟩, ⟨by repeat (first | (with_reducible first | exact HB.out | apply zqg | apply zqf | apply zqh | refine below_set ?_ GE281.out | refine below_set ?_ GE282.out | refine below_set ?_ GE283.out) | exact HB.out)⟩⟩
   ·
    rw [if_neg c11] at H
    have c11b0 : decide (100 < (l0_3.length : Int)) = false := decide_eq_false c11
    have c11b1 : decide (100 < l0_3.length) = false := decide_eq_false (by omega)
    clear c11
    (first | rw [c11b0] | (simp only [i64_w, i32_w]; rw [c11b0]) | skip)
    replace H := Option.bind_eq_some_iff.mp H
    obtain ⟨t285, A150, H⟩ := H
    replace H : (if t285 = true then (if a1_1 < 1 then (haulierlaw11_RelaxMoves.j0 k true true a0_0 a0_1 a0_2 l0_3 a1_0 a1_1 a1_2 a1_3 a1_4 a1_5 a1_6 a1_7 a2_0 a2_1 a2_2 a2_3 a2_4 a2_5 a2_6 a2_7) else (if a1_2 < 0 then (haulierlaw11_RelaxMoves.j0 k true true a0_0 a0_1 a0_2 l0_3 a1_0 a1_1 a1_2 a1_3 a1_4 a1_5 a1_6 a1_7 a2_0 a2_1 a2_2 a2_3 a2_4 a2_5 a2_6 a2_7) else (haulierlaw11_RelaxMoves.j0 k true (decide (a1_3 < 0)) a0_0 a0_1 a0_2 l0_3 a1_0 a1_1 a1_2 a1_3 a1_4 a1_5 a1_6 a1_7 a2_0 a2_1 a2_2 a2_3 a2_4 a2_5 a2_6 a2_7))) else (haulierlaw11_RelaxMoves.j0 k true true a0_0 a0_1 a0_2 l0_3 a1_0 a1_1 a1_2 a1_3 a1_4 a1_5 a1_6 a1_7 a2_0 a2_1 a2_2 a2_3 a2_4 a2_5 a2_6 a2_7)) = some r := H
    have A15 := zqi A150
    clear A150
    by_cases c16 : t285 = true
    ·
     subst c16
     have H1 : (if a1_1 < 1 then (haulierlaw11_RelaxMoves.j0 k true true a0_0 a0_1 a0_2 l0_3 a1_0 a1_1 a1_2 a1_3 a1_4 a1_5 a1_6 a1_7 a2_0 a2_1 a2_2 a2_3 a2_4 a2_5 a2_6 a2_7) else (if a1_2 < 0 then (haulierlaw11_RelaxMoves.j0 k true true a0_0 a0_1 a0_2 l0_3 a1_0 a1_1 a1_2 a1_3 a1_4 a1_5 a1_6 a1_7 a2_0 a2_1 a2_2 a2_3 a2_4 a2_5 a2_6 a2_7) else (haulierlaw11_RelaxMoves.j0 k true (decide (a1_3 < 0)) a0_0 a0_1 a0_2 l0_3 a1_0 a1_1 a1_2 a1_3 a1_4 a1_5 a1_6 a1_7 a2_0 a2_1 a2_2 a2_3 a2_4 a2_5 a2_6 a2_7))) = some r := by rw [if_pos rfl] at H; exact H
     clear H
     have H := H1
     clear H1
     by_cases c17 : a1_1 < 1
     ·
      rw [if_pos c17] at H
      have c17b0 : decide (a1_1 < 1) = true := decide_eq_true c17
      clear c17
      have H' := zqi H
      clear H
      have hnb18 := NB281_282.out
      have hnc18 := NB282_281.out
      have hnb19 := NB281_283.out
      have hnc19 := NB283_281.out
      obtain ⟨hcz20_0, hcz20_1, hcz20_2, hcz20_3, hfz20_0, hfz20_1, hfz20_2, hfz20_3⟩ := zqz4 BK281.out
      have hnb21 := NB282_283.out
      have hnc21 := NB283_282.out
      obtain ⟨hcz22_0, hcz22_1, hcz22_2, hcz22_3, hcz22_4, hcz22_5, hcz22_6, hcz22_7, hfz22_0, hfz22_1, hfz22_2, hfz22_3, hfz22_4, hfz22_5, hfz22_6, hfz22_7⟩ := zqz8 BK282.out
      obtain ⟨hcz23_0, hcz23_1, hcz23_2, hcz23_3, hcz23_4, hcz23_5, hcz23_6, hcz23_7, hfz23_0, hfz23_1, hfz23_2, hfz23_3, hfz23_4, hfz23_5, hfz23_6, hfz23_7⟩ := zqz8 BK283.out
      go_wp2_with (first | (go_at_call 21; (with_reducible refine (relax_Covers.calls a1_0 a1_1 a1_2 a1_3 a1_4 a1_5 a1_6 a1_7 a2_0 a2_1 a2_2 a2_3 a2_4 a2_5 a2_6 a2_7 true _ A15.out).mono ?_); rintro e w24 ⟨rfl, hb⟩; have n0_ := zqi (zqy BK281.out hb); have n1_ := zqi (zqy BK282.out hb); have n2_ := zqi (zqy BK283.out hb); have n3_ := zqi (below_step (zqn HB.out) hb); clear BK281; clear BK282; clear BK283; clear HB; have BK281 := n0_; have BK282 := n1_; have BK283 := n2_; have HB := n3_; clear n0_ n1_ n2_ n3_; (try clear hb); (try clear hb2); (try clear hk); (try clear hi); obtain ⟨hcz25_0, hcz25_1, hcz25_2, hcz25_3, hcz25_4, hcz25_5, hcz25_6, hcz25_7, hfz25_0, hfz25_1, hfz25_2, hfz25_3, hfz25_4, hfz25_5, hfz25_6, hfz25_7⟩ := zqz8 BK282.out))
      go_meet
      case rel => exact ⟨_, (true), (by first | rfl | (simp; done) | (simp [*]; done)), H', ⟨by first | omega | exact Nat.le_refl _⟩, ⟨by (with_reducible repeat (first | apply zqa | apply zqb | apply zqc)); exact BK281.out⟩, ⟨by (with_reducible repeat (first | apply zqa | apply zqb | apply zqc)); exact BK282.out⟩, ⟨by (with_reducible repeat (first | apply zqa | apply zqb | apply zqc)); exact BK283.out⟩, ⟨by repeat (first | (with_reducible first | exact HB.out | apply zqg | apply zqf | apply zqh | refine below_set ?_ GE281.out | refine below_set ?_ GE282.out | refine below_set ?_ GE283.out) | exact HB.out)⟩⟩
     ·
      rw [if_neg c17] at H
      have c17b0 : decide (a1_1 < 1) = false := decide_eq_false c17
      clear c17
      by_cases c26 : a1_2 < 0
      ·
       rw [if_pos c26] at H
       have c26b0 : decide (a1_2 < 0) = true := decide_eq_true c26
       clear c26
       have H' := zqi H
       clear H
       have hnb27 := NB281_282.out
       have hnc27 := NB282_281.out
       have hnb28 := NB281_283.out
       have hnc28 := NB283_281.out
       obtain ⟨hcz29_0, hcz29_1, hcz29_2, hcz29_3, hfz29_0, hfz29_1, hfz29_2, hfz29_3⟩ := zqz4 BK281.out
       have hnb30 := NB282_283.out
       have hnc30 := NB283_282.out
       obtain ⟨hcz31_0, hcz31_1, hcz31_2, hcz31_3, hcz31_4, hcz31_5, hcz31_6, hcz31_7, hfz31_0, hfz31_1, hfz31_2, hfz31_3, hfz31_4, hfz31_5, hfz31_6, hfz31_7⟩ := zqz8 BK282.out
       obtain ⟨hcz32_0, hcz32_1, hcz32_2, hcz32_3, hcz32_4, hcz32_5, hcz32_6, hcz32_7, hfz32_0, hfz32_1, hfz32_2, hfz32_3, hfz32_4, hfz32_5, hfz32_6, hfz32_7⟩ := zqz8 BK283.out
       go_wp2_with (first | (go_at_call 21; (with_reducible refine (relax_Covers.calls a1_0 a1_1 a1_2 a1_3 a1_4 a1_5 a1_6 a1_7 a2_0 a2_1 a2_2 a2_3 a2_4 a2_5 a2_6 a2_7 true _ A15.out).mono ?_); rintro e w33 ⟨rfl, hb⟩; have n0_ := zqi (zqy BK281.out hb); have n1_ := zqi (zqy BK282.out hb); have n2_ := zqi (zqy BK283.out hb); have n3_ := zqi (below_step (zqn HB.out) hb); clear BK281; clear BK282; clear BK283; clear HB; have BK281 := n0_; have BK282 := n1_; have BK283 := n2_; have HB := n3_; clear n0_ n1_ n2_ n3_; (try clear hb); (try clear hb2); (try clear hk); (try clear hi); obtain ⟨hcz34_0, hcz34_1, hcz34_2, hcz34_3, hcz34_4, hcz34_5, hcz34_6, hcz34_7, hfz34_0, hfz34_1, hfz34_2, hfz34_3, hfz34_4, hfz34_5, hfz34_6, hfz34_7⟩ := zqz8 BK282.out))
       go_meet
       case rel => exact ⟨_, (true), (by first | rfl | (simp; done) | (simp [*]; done)), H', ⟨by first | omega | exact Nat.le_refl _⟩, ⟨by (with_reducible repeat (first | apply zqa | apply zqb | apply zqc)); exact BK281.out⟩, ⟨by (with_reducible repeat (first | apply zqa | apply zqb | apply zqc)); exact BK282.out⟩, ⟨by (with_reducible repeat (first | apply zqa | apply zqb | apply zqc)); exact BK283.out⟩, ⟨by repeat (first | (with_reducible first | exact HB.out | apply zqg | apply zqf | apply zqh | refine below_set ?_ GE281.out | refine below_set ?_ GE282.out | refine below_set ?_ GE283.out) | exact HB.out)⟩⟩
      ·
       rw [if_neg c26] at H
       have c26b0 : decide (a1_2 < 0) = false := decide_eq_false c26
       clear c26
       have H' := zqi H
       clear H
       have hnb35 := NB281_282.out
       have hnc35 := NB282_281.out
       have hnb36 := NB281_283.out
       have hnc36 := NB283_281.out
       obtain ⟨hcz37_0, hcz37_1, hcz37_2, hcz37_3, hfz37_0, hfz37_1, hfz37_2, hfz37_3⟩ := zqz4 BK281.out
       have hnb38 := NB282_283.out
       have hnc38 := NB283_282.out
       obtain ⟨hcz39_0, hcz39_1, hcz39_2, hcz39_3, hcz39_4, hcz39_5, hcz39_6, hcz39_7, hfz39_0, hfz39_1, hfz39_2, hfz39_3, hfz39_4, hfz39_5, hfz39_6, hfz39_7⟩ := zqz8 BK282.out
       obtain ⟨hcz40_0, hcz40_1, hcz40_2, hcz40_3, hcz40_4, hcz40_5, hcz40_6, hcz40_7, hfz40_0, hfz40_1, hfz40_2, hfz40_3, hfz40_4, hfz40_5, hfz40_6, hfz40_7⟩ := zqz8 BK283.out
       go_wp2_with (first | (go_at_call 21; (with_reducible refine (relax_Covers.calls a1_0 a1_1 a1_2 a1_3 a1_4 a1_5 a1_6 a1_7 a2_0 a2_1 a2_2 a2_3 a2_4 a2_5 a2_6 a2_7 true _ A15.out).mono ?_); rintro e w41 ⟨rfl, hb⟩; have n0_ := zqi (zqy BK281.out hb); have n1_ := zqi (zqy BK282.out hb); have n2_ := zqi (zqy BK283.out hb); have n3_ := zqi (below_step (zqn HB.out) hb); clear BK281; clear BK282; clear BK283; clear HB; have BK281 := n0_; have BK282 := n1_; have BK283 := n2_; have HB := n3_; clear n0_ n1_ n2_ n3_; (try clear hb); (try clear hb2); (try clear hk); (try clear hi); obtain ⟨hcz42_0, hcz42_1, hcz42_2, hcz42_3, hcz42_4, hcz42_5, hcz42_6, hcz42_7, hfz42_0, hfz42_1, hfz42_2, hfz42_3, hfz42_4, hfz42_5, hfz42_6, hfz42_7⟩ := zqz8 BK282.out))
       go_meet
       case rel => exact ⟨_, (decide (a1_3 < 0)), (by first | rfl | (simp; done) | (simp [*]; done)), H', ⟨by first | omega | exact Nat.le_refl _⟩, ⟨by (with_reducible repeat (first | apply zqa | apply zqb | apply zqc)); exact BK281.out⟩, ⟨by (with_reducible repeat (first | apply zqa | apply zqb | apply zqc)); exact BK282.out⟩, ⟨by (with_reducible repeat (first | apply zqa | apply zqb | apply zqc)); exact BK283.out⟩, ⟨by repeat (first | (with_reducible first | exact HB.out | apply zqg | apply zqf | apply zqh | refine below_set ?_ GE281.out | refine below_set ?_ GE282.out | refine below_set ?_ GE283.out) | exact HB.out)⟩⟩
    ·
     replace c16 := Bool.eq_false_iff.mpr c16
     subst c16
     have H1 : (haulierlaw11_RelaxMoves.j0 k true true a0_0 a0_1 a0_2 l0_3 a1_0 a1_1 a1_2 a1_3 a1_4 a1_5 a1_6 a1_7 a2_0 a2_1 a2_2 a2_3 a2_4 a2_5 a2_6 a2_7) = some r := by rw [if_neg (show ¬ (false = true) by decide)] at H; exact H
     clear H
     have H := H1
     clear H1
     have H' := zqi H
     clear H
     have hnb43 := NB281_282.out
     have hnc43 := NB282_281.out
     have hnb44 := NB281_283.out
     have hnc44 := NB283_281.out
     obtain ⟨hcz45_0, hcz45_1, hcz45_2, hcz45_3, hfz45_0, hfz45_1, hfz45_2, hfz45_3⟩ := zqz4 BK281.out
     have hnb46 := NB282_283.out
     have hnc46 := NB283_282.out
     obtain ⟨hcz47_0, hcz47_1, hcz47_2, hcz47_3, hcz47_4, hcz47_5, hcz47_6, hcz47_7, hfz47_0, hfz47_1, hfz47_2, hfz47_3, hfz47_4, hfz47_5, hfz47_6, hfz47_7⟩ := zqz8 BK282.out
     obtain ⟨hcz48_0, hcz48_1, hcz48_2, hcz48_3, hcz48_4, hcz48_5, hcz48_6, hcz48_7, hfz48_0, hfz48_1, hfz48_2, hfz48_3, hfz48_4, hfz48_5, hfz48_6, hfz48_7⟩ := zqz8 BK283.out
     go_wp2_with (first | (go_at_call 21; (with_reducible refine (relax_Covers.calls a1_0 a1_1 a1_2 a1_3 a1_4 a1_5 a1_6 a1_7 a2_0 a2_1 a2_2 a2_3 a2_4 a2_5 a2_6 a2_7 false _ A15.out).mono ?_); rintro e w49 ⟨rfl, hb⟩; have n0_ := zqi (zqy BK281.out hb); have n1_ := zqi (zqy BK282.out hb); have n2_ := zqi (zqy BK283.out hb); have n3_ := zqi (below_step (zqn HB.out) hb); clear BK281; clear BK282; clear BK283; clear HB; have BK281 := n0_; have BK282 := n1_; have BK283 := n2_; have HB := n3_; clear n0_ n1_ n2_ n3_; (try clear hb); (try clear hb2); (try clear hk); (try clear hi)))
     go_meet
     case rel => exact ⟨_, (true), (by first | rfl | (simp; done) | (simp [*]; done)), H', ⟨by first | omega | exact Nat.le_refl _⟩, ⟨by (with_reducible repeat (first | apply zqa | apply zqb | apply zqc)); exact BK281.out⟩, ⟨by (with_reducible repeat (first | apply zqa | apply zqb | apply zqc)); exact BK282.out⟩, ⟨by (with_reducible repeat (first | apply zqa | apply zqb | apply zqc)); exact BK283.out⟩, ⟨by repeat (first | (with_reducible first | exact HB.out | apply zqg | apply zqf | apply zqh | refine below_set ?_ GE281.out | refine below_set ?_ GE282.out | refine below_set ?_ GE283.out) | exact HB.out)⟩⟩
  ·
   replace c10 := Bool.eq_false_iff.mpr c10
   subst c10
   have H1 : (haulierlaw11_RelaxMoves.j0 k false true a0_0 a0_1 a0_2 l0_3 a1_0 a1_1 a1_2 a1_3 a1_4 a1_5 a1_6 a1_7 a2_0 a2_1 a2_2 a2_3 a2_4 a2_5 a2_6 a2_7) = some r := by rw [if_neg (show ¬ (false = true) by decide)] at H; exact H
   clear H
   have H := H1
   clear H1
   have H' := zqi H
   clear H
   go_wp2
   go_meet
   case rel => exact ⟨_, (true), (by first | rfl | (simp; done) | (simp [*]; done)), H', ⟨by first | omega | exact Nat.le_refl _⟩, ⟨by (with_reducible repeat (first | apply zqa | apply zqb | apply zqc)); exact BK281.out⟩, ⟨by (with_reducible repeat (first | apply zqa | apply zqb | apply zqc)); exact BK282.out⟩, ⟨by (with_reducible repeat (first | apply zqa | apply zqb | apply zqc)); exact BK283.out⟩, ⟨by repeat (first | (with_reducible first | exact HB.out | apply zqg | apply zqf | apply zqh | refine below_set ?_ GE281.out | refine below_set ?_ GE282.out | refine below_set ?_ GE283.out) | exact HB.out)⟩⟩
 case rest =>
  clear HC5
  try clear c1
  try clear c2
  try clear p2
  try clear c3
  try clear c4
  try clear c7
  try clear c10
  try clear c11
  try clear c11b0
  try clear c11b1
  try clear c12
  try clear c13
  try clear c16
  try clear c17
  try clear c17b0
  try clear c18
  try clear c19
  try clear c20
  try clear c21
  try clear c26
  try clear c26b0
  try clear c27
  try clear c28
  try clear c30
  try clear c35
  try clear c36
  try clear c38
  try clear c43
  try clear c44
  try clear c46
  try clear hcz14_0
  try clear hcz14_1
  try clear hcz14_2
  try clear hcz14_3
  try clear hcz20_0
  try clear hcz20_1
  try clear hcz20_2
  try clear hcz20_3
  try clear hcz22_0
  try clear hcz22_1
  try clear hcz22_2
  try clear hcz22_3
  try clear hcz22_4
  try clear hcz22_5
  try clear hcz22_6
  try clear hcz22_7
  try clear hcz23_0
  try clear hcz23_1
  try clear hcz23_2
  try clear hcz23_3
  try clear hcz23_4
  try clear hcz23_5
  try clear hcz23_6
  try clear hcz23_7
  try clear hcz25_0
  try clear hcz25_1
  try clear hcz25_2
  try clear hcz25_3
  try clear hcz25_4
  try clear hcz25_5
  try clear hcz25_6
  try clear hcz25_7
  try clear hcz29_0
  try clear hcz29_1
  try clear hcz29_2
  try clear hcz29_3
  try clear hcz31_0
  try clear hcz31_1
  try clear hcz31_2
  try clear hcz31_3
  try clear hcz31_4
  try clear hcz31_5
  try clear hcz31_6
  try clear hcz31_7
  try clear hcz32_0
  try clear hcz32_1
  try clear hcz32_2
  try clear hcz32_3
  try clear hcz32_4
  try clear hcz32_5
  try clear hcz32_6
  try clear hcz32_7
  try clear hcz34_0
  try clear hcz34_1
  try clear hcz34_2
  try clear hcz34_3
  try clear hcz34_4
  try clear hcz34_5
  try clear hcz34_6
  try clear hcz34_7
  try clear hcz37_0
  try clear hcz37_1
  try clear hcz37_2
  try clear hcz37_3
  try clear hcz39_0
  try clear hcz39_1
  try clear hcz39_2
  try clear hcz39_3
  try clear hcz39_4
  try clear hcz39_5
  try clear hcz39_6
  try clear hcz39_7
  try clear hcz40_0
  try clear hcz40_1
  try clear hcz40_2
  try clear hcz40_3
  try clear hcz40_4
  try clear hcz40_5
  try clear hcz40_6
  try clear hcz40_7
  try clear hcz42_0
  try clear hcz42_1
  try clear hcz42_2
  try clear hcz42_3
  try clear hcz42_4
  try clear hcz42_5
  try clear hcz42_6
  try clear hcz42_7
  try clear hcz45_0
  try clear hcz45_1
  try clear hcz45_2
  try clear hcz45_3
  try clear hcz47_0
  try clear hcz47_1
  try clear hcz47_2
  try clear hcz47_3
  try clear hcz47_4
  try clear hcz47_5
  try clear hcz47_6
  try clear hcz47_7
  try clear hcz48_0
  try clear hcz48_1
  try clear hcz48_2
  try clear hcz48_3
  try clear hcz48_4
  try clear hcz48_5
  try clear hcz48_6
  try clear hcz48_7
  try clear hfz14_0
  try clear hfz14_1
  try clear hfz14_2
  try clear hfz14_3
  try clear hfz20_0
  try clear hfz20_1
  try clear hfz20_2
  try clear hfz20_3
  try clear hfz22_0
  try clear hfz22_1
  try clear hfz22_2
  try clear hfz22_3
  try clear hfz22_4
  try clear hfz22_5
  try clear hfz22_6
  try clear hfz22_7
  try clear hfz23_0
  try clear hfz23_1
  try clear hfz23_2
  try clear hfz23_3
  try clear hfz23_4
  try clear hfz23_5
  try clear hfz23_6
  try clear hfz23_7
  try clear hfz25_0
  try clear hfz25_1
  try clear hfz25_2
  try clear hfz25_3
  try clear hfz25_4
  try clear hfz25_5
  try clear hfz25_6
  try clear hfz25_7
  try clear hfz29_0
  try clear hfz29_1
  try clear hfz29_2
  try clear hfz29_3
  try clear hfz31_0
  try clear hfz31_1
  try clear hfz31_2
  try clear hfz31_3
  try clear hfz31_4
  try clear hfz31_5
  try clear hfz31_6
  try clear hfz31_7
  try clear hfz32_0
  try clear hfz32_1
  try clear hfz32_2
  try clear hfz32_3
  try clear hfz32_4
  try clear hfz32_5
  try clear hfz32_6
  try clear hfz32_7
  try clear hfz34_0
  try clear hfz34_1
  try clear hfz34_2
  try clear hfz34_3
  try clear hfz34_4
  try clear hfz34_5
  try clear hfz34_6
  try clear hfz34_7
  try clear hfz37_0
  try clear hfz37_1
  try clear hfz37_2
  try clear hfz37_3
  try clear hfz39_0
  try clear hfz39_1
  try clear hfz39_2
  try clear hfz39_3
  try clear hfz39_4
  try clear hfz39_5
  try clear hfz39_6
  try clear hfz39_7
  try clear hfz40_0
  try clear hfz40_1
  try clear hfz40_2
  try clear hfz40_3
  try clear hfz40_4
  try clear hfz40_5
  try clear hfz40_6
  try clear hfz40_7
  try clear hfz42_0
  try clear hfz42_1
  try clear hfz42_2
  try clear hfz42_3
  try clear hfz42_4
  try clear hfz42_5
  try clear hfz42_6
  try clear hfz42_7
  try clear hfz45_0
  try clear hfz45_1
  try clear hfz45_2
  try clear hfz45_3
  try clear hfz47_0
  try clear hfz47_1
  try clear hfz47_2
  try clear hfz47_3
  try clear hfz47_4
  try clear hfz47_5
  try clear hfz47_6
  try clear hfz47_7
  try clear hfz48_0
  try clear hfz48_1
  try clear hfz48_2
  try clear hfz48_3
  try clear hfz48_4
  try clear hfz48_5
  try clear hfz48_6
  try clear hfz48_7
  obtain ⟨kq, x49_4, rfl, HA, HJ4, BK281, BK282, BK283, HB⟩ := hcut
  cases kq with
  | zero => exact absurd HA.out (by simp [haulierlaw11_RelaxMoves.j0])
  | succ kj4 =>
   have H := HA.out
   clear HA
   simp only [haulierlaw11_RelaxMoves.j0] at H
   by_cases c50 : x49_4 = true
   ·
    subst c50
    have H1 : (some t284) = some r := by rw [if_pos rfl] at H; exact H
    clear H
    have H := H1
    clear H1
    obtain rfl := Option.some.inj H
    go_wp2
    go_ret
    exact ⟨by first | rfl | (simp [errW_none, errW_some] <;> rfl) | (simp [*, errW_none, errW_some] <;> rfl), by repeat (first | (with_reducible first | exact HB.out | apply zqg | apply zqf | apply zqh | refine below_set ?_ GE281.out | refine below_set ?_ GE282.out | refine below_set ?_ GE283.out) | exact HB.out)⟩
   ·
    replace c50 := Bool.eq_false_iff.mpr c50
    subst c50
    have H1 : ((state_Moves.f kj4 a0_0 a0_1 a0_2 l0_3 a2_0 a2_1 a2_2 a2_3 a2_4 a2_5 a2_6 a2_7).bind fun t286 => (haulierlaw11_RelaxMoves.l0 kj4 t286 0 a0_0 a0_1 a0_2 l0_3 a1_0 a1_1 a1_2 a1_3 a1_4 a1_5 a1_6 a1_7 a2_0 a2_1 a2_2 a2_3 a2_4 a2_5 a2_6 a2_7)) = some r := by rw [if_neg (show ¬ (false = true) by decide)] at H; exact H
    clear H
    have H := H1
    clear H1
    replace H := Option.bind_eq_some_iff.mp H
    obtain ⟨t286, A510, H⟩ := H
    replace H : (haulierlaw11_RelaxMoves.l0 kj4 t286 0 a0_0 a0_1 a0_2 l0_3 a1_0 a1_1 a1_2 a1_3 a1_4 a1_5 a1_6 a1_7 a2_0 a2_1 a2_2 a2_3 a2_4 a2_5 a2_6 a2_7) = some r := H
    have A51 := zqi A510
    clear A510
    have H' := zqi H
    clear H
    have hnb52 := NB281_282.out
    have hnc52 := NB282_281.out
    have hnb53 := NB281_283.out
    have hnc53 := NB283_281.out
    obtain ⟨hcz54_0, hcz54_1, hcz54_2, hcz54_3, hfz54_0, hfz54_1, hfz54_2, hfz54_3⟩ := zqz4 BK281.out
    have hnb55 := NB283_282.out
    have hnc55 := NB282_283.out
    obtain ⟨hcz56_0, hcz56_1, hcz56_2, hcz56_3, hcz56_4, hcz56_5, hcz56_6, hcz56_7, hfz56_0, hfz56_1, hfz56_2, hfz56_3, hfz56_4, hfz56_5, hfz56_6, hfz56_7⟩ := zqz8 BK283.out
    go_wp2_with (first | ((with_reducible refine gate_callee (f := 24) rfl ?_); refine goesL_ (some 53) rfl rfl Try.func24 (by kernel_rfl) rfl #[.agg #[.int .i64 a0_0, .int .i64 a0_1, .int .i64 a0_2, .slice A0_3 l0_3.length c0_3], .agg #[.int .i64 a2_0, .int .i64 a2_1, .int .i64 a2_2, .int .i64 a2_3, .int .i64 a2_4, .int .u64 a2_5, .int .u64 a2_6, .int .u64 a2_7]] rfl (by (try simp only [List.map_toArray, List.map_cons, List.map_nil]); first | done | rfl | (simp only [List.length_drop, List.length_take]; rfl)) ?_; (with_reducible refine (state_Moves.calls kj4 a0_0 a0_1 a0_2 _ _ l0_3 a2_0 a2_1 a2_2 a2_3 a2_4 a2_5 a2_6 a2_7 t286 _ ?side1 ?side2 A51.out).mono ?_); (case side1 => repeat (first | exact (Kd.C_below HR0_3.out HB.out) | (with_reducible refine Kd.C_alloc ?_ _) | (with_reducible refine Kd.C_drewN ?_ _) | (with_reducible refine Kd.C_drew ?_))); (case side2 => exact HC0_3.out); rintro e w57 ⟨v287, rfl, ho0, hb⟩; refine ⟨_, rfl, ?_⟩; have n0_ := zqi (Kd.R_lower ho0 (below_size (zqn HB.out))); have n1_ := zqi (zqy BK281.out hb); have n2_ := zqi (zqy BK282.out hb); have n3_ := zqi (zqy BK283.out hb); have n4_ := zqi (below_step (zqn HB.out) hb); clear BK281; clear BK282; clear BK283; clear HB; have HO288 := n0_; have BK281 := n1_; have BK282 := n2_; have BK283 := n3_; have HB := n4_; clear n0_ n1_ n2_ n3_ n4_; (try clear hb); (try clear hb2); (try clear hk); (try clear hi); (try clear ho0)))
    go_loopg [9] kj4 (fun kq v9 w' => ∃ (x9_2 : Int), v9 = .int .i64 x9_2 ∧ Aside0 (haulierlaw11_RelaxMoves.l0 kq t286 x9_2 a0_0 a0_1 a0_2 l0_3 a1_0 a1_1 a1_2 a1_3 a1_4 a1_5 a1_6 a1_7 a2_0 a2_1 a2_2 a2_3 a2_4 a2_5 a2_6 a2_7 = some r) ∧ Aside0 (kq ≤ kj4) ∧ Aside0 (Kd.R (Kd.int .i64) 3 w' w.heap.size (fun _ => True) v287 t286) ∧ Aside0 (w'.heap[gb281]? = some (.cells #[.int .i64 a0_0, .int .i64 a0_1, .int .i64 a0_2, (.slice A0_3 l0_3.length c0_3)] 26 (0, 0))) ∧ Aside0 (w'.heap[gb282]? = some (.cells #[.int .i64 a1_0, .int .i64 a1_1, .int .i64 a1_2, .int .i64 a1_3, .int .i64 a1_4, .int .u64 a1_5, .int .u64 a1_6, .int .u64 a1_7] 40 (0, 0))) ∧ Aside0 (w'.heap[gb283]? = some (.cells #[.int .i64 a2_0, .int .i64 a2_1, .int .i64 a2_2, .int .i64 a2_3, .int .i64 a2_4, .int .u64 a2_5, .int .u64 a2_6, .int .u64 a2_7] 40 (0, 0))) ∧ Aside0 (Below w.heap.size w w'))
    case atStart => exact ⟨(0), (by first | rfl | (simp; done) | (simp [*]; done)), H', ⟨Nat.le_refl _⟩, ⟨by (with_reducible repeat (first | apply Kd.R_alloc | apply Kd.R_drewN | apply Kd.R_drew)); exact HO288.out⟩, ⟨by (with_reducible repeat (first | apply zqa | apply zqb | apply zqc)); exact BK281.out⟩, ⟨by (with_reducible repeat (first | apply zqa | apply zqb | apply zqc)); exact BK282.out⟩, ⟨by (with_reducible repeat (first | apply zqa | apply zqb | apply zqc)); exact BK283.out⟩, ⟨by repeat (first | (with_reducible first | exact HB.out | apply zqg | apply zqf | apply zqh | refine below_set ?_ GE281.out | refine below_set ?_ GE282.out | refine below_set ?_ GE283.out) | exact HB.out)⟩⟩
    case round =>
     clear H'
     try clear c1
     try clear c2
     try clear p2
     try clear c3
     try clear c4
     try clear c5
     try clear c7
     try clear c10
     try clear c11
     try clear c11b0
     try clear c11b1
     try clear c12
     try clear c13
     try clear c16
     try clear c17
     try clear c17b0
     try clear c18
     try clear c19
     try clear c20
     try clear c21
     try clear c24
     try clear c26
     try clear c26b0
     try clear c27
     try clear c28
     try clear c30
     try clear c35
     try clear c36
     try clear c38
     try clear c43
     try clear c44
     try clear c46
     try clear c50
     try clear c52
     try clear c53
     try clear c55
     try clear hcz14_0
     try clear hcz14_1
     try clear hcz14_2
     try clear hcz14_3
     try clear hcz20_0
     try clear hcz20_1
     try clear hcz20_2
     try clear hcz20_3
     try clear hcz22_0
     try clear hcz22_1
     try clear hcz22_2
     try clear hcz22_3
     try clear hcz22_4
     try clear hcz22_5
     try clear hcz22_6
     try clear hcz22_7
     try clear hcz23_0
     try clear hcz23_1
     try clear hcz23_2
     try clear hcz23_3
     try clear hcz23_4
     try clear hcz23_5
     try clear hcz23_6
     try clear hcz23_7
     try clear hcz25_0
     try clear hcz25_1
     try clear hcz25_2
     try clear hcz25_3
     try clear hcz25_4
     try clear hcz25_5
     try clear hcz25_6
     try clear hcz25_7
     try clear hcz29_0
     try clear hcz29_1
     try clear hcz29_2
     try clear hcz29_3
     try clear hcz31_0
     try clear hcz31_1
     try clear hcz31_2
     try clear hcz31_3
     try clear hcz31_4
     try clear hcz31_5
     try clear hcz31_6
     try clear hcz31_7
     try clear hcz32_0
     try clear hcz32_1
     try clear hcz32_2
     try clear hcz32_3
     try clear hcz32_4
     try clear hcz32_5
     try clear hcz32_6
     try clear hcz32_7
     try clear hcz34_0
     try clear hcz34_1
     try clear hcz34_2
     try clear hcz34_3
     try clear hcz34_4
     try clear hcz34_5
     try clear hcz34_6
     try clear hcz34_7
     try clear hcz37_0
     try clear hcz37_1
     try clear hcz37_2
     try clear hcz37_3
     try clear hcz39_0
     try clear hcz39_1
     try clear hcz39_2
     try clear hcz39_3
     try clear hcz39_4
     try clear hcz39_5
     try clear hcz39_6
     try clear hcz39_7
     try clear hcz40_0
     try clear hcz40_1
     try clear hcz40_2
     try clear hcz40_3
     try clear hcz40_4
     try clear hcz40_5
     try clear hcz40_6
     try clear hcz40_7
     try clear hcz42_0
     try clear hcz42_1
     try clear hcz42_2
     try clear hcz42_3
     try clear hcz42_4
     try clear hcz42_5
     try clear hcz42_6
     try clear hcz42_7
     try clear hcz45_0
     try clear hcz45_1
     try clear hcz45_2
     try clear hcz45_3
     try clear hcz47_0
     try clear hcz47_1
     try clear hcz47_2
     try clear hcz47_3
     try clear hcz47_4
     try clear hcz47_5
     try clear hcz47_6
     try clear hcz47_7
     try clear hcz48_0
     try clear hcz48_1
     try clear hcz48_2
     try clear hcz48_3
     try clear hcz48_4
     try clear hcz48_5
     try clear hcz48_6
     try clear hcz48_7
     try clear hcz54_0
     try clear hcz54_1
     try clear hcz54_2
     try clear hcz54_3
     try clear hcz56_0
     try clear hcz56_1
     try clear hcz56_2
     try clear hcz56_3
     try clear hcz56_4
     try clear hcz56_5
     try clear hcz56_6
     try clear hcz56_7
     try clear hfz14_0
     try clear hfz14_1
     try clear hfz14_2
     try clear hfz14_3
     try clear hfz20_0
     try clear hfz20_1
     try clear hfz20_2
     try clear hfz20_3
     try clear hfz22_0
     try clear hfz22_1
     try clear hfz22_2
     try clear hfz22_3
     try clear hfz22_4
     try clear hfz22_5
     try clear hfz22_6
     try clear hfz22_7
     try clear hfz23_0
     try clear hfz23_1
     try clear hfz23_2
     try clear hfz23_3
     try clear hfz23_4
     try clear hfz23_5
     try clear hfz23_6
     try clear hfz23_7
     try clear hfz25_0
     try clear hfz25_1
     try clear hfz25_2
     try clear hfz25_3
     try clear hfz25_4
     try clear hfz25_5
     try clear hfz25_6
     try clear hfz25_7
     try clear hfz29_0
     try clear hfz29_1
     try clear hfz29_2
     try clear hfz29_3
     try clear hfz31_0
     try clear hfz31_1
     try clear hfz31_2
     try clear hfz31_3
     try clear hfz31_4
     try clear hfz31_5
     try clear hfz31_6
     try clear hfz31_7
     try clear hfz32_0
     try clear hfz32_1
     try clear hfz32_2
     try clear hfz32_3
     try clear hfz32_4
     try clear hfz32_5
     try clear hfz32_6
     try clear hfz32_7
     try clear hfz34_0
     try clear hfz34_1
     try clear hfz34_2
     try clear hfz34_3
     try clear hfz34_4
     try clear hfz34_5
     try clear hfz34_6
     try clear hfz34_7
     try clear hfz37_0
     try clear hfz37_1
     try clear hfz37_2
     try clear hfz37_3
     try clear hfz39_0
     try clear hfz39_1
     try clear hfz39_2
     try clear hfz39_3
     try clear hfz39_4
     try clear hfz39_5
     try clear hfz39_6
     try clear hfz39_7
     try clear hfz40_0
     try clear hfz40_1
     try clear hfz40_2
     try clear hfz40_3
     try clear hfz40_4
     try clear hfz40_5
     try clear hfz40_6
     try clear hfz40_7
     try clear hfz42_0
     try clear hfz42_1
     try clear hfz42_2
     try clear hfz42_3
     try clear hfz42_4
     try clear hfz42_5
     try clear hfz42_6
     try clear hfz42_7
     try clear hfz45_0
     try clear hfz45_1
     try clear hfz45_2
     try clear hfz45_3
     try clear hfz47_0
     try clear hfz47_1
     try clear hfz47_2
     try clear hfz47_3
     try clear hfz47_4
     try clear hfz47_5
     try clear hfz47_6
     try clear hfz47_7
     try clear hfz48_0
     try clear hfz48_1
     try clear hfz48_2
     try clear hfz48_3
     try clear hfz48_4
     try clear hfz48_5
     try clear hfz48_6
     try clear hfz48_7
     try clear hfz54_0
     try clear hfz54_1
     try clear hfz54_2
     try clear hfz54_3
     try clear hfz56_0
     try clear hfz56_1
     try clear hfz56_2
     try clear hfz56_3
     try clear hfz56_4
     try clear hfz56_5
     try clear hfz56_6
     try clear hfz56_7
     try clear p2
     obtain ⟨x9_2, rfl, HA, HK2, HO_8, BK281, BK282, BK283, HB⟩ := hrel
     cases gk with
     | zero => exact absurd HA.out (by simp [haulierlaw11_RelaxMoves.l0])
     | succ k2 =>
      have H := HA.out
      clear HA
      simp only [haulierlaw11_RelaxMoves.l0] at H
      by_cases c58 : x9_2 < (t286.length : Int)
      ·
       rw [if_pos c58] at H
       have c58b0 : decide (x9_2 < (t286.length : Int)) = true := decide_eq_true c58
       clear c58
       by_cases c59 : 0 ≤ x9_2
       ·
        rw [if_pos c59] at H
        have c59b0 : decide (0 ≤ x9_2) = true := decide_eq_true c59
        clear c59
        replace H := Option.bind_eq_some_iff.mp H
        obtain ⟨⟨t294, t295, t296, t297, t298, t299, t300, t301, t302, t303⟩, A600, H⟩ := H
        replace H : ((state_Move.f k2 a0_0 a0_1 a0_2 l0_3 a2_0 a2_1 a2_2 a2_3 a2_4 a2_5 a2_6 a2_7 (rd t286 x9_2)).bind fun bt306 => (if t303 = true then (if bt306.2.2.2.2.2.2.2.2.2 = true then (if t302 = bt306.2.2.2.2.2.2.2.2.1 then ((relax_Covers.f t294 t295 t296 t297 t298 t299 t300 t301 bt306.1 bt306.2.1 bt306.2.2.1 bt306.2.2.2.1 bt306.2.2.2.2.1 bt306.2.2.2.2.2.1 bt306.2.2.2.2.2.2.1 bt306.2.2.2.2.2.2.2.1).bind fun t317 => (if t317 = true then (haulierlaw11_RelaxMoves.l0 k2 t286 (wrap64 (x9_2 + 1)) a0_0 a0_1 a0_2 l0_3 a1_0 a1_1 a1_2 a1_3 a1_4 a1_5 a1_6 a1_7 a2_0 a2_1 a2_2 a2_3 a2_4 a2_5 a2_6 a2_7) else (none))) else (none)) else (none)) else (none))) = some r := H
        have A60 := zqi A600
        clear A600
        replace H := Option.bind_eq_some_iff.mp H
        obtain ⟨⟨t306, t307, t308, t309, t310, t311, t312, t313, t314, t315⟩, A610, H⟩ := H
        replace H : (if t303 = true then (if t315 = true then (if t302 = t314 then ((relax_Covers.f t294 t295 t296 t297 t298 t299 t300 t301 t306 t307 t308 t309 t310 t311 t312 t313).bind fun t317 => (if t317 = true then (haulierlaw11_RelaxMoves.l0 k2 t286 (wrap64 (x9_2 + 1)) a0_0 a0_1 a0_2 l0_3 a1_0 a1_1 a1_2 a1_3 a1_4 a1_5 a1_6 a1_7 a2_0 a2_1 a2_2 a2_3 a2_4 a2_5 a2_6 a2_7) else (none))) else (none)) else (none)) else (none)) = some r := H
        have A61 := zqi A610
        clear A610
        by_cases c62 : t303 = true
        ·
         subst c62
         have H1 : (if t315 = true then (if t302 = t314 then ((relax_Covers.f t294 t295 t296 t297 t298 t299 t300 t301 t306 t307 t308 t309 t310 t311 t312 t313).bind fun t317 => (if t317 = true then (haulierlaw11_RelaxMoves.l0 k2 t286 (wrap64 (x9_2 + 1)) a0_0 a0_1 a0_2 l0_3 a1_0 a1_1 a1_2 a1_3 a1_4 a1_5 a1_6 a1_7 a2_0 a2_1 a2_2 a2_3 a2_4 a2_5 a2_6 a2_7) else (none))) else (none)) else (none)) = some r := by rw [if_pos rfl] at H; exact H
         clear H
         have H := H1
         clear H1
         by_cases c63 : t315 = true
         ·
          subst c63
          have H1 : (if t302 = t314 then ((relax_Covers.f t294 t295 t296 t297 t298 t299 t300 t301 t306 t307 t308 t309 t310 t311 t312 t313).bind fun t317 => (if t317 = true then (haulierlaw11_RelaxMoves.l0 k2 t286 (wrap64 (x9_2 + 1)) a0_0 a0_1 a0_2 l0_3 a1_0 a1_1 a1_2 a1_3 a1_4 a1_5 a1_6 a1_7 a2_0 a2_1 a2_2 a2_3 a2_4 a2_5 a2_6 a2_7) else (none))) else (none)) = some r := by rw [if_pos rfl] at H; exact H
          clear H
          have H := H1
          clear H1
          by_cases c64 : t302 = t314
          ·
           rw [if_pos c64] at H
           have c64b0 : (t302 == t314) = true := beq_iff_eq.mpr c64
           have c64b1 : (t302 != t314) = false := bne_eq_false_iff_eq.mpr c64
           clear c64
           replace H := Option.bind_eq_some_iff.mp H
           obtain ⟨t317, A650, H⟩ := H
           replace H : (if t317 = true then (haulierlaw11_RelaxMoves.l0 k2 t286 (wrap64 (x9_2 + 1)) a0_0 a0_1 a0_2 l0_3 a1_0 a1_1 a1_2 a1_3 a1_4 a1_5 a1_6 a1_7 a2_0 a2_1 a2_2 a2_3 a2_4 a2_5 a2_6 a2_7) else (none)) = some r := H
           have A65 := zqi A650
           clear A650
           by_cases c66 : t317 = true
           ·
            subst c66
            have H1 : (haulierlaw11_RelaxMoves.l0 k2 t286 (wrap64 (x9_2 + 1)) a0_0 a0_1 a0_2 l0_3 a1_0 a1_1 a1_2 a1_3 a1_4 a1_5 a1_6 a1_7 a2_0 a2_1 a2_2 a2_3 a2_4 a2_5 a2_6 a2_7) = some r := by rw [if_pos rfl] at H; exact H
            clear H
            have H := H1
            clear H1
            have H' := zqi H
            clear H
            obtain ⟨Ao67, co67, eo67⟩ := Kd.R_slice HO_8.out
            subst eo67
            try go_wp2
            have n0_ := zqi (Kd.R_drew HO_8.out)
            have n1_ := zqi (zqb BK281.out)
            have n2_ := zqi (zqb BK282.out)
            have n3_ := zqi (zqb BK283.out)
            have n4_ := zqi (zqh HB.out)
            clear HO_8
            clear BK281
            clear BK282
            clear BK283
            clear HB
            have HO_8 := n0_
            have BK281 := n1_
            have BK282 := n2_
            have BK283 := n3_
            have HB := n4_
            clear n0_ n1_ n2_ n3_ n4_
            have p293 : 0 ≤ (x9_2 : Int) := of_decide_eq_true (by first | (with_reducible assumption) | assumption)
            have q293 : x9_2 < (t286.length : Int) := of_decide_eq_true (by first | (with_reducible assumption) | assumption)
            obtain ⟨ad293, e293, hx293_0⟩ := Kd.at_int (Kd.R_reads' HO_8.out).2.2 x9_2 p293 q293
            cases e293
            replace p293 := eq_true p293
            replace q293 := eq_true q293
            refine start_ (n := 15) (S := fun w' => w'.cell? ⟨gb281, 0, none⟩ = some (.int .i64 a0_0) ∧ w'.cell? ⟨gb281, 1, none⟩ = some (.int .i64 a0_1) ∧ w'.cell? ⟨gb281, 2, none⟩ = some (.int .i64 a0_2) ∧ w'.cell? ⟨gb281, 3, none⟩ = some (.slice A0_3 l0_3.length c0_3) ∧ w'.cell? ⟨gb282, 0, none⟩ = some (.int .i64 a1_0) ∧ w'.cell? ⟨gb282, 1, none⟩ = some (.int .i64 a1_1) ∧ w'.cell? ⟨gb282, 2, none⟩ = some (.int .i64 a1_2) ∧ w'.cell? ⟨gb282, 3, none⟩ = some (.int .i64 a1_3) ∧ w'.cell? ⟨gb282, 4, none⟩ = some (.int .i64 a1_4) ∧ w'.cell? ⟨gb282, 5, none⟩ = some (.int .u64 a1_5) ∧ w'.cell? ⟨gb282, 6, none⟩ = some (.int .u64 a1_6) ∧ w'.cell? ⟨gb282, 7, none⟩ = some (.int .u64 a1_7) ∧ w'.cell? (ad293.add (x9_2).toNat) = some (.int .i64 (rd t286 x9_2))) (ds := []) (zqB 15 0) (by kernel_rfl) rfl rfl ⟨(zqe BK281.out 0).trans rfl, (zqe BK281.out 1).trans rfl, (zqe BK281.out 2).trans rfl, (zqe BK281.out 3).trans rfl, (zqe BK282.out 0).trans rfl, (zqe BK282.out 1).trans rfl, (zqe BK282.out 2).trans rfl, (zqe BK282.out 3).trans rfl, (zqe BK282.out 4).trans rfl, (zqe BK282.out 5).trans rfl, (zqe BK282.out 6).trans rfl, (zqe BK282.out 7).trans rfl, hx293_0⟩ (fun hHeld => ?_); refine with_tabW haulierlaw11_RelaxMoves.tab8 haulierlaw11_RelaxMoves.bits8 (fun HT_ HW_ => ?_)
            generalize wr.drew = w68 at HO_8 BK281 BK282 BK283 HB hx293_0 hHeld ⊢
            refine zqp 2 (some 63) (zqB 15 4) (any_of HT_.out (by kernel_rfl)) (h := ?_)
            refine zqp 3 (some 64) (zqB 15 12) (any_of HT_.out (by kernel_rfl)) (h := ?_)
            refine zqp 4 (some 65) (zqB 15 28) (any_of HT_.out (by kernel_rfl)) (h := ?_)
            refine zqt 0 (some 61) (zqB 15 29) (take_ofW HT_.out HW_.out (by kernel_rfl)) hHeld (h := ?_)
            refine zqt 1 (some 62) (zqB 15 31) (take_ofW HT_.out HW_.out (by kernel_rfl)) hHeld (h := ?_)
            refine zqt 5 (some 66) (zqB 15 63) (take_ofW HT_.out HW_.out (by kernel_rfl)) hHeld (h := ?_)
            refine join_ (σ := Nat) 3 (zqB 15 4095) (fun s_ => [(67, .tuple #[.agg #[.int .i64 t294, .int .i64 t295, .int .i64 t296, .int .i64 t297, .int .i64 t298, .int .u64 t299, .int .u64 t300, .int .u64 t301], .int .i64 t302, .bool true]), (10, .pointer (some ⟨s_, 0, none⟩)), (60, .tuple #[.agg #[.int .i64 t294, .int .i64 t295, .int .i64 t296, .int .i64 t297, .int .i64 t298, .int .u64 t299, .int .u64 t300, .int .u64 t301], .int .i64 t302, .bool true]), (68, .agg #[.int .i64 t294, .int .i64 t295, .int .i64 t296, .int .i64 t297, .int .i64 t298, .int .u64 t299, .int .u64 t300, .int .u64 t301]), (69, .int .i64 t302), (70, .bool true)]) (fun s_ w' => (w'.cell? ⟨gb281, 0, none⟩ = some (.int .i64 a0_0) ∧ w'.cell? ⟨gb281, 1, none⟩ = some (.int .i64 a0_1) ∧ w'.cell? ⟨gb281, 2, none⟩ = some (.int .i64 a0_2) ∧ w'.cell? ⟨gb281, 3, none⟩ = some (.slice A0_3 l0_3.length c0_3) ∧ w'.cell? ⟨gb282, 0, none⟩ = some (.int .i64 a1_0) ∧ w'.cell? ⟨gb282, 1, none⟩ = some (.int .i64 a1_1) ∧ w'.cell? ⟨gb282, 2, none⟩ = some (.int .i64 a1_2) ∧ w'.cell? ⟨gb282, 3, none⟩ = some (.int .i64 a1_3) ∧ w'.cell? ⟨gb282, 4, none⟩ = some (.int .i64 a1_4) ∧ w'.cell? ⟨gb282, 5, none⟩ = some (.int .u64 a1_5) ∧ w'.cell? ⟨gb282, 6, none⟩ = some (.int .u64 a1_6) ∧ w'.cell? ⟨gb282, 7, none⟩ = some (.int .u64 a1_7) ∧ w'.cell? (ad293.add (x9_2).toNat) = some (.int .i64 (rd t286 x9_2))) ∧ (Kd.R (Kd.int .i64) 3 w' w.heap.size (fun _ => True) (.slice (some ad293) t286.length co67) t286) ∧ (w'.heap[gb281]? = some (.cells #[.int .i64 a0_0, .int .i64 a0_1, .int .i64 a0_2, .slice A0_3 l0_3.length c0_3] 26 (0, 0))) ∧ (w'.heap[gb282]? = some (.cells #[.int .i64 a1_0, .int .i64 a1_1, .int .i64 a1_2, .int .i64 a1_3, .int .i64 a1_4, .int .u64 a1_5, .int .u64 a1_6, .int .u64 a1_7] 40 (0, 0))) ∧ (w'.heap[gb283]? = some (.cells #[.int .i64 a2_0, .int .i64 a2_1, .int .i64 a2_2, .int .i64 a2_3, .int .i64 a2_4, .int .u64 a2_5, .int .u64 a2_6, .int .u64 a2_7] 40 (0, 0))) ∧ (w'.heap[s_]? = some (.cells #[.int .i64 0, .int .i64 0, .int .i64 0, .int .i64 0, .int .i64 0, .int .u64 0, .int .u64 0, .int .u64 0] 40 (0, 0))) ∧ (w.heap.size ≤ s_) ∧ (w.heap.size ≤ s_) ∧ (gb281 ≠ s_) ∧ (s_ ≠ gb281) ∧ (gb282 ≠ s_) ∧ (s_ ≠ gb282) ∧ (gb283 ≠ s_) ∧ (s_ ≠ gb283) ∧ (Below w.heap.size w w')) ?_ ?_
            rotate_left
            ·
             intro hCont
             refine two_ (i := 6) (j := 11) (Ni := some 67) (Nj := some 10) (zqB 15 127) (zqB 15 2111) rfl rfl rfl rfl (two_of HT_.out (by kernel_rfl)) (by decide) (by decide) (fun K hK => ?_) (fun K hK => ?_)
             ·
              skip
              refine goes_ Try.func22 (by kernel_rfl) rfl #[.agg #[.int .i64 a0_0, .int .i64 a0_1, .int .i64 a0_2, .slice A0_3 l0_3.length c0_3], .agg #[.int .i64 a1_0, .int .i64 a1_1, .int .i64 a1_2, .int .i64 a1_3, .int .i64 a1_4, .int .u64 a1_5, .int .u64 a1_6, .int .u64 a1_7], .int .i64 (rd t286 x9_2)] (by rfl) rfl rfl (by (try simp only [List.map_toArray, List.map_cons, List.map_nil]); first | done | rfl | (simp only [List.length_drop, List.length_take]; rfl)) ?_
              with_reducible refine (state_Move.calls k2 a0_0 a0_1 a0_2 _ _ l0_3 a1_0 a1_1 a1_2 a1_3 a1_4 a1_5 a1_6 a1_7 (rd t286 x9_2) t294 t295 t296 t297 t298 t299 t300 t301 t302 true _ ?side1 ?side2 A60.out).mono ?_
              (case side1 => repeat (first | exact (Kd.C_below HR0_3.out HB.out) | (with_reducible refine Kd.C_alloc ?_ _) | (with_reducible refine Kd.C_drewN ?_ _) | (with_reducible refine Kd.C_drew ?_)))
              (case side2 => exact HC0_3.out)
              rintro e w69 ⟨rfl, hb⟩
              have HS12_ := (hb.cell (World.block_lt_of_cell? _ _ (hHeld.2.2.2.2.2.2.2.2.2.2.2.2))).trans (hHeld.2.2.2.2.2.2.2.2.2.2.2.2)
              refine ⟨_, rfl, ?_⟩
              have n0_ := zqi (Kd.R_below (by (with_reducible repeat (first | apply Kd.R_alloc | apply Kd.R_drewN | apply Kd.R_drew)); exact HO_8.out) hb)
              have n1_ := zqi (zqy BK281.out hb)
              have n2_ := zqi (zqy BK282.out hb)
              have n3_ := zqi (zqy BK283.out hb)
              have n4_ := zqi (below_step (zqn HB.out) hb)
              clear HO_8
              clear BK281
              clear BK282
              clear BK283
              clear HB
              have HO_8 := n0_
              have BK281 := n1_
              have BK282 := n2_
              have BK283 := n3_
              have HB := n4_
              clear n0_ n1_ n2_ n3_ n4_
              (try clear hb)
              (try clear hb2)
              (try clear hk)
              (try clear hi)
              refine hK.out _ _ ⟨(zqe BK281.out 0).trans rfl, (zqe BK281.out 1).trans rfl, (zqe BK281.out 2).trans rfl, (zqe BK281.out 3).trans rfl, (zqe BK282.out 0).trans rfl, (zqe BK282.out 1).trans rfl, (zqe BK282.out 2).trans rfl, (zqe BK282.out 3).trans rfl, (zqe BK282.out 4).trans rfl, (zqe BK282.out 5).trans rfl, (zqe BK282.out 6).trans rfl, (zqe BK282.out 7).trans rfl, HS12_⟩ (fun hHeld => ?_)
              clear hK K
              refine norm_ (a' := ?_) ?_ ?_
              rotate_left
              ·
               show Act.put _ (some 67) _ = _
               simp only [Act.put, List.setIfInBounds_toArray, List.set_cons_zero, List.set_cons_succ, i64_w, i32_w]
               rfl
              refine zqp 7 (some 60) (zqB 15 255) (any_of HT_.out (by kernel_rfl)) (h := ?_)
              refine zqp 8 (some 68) (zqB 15 511) (any_of HT_.out (by kernel_rfl)) (h := ?_)
              refine zqp 9 (some 69) (zqB 15 1023) (any_of HT_.out (by kernel_rfl)) (h := ?_)
              refine zqp 10 (some 70) (zqB 15 2047) (any_of HT_.out (by kernel_rfl)) (h := ?_)
              refine one_ (i := 11) (N := some 10) (zqB 15 4095) rfl rfl (one_of HT_.out (by kernel_rfl)) (by decide) (fun K hK => ?_)
              refine box_step ?hg (N := 10) ?hd (cs := #[.int .i64 0, .int .i64 0, .int .i64 0, .int .i64 0, .int .i64 0, .int .u64 0, .int .u64 0, .int .u64 0]) (t := 40) ?hr ?_; (case hd => rfl); (case hg => rfl); (case hr => first | (go_simp; done) | (go_simp; rfl))
              intro gb304 hg w70 hbox hb
              have HS12_ := (hb.cell (World.block_lt_of_cell? _ _ (hHeld.2.2.2.2.2.2.2.2.2.2.2.2))).trans (hHeld.2.2.2.2.2.2.2.2.2.2.2.2)
              have n0_ := zqi (Kd.R_below (by (with_reducible repeat (first | apply Kd.R_alloc | apply Kd.R_drewN | apply Kd.R_drew)); exact HO_8.out) hb)
              have n1_ := zqi (zqy BK281.out hb)
              have n2_ := zqi (zqy BK282.out hb)
              have n3_ := zqi (zqy BK283.out hb)
              have n4_ := zqi (below_step (zqn HB.out) hb)
              have n5_ := zqi (hbox)
              have n6_ := zqi (zqo hg HB.out)
              have n7_ := zqi (zqo hg HB.out)
              have n8_ := zqi ((zqq hg BK281.out))
              have n9_ := zqi ((zqr hg BK281.out))
              have n10_ := zqi ((zqq hg BK282.out))
              have n11_ := zqi ((zqr hg BK282.out))
              have n12_ := zqi ((zqq hg BK283.out))
              have n13_ := zqi ((zqr hg BK283.out))
              clear HO_8
              clear BK281
              clear BK282
              clear BK283
              clear HB
              have HO_8 := n0_
              have BK281 := n1_
              have BK282 := n2_
              have BK283 := n3_
              have HB := n4_
              have BK304 := n5_
              have GW304 := n6_
              have GE304 := n7_
              have NB281_304 := n8_
              have NB304_281 := n9_
              have NB282_304 := n10_
              have NB304_282 := n11_
              have NB283_304 := n12_
              have NB304_283 := n13_
              clear n0_ n1_ n2_ n3_ n4_ n5_ n6_ n7_ n8_ n9_ n10_ n11_ n12_ n13_
              clear hb hbox hg
              refine hK.out _ _ ⟨(zqe BK281.out 0).trans rfl, (zqe BK281.out 1).trans rfl, (zqe BK281.out 2).trans rfl, (zqe BK281.out 3).trans rfl, (zqe BK282.out 0).trans rfl, (zqe BK282.out 1).trans rfl, (zqe BK282.out 2).trans rfl, (zqe BK282.out 3).trans rfl, (zqe BK282.out 4).trans rfl, (zqe BK282.out 5).trans rfl, (zqe BK282.out 6).trans rfl, (zqe BK282.out 7).trans rfl, HS12_⟩ (fun hHeld => ?_)
              clear hK K
              refine norm_ (a' := ?_) ?_ ?_
              rotate_left
              ·
               show Act.put _ (some 10) _ = _
               simp only [Act.put, List.setIfInBounds_toArray, List.set_cons_zero, List.set_cons_succ, i64_w, i32_w]
               rfl
              exact norm_ (by simp only [putAll, Act.put, List.setIfInBounds_toArray, List.set_cons_zero, List.set_cons_succ]) (hCont (gb304) _ ⟨hHeld, (by (with_reducible repeat (first | apply Kd.R_alloc | apply Kd.R_drewN | apply Kd.R_drew)); exact HO_8.out), (zqm BK281.out), (zqm BK282.out), (zqm BK283.out), (zqm BK304.out), GW304.out, GE304.out, NB281_304.out, NB304_281.out, NB282_304.out, NB304_282.out, NB283_304.out, NB304_283.out, (zqn HB.out)⟩)
             ·
              skip
              refine box_step ?hg (N := 10) ?hd (cs := #[.int .i64 0, .int .i64 0, .int .i64 0, .int .i64 0, .int .i64 0, .int .u64 0, .int .u64 0, .int .u64 0]) (t := 40) ?hr ?_; (case hd => rfl); (case hg => rfl); (case hr => first | (go_simp; done) | (go_simp; rfl))
              intro gb304 hg w69 hbox hb
              have HS12_ := (hb.cell (World.block_lt_of_cell? _ _ (hHeld.2.2.2.2.2.2.2.2.2.2.2.2))).trans (hHeld.2.2.2.2.2.2.2.2.2.2.2.2)
              have n0_ := zqi (Kd.R_below (by (with_reducible repeat (first | apply Kd.R_alloc | apply Kd.R_drewN | apply Kd.R_drew)); exact HO_8.out) hb)
              have n1_ := zqi (zqy BK281.out hb)
              have n2_ := zqi (zqy BK282.out hb)
              have n3_ := zqi (zqy BK283.out hb)
              have n4_ := zqi (below_step (zqn HB.out) hb)
              have n5_ := zqi (hbox)
              have n6_ := zqi (zqo hg HB.out)
              have n7_ := zqi (zqo hg HB.out)
              have n8_ := zqi ((zqq hg BK281.out))
              have n9_ := zqi ((zqr hg BK281.out))
              have n10_ := zqi ((zqq hg BK282.out))
              have n11_ := zqi ((zqr hg BK282.out))
              have n12_ := zqi ((zqq hg BK283.out))
              have n13_ := zqi ((zqr hg BK283.out))
              clear HO_8
              clear BK281
              clear BK282
              clear BK283
              clear HB
              have HO_8 := n0_
              have BK281 := n1_
              have BK282 := n2_
              have BK283 := n3_
              have HB := n4_
              have BK304 := n5_
              have GW304 := n6_
              have GE304 := n7_
              have NB281_304 := n8_
              have NB304_281 := n9_
              have NB282_304 := n10_
              have NB304_282 := n11_
              have NB283_304 := n12_
              have NB304_283 := n13_
              clear n0_ n1_ n2_ n3_ n4_ n5_ n6_ n7_ n8_ n9_ n10_ n11_ n12_ n13_
              clear hb hbox hg
              refine hK.out _ _ ⟨(zqe BK281.out 0).trans rfl, (zqe BK281.out 1).trans rfl, (zqe BK281.out 2).trans rfl, (zqe BK281.out 3).trans rfl, (zqe BK282.out 0).trans rfl, (zqe BK282.out 1).trans rfl, (zqe BK282.out 2).trans rfl, (zqe BK282.out 3).trans rfl, (zqe BK282.out 4).trans rfl, (zqe BK282.out 5).trans rfl, (zqe BK282.out 6).trans rfl, (zqe BK282.out 7).trans rfl, HS12_⟩ (fun hHeld => ?_)
              clear hK K
              refine norm_ (a' := ?_) ?_ ?_
              rotate_left
              ·
               show Act.put _ (some 10) _ = _
               simp only [Act.put, List.setIfInBounds_toArray, List.set_cons_zero, List.set_cons_succ, i64_w, i32_w]
               rfl
              refine one_ (i := 6) (N := some 67) (zqB 15 2175) rfl rfl (one_of HT_.out (by kernel_rfl)) (by decide) (fun K hK => ?_)
              refine goes_ Try.func22 (by kernel_rfl) rfl #[.agg #[.int .i64 a0_0, .int .i64 a0_1, .int .i64 a0_2, .slice A0_3 l0_3.length c0_3], .agg #[.int .i64 a1_0, .int .i64 a1_1, .int .i64 a1_2, .int .i64 a1_3, .int .i64 a1_4, .int .u64 a1_5, .int .u64 a1_6, .int .u64 a1_7], .int .i64 (rd t286 x9_2)] (by rfl) rfl rfl (by (try simp only [List.map_toArray, List.map_cons, List.map_nil]); first | done | rfl | (simp only [List.length_drop, List.length_take]; rfl)) ?_
              with_reducible refine (state_Move.calls k2 a0_0 a0_1 a0_2 _ _ l0_3 a1_0 a1_1 a1_2 a1_3 a1_4 a1_5 a1_6 a1_7 (rd t286 x9_2) t294 t295 t296 t297 t298 t299 t300 t301 t302 true _ ?side1 ?side2 A60.out).mono ?_
              (case side1 => repeat (first | exact (Kd.C_below HR0_3.out HB.out) | (with_reducible refine Kd.C_alloc ?_ _) | (with_reducible refine Kd.C_drewN ?_ _) | (with_reducible refine Kd.C_drew ?_)))
              (case side2 => exact HC0_3.out)
              rintro e w70 ⟨rfl, hb⟩
              have HS12_ := (hb.cell (World.block_lt_of_cell? _ _ (hHeld.2.2.2.2.2.2.2.2.2.2.2.2))).trans (hHeld.2.2.2.2.2.2.2.2.2.2.2.2)
              refine ⟨_, rfl, ?_⟩
              have n0_ := zqi (Kd.R_below (by (with_reducible repeat (first | apply Kd.R_alloc | apply Kd.R_drewN | apply Kd.R_drew)); exact HO_8.out) hb)
              have n1_ := zqi (zqy BK281.out hb)
              have n2_ := zqi (zqy BK282.out hb)
              have n3_ := zqi (zqy BK283.out hb)
              have n4_ := zqi (zqy BK304.out hb)
              have n5_ := zqi (below_step (zqn HB.out) hb)
              clear HO_8
              clear BK281
              clear BK282
              clear BK283
              clear BK304
              clear HB
              have HO_8 := n0_
              have BK281 := n1_
              have BK282 := n2_
              have BK283 := n3_
              have BK304 := n4_
              have HB := n5_
              clear n0_ n1_ n2_ n3_ n4_ n5_
              (try clear hb)
              (try clear hb2)
              (try clear hk)
              (try clear hi)
              refine hK.out _ _ ⟨(zqe BK281.out 0).trans rfl, (zqe BK281.out 1).trans rfl, (zqe BK281.out 2).trans rfl, (zqe BK281.out 3).trans rfl, (zqe BK282.out 0).trans rfl, (zqe BK282.out 1).trans rfl, (zqe BK282.out 2).trans rfl, (zqe BK282.out 3).trans rfl, (zqe BK282.out 4).trans rfl, (zqe BK282.out 5).trans rfl, (zqe BK282.out 6).trans rfl, (zqe BK282.out 7).trans rfl, HS12_⟩ (fun hHeld => ?_)
              clear hK K
              refine norm_ (a' := ?_) ?_ ?_
              rotate_left
              ·
               show Act.put _ (some 67) _ = _
               simp only [Act.put, List.setIfInBounds_toArray, List.set_cons_zero, List.set_cons_succ, i64_w, i32_w]
               rfl
              refine zqp 7 (some 60) (zqB 15 2303) (any_of HT_.out (by kernel_rfl)) (h := ?_)
              refine zqp 8 (some 68) (zqB 15 2559) (any_of HT_.out (by kernel_rfl)) (h := ?_)
              refine zqp 9 (some 69) (zqB 15 3071) (any_of HT_.out (by kernel_rfl)) (h := ?_)
              refine zqp 10 (some 70) (zqB 15 4095) (any_of HT_.out (by kernel_rfl)) (h := ?_)
              exact norm_ (by simp only [putAll, Act.put, List.setIfInBounds_toArray, List.set_cons_zero, List.set_cons_succ]) (hCont (gb304) _ ⟨hHeld, (by (with_reducible repeat (first | apply Kd.R_alloc | apply Kd.R_drewN | apply Kd.R_drew)); exact HO_8.out), (zqm BK281.out), (zqm BK282.out), (zqm BK283.out), (zqm BK304.out), GW304.out, GE304.out, NB281_304.out, NB304_281.out, NB282_304.out, NB304_282.out, NB283_304.out, NB304_283.out, (zqn HB.out)⟩)
            rintro gb304 w71 ⟨hS_, h0_, h1_, h2_, h3_, h4_, h5_, h6_, h7_, h8_, h9_, h10_, h11_, h12_, h13_⟩
            have n0_ : Aside0 (Kd.R (Kd.int .i64) 3 w71 w.heap.size (fun _ => True) (.slice (some ad293) t286.length co67) t286) := ⟨h0_⟩
            have n1_ : Aside0 (w71.heap[gb281]? = some (.cells #[.int .i64 a0_0, .int .i64 a0_1, .int .i64 a0_2, .slice A0_3 l0_3.length c0_3] 26 (0, 0))) := ⟨h1_⟩
            have n2_ : Aside0 (w71.heap[gb282]? = some (.cells #[.int .i64 a1_0, .int .i64 a1_1, .int .i64 a1_2, .int .i64 a1_3, .int .i64 a1_4, .int .u64 a1_5, .int .u64 a1_6, .int .u64 a1_7] 40 (0, 0))) := ⟨h2_⟩
            have n3_ : Aside0 (w71.heap[gb283]? = some (.cells #[.int .i64 a2_0, .int .i64 a2_1, .int .i64 a2_2, .int .i64 a2_3, .int .i64 a2_4, .int .u64 a2_5, .int .u64 a2_6, .int .u64 a2_7] 40 (0, 0))) := ⟨h3_⟩
            have n4_ : Aside0 (w71.heap[gb304]? = some (.cells #[.int .i64 0, .int .i64 0, .int .i64 0, .int .i64 0, .int .i64 0, .int .u64 0, .int .u64 0, .int .u64 0] 40 (0, 0))) := ⟨h4_⟩
            have n5_ : Aside0 (w.heap.size ≤ gb304) := ⟨h5_⟩
            have n6_ : Aside0 (w.heap.size ≤ gb304) := ⟨h6_⟩
            have n7_ : Aside0 (gb281 ≠ gb304) := ⟨h7_⟩
            have n8_ : Aside0 (gb304 ≠ gb281) := ⟨h8_⟩
            have n9_ : Aside0 (gb282 ≠ gb304) := ⟨h9_⟩
            have n10_ : Aside0 (gb304 ≠ gb282) := ⟨h10_⟩
            have n11_ : Aside0 (gb283 ≠ gb304) := ⟨h11_⟩
            have n12_ : Aside0 (gb304 ≠ gb283) := ⟨h12_⟩
            have n13_ : Aside0 (Below w.heap.size w w71) := ⟨h13_⟩
            clear HO_8
            clear BK281
            clear BK282
            clear BK283
            clear HB
            clear h0_ h1_ h2_ h3_ h4_ h5_ h6_ h7_ h8_ h9_ h10_ h11_ h12_ h13_
            have HO_8 := n0_
            have BK281 := n1_
            have BK282 := n2_
            have BK283 := n3_
            have BK304 := n4_
            have GW304 := n5_
            have GE304 := n6_
            have NB281_304 := n7_
            have NB304_281 := n8_
            have NB282_304 := n9_
            have NB304_282 := n10_
            have NB283_304 := n11_
            have NB304_283 := n12_
            have HB := n13_
            clear n0_ n1_ n2_ n3_ n4_ n5_ n6_ n7_ n8_ n9_ n10_ n11_ n12_ n13_
            have hHeld : w71.cell? ⟨gb281, 0, none⟩ = some (.int .i64 a0_0) ∧ w71.cell? ⟨gb281, 1, none⟩ = some (.int .i64 a0_1) ∧ w71.cell? ⟨gb281, 2, none⟩ = some (.int .i64 a0_2) ∧ w71.cell? ⟨gb281, 3, none⟩ = some (.slice A0_3 l0_3.length c0_3) ∧ w71.cell? ⟨gb282, 0, none⟩ = some (.int .i64 a1_0) ∧ w71.cell? ⟨gb282, 1, none⟩ = some (.int .i64 a1_1) ∧ w71.cell? ⟨gb282, 2, none⟩ = some (.int .i64 a1_2) ∧ w71.cell? ⟨gb282, 3, none⟩ = some (.int .i64 a1_3) ∧ w71.cell? ⟨gb282, 4, none⟩ = some (.int .i64 a1_4) ∧ w71.cell? ⟨gb282, 5, none⟩ = some (.int .u64 a1_5) ∧ w71.cell? ⟨gb282, 6, none⟩ = some (.int .u64 a1_6) ∧ w71.cell? ⟨gb282, 7, none⟩ = some (.int .u64 a1_7) ∧ w71.cell? (ad293.add (x9_2).toNat) = some (.int .i64 (rd t286 x9_2)) := hS_
            refine norm_ (a' := ?_) ?_ ?_
            rotate_left
            ·
             simp only [putAll, Act.put, List.setIfInBounds_toArray, List.set_cons_zero, List.set_cons_succ]
             rfl
            refine one_ (i := 12) (N := none) (zqB 15 8191) rfl rfl (one_of HT_.out (by kernel_rfl)) (by decide) (fun K hK => ?_)
            have hs72 : w71.cell? ⟨gb304, 0, none⟩ = some (.int .i64 0) := (zqe BK304.out 0).trans rfl
            have hfs72 := zqd BK304.out 0
            have hns72_0 := NB281_304.out
            have hns72_1 := NB282_304.out
            have hns72_2 := NB283_304.out
            have hms72_0 := NB304_281.out
            have hms72_1 := NB304_282.out
            have hms72_2 := NB304_283.out
            have hs73 : w71.cell? ⟨gb304, 1, none⟩ = some (.int .i64 0) := (zqe BK304.out 1).trans rfl
            have hfs73 := zqd BK304.out 1
            have hns73_0 := NB281_304.out
            have hns73_1 := NB282_304.out
            have hns73_2 := NB283_304.out
            have hms73_0 := NB304_281.out
            have hms73_1 := NB304_282.out
            have hms73_2 := NB304_283.out
            have hs74 : w71.cell? ⟨gb304, 2, none⟩ = some (.int .i64 0) := (zqe BK304.out 2).trans rfl
            have hfs74 := zqd BK304.out 2
            have hns74_0 := NB281_304.out
            have hns74_1 := NB282_304.out
            have hns74_2 := NB283_304.out
            have hms74_0 := NB304_281.out
            have hms74_1 := NB304_282.out
            have hms74_2 := NB304_283.out
            have hs75 : w71.cell? ⟨gb304, 3, none⟩ = some (.int .i64 0) := (zqe BK304.out 3).trans rfl
            have hfs75 := zqd BK304.out 3
            have hns75_0 := NB281_304.out
            have hns75_1 := NB282_304.out
            have hns75_2 := NB283_304.out
            have hms75_0 := NB304_281.out
            have hms75_1 := NB304_282.out
            have hms75_2 := NB304_283.out
            have hs76 : w71.cell? ⟨gb304, 4, none⟩ = some (.int .i64 0) := (zqe BK304.out 4).trans rfl
            have hfs76 := zqd BK304.out 4
            have hns76_0 := NB281_304.out
            have hns76_1 := NB282_304.out
            have hns76_2 := NB283_304.out
            have hms76_0 := NB304_281.out
            have hms76_1 := NB304_282.out
            have hms76_2 := NB304_283.out
            have hs77 : w71.cell? ⟨gb304, 5, none⟩ = some (.int .u64 0) := (zqe BK304.out 5).trans rfl
            have hfs77 := zqd BK304.out 5
            have hns77_0 := NB281_304.out
            have hns77_1 := NB282_304.out
            have hns77_2 := NB283_304.out
            have hms77_0 := NB304_281.out
            have hms77_1 := NB304_282.out
            have hms77_2 := NB304_283.out
            have hs78 : w71.cell? ⟨gb304, 6, none⟩ = some (.int .u64 0) := (zqe BK304.out 6).trans rfl
            have hfs78 := zqd BK304.out 6
            have hns78_0 := NB281_304.out
            have hns78_1 := NB282_304.out
            have hns78_2 := NB283_304.out
            have hms78_0 := NB304_281.out
            have hms78_1 := NB304_282.out
            have hms78_2 := NB304_283.out
            have hs79 : w71.cell? ⟨gb304, 7, none⟩ = some (.int .u64 0) := (zqe BK304.out 7).trans rfl
            have hfs79 := zqd BK304.out 7
            have hns79_0 := NB281_304.out
            have hns79_1 := NB282_304.out
            have hns79_2 := NB283_304.out
            have hms79_0 := NB304_281.out
            have hms79_1 := NB304_282.out
            have hms79_2 := NB304_283.out
            refine skip_ (w1 := ?_) (by rfl) rfl ?_ ?_
            rotate_left
            ·
             go_simp
             rfl
            refine hK.out _ _ ⟨((zqk NB281_304.out).trans (((zqk NB281_304.out).trans (((zqk NB281_304.out).trans (((zqk NB281_304.out).trans (((zqk NB281_304.out).trans (((zqk NB281_304.out).trans (((zqk NB281_304.out).trans (((zqk NB281_304.out).trans (hHeld.1)))))))))))))))), ((zqk NB281_304.out).trans (((zqk NB281_304.out).trans (((zqk NB281_304.out).trans (((zqk NB281_304.out).trans (((zqk NB281_304.out).trans (((zqk NB281_304.out).trans (((zqk NB281_304.out).trans (((zqk NB281_304.out).trans (hHeld.2.1)))))))))))))))), ((zqk NB281_304.out).trans (((zqk NB281_304.out).trans (((zqk NB281_304.out).trans (((zqk NB281_304.out).trans (((zqk NB281_304.out).trans (((zqk NB281_304.out).trans (((zqk NB281_304.out).trans (((zqk NB281_304.out).trans (hHeld.2.2.1)))))))))))))))), ((zqk NB281_304.out).trans (((zqk NB281_304.out).trans (((zqk NB281_304.out).trans (((zqk NB281_304.out).trans (((zqk NB281_304.out).trans (((zqk NB281_304.out).trans (((zqk NB281_304.out).trans (((zqk NB281_304.out).trans (hHeld.2.2.2.1)))))))))))))))), ((zqk NB282_304.out).trans (((zqk NB282_304.out).trans (((zqk NB282_304.out).trans (((zqk NB282_304.out).trans (((zqk NB282_304.out).trans (((zqk NB282_304.out).trans (((zqk NB282_304.out).trans (((zqk NB282_304.out).trans (hHeld.2.2.2.2.1)))))))))))))))), ((zqk NB282_304.out).trans (((zqk NB282_304.out).trans (((zqk NB282_304.out).trans (((zqk NB282_304.out).trans (((zqk NB282_304.out).trans (((zqk NB282_304.out).trans (((zqk NB282_304.out).trans (((zqk NB282_304.out).trans (hHeld.2.2.2.2.2.1)))))))))))))))), ((zqk NB282_304.out).trans (((zqk NB282_304.out).trans (((zqk NB282_304.out).trans (((zqk NB282_304.out).trans (((zqk NB282_304.out).trans (((zqk NB282_304.out).trans (((zqk NB282_304.out).trans (((zqk NB282_304.out).trans (hHeld.2.2.2.2.2.2.1)))))))))))))))), ((zqk NB282_304.out).trans (((zqk NB282_304.out).trans (((zqk NB282_304.out).trans (((zqk NB282_304.out).trans (((zqk NB282_304.out).trans (((zqk NB282_304.out).trans (((zqk NB282_304.out).trans (((zqk NB282_304.out).trans (hHeld.2.2.2.2.2.2.2.1)))))))))))))))), ((zqk NB282_304.out).trans (((zqk NB282_304.out).trans (((zqk NB282_304.out).trans (((zqk NB282_304.out).trans (((zqk NB282_304.out).trans (((zqk NB282_304.out).trans (((zqk NB282_304.out).trans (((zqk NB282_304.out).trans (hHeld.2.2.2.2.2.2.2.2.1)))))))))))))))), ((zqk NB282_304.out).trans (((zqk NB282_304.out).trans (((zqk NB282_304.out).trans (((zqk NB282_304.out).trans (((zqk NB282_304.out).trans (((zqk NB282_304.out).trans (((zqk NB282_304.out).trans (((zqk NB282_304.out).trans (hHeld.2.2.2.2.2.2.2.2.2.1)))))))))))))))), ((zqk NB282_304.out).trans (((zqk NB282_304.out).trans (((zqk NB282_304.out).trans (((zqk NB282_304.out).trans (((zqk NB282_304.out).trans (((zqk NB282_304.out).trans (((zqk NB282_304.out).trans (((zqk NB282_304.out).trans (hHeld.2.2.2.2.2.2.2.2.2.2.1)))))))))))))))), ((zqk NB282_304.out).trans (((zqk NB282_304.out).trans (((zqk NB282_304.out).trans (((zqk NB282_304.out).trans (((zqk NB282_304.out).trans (((zqk NB282_304.out).trans (((zqk NB282_304.out).trans (((zqk NB282_304.out).trans (hHeld.2.2.2.2.2.2.2.2.2.2.2.1)))))))))))))))), ((zqk (by first | exact Kd.own_blk (Kd.R_ne HO_8.out BK304.out (by decide)) | (rw [add_block]; exact Kd.own_blk (Kd.R_ne HO_8.out BK304.out (by decide))) | (show (Addr.add _ _).block ≠ _; rw [add_block]; exact Kd.own_blk (Kd.R_ne HO_8.out BK304.out (by decide))) | (dsimp only; exact Kd.own_blk (Kd.R_ne HO_8.out BK304.out (by decide))))).trans (((zqk (by first | exact Kd.own_blk (Kd.R_ne HO_8.out BK304.out (by decide)) | (rw [add_block]; exact Kd.own_blk (Kd.R_ne HO_8.out BK304.out (by decide))) | (show (Addr.add _ _).block ≠ _; rw [add_block]; exact Kd.own_blk (Kd.R_ne HO_8.out BK304.out (by decide))) | (dsimp only; exact Kd.own_blk (Kd.R_ne HO_8.out BK304.out (by decide))))).trans (((zqk (by first | exact Kd.own_blk (Kd.R_ne HO_8.out BK304.out (by decide)) | (rw [add_block]; exact Kd.own_blk (Kd.R_ne HO_8.out BK304.out (by decide))) | (show (Addr.add _ _).block ≠ _; rw [add_block]; exact Kd.own_blk (Kd.R_ne HO_8.out BK304.out (by decide))) | (dsimp only; exact Kd.own_blk (Kd.R_ne HO_8.out BK304.out (by decide))))).trans (((zqk (by first | exact Kd.own_blk (Kd.R_ne HO_8.out BK304.out (by decide)) | (rw [add_block]; exact Kd.own_blk (Kd.R_ne HO_8.out BK304.out (by decide))) | (show (Addr.add _ _).block ≠ _; rw [add_block]; exact Kd.own_blk (Kd.R_ne HO_8.out BK304.out (by decide))) | (dsimp only; exact Kd.own_blk (Kd.R_ne HO_8.out BK304.out (by decide))))).trans (((zqk (by first | exact Kd.own_blk (Kd.R_ne HO_8.out BK304.out (by decide)) | (rw [add_block]; exact Kd.own_blk (Kd.R_ne HO_8.out BK304.out (by decide))) | (show (Addr.add _ _).block ≠ _; rw [add_block]; exact Kd.own_blk (Kd.R_ne HO_8.out BK304.out (by decide))) | (dsimp only; exact Kd.own_blk (Kd.R_ne HO_8.out BK304.out (by decide))))).trans (((zqk (by first | exact Kd.own_blk (Kd.R_ne HO_8.out BK304.out (by decide)) | (rw [add_block]; exact Kd.own_blk (Kd.R_ne HO_8.out BK304.out (by decide))) | (show (Addr.add _ _).block ≠ _; rw [add_block]; exact Kd.own_blk (Kd.R_ne HO_8.out BK304.out (by decide))) | (dsimp only; exact Kd.own_blk (Kd.R_ne HO_8.out BK304.out (by decide))))).trans (((zqk (by first | exact Kd.own_blk (Kd.R_ne HO_8.out BK304.out (by decide)) | (rw [add_block]; exact Kd.own_blk (Kd.R_ne HO_8.out BK304.out (by decide))) | (show (Addr.add _ _).block ≠ _; rw [add_block]; exact Kd.own_blk (Kd.R_ne HO_8.out BK304.out (by decide))) | (dsimp only; exact Kd.own_blk (Kd.R_ne HO_8.out BK304.out (by decide))))).trans (((zqk (by first | exact Kd.own_blk (Kd.R_ne HO_8.out BK304.out (by decide)) | (rw [add_block]; exact Kd.own_blk (Kd.R_ne HO_8.out BK304.out (by decide))) | (show (Addr.add _ _).block ≠ _; rw [add_block]; exact Kd.own_blk (Kd.R_ne HO_8.out BK304.out (by decide))) | (dsimp only; exact Kd.own_blk (Kd.R_ne HO_8.out BK304.out (by decide))))).trans (hHeld.2.2.2.2.2.2.2.2.2.2.2.2))))))))))))))))⟩ (fun hHeld => ?_)
            clear hK K
            refine zqp 13 (some 11) (zqB 15 16383) (any_of HT_.out (by kernel_rfl)) (h := ?_)
            refine zqp 14 (some 12) (zqB 15 32767) (any_of HT_.out (by kernel_rfl)) (h := ?_)
            refine done_ (done_of HT_.out (by kernel_rfl)) ?_
            try go_wp2
            have n0_ : Aside0 (Kd.R (Kd.int .i64) 3 ((((((((w71.setCell ⟨gb304, 0, none⟩ (.int .i64 t294)).setCell ⟨gb304, 1, none⟩ (.int .i64 t295)).setCell ⟨gb304, 2, none⟩ (.int .i64 t296)).setCell ⟨gb304, 3, none⟩ (.int .i64 t297)).setCell ⟨gb304, 4, none⟩ (.int .i64 t298)).setCell ⟨gb304, 5, none⟩ (.int .u64 t299)).setCell ⟨gb304, 6, none⟩ (.int .u64 t300)).setCell ⟨gb304, 7, none⟩ (.int .u64 t301)) w.heap.size (fun _ => True) (.slice (some ad293) t286.length co67) t286) := ⟨by (with_reducible repeat (first | apply Kd.R_alloc | apply Kd.R_drewN | apply Kd.R_drew)); exact Kd.R_mono (Kd.R_far (p := ⟨gb304, 7, none⟩) (Kd.R_far (p := ⟨gb304, 6, none⟩) (Kd.R_far (p := ⟨gb304, 5, none⟩) (Kd.R_far (p := ⟨gb304, 4, none⟩) (Kd.R_far (p := ⟨gb304, 3, none⟩) (Kd.R_far (p := ⟨gb304, 2, none⟩) (Kd.R_far (p := ⟨gb304, 1, none⟩) (Kd.R_far (p := ⟨gb304, 0, none⟩) (Kd.R_types HO_8.out BK304.out (by decide)) (fun _ hk => hk.2) (.int .i64 t294)) (fun _ hk => hk.2) (.int .i64 t295)) (fun _ hk => hk.2) (.int .i64 t296)) (fun _ hk => hk.2) (.int .i64 t297)) (fun _ hk => hk.2) (.int .i64 t298)) (fun _ hk => hk.2) (.int .u64 t299)) (fun _ hk => hk.2) (.int .u64 t300)) (fun _ hk => hk.2) (.int .u64 t301)) (fun _ hk => trivial)⟩
            have n1_ : Aside0 (((((((((w71.setCell ⟨gb304, 0, none⟩ (.int .i64 t294)).setCell ⟨gb304, 1, none⟩ (.int .i64 t295)).setCell ⟨gb304, 2, none⟩ (.int .i64 t296)).setCell ⟨gb304, 3, none⟩ (.int .i64 t297)).setCell ⟨gb304, 4, none⟩ (.int .i64 t298)).setCell ⟨gb304, 5, none⟩ (.int .u64 t299)).setCell ⟨gb304, 6, none⟩ (.int .u64 t300)).setCell ⟨gb304, 7, none⟩ (.int .u64 t301)).heap[gb281]? = some (.cells #[.int .i64 a0_0, .int .i64 a0_1, .int .i64 a0_2, .slice A0_3 l0_3.length c0_3] 26 (0, 0))) := ⟨by (with_reducible repeat (first | apply zqa | apply zqb | apply zqc)); refine blk_far ?_ NB281_304.out _; (with_reducible repeat (first | apply zqa | apply zqb | apply zqc)); refine blk_far ?_ NB281_304.out _; (with_reducible repeat (first | apply zqa | apply zqb | apply zqc)); refine blk_far ?_ NB281_304.out _; (with_reducible repeat (first | apply zqa | apply zqb | apply zqc)); refine blk_far ?_ NB281_304.out _; (with_reducible repeat (first | apply zqa | apply zqb | apply zqc)); refine blk_far ?_ NB281_304.out _; (with_reducible repeat (first | apply zqa | apply zqb | apply zqc)); refine blk_far ?_ NB281_304.out _; (with_reducible repeat (first | apply zqa | apply zqb | apply zqc)); refine blk_far ?_ NB281_304.out _; (with_reducible repeat (first | apply zqa | apply zqb | apply zqc)); refine blk_far ?_ NB281_304.out _; (with_reducible repeat (first | apply zqa | apply zqb | apply zqc)); exact BK281.out⟩
            have n2_ : Aside0 (((((((((w71.setCell ⟨gb304, 0, none⟩ (.int .i64 t294)).setCell ⟨gb304, 1, none⟩ (.int .i64 t295)).setCell ⟨gb304, 2, none⟩ (.int .i64 t296)).setCell ⟨gb304, 3, none⟩ (.int .i64 t297)).setCell ⟨gb304, 4, none⟩ (.int .i64 t298)).setCell ⟨gb304, 5, none⟩ (.int .u64 t299)).setCell ⟨gb304, 6, none⟩ (.int .u64 t300)).setCell ⟨gb304, 7, none⟩ (.int .u64 t301)).heap[gb282]? = some (.cells #[.int .i64 a1_0, .int .i64 a1_1, .int .i64 a1_2, .int .i64 a1_3, .int .i64 a1_4, .int .u64 a1_5, .int .u64 a1_6, .int .u64 a1_7] 40 (0, 0))) := ⟨by (with_reducible repeat (first | apply zqa | apply zqb | apply zqc)); refine blk_far ?_ NB282_304.out _; (with_reducible repeat (first | apply zqa | apply zqb | apply zqc)); refine blk_far ?_ NB282_304.out _; (with_reducible repeat (first | apply zqa | apply zqb | apply zqc)); refine blk_far ?_ NB282_304.out _; (with_reducible repeat (first | apply zqa | apply zqb | apply zqc)); refine blk_far ?_ NB282_304.out _; (with_reducible repeat (first | apply zqa | apply zqb | apply zqc)); refine blk_far ?_ NB282_304.out _; (with_reducible repeat (first | apply zqa | apply zqb | apply zqc)); refine blk_far ?_ NB282_304.out _; (with_reducible repeat (first | apply zqa | apply zqb | apply zqc)); refine blk_far ?_ NB282_304.out _; (with_reducible repeat (first | apply zqa | apply zqb | apply zqc)); refine blk_far ?_ NB282_304.out _; (with_reducible repeat (first | apply zqa | apply zqb | apply zqc)); exact BK282.out⟩
            have n3_ : Aside0 (((((((((w71.setCell ⟨gb304, 0, none⟩ (.int .i64 t294)).setCell ⟨gb304, 1, none⟩ (.int .i64 t295)).setCell ⟨gb304, 2, none⟩ (.int .i64 t296)).setCell ⟨gb304, 3, none⟩ (.int .i64 t297)).setCell ⟨gb304, 4, none⟩ (.int .i64 t298)).setCell ⟨gb304, 5, none⟩ (.int .u64 t299)).setCell ⟨gb304, 6, none⟩ (.int .u64 t300)).setCell ⟨gb304, 7, none⟩ (.int .u64 t301)).heap[gb283]? = some (.cells #[.int .i64 a2_0, .int .i64 a2_1, .int .i64 a2_2, .int .i64 a2_3, .int .i64 a2_4, .int .u64 a2_5, .int .u64 a2_6, .int .u64 a2_7] 40 (0, 0))) := ⟨by (with_reducible repeat (first | apply zqa | apply zqb | apply zqc)); refine blk_far ?_ NB283_304.out _; (with_reducible repeat (first | apply zqa | apply zqb | apply zqc)); refine blk_far ?_ NB283_304.out _; (with_reducible repeat (first | apply zqa | apply zqb | apply zqc)); refine blk_far ?_ NB283_304.out _; (with_reducible repeat (first | apply zqa | apply zqb | apply zqc)); refine blk_far ?_ NB283_304.out _; (with_reducible repeat (first | apply zqa | apply zqb | apply zqc)); refine blk_far ?_ NB283_304.out _; (with_reducible repeat (first | apply zqa | apply zqb | apply zqc)); refine blk_far ?_ NB283_304.out _; (with_reducible repeat (first | apply zqa | apply zqb | apply zqc)); refine blk_far ?_ NB283_304.out _; (with_reducible repeat (first | apply zqa | apply zqb | apply zqc)); refine blk_far ?_ NB283_304.out _; (with_reducible repeat (first | apply zqa | apply zqb | apply zqc)); exact BK283.out⟩
            have n4_ : Aside0 (((((((((w71.setCell ⟨gb304, 0, none⟩ (.int .i64 t294)).setCell ⟨gb304, 1, none⟩ (.int .i64 t295)).setCell ⟨gb304, 2, none⟩ (.int .i64 t296)).setCell ⟨gb304, 3, none⟩ (.int .i64 t297)).setCell ⟨gb304, 4, none⟩ (.int .i64 t298)).setCell ⟨gb304, 5, none⟩ (.int .u64 t299)).setCell ⟨gb304, 6, none⟩ (.int .u64 t300)).setCell ⟨gb304, 7, none⟩ (.int .u64 t301)).heap[gb304]? = some (.cells #[.int .i64 t294, .int .i64 t295, .int .i64 t296, .int .i64 t297, .int .i64 t298, .int .u64 t299, .int .u64 t300, .int .u64 t301] 40 (0, 0))) := ⟨by (with_reducible repeat (first | apply zqa | apply zqb | apply zqc)); refine blk_put (cs := #[.int .i64 t294, .int .i64 t295, .int .i64 t296, .int .i64 t297, .int .i64 t298, .int .u64 t299, .int .u64 t300, .int .u64 0]) ?_ 7 _ rfl; (with_reducible repeat (first | apply zqa | apply zqb | apply zqc)); refine blk_put (cs := #[.int .i64 t294, .int .i64 t295, .int .i64 t296, .int .i64 t297, .int .i64 t298, .int .u64 t299, .int .u64 0, .int .u64 0]) ?_ 6 _ rfl; (with_reducible repeat (first | apply zqa | apply zqb | apply zqc)); refine blk_put (cs := #[.int .i64 t294, .int .i64 t295, .int .i64 t296, .int .i64 t297, .int .i64 t298, .int .u64 0, .int .u64 0, .int .u64 0]) ?_ 5 _ rfl; (with_reducible repeat (first | apply zqa | apply zqb | apply zqc)); refine blk_put (cs := #[.int .i64 t294, .int .i64 t295, .int .i64 t296, .int .i64 t297, .int .i64 0, .int .u64 0, .int .u64 0, .int .u64 0]) ?_ 4 _ rfl; (with_reducible repeat (first | apply zqa | apply zqb | apply zqc)); refine blk_put (cs := #[.int .i64 t294, .int .i64 t295, .int .i64 t296, .int .i64 0, .int .i64 0, .int .u64 0, .int .u64 0, .int .u64 0]) ?_ 3 _ rfl; (with_reducible repeat (first | apply zqa | apply zqb | apply zqc)); refine blk_put (cs := #[.int .i64 t294, .int .i64 t295, .int .i64 0, .int .i64 0, .int .i64 0, .int .u64 0, .int .u64 0, .int .u64 0]) ?_ 2 _ rfl; (with_reducible repeat (first | apply zqa | apply zqb | apply zqc)); refine blk_put (cs := #[.int .i64 t294, .int .i64 0, .int .i64 0, .int .i64 0, .int .i64 0, .int .u64 0, .int .u64 0, .int .u64 0]) ?_ 1 _ rfl; (with_reducible repeat (first | apply zqa | apply zqb | apply zqc)); refine blk_put (cs := #[.int .i64 0, .int .i64 0, .int .i64 0, .int .i64 0, .int .i64 0, .int .u64 0, .int .u64 0, .int .u64 0]) ?_ 0 _ rfl; (with_reducible repeat (first | apply zqa | apply zqb | apply zqc)); exact BK304.out⟩
            have n5_ : Aside0 (Below w.heap.size w ((((((((w71.setCell ⟨gb304, 0, none⟩ (.int .i64 t294)).setCell ⟨gb304, 1, none⟩ (.int .i64 t295)).setCell ⟨gb304, 2, none⟩ (.int .i64 t296)).setCell ⟨gb304, 3, none⟩ (.int .i64 t297)).setCell ⟨gb304, 4, none⟩ (.int .i64 t298)).setCell ⟨gb304, 5, none⟩ (.int .u64 t299)).setCell ⟨gb304, 6, none⟩ (.int .u64 t300)).setCell ⟨gb304, 7, none⟩ (.int .u64 t301))) := ⟨by repeat (first | (with_reducible first | exact HB.out | apply zqg | apply zqf | apply zqh | refine below_set ?_ GE281.out | refine below_set ?_ GE282.out | refine below_set ?_ GE283.out | refine below_set ?_ GE304.out) | exact HB.out)⟩
            (try clear HO_8)
            (try clear BK281)
            (try clear BK282)
            (try clear BK283)
            (try clear BK304)
            (try clear HB)
            generalize ((((((((w71.setCell ⟨gb304, 0, none⟩ (.int .i64 t294)).setCell ⟨gb304, 1, none⟩ (.int .i64 t295)).setCell ⟨gb304, 2, none⟩ (.int .i64 t296)).setCell ⟨gb304, 3, none⟩ (.int .i64 t297)).setCell ⟨gb304, 4, none⟩ (.int .i64 t298)).setCell ⟨gb304, 5, none⟩ (.int .u64 t299)).setCell ⟨gb304, 6, none⟩ (.int .u64 t300)).setCell ⟨gb304, 7, none⟩ (.int .u64 t301)) = w80 at n0_ n1_ n2_ n3_ n4_ n5_ ⊢
            have HO_8 := n0_
            have BK281 := n1_
            have BK282 := n2_
            have BK283 := n3_
            have BK304 := n4_
            have HB := n5_
            clear n0_ n1_ n2_ n3_ n4_ n5_
            have n0_ := zqi (Kd.R_drew HO_8.out)
            have n1_ := zqi (zqb BK281.out)
            have n2_ := zqi (zqb BK282.out)
            have n3_ := zqi (zqb BK283.out)
            have n4_ := zqi (zqb BK304.out)
            have n5_ := zqi (zqh HB.out)
            clear HO_8
            clear BK281
            clear BK282
            clear BK283
            clear BK304
            clear HB
            have HO_8 := n0_
            have BK281 := n1_
            have BK282 := n2_
            have BK283 := n3_
            have BK304 := n4_
            have HB := n5_
            clear n0_ n1_ n2_ n3_ n4_ n5_
            have p305 : 0 ≤ (x9_2 : Int) := of_decide_eq_true (by first | (with_reducible assumption) | assumption)
            have q305 : x9_2 < (t286.length : Int) := of_decide_eq_true (by first | (with_reducible assumption) | assumption)
            obtain ⟨ad305, e305, hx305_0⟩ := Kd.at_int (Kd.R_reads' HO_8.out).2.2 x9_2 p305 q305
            obtain rfl : ad293 = ad305 := (by injection e305)
            replace p305 := eq_true p305
            replace q305 := eq_true q305
            refine start_ (n := 15) (S := fun w' => w'.cell? ⟨gb281, 0, none⟩ = some (.int .i64 a0_0) ∧ w'.cell? ⟨gb281, 1, none⟩ = some (.int .i64 a0_1) ∧ w'.cell? ⟨gb281, 2, none⟩ = some (.int .i64 a0_2) ∧ w'.cell? ⟨gb281, 3, none⟩ = some (.slice A0_3 l0_3.length c0_3) ∧ w'.cell? ⟨gb283, 0, none⟩ = some (.int .i64 a2_0) ∧ w'.cell? ⟨gb283, 1, none⟩ = some (.int .i64 a2_1) ∧ w'.cell? ⟨gb283, 2, none⟩ = some (.int .i64 a2_2) ∧ w'.cell? ⟨gb283, 3, none⟩ = some (.int .i64 a2_3) ∧ w'.cell? ⟨gb283, 4, none⟩ = some (.int .i64 a2_4) ∧ w'.cell? ⟨gb283, 5, none⟩ = some (.int .u64 a2_5) ∧ w'.cell? ⟨gb283, 6, none⟩ = some (.int .u64 a2_6) ∧ w'.cell? ⟨gb283, 7, none⟩ = some (.int .u64 a2_7) ∧ w'.cell? (ad293.add (x9_2).toNat) = some (.int .i64 (rd t286 x9_2))) (ds := []) (zqB 15 0) (by kernel_rfl) rfl rfl ⟨(zqe BK281.out 0).trans rfl, (zqe BK281.out 1).trans rfl, (zqe BK281.out 2).trans rfl, (zqe BK281.out 3).trans rfl, (zqe BK283.out 0).trans rfl, (zqe BK283.out 1).trans rfl, (zqe BK283.out 2).trans rfl, (zqe BK283.out 3).trans rfl, (zqe BK283.out 4).trans rfl, (zqe BK283.out 5).trans rfl, (zqe BK283.out 6).trans rfl, (zqe BK283.out 7).trans rfl, hx305_0⟩ (fun hHeld => ?_); refine with_tabW haulierlaw11_RelaxMoves.tab9 haulierlaw11_RelaxMoves.bits9 (fun HT_ HW_ => ?_)
            generalize w80.drew = w81 at HO_8 BK281 BK282 BK283 BK304 HB hx305_0 hHeld ⊢
            refine zqp 2 (some 74) (zqB 15 4) (any_of HT_.out (by kernel_rfl)) (h := ?_)
            refine zqp 3 (some 75) (zqB 15 12) (any_of HT_.out (by kernel_rfl)) (h := ?_)
            refine zqp 4 (some 76) (zqB 15 28) (any_of HT_.out (by kernel_rfl)) (h := ?_)
            refine zqt 0 (some 72) (zqB 15 29) (take_ofW HT_.out HW_.out (by kernel_rfl)) hHeld (h := ?_)
            refine zqt 1 (some 73) (zqB 15 31) (take_ofW HT_.out HW_.out (by kernel_rfl)) hHeld (h := ?_)
            refine zqt 5 (some 77) (zqB 15 63) (take_ofW HT_.out HW_.out (by kernel_rfl)) hHeld (h := ?_)
            refine join_ (σ := Nat) 3 (zqB 15 4095) (fun s_ => [(78, .tuple #[.agg #[.int .i64 t306, .int .i64 t307, .int .i64 t308, .int .i64 t309, .int .i64 t310, .int .u64 t311, .int .u64 t312, .int .u64 t313], .int .i64 t314, .bool true]), (13, .pointer (some ⟨s_, 0, none⟩)), (71, .tuple #[.agg #[.int .i64 t306, .int .i64 t307, .int .i64 t308, .int .i64 t309, .int .i64 t310, .int .u64 t311, .int .u64 t312, .int .u64 t313], .int .i64 t314, .bool true]), (79, .agg #[.int .i64 t306, .int .i64 t307, .int .i64 t308, .int .i64 t309, .int .i64 t310, .int .u64 t311, .int .u64 t312, .int .u64 t313]), (80, .int .i64 t314), (81, .bool true)]) (fun s_ w' => (w'.cell? ⟨gb281, 0, none⟩ = some (.int .i64 a0_0) ∧ w'.cell? ⟨gb281, 1, none⟩ = some (.int .i64 a0_1) ∧ w'.cell? ⟨gb281, 2, none⟩ = some (.int .i64 a0_2) ∧ w'.cell? ⟨gb281, 3, none⟩ = some (.slice A0_3 l0_3.length c0_3) ∧ w'.cell? ⟨gb283, 0, none⟩ = some (.int .i64 a2_0) ∧ w'.cell? ⟨gb283, 1, none⟩ = some (.int .i64 a2_1) ∧ w'.cell? ⟨gb283, 2, none⟩ = some (.int .i64 a2_2) ∧ w'.cell? ⟨gb283, 3, none⟩ = some (.int .i64 a2_3) ∧ w'.cell? ⟨gb283, 4, none⟩ = some (.int .i64 a2_4) ∧ w'.cell? ⟨gb283, 5, none⟩ = some (.int .u64 a2_5) ∧ w'.cell? ⟨gb283, 6, none⟩ = some (.int .u64 a2_6) ∧ w'.cell? ⟨gb283, 7, none⟩ = some (.int .u64 a2_7) ∧ w'.cell? (ad293.add (x9_2).toNat) = some (.int .i64 (rd t286 x9_2))) ∧ (Kd.R (Kd.int .i64) 3 w' w.heap.size (fun _ => True) (.slice (some ad293) t286.length co67) t286) ∧ (w'.heap[gb281]? = some (.cells #[.int .i64 a0_0, .int .i64 a0_1, .int .i64 a0_2, .slice A0_3 l0_3.length c0_3] 26 (0, 0))) ∧ (w'.heap[gb282]? = some (.cells #[.int .i64 a1_0, .int .i64 a1_1, .int .i64 a1_2, .int .i64 a1_3, .int .i64 a1_4, .int .u64 a1_5, .int .u64 a1_6, .int .u64 a1_7] 40 (0, 0))) ∧ (w'.heap[gb283]? = some (.cells #[.int .i64 a2_0, .int .i64 a2_1, .int .i64 a2_2, .int .i64 a2_3, .int .i64 a2_4, .int .u64 a2_5, .int .u64 a2_6, .int .u64 a2_7] 40 (0, 0))) ∧ (w'.heap[gb304]? = some (.cells #[.int .i64 t294, .int .i64 t295, .int .i64 t296, .int .i64 t297, .int .i64 t298, .int .u64 t299, .int .u64 t300, .int .u64 t301] 40 (0, 0))) ∧ (w'.heap[s_]? = some (.cells #[.int .i64 0, .int .i64 0, .int .i64 0, .int .i64 0, .int .i64 0, .int .u64 0, .int .u64 0, .int .u64 0] 40 (0, 0))) ∧ (w.heap.size ≤ s_) ∧ (w.heap.size ≤ s_) ∧ (gb281 ≠ s_) ∧ (s_ ≠ gb281) ∧ (gb282 ≠ s_) ∧ (s_ ≠ gb282) ∧ (gb283 ≠ s_) ∧ (s_ ≠ gb283) ∧ (gb304 ≠ s_) ∧ (s_ ≠ gb304) ∧ (Below w.heap.size w w')) ?_ ?_
            rotate_left
            ·
             intro hCont
             refine two_ (i := 6) (j := 11) (Ni := some 78) (Nj := some 13) (zqB 15 127) (zqB 15 2111) rfl rfl rfl rfl (two_of HT_.out (by kernel_rfl)) (by decide) (by decide) (fun K hK => ?_) (fun K hK => ?_)
             ·
              skip
              refine goes_ Try.func22 (by kernel_rfl) rfl #[.agg #[.int .i64 a0_0, .int .i64 a0_1, .int .i64 a0_2, .slice A0_3 l0_3.length c0_3], .agg #[.int .i64 a2_0, .int .i64 a2_1, .int .i64 a2_2, .int .i64 a2_3, .int .i64 a2_4, .int .u64 a2_5, .int .u64 a2_6, .int .u64 a2_7], .int .i64 (rd t286 x9_2)] (by rfl) rfl rfl (by (try simp only [List.map_toArray, List.map_cons, List.map_nil]); first | done | rfl | (simp only [List.length_drop, List.length_take]; rfl)) ?_
              with_reducible refine (state_Move.calls k2 a0_0 a0_1 a0_2 _ _ l0_3 a2_0 a2_1 a2_2 a2_3 a2_4 a2_5 a2_6 a2_7 (rd t286 x9_2) t306 t307 t308 t309 t310 t311 t312 t313 t314 true _ ?side1 ?side2 A61.out).mono ?_
              (case side1 => repeat (first | exact (Kd.C_below HR0_3.out HB.out) | (with_reducible refine Kd.C_alloc ?_ _) | (with_reducible refine Kd.C_drewN ?_ _) | (with_reducible refine Kd.C_drew ?_)))
              (case side2 => exact HC0_3.out)
              rintro e w82 ⟨rfl, hb⟩
              have HS12_ := (hb.cell (World.block_lt_of_cell? _ _ (hHeld.2.2.2.2.2.2.2.2.2.2.2.2))).trans (hHeld.2.2.2.2.2.2.2.2.2.2.2.2)
              refine ⟨_, rfl, ?_⟩
              have n0_ := zqi (Kd.R_below (by (with_reducible repeat (first | apply Kd.R_alloc | apply Kd.R_drewN | apply Kd.R_drew)); exact HO_8.out) hb)
              have n1_ := zqi (zqy BK281.out hb)
              have n2_ := zqi (zqy BK282.out hb)
              have n3_ := zqi (zqy BK283.out hb)
              have n4_ := zqi (zqy BK304.out hb)
              have n5_ := zqi (below_step (zqn HB.out) hb)
              clear HO_8
              clear BK281
              clear BK282
              clear BK283
              clear BK304
              clear HB
              have HO_8 := n0_
              have BK281 := n1_
              have BK282 := n2_
              have BK283 := n3_
              have BK304 := n4_
              have HB := n5_
              clear n0_ n1_ n2_ n3_ n4_ n5_
              (try clear hb)
              (try clear hb2)
              (try clear hk)
              (try clear hi)
              refine hK.out _ _ ⟨(zqe BK281.out 0).trans rfl, (zqe BK281.out 1).trans rfl, (zqe BK281.out 2).trans rfl, (zqe BK281.out 3).trans rfl, (zqe BK283.out 0).trans rfl, (zqe BK283.out 1).trans rfl, (zqe BK283.out 2).trans rfl, (zqe BK283.out 3).trans rfl, (zqe BK283.out 4).trans rfl, (zqe BK283.out 5).trans rfl, (zqe BK283.out 6).trans rfl, (zqe BK283.out 7).trans rfl, HS12_⟩ (fun hHeld => ?_)
              clear hK K
              refine norm_ (a' := ?_) ?_ ?_
              rotate_left
              ·
               show Act.put _ (some 78) _ = _
               simp only [Act.put, List.setIfInBounds_toArray, List.set_cons_zero, List.set_cons_succ, i64_w, i32_w]
               rfl
              refine zqp 7 (some 71) (zqB 15 255) (any_of HT_.out (by kernel_rfl)) (h := ?_)
              refine zqp 8 (some 79) (zqB 15 511) (any_of HT_.out (by kernel_rfl)) (h := ?_)
              refine zqp 9 (some 80) (zqB 15 1023) (any_of HT_.out (by kernel_rfl)) (h := ?_)
              refine zqp 10 (some 81) (zqB 15 2047) (any_of HT_.out (by kernel_rfl)) (h := ?_)
              refine one_ (i := 11) (N := some 13) (zqB 15 4095) rfl rfl (one_of HT_.out (by kernel_rfl)) (by decide) (fun K hK => ?_)
              refine box_step ?hg (N := 13) ?hd (cs := #[.int .i64 0, .int .i64 0, .int .i64 0, .int .i64 0, .int .i64 0, .int .u64 0, .int .u64 0, .int .u64 0]) (t := 40) ?hr ?_; (case hd => rfl); (case hg => rfl); (case hr => first | (go_simp; done) | (go_simp; rfl))
              intro gb316 hg w83 hbox hb
              have HS12_ := (hb.cell (World.block_lt_of_cell? _ _ (hHeld.2.2.2.2.2.2.2.2.2.2.2.2))).trans (hHeld.2.2.2.2.2.2.2.2.2.2.2.2)
              have n0_ := zqi (Kd.R_below (by (with_reducible repeat (first | apply Kd.R_alloc | apply Kd.R_drewN | apply Kd.R_drew)); exact HO_8.out) hb)
              have n1_ := zqi (zqy BK281.out hb)
              have n2_ := zqi (zqy BK282.out hb)
              have n3_ := zqi (zqy BK283.out hb)
              have n4_ := zqi (zqy BK304.out hb)
              have n5_ := zqi (below_step (zqn HB.out) hb)
              have n6_ := zqi (hbox)
              have n7_ := zqi (zqo hg HB.out)
              have n8_ := zqi (zqo hg HB.out)
              have n9_ := zqi ((zqq hg BK281.out))
              have n10_ := zqi ((zqr hg BK281.out))
              have n11_ := zqi ((zqq hg BK282.out))
              have n12_ := zqi ((zqr hg BK282.out))
              have n13_ := zqi ((zqq hg BK283.out))
              have n14_ := zqi ((zqr hg BK283.out))
              have n15_ := zqi ((zqq hg BK304.out))
              have n16_ := zqi ((zqr hg BK304.out))
              clear HO_8
              clear BK281
              clear BK282
              clear BK283
              clear BK304
              clear HB
              have HO_8 := n0_
              have BK281 := n1_
              have BK282 := n2_
              have BK283 := n3_
              have BK304 := n4_
              have HB := n5_
              have BK316 := n6_
              have GW316 := n7_
              have GE316 := n8_
              have NB281_316 := n9_
              have NB316_281 := n10_
              have NB282_316 := n11_
              have NB316_282 := n12_
              have NB283_316 := n13_
              have NB316_283 := n14_
              have NB304_316 := n15_
              have NB316_304 := n16_
              clear n0_ n1_ n2_ n3_ n4_ n5_ n6_ n7_ n8_ n9_ n10_ n11_ n12_ n13_ n14_ n15_ n16_
              clear hb hbox hg
              refine hK.out _ _ ⟨(zqe BK281.out 0).trans rfl, (zqe BK281.out 1).trans rfl, (zqe BK281.out 2).trans rfl, (zqe BK281.out 3).trans rfl, (zqe BK283.out 0).trans rfl, (zqe BK283.out 1).trans rfl, (zqe BK283.out 2).trans rfl, (zqe BK283.out 3).trans rfl, (zqe BK283.out 4).trans rfl, (zqe BK283.out 5).trans rfl, (zqe BK283.out 6).trans rfl, (zqe BK283.out 7).trans rfl, HS12_⟩ (fun hHeld => ?_)
              clear hK K
              refine norm_ (a' := ?_) ?_ ?_
              rotate_left
              ·
               show Act.put _ (some 13) _ = _
               simp only [Act.put, List.setIfInBounds_toArray, List.set_cons_zero, List.set_cons_succ, i64_w, i32_w]
               rfl
              exact norm_ (by simp only [putAll, Act.put, List.setIfInBounds_toArray, List.set_cons_zero, List.set_cons_succ]) (hCont (gb316) _ ⟨hHeld, (by (with_reducible repeat (first | apply Kd.R_alloc | apply Kd.R_drewN | apply Kd.R_drew)); exact HO_8.out), (zqm BK281.out), (zqm BK282.out), (zqm BK283.out), (zqm BK304.out), (zqm BK316.out), GW316.out, GE316.out, NB281_316.out, NB316_281.out, NB282_316.out, NB316_282.out, NB283_316.out, NB316_283.out, NB304_316.out, NB316_304.out, (zqn HB.out)⟩)
             ·
              skip
              refine box_step ?hg (N := 13) ?hd (cs := #[.int .i64 0, .int .i64 0, .int .i64 0, .int .i64 0, .int .i64 0, .int .u64 0, .int .u64 0, .int .u64 0]) (t := 40) ?hr ?_; (case hd => rfl); (case hg => rfl); (case hr => first | (go_simp; done) | (go_simp; rfl))
              intro gb316 hg w82 hbox hb
              have HS12_ := (hb.cell (World.block_lt_of_cell? _ _ (hHeld.2.2.2.2.2.2.2.2.2.2.2.2))).trans (hHeld.2.2.2.2.2.2.2.2.2.2.2.2)
              have n0_ := zqi (Kd.R_below (by (with_reducible repeat (first | apply Kd.R_alloc | apply Kd.R_drewN | apply Kd.R_drew)); exact HO_8.out) hb)
              have n1_ := zqi (zqy BK281.out hb)
              have n2_ := zqi (zqy BK282.out hb)
              have n3_ := zqi (zqy BK283.out hb)
              have n4_ := zqi (zqy BK304.out hb)
              have n5_ := zqi (below_step (zqn HB.out) hb)
              have n6_ := zqi (hbox)
              have n7_ := zqi (zqo hg HB.out)
              have n8_ := zqi (zqo hg HB.out)
              have n9_ := zqi ((zqq hg BK281.out))
              have n10_ := zqi ((zqr hg BK281.out))
              have n11_ := zqi ((zqq hg BK282.out))
              have n12_ := zqi ((zqr hg BK282.out))
              have n13_ := zqi ((zqq hg BK283.out))
              have n14_ := zqi ((zqr hg BK283.out))
              have n15_ := zqi ((zqq hg BK304.out))
              have n16_ := zqi ((zqr hg BK304.out))
              clear HO_8
              clear BK281
              clear BK282
              clear BK283
              clear BK304
              clear HB
              have HO_8 := n0_
              have BK281 := n1_
              have BK282 := n2_
              have BK283 := n3_
              have BK304 := n4_
              have HB := n5_
              have BK316 := n6_
              have GW316 := n7_
              have GE316 := n8_
              have NB281_316 := n9_
              have NB316_281 := n10_
              have NB282_316 := n11_
              have NB316_282 := n12_
              have NB283_316 := n13_
              have NB316_283 := n14_
              have NB304_316 := n15_
              have NB316_304 := n16_
              clear n0_ n1_ n2_ n3_ n4_ n5_ n6_ n7_ n8_ n9_ n10_ n11_ n12_ n13_ n14_ n15_ n16_
              clear hb hbox hg
              refine hK.out _ _ ⟨(zqe BK281.out 0).trans rfl, (zqe BK281.out 1).trans rfl, (zqe BK281.out 2).trans rfl, (zqe BK281.out 3).trans rfl, (zqe BK283.out 0).trans rfl, (zqe BK283.out 1).trans rfl, (zqe BK283.out 2).trans rfl, (zqe BK283.out 3).trans rfl, (zqe BK283.out 4).trans rfl, (zqe BK283.out 5).trans rfl, (zqe BK283.out 6).trans rfl, (zqe BK283.out 7).trans rfl, HS12_⟩ (fun hHeld => ?_)
              clear hK K
              refine norm_ (a' := ?_) ?_ ?_
              rotate_left
              ·
               show Act.put _ (some 13) _ = _
               simp only [Act.put, List.setIfInBounds_toArray, List.set_cons_zero, List.set_cons_succ, i64_w, i32_w]
               rfl
              refine one_ (i := 6) (N := some 78) (zqB 15 2175) rfl rfl (one_of HT_.out (by kernel_rfl)) (by decide) (fun K hK => ?_)
              refine goes_ Try.func22 (by kernel_rfl) rfl #[.agg #[.int .i64 a0_0, .int .i64 a0_1, .int .i64 a0_2, .slice A0_3 l0_3.length c0_3], .agg #[.int .i64 a2_0, .int .i64 a2_1, .int .i64 a2_2, .int .i64 a2_3, .int .i64 a2_4, .int .u64 a2_5, .int .u64 a2_6, .int .u64 a2_7], .int .i64 (rd t286 x9_2)] (by rfl) rfl rfl (by (try simp only [List.map_toArray, List.map_cons, List.map_nil]); first | done | rfl | (simp only [List.length_drop, List.length_take]; rfl)) ?_
              with_reducible refine (state_Move.calls k2 a0_0 a0_1 a0_2 _ _ l0_3 a2_0 a2_1 a2_2 a2_3 a2_4 a2_5 a2_6 a2_7 (rd t286 x9_2) t306 t307 t308 t309 t310 t311 t312 t313 t314 true _ ?side1 ?side2 A61.out).mono ?_
              (case side1 => repeat (first | exact (Kd.C_below HR0_3.out HB.out) | (with_reducible refine Kd.C_alloc ?_ _) | (with_reducible refine Kd.C_drewN ?_ _) | (with_reducible refine Kd.C_drew ?_)))
              (case side2 => exact HC0_3.out)
              rintro e w83 ⟨rfl, hb⟩
              have HS12_ := (hb.cell (World.block_lt_of_cell? _ _ (hHeld.2.2.2.2.2.2.2.2.2.2.2.2))).trans (hHeld.2.2.2.2.2.2.2.2.2.2.2.2)
              refine ⟨_, rfl, ?_⟩
              have n0_ := zqi (Kd.R_below (by (with_reducible repeat (first | apply Kd.R_alloc | apply Kd.R_drewN | apply Kd.R_drew)); exact HO_8.out) hb)
              have n1_ := zqi (zqy BK281.out hb)
              have n2_ := zqi (zqy BK282.out hb)
              have n3_ := zqi (zqy BK283.out hb)
              have n4_ := zqi (zqy BK304.out hb)
              have n5_ := zqi (zqy BK316.out hb)
              have n6_ := zqi (below_step (zqn HB.out) hb)
              clear HO_8
              clear BK281
              clear BK282
              clear BK283
              clear BK304
              clear BK316
              clear HB
              have HO_8 := n0_
              have BK281 := n1_
              have BK282 := n2_
              have BK283 := n3_
              have BK304 := n4_
              have BK316 := n5_
              have HB := n6_
              clear n0_ n1_ n2_ n3_ n4_ n5_ n6_
              (try clear hb)
              (try clear hb2)
              (try clear hk)
              (try clear hi)
              refine hK.out _ _ ⟨(zqe BK281.out 0).trans rfl, (zqe BK281.out 1).trans rfl, (zqe BK281.out 2).trans rfl, (zqe BK281.out 3).trans rfl, (zqe BK283.out 0).trans rfl, (zqe BK283.out 1).trans rfl, (zqe BK283.out 2).trans rfl, (zqe BK283.out 3).trans rfl, (zqe BK283.out 4).trans rfl, (zqe BK283.out 5).trans rfl, (zqe BK283.out 6).trans rfl, (zqe BK283.out 7).trans rfl, HS12_⟩ (fun hHeld => ?_)
              clear hK K
              refine norm_ (a' := ?_) ?_ ?_
              rotate_left
              ·
               show Act.put _ (some 78) _ = _
               simp only [Act.put, List.setIfInBounds_toArray, List.set_cons_zero, List.set_cons_succ, i64_w, i32_w]
               rfl
              refine zqp 7 (some 71) (zqB 15 2303) (any_of HT_.out (by kernel_rfl)) (h := ?_)
              refine zqp 8 (some 79) (zqB 15 2559) (any_of HT_.out (by kernel_rfl)) (h := ?_)
              refine zqp 9 (some 80) (zqB 15 3071) (any_of HT_.out (by kernel_rfl)) (h := ?_)
              refine zqp 10 (some 81) (zqB 15 4095) (any_of HT_.out (by kernel_rfl)) (h := ?_)
              exact norm_ (by simp only [putAll, Act.put, List.setIfInBounds_toArray, List.set_cons_zero, List.set_cons_succ]) (hCont (gb316) _ ⟨hHeld, (by (with_reducible repeat (first | apply Kd.R_alloc | apply Kd.R_drewN | apply Kd.R_drew)); exact HO_8.out), (zqm BK281.out), (zqm BK282.out), (zqm BK283.out), (zqm BK304.out), (zqm BK316.out), GW316.out, GE316.out, NB281_316.out, NB316_281.out, NB282_316.out, NB316_282.out, NB283_316.out, NB316_283.out, NB304_316.out, NB316_304.out, (zqn HB.out)⟩)
            rintro gb316 w84 ⟨hS_, h0_, h1_, h2_, h3_, h4_, h5_, h6_, h7_, h8_, h9_, h10_, h11_, h12_, h13_, h14_, h15_, h16_⟩
            have n0_ : Aside0 (Kd.R (Kd.int .i64) 3 w84 w.heap.size (fun _ => True) (.slice (some ad293) t286.length co67) t286) := ⟨h0_⟩
            have n1_ : Aside0 (w84.heap[gb281]? = some (.cells #[.int .i64 a0_0, .int .i64 a0_1, .int .i64 a0_2, .slice A0_3 l0_3.length c0_3] 26 (0, 0))) := ⟨h1_⟩
            have n2_ : Aside0 (w84.heap[gb282]? = some (.cells #[.int .i64 a1_0, .int .i64 a1_1, .int .i64 a1_2, .int .i64 a1_3, .int .i64 a1_4, .int .u64 a1_5, .int .u64 a1_6, .int .u64 a1_7] 40 (0, 0))) := ⟨h2_⟩
            have n3_ : Aside0 (w84.heap[gb283]? = some (.cells #[.int .i64 a2_0, .int .i64 a2_1, .int .i64 a2_2, .int .i64 a2_3, .int .i64 a2_4, .int .u64 a2_5, .int .u64 a2_6, .int .u64 a2_7] 40 (0, 0))) := ⟨h3_⟩
            have n4_ : Aside0 (w84.heap[gb304]? = some (.cells #[.int .i64 t294, .int .i64 t295, .int .i64 t296, .int .i64 t297, .int .i64 t298, .int .u64 t299, .int .u64 t300, .int .u64 t301] 40 (0, 0))) := ⟨h4_⟩
            have n5_ : Aside0 (w84.heap[gb316]? = some (.cells #[.int .i64 0, .int .i64 0, .int .i64 0, .int .i64 0, .int .i64 0, .int .u64 0, .int .u64 0, .int .u64 0] 40 (0, 0))) := ⟨h5_⟩
            have n6_ : Aside0 (w.heap.size ≤ gb316) := ⟨h6_⟩
            have n7_ : Aside0 (w.heap.size ≤ gb316) := ⟨h7_⟩
            have n8_ : Aside0 (gb281 ≠ gb316) := ⟨h8_⟩
            have n9_ : Aside0 (gb316 ≠ gb281) := ⟨h9_⟩
            have n10_ : Aside0 (gb282 ≠ gb316) := ⟨h10_⟩
            have n11_ : Aside0 (gb316 ≠ gb282) := ⟨h11_⟩
            have n12_ : Aside0 (gb283 ≠ gb316) := ⟨h12_⟩
            have n13_ : Aside0 (gb316 ≠ gb283) := ⟨h13_⟩
            have n14_ : Aside0 (gb304 ≠ gb316) := ⟨h14_⟩
            have n15_ : Aside0 (gb316 ≠ gb304) := ⟨h15_⟩
            have n16_ : Aside0 (Below w.heap.size w w84) := ⟨h16_⟩
            clear HO_8
            clear BK281
            clear BK282
            clear BK283
            clear BK304
            clear HB
            clear h0_ h1_ h2_ h3_ h4_ h5_ h6_ h7_ h8_ h9_ h10_ h11_ h12_ h13_ h14_ h15_ h16_
            have HO_8 := n0_
            have BK281 := n1_
            have BK282 := n2_
            have BK283 := n3_
            have BK304 := n4_
            have BK316 := n5_
            have GW316 := n6_
            have GE316 := n7_
            have NB281_316 := n8_
            have NB316_281 := n9_
            have NB282_316 := n10_
            have NB316_282 := n11_
            have NB283_316 := n12_
            have NB316_283 := n13_
            have NB304_316 := n14_
            have NB316_304 := n15_
            have HB := n16_
            clear n0_ n1_ n2_ n3_ n4_ n5_ n6_ n7_ n8_ n9_ n10_ n11_ n12_ n13_ n14_ n15_ n16_
            have hHeld : w84.cell? ⟨gb281, 0, none⟩ = some (.int .i64 a0_0) ∧ w84.cell? ⟨gb281, 1, none⟩ = some (.int .i64 a0_1) ∧ w84.cell? ⟨gb281, 2, none⟩ = some (.int .i64 a0_2) ∧ w84.cell? ⟨gb281, 3, none⟩ = some (.slice A0_3 l0_3.length c0_3) ∧ w84.cell? ⟨gb283, 0, none⟩ = some (.int .i64 a2_0) ∧ w84.cell? ⟨gb283, 1, none⟩ = some (.int .i64 a2_1) ∧ w84.cell? ⟨gb283, 2, none⟩ = some (.int .i64 a2_2) ∧ w84.cell? ⟨gb283, 3, none⟩ = some (.int .i64 a2_3) ∧ w84.cell? ⟨gb283, 4, none⟩ = some (.int .i64 a2_4) ∧ w84.cell? ⟨gb283, 5, none⟩ = some (.int .u64 a2_5) ∧ w84.cell? ⟨gb283, 6, none⟩ = some (.int .u64 a2_6) ∧ w84.cell? ⟨gb283, 7, none⟩ = some (.int .u64 a2_7) ∧ w84.cell? (ad293.add (x9_2).toNat) = some (.int .i64 (rd t286 x9_2)) := hS_
            refine norm_ (a' := ?_) ?_ ?_
            rotate_left
            ·
             simp only [putAll, Act.put, List.setIfInBounds_toArray, List.set_cons_zero, List.set_cons_succ]
             rfl
            refine one_ (i := 12) (N := none) (zqB 15 8191) rfl rfl (one_of HT_.out (by kernel_rfl)) (by decide) (fun K hK => ?_)
            have hs85 : w84.cell? ⟨gb316, 0, none⟩ = some (.int .i64 0) := (zqe BK316.out 0).trans rfl
            have hfs85 := zqd BK316.out 0
            have hns85_0 := NB281_316.out
            have hns85_1 := NB282_316.out
            have hns85_2 := NB283_316.out
            have hns85_3 := NB304_316.out
            have hms85_0 := NB316_281.out
            have hms85_1 := NB316_282.out
            have hms85_2 := NB316_283.out
            have hms85_3 := NB316_304.out
            have hs86 : w84.cell? ⟨gb316, 1, none⟩ = some (.int .i64 0) := (zqe BK316.out 1).trans rfl
            have hfs86 := zqd BK316.out 1
            have hns86_0 := NB281_316.out
            have hns86_1 := NB282_316.out
            have hns86_2 := NB283_316.out
            have hns86_3 := NB304_316.out
            have hms86_0 := NB316_281.out
            have hms86_1 := NB316_282.out
            have hms86_2 := NB316_283.out
            have hms86_3 := NB316_304.out
            have hs87 : w84.cell? ⟨gb316, 2, none⟩ = some (.int .i64 0) := (zqe BK316.out 2).trans rfl
            have hfs87 := zqd BK316.out 2
            have hns87_0 := NB281_316.out
            have hns87_1 := NB282_316.out
            have hns87_2 := NB283_316.out
            have hns87_3 := NB304_316.out
            have hms87_0 := NB316_281.out
            have hms87_1 := NB316_282.out
            have hms87_2 := NB316_283.out
            have hms87_3 := NB316_304.out
            have hs88 : w84.cell? ⟨gb316, 3, none⟩ = some (.int .i64 0) := (zqe BK316.out 3).trans rfl
            have hfs88 := zqd BK316.out 3
            have hns88_0 := NB281_316.out
            have hns88_1 := NB282_316.out
            have hns88_2 := NB283_316.out
            have hns88_3 := NB304_316.out
            have hms88_0 := NB316_281.out
            have hms88_1 := NB316_282.out
            have hms88_2 := NB316_283.out
            have hms88_3 := NB316_304.out
            have hs89 : w84.cell? ⟨gb316, 4, none⟩ = some (.int .i64 0) := (zqe BK316.out 4).trans rfl
            have hfs89 := zqd BK316.out 4
            have hns89_0 := NB281_316.out
            have hns89_1 := NB282_316.out
            have hns89_2 := NB283_316.out
            have hns89_3 := NB304_316.out
            have hms89_0 := NB316_281.out
            have hms89_1 := NB316_282.out
            have hms89_2 := NB316_283.out
            have hms89_3 := NB316_304.out
            have hs90 : w84.cell? ⟨gb316, 5, none⟩ = some (.int .u64 0) := (zqe BK316.out 5).trans rfl
            have hfs90 := zqd BK316.out 5
            have hns90_0 := NB281_316.out
            have hns90_1 := NB282_316.out
            have hns90_2 := NB283_316.out
            have hns90_3 := NB304_316.out
            have hms90_0 := NB316_281.out
            have hms90_1 := NB316_282.out
            have hms90_2 := NB316_283.out
            have hms90_3 := NB316_304.out
            have hs91 : w84.cell? ⟨gb316, 6, none⟩ = some (.int .u64 0) := (zqe BK316.out 6).trans rfl
            have hfs91 := zqd BK316.out 6
            have hns91_0 := NB281_316.out
            have hns91_1 := NB282_316.out
            have hns91_2 := NB283_316.out
            have hns91_3 := NB304_316.out
            have hms91_0 := NB316_281.out
            have hms91_1 := NB316_282.out
            have hms91_2 := NB316_283.out
            have hms91_3 := NB316_304.out
            have hs92 : w84.cell? ⟨gb316, 7, none⟩ = some (.int .u64 0) := (zqe BK316.out 7).trans rfl
            have hfs92 := zqd BK316.out 7
            have hns92_0 := NB281_316.out
            have hns92_1 := NB282_316.out
            have hns92_2 := NB283_316.out
            have hns92_3 := NB304_316.out
            have hms92_0 := NB316_281.out
            have hms92_1 := NB316_282.out
            have hms92_2 := NB316_283.out
            have hms92_3 := NB316_304.out
            refine skip_ (w1 := ?_) (by rfl) rfl ?_ ?_
            rotate_left
            ·
             go_simp
             rfl
            refine hK.out _ _ ⟨((zqk NB281_316.out).trans (((zqk NB281_316.out).trans (((zqk NB281_316.out).trans (((zqk NB281_316.out).trans (((zqk NB281_316.out).trans (((zqk NB281_316.out).trans (((zqk NB281_316.out).trans (((zqk NB281_316.out).trans (hHeld.1)))))))))))))))), ((zqk NB281_316.out).trans (((zqk NB281_316.out).trans (((zqk NB281_316.out).trans (((zqk NB281_316.out).trans (((zqk NB281_316.out).trans (((zqk NB281_316.out).trans (((zqk NB281_316.out).trans (((zqk NB281_316.out).trans (hHeld.2.1)))))))))))))))), ((zqk NB281_316.out).trans (((zqk NB281_316.out).trans (((zqk NB281_316.out).trans (((zqk NB281_316.out).trans (((zqk NB281_316.out).trans (((zqk NB281_316.out).trans (((zqk NB281_316.out).trans (((zqk NB281_316.out).trans (hHeld.2.2.1)))))))))))))))), ((zqk NB281_316.out).trans (((zqk NB281_316.out).trans (((zqk NB281_316.out).trans (((zqk NB281_316.out).trans (((zqk NB281_316.out).trans (((zqk NB281_316.out).trans (((zqk NB281_316.out).trans (((zqk NB281_316.out).trans (hHeld.2.2.2.1)))))))))))))))), ((zqk NB283_316.out).trans (((zqk NB283_316.out).trans (((zqk NB283_316.out).trans (((zqk NB283_316.out).trans (((zqk NB283_316.out).trans (((zqk NB283_316.out).trans (((zqk NB283_316.out).trans (((zqk NB283_316.out).trans (hHeld.2.2.2.2.1)))))))))))))))), ((zqk NB283_316.out).trans (((zqk NB283_316.out).trans (((zqk NB283_316.out).trans (((zqk NB283_316.out).trans (((zqk NB283_316.out).trans (((zqk NB283_316.out).trans (((zqk NB283_316.out).trans (((zqk NB283_316.out).trans (hHeld.2.2.2.2.2.1)))))))))))))))), ((zqk NB283_316.out).trans (((zqk NB283_316.out).trans (((zqk NB283_316.out).trans (((zqk NB283_316.out).trans (((zqk NB283_316.out).trans (((zqk NB283_316.out).trans (((zqk NB283_316.out).trans (((zqk NB283_316.out).trans (hHeld.2.2.2.2.2.2.1)))))))))))))))), ((zqk NB283_316.out).trans (((zqk NB283_316.out).trans (((zqk NB283_316.out).trans (((zqk NB283_316.out).trans (((zqk NB283_316.out).trans (((zqk NB283_316.out).trans (((zqk NB283_316.out).trans (((zqk NB283_316.out).trans (hHeld.2.2.2.2.2.2.2.1)))))))))))))))), ((zqk NB283_316.out).trans (((zqk NB283_316.out).trans (((zqk NB283_316.out).trans (((zqk NB283_316.out).trans (((zqk NB283_316.out).trans (((zqk NB283_316.out).trans (((zqk NB283_316.out).trans (((zqk NB283_316.out).trans (hHeld.2.2.2.2.2.2.2.2.1)))))))))))))))), ((zqk NB283_316.out).trans (((zqk NB283_316.out).trans (((zqk NB283_316.out).trans (((zqk NB283_316.out).trans (((zqk NB283_316.out).trans (((zqk NB283_316.out).trans (((zqk NB283_316.out).trans (((zqk NB283_316.out).trans (hHeld.2.2.2.2.2.2.2.2.2.1)))))))))))))))), ((zqk NB283_316.out).trans (((zqk NB283_316.out).trans (((zqk NB283_316.out).trans (((zqk NB283_316.out).trans (((zqk NB283_316.out).trans (((zqk NB283_316.out).trans (((zqk NB283_316.out).trans (((zqk NB283_316.out).trans (hHeld.2.2.2.2.2.2.2.2.2.2.1)))))))))))))))), ((zqk NB283_316.out).trans (((zqk NB283_316.out).trans (((zqk NB283_316.out).trans (((zqk NB283_316.out).trans (((zqk NB283_316.out).trans (((zqk NB283_316.out).trans (((zqk NB283_316.out).trans (((zqk NB283_316.out).trans (hHeld.2.2.2.2.2.2.2.2.2.2.2.1)))))))))))))))), ((zqk (by first | exact Kd.own_blk (Kd.R_ne HO_8.out BK316.out (by decide)) | (rw [add_block]; exact Kd.own_blk (Kd.R_ne HO_8.out BK316.out (by decide))) | (show (Addr.add _ _).block ≠ _; rw [add_block]; exact Kd.own_blk (Kd.R_ne HO_8.out BK316.out (by decide))) | (dsimp only; exact Kd.own_blk (Kd.R_ne HO_8.out BK316.out (by decide))))).trans (((zqk (by first | exact Kd.own_blk (Kd.R_ne HO_8.out BK316.out (by decide)) | (rw [add_block]; exact Kd.own_blk (Kd.R_ne HO_8.out BK316.out (by decide))) | (show (Addr.add _ _).block ≠ _; rw [add_block]; exact Kd.own_blk (Kd.R_ne HO_8.out BK316.out (by decide))) | (dsimp only; exact Kd.own_blk (Kd.R_ne HO_8.out BK316.out (by decide))))).trans (((zqk (by first | exact Kd.own_blk (Kd.R_ne HO_8.out BK316.out (by decide)) | (rw [add_block]; exact Kd.own_blk (Kd.R_ne HO_8.out BK316.out (by decide))) | (show (Addr.add _ _).block ≠ _; rw [add_block]; exact Kd.own_blk (Kd.R_ne HO_8.out BK316.out (by decide))) | (dsimp only; exact Kd.own_blk (Kd.R_ne HO_8.out BK316.out (by decide))))).trans (((zqk (by first | exact Kd.own_blk (Kd.R_ne HO_8.out BK316.out (by decide)) | (rw [add_block]; exact Kd.own_blk (Kd.R_ne HO_8.out BK316.out (by decide))) | (show (Addr.add _ _).block ≠ _; rw [add_block]; exact Kd.own_blk (Kd.R_ne HO_8.out BK316.out (by decide))) | (dsimp only; exact Kd.own_blk (Kd.R_ne HO_8.out BK316.out (by decide))))).trans (((zqk (by first | exact Kd.own_blk (Kd.R_ne HO_8.out BK316.out (by decide)) | (rw [add_block]; exact Kd.own_blk (Kd.R_ne HO_8.out BK316.out (by decide))) | (show (Addr.add _ _).block ≠ _; rw [add_block]; exact Kd.own_blk (Kd.R_ne HO_8.out BK316.out (by decide))) | (dsimp only; exact Kd.own_blk (Kd.R_ne HO_8.out BK316.out (by decide))))).trans (((zqk (by first | exact Kd.own_blk (Kd.R_ne HO_8.out BK316.out (by decide)) | (rw [add_block]; exact Kd.own_blk (Kd.R_ne HO_8.out BK316.out (by decide))) | (show (Addr.add _ _).block ≠ _; rw [add_block]; exact Kd.own_blk (Kd.R_ne HO_8.out BK316.out (by decide))) | (dsimp only; exact Kd.own_blk (Kd.R_ne HO_8.out BK316.out (by decide))))).trans (((zqk (by first | exact Kd.own_blk (Kd.R_ne HO_8.out BK316.out (by decide)) | (rw [add_block]; exact Kd.own_blk (Kd.R_ne HO_8.out BK316.out (by decide))) | (show (Addr.add _ _).block ≠ _; rw [add_block]; exact Kd.own_blk (Kd.R_ne HO_8.out BK316.out (by decide))) | (dsimp only; exact Kd.own_blk (Kd.R_ne HO_8.out BK316.out (by decide))))).trans (((zqk (by first | exact Kd.own_blk (Kd.R_ne HO_8.out BK316.out (by decide)) | (rw [add_block]; exact Kd.own_blk (Kd.R_ne HO_8.out BK316.out (by decide))) | (show (Addr.add _ _).block ≠ _; rw [add_block]; exact Kd.own_blk (Kd.R_ne HO_8.out BK316.out (by decide))) | (dsimp only; exact Kd.own_blk (Kd.R_ne HO_8.out BK316.out (by decide))))).trans (hHeld.2.2.2.2.2.2.2.2.2.2.2.2))))))))))))))))⟩ (fun hHeld => ?_)
            clear hK K
            refine zqp 13 (some 14) (zqB 15 16383) (any_of HT_.out (by kernel_rfl)) (h := ?_)
            refine zqp 14 (some 15) (zqB 15 32767) (any_of HT_.out (by kernel_rfl)) (h := ?_)
            refine done_ (done_of HT_.out (by kernel_rfl)) ?_
            have hnb93 := NB304_281.out
            have hnc93 := NB281_304.out
            have hnb94 := NB304_282.out
            have hnc94 := NB282_304.out
            have hnb95 := NB304_283.out
            have hnc95 := NB283_304.out
            have hnb96 := NB304_316.out
            have hnc96 := NB316_304.out
            obtain ⟨hcz97_0, hcz97_1, hcz97_2, hcz97_3, hcz97_4, hcz97_5, hcz97_6, hcz97_7, hfz97_0, hfz97_1, hfz97_2, hfz97_3, hfz97_4, hfz97_5, hfz97_6, hfz97_7⟩ := zqz8 BK304.out
            have hnb98 := NB316_281.out
            have hnc98 := NB281_316.out
            have hnb99 := NB316_282.out
            have hnc99 := NB282_316.out
            have hnb100 := NB316_283.out
            have hnc100 := NB283_316.out
            obtain ⟨hcz101_0, hcz101_1, hcz101_2, hcz101_3, hcz101_4, hcz101_5, hcz101_6, hcz101_7, hfz101_0, hfz101_1, hfz101_2, hfz101_3, hfz101_4, hfz101_5, hfz101_6, hfz101_7⟩ := zqz8 BK316.out
            try go_wp2_with (first | (go_at_call 21; (with_reducible refine (relax_Covers.calls t294 t295 t296 t297 t298 t299 t300 t301 t306 t307 t308 t309 t310 t311 t312 t313 true _ A65.out).mono ?_); rintro e w102 ⟨rfl, hb⟩; have n0_ := zqi (Kd.R_below (by (with_reducible repeat (first | apply Kd.R_alloc | apply Kd.R_drewN | apply Kd.R_drew)); exact (Kd.R_mono (Kd.R_far (p := ⟨gb316, 7, none⟩) (Kd.R_far (p := ⟨gb316, 6, none⟩) (Kd.R_far (p := ⟨gb316, 5, none⟩) (Kd.R_far (p := ⟨gb316, 4, none⟩) (Kd.R_far (p := ⟨gb316, 3, none⟩) (Kd.R_far (p := ⟨gb316, 2, none⟩) (Kd.R_far (p := ⟨gb316, 1, none⟩) (Kd.R_far (p := ⟨gb316, 0, none⟩) (Kd.R_types HO_8.out BK316.out (by decide)) (fun _ hk => hk.2) (.int .i64 t306)) (fun _ hk => hk.2) (.int .i64 t307)) (fun _ hk => hk.2) (.int .i64 t308)) (fun _ hk => hk.2) (.int .i64 t309)) (fun _ hk => hk.2) (.int .i64 t310)) (fun _ hk => hk.2) (.int .u64 t311)) (fun _ hk => hk.2) (.int .u64 t312)) (fun _ hk => hk.2) (.int .u64 t313)) (fun _ h_ => h_.1))) hb); have n1_ := zqi (blk_below (g := gb281) (o := .cells #[.int .i64 a0_0, .int .i64 a0_1, .int .i64 a0_2, .slice A0_3 l0_3.length c0_3] 26 (0, 0)) (by (with_reducible repeat (first | apply zqa | apply zqb | apply zqc)); refine blk_far ?_ NB281_316.out _; (with_reducible repeat (first | apply zqa | apply zqb | apply zqc)); refine blk_far ?_ NB281_316.out _; (with_reducible repeat (first | apply zqa | apply zqb | apply zqc)); refine blk_far ?_ NB281_316.out _; (with_reducible repeat (first | apply zqa | apply zqb | apply zqc)); refine blk_far ?_ NB281_316.out _; (with_reducible repeat (first | apply zqa | apply zqb | apply zqc)); refine blk_far ?_ NB281_316.out _; (with_reducible repeat (first | apply zqa | apply zqb | apply zqc)); refine blk_far ?_ NB281_316.out _; (with_reducible repeat (first | apply zqa | apply zqb | apply zqc)); refine blk_far ?_ NB281_316.out _; (with_reducible repeat (first | apply zqa | apply zqb | apply zqc)); refine blk_far ?_ NB281_316.out _; (with_reducible repeat (first | apply zqa | apply zqb | apply zqc)); exact BK281.out) hb); have n2_ := zqi (blk_below (g := gb282) (o := .cells #[.int .i64 a1_0, .int .i64 a1_1, .int .i64 a1_2, .int .i64 a1_3, .int .i64 a1_4, .int .u64 a1_5, .int .u64 a1_6, .int .u64 a1_7] 40 (0, 0)) (by (with_reducible repeat (first | apply zqa | apply zqb | apply zqc)); refine blk_far ?_ NB282_316.out _; (with_reducible repeat (first | apply zqa | apply zqb | apply zqc)); refine blk_far ?_ NB282_316.out _; (with_reducible repeat (first | apply zqa | apply zqb | apply zqc)); refine blk_far ?_ NB282_316.out _; (with_reducible repeat (first | apply zqa | apply zqb | apply zqc)); refine blk_far ?_ NB282_316.out _; (with_reducible repeat (first | apply zqa | apply zqb | apply zqc)); refine blk_far ?_ NB282_316.out _; (with_reducible repeat (first | apply zqa | apply zqb | apply zqc)); refine blk_far ?_ NB282_316.out _; (with_reducible repeat (first | apply zqa | apply zqb | apply zqc)); refine blk_far ?_ NB282_316.out _; (with_reducible repeat (first | apply zqa | apply zqb | apply zqc)); refine blk_far ?_ NB282_316.out _; (with_reducible repeat (first | apply zqa | apply zqb | apply zqc)); exact BK282.out) hb); have n3_ := zqi (blk_below (g := gb283) (o := .cells #[.int .i64 a2_0, .int .i64 a2_1, .int .i64 a2_2, .int .i64 a2_3, .int .i64 a2_4, .int .u64 a2_5, .int .u64 a2_6, .int .u64 a2_7] 40 (0, 0)) (by (with_reducible repeat (first | apply zqa | apply zqb | apply zqc)); refine blk_far ?_ NB283_316.out _; (with_reducible repeat (first | apply zqa | apply zqb | apply zqc)); refine blk_far ?_ NB283_316.out _; (with_reducible repeat (first | apply zqa | apply zqb | apply zqc)); refine blk_far ?_ NB283_316.out _; (with_reducible repeat (first | apply zqa | apply zqb | apply zqc)); refine blk_far ?_ NB283_316.out _; (with_reducible repeat (first | apply zqa | apply zqb | apply zqc)); refine blk_far ?_ NB283_316.out _; (with_reducible repeat (first | apply zqa | apply zqb | apply zqc)); refine blk_far ?_ NB283_316.out _; (with_reducible repeat (first | apply zqa | apply zqb | apply zqc)); refine blk_far ?_ NB283_316.out _; (with_reducible repeat (first | apply zqa | apply zqb | apply zqc)); refine blk_far ?_ NB283_316.out _; (with_reducible repeat (first | apply zqa | apply zqb | apply zqc)); exact BK283.out) hb); have n4_ := zqi (blk_below (g := gb304) (o := .cells #[.int .i64 t294, .int .i64 t295, .int .i64 t296, .int .i64 t297, .int .i64 t298, .int .u64 t299, .int .u64 t300, .int .u64 t301] 40 (0, 0)) (by (with_reducible repeat (first | apply zqa | apply zqb | apply zqc)); refine blk_far ?_ NB304_316.out _; (with_reducible repeat (first | apply zqa | apply zqb | apply zqc)); refine blk_far ?_ NB304_316.out _; (with_reducible repeat (first | apply zqa | apply zqb | apply zqc)); refine blk_far ?_ NB304_316.out _; (with_reducible repeat (first | apply zqa | apply zqb | apply zqc)); refine blk_far ?_ NB304_316.out _; (with_reducible repeat (first | apply zqa | apply zqb | apply zqc)); refine blk_far ?_ NB304_316.out _; (with_reducible repeat (first | apply zqa | apply zqb | apply zqc)); refine blk_far ?_ NB304_316.out _; (with_reducible repeat (first | apply zqa | apply zqb | apply zqc)); refine blk_far ?_ NB304_316.out _; (with_reducible repeat (first | apply zqa | apply zqb | apply zqc)); refine blk_far ?_ NB304_316.out _; (with_reducible repeat (first | apply zqa | apply zqb | apply zqc)); exact BK304.out) hb); have n5_ := zqi (blk_below (g := gb316) (o := .cells #[.int .i64 t306, .int .i64 t307, .int .i64 t308, .int .i64 t309, .int .i64 t310, .int .u64 t311, .int .u64 t312, .int .u64 t313] 40 (0, 0)) (by (with_reducible repeat (first | apply zqa | apply zqb | apply zqc)); refine blk_put (cs := #[.int .i64 t306, .int .i64 t307, .int .i64 t308, .int .i64 t309, .int .i64 t310, .int .u64 t311, .int .u64 t312, .int .u64 0]) ?_ 7 _ rfl; (with_reducible repeat (first | apply zqa | apply zqb | apply zqc)); refine blk_put (cs := #[.int .i64 t306, .int .i64 t307, .int .i64 t308, .int .i64 t309, .int .i64 t310, .int .u64 t311, .int .u64 0, .int .u64 0]) ?_ 6 _ rfl; (with_reducible repeat (first | apply zqa | apply zqb | apply zqc)); refine blk_put (cs := #[.int .i64 t306, .int .i64 t307, .int .i64 t308, .int .i64 t309, .int .i64 t310, .int .u64 0, .int .u64 0, .int .u64 0]) ?_ 5 _ rfl; (with_reducible repeat (first | apply zqa | apply zqb | apply zqc)); refine blk_put (cs := #[.int .i64 t306, .int .i64 t307, .int .i64 t308, .int .i64 t309, .int .i64 0, .int .u64 0, .int .u64 0, .int .u64 0]) ?_ 4 _ rfl; (with_reducible repeat (first | apply zqa | apply zqb | apply zqc)); refine blk_put (cs := #[.int .i64 t306, .int .i64 t307, .int .i64 t308, .int .i64 0, .int .i64 0, .int .u64 0, .int .u64 0, .int .u64 0]) ?_ 3 _ rfl; (with_reducible repeat (first | apply zqa | apply zqb | apply zqc)); refine blk_put (cs := #[.int .i64 t306, .int .i64 t307, .int .i64 0, .int .i64 0, .int .i64 0, .int .u64 0, .int .u64 0, .int .u64 0]) ?_ 2 _ rfl; (with_reducible repeat (first | apply zqa | apply zqb | apply zqc)); refine blk_put (cs := #[.int .i64 t306, .int .i64 0, .int .i64 0, .int .i64 0, .int .i64 0, .int .u64 0, .int .u64 0, .int .u64 0]) ?_ 1 _ rfl; (with_reducible repeat (first | apply zqa | apply zqb | apply zqc)); refine blk_put (cs := #[.int .i64 0, .int .i64 0, .int .i64 0, .int .i64 0, .int .i64 0, .int .u64 0, .int .u64 0, .int .u64 0]) ?_ 0 _ rfl; (with_reducible repeat (first | apply zqa | apply zqb | apply zqc)); exact BK316.out) hb); have n6_ := zqi (below_step (zqn HB.out) hb); clear HO_8; clear BK281; clear BK282; clear BK283; clear BK304; clear BK316; clear HB; have HO_8 := n0_; have BK281 := n1_; have BK282 := n2_; have BK283 := n3_; have BK304 := n4_; have BK316 := n5_; have HB := n6_; clear n0_ n1_ n2_ n3_ n4_ n5_ n6_; (try clear hb); (try clear hb2); (try clear hk); (try clear hi)))
            go_roundg k2
            case measure => have := HJ4.out; have := HK2.out; omega
            case rel => exact ⟨(wrap64 (x9_2 + 1)), (by first | rfl | (simp; done) | (simp [*]; done)), H', ⟨by have := HJ4.out; have := HK2.out; omega⟩, ⟨by (with_reducible repeat (first | apply Kd.R_alloc | apply Kd.R_drewN | apply Kd.R_drew)); exact HO_8.out⟩, ⟨by (with_reducible repeat (first | apply zqa | apply zqb | apply zqc)); exact BK281.out⟩, ⟨by (with_reducible repeat (first | apply zqa | apply zqb | apply zqc)); exact BK282.out⟩, ⟨by (with_reducible repeat (first | apply zqa | apply zqb | apply zqc)); exact BK283.out⟩, ⟨by repeat (first | (with_reducible first | exact HB.out | apply zqg | apply zqf | apply zqh | refine below_set ?_ GE281.out | refine below_set ?_ GE282.out | refine below_set ?_ GE283.out | refine below_set ?_ GE304.out | refine below_set ?_ GE316.out) | exact HB.out)⟩⟩
           ·
            replace c66 := Bool.eq_false_iff.mpr c66
            subst c66
            have H1 : (none) = some r := by rw [if_neg (show ¬ (false = true) by decide)] at H; exact H
            clear H
            have H := H1
            clear H1
            exact absurd H (by simp)
          ·
           rw [if_neg c64] at H
           exact absurd H (by simp)
         ·
          replace c63 := Bool.eq_false_iff.mpr c63
          subst c63
          have H1 : (none) = some r := by rw [if_neg (show ¬ (false = true) by decide)] at H; exact H
          clear H
          have H := H1
          clear H1
          exact absurd H (by simp)
        ·
         replace c62 := Bool.eq_false_iff.mpr c62
         subst c62
         have H1 : (none) = some r := by rw [if_neg (show ¬ (false = true) by decide)] at H; exact H
         clear H
         have H := H1
         clear H1
         exact absurd H (by simp)
       ·
        rw [if_neg c59] at H
        exact absurd H (by simp)
      ·
       rw [if_neg c58] at H
       have c58b0 : decide (x9_2 < (t286.length : Int)) = false := decide_eq_false c58
       clear c58
       replace H := Option.bind_eq_some_iff.mp H
       obtain ⟨⟨t289, t290⟩, A1030, H⟩ := H
       replace H : ((state_End.f k2 a0_0 a0_1 a0_2 l0_3 a2_0 a2_1 a2_2 a2_3 a2_4 a2_5 a2_6 a2_7).bind fun bt291 => (if bt291.2 = true then (if t290 = true then (if t289 = bt291.1 then (some true) else (some (a0_0 == 0))) else (some (a0_0 == 0))) else (some true))) = some r := H
       have A103 := zqi A1030
       clear A1030
       replace H := Option.bind_eq_some_iff.mp H
       obtain ⟨⟨t291, t292⟩, A1040, H⟩ := H
       replace H : (if t292 = true then (if t290 = true then (if t289 = t291 then (some true) else (some (a0_0 == 0))) else (some (a0_0 == 0))) else (some true)) = some r := H
       have A104 := zqi A1040
       clear A1040
       by_cases c105 : t292 = true
       ·
        subst c105
        have H1 : (if t290 = true then (if t289 = t291 then (some true) else (some (a0_0 == 0))) else (some (a0_0 == 0))) = some r := by rw [if_pos rfl] at H; exact H
        clear H
        have H := H1
        clear H1
        by_cases c106 : t290 = true
        ·
         subst c106
         have H1 : (if t289 = t291 then (some true) else (some (a0_0 == 0))) = some r := by rw [if_pos rfl] at H; exact H
         clear H
         have H := H1
         clear H1
         by_cases c107 : t289 = t291
         ·
          rw [if_pos c107] at H
          have c107b0 : (t289 == t291) = true := beq_iff_eq.mpr c107
          have c107b1 : (t289 != t291) = false := bne_eq_false_iff_eq.mpr c107
          clear c107
          obtain rfl := Option.some.inj H
          obtain ⟨Ao108, co108, eo108⟩ := Kd.R_slice HO_8.out
          subst eo108
          have hnb109 := NB281_282.out
          have hnc109 := NB282_281.out
          have hnb110 := NB281_283.out
          have hnc110 := NB283_281.out
          obtain ⟨hcz111_0, hcz111_1, hcz111_2, hcz111_3, hfz111_0, hfz111_1, hfz111_2, hfz111_3⟩ := zqz4 BK281.out
          have hnb112 := NB282_283.out
          have hnc112 := NB283_282.out
          obtain ⟨hcz113_0, hcz113_1, hcz113_2, hcz113_3, hcz113_4, hcz113_5, hcz113_6, hcz113_7, hfz113_0, hfz113_1, hfz113_2, hfz113_3, hfz113_4, hfz113_5, hfz113_6, hfz113_7⟩ := zqz8 BK282.out
          go_wp2_with (first | ((with_reducible refine gate_callee (f := 23) rfl ?_); refine goesL_ (some 102) rfl rfl Try.func23 (by kernel_rfl) rfl #[.agg #[.int .i64 a0_0, .int .i64 a0_1, .int .i64 a0_2, .slice A0_3 l0_3.length c0_3], .agg #[.int .i64 a1_0, .int .i64 a1_1, .int .i64 a1_2, .int .i64 a1_3, .int .i64 a1_4, .int .u64 a1_5, .int .u64 a1_6, .int .u64 a1_7]] rfl (by (try simp only [List.map_toArray, List.map_cons, List.map_nil]); first | done | rfl | (simp only [List.length_drop, List.length_take]; rfl)) ?_; (with_reducible refine (state_End.calls k2 a0_0 a0_1 a0_2 _ _ l0_3 a1_0 a1_1 a1_2 a1_3 a1_4 a1_5 a1_6 a1_7 t289 true _ ?side1 ?side2 A103.out).mono ?_); (case side1 => repeat (first | exact (Kd.C_below HR0_3.out HB.out) | (with_reducible refine Kd.C_alloc ?_ _) | (with_reducible refine Kd.C_drewN ?_ _) | (with_reducible refine Kd.C_drew ?_))); (case side2 => exact HC0_3.out); rintro e w114 ⟨rfl, hb⟩; refine ⟨_, rfl, ?_⟩; have n0_ := zqi (Kd.R_below (by (with_reducible repeat (first | apply Kd.R_alloc | apply Kd.R_drewN | apply Kd.R_drew)); exact HO_8.out) hb); have n1_ := zqi (zqy BK281.out hb); have n2_ := zqi (zqy BK282.out hb); have n3_ := zqi (zqy BK283.out hb); have n4_ := zqi (below_step (zqn HB.out) hb); clear HO_8; clear BK281; clear BK282; clear BK283; clear HB; have HO_8 := n0_; have BK281 := n1_; have BK282 := n2_; have BK283 := n3_; have HB := n4_; clear n0_ n1_ n2_ n3_ n4_; (try clear hb); (try clear hb2); (try clear hk); (try clear hi); obtain ⟨hcz115_0, hcz115_1, hcz115_2, hcz115_3, hfz115_0, hfz115_1, hfz115_2, hfz115_3⟩ := zqz4 BK281.out; obtain ⟨hcz116_0, hcz116_1, hcz116_2, hcz116_3, hcz116_4, hcz116_5, hcz116_6, hcz116_7, hfz116_0, hfz116_1, hfz116_2, hfz116_3, hfz116_4, hfz116_5, hfz116_6, hfz116_7⟩ := zqz8 BK283.out) | ((with_reducible refine gate_callee (f := 23) rfl ?_); refine goesL_ (some 108) rfl rfl Try.func23 (by kernel_rfl) rfl #[.agg #[.int .i64 a0_0, .int .i64 a0_1, .int .i64 a0_2, .slice A0_3 l0_3.length c0_3], .agg #[.int .i64 a2_0, .int .i64 a2_1, .int .i64 a2_2, .int .i64 a2_3, .int .i64 a2_4, .int .u64 a2_5, .int .u64 a2_6, .int .u64 a2_7]] rfl (by (try simp only [List.map_toArray, List.map_cons, List.map_nil]); first | done | rfl | (simp only [List.length_drop, List.length_take]; rfl)) ?_; (with_reducible refine (state_End.calls k2 a0_0 a0_1 a0_2 _ _ l0_3 a2_0 a2_1 a2_2 a2_3 a2_4 a2_5 a2_6 a2_7 t291 true _ ?side1 ?side2 A104.out).mono ?_); (case side1 => repeat (first | exact (Kd.C_below HR0_3.out HB.out) | (with_reducible refine Kd.C_alloc ?_ _) | (with_reducible refine Kd.C_drewN ?_ _) | (with_reducible refine Kd.C_drew ?_))); (case side2 => exact HC0_3.out); rintro e w117 ⟨rfl, hb⟩; refine ⟨_, rfl, ?_⟩; have n0_ := zqi (Kd.R_below (by (with_reducible repeat (first | apply Kd.R_alloc | apply Kd.R_drewN | apply Kd.R_drew)); exact HO_8.out) hb); have n1_ := zqi (zqy BK281.out hb); have n2_ := zqi (zqy BK282.out hb); have n3_ := zqi (zqy BK283.out hb); have n4_ := zqi (below_step (zqn HB.out) hb); clear HO_8; clear BK281; clear BK282; clear BK283; clear HB; have HO_8 := n0_; have BK281 := n1_; have BK282 := n2_; have BK283 := n3_; have HB := n4_; clear n0_ n1_ n2_ n3_ n4_; (try clear hb); (try clear hb2); (try clear hk); (try clear hi)))
          go_ret
          exact ⟨by first | rfl | (simp [errW_none, errW_some] <;> rfl) | (simp [*, errW_none, errW_some] <;> rfl), by repeat (first | (with_reducible first | exact HB.out | apply zqg | apply zqf | apply zqh | refine below_set ?_ GE281.out | refine below_set ?_ GE282.out | refine below_set ?_ GE283.out) | exact HB.out)⟩
         ·
          rw [if_neg c107] at H
          have c107b0 : (t289 == t291) = false := beq_eq_false_iff_ne.mpr c107
          have c107b1 : (t289 != t291) = true := bne_iff_ne.mpr c107
          obtain rfl := Option.some.inj H
          obtain ⟨Ao118, co118, eo118⟩ := Kd.R_slice HO_8.out
          subst eo118
          have hnb119 := NB281_282.out
          have hnc119 := NB282_281.out
          have hnb120 := NB281_283.out
          have hnc120 := NB283_281.out
          obtain ⟨hcz121_0, hcz121_1, hcz121_2, hcz121_3, hfz121_0, hfz121_1, hfz121_2, hfz121_3⟩ := zqz4 BK281.out
          have hnb122 := NB282_283.out
          have hnc122 := NB283_282.out
          obtain ⟨hcz123_0, hcz123_1, hcz123_2, hcz123_3, hcz123_4, hcz123_5, hcz123_6, hcz123_7, hfz123_0, hfz123_1, hfz123_2, hfz123_3, hfz123_4, hfz123_5, hfz123_6, hfz123_7⟩ := zqz8 BK282.out
          go_wp2_with (first | ((with_reducible refine gate_callee (f := 23) rfl ?_); refine goesL_ (some 102) rfl rfl Try.func23 (by kernel_rfl) rfl #[.agg #[.int .i64 a0_0, .int .i64 a0_1, .int .i64 a0_2, .slice A0_3 l0_3.length c0_3], .agg #[.int .i64 a1_0, .int .i64 a1_1, .int .i64 a1_2, .int .i64 a1_3, .int .i64 a1_4, .int .u64 a1_5, .int .u64 a1_6, .int .u64 a1_7]] rfl (by (try simp only [List.map_toArray, List.map_cons, List.map_nil]); first | done | rfl | (simp only [List.length_drop, List.length_take]; rfl)) ?_; (with_reducible refine (state_End.calls k2 a0_0 a0_1 a0_2 _ _ l0_3 a1_0 a1_1 a1_2 a1_3 a1_4 a1_5 a1_6 a1_7 t289 true _ ?side1 ?side2 A103.out).mono ?_); (case side1 => repeat (first | exact (Kd.C_below HR0_3.out HB.out) | (with_reducible refine Kd.C_alloc ?_ _) | (with_reducible refine Kd.C_drewN ?_ _) | (with_reducible refine Kd.C_drew ?_))); (case side2 => exact HC0_3.out); rintro e w124 ⟨rfl, hb⟩; refine ⟨_, rfl, ?_⟩; have n0_ := zqi (Kd.R_below (by (with_reducible repeat (first | apply Kd.R_alloc | apply Kd.R_drewN | apply Kd.R_drew)); exact HO_8.out) hb); have n1_ := zqi (zqy BK281.out hb); have n2_ := zqi (zqy BK282.out hb); have n3_ := zqi (zqy BK283.out hb); have n4_ := zqi (below_step (zqn HB.out) hb); clear HO_8; clear BK281; clear BK282; clear BK283; clear HB; have HO_8 := n0_; have BK281 := n1_; have BK282 := n2_; have BK283 := n3_; have HB := n4_; clear n0_ n1_ n2_ n3_ n4_; (try clear hb); (try clear hb2); (try clear hk); (try clear hi); obtain ⟨hcz125_0, hcz125_1, hcz125_2, hcz125_3, hfz125_0, hfz125_1, hfz125_2, hfz125_3⟩ := zqz4 BK281.out; obtain ⟨hcz126_0, hcz126_1, hcz126_2, hcz126_3, hcz126_4, hcz126_5, hcz126_6, hcz126_7, hfz126_0, hfz126_1, hfz126_2, hfz126_3, hfz126_4, hfz126_5, hfz126_6, hfz126_7⟩ := zqz8 BK283.out) | ((with_reducible refine gate_callee (f := 23) rfl ?_); refine goesL_ (some 108) rfl rfl Try.func23 (by kernel_rfl) rfl #[.agg #[.int .i64 a0_0, .int .i64 a0_1, .int .i64 a0_2, .slice A0_3 l0_3.length c0_3], .agg #[.int .i64 a2_0, .int .i64 a2_1, .int .i64 a2_2, .int .i64 a2_3, .int .i64 a2_4, .int .u64 a2_5, .int .u64 a2_6, .int .u64 a2_7]] rfl (by (try simp only [List.map_toArray, List.map_cons, List.map_nil]); first | done | rfl | (simp only [List.length_drop, List.length_take]; rfl)) ?_; (with_reducible refine (state_End.calls k2 a0_0 a0_1 a0_2 _ _ l0_3 a2_0 a2_1 a2_2 a2_3 a2_4 a2_5 a2_6 a2_7 t291 true _ ?side1 ?side2 A104.out).mono ?_); (case side1 => repeat (first | exact (Kd.C_below HR0_3.out HB.out) | (with_reducible refine Kd.C_alloc ?_ _) | (with_reducible refine Kd.C_drewN ?_ _) | (with_reducible refine Kd.C_drew ?_))); (case side2 => exact HC0_3.out); rintro e w127 ⟨rfl, hb⟩; refine ⟨_, rfl, ?_⟩; have n0_ := zqi (Kd.R_below (by (with_reducible repeat (first | apply Kd.R_alloc | apply Kd.R_drewN | apply Kd.R_drew)); exact HO_8.out) hb); have n1_ := zqi (zqy BK281.out hb); have n2_ := zqi (zqy BK282.out hb); have n3_ := zqi (zqy BK283.out hb); have n4_ := zqi (below_step (zqn HB.out) hb); clear HO_8; clear BK281; clear BK282; clear BK283; clear HB; have HO_8 := n0_; have BK281 := n1_; have BK282 := n2_; have BK283 := n3_; have HB := n4_; clear n0_ n1_ n2_ n3_ n4_; (try clear hb); (try clear hb2); (try clear hk); (try clear hi); obtain ⟨hcz128_0, hcz128_1, hcz128_2, hcz128_3, hfz128_0, hfz128_1, hfz128_2, hfz128_3⟩ := zqz4 BK281.out))
          go_ret
          exact ⟨by first | rfl | (simp [errW_none, errW_some] <;> rfl) | (simp [*, errW_none, errW_some] <;> rfl), by repeat (first | (with_reducible first | exact HB.out | apply zqg | apply zqf | apply zqh | refine below_set ?_ GE281.out | refine below_set ?_ GE282.out | refine below_set ?_ GE283.out) | exact HB.out)⟩
        ·
         replace c106 := Bool.eq_false_iff.mpr c106
         subst c106
         have H1 : (some (a0_0 == 0)) = some r := by rw [if_neg (show ¬ (false = true) by decide)] at H; exact H
         clear H
         have H := H1
         clear H1
         obtain rfl := Option.some.inj H
         obtain ⟨Ao129, co129, eo129⟩ := Kd.R_slice HO_8.out
         subst eo129
         have hnb130 := NB281_282.out
         have hnc130 := NB282_281.out
         have hnb131 := NB281_283.out
         have hnc131 := NB283_281.out
         obtain ⟨hcz132_0, hcz132_1, hcz132_2, hcz132_3, hfz132_0, hfz132_1, hfz132_2, hfz132_3⟩ := zqz4 BK281.out
         have hnb133 := NB282_283.out
         have hnc133 := NB283_282.out
         obtain ⟨hcz134_0, hcz134_1, hcz134_2, hcz134_3, hcz134_4, hcz134_5, hcz134_6, hcz134_7, hfz134_0, hfz134_1, hfz134_2, hfz134_3, hfz134_4, hfz134_5, hfz134_6, hfz134_7⟩ := zqz8 BK282.out
         go_wp2_with (first | ((with_reducible refine gate_callee (f := 23) rfl ?_); refine goesL_ (some 102) rfl rfl Try.func23 (by kernel_rfl) rfl #[.agg #[.int .i64 a0_0, .int .i64 a0_1, .int .i64 a0_2, .slice A0_3 l0_3.length c0_3], .agg #[.int .i64 a1_0, .int .i64 a1_1, .int .i64 a1_2, .int .i64 a1_3, .int .i64 a1_4, .int .u64 a1_5, .int .u64 a1_6, .int .u64 a1_7]] rfl (by (try simp only [List.map_toArray, List.map_cons, List.map_nil]); first | done | rfl | (simp only [List.length_drop, List.length_take]; rfl)) ?_; (with_reducible refine (state_End.calls k2 a0_0 a0_1 a0_2 _ _ l0_3 a1_0 a1_1 a1_2 a1_3 a1_4 a1_5 a1_6 a1_7 t289 false _ ?side1 ?side2 A103.out).mono ?_); (case side1 => repeat (first | exact (Kd.C_below HR0_3.out HB.out) | (with_reducible refine Kd.C_alloc ?_ _) | (with_reducible refine Kd.C_drewN ?_ _) | (with_reducible refine Kd.C_drew ?_))); (case side2 => exact HC0_3.out); rintro e w135 ⟨rfl, hb⟩; refine ⟨_, rfl, ?_⟩; have n0_ := zqi (Kd.R_below (by (with_reducible repeat (first | apply Kd.R_alloc | apply Kd.R_drewN | apply Kd.R_drew)); exact HO_8.out) hb); have n1_ := zqi (zqy BK281.out hb); have n2_ := zqi (zqy BK282.out hb); have n3_ := zqi (zqy BK283.out hb); have n4_ := zqi (below_step (zqn HB.out) hb); clear HO_8; clear BK281; clear BK282; clear BK283; clear HB; have HO_8 := n0_; have BK281 := n1_; have BK282 := n2_; have BK283 := n3_; have HB := n4_; clear n0_ n1_ n2_ n3_ n4_; (try clear hb); (try clear hb2); (try clear hk); (try clear hi); obtain ⟨hcz136_0, hcz136_1, hcz136_2, hcz136_3, hfz136_0, hfz136_1, hfz136_2, hfz136_3⟩ := zqz4 BK281.out; obtain ⟨hcz137_0, hcz137_1, hcz137_2, hcz137_3, hcz137_4, hcz137_5, hcz137_6, hcz137_7, hfz137_0, hfz137_1, hfz137_2, hfz137_3, hfz137_4, hfz137_5, hfz137_6, hfz137_7⟩ := zqz8 BK283.out) | ((with_reducible refine gate_callee (f := 23) rfl ?_); refine goesL_ (some 108) rfl rfl Try.func23 (by kernel_rfl) rfl #[.agg #[.int .i64 a0_0, .int .i64 a0_1, .int .i64 a0_2, .slice A0_3 l0_3.length c0_3], .agg #[.int .i64 a2_0, .int .i64 a2_1, .int .i64 a2_2, .int .i64 a2_3, .int .i64 a2_4, .int .u64 a2_5, .int .u64 a2_6, .int .u64 a2_7]] rfl (by (try simp only [List.map_toArray, List.map_cons, List.map_nil]); first | done | rfl | (simp only [List.length_drop, List.length_take]; rfl)) ?_; (with_reducible refine (state_End.calls k2 a0_0 a0_1 a0_2 _ _ l0_3 a2_0 a2_1 a2_2 a2_3 a2_4 a2_5 a2_6 a2_7 t291 true _ ?side1 ?side2 A104.out).mono ?_); (case side1 => repeat (first | exact (Kd.C_below HR0_3.out HB.out) | (with_reducible refine Kd.C_alloc ?_ _) | (with_reducible refine Kd.C_drewN ?_ _) | (with_reducible refine Kd.C_drew ?_))); (case side2 => exact HC0_3.out); rintro e w138 ⟨rfl, hb⟩; refine ⟨_, rfl, ?_⟩; have n0_ := zqi (Kd.R_below (by (with_reducible repeat (first | apply Kd.R_alloc | apply Kd.R_drewN | apply Kd.R_drew)); exact HO_8.out) hb); have n1_ := zqi (zqy BK281.out hb); have n2_ := zqi (zqy BK282.out hb); have n3_ := zqi (zqy BK283.out hb); have n4_ := zqi (below_step (zqn HB.out) hb); clear HO_8; clear BK281; clear BK282; clear BK283; clear HB; have HO_8 := n0_; have BK281 := n1_; have BK282 := n2_; have BK283 := n3_; have HB := n4_; clear n0_ n1_ n2_ n3_ n4_; (try clear hb); (try clear hb2); (try clear hk); (try clear hi); obtain ⟨hcz139_0, hcz139_1, hcz139_2, hcz139_3, hfz139_0, hfz139_1, hfz139_2, hfz139_3⟩ := zqz4 BK281.out))
         go_ret
         exact ⟨by first | rfl | (simp [errW_none, errW_some] <;> rfl) | (simp [*, errW_none, errW_some] <;> rfl), by repeat (first | (with_reducible first | exact HB.out | apply zqg | apply zqf | apply zqh | refine below_set ?_ GE281.out | refine below_set ?_ GE282.out | refine below_set ?_ GE283.out) | exact HB.out)⟩
       ·
        replace c105 := Bool.eq_false_iff.mpr c105
        subst c105
        have H1 : (some true) = some r := by rw [if_neg (show ¬ (false = true) by decide)] at H; exact H
        clear H
        have H := H1
        clear H1
        obtain rfl := Option.some.inj H
        obtain ⟨Ao140, co140, eo140⟩ := Kd.R_slice HO_8.out
        subst eo140
        have hnb141 := NB281_282.out
        have hnc141 := NB282_281.out
        have hnb142 := NB281_283.out
        have hnc142 := NB283_281.out
        obtain ⟨hcz143_0, hcz143_1, hcz143_2, hcz143_3, hfz143_0, hfz143_1, hfz143_2, hfz143_3⟩ := zqz4 BK281.out
        have hnb144 := NB282_283.out
        have hnc144 := NB283_282.out
        obtain ⟨hcz145_0, hcz145_1, hcz145_2, hcz145_3, hcz145_4, hcz145_5, hcz145_6, hcz145_7, hfz145_0, hfz145_1, hfz145_2, hfz145_3, hfz145_4, hfz145_5, hfz145_6, hfz145_7⟩ := zqz8 BK282.out
        go_wp2_with (first | ((with_reducible refine gate_callee (f := 23) rfl ?_); refine goesL_ (some 102) rfl rfl Try.func23 (by kernel_rfl) rfl #[.agg #[.int .i64 a0_0, .int .i64 a0_1, .int .i64 a0_2, .slice A0_3 l0_3.length c0_3], .agg #[.int .i64 a1_0, .int .i64 a1_1, .int .i64 a1_2, .int .i64 a1_3, .int .i64 a1_4, .int .u64 a1_5, .int .u64 a1_6, .int .u64 a1_7]] rfl (by (try simp only [List.map_toArray, List.map_cons, List.map_nil]); first | done | rfl | (simp only [List.length_drop, List.length_take]; rfl)) ?_; (with_reducible refine (state_End.calls k2 a0_0 a0_1 a0_2 _ _ l0_3 a1_0 a1_1 a1_2 a1_3 a1_4 a1_5 a1_6 a1_7 t289 t290 _ ?side1 ?side2 A103.out).mono ?_); (case side1 => repeat (first | exact (Kd.C_below HR0_3.out HB.out) | (with_reducible refine Kd.C_alloc ?_ _) | (with_reducible refine Kd.C_drewN ?_ _) | (with_reducible refine Kd.C_drew ?_))); (case side2 => exact HC0_3.out); rintro e w146 ⟨rfl, hb⟩; refine ⟨_, rfl, ?_⟩; have n0_ := zqi (Kd.R_below (by (with_reducible repeat (first | apply Kd.R_alloc | apply Kd.R_drewN | apply Kd.R_drew)); exact HO_8.out) hb); have n1_ := zqi (zqy BK281.out hb); have n2_ := zqi (zqy BK282.out hb); have n3_ := zqi (zqy BK283.out hb); have n4_ := zqi (below_step (zqn HB.out) hb); clear HO_8; clear BK281; clear BK282; clear BK283; clear HB; have HO_8 := n0_; have BK281 := n1_; have BK282 := n2_; have BK283 := n3_; have HB := n4_; clear n0_ n1_ n2_ n3_ n4_; (try clear hb); (try clear hb2); (try clear hk); (try clear hi); obtain ⟨hcz147_0, hcz147_1, hcz147_2, hcz147_3, hfz147_0, hfz147_1, hfz147_2, hfz147_3⟩ := zqz4 BK281.out; obtain ⟨hcz148_0, hcz148_1, hcz148_2, hcz148_3, hcz148_4, hcz148_5, hcz148_6, hcz148_7, hfz148_0, hfz148_1, hfz148_2, hfz148_3, hfz148_4, hfz148_5, hfz148_6, hfz148_7⟩ := zqz8 BK283.out) | ((with_reducible refine gate_callee (f := 23) rfl ?_); refine goesL_ (some 108) rfl rfl Try.func23 (by kernel_rfl) rfl #[.agg #[.int .i64 a0_0, .int .i64 a0_1, .int .i64 a0_2, .slice A0_3 l0_3.length c0_3], .agg #[.int .i64 a2_0, .int .i64 a2_1, .int .i64 a2_2, .int .i64 a2_3, .int .i64 a2_4, .int .u64 a2_5, .int .u64 a2_6, .int .u64 a2_7]] rfl (by (try simp only [List.map_toArray, List.map_cons, List.map_nil]); first | done | rfl | (simp only [List.length_drop, List.length_take]; rfl)) ?_; (with_reducible refine (state_End.calls k2 a0_0 a0_1 a0_2 _ _ l0_3 a2_0 a2_1 a2_2 a2_3 a2_4 a2_5 a2_6 a2_7 t291 false _ ?side1 ?side2 A104.out).mono ?_); (case side1 => repeat (first | exact (Kd.C_below HR0_3.out HB.out) | (with_reducible refine Kd.C_alloc ?_ _) | (with_reducible refine Kd.C_drewN ?_ _) | (with_reducible refine Kd.C_drew ?_))); (case side2 => exact HC0_3.out); rintro e w149 ⟨rfl, hb⟩; refine ⟨_, rfl, ?_⟩; have n0_ := zqi (Kd.R_below (by (with_reducible repeat (first | apply Kd.R_alloc | apply Kd.R_drewN | apply Kd.R_drew)); exact HO_8.out) hb); have n1_ := zqi (zqy BK281.out hb); have n2_ := zqi (zqy BK282.out hb); have n3_ := zqi (zqy BK283.out hb); have n4_ := zqi (below_step (zqn HB.out) hb); clear HO_8; clear BK281; clear BK282; clear BK283; clear HB; have HO_8 := n0_; have BK281 := n1_; have BK282 := n2_; have BK283 := n3_; have HB := n4_; clear n0_ n1_ n2_ n3_ n4_; (try clear hb); (try clear hb2); (try clear hk); (try clear hi)))
        go_ret
        exact ⟨by first | rfl | (simp [errW_none, errW_some] <;> rfl) | (simp [*, errW_none, errW_some] <;> rfl), by repeat (first | (with_reducible first | exact HB.out | apply zqg | apply zqf | apply zqh | refine below_set ?_ GE281.out | refine below_set ?_ GE282.out | refine below_set ?_ GE283.out) | exact HB.out)⟩

end Go.Proofs.Ytjiammiihamkiaa.PB
