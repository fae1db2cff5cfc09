-- Printed for this claim by wip/tools/xprint.py over the kit's print; the contracts marked BY HAND are this session's own.
import Derived.Test.YtjiammiihamkiaaPAx0
import Derived.Test.YtjiammiihamkiaaPAx1
import Derived.Test.YtjiammiihamkiaaPAx3
import Derived.Test.YtjiammiihamkiaaPAx4
import Derived.Test.YtjiammiihamkiaaPAx8
namespace Go.Proofs.Ytjiammiihamkiaa.PA
open Go.RowKit Go.Proofs.YtjiammiihamkiaaW.PrintWords Go.Proofs.YtjiammiihamkiaaW.PrintLast Go.Proofs.YtjiammiihamkiaaW.PrintMore
attribute [local go_sem] max2_int min2_int max_two min_two max_three min_three max_four min_four   -- for this text's walks alone
set_option linter.unusedVariables false
set_option linter.unusedSimpArgs false

/-! ### haulierlaw06_PlaneNear: function 4 -/
mutual
def haulierlaw06_PlaneNear.j0 : Nat → Bool → Bool → Int → Int → Int → List (S23) → Option (Bool)
  | 0, _, _, _, _, _, _ => none
  | k + 1, x3, x23, x239000, x239001, x239002, x239003 => if x23 = true then (some x3) else ((plane_Matrix.f k x239000 x239001 x239002 x239003).bind fun t241 => ((plane_Near.f k x239000 x239001 x239002 x239003).bind fun t244 => (if (t241.length : Int) = (x239003.length : Int) then (haulierlaw06_PlaneNear.j1 k t241 t244 ((t244.length : Int) != (t241.length : Int))) else (haulierlaw06_PlaneNear.j1 k t241 t244 true))))
def haulierlaw06_PlaneNear.j1 : Nat → List (List Int) → List Int → Bool → Option (Bool)
  | 0, _, _, _ => none
  | k + 1, x4, x5, x41 => if x41 = true then (none) else (haulierlaw06_PlaneNear.l0 k x4 x5 0)
def haulierlaw06_PlaneNear.l0 : Nat → List (List Int) → List Int → Int → Option (Bool)
  | 0, _, _, _ => none
  | k + 1, x4, x5, x6 => if x6 < (x4.length : Int) then (if 0 ≤ x6 then (if ((rd_L2 x4 x6).length : Int) = (x4.length : Int) then (if x6 < ((rd_L2 x4 x6).length : Int) then (if (rd (rd_L2 x4 x6) x6) = 0 then (haulierlaw06_PlaneNear.l0 k x4 x5 (wrap64 (x6 + 1))) else (none)) else (none)) else (none)) else (none)) else (haulierlaw06_PlaneNear.l1 k x4 x5 0)
def haulierlaw06_PlaneNear.l1 : Nat → List (List Int) → List Int → Int → Option (Bool)
  | 0, _, _, _ => none
  | k + 1, x4, x5, x7 => if x7 < (x4.length : Int) then (if (x4.length : Int) = 1 then (if 0 ≤ x7 then (if x7 < (x5.length : Int) then (haulierlaw06_PlaneNear.j4 k x4 x5 x7 ((rd x5 x7) == 0)) else (none)) else (none)) else (haulierlaw06_PlaneNear.j4 k x4 x5 x7 false)) else (some true)
def haulierlaw06_PlaneNear.j4 : Nat → List (List Int) → List Int → Int → Bool → Option (Bool)
  | 0, _, _, _, _ => none
  | k + 1, x4, x5, x7, x8 => haulierlaw06_PlaneNear.l2 k x4 x5 x7 x8 0
def haulierlaw06_PlaneNear.l2 : Nat → List (List Int) → List Int → Int → Bool → Int → Option (Bool)
  | 0, _, _, _, _, _ => none
  | k + 1, x4, x5, x7, x8, x9 => if x9 < (x4.length : Int) then (if 0 ≤ x7 then (if x7 < (x4.length : Int) then (if 0 ≤ x9 then (if x9 < ((rd_L2 x4 x7).length : Int) then (if x7 < ((rd_L2 x4 x9).length : Int) then (if (rd (rd_L2 x4 x7) x9) = (rd (rd_L2 x4 x9) x7) then (if x7 = x9 then (haulierlaw06_PlaneNear.j6 k x4 x5 x7 x8 x9 false) else (if x7 < (x5.length : Int) then (haulierlaw06_PlaneNear.j6 k x4 x5 x7 x8 x9 (decide ((rd (rd_L2 x4 x9) x7) < (rd x5 x7)))) else (none))) else (haulierlaw06_PlaneNear.j6 k x4 x5 x7 x8 x9 true)) else (none)) else (none)) else (none)) else (none)) else (none)) else (if x8 = true then (haulierlaw06_PlaneNear.l1 k x4 x5 (wrap64 (x7 + 1))) else (none))
def haulierlaw06_PlaneNear.j6 : Nat → List (List Int) → List Int → Int → Bool → Int → Bool → Option (Bool)
  | 0, _, _, _, _, _, _ => none
  | k + 1, x4, x5, x7, x8, x9, x121 => if x121 = true then (none) else (if x8 = true then (haulierlaw06_PlaneNear.l2 k x4 x5 x7 true (wrap64 (x9 + 1))) else (if x7 = x9 then (haulierlaw06_PlaneNear.l2 k x4 x5 x7 false (wrap64 (x9 + 1))) else (if 0 ≤ x9 then (if x9 < (x4.length : Int) then (if 0 ≤ x7 then (if x7 < ((rd_L2 x4 x9).length : Int) then (if x7 < (x5.length : Int) then (haulierlaw06_PlaneNear.l2 k x4 x5 x7 ((rd (rd_L2 x4 x9) x7) == (rd x5 x7)) (wrap64 (x9 + 1))) else (none)) else (none)) else (none)) else (none)) else (none))))
end
def haulierlaw06_PlaneNear.f (k : Nat) (a0_0 : Int) (a0_1 : Int) (a0_2 : Int) (l0_3 : List (S23)) : Option (Bool) := (haulierlaw06_awake.f).bind fun t239 => (if t239 = true then (if (l0_3.length : Int) > 33 then (haulierlaw06_PlaneNear.j0 k t239 true a0_0 a0_1 a0_2 l0_3) else ((inst_May.f k a0_0 a0_1 a0_2 l0_3).bind fun t240 => (haulierlaw06_PlaneNear.j0 k t239 (!t240) a0_0 a0_1 a0_2 l0_3))) else (haulierlaw06_PlaneNear.j0 k t239 true a0_0 a0_1 a0_2 l0_3))
theorem haulierlaw06_PlaneNear.mono_l : ∀ k, (∀ y0 y1 y2 y3 y4 y5, LeO (haulierlaw06_PlaneNear.j0 k y0 y1 y2 y3 y4 y5) (haulierlaw06_PlaneNear.j0 (k + 1) y0 y1 y2 y3 y4 y5)) ∧ (∀ y0 y1 y2, LeO (haulierlaw06_PlaneNear.j1 k y0 y1 y2) (haulierlaw06_PlaneNear.j1 (k + 1) y0 y1 y2)) ∧ (∀ y0 y1 y2, LeO (haulierlaw06_PlaneNear.l0 k y0 y1 y2) (haulierlaw06_PlaneNear.l0 (k + 1) y0 y1 y2)) ∧ (∀ y0 y1 y2, LeO (haulierlaw06_PlaneNear.l1 k y0 y1 y2) (haulierlaw06_PlaneNear.l1 (k + 1) y0 y1 y2)) ∧ (∀ y0 y1 y2 y3, LeO (haulierlaw06_PlaneNear.j4 k y0 y1 y2 y3) (haulierlaw06_PlaneNear.j4 (k + 1) y0 y1 y2 y3)) ∧ (∀ y0 y1 y2 y3 y4, LeO (haulierlaw06_PlaneNear.l2 k y0 y1 y2 y3 y4) (haulierlaw06_PlaneNear.l2 (k + 1) y0 y1 y2 y3 y4)) ∧ (∀ y0 y1 y2 y3 y4 y5, LeO (haulierlaw06_PlaneNear.j6 k y0 y1 y2 y3 y4 y5) (haulierlaw06_PlaneNear.j6 (k + 1) y0 y1 y2 y3 y4 y5))
  | 0 => ⟨fun _ _ _ _ _ _ r h => by simp [haulierlaw06_PlaneNear.j0] at h, fun _ _ _ r h => by simp [haulierlaw06_PlaneNear.j1] at h, fun _ _ _ r h => by simp [haulierlaw06_PlaneNear.l0] at h, fun _ _ _ r h => by simp [haulierlaw06_PlaneNear.l1] at h, fun _ _ _ _ r h => by simp [haulierlaw06_PlaneNear.j4] at h, fun _ _ _ _ _ r h => by simp [haulierlaw06_PlaneNear.l2] at h, fun _ _ _ _ _ _ r h => by simp [haulierlaw06_PlaneNear.j6] at h⟩
  | k + 1 => by
    obtain ⟨ih0, ih1, ih2, ih3, ih4, ih5, ih6⟩ := haulierlaw06_PlaneNear.mono_l k
    refine ⟨?_, ?_, ?_, ?_, ?_, ?_, ?_⟩
    · intro y0 y1 y2 y3 y4 y5
      unfold haulierlaw06_PlaneNear.j0
      repeat' first
      | (with_reducible exact ih0 _ _ _ _ _ _)
      | (with_reducible exact ih1 _ _ _)
      | (with_reducible exact ih2 _ _ _)
      | (with_reducible exact ih3 _ _ _)
      | (with_reducible exact ih4 _ _ _ _)
      | (with_reducible exact ih5 _ _ _ _ _)
      | (with_reducible exact ih6 _ _ _ _ _ _)
      | (with_reducible exact inst_May.mono _ _ _ _ _)
      | (with_reducible exact plane_Matrix.mono _ _ _ _ _)
      | (with_reducible exact plane_Near.mono _ _ _ _ _)
      | (with_reducible exact LeO.refl _)
      | (with_reducible exact LeO.none _)
      | (with_reducible refine LeO.ite ?_ ?_)
      | (with_reducible refine LeO.bind ?_ (fun _ => ?_))
      | exact ih0 _ _ _ _ _ _
      | exact ih1 _ _ _
      | exact ih2 _ _ _
      | exact ih3 _ _ _
      | exact ih4 _ _ _ _
      | exact ih5 _ _ _ _ _
      | exact ih6 _ _ _ _ _ _
      | exact inst_May.mono _ _ _ _ _
      | exact plane_Matrix.mono _ _ _ _ _
      | exact plane_Near.mono _ _ _ _ _
      | exact LeO.none _
      | refine LeO.ite ?_ ?_
      | refine LeO.bind ?_ (fun _ => ?_)
    · intro y0 y1 y2
      unfold haulierlaw06_PlaneNear.j1
      repeat' first
      | (with_reducible exact ih0 _ _ _ _ _ _)
      | (with_reducible exact ih1 _ _ _)
      | (with_reducible exact ih2 _ _ _)
      | (with_reducible exact ih3 _ _ _)
      | (with_reducible exact ih4 _ _ _ _)
      | (with_reducible exact ih5 _ _ _ _ _)
      | (with_reducible exact ih6 _ _ _ _ _ _)
      | (with_reducible exact inst_May.mono _ _ _ _ _)
      | (with_reducible exact plane_Matrix.mono _ _ _ _ _)
      | (with_reducible exact plane_Near.mono _ _ _ _ _)
      | (with_reducible exact LeO.refl _)
      | (with_reducible exact LeO.none _)
      | (with_reducible refine LeO.ite ?_ ?_)
      | (with_reducible refine LeO.bind ?_ (fun _ => ?_))
      | exact ih0 _ _ _ _ _ _
      | exact ih1 _ _ _
      | exact ih2 _ _ _
      | exact ih3 _ _ _
      | exact ih4 _ _ _ _
      | exact ih5 _ _ _ _ _
      | exact ih6 _ _ _ _ _ _
      | exact inst_May.mono _ _ _ _ _
      | exact plane_Matrix.mono _ _ _ _ _
      | exact plane_Near.mono _ _ _ _ _
      | exact LeO.none _
      | refine LeO.ite ?_ ?_
      | refine LeO.bind ?_ (fun _ => ?_)
    · intro y0 y1 y2
      unfold haulierlaw06_PlaneNear.l0
      repeat' first
      | (with_reducible exact ih0 _ _ _ _ _ _)
      | (with_reducible exact ih1 _ _ _)
      | (with_reducible exact ih2 _ _ _)
      | (with_reducible exact ih3 _ _ _)
      | (with_reducible exact ih4 _ _ _ _)
      | (with_reducible exact ih5 _ _ _ _ _)
      | (with_reducible exact ih6 _ _ _ _ _ _)
      | (with_reducible exact inst_May.mono _ _ _ _ _)
      | (with_reducible exact plane_Matrix.mono _ _ _ _ _)
      | (with_reducible exact plane_Near.mono _ _ _ _ _)
      | (with_reducible exact LeO.refl _)
      | (with_reducible exact LeO.none _)
      | (with_reducible refine LeO.ite ?_ ?_)
      | (with_reducible refine LeO.bind ?_ (fun _ => ?_))
      | exact ih0 _ _ _ _ _ _
      | exact ih1 _ _ _
      | exact ih2 _ _ _
      | exact ih3 _ _ _
      | exact ih4 _ _ _ _
      | exact ih5 _ _ _ _ _
      | exact ih6 _ _ _ _ _ _
      | exact inst_May.mono _ _ _ _ _
      | exact plane_Matrix.mono _ _ _ _ _
      | exact plane_Near.mono _ _ _ _ _
      | exact LeO.none _
      | refine LeO.ite ?_ ?_
      | refine LeO.bind ?_ (fun _ => ?_)
    · intro y0 y1 y2
      unfold haulierlaw06_PlaneNear.l1
      repeat' first
      | (with_reducible exact ih0 _ _ _ _ _ _)
      | (with_reducible exact ih1 _ _ _)
      | (with_reducible exact ih2 _ _ _)
      | (with_reducible exact ih3 _ _ _)
      | (with_reducible exact ih4 _ _ _ _)
      | (with_reducible exact ih5 _ _ _ _ _)
      | (with_reducible exact ih6 _ _ _ _ _ _)
      | (with_reducible exact inst_May.mono _ _ _ _ _)
      | (with_reducible exact plane_Matrix.mono _ _ _ _ _)
      | (with_reducible exact plane_Near.mono _ _ _ _ _)
      | (with_reducible exact LeO.refl _)
      | (with_reducible exact LeO.none _)
      | (with_reducible refine LeO.ite ?_ ?_)
      | (with_reducible refine LeO.bind ?_ (fun _ => ?_))
      | exact ih0 _ _ _ _ _ _
      | exact ih1 _ _ _
      | exact ih2 _ _ _
      | exact ih3 _ _ _
      | exact ih4 _ _ _ _
      | exact ih5 _ _ _ _ _
      | exact ih6 _ _ _ _ _ _
      | exact inst_May.mono _ _ _ _ _
      | exact plane_Matrix.mono _ _ _ _ _
      | exact plane_Near.mono _ _ _ _ _
      | exact LeO.none _
      | refine LeO.ite ?_ ?_
      | refine LeO.bind ?_ (fun _ => ?_)
    · intro y0 y1 y2 y3
      unfold haulierlaw06_PlaneNear.j4
      repeat' first
      | (with_reducible exact ih0 _ _ _ _ _ _)
      | (with_reducible exact ih1 _ _ _)
      | (with_reducible exact ih2 _ _ _)
      | (with_reducible exact ih3 _ _ _)
      | (with_reducible exact ih4 _ _ _ _)
      | (with_reducible exact ih5 _ _ _ _ _)
      | (with_reducible exact ih6 _ _ _ _ _ _)
      | (with_reducible exact inst_May.mono _ _ _ _ _)
      | (with_reducible exact plane_Matrix.mono _ _ _ _ _)
      | (with_reducible exact plane_Near.mono _ _ _ _ _)
      | (with_reducible exact LeO.refl _)
      | (with_reducible exact LeO.none _)
      | (with_reducible refine LeO.ite ?_ ?_)
      | (with_reducible refine LeO.bind ?_ (fun _ => ?_))
      | exact ih0 _ _ _ _ _ _
      | exact ih1 _ _ _
      | exact ih2 _ _ _
      | exact ih3 _ _ _
      | exact ih4 _ _ _ _
      | exact ih5 _ _ _ _ _
      | exact ih6 _ _ _ _ _ _
      | exact inst_May.mono _ _ _ _ _
      | exact plane_Matrix.mono _ _ _ _ _
      | exact plane_Near.mono _ _ _ _ _
      | exact LeO.none _
      | refine LeO.ite ?_ ?_
      | refine LeO.bind ?_ (fun _ => ?_)
    · intro y0 y1 y2 y3 y4
      unfold haulierlaw06_PlaneNear.l2
      repeat' first
      | (with_reducible exact ih0 _ _ _ _ _ _)
      | (with_reducible exact ih1 _ _ _)
      | (with_reducible exact ih2 _ _ _)
      | (with_reducible exact ih3 _ _ _)
      | (with_reducible exact ih4 _ _ _ _)
      | (with_reducible exact ih5 _ _ _ _ _)
      | (with_reducible exact ih6 _ _ _ _ _ _)
      | (with_reducible exact inst_May.mono _ _ _ _ _)
      | (with_reducible exact plane_Matrix.mono _ _ _ _ _)
      | (with_reducible exact plane_Near.mono _ _ _ _ _)
      | (with_reducible exact LeO.refl _)
      | (with_reducible exact LeO.none _)
      | (with_reducible refine LeO.ite ?_ ?_)
      | (with_reducible refine LeO.bind ?_ (fun _ => ?_))
      | exact ih0 _ _ _ _ _ _
      | exact ih1 _ _ _
      | exact ih2 _ _ _
      | exact ih3 _ _ _
      | exact ih4 _ _ _ _
      | exact ih5 _ _ _ _ _
      | exact ih6 _ _ _ _ _ _
      | exact inst_May.mono _ _ _ _ _
      | exact plane_Matrix.mono _ _ _ _ _
      | exact plane_Near.mono _ _ _ _ _
      | exact LeO.none _
      | refine LeO.ite ?_ ?_
      | refine LeO.bind ?_ (fun _ => ?_)
    · intro y0 y1 y2 y3 y4 y5
      unfold haulierlaw06_PlaneNear.j6
      repeat' first
      | (with_reducible exact ih0 _ _ _ _ _ _)
      | (with_reducible exact ih1 _ _ _)
      | (with_reducible exact ih2 _ _ _)
      | (with_reducible exact ih3 _ _ _)
      | (with_reducible exact ih4 _ _ _ _)
      | (with_reducible exact ih5 _ _ _ _ _)
      | (with_reducible exact ih6 _ _ _ _ _ _)
      | (with_reducible exact inst_May.mono _ _ _ _ _)
      | (with_reducible exact plane_Matrix.mono _ _ _ _ _)
      | (with_reducible exact plane_Near.mono _ _ _ _ _)
      | (with_reducible exact LeO.refl _)
      | (with_reducible exact LeO.none _)
      | (with_reducible refine LeO.ite ?_ ?_)
      | (with_reducible refine LeO.bind ?_ (fun _ => ?_))
      | exact ih0 _ _ _ _ _ _
      | exact ih1 _ _ _
      | exact ih2 _ _ _
      | exact ih3 _ _ _
      | exact ih4 _ _ _ _
      | exact ih5 _ _ _ _ _
      | exact ih6 _ _ _ _ _ _
      | exact inst_May.mono _ _ _ _ _
      | exact plane_Matrix.mono _ _ _ _ _
      | exact plane_Near.mono _ _ _ _ _
      | exact LeO.none _
      | refine LeO.ite ?_ ?_
      | refine LeO.bind ?_ (fun _ => ?_)
theorem haulierlaw06_PlaneNear.mono : ∀ a0 a1 a2 a3 k, LeO (haulierlaw06_PlaneNear.f k a0 a1 a2 a3) (haulierlaw06_PlaneNear.f (k + 1) a0 a1 a2 a3) := by
  intro a0 a1 a2 a3 k
  obtain ⟨ih0, ih1, ih2, ih3, ih4, ih5, ih6⟩ := haulierlaw06_PlaneNear.mono_l k
  unfold haulierlaw06_PlaneNear.f
  repeat' first
      | (with_reducible exact ih0 _ _ _ _ _ _)
      | (with_reducible exact ih1 _ _ _)
      | (with_reducible exact ih2 _ _ _)
      | (with_reducible exact ih3 _ _ _)
      | (with_reducible exact ih4 _ _ _ _)
      | (with_reducible exact ih5 _ _ _ _ _)
      | (with_reducible exact ih6 _ _ _ _ _ _)
      | (with_reducible exact inst_May.mono _ _ _ _ _)
      | (with_reducible exact plane_Matrix.mono _ _ _ _ _)
      | (with_reducible exact plane_Near.mono _ _ _ _ _)
      | (with_reducible exact LeO.refl _)
      | (with_reducible exact LeO.none _)
      | (with_reducible refine LeO.ite ?_ ?_)
      | (with_reducible refine LeO.bind ?_ (fun _ => ?_))
      | exact ih0 _ _ _ _ _ _
      | exact ih1 _ _ _
      | exact ih2 _ _ _
      | exact ih3 _ _ _
      | exact ih4 _ _ _ _
      | exact ih5 _ _ _ _ _
      | exact ih6 _ _ _ _ _ _
      | exact inst_May.mono _ _ _ _ _
      | exact plane_Matrix.mono _ _ _ _ _
      | exact plane_Near.mono _ _ _ _ _
      | exact LeO.none _
      | refine LeO.ite ?_ ?_
      | refine LeO.bind ?_ (fun _ => ?_)
set_option maxHeartbeats 8000000 in
set_option maxRecDepth 100000 in
theorem haulierlaw06_PlaneNear.calls (k : Nat) (a0_0 : Int) (a0_1 : Int) (a0_2 : Int) (A0_3 : Option Addr) (c0_3 : Nat) (l0_3 : List (S23)) (r : Bool) (w : World) (hr0_3 : Kd.C k23 w A0_3 l0_3.length l0_3) (hc0_3 : l0_3.length ≤ c0_3) (h : haulierlaw06_PlaneNear.f k a0_0 a0_1 a0_2 l0_3 = some r) :
    Calls Try.prog 4 #[.agg #[.int .i64 a0_0, .int .i64 a0_1, .int .i64 a0_2, .slice A0_3 l0_3.length c0_3]] w fun e w' => e = .returned (.bool r) ∧ Below w.heap.size w w' := by
  have hu26 := Try.underlying26
  have HR0_3 := Aside0.mk hr0_3
  have HC0_3 := Aside0.mk hc0_3
  clear hr0_3 hc0_3
  have HB := Aside0.mk (Below.refl w.heap.size w)
  have H : ((haulierlaw06_awake.f).bind fun t239 => (if t239 = true then (if (l0_3.length : Int) > 33 then (haulierlaw06_PlaneNear.j0 k t239 true a0_0 a0_1 a0_2 l0_3) else ((inst_May.f k a0_0 a0_1 a0_2 l0_3).bind fun t240 => (haulierlaw06_PlaneNear.j0 k t239 (!t240) a0_0 a0_1 a0_2 l0_3))) else (haulierlaw06_PlaneNear.j0 k t239 true a0_0 a0_1 a0_2 l0_3))) = some r := h
  clear h
  replace H := Option.bind_eq_some_iff.mp H
  obtain ⟨t239, A20, H⟩ := H
  replace H : (if t239 = true then (if (l0_3.length : Int) > 33 then (haulierlaw06_PlaneNear.j0 k t239 true a0_0 a0_1 a0_2 l0_3) else ((inst_May.f k a0_0 a0_1 a0_2 l0_3).bind fun t240 => (haulierlaw06_PlaneNear.j0 k t239 (!t240) a0_0 a0_1 a0_2 l0_3))) else (haulierlaw06_PlaneNear.j0 k t239 true a0_0 a0_1 a0_2 l0_3)) = some r := H
  have A2 := Aside0.mk A20
  clear A20
  have HC3 := Aside0.mk H
  clear H
  go_enter Try.func4, Try.ntmps4
  go_upto_region 2 with (first | ((with_reducible refine gate_dst (N := 1) rfl ?_); (try (refine gate_guard (by rfl) ?_; dsimp only)); refine box_event ?hg (N := 1) ?hd (cs := #[.int .i64 a0_0, .int .i64 a0_1, .int .i64 a0_2, .slice A0_3 l0_3.length c0_3]) (t := 26) ?hr ?_; (case hd => rfl); (case hg => rfl); (case hr => first | (go_simp; done) | (go_simp; rfl)); intro gb238 hg w4 hbox hb; have n0_ := Aside0.mk (below_step (by repeat (first | (with_reducible first | exact HB.out | apply below_alloc | apply pw_below_drewN | apply below_drew1) | exact HB.out)) hb); have n1_ := Aside0.mk (hbox); have n2_ := Aside0.mk ((by rw [hg]; exact (below_size (by repeat (first | (with_reducible first | exact HB.out | apply below_alloc | apply pw_below_drewN | apply below_drew1) | exact HB.out))) : w.heap.size ≤ gb238)); have n3_ := Aside0.mk ((by rw [hg]; exact (below_size (by repeat (first | (with_reducible first | exact HB.out | apply below_alloc | apply pw_below_drewN | apply below_drew1) | exact HB.out))) : w.heap.size ≤ gb238)); clear HB; have HB := n0_; have BK238 := n1_; have GW238 := n2_; have GE238 := n3_; clear n0_ n1_ n2_ n3_; clear hb hbox hg) | (go_at_call 10; (with_reducible refine (haulierlaw06_awake.calls  t239 _ A2.out).mono ?_); rintro e w5 ⟨rfl, hb⟩; have n0_ := Aside0.mk (blk_below (g := gb238) (o := .cells #[.int .i64 a0_0, .int .i64 a0_1, .int .i64 a0_2, .slice A0_3 l0_3.length c0_3] 26 (0, 0)) (by (with_reducible repeat (first | refine blk_drewN ?_ _ | refine blk_drew ?_ | refine blk_alloc ?_ _)); exact BK238.out) hb); have n1_ := Aside0.mk (below_step (by repeat (first | (with_reducible first | exact HB.out | apply below_alloc | apply pw_below_drewN | apply below_drew1 | refine below_set ?_ GE238.out) | exact HB.out)) hb); clear BK238; clear HB; have BK238 := n0_; have HB := n1_; clear n0_ n1_; (try clear hb); (try clear hb2); (try clear hk); (try clear hi)))
  repeat (go_quiet (first | ((with_reducible refine gate_dst (N := 1) rfl ?_); (try (refine gate_guard (by rfl) ?_; dsimp only)); refine box_event ?hg (N := 1) ?hd (cs := #[.int .i64 a0_0, .int .i64 a0_1, .int .i64 a0_2, .slice A0_3 l0_3.length c0_3]) (t := 26) ?hr ?_; (case hd => rfl); (case hg => rfl); (case hr => first | (go_simp; done) | (go_simp; rfl)); intro gb238 hg w4 hbox hb; have n0_ := Aside0.mk (below_step (by repeat (first | (with_reducible first | exact HB.out | apply below_alloc | apply pw_below_drewN | apply below_drew1) | exact HB.out)) hb); have n1_ := Aside0.mk (hbox); have n2_ := Aside0.mk ((by rw [hg]; exact (below_size (by repeat (first | (with_reducible first | exact HB.out | apply below_alloc | apply pw_below_drewN | apply below_drew1) | exact HB.out))) : w.heap.size ≤ gb238)); have n3_ := Aside0.mk ((by rw [hg]; exact (below_size (by repeat (first | (with_reducible first | exact HB.out | apply below_alloc | apply pw_below_drewN | apply below_drew1) | exact HB.out))) : w.heap.size ≤ gb238)); clear HB; have HB := n0_; have BK238 := n1_; have GW238 := n2_; have GE238 := n3_; clear n0_ n1_ n2_ n3_; clear hb hbox hg) | (go_at_call 10; (with_reducible refine (haulierlaw06_awake.calls  t239 _ A2.out).mono ?_); rintro e w5 ⟨rfl, hb⟩; have n0_ := Aside0.mk (blk_below (g := gb238) (o := .cells #[.int .i64 a0_0, .int .i64 a0_1, .int .i64 a0_2, .slice A0_3 l0_3.length c0_3] 26 (0, 0)) (by (with_reducible repeat (first | refine blk_drewN ?_ _ | refine blk_drew ?_ | refine blk_alloc ?_ _)); exact BK238.out) hb); have n1_ := Aside0.mk (below_step (by repeat (first | (with_reducible first | exact HB.out | apply below_alloc | apply pw_below_drewN | apply below_drew1 | refine below_set ?_ GE238.out) | exact HB.out)) hb); clear BK238; clear HB; have BK238 := n0_; have HB := n1_; clear n0_ n1_; (try clear hb); (try clear hb2); (try clear hk); (try clear hi))); go_upto_region 2 with (first | ((with_reducible refine gate_dst (N := 1) rfl ?_); (try (refine gate_guard (by rfl) ?_; dsimp only)); refine box_event ?hg (N := 1) ?hd (cs := #[.int .i64 a0_0, .int .i64 a0_1, .int .i64 a0_2, .slice A0_3 l0_3.length c0_3]) (t := 26) ?hr ?_; (case hd => rfl); (case hg => rfl); (case hr => first | (go_simp; done) | (go_simp; rfl)); intro gb238 hg w4 hbox hb; have n0_ := Aside0.mk (below_step (by repeat (first | (with_reducible first | exact HB.out | apply below_alloc | apply pw_below_drewN | apply below_drew1) | exact HB.out)) hb); have n1_ := Aside0.mk (hbox); have n2_ := Aside0.mk ((by rw [hg]; exact (below_size (by repeat (first | (with_reducible first | exact HB.out | apply below_alloc | apply pw_below_drewN | apply below_drew1) | exact HB.out))) : w.heap.size ≤ gb238)); have n3_ := Aside0.mk ((by rw [hg]; exact (below_size (by repeat (first | (with_reducible first | exact HB.out | apply below_alloc | apply pw_below_drewN | apply below_drew1) | exact HB.out))) : w.heap.size ≤ gb238)); clear HB; have HB := n0_; have BK238 := n1_; have GW238 := n2_; have GE238 := n3_; clear n0_ n1_ n2_ n3_; clear hb hbox hg) | (go_at_call 10; (with_reducible refine (haulierlaw06_awake.calls  t239 _ A2.out).mono ?_); rintro e w5 ⟨rfl, hb⟩; have n0_ := Aside0.mk (blk_below (g := gb238) (o := .cells #[.int .i64 a0_0, .int .i64 a0_1, .int .i64 a0_2, .slice A0_3 l0_3.length c0_3] 26 (0, 0)) (by (with_reducible repeat (first | refine blk_drewN ?_ _ | refine blk_drew ?_ | refine blk_alloc ?_ _)); exact BK238.out) hb); have n1_ := Aside0.mk (below_step (by repeat (first | (with_reducible first | exact HB.out | apply below_alloc | apply pw_below_drewN | apply below_drew1 | refine below_set ?_ GE238.out) | exact HB.out)) hb); clear BK238; clear HB; have BK238 := n0_; have HB := n1_; clear n0_ n1_; (try clear hb); (try clear hb2); (try clear hk); (try clear hi))))
  (try simp only [Act.put, List.setIfInBounds_toArray, List.set_cons_zero, List.set_cons_succ])
  go_cut [23] (fun v23 wc => ∃ (kq : Nat) (x23_2 : Bool), v23 = .bool x23_2 ∧ Aside0 (haulierlaw06_PlaneNear.j0 kq t239 x23_2 a0_0 a0_1 a0_2 l0_3 = some r) ∧ Aside0 (kq ≤ k) ∧ Aside0 (wc.heap[gb238]? = some (.cells #[.int .i64 a0_0, .int .i64 a0_1, .int .i64 a0_2, (.slice A0_3 l0_3.length c0_3)] 26 (0, 0))) ∧ Aside0 (Below w.heap.size w wc))
  case first =>
    have H := HC3.out
    clear HC3
    by_cases c6 : t239 = true
    · subst c6
      have H1 : (if (l0_3.length : Int) > 33 then (haulierlaw06_PlaneNear.j0 k true true a0_0 a0_1 a0_2 l0_3) else ((inst_May.f k a0_0 a0_1 a0_2 l0_3).bind fun t240 => (haulierlaw06_PlaneNear.j0 k true (!t240) a0_0 a0_1 a0_2 l0_3))) = some r := by rw [if_pos rfl] at H; exact H
      clear H
      have H := H1
      clear H1
      by_cases c7 : (l0_3.length : Int) > 33
      · rw [if_pos c7] at H
        have c7b0 : decide (33 < (l0_3.length : Int)) = true := decide_eq_true c7
        have c7b1 : decide (33 < l0_3.length) = true := decide_eq_true (by omega)
        clear c7
        (first | rw [c7b0] | (simp only [i64_w, i32_w]; rw [c7b0]) | skip)
        have H' := Aside0.mk H
        clear H
        have hcz8_0 : w5.cell? ⟨gb238, 0, none⟩ = some (.int .i64 a0_0) := (blk_cell BK238.out 0).trans rfl
        have hcz8_1 : w5.cell? ⟨gb238, 1, none⟩ = some (.int .i64 a0_1) := (blk_cell BK238.out 1).trans rfl
        have hcz8_2 : w5.cell? ⟨gb238, 2, none⟩ = some (.int .i64 a0_2) := (blk_cell BK238.out 2).trans rfl
        have hcz8_3 : w5.cell? ⟨gb238, 3, none⟩ = some (.slice A0_3 l0_3.length c0_3) := (blk_cell BK238.out 3).trans rfl
        have hfz8_0 := blk_frozen BK238.out 0
        have hfz8_1 := blk_frozen BK238.out 1
        have hfz8_2 := blk_frozen BK238.out 2
        have hfz8_3 := blk_frozen BK238.out 3
        go_wp2
        repeat (go_quiet (fail); try go_wp2)
        go_meet
        case rel => exact ⟨_, (true), (by first | rfl | (simp; done) | (simp [*]; done)), H', ⟨by first | omega | exact Nat.le_refl _⟩, ⟨by (with_reducible repeat (first | refine blk_drewN ?_ _ | refine blk_drew ?_ | refine blk_alloc ?_ _)); exact BK238.out⟩, ⟨by repeat (first | (with_reducible first | exact HB.out | apply below_alloc | apply pw_below_drewN | apply below_drew1 | refine below_set ?_ GE238.out) | exact HB.out)⟩⟩
      · rw [if_neg c7] at H
        have c7b0 : decide (33 < (l0_3.length : Int)) = false := decide_eq_false c7
        have c7b1 : decide (33 < l0_3.length) = false := decide_eq_false (by omega)
        clear c7
        (first | rw [c7b0] | (simp only [i64_w, i32_w]; rw [c7b0]) | skip)
        replace H := Option.bind_eq_some_iff.mp H
        obtain ⟨t240, A90, H⟩ := H
        replace H : (haulierlaw06_PlaneNear.j0 k true (!t240) a0_0 a0_1 a0_2 l0_3) = some r := H
        have A9 := Aside0.mk A90
        clear A90
        have H' := Aside0.mk H
        clear H
        have hcz10_0 : w5.cell? ⟨gb238, 0, none⟩ = some (.int .i64 a0_0) := (blk_cell BK238.out 0).trans rfl
        have hcz10_1 : w5.cell? ⟨gb238, 1, none⟩ = some (.int .i64 a0_1) := (blk_cell BK238.out 1).trans rfl
        have hcz10_2 : w5.cell? ⟨gb238, 2, none⟩ = some (.int .i64 a0_2) := (blk_cell BK238.out 2).trans rfl
        have hcz10_3 : w5.cell? ⟨gb238, 3, none⟩ = some (.slice A0_3 l0_3.length c0_3) := (blk_cell BK238.out 3).trans rfl
        have hfz10_0 := blk_frozen BK238.out 0
        have hfz10_1 := blk_frozen BK238.out 1
        have hfz10_2 := blk_frozen BK238.out 2
        have hfz10_3 := blk_frozen BK238.out 3
        go_wp2_with (first | (go_at_call 19; (with_reducible refine (inst_May.calls k a0_0 a0_1 a0_2 _ _ l0_3 t240 _ ?side1 ?side2 A9.out).mono ?_); (case side1 => repeat (first | exact (Kd.C_below HR0_3.out HB.out) | (with_reducible refine Kd.C_alloc ?_ _) | (with_reducible refine Kd.C_drewN ?_ _) | (with_reducible refine Kd.C_drew ?_))); (case side2 => exact HC0_3.out); rintro e w11 ⟨rfl, hb⟩; have n0_ := Aside0.mk (blk_below (g := gb238) (o := .cells #[.int .i64 a0_0, .int .i64 a0_1, .int .i64 a0_2, .slice A0_3 l0_3.length c0_3] 26 (0, 0)) (by (with_reducible repeat (first | refine blk_drewN ?_ _ | refine blk_drew ?_ | refine blk_alloc ?_ _)); exact BK238.out) hb); have n1_ := Aside0.mk (below_step (by repeat (first | (with_reducible first | exact HB.out | apply below_alloc | apply pw_below_drewN | apply below_drew1 | refine below_set ?_ GE238.out) | exact HB.out)) hb); clear BK238; clear HB; have BK238 := n0_; have HB := n1_; clear n0_ n1_; (try clear hb); (try clear hb2); (try clear hk); (try clear hi)))
        repeat (go_quiet (first | (go_at_call 19; (with_reducible refine (inst_May.calls k a0_0 a0_1 a0_2 _ _ l0_3 t240 _ ?side1 ?side2 A9.out).mono ?_); (case side1 => repeat (first | exact (Kd.C_below HR0_3.out HB.out) | (with_reducible refine Kd.C_alloc ?_ _) | (with_reducible refine Kd.C_drewN ?_ _) | (with_reducible refine Kd.C_drew ?_))); (case side2 => exact HC0_3.out); rintro e w11 ⟨rfl, hb⟩; have n0_ := Aside0.mk (blk_below (g := gb238) (o := .cells #[.int .i64 a0_0, .int .i64 a0_1, .int .i64 a0_2, .slice A0_3 l0_3.length c0_3] 26 (0, 0)) (by (with_reducible repeat (first | refine blk_drewN ?_ _ | refine blk_drew ?_ | refine blk_alloc ?_ _)); exact BK238.out) hb); have n1_ := Aside0.mk (below_step (by repeat (first | (with_reducible first | exact HB.out | apply below_alloc | apply pw_below_drewN | apply below_drew1 | refine below_set ?_ GE238.out) | exact HB.out)) hb); clear BK238; clear HB; have BK238 := n0_; have HB := n1_; clear n0_ n1_; (try clear hb); (try clear hb2); (try clear hk); (try clear hi))); try go_wp2_with (first | (go_at_call 19; (with_reducible refine (inst_May.calls k a0_0 a0_1 a0_2 _ _ l0_3 t240 _ ?side1 ?side2 A9.out).mono ?_); (case side1 => repeat (first | exact (Kd.C_below HR0_3.out HB.out) | (with_reducible refine Kd.C_alloc ?_ _) | (with_reducible refine Kd.C_drewN ?_ _) | (with_reducible refine Kd.C_drew ?_))); (case side2 => exact HC0_3.out); rintro e w11 ⟨rfl, hb⟩; have n0_ := Aside0.mk (blk_below (g := gb238) (o := .cells #[.int .i64 a0_0, .int .i64 a0_1, .int .i64 a0_2, .slice A0_3 l0_3.length c0_3] 26 (0, 0)) (by (with_reducible repeat (first | refine blk_drewN ?_ _ | refine blk_drew ?_ | refine blk_alloc ?_ _)); exact BK238.out) hb); have n1_ := Aside0.mk (below_step (by repeat (first | (with_reducible first | exact HB.out | apply below_alloc | apply pw_below_drewN | apply below_drew1 | refine below_set ?_ GE238.out) | exact HB.out)) hb); clear BK238; clear HB; have BK238 := n0_; have HB := n1_; clear n0_ n1_; (try clear hb); (try clear hb2); (try clear hk); (try clear hi))))
        go_meet
        case rel => exact ⟨_, (!t240), (by first | rfl | (simp; done) | (simp [*]; done)), H', ⟨by first | omega | exact Nat.le_refl _⟩, ⟨by (with_reducible repeat (first | refine blk_drewN ?_ _ | refine blk_drew ?_ | refine blk_alloc ?_ _)); exact BK238.out⟩, ⟨by repeat (first | (with_reducible first | exact HB.out | apply below_alloc | apply pw_below_drewN | apply below_drew1 | refine below_set ?_ GE238.out) | exact HB.out)⟩⟩
    · replace c6 := Bool.eq_false_iff.mpr c6
      subst c6
      have H1 : (haulierlaw06_PlaneNear.j0 k false true a0_0 a0_1 a0_2 l0_3) = some r := by rw [if_neg (show ¬ (false = true) by decide)] at H; exact H
      clear H
      have H := H1
      clear H1
      have H' := Aside0.mk H
      clear H
      go_wp2
      repeat (go_quiet (fail); try go_wp2)
      go_meet
      case rel => exact ⟨_, (true), (by first | rfl | (simp; done) | (simp [*]; done)), H', ⟨by first | omega | exact Nat.le_refl _⟩, ⟨by (with_reducible repeat (first | refine blk_drewN ?_ _ | refine blk_drew ?_ | refine blk_alloc ?_ _)); exact BK238.out⟩, ⟨by repeat (first | (with_reducible first | exact HB.out | apply below_alloc | apply pw_below_drewN | apply below_drew1 | refine below_set ?_ GE238.out) | exact HB.out)⟩⟩
  case rest =>
    clear HC3
    try clear p2
    try clear c4
    try clear c6
    try clear c7
    try clear c7b0
    try clear c7b1
    try clear hcz10_0
    try clear hcz10_1
    try clear hcz10_2
    try clear hcz10_3
    try clear hcz8_0
    try clear hcz8_1
    try clear hcz8_2
    try clear hcz8_3
    try clear hfz10_0
    try clear hfz10_1
    try clear hfz10_2
    try clear hfz10_3
    try clear hfz8_0
    try clear hfz8_1
    try clear hfz8_2
    try clear hfz8_3
    obtain ⟨kq, x23_2, rfl, HA, HJ2, BK238, HB⟩ := hcut
    cases kq with
    | zero => exact absurd HA.out (by simp [haulierlaw06_PlaneNear.j0])
    | succ kj2 =>
      have H := HA.out
      clear HA
      simp only [haulierlaw06_PlaneNear.j0] at H
      by_cases c12 : x23_2 = true
      · subst c12
        have H1 : (some t239) = some r := by rw [if_pos rfl] at H; exact H
        clear H
        have H := H1
        clear H1
        obtain rfl := Option.some.inj H
        go_wp2
        repeat (go_quiet (fail); try go_wp2)
        go_ret
        exact ⟨by first | rfl | (simp [errW_none, errW_some] <;> rfl) | (simp [*, errW_none, errW_some] <;> rfl), by repeat (first | (with_reducible first | exact HB.out | apply below_alloc | apply pw_below_drewN | apply below_drew1 | refine below_set ?_ GE238.out) | exact HB.out)⟩
      · replace c12 := Bool.eq_false_iff.mpr c12
        subst c12
        have H1 : ((plane_Matrix.f kj2 a0_0 a0_1 a0_2 l0_3).bind fun t241 => ((plane_Near.f kj2 a0_0 a0_1 a0_2 l0_3).bind fun t244 => (if (t241.length : Int) = (l0_3.length : Int) then (haulierlaw06_PlaneNear.j1 kj2 t241 t244 ((t244.length : Int) != (t241.length : Int))) else (haulierlaw06_PlaneNear.j1 kj2 t241 t244 true)))) = some r := by rw [if_neg (show ¬ (false = true) by decide)] at H; exact H
        clear H
        have H := H1
        clear H1
        replace H := Option.bind_eq_some_iff.mp H
        obtain ⟨t241, A130, H⟩ := H
        replace H : ((plane_Near.f kj2 a0_0 a0_1 a0_2 l0_3).bind fun t244 => (if (t241.length : Int) = (l0_3.length : Int) then (haulierlaw06_PlaneNear.j1 kj2 t241 t244 ((t244.length : Int) != (t241.length : Int))) else (haulierlaw06_PlaneNear.j1 kj2 t241 t244 true))) = some r := H
        have A13 := Aside0.mk A130
        clear A130
        replace H := Option.bind_eq_some_iff.mp H
        obtain ⟨t244, A140, H⟩ := H
        replace H : (if (t241.length : Int) = (l0_3.length : Int) then (haulierlaw06_PlaneNear.j1 kj2 t241 t244 ((t244.length : Int) != (t241.length : Int))) else (haulierlaw06_PlaneNear.j1 kj2 t241 t244 true)) = some r := H
        have A14 := Aside0.mk A140
        clear A140
        have HC15 := Aside0.mk H
        clear H
        have hcz16_0 : wc.cell? ⟨gb238, 0, none⟩ = some (.int .i64 a0_0) := (blk_cell BK238.out 0).trans rfl
        have hcz16_1 : wc.cell? ⟨gb238, 1, none⟩ = some (.int .i64 a0_1) := (blk_cell BK238.out 1).trans rfl
        have hcz16_2 : wc.cell? ⟨gb238, 2, none⟩ = some (.int .i64 a0_2) := (blk_cell BK238.out 2).trans rfl
        have hcz16_3 : wc.cell? ⟨gb238, 3, none⟩ = some (.slice A0_3 l0_3.length c0_3) := (blk_cell BK238.out 3).trans rfl
        have hfz16_0 := blk_frozen BK238.out 0
        have hfz16_1 := blk_frozen BK238.out 1
        have hfz16_2 := blk_frozen BK238.out 2
        have hfz16_3 := blk_frozen BK238.out 3
        go_upto_region 6 with (first | (go_at_call 12; (with_reducible refine (plane_Matrix.calls kj2 a0_0 a0_1 a0_2 _ _ l0_3 t241 _ ?side1 ?side2 A13.out).mono ?_); (case side1 => repeat (first | exact (Kd.C_below HR0_3.out HB.out) | (with_reducible refine Kd.C_alloc ?_ _) | (with_reducible refine Kd.C_drewN ?_ _) | (with_reducible refine Kd.C_drew ?_))); (case side2 => exact HC0_3.out); rintro e w17 ⟨v242, rfl, ho0, hb⟩; have n0_ := Aside0.mk (Kd.S_lower ho0 (below_size (by repeat (first | (with_reducible first | exact HB.out | apply below_alloc | apply pw_below_drewN | apply below_drew1 | refine below_set ?_ GE238.out) | exact HB.out)))); have n1_ := Aside0.mk (blk_below (g := gb238) (o := .cells #[.int .i64 a0_0, .int .i64 a0_1, .int .i64 a0_2, .slice A0_3 l0_3.length c0_3] 26 (0, 0)) (by (with_reducible repeat (first | refine blk_drewN ?_ _ | refine blk_drew ?_ | refine blk_alloc ?_ _)); exact BK238.out) hb); have n2_ := Aside0.mk (below_step (by repeat (first | (with_reducible first | exact HB.out | apply below_alloc | apply pw_below_drewN | apply below_drew1 | refine below_set ?_ GE238.out) | exact HB.out)) hb); clear BK238; clear HB; have HO243 := n0_; have BK238 := n1_; have HB := n2_; clear n0_ n1_ n2_; (try clear hb); (try clear hb2); (try clear hk); (try clear hi); (try clear ho0); have hcz18_0 : w17.cell? ⟨gb238, 0, none⟩ = some (.int .i64 a0_0) := (blk_cell BK238.out 0).trans rfl; have hcz18_1 : w17.cell? ⟨gb238, 1, none⟩ = some (.int .i64 a0_1) := (blk_cell BK238.out 1).trans rfl; have hcz18_2 : w17.cell? ⟨gb238, 2, none⟩ = some (.int .i64 a0_2) := (blk_cell BK238.out 2).trans rfl; have hcz18_3 : w17.cell? ⟨gb238, 3, none⟩ = some (.slice A0_3 l0_3.length c0_3) := (blk_cell BK238.out 3).trans rfl; have hfz18_0 := blk_frozen BK238.out 0; have hfz18_1 := blk_frozen BK238.out 1; have hfz18_2 := blk_frozen BK238.out 2; have hfz18_3 := blk_frozen BK238.out 3) | (go_at_call 15; (with_reducible refine (plane_Near.calls kj2 a0_0 a0_1 a0_2 _ _ l0_3 t244 _ ?side1 ?side2 A14.out).mono ?_); (case side1 => repeat (first | exact (Kd.C_below HR0_3.out HB.out) | (with_reducible refine Kd.C_alloc ?_ _) | (with_reducible refine Kd.C_drewN ?_ _) | (with_reducible refine Kd.C_drew ?_))); (case side2 => exact HC0_3.out); rintro e w19 ⟨v245, rfl, ho0, hb⟩; have n0_ := Aside0.mk (Kd.S_elder' (by (with_reducible repeat (first | apply Kd.S_alloc | apply Kd.S_drewN | apply Kd.S_drew)); exact HO243.out) (Kd.R_base ho0) hb); have n1_ := Aside0.mk (Kd.R_lower ho0 (below_size (by repeat (first | (with_reducible first | exact HB.out | apply below_alloc | apply pw_below_drewN | apply below_drew1 | refine below_set ?_ GE238.out) | exact HB.out)))); have n2_ := Aside0.mk (blk_below (g := gb238) (o := .cells #[.int .i64 a0_0, .int .i64 a0_1, .int .i64 a0_2, .slice A0_3 l0_3.length c0_3] 26 (0, 0)) (by (with_reducible repeat (first | refine blk_drewN ?_ _ | refine blk_drew ?_ | refine blk_alloc ?_ _)); exact BK238.out) hb); have n3_ := Aside0.mk (below_step (by repeat (first | (with_reducible first | exact HB.out | apply below_alloc | apply pw_below_drewN | apply below_drew1 | refine below_set ?_ GE238.out) | exact HB.out)) hb); clear HO243; clear BK238; clear HB; have HO243 := n0_; have HO246 := n1_; have BK238 := n2_; have HB := n3_; clear n0_ n1_ n2_ n3_; (try clear hb); (try clear hb2); (try clear hk); (try clear hi); (try clear ho0)))
        repeat (go_quiet (first | (go_at_call 12; (with_reducible refine (plane_Matrix.calls kj2 a0_0 a0_1 a0_2 _ _ l0_3 t241 _ ?side1 ?side2 A13.out).mono ?_); (case side1 => repeat (first | exact (Kd.C_below HR0_3.out HB.out) | (with_reducible refine Kd.C_alloc ?_ _) | (with_reducible refine Kd.C_drewN ?_ _) | (with_reducible refine Kd.C_drew ?_))); (case side2 => exact HC0_3.out); rintro e w17 ⟨v242, rfl, ho0, hb⟩; have n0_ := Aside0.mk (Kd.S_lower ho0 (below_size (by repeat (first | (with_reducible first | exact HB.out | apply below_alloc | apply pw_below_drewN | apply below_drew1 | refine below_set ?_ GE238.out) | exact HB.out)))); have n1_ := Aside0.mk (blk_below (g := gb238) (o := .cells #[.int .i64 a0_0, .int .i64 a0_1, .int .i64 a0_2, .slice A0_3 l0_3.length c0_3] 26 (0, 0)) (by (with_reducible repeat (first | refine blk_drewN ?_ _ | refine blk_drew ?_ | refine blk_alloc ?_ _)); exact BK238.out) hb); have n2_ := Aside0.mk (below_step (by repeat (first | (with_reducible first | exact HB.out | apply below_alloc | apply pw_below_drewN | apply below_drew1 | refine below_set ?_ GE238.out) | exact HB.out)) hb); clear BK238; clear HB; have HO243 := n0_; have BK238 := n1_; have HB := n2_; clear n0_ n1_ n2_; (try clear hb); (try clear hb2); (try clear hk); (try clear hi); (try clear ho0); have hcz18_0 : w17.cell? ⟨gb238, 0, none⟩ = some (.int .i64 a0_0) := (blk_cell BK238.out 0).trans rfl; have hcz18_1 : w17.cell? ⟨gb238, 1, none⟩ = some (.int .i64 a0_1) := (blk_cell BK238.out 1).trans rfl; have hcz18_2 : w17.cell? ⟨gb238, 2, none⟩ = some (.int .i64 a0_2) := (blk_cell BK238.out 2).trans rfl; have hcz18_3 : w17.cell? ⟨gb238, 3, none⟩ = some (.slice A0_3 l0_3.length c0_3) := (blk_cell BK238.out 3).trans rfl; have hfz18_0 := blk_frozen BK238.out 0; have hfz18_1 := blk_frozen BK238.out 1; have hfz18_2 := blk_frozen BK238.out 2; have hfz18_3 := blk_frozen BK238.out 3) | (go_at_call 15; (with_reducible refine (plane_Near.calls kj2 a0_0 a0_1 a0_2 _ _ l0_3 t244 _ ?side1 ?side2 A14.out).mono ?_); (case side1 => repeat (first | exact (Kd.C_below HR0_3.out HB.out) | (with_reducible refine Kd.C_alloc ?_ _) | (with_reducible refine Kd.C_drewN ?_ _) | (with_reducible refine Kd.C_drew ?_))); (case side2 => exact HC0_3.out); rintro e w19 ⟨v245, rfl, ho0, hb⟩; have n0_ := Aside0.mk (Kd.S_elder' (by (with_reducible repeat (first | apply Kd.S_alloc | apply Kd.S_drewN | apply Kd.S_drew)); exact HO243.out) (Kd.R_base ho0) hb); have n1_ := Aside0.mk (Kd.R_lower ho0 (below_size (by repeat (first | (with_reducible first | exact HB.out | apply below_alloc | apply pw_below_drewN | apply below_drew1 | refine below_set ?_ GE238.out) | exact HB.out)))); have n2_ := Aside0.mk (blk_below (g := gb238) (o := .cells #[.int .i64 a0_0, .int .i64 a0_1, .int .i64 a0_2, .slice A0_3 l0_3.length c0_3] 26 (0, 0)) (by (with_reducible repeat (first | refine blk_drewN ?_ _ | refine blk_drew ?_ | refine blk_alloc ?_ _)); exact BK238.out) hb); have n3_ := Aside0.mk (below_step (by repeat (first | (with_reducible first | exact HB.out | apply below_alloc | apply pw_below_drewN | apply below_drew1 | refine below_set ?_ GE238.out) | exact HB.out)) hb); clear HO243; clear BK238; clear HB; have HO243 := n0_; have HO246 := n1_; have BK238 := n2_; have HB := n3_; clear n0_ n1_ n2_ n3_; (try clear hb); (try clear hb2); (try clear hk); (try clear hi); (try clear ho0))); go_upto_region 6 with (first | (go_at_call 12; (with_reducible refine (plane_Matrix.calls kj2 a0_0 a0_1 a0_2 _ _ l0_3 t241 _ ?side1 ?side2 A13.out).mono ?_); (case side1 => repeat (first | exact (Kd.C_below HR0_3.out HB.out) | (with_reducible refine Kd.C_alloc ?_ _) | (with_reducible refine Kd.C_drewN ?_ _) | (with_reducible refine Kd.C_drew ?_))); (case side2 => exact HC0_3.out); rintro e w17 ⟨v242, rfl, ho0, hb⟩; have n0_ := Aside0.mk (Kd.S_lower ho0 (below_size (by repeat (first | (with_reducible first | exact HB.out | apply below_alloc | apply pw_below_drewN | apply below_drew1 | refine below_set ?_ GE238.out) | exact HB.out)))); have n1_ := Aside0.mk (blk_below (g := gb238) (o := .cells #[.int .i64 a0_0, .int .i64 a0_1, .int .i64 a0_2, .slice A0_3 l0_3.length c0_3] 26 (0, 0)) (by (with_reducible repeat (first | refine blk_drewN ?_ _ | refine blk_drew ?_ | refine blk_alloc ?_ _)); exact BK238.out) hb); have n2_ := Aside0.mk (below_step (by repeat (first | (with_reducible first | exact HB.out | apply below_alloc | apply pw_below_drewN | apply below_drew1 | refine below_set ?_ GE238.out) | exact HB.out)) hb); clear BK238; clear HB; have HO243 := n0_; have BK238 := n1_; have HB := n2_; clear n0_ n1_ n2_; (try clear hb); (try clear hb2); (try clear hk); (try clear hi); (try clear ho0); have hcz18_0 : w17.cell? ⟨gb238, 0, none⟩ = some (.int .i64 a0_0) := (blk_cell BK238.out 0).trans rfl; have hcz18_1 : w17.cell? ⟨gb238, 1, none⟩ = some (.int .i64 a0_1) := (blk_cell BK238.out 1).trans rfl; have hcz18_2 : w17.cell? ⟨gb238, 2, none⟩ = some (.int .i64 a0_2) := (blk_cell BK238.out 2).trans rfl; have hcz18_3 : w17.cell? ⟨gb238, 3, none⟩ = some (.slice A0_3 l0_3.length c0_3) := (blk_cell BK238.out 3).trans rfl; have hfz18_0 := blk_frozen BK238.out 0; have hfz18_1 := blk_frozen BK238.out 1; have hfz18_2 := blk_frozen BK238.out 2; have hfz18_3 := blk_frozen BK238.out 3) | (go_at_call 15; (with_reducible refine (plane_Near.calls kj2 a0_0 a0_1 a0_2 _ _ l0_3 t244 _ ?side1 ?side2 A14.out).mono ?_); (case side1 => repeat (first | exact (Kd.C_below HR0_3.out HB.out) | (with_reducible refine Kd.C_alloc ?_ _) | (with_reducible refine Kd.C_drewN ?_ _) | (with_reducible refine Kd.C_drew ?_))); (case side2 => exact HC0_3.out); rintro e w19 ⟨v245, rfl, ho0, hb⟩; have n0_ := Aside0.mk (Kd.S_elder' (by (with_reducible repeat (first | apply Kd.S_alloc | apply Kd.S_drewN | apply Kd.S_drew)); exact HO243.out) (Kd.R_base ho0) hb); have n1_ := Aside0.mk (Kd.R_lower ho0 (below_size (by repeat (first | (with_reducible first | exact HB.out | apply below_alloc | apply pw_below_drewN | apply below_drew1 | refine below_set ?_ GE238.out) | exact HB.out)))); have n2_ := Aside0.mk (blk_below (g := gb238) (o := .cells #[.int .i64 a0_0, .int .i64 a0_1, .int .i64 a0_2, .slice A0_3 l0_3.length c0_3] 26 (0, 0)) (by (with_reducible repeat (first | refine blk_drewN ?_ _ | refine blk_drew ?_ | refine blk_alloc ?_ _)); exact BK238.out) hb); have n3_ := Aside0.mk (below_step (by repeat (first | (with_reducible first | exact HB.out | apply below_alloc | apply pw_below_drewN | apply below_drew1 | refine below_set ?_ GE238.out) | exact HB.out)) hb); clear HO243; clear BK238; clear HB; have HO243 := n0_; have HO246 := n1_; have BK238 := n2_; have HB := n3_; clear n0_ n1_ n2_ n3_; (try clear hb); (try clear hb2); (try clear hk); (try clear hi); (try clear ho0))))
        (try simp only [Act.put, List.setIfInBounds_toArray, List.set_cons_zero, List.set_cons_succ])
        go_cut [41] (fun v41 wc => ∃ (kq : Nat) (x41_14 : Bool), v41 = .bool x41_14 ∧ Aside0 (haulierlaw06_PlaneNear.j1 kq t241 t244 x41_14 = some r) ∧ Aside0 (kq ≤ kj2) ∧ Aside0 (Kd.S (Kd.slice 3 (Kd.int .i64)) 32 wc w.heap.size (fun k_ => some k_ ≠ (v245 : Value).ownBlock) v242 t241) ∧ Aside0 (Kd.R (Kd.int .i64) 3 wc w.heap.size (fun _ => True) v245 t244) ∧ Aside0 (wc.heap[gb238]? = some (.cells #[.int .i64 a0_0, .int .i64 a0_1, .int .i64 a0_2, (.slice A0_3 l0_3.length c0_3)] 26 (0, 0))) ∧ Aside0 (Below w.heap.size w wc))
        case first =>
          have H := HC15.out
          clear HC15
          by_cases c20 : (t241.length : Int) = (l0_3.length : Int)
          · rw [if_pos c20] at H
            have c20b0 : ((t241.length : Int) == (l0_3.length : Int)) = true := beq_iff_eq.mpr c20
            have c20b1 : ((t241.length : Int) != (l0_3.length : Int)) = false := bne_eq_false_iff_eq.mpr c20
            have c20b2 : (t241.length == l0_3.length) = true := by first | simpa using c20 | (simp at c20 ⊢; omega)
            clear c20
            (first | rw [c20b0] | (simp only [i64_w, i32_w]; rw [c20b0]) | skip)
            have H' := Aside0.mk H
            clear H
            obtain ⟨Ao21, co21, eo21⟩ := Kd.S_slice HO243.out
            subst eo21
            have hcz22_0 : w19.cell? ⟨gb238, 0, none⟩ = some (.int .i64 a0_0) := (blk_cell BK238.out 0).trans rfl
            have hcz22_1 : w19.cell? ⟨gb238, 1, none⟩ = some (.int .i64 a0_1) := (blk_cell BK238.out 1).trans rfl
            have hcz22_2 : w19.cell? ⟨gb238, 2, none⟩ = some (.int .i64 a0_2) := (blk_cell BK238.out 2).trans rfl
            have hcz22_3 : w19.cell? ⟨gb238, 3, none⟩ = some (.slice A0_3 l0_3.length c0_3) := (blk_cell BK238.out 3).trans rfl
            have hfz22_0 := blk_frozen BK238.out 0
            have hfz22_1 := blk_frozen BK238.out 1
            have hfz22_2 := blk_frozen BK238.out 2
            have hfz22_3 := blk_frozen BK238.out 3
            obtain ⟨Ao23, co23, eo23⟩ := Kd.R_slice HO246.out
            subst eo23
            go_wp2
            repeat (go_quiet (fail); try go_wp2)
            go_meet
            case rel => exact ⟨_, (((t244.length : Int) != (t241.length : Int))), (by first | rfl | (simp; done) | (simp [*]; done)), H', ⟨by have := HJ2.out; first | omega | exact Nat.le_refl _⟩, ⟨by (with_reducible repeat (first | apply Kd.S_alloc | apply Kd.S_drewN | apply Kd.S_drew)); exact Kd.S_mono HO243.out (fun _ hk => hk.2)⟩, ⟨by (with_reducible repeat (first | apply Kd.R_alloc | apply Kd.R_drewN | apply Kd.R_drew)); exact HO246.out⟩, ⟨by (with_reducible repeat (first | refine blk_drewN ?_ _ | refine blk_drew ?_ | refine blk_alloc ?_ _)); exact BK238.out⟩, ⟨by repeat (first | (with_reducible first | exact HB.out | apply below_alloc | apply pw_below_drewN | apply below_drew1 | refine below_set ?_ GE238.out) | exact HB.out)⟩⟩
          · rw [if_neg c20] at H
            have c20b0 : ((t241.length : Int) == (l0_3.length : Int)) = false := beq_eq_false_iff_ne.mpr c20
            have c20b1 : ((t241.length : Int) != (l0_3.length : Int)) = true := bne_iff_ne.mpr c20
            have c20b2 : (t241.length == l0_3.length) = false := by first | simpa using c20 | (simp at c20 ⊢; omega)
            (first | rw [c20b0] | (simp only [i64_w, i32_w]; rw [c20b0]) | skip)
            have H' := Aside0.mk H
            clear H
            obtain ⟨Ao24, co24, eo24⟩ := Kd.S_slice HO243.out
            subst eo24
            have hcz25_0 : w19.cell? ⟨gb238, 0, none⟩ = some (.int .i64 a0_0) := (blk_cell BK238.out 0).trans rfl
            have hcz25_1 : w19.cell? ⟨gb238, 1, none⟩ = some (.int .i64 a0_1) := (blk_cell BK238.out 1).trans rfl
            have hcz25_2 : w19.cell? ⟨gb238, 2, none⟩ = some (.int .i64 a0_2) := (blk_cell BK238.out 2).trans rfl
            have hcz25_3 : w19.cell? ⟨gb238, 3, none⟩ = some (.slice A0_3 l0_3.length c0_3) := (blk_cell BK238.out 3).trans rfl
            have hfz25_0 := blk_frozen BK238.out 0
            have hfz25_1 := blk_frozen BK238.out 1
            have hfz25_2 := blk_frozen BK238.out 2
            have hfz25_3 := blk_frozen BK238.out 3
            go_wp2
            repeat (go_quiet (fail); try go_wp2)
            go_meet
            case rel => exact ⟨_, (true), (by first | rfl | (simp; done) | (simp [*]; done)), H', ⟨by have := HJ2.out; first | omega | exact Nat.le_refl _⟩, ⟨by (with_reducible repeat (first | apply Kd.S_alloc | apply Kd.S_drewN | apply Kd.S_drew)); exact Kd.S_mono HO243.out (fun _ hk => hk.2)⟩, ⟨by (with_reducible repeat (first | apply Kd.R_alloc | apply Kd.R_drewN | apply Kd.R_drew)); exact HO246.out⟩, ⟨by (with_reducible repeat (first | refine blk_drewN ?_ _ | refine blk_drew ?_ | refine blk_alloc ?_ _)); exact BK238.out⟩, ⟨by repeat (first | (with_reducible first | exact HB.out | apply below_alloc | apply pw_below_drewN | apply below_drew1 | refine below_set ?_ GE238.out) | exact HB.out)⟩⟩
        case rest =>
          clear HC15
          try clear c1
          try clear c2
          try clear p2
          try clear c4
          try clear c6
          try clear c7
          try clear c7b0
          try clear c7b1
          try clear c12
          try clear c20
          try clear c20b0
          try clear c20b1
          try clear c20b2
          try clear hcz10_0
          try clear hcz10_1
          try clear hcz10_2
          try clear hcz10_3
          try clear hcz16_0
          try clear hcz16_1
          try clear hcz16_2
          try clear hcz16_3
          try clear hcz18_0
          try clear hcz18_1
          try clear hcz18_2
          try clear hcz18_3
          try clear hcz22_0
          try clear hcz22_1
          try clear hcz22_2
          try clear hcz22_3
          try clear hcz25_0
          try clear hcz25_1
          try clear hcz25_2
          try clear hcz25_3
          try clear hcz8_0
          try clear hcz8_1
          try clear hcz8_2
          try clear hcz8_3
          try clear hfz10_0
          try clear hfz10_1
          try clear hfz10_2
          try clear hfz10_3
          try clear hfz16_0
          try clear hfz16_1
          try clear hfz16_2
          try clear hfz16_3
          try clear hfz18_0
          try clear hfz18_1
          try clear hfz18_2
          try clear hfz18_3
          try clear hfz22_0
          try clear hfz22_1
          try clear hfz22_2
          try clear hfz22_3
          try clear hfz25_0
          try clear hfz25_1
          try clear hfz25_2
          try clear hfz25_3
          try clear hfz8_0
          try clear hfz8_1
          try clear hfz8_2
          try clear hfz8_3
          try clear p2
          obtain ⟨kq, x41_14, rfl, HA, HJ14, HO_4, HO_5, BK238, HB⟩ := hcut
          cases kq with
          | zero => exact absurd HA.out (by simp [haulierlaw06_PlaneNear.j1])
          | succ kj14 =>
            have H := HA.out
            clear HA
            simp only [haulierlaw06_PlaneNear.j1] at H
            by_cases c26 : x41_14 = true
            · subst c26
              have H1 : (none) = some r := by rw [if_pos rfl] at H; exact H
              clear H
              have H := H1
              clear H1
              exact absurd H (by simp)
            · replace c26 := Bool.eq_false_iff.mpr c26
              subst c26
              have H1 : (haulierlaw06_PlaneNear.l0 kj14 t241 t244 0) = some r := by rw [if_neg (show ¬ (false = true) by decide)] at H; exact H
              clear H
              have H := H1
              clear H1
              have H' := Aside0.mk H
              clear H
              go_wp2
              repeat (go_quiet (fail); try go_wp2)
              go_loopg [6] kj14 (fun kq v6 w' => ∃ (x6_3 : Int), v6 = .int .i64 x6_3 ∧ Aside0 (haulierlaw06_PlaneNear.l0 kq t241 t244 x6_3 = some r) ∧ Aside0 (kq ≤ kj14) ∧ Aside0 (Kd.S (Kd.slice 3 (Kd.int .i64)) 32 w' w.heap.size (fun k_ => some k_ ≠ (v245 : Value).ownBlock) v242 t241) ∧ Aside0 (Kd.R (Kd.int .i64) 3 w' w.heap.size (fun _ => True) v245 t244) ∧ Aside0 (w'.heap[gb238]? = some (.cells #[.int .i64 a0_0, .int .i64 a0_1, .int .i64 a0_2, (.slice A0_3 l0_3.length c0_3)] 26 (0, 0))) ∧ Aside0 (Below w.heap.size w w'))
              case atStart => exact ⟨(0), (by first | rfl | (simp; done) | (simp [*]; done)), H', ⟨Nat.le_refl _⟩, ⟨by (with_reducible repeat (first | apply Kd.S_alloc | apply Kd.S_drewN | apply Kd.S_drew)); exact HO_4.out⟩, ⟨by (with_reducible repeat (first | apply Kd.R_alloc | apply Kd.R_drewN | apply Kd.R_drew)); exact HO_5.out⟩, ⟨by (with_reducible repeat (first | refine blk_drewN ?_ _ | refine blk_drew ?_ | refine blk_alloc ?_ _)); exact BK238.out⟩, ⟨by repeat (first | (with_reducible first | exact HB.out | apply below_alloc | apply pw_below_drewN | apply below_drew1 | refine below_set ?_ GE238.out) | exact HB.out)⟩⟩
              case round =>
                clear H'
                try clear c1
                try clear c2
                try clear p2
                try clear c4
                try clear c6
                try clear c7
                try clear c7b0
                try clear c7b1
                try clear c12
                try clear c20
                try clear c20b0
                try clear c20b1
                try clear c20b2
                try clear c26
                try clear hcz10_0
                try clear hcz10_1
                try clear hcz10_2
                try clear hcz10_3
                try clear hcz16_0
                try clear hcz16_1
                try clear hcz16_2
                try clear hcz16_3
                try clear hcz18_0
                try clear hcz18_1
                try clear hcz18_2
                try clear hcz18_3
                try clear hcz22_0
                try clear hcz22_1
                try clear hcz22_2
                try clear hcz22_3
                try clear hcz25_0
                try clear hcz25_1
                try clear hcz25_2
                try clear hcz25_3
                try clear hcz8_0
                try clear hcz8_1
                try clear hcz8_2
                try clear hcz8_3
                try clear hfz10_0
                try clear hfz10_1
                try clear hfz10_2
                try clear hfz10_3
                try clear hfz16_0
                try clear hfz16_1
                try clear hfz16_2
                try clear hfz16_3
                try clear hfz18_0
                try clear hfz18_1
                try clear hfz18_2
                try clear hfz18_3
                try clear hfz22_0
                try clear hfz22_1
                try clear hfz22_2
                try clear hfz22_3
                try clear hfz25_0
                try clear hfz25_1
                try clear hfz25_2
                try clear hfz25_3
                try clear hfz8_0
                try clear hfz8_1
                try clear hfz8_2
                try clear hfz8_3
                try clear p2
                obtain ⟨x6_3, rfl, HA, HK3, HO_4, HO_5, BK238, HB⟩ := hrel
                cases gk with
                | zero => exact absurd HA.out (by simp [haulierlaw06_PlaneNear.l0])
                | succ k3 =>
                  have H := HA.out
                  clear HA
                  simp only [haulierlaw06_PlaneNear.l0] at H
                  by_cases c27 : x6_3 < (t241.length : Int)
                  · rw [if_pos c27] at H
                    have c27b0 : decide (x6_3 < (t241.length : Int)) = true := decide_eq_true c27
                    clear c27
                    by_cases c28 : 0 ≤ x6_3
                    · rw [if_pos c28] at H
                      have c28b0 : decide (0 ≤ x6_3) = true := decide_eq_true c28
                      clear c28
                      by_cases c29 : ((rd_L2 t241 x6_3).length : Int) = (t241.length : Int)
                      · rw [if_pos c29] at H
                        have c29b0 : (((rd_L2 t241 x6_3).length : Int) == (t241.length : Int)) = true := beq_iff_eq.mpr c29
                        have c29b1 : (((rd_L2 t241 x6_3).length : Int) != (t241.length : Int)) = false := bne_eq_false_iff_eq.mpr c29
                        have c29b2 : ((rd_L2 t241 x6_3).length == t241.length) = true := by first | simpa using c29 | (simp at c29 ⊢; omega)
                        clear c29
                        by_cases c30 : x6_3 < ((rd_L2 t241 x6_3).length : Int)
                        · rw [if_pos c30] at H
                          have c30b0 : decide (x6_3 < ((rd_L2 t241 x6_3).length : Int)) = true := decide_eq_true c30
                          clear c30
                          by_cases c31 : (rd (rd_L2 t241 x6_3) x6_3) = 0
                          · rw [if_pos c31] at H
                            have c31b0 : ((rd (rd_L2 t241 x6_3) x6_3) == 0) = true := beq_iff_eq.mpr c31
                            have c31b1 : ((rd (rd_L2 t241 x6_3) x6_3) != 0) = false := bne_eq_false_iff_eq.mpr c31
                            clear c31
                            have H' := Aside0.mk H
                            clear H
                            obtain ⟨Ao32, co32, eo32⟩ := Kd.S_slice HO_4.out
                            subst eo32
                            have p247 : 0 ≤ (x6_3 : Int) := of_decide_eq_true (by first | (with_reducible assumption) | assumption)
                            have q247 : x6_3 < (t241.length : Int) := of_decide_eq_true (by first | (with_reducible assumption) | assumption)
                            obtain ⟨ad247, A247_0, c247_0, e247, hx247_0, hl247_0, hi247_0⟩ := at_L2 (Kd.S_reads' HO_4.out).2.2 x6_3 p247 q247
                            cases e247
                            obtain ⟨ce247, hce247, hMe247, hcc247⟩ := Kd.S_get HO_4.out [] x6_3 p247 (by first | exact q247 | exact of_decide_eq_true (by first | (with_reducible assumption) | assumption) | (have e_ := (Kd.S_reads' HO_4.out).1; omega))
                            obtain ⟨ve247_0, rfl, ge247_0⟩ := hMe247
                            have hv247_0 := hcc247 0 _ rfl
                            rw [Nat.add_zero, show ((Kd.slice 3 (Kd.int .i64))).sz = 1 from rfl, Nat.mul_one] at hv247_0
                            replace hv247_0 := Option.some.inj (hv247_0.symm.trans hx247_0)
                            rw [hv247_0] at ge247_0
                            have HL247_0 := Aside0.mk (show Kd.R (Kd.int .i64) 3 _ _ _ _ (rd_L2 t241 x6_3) from ge247_0)
                            clear hv247_0 ge247_0
                            clear hcc247 hce247
                            have HR247_0 := Aside0.mk hi247_0
                            have HC247_0 := Aside0.mk hl247_0
                            clear hi247_0 hl247_0
                            replace p247 := eq_true p247
                            replace q247 := eq_true q247
                            have p248 : 0 ≤ (x6_3 : Int) := of_decide_eq_true (by first | (with_reducible assumption) | assumption)
                            have q248 : x6_3 < (t241.length : Int) := of_decide_eq_true (by first | (with_reducible assumption) | assumption)
                            obtain ⟨ad248, A248_0, c248_0, e248, hx248_0, hl248_0, hi248_0⟩ := at_L2 (Kd.S_reads' HO_4.out).2.2 x6_3 p248 q248
                            obtain rfl : ad247 = ad248 := (by injection e248)
                            obtain ⟨ce248, hce248, hMe248, hcc248⟩ := Kd.S_get HO_4.out [] x6_3 p248 (by first | exact q248 | exact of_decide_eq_true (by first | (with_reducible assumption) | assumption) | (have e_ := (Kd.S_reads' HO_4.out).1; omega))
                            obtain ⟨ve248_0, rfl, ge248_0⟩ := hMe248
                            have hv248_0 := hcc248 0 _ rfl
                            rw [Nat.add_zero, show ((Kd.slice 3 (Kd.int .i64))).sz = 1 from rfl, Nat.mul_one] at hv248_0
                            replace hv248_0 := Option.some.inj (hv248_0.symm.trans hx248_0)
                            rw [hv248_0] at ge248_0
                            have HL248_0 := Aside0.mk (show Kd.R (Kd.int .i64) 3 _ _ _ _ (rd_L2 t241 x6_3) from ge248_0)
                            clear hv248_0 ge248_0
                            clear hcc248 hce248
                            have HR248_0 := Aside0.mk hi248_0
                            have HC248_0 := Aside0.mk hl248_0
                            clear hi248_0 hl248_0
                            replace p248 := eq_true p248
                            replace q248 := eq_true q248
                            have ea_ := Option.some.inj (hx247_0.symm.trans hx248_0)
                            injection ea_ with ea_ en_ ec_
                            subst ea_
                            subst ec_
                            clear en_
                            have p249 : 0 ≤ (x6_3 : Int) := of_decide_eq_true (by first | (with_reducible assumption) | assumption)
                            have q249 : x6_3 < ((rd_L2 t241 x6_3).length : Int) := of_decide_eq_true (by first | (with_reducible assumption) | assumption)
                            obtain ⟨ad249, e249, hx249_0⟩ := Kd.at_int (by repeat (first | (with_reducible exact HR248_0.out) | (with_reducible refine Kd.C_alloc ?_ _) | (with_reducible refine Kd.C_drewN ?_ _) | (with_reducible refine Kd.C_drew ?_) | exact HR248_0.out)) x6_3 p249 q249
                            cases e249
                            replace p249 := eq_true p249
                            replace q249 := eq_true q249
                            go_wp2
                            repeat (go_quiet (fail); try go_wp2)
                            go_roundg k3
                            case measure => have := HJ2.out; have := HJ14.out; have := HK3.out; omega
                            case rel => exact ⟨(wrap64 (x6_3 + 1)), (by first | rfl | (simp; done) | (simp [*]; done)), H', ⟨by have := HJ2.out; have := HJ14.out; have := HK3.out; omega⟩, ⟨by (with_reducible repeat (first | apply Kd.S_alloc | apply Kd.S_drewN | apply Kd.S_drew)); exact HO_4.out⟩, ⟨by (with_reducible repeat (first | apply Kd.R_alloc | apply Kd.R_drewN | apply Kd.R_drew)); exact HO_5.out⟩, ⟨by (with_reducible repeat (first | refine blk_drewN ?_ _ | refine blk_drew ?_ | refine blk_alloc ?_ _)); exact BK238.out⟩, ⟨by repeat (first | (with_reducible first | exact HB.out | apply below_alloc | apply pw_below_drewN | apply below_drew1 | refine below_set ?_ GE238.out) | exact HB.out)⟩⟩
                          · rw [if_neg c31] at H
                            exact absurd H (by simp)
                        · rw [if_neg c30] at H
                          exact absurd H (by simp)
                      · rw [if_neg c29] at H
                        exact absurd H (by simp)
                    · rw [if_neg c28] at H
                      exact absurd H (by simp)
                  · rw [if_neg c27] at H
                    have c27b0 : decide (x6_3 < (t241.length : Int)) = false := decide_eq_false c27
                    clear c27
                    have H' := Aside0.mk H
                    clear H
                    obtain ⟨Ao33, co33, eo33⟩ := Kd.S_slice HO_4.out
                    subst eo33
                    go_wp2
                    repeat (go_quiet (fail); try go_wp2)
                    go_loopg [7] k3 (fun kq v7 w' => ∃ (x7_4 : Int), v7 = .int .i64 x7_4 ∧ Aside0 (haulierlaw06_PlaneNear.l1 kq t241 t244 x7_4 = some r) ∧ Aside0 (kq ≤ k3) ∧ Aside0 (Kd.S (Kd.slice 3 (Kd.int .i64)) 32 w' w.heap.size (fun k_ => some k_ ≠ (v245 : Value).ownBlock) (.slice Ao33 t241.length co33) t241) ∧ Aside0 (Kd.R (Kd.int .i64) 3 w' w.heap.size (fun _ => True) v245 t244) ∧ Aside0 (w'.heap[gb238]? = some (.cells #[.int .i64 a0_0, .int .i64 a0_1, .int .i64 a0_2, (.slice A0_3 l0_3.length c0_3)] 26 (0, 0))) ∧ Aside0 (Below w.heap.size w w'))
                    case atStart => exact ⟨(0), (by first | rfl | (simp; done) | (simp [*]; done)), H', ⟨Nat.le_refl _⟩, ⟨by (with_reducible repeat (first | apply Kd.S_alloc | apply Kd.S_drewN | apply Kd.S_drew)); exact HO_4.out⟩, ⟨by (with_reducible repeat (first | apply Kd.R_alloc | apply Kd.R_drewN | apply Kd.R_drew)); exact HO_5.out⟩, ⟨by (with_reducible repeat (first | refine blk_drewN ?_ _ | refine blk_drew ?_ | refine blk_alloc ?_ _)); exact BK238.out⟩, ⟨by repeat (first | (with_reducible first | exact HB.out | apply below_alloc | apply pw_below_drewN | apply below_drew1 | refine below_set ?_ GE238.out) | exact HB.out)⟩⟩
                    case round =>
                      clear H'
                      try clear c1
                      try clear c2
                      try clear p2
                      try clear q2
                      try clear hx2
                      try clear c3
                      try clear c4
                      try clear c6
                      try clear p6
                      try clear c7
                      try clear c7b0
                      try clear c7b1
                      try clear c12
                      try clear c20
                      try clear c20b0
                      try clear c20b1
                      try clear c20b2
                      try clear c24
                      try clear p24
                      try clear q24
                      try clear hx24
                      try clear c26
                      try clear c27
                      try clear c27b0
                      try clear c28
                      try clear c28b0
                      try clear c29
                      try clear c29b0
                      try clear c29b1
                      try clear c29b2
                      try clear c30
                      try clear c30b0
                      try clear c31
                      try clear c31b0
                      try clear c31b1
                      try clear hcz10_0
                      try clear hcz10_1
                      try clear hcz10_2
                      try clear hcz10_3
                      try clear hcz16_0
                      try clear hcz16_1
                      try clear hcz16_2
                      try clear hcz16_3
                      try clear hcz18_0
                      try clear hcz18_1
                      try clear hcz18_2
                      try clear hcz18_3
                      try clear hcz22_0
                      try clear hcz22_1
                      try clear hcz22_2
                      try clear hcz22_3
                      try clear hcz25_0
                      try clear hcz25_1
                      try clear hcz25_2
                      try clear hcz25_3
                      try clear hcz8_0
                      try clear hcz8_1
                      try clear hcz8_2
                      try clear hcz8_3
                      try clear hfz10_0
                      try clear hfz10_1
                      try clear hfz10_2
                      try clear hfz10_3
                      try clear hfz16_0
                      try clear hfz16_1
                      try clear hfz16_2
                      try clear hfz16_3
                      try clear hfz18_0
                      try clear hfz18_1
                      try clear hfz18_2
                      try clear hfz18_3
                      try clear hfz22_0
                      try clear hfz22_1
                      try clear hfz22_2
                      try clear hfz22_3
                      try clear hfz25_0
                      try clear hfz25_1
                      try clear hfz25_2
                      try clear hfz25_3
                      try clear hfz8_0
                      try clear hfz8_1
                      try clear hfz8_2
                      try clear hfz8_3
                      try clear hx247_0
                      try clear hx248_0
                      try clear hx249_0
                      try clear p2
                      try clear p247
                      try clear p248
                      try clear p249
                      try clear q247
                      try clear q248
                      try clear q249
                      obtain ⟨x7_4, rfl, HA, HK4, HO_4, HO_5, BK238, HB⟩ := hrel
                      cases gk with
                      | zero => exact absurd HA.out (by simp [haulierlaw06_PlaneNear.l1])
                      | succ k4 =>
                        have H := HA.out
                        clear HA
                        simp only [haulierlaw06_PlaneNear.l1] at H
                        by_cases c34 : x7_4 < (t241.length : Int)
                        · rw [if_pos c34] at H
                          have c34b0 : decide (x7_4 < (t241.length : Int)) = true := decide_eq_true c34
                          clear c34
                          have HC35 := Aside0.mk H
                          clear H
                          go_upto_region 16 with (fail)
                          repeat (go_quiet (fail); go_upto_region 16 with (fail))
                          go_cut [8] (fun v8 wc => ∃ (kq : Nat) (x8_34 : Bool), v8 = .bool x8_34 ∧ Aside0 (haulierlaw06_PlaneNear.j4 kq t241 t244 x7_4 x8_34 = some r) ∧ Aside0 (kq ≤ k4) ∧ Aside0 (Kd.S (Kd.slice 3 (Kd.int .i64)) 32 wc w.heap.size (fun k_ => some k_ ≠ (v245 : Value).ownBlock) (.slice Ao33 t241.length co33) t241) ∧ Aside0 (Kd.R (Kd.int .i64) 3 wc w.heap.size (fun _ => True) v245 t244) ∧ Aside0 (wc.heap[gb238]? = some (.cells #[.int .i64 a0_0, .int .i64 a0_1, .int .i64 a0_2, (.slice A0_3 l0_3.length c0_3)] 26 (0, 0))) ∧ Aside0 (Below w.heap.size w wc))
                          case first =>
                            have H := HC35.out
                            clear HC35
                            by_cases c36 : (t241.length : Int) = 1
                            · rw [if_pos c36] at H
                              have c36b0 : ((t241.length : Int) == 1) = true := beq_iff_eq.mpr c36
                              have c36b1 : ((t241.length : Int) != 1) = false := bne_eq_false_iff_eq.mpr c36
                              clear c36
                              (first | rw [c36b0] | (simp only [i64_w, i32_w]; rw [c36b0]) | skip)
                              by_cases c37 : 0 ≤ x7_4
                              · rw [if_pos c37] at H
                                have c37b0 : decide (0 ≤ x7_4) = true := decide_eq_true c37
                                clear c37
                                by_cases c38 : x7_4 < (t244.length : Int)
                                · rw [if_pos c38] at H
                                  have c38b0 : decide (x7_4 < (t244.length : Int)) = true := decide_eq_true c38
                                  clear c38
                                  have H' := Aside0.mk H
                                  clear H
                                  obtain ⟨Ao39, co39, eo39⟩ := Kd.R_slice HO_5.out
                                  subst eo39
                                  have p250 : 0 ≤ (x7_4 : Int) := of_decide_eq_true (by first | (with_reducible assumption) | assumption)
                                  have q250 : x7_4 < (t244.length : Int) := of_decide_eq_true (by first | (with_reducible assumption) | assumption)
                                  obtain ⟨ad250, e250, hx250_0⟩ := Kd.at_int (Kd.R_reads' HO_5.out).2.2 x7_4 p250 q250
                                  cases e250
                                  replace p250 := eq_true p250
                                  replace q250 := eq_true q250
                                  go_wp2
                                  repeat (go_quiet (fail); try go_wp2)
                                  go_meet
                                  case rel => exact ⟨_, (((rd t244 x7_4) == 0)), (by first | rfl | (simp; done) | (simp [*]; done)), H', ⟨by have := HJ2.out; have := HJ14.out; have := HK3.out; have := HK4.out; first | omega | exact Nat.le_refl _⟩, ⟨by (with_reducible repeat (first | apply Kd.S_alloc | apply Kd.S_drewN | apply Kd.S_drew)); exact HO_4.out⟩, ⟨by (with_reducible repeat (first | apply Kd.R_alloc | apply Kd.R_drewN | apply Kd.R_drew)); exact HO_5.out⟩, ⟨by (with_reducible repeat (first | refine blk_drewN ?_ _ | refine blk_drew ?_ | refine blk_alloc ?_ _)); exact BK238.out⟩, ⟨by repeat (first | (with_reducible first | exact HB.out | apply below_alloc | apply pw_below_drewN | apply below_drew1 | refine below_set ?_ GE238.out) | exact HB.out)⟩⟩
                                · rw [if_neg c38] at H
                                  exact absurd H (by simp)
                              · rw [if_neg c37] at H
                                exact absurd H (by simp)
                            · rw [if_neg c36] at H
                              have c36b0 : ((t241.length : Int) == 1) = false := beq_eq_false_iff_ne.mpr c36
                              have c36b1 : ((t241.length : Int) != 1) = true := bne_iff_ne.mpr c36
                              (first | rw [c36b0] | (simp only [i64_w, i32_w]; rw [c36b0]) | skip)
                              have H' := Aside0.mk H
                              clear H
                              go_wp2
                              repeat (go_quiet (fail); try go_wp2)
                              go_meet
                              case rel => exact ⟨_, (false), (by first | rfl | (simp; done) | (simp [*]; done)), H', ⟨by have := HJ2.out; have := HJ14.out; have := HK3.out; have := HK4.out; first | omega | exact Nat.le_refl _⟩, ⟨by (with_reducible repeat (first | apply Kd.S_alloc | apply Kd.S_drewN | apply Kd.S_drew)); exact HO_4.out⟩, ⟨by (with_reducible repeat (first | apply Kd.R_alloc | apply Kd.R_drewN | apply Kd.R_drew)); exact HO_5.out⟩, ⟨by (with_reducible repeat (first | refine blk_drewN ?_ _ | refine blk_drew ?_ | refine blk_alloc ?_ _)); exact BK238.out⟩, ⟨by repeat (first | (with_reducible first | exact HB.out | apply below_alloc | apply pw_below_drewN | apply below_drew1 | refine below_set ?_ GE238.out) | exact HB.out)⟩⟩
                          case rest =>
                            clear HC35
                            try clear c1
                            try clear c2
                            try clear p2
                            try clear q2
                            try clear hx2
                            try clear c3
                            try clear c4
                            try clear c6
                            try clear p6
                            try clear c7
                            try clear c7b0
                            try clear c7b1
                            try clear c12
                            try clear c20
                            try clear c20b0
                            try clear c20b1
                            try clear c20b2
                            try clear c24
                            try clear p24
                            try clear q24
                            try clear hx24
                            try clear p25
                            try clear q25
                            try clear hx25
                            try clear c26
                            try clear c27
                            try clear c27b0
                            try clear c28
                            try clear c28b0
                            try clear c29
                            try clear c29b0
                            try clear c29b1
                            try clear c29b2
                            try clear c30
                            try clear c30b0
                            try clear c31
                            try clear c31b0
                            try clear c31b1
                            try clear c34
                            try clear c34b0
                            try clear c36
                            try clear c36b0
                            try clear c36b1
                            try clear c37
                            try clear c37b0
                            try clear c38
                            try clear c38b0
                            try clear hcz10_0
                            try clear hcz10_1
                            try clear hcz10_2
                            try clear hcz10_3
                            try clear hcz16_0
                            try clear hcz16_1
                            try clear hcz16_2
                            try clear hcz16_3
                            try clear hcz18_0
                            try clear hcz18_1
                            try clear hcz18_2
                            try clear hcz18_3
                            try clear hcz22_0
                            try clear hcz22_1
                            try clear hcz22_2
                            try clear hcz22_3
                            try clear hcz25_0
                            try clear hcz25_1
                            try clear hcz25_2
                            try clear hcz25_3
                            try clear hcz8_0
                            try clear hcz8_1
                            try clear hcz8_2
                            try clear hcz8_3
                            try clear hfz10_0
                            try clear hfz10_1
                            try clear hfz10_2
                            try clear hfz10_3
                            try clear hfz16_0
                            try clear hfz16_1
                            try clear hfz16_2
                            try clear hfz16_3
                            try clear hfz18_0
                            try clear hfz18_1
                            try clear hfz18_2
                            try clear hfz18_3
                            try clear hfz22_0
                            try clear hfz22_1
                            try clear hfz22_2
                            try clear hfz22_3
                            try clear hfz25_0
                            try clear hfz25_1
                            try clear hfz25_2
                            try clear hfz25_3
                            try clear hfz8_0
                            try clear hfz8_1
                            try clear hfz8_2
                            try clear hfz8_3
                            try clear hx247_0
                            try clear hx248_0
                            try clear hx249_0
                            try clear hx250_0
                            try clear p2
                            try clear p24
                            try clear p247
                            try clear p248
                            try clear p249
                            try clear p250
                            try clear p6
                            try clear q2
                            try clear q24
                            try clear q247
                            try clear q248
                            try clear q249
                            try clear q250
                            obtain ⟨kq, x8_34, rfl, HA, HJ34, HO_4, HO_5, BK238, HB⟩ := hcut
                            cases kq with
                            | zero => exact absurd HA.out (by simp [haulierlaw06_PlaneNear.j4])
                            | succ kj34 =>
                              have H := HA.out
                              clear HA
                              simp only [haulierlaw06_PlaneNear.j4] at H
                              have H' := Aside0.mk H
                              clear H
                              go_wp2
                              repeat (go_quiet (fail); try go_wp2)
                              go_loopg [8, 9] kj34 (fun kq v8 v9 w' => ∃ (x8_6 : Bool) (x9_6 : Int), v8 = .bool x8_6 ∧ v9 = .int .i64 x9_6 ∧ Aside0 (haulierlaw06_PlaneNear.l2 kq t241 t244 x7_4 x8_6 x9_6 = some r) ∧ Aside0 (kq ≤ kj34) ∧ Aside0 (Kd.S (Kd.slice 3 (Kd.int .i64)) 32 w' w.heap.size (fun k_ => some k_ ≠ (v245 : Value).ownBlock) (.slice Ao33 t241.length co33) t241) ∧ Aside0 (Kd.R (Kd.int .i64) 3 w' w.heap.size (fun _ => True) v245 t244) ∧ Aside0 (w'.heap[gb238]? = some (.cells #[.int .i64 a0_0, .int .i64 a0_1, .int .i64 a0_2, (.slice A0_3 l0_3.length c0_3)] 26 (0, 0))) ∧ Aside0 (Below w.heap.size w w'))
                              case atStart => exact ⟨(x8_34), (0), (by first | rfl | (simp; done) | (simp [*]; done)), (by first | rfl | (simp; done) | (simp [*]; done)), H', ⟨Nat.le_refl _⟩, ⟨by (with_reducible repeat (first | apply Kd.S_alloc | apply Kd.S_drewN | apply Kd.S_drew)); exact HO_4.out⟩, ⟨by (with_reducible repeat (first | apply Kd.R_alloc | apply Kd.R_drewN | apply Kd.R_drew)); exact HO_5.out⟩, ⟨by (with_reducible repeat (first | refine blk_drewN ?_ _ | refine blk_drew ?_ | refine blk_alloc ?_ _)); exact BK238.out⟩, ⟨by repeat (first | (with_reducible first | exact HB.out | apply below_alloc | apply pw_below_drewN | apply below_drew1 | refine below_set ?_ GE238.out) | exact HB.out)⟩⟩
                              case round =>
                                clear H'
                                try clear c1
                                try clear c2
                                try clear p2
                                try clear q2
                                try clear hx2
                                try clear c3
                                try clear c4
                                try clear c6
                                try clear p6
                                try clear c7
                                try clear c7b0
                                try clear c7b1
                                try clear c12
                                try clear c20
                                try clear c20b0
                                try clear c20b1
                                try clear c20b2
                                try clear c24
                                try clear p24
                                try clear q24
                                try clear hx24
                                try clear p25
                                try clear q25
                                try clear hx25
                                try clear c26
                                try clear c27
                                try clear c27b0
                                try clear c28
                                try clear c28b0
                                try clear c29
                                try clear c29b0
                                try clear c29b1
                                try clear c29b2
                                try clear c30
                                try clear c30b0
                                try clear c31
                                try clear c31b0
                                try clear c31b1
                                try clear c34
                                try clear c34b0
                                try clear c36
                                try clear c36b0
                                try clear c36b1
                                try clear c37
                                try clear c37b0
                                try clear c38
                                try clear c38b0
                                try clear hcz10_0
                                try clear hcz10_1
                                try clear hcz10_2
                                try clear hcz10_3
                                try clear hcz16_0
                                try clear hcz16_1
                                try clear hcz16_2
                                try clear hcz16_3
                                try clear hcz18_0
                                try clear hcz18_1
                                try clear hcz18_2
                                try clear hcz18_3
                                try clear hcz22_0
                                try clear hcz22_1
                                try clear hcz22_2
                                try clear hcz22_3
                                try clear hcz25_0
                                try clear hcz25_1
                                try clear hcz25_2
                                try clear hcz25_3
                                try clear hcz8_0
                                try clear hcz8_1
                                try clear hcz8_2
                                try clear hcz8_3
                                try clear hfz10_0
                                try clear hfz10_1
                                try clear hfz10_2
                                try clear hfz10_3
                                try clear hfz16_0
                                try clear hfz16_1
                                try clear hfz16_2
                                try clear hfz16_3
                                try clear hfz18_0
                                try clear hfz18_1
                                try clear hfz18_2
                                try clear hfz18_3
                                try clear hfz22_0
                                try clear hfz22_1
                                try clear hfz22_2
                                try clear hfz22_3
                                try clear hfz25_0
                                try clear hfz25_1
                                try clear hfz25_2
                                try clear hfz25_3
                                try clear hfz8_0
                                try clear hfz8_1
                                try clear hfz8_2
                                try clear hfz8_3
                                try clear hx247_0
                                try clear hx248_0
                                try clear hx249_0
                                try clear hx250_0
                                try clear p2
                                try clear p24
                                try clear p247
                                try clear p248
                                try clear p249
                                try clear p25
                                try clear p250
                                try clear p6
                                try clear q2
                                try clear q24
                                try clear q247
                                try clear q248
                                try clear q249
                                try clear q25
                                try clear q250
                                obtain ⟨x8_6, x9_6, rfl, rfl, HA, HK6, HO_4, HO_5, BK238, HB⟩ := hrel
                                cases gk with
                                | zero => exact absurd HA.out (by simp [haulierlaw06_PlaneNear.l2])
                                | succ k6 =>
                                  have H := HA.out
                                  clear HA
                                  simp only [haulierlaw06_PlaneNear.l2] at H
                                  by_cases c40 : x9_6 < (t241.length : Int)
                                  · rw [if_pos c40] at H
                                    have c40b0 : decide (x9_6 < (t241.length : Int)) = true := decide_eq_true c40
                                    clear c40
                                    have HC41 := Aside0.mk H
                                    clear H
                                    go_upto_region 20 with (fail)
                                    repeat (go_quiet (fail); go_upto_region 20 with (fail))
                                    go_cut [121] (fun v121 wc => ∃ (kq : Nat) (x121_40 : Bool), v121 = .bool x121_40 ∧ Aside0 (haulierlaw06_PlaneNear.j6 kq t241 t244 x7_4 x8_6 x9_6 x121_40 = some r) ∧ Aside0 (kq ≤ k6) ∧ Aside0 (Kd.S (Kd.slice 3 (Kd.int .i64)) 32 wc w.heap.size (fun k_ => some k_ ≠ (v245 : Value).ownBlock) (.slice Ao33 t241.length co33) t241) ∧ Aside0 (Kd.R (Kd.int .i64) 3 wc w.heap.size (fun _ => True) v245 t244) ∧ Aside0 (wc.heap[gb238]? = some (.cells #[.int .i64 a0_0, .int .i64 a0_1, .int .i64 a0_2, (.slice A0_3 l0_3.length c0_3)] 26 (0, 0))) ∧ Aside0 (Below w.heap.size w wc))
                                    case first =>
                                      have H := HC41.out
                                      clear HC41
                                      by_cases c42 : 0 ≤ x7_4
                                      · rw [if_pos c42] at H
                                        have c42b0 : decide (0 ≤ x7_4) = true := decide_eq_true c42
                                        clear c42
                                        (first | rw [c42b0] | (simp only [i64_w, i32_w]; rw [c42b0]) | skip)
                                        by_cases c43 : x7_4 < (t241.length : Int)
                                        · rw [if_pos c43] at H
                                          have c43b0 : decide (x7_4 < (t241.length : Int)) = true := decide_eq_true c43
                                          clear c43
                                          by_cases c44 : 0 ≤ x9_6
                                          · rw [if_pos c44] at H
                                            have c44b0 : decide (0 ≤ x9_6) = true := decide_eq_true c44
                                            clear c44
                                            by_cases c45 : x9_6 < ((rd_L2 t241 x7_4).length : Int)
                                            · rw [if_pos c45] at H
                                              have c45b0 : decide (x9_6 < ((rd_L2 t241 x7_4).length : Int)) = true := decide_eq_true c45
                                              clear c45
                                              by_cases c46 : x7_4 < ((rd_L2 t241 x9_6).length : Int)
                                              · rw [if_pos c46] at H
                                                have c46b0 : decide (x7_4 < ((rd_L2 t241 x9_6).length : Int)) = true := decide_eq_true c46
                                                clear c46
                                                by_cases c47 : (rd (rd_L2 t241 x7_4) x9_6) = (rd (rd_L2 t241 x9_6) x7_4)
                                                · rw [if_pos c47] at H
                                                  have c47b0 : ((rd (rd_L2 t241 x7_4) x9_6) == (rd (rd_L2 t241 x9_6) x7_4)) = true := beq_iff_eq.mpr c47
                                                  have c47b1 : ((rd (rd_L2 t241 x7_4) x9_6) != (rd (rd_L2 t241 x9_6) x7_4)) = false := bne_eq_false_iff_eq.mpr c47
                                                  clear c47
                                                  by_cases c48 : x7_4 = x9_6
                                                  · rw [if_pos c48] at H
                                                    have c48b0 : (x7_4 == x9_6) = true := beq_iff_eq.mpr c48
                                                    have c48b1 : (x7_4 != x9_6) = false := bne_eq_false_iff_eq.mpr c48
                                                    clear c48
                                                    have H' := Aside0.mk H
                                                    clear H
                                                    have p251 : 0 ≤ (x7_4 : Int) := of_decide_eq_true (by first | (with_reducible assumption) | assumption)
                                                    have q251 : x7_4 < (t241.length : Int) := of_decide_eq_true (by first | (with_reducible assumption) | assumption)
                                                    obtain ⟨ad251, A251_0, c251_0, e251, hx251_0, hl251_0, hi251_0⟩ := at_L2 (Kd.S_reads' HO_4.out).2.2 x7_4 p251 q251
                                                    cases e251
                                                    obtain ⟨ce251, hce251, hMe251, hcc251⟩ := Kd.S_get HO_4.out [] x7_4 p251 (by first | exact q251 | exact of_decide_eq_true (by first | (with_reducible assumption) | assumption) | (have e_ := (Kd.S_reads' HO_4.out).1; omega))
                                                    obtain ⟨ve251_0, rfl, ge251_0⟩ := hMe251
                                                    have hv251_0 := hcc251 0 _ rfl
                                                    rw [Nat.add_zero, show ((Kd.slice 3 (Kd.int .i64))).sz = 1 from rfl, Nat.mul_one] at hv251_0
                                                    replace hv251_0 := Option.some.inj (hv251_0.symm.trans hx251_0)
                                                    rw [hv251_0] at ge251_0
                                                    have HL251_0 := Aside0.mk (show Kd.R (Kd.int .i64) 3 _ _ _ _ (rd_L2 t241 x7_4) from ge251_0)
                                                    clear hv251_0 ge251_0
                                                    clear hcc251 hce251
                                                    have HR251_0 := Aside0.mk hi251_0
                                                    have HC251_0 := Aside0.mk hl251_0
                                                    clear hi251_0 hl251_0
                                                    replace p251 := eq_true p251
                                                    replace q251 := eq_true q251
                                                    have p252 : 0 ≤ (x9_6 : Int) := of_decide_eq_true (by first | (with_reducible assumption) | assumption)
                                                    have q252 : x9_6 < ((rd_L2 t241 x7_4).length : Int) := of_decide_eq_true (by first | (with_reducible assumption) | assumption)
                                                    obtain ⟨ad252, e252, hx252_0⟩ := Kd.at_int (by repeat (first | (with_reducible exact HR251_0.out) | (with_reducible refine Kd.C_alloc ?_ _) | (with_reducible refine Kd.C_drewN ?_ _) | (with_reducible refine Kd.C_drew ?_) | exact HR251_0.out)) x9_6 p252 q252
                                                    cases e252
                                                    replace p252 := eq_true p252
                                                    replace q252 := eq_true q252
                                                    have p253 : 0 ≤ (x9_6 : Int) := of_decide_eq_true (by first | (with_reducible assumption) | assumption)
                                                    have q253 : x9_6 < (t241.length : Int) := of_decide_eq_true (by first | (with_reducible assumption) | assumption)
                                                    obtain ⟨ad253, A253_0, c253_0, e253, hx253_0, hl253_0, hi253_0⟩ := at_L2 (Kd.S_reads' HO_4.out).2.2 x9_6 p253 q253
                                                    obtain rfl : ad251 = ad253 := (by injection e253)
                                                    obtain ⟨ce253, hce253, hMe253, hcc253⟩ := Kd.S_get HO_4.out [] x9_6 p253 (by first | exact q253 | exact of_decide_eq_true (by first | (with_reducible assumption) | assumption) | (have e_ := (Kd.S_reads' HO_4.out).1; omega))
                                                    obtain ⟨ve253_0, rfl, ge253_0⟩ := hMe253
                                                    have hv253_0 := hcc253 0 _ rfl
                                                    rw [Nat.add_zero, show ((Kd.slice 3 (Kd.int .i64))).sz = 1 from rfl, Nat.mul_one] at hv253_0
                                                    replace hv253_0 := Option.some.inj (hv253_0.symm.trans hx253_0)
                                                    rw [hv253_0] at ge253_0
                                                    have HL253_0 := Aside0.mk (show Kd.R (Kd.int .i64) 3 _ _ _ _ (rd_L2 t241 x9_6) from ge253_0)
                                                    clear hv253_0 ge253_0
                                                    clear hcc253 hce253
                                                    have HR253_0 := Aside0.mk hi253_0
                                                    have HC253_0 := Aside0.mk hl253_0
                                                    clear hi253_0 hl253_0
                                                    replace p253 := eq_true p253
                                                    replace q253 := eq_true q253
                                                    have p254 : 0 ≤ (x7_4 : Int) := of_decide_eq_true (by first | (with_reducible assumption) | assumption)
                                                    have q254 : x7_4 < ((rd_L2 t241 x9_6).length : Int) := of_decide_eq_true (by first | (with_reducible assumption) | assumption)
                                                    obtain ⟨ad254, e254, hx254_0⟩ := Kd.at_int (by repeat (first | (with_reducible exact HR253_0.out) | (with_reducible refine Kd.C_alloc ?_ _) | (with_reducible refine Kd.C_drewN ?_ _) | (with_reducible refine Kd.C_drew ?_) | exact HR253_0.out)) x7_4 p254 q254
                                                    cases e254
                                                    replace p254 := eq_true p254
                                                    replace q254 := eq_true q254
                                                    go_wp2
                                                    repeat (go_quiet (fail); try go_wp2)
                                                    go_meet
                                                    case rel => exact ⟨_, (false), (by first | rfl | (simp; done) | (simp [*]; done)), H', ⟨by have := HJ2.out; have := HJ14.out; have := HK3.out; have := HK4.out; have := HJ34.out; have := HK6.out; first | omega | exact Nat.le_refl _⟩, ⟨by (with_reducible repeat (first | apply Kd.S_alloc | apply Kd.S_drewN | apply Kd.S_drew)); exact HO_4.out⟩, ⟨by (with_reducible repeat (first | apply Kd.R_alloc | apply Kd.R_drewN | apply Kd.R_drew)); exact HO_5.out⟩, ⟨by (with_reducible repeat (first | refine blk_drewN ?_ _ | refine blk_drew ?_ | refine blk_alloc ?_ _)); exact BK238.out⟩, ⟨by repeat (first | (with_reducible first | exact HB.out | apply below_alloc | apply pw_below_drewN | apply below_drew1 | refine below_set ?_ GE238.out) | exact HB.out)⟩⟩
                                                  · rw [if_neg c48] at H
                                                    have c48b0 : (x7_4 == x9_6) = false := beq_eq_false_iff_ne.mpr c48
                                                    have c48b1 : (x7_4 != x9_6) = true := bne_iff_ne.mpr c48
                                                    by_cases c49 : x7_4 < (t244.length : Int)
                                                    · rw [if_pos c49] at H
                                                      have c49b0 : decide (x7_4 < (t244.length : Int)) = true := decide_eq_true c49
                                                      clear c49
                                                      have H' := Aside0.mk H
                                                      clear H
                                                      have p251 : 0 ≤ (x7_4 : Int) := of_decide_eq_true (by first | (with_reducible assumption) | assumption)
                                                      have q251 : x7_4 < (t241.length : Int) := of_decide_eq_true (by first | (with_reducible assumption) | assumption)
                                                      obtain ⟨ad251, A251_0, c251_0, e251, hx251_0, hl251_0, hi251_0⟩ := at_L2 (Kd.S_reads' HO_4.out).2.2 x7_4 p251 q251
                                                      cases e251
                                                      obtain ⟨ce251, hce251, hMe251, hcc251⟩ := Kd.S_get HO_4.out [] x7_4 p251 (by first | exact q251 | exact of_decide_eq_true (by first | (with_reducible assumption) | assumption) | (have e_ := (Kd.S_reads' HO_4.out).1; omega))
                                                      obtain ⟨ve251_0, rfl, ge251_0⟩ := hMe251
                                                      have hv251_0 := hcc251 0 _ rfl
                                                      rw [Nat.add_zero, show ((Kd.slice 3 (Kd.int .i64))).sz = 1 from rfl, Nat.mul_one] at hv251_0
                                                      replace hv251_0 := Option.some.inj (hv251_0.symm.trans hx251_0)
                                                      rw [hv251_0] at ge251_0
                                                      have HL251_0 := Aside0.mk (show Kd.R (Kd.int .i64) 3 _ _ _ _ (rd_L2 t241 x7_4) from ge251_0)
                                                      clear hv251_0 ge251_0
                                                      clear hcc251 hce251
                                                      have HR251_0 := Aside0.mk hi251_0
                                                      have HC251_0 := Aside0.mk hl251_0
                                                      clear hi251_0 hl251_0
                                                      replace p251 := eq_true p251
                                                      replace q251 := eq_true q251
                                                      have p252 : 0 ≤ (x9_6 : Int) := of_decide_eq_true (by first | (with_reducible assumption) | assumption)
                                                      have q252 : x9_6 < ((rd_L2 t241 x7_4).length : Int) := of_decide_eq_true (by first | (with_reducible assumption) | assumption)
                                                      obtain ⟨ad252, e252, hx252_0⟩ := Kd.at_int (by repeat (first | (with_reducible exact HR251_0.out) | (with_reducible refine Kd.C_alloc ?_ _) | (with_reducible refine Kd.C_drewN ?_ _) | (with_reducible refine Kd.C_drew ?_) | exact HR251_0.out)) x9_6 p252 q252
                                                      cases e252
                                                      replace p252 := eq_true p252
                                                      replace q252 := eq_true q252
                                                      have p253 : 0 ≤ (x9_6 : Int) := of_decide_eq_true (by first | (with_reducible assumption) | assumption)
                                                      have q253 : x9_6 < (t241.length : Int) := of_decide_eq_true (by first | (with_reducible assumption) | assumption)
                                                      obtain ⟨ad253, A253_0, c253_0, e253, hx253_0, hl253_0, hi253_0⟩ := at_L2 (Kd.S_reads' HO_4.out).2.2 x9_6 p253 q253
                                                      obtain rfl : ad251 = ad253 := (by injection e253)
                                                      obtain ⟨ce253, hce253, hMe253, hcc253⟩ := Kd.S_get HO_4.out [] x9_6 p253 (by first | exact q253 | exact of_decide_eq_true (by first | (with_reducible assumption) | assumption) | (have e_ := (Kd.S_reads' HO_4.out).1; omega))
                                                      obtain ⟨ve253_0, rfl, ge253_0⟩ := hMe253
                                                      have hv253_0 := hcc253 0 _ rfl
                                                      rw [Nat.add_zero, show ((Kd.slice 3 (Kd.int .i64))).sz = 1 from rfl, Nat.mul_one] at hv253_0
                                                      replace hv253_0 := Option.some.inj (hv253_0.symm.trans hx253_0)
                                                      rw [hv253_0] at ge253_0
                                                      have HL253_0 := Aside0.mk (show Kd.R (Kd.int .i64) 3 _ _ _ _ (rd_L2 t241 x9_6) from ge253_0)
                                                      clear hv253_0 ge253_0
                                                      clear hcc253 hce253
                                                      have HR253_0 := Aside0.mk hi253_0
                                                      have HC253_0 := Aside0.mk hl253_0
                                                      clear hi253_0 hl253_0
                                                      replace p253 := eq_true p253
                                                      replace q253 := eq_true q253
                                                      have p254 : 0 ≤ (x7_4 : Int) := of_decide_eq_true (by first | (with_reducible assumption) | assumption)
                                                      have q254 : x7_4 < ((rd_L2 t241 x9_6).length : Int) := of_decide_eq_true (by first | (with_reducible assumption) | assumption)
                                                      obtain ⟨ad254, e254, hx254_0⟩ := Kd.at_int (by repeat (first | (with_reducible exact HR253_0.out) | (with_reducible refine Kd.C_alloc ?_ _) | (with_reducible refine Kd.C_drewN ?_ _) | (with_reducible refine Kd.C_drew ?_) | exact HR253_0.out)) x7_4 p254 q254
                                                      cases e254
                                                      replace p254 := eq_true p254
                                                      replace q254 := eq_true q254
                                                      have p255 : 0 ≤ (x9_6 : Int) := of_decide_eq_true (by first | (with_reducible assumption) | assumption)
                                                      have q255 : x9_6 < (t241.length : Int) := of_decide_eq_true (by first | (with_reducible assumption) | assumption)
                                                      obtain ⟨ad255, A255_0, c255_0, e255, hx255_0, hl255_0, hi255_0⟩ := at_L2 (Kd.S_reads' HO_4.out).2.2 x9_6 p255 q255
                                                      obtain rfl : ad251 = ad255 := (by injection e255)
                                                      obtain ⟨ce255, hce255, hMe255, hcc255⟩ := Kd.S_get HO_4.out [] x9_6 p255 (by first | exact q255 | exact of_decide_eq_true (by first | (with_reducible assumption) | assumption) | (have e_ := (Kd.S_reads' HO_4.out).1; omega))
                                                      obtain ⟨ve255_0, rfl, ge255_0⟩ := hMe255
                                                      have hv255_0 := hcc255 0 _ rfl
                                                      rw [Nat.add_zero, show ((Kd.slice 3 (Kd.int .i64))).sz = 1 from rfl, Nat.mul_one] at hv255_0
                                                      replace hv255_0 := Option.some.inj (hv255_0.symm.trans hx255_0)
                                                      rw [hv255_0] at ge255_0
                                                      have HL255_0 := Aside0.mk (show Kd.R (Kd.int .i64) 3 _ _ _ _ (rd_L2 t241 x9_6) from ge255_0)
                                                      clear hv255_0 ge255_0
                                                      clear hcc255 hce255
                                                      have HR255_0 := Aside0.mk hi255_0
                                                      have HC255_0 := Aside0.mk hl255_0
                                                      clear hi255_0 hl255_0
                                                      replace p255 := eq_true p255
                                                      replace q255 := eq_true q255
                                                      have ea_ := Option.some.inj (hx253_0.symm.trans hx255_0)
                                                      injection ea_ with ea_ en_ ec_
                                                      subst ea_
                                                      subst ec_
                                                      clear en_
                                                      have p256 : 0 ≤ (x7_4 : Int) := of_decide_eq_true (by first | (with_reducible assumption) | assumption)
                                                      have q256 : x7_4 < ((rd_L2 t241 x9_6).length : Int) := of_decide_eq_true (by first | (with_reducible assumption) | assumption)
                                                      obtain ⟨ad256, e256, hx256_0⟩ := Kd.at_int (by repeat (first | (with_reducible exact HR255_0.out) | (with_reducible refine Kd.C_alloc ?_ _) | (with_reducible refine Kd.C_drewN ?_ _) | (with_reducible refine Kd.C_drew ?_) | exact HR255_0.out)) x7_4 p256 q256
                                                      cases e256
                                                      replace p256 := eq_true p256
                                                      replace q256 := eq_true q256
                                                      obtain ⟨Ao50, co50, eo50⟩ := Kd.R_slice HO_5.out
                                                      subst eo50
                                                      have p257 : 0 ≤ (x7_4 : Int) := of_decide_eq_true (by first | (with_reducible assumption) | assumption)
                                                      have q257 : x7_4 < (t244.length : Int) := of_decide_eq_true (by first | (with_reducible assumption) | assumption)
                                                      obtain ⟨ad257, e257, hx257_0⟩ := Kd.at_int (Kd.R_reads' HO_5.out).2.2 x7_4 p257 q257
                                                      cases e257
                                                      replace p257 := eq_true p257
                                                      replace q257 := eq_true q257
                                                      go_wp2
                                                      repeat (go_quiet (fail); try go_wp2)
                                                      go_meet
                                                      case rel => exact ⟨_, (decide ((rd (rd_L2 t241 x9_6) x7_4) < (rd t244 x7_4))), (by first | rfl | (simp; done) | (simp [*]; done)), H', ⟨by have := HJ2.out; have := HJ14.out; have := HK3.out; have := HK4.out; have := HJ34.out; have := HK6.out; first | omega | exact Nat.le_refl _⟩, ⟨by (with_reducible repeat (first | apply Kd.S_alloc | apply Kd.S_drewN | apply Kd.S_drew)); exact HO_4.out⟩, ⟨by (with_reducible repeat (first | apply Kd.R_alloc | apply Kd.R_drewN | apply Kd.R_drew)); exact HO_5.out⟩, ⟨by (with_reducible repeat (first | refine blk_drewN ?_ _ | refine blk_drew ?_ | refine blk_alloc ?_ _)); exact BK238.out⟩, ⟨by repeat (first | (with_reducible first | exact HB.out | apply below_alloc | apply pw_below_drewN | apply below_drew1 | refine below_set ?_ GE238.out) | exact HB.out)⟩⟩
                                                    · rw [if_neg c49] at H
                                                      exact absurd H (by simp)
                                                · rw [if_neg c47] at H
                                                  have c47b0 : ((rd (rd_L2 t241 x7_4) x9_6) == (rd (rd_L2 t241 x9_6) x7_4)) = false := beq_eq_false_iff_ne.mpr c47
                                                  have c47b1 : ((rd (rd_L2 t241 x7_4) x9_6) != (rd (rd_L2 t241 x9_6) x7_4)) = true := bne_iff_ne.mpr c47
                                                  have H' := Aside0.mk H
                                                  clear H
                                                  have p251 : 0 ≤ (x7_4 : Int) := of_decide_eq_true (by first | (with_reducible assumption) | assumption)
                                                  have q251 : x7_4 < (t241.length : Int) := of_decide_eq_true (by first | (with_reducible assumption) | assumption)
                                                  obtain ⟨ad251, A251_0, c251_0, e251, hx251_0, hl251_0, hi251_0⟩ := at_L2 (Kd.S_reads' HO_4.out).2.2 x7_4 p251 q251
                                                  cases e251
                                                  obtain ⟨ce251, hce251, hMe251, hcc251⟩ := Kd.S_get HO_4.out [] x7_4 p251 (by first | exact q251 | exact of_decide_eq_true (by first | (with_reducible assumption) | assumption) | (have e_ := (Kd.S_reads' HO_4.out).1; omega))
                                                  obtain ⟨ve251_0, rfl, ge251_0⟩ := hMe251
                                                  have hv251_0 := hcc251 0 _ rfl
                                                  rw [Nat.add_zero, show ((Kd.slice 3 (Kd.int .i64))).sz = 1 from rfl, Nat.mul_one] at hv251_0
                                                  replace hv251_0 := Option.some.inj (hv251_0.symm.trans hx251_0)
                                                  rw [hv251_0] at ge251_0
                                                  have HL251_0 := Aside0.mk (show Kd.R (Kd.int .i64) 3 _ _ _ _ (rd_L2 t241 x7_4) from ge251_0)
                                                  clear hv251_0 ge251_0
                                                  clear hcc251 hce251
                                                  have HR251_0 := Aside0.mk hi251_0
                                                  have HC251_0 := Aside0.mk hl251_0
                                                  clear hi251_0 hl251_0
                                                  replace p251 := eq_true p251
                                                  replace q251 := eq_true q251
                                                  have p252 : 0 ≤ (x9_6 : Int) := of_decide_eq_true (by first | (with_reducible assumption) | assumption)
                                                  have q252 : x9_6 < ((rd_L2 t241 x7_4).length : Int) := of_decide_eq_true (by first | (with_reducible assumption) | assumption)
                                                  obtain ⟨ad252, e252, hx252_0⟩ := Kd.at_int (by repeat (first | (with_reducible exact HR251_0.out) | (with_reducible refine Kd.C_alloc ?_ _) | (with_reducible refine Kd.C_drewN ?_ _) | (with_reducible refine Kd.C_drew ?_) | exact HR251_0.out)) x9_6 p252 q252
                                                  cases e252
                                                  replace p252 := eq_true p252
                                                  replace q252 := eq_true q252
                                                  have p253 : 0 ≤ (x9_6 : Int) := of_decide_eq_true (by first | (with_reducible assumption) | assumption)
                                                  have q253 : x9_6 < (t241.length : Int) := of_decide_eq_true (by first | (with_reducible assumption) | assumption)
                                                  obtain ⟨ad253, A253_0, c253_0, e253, hx253_0, hl253_0, hi253_0⟩ := at_L2 (Kd.S_reads' HO_4.out).2.2 x9_6 p253 q253
                                                  obtain rfl : ad251 = ad253 := (by injection e253)
                                                  obtain ⟨ce253, hce253, hMe253, hcc253⟩ := Kd.S_get HO_4.out [] x9_6 p253 (by first | exact q253 | exact of_decide_eq_true (by first | (with_reducible assumption) | assumption) | (have e_ := (Kd.S_reads' HO_4.out).1; omega))
                                                  obtain ⟨ve253_0, rfl, ge253_0⟩ := hMe253
                                                  have hv253_0 := hcc253 0 _ rfl
                                                  rw [Nat.add_zero, show ((Kd.slice 3 (Kd.int .i64))).sz = 1 from rfl, Nat.mul_one] at hv253_0
                                                  replace hv253_0 := Option.some.inj (hv253_0.symm.trans hx253_0)
                                                  rw [hv253_0] at ge253_0
                                                  have HL253_0 := Aside0.mk (show Kd.R (Kd.int .i64) 3 _ _ _ _ (rd_L2 t241 x9_6) from ge253_0)
                                                  clear hv253_0 ge253_0
                                                  clear hcc253 hce253
                                                  have HR253_0 := Aside0.mk hi253_0
                                                  have HC253_0 := Aside0.mk hl253_0
                                                  clear hi253_0 hl253_0
                                                  replace p253 := eq_true p253
                                                  replace q253 := eq_true q253
                                                  have p254 : 0 ≤ (x7_4 : Int) := of_decide_eq_true (by first | (with_reducible assumption) | assumption)
                                                  have q254 : x7_4 < ((rd_L2 t241 x9_6).length : Int) := of_decide_eq_true (by first | (with_reducible assumption) | assumption)
                                                  obtain ⟨ad254, e254, hx254_0⟩ := Kd.at_int (by repeat (first | (with_reducible exact HR253_0.out) | (with_reducible refine Kd.C_alloc ?_ _) | (with_reducible refine Kd.C_drewN ?_ _) | (with_reducible refine Kd.C_drew ?_) | exact HR253_0.out)) x7_4 p254 q254
                                                  cases e254
                                                  replace p254 := eq_true p254
                                                  replace q254 := eq_true q254
                                                  go_wp2
                                                  repeat (go_quiet (fail); try go_wp2)
                                                  go_meet
                                                  case rel => exact ⟨_, (true), (by first | rfl | (simp; done) | (simp [*]; done)), H', ⟨by have := HJ2.out; have := HJ14.out; have := HK3.out; have := HK4.out; have := HJ34.out; have := HK6.out; first | omega | exact Nat.le_refl _⟩, ⟨by (with_reducible repeat (first | apply Kd.S_alloc | apply Kd.S_drewN | apply Kd.S_drew)); exact HO_4.out⟩, ⟨by (with_reducible repeat (first | apply Kd.R_alloc | apply Kd.R_drewN | apply Kd.R_drew)); exact HO_5.out⟩, ⟨by (with_reducible repeat (first | refine blk_drewN ?_ _ | refine blk_drew ?_ | refine blk_alloc ?_ _)); exact BK238.out⟩, ⟨by repeat (first | (with_reducible first | exact HB.out | apply below_alloc | apply pw_below_drewN | apply below_drew1 | refine below_set ?_ GE238.out) | exact HB.out)⟩⟩
                                              · rw [if_neg c46] at H
                                                exact absurd H (by simp)
                                            · rw [if_neg c45] at H
                                              exact absurd H (by simp)
                                          · rw [if_neg c44] at H
                                            exact absurd H (by simp)
                                        · rw [if_neg c43] at H
                                          exact absurd H (by simp)
                                      · rw [if_neg c42] at H
                                        exact absurd H (by simp)
                                    case rest =>
                                      clear HC41
                                      try clear c1
                                      try clear c2
                                      try clear p2
                                      try clear q2
                                      try clear hx2
                                      try clear c3
                                      try clear c4
                                      try clear c6
                                      try clear p6
                                      try clear c7
                                      try clear c7b0
                                      try clear c7b1
                                      try clear c12
                                      try clear c20
                                      try clear c20b0
                                      try clear c20b1
                                      try clear c20b2
                                      try clear c24
                                      try clear p24
                                      try clear q24
                                      try clear hx24
                                      try clear c25
                                      try clear p25
                                      try clear q25
                                      try clear hx25
                                      try clear c26
                                      try clear c27
                                      try clear c27b0
                                      try clear c28
                                      try clear c28b0
                                      try clear c29
                                      try clear c29b0
                                      try clear c29b1
                                      try clear c29b2
                                      try clear c30
                                      try clear c30b0
                                      try clear c31
                                      try clear c31b0
                                      try clear c31b1
                                      try clear c34
                                      try clear c34b0
                                      try clear c36
                                      try clear c36b0
                                      try clear c36b1
                                      try clear c37
                                      try clear c37b0
                                      try clear c38
                                      try clear c38b0
                                      try clear c40
                                      try clear c40b0
                                      try clear c42
                                      try clear c42b0
                                      try clear c43
                                      try clear c43b0
                                      try clear c44
                                      try clear c44b0
                                      try clear c45
                                      try clear c45b0
                                      try clear c46
                                      try clear c46b0
                                      try clear c47
                                      try clear c47b0
                                      try clear c47b1
                                      try clear c48
                                      try clear c48b0
                                      try clear c48b1
                                      try clear c49
                                      try clear c49b0
                                      try clear hcz10_0
                                      try clear hcz10_1
                                      try clear hcz10_2
                                      try clear hcz10_3
                                      try clear hcz16_0
                                      try clear hcz16_1
                                      try clear hcz16_2
                                      try clear hcz16_3
                                      try clear hcz18_0
                                      try clear hcz18_1
                                      try clear hcz18_2
                                      try clear hcz18_3
                                      try clear hcz22_0
                                      try clear hcz22_1
                                      try clear hcz22_2
                                      try clear hcz22_3
                                      try clear hcz25_0
                                      try clear hcz25_1
                                      try clear hcz25_2
                                      try clear hcz25_3
                                      try clear hcz8_0
                                      try clear hcz8_1
                                      try clear hcz8_2
                                      try clear hcz8_3
                                      try clear hfz10_0
                                      try clear hfz10_1
                                      try clear hfz10_2
                                      try clear hfz10_3
                                      try clear hfz16_0
                                      try clear hfz16_1
                                      try clear hfz16_2
                                      try clear hfz16_3
                                      try clear hfz18_0
                                      try clear hfz18_1
                                      try clear hfz18_2
                                      try clear hfz18_3
                                      try clear hfz22_0
                                      try clear hfz22_1
                                      try clear hfz22_2
                                      try clear hfz22_3
                                      try clear hfz25_0
                                      try clear hfz25_1
                                      try clear hfz25_2
                                      try clear hfz25_3
                                      try clear hfz8_0
                                      try clear hfz8_1
                                      try clear hfz8_2
                                      try clear hfz8_3
                                      try clear hx247_0
                                      try clear hx248_0
                                      try clear hx249_0
                                      try clear hx250_0
                                      try clear hx251_0
                                      try clear hx252_0
                                      try clear hx253_0
                                      try clear hx254_0
                                      try clear hx255_0
                                      try clear hx256_0
                                      try clear hx257_0
                                      try clear p2
                                      try clear p24
                                      try clear p247
                                      try clear p248
                                      try clear p249
                                      try clear p25
                                      try clear p250
                                      try clear p251
                                      try clear p252
                                      try clear p253
                                      try clear p254
                                      try clear p255
                                      try clear p256
                                      try clear p257
                                      try clear p6
                                      try clear q2
                                      try clear q24
                                      try clear q247
                                      try clear q248
                                      try clear q249
                                      try clear q25
                                      try clear q250
                                      try clear q251
                                      try clear q252
                                      try clear q253
                                      try clear q254
                                      try clear q255
                                      try clear q256
                                      try clear q257
                                      obtain ⟨kq, x121_40, rfl, HA, HJ40, HO_4, HO_5, BK238, HB⟩ := hcut
                                      cases kq with
                                      | zero => exact absurd HA.out (by simp [haulierlaw06_PlaneNear.j6])
                                      | succ kj40 =>
                                        have H := HA.out
                                        clear HA
                                        simp only [haulierlaw06_PlaneNear.j6] at H
                                        by_cases c51 : x121_40 = true
                                        · subst c51
                                          have H1 : (none) = some r := by rw [if_pos rfl] at H; exact H
                                          clear H
                                          have H := H1
                                          clear H1
                                          exact absurd H (by simp)
                                        · replace c51 := Bool.eq_false_iff.mpr c51
                                          subst c51
                                          have H1 : (if x8_6 = true then (haulierlaw06_PlaneNear.l2 kj40 t241 t244 x7_4 true (wrap64 (x9_6 + 1))) else (if x7_4 = x9_6 then (haulierlaw06_PlaneNear.l2 kj40 t241 t244 x7_4 false (wrap64 (x9_6 + 1))) else (if 0 ≤ x9_6 then (if x9_6 < (t241.length : Int) then (if 0 ≤ x7_4 then (if x7_4 < ((rd_L2 t241 x9_6).length : Int) then (if x7_4 < (t244.length : Int) then (haulierlaw06_PlaneNear.l2 kj40 t241 t244 x7_4 ((rd (rd_L2 t241 x9_6) x7_4) == (rd t244 x7_4)) (wrap64 (x9_6 + 1))) else (none)) else (none)) else (none)) else (none)) else (none)))) = some r := by rw [if_neg (show ¬ (false = true) by decide)] at H; exact H
                                          clear H
                                          have H := H1
                                          clear H1
                                          by_cases c52 : x8_6 = true
                                          · subst c52
                                            have H1 : (haulierlaw06_PlaneNear.l2 kj40 t241 t244 x7_4 true (wrap64 (x9_6 + 1))) = some r := by rw [if_pos rfl] at H; exact H
                                            clear H
                                            have H := H1
                                            clear H1
                                            have H' := Aside0.mk H
                                            clear H
                                            go_wp2
                                            repeat (go_quiet (fail); try go_wp2)
                                            go_roundg kj40
                                            case measure => have := HJ2.out; have := HJ14.out; have := HK3.out; have := HK4.out; have := HJ34.out; have := HK6.out; have := HJ40.out; omega
                                            case rel => exact ⟨(true), (wrap64 (x9_6 + 1)), (by first | rfl | (simp; done) | (simp [*]; done)), (by first | rfl | (simp; done) | (simp [*]; done)), H', ⟨by have := HJ2.out; have := HJ14.out; have := HK3.out; have := HK4.out; have := HJ34.out; have := HK6.out; have := HJ40.out; omega⟩, ⟨by (with_reducible repeat (first | apply Kd.S_alloc | apply Kd.S_drewN | apply Kd.S_drew)); exact HO_4.out⟩, ⟨by (with_reducible repeat (first | apply Kd.R_alloc | apply Kd.R_drewN | apply Kd.R_drew)); exact HO_5.out⟩, ⟨by (with_reducible repeat (first | refine blk_drewN ?_ _ | refine blk_drew ?_ | refine blk_alloc ?_ _)); exact BK238.out⟩, ⟨by repeat (first | (with_reducible first | exact HB.out | apply below_alloc | apply pw_below_drewN | apply below_drew1 | refine below_set ?_ GE238.out) | exact HB.out)⟩⟩
                                          · replace c52 := Bool.eq_false_iff.mpr c52
                                            subst c52
                                            have H1 : (if x7_4 = x9_6 then (haulierlaw06_PlaneNear.l2 kj40 t241 t244 x7_4 false (wrap64 (x9_6 + 1))) else (if 0 ≤ x9_6 then (if x9_6 < (t241.length : Int) then (if 0 ≤ x7_4 then (if x7_4 < ((rd_L2 t241 x9_6).length : Int) then (if x7_4 < (t244.length : Int) then (haulierlaw06_PlaneNear.l2 kj40 t241 t244 x7_4 ((rd (rd_L2 t241 x9_6) x7_4) == (rd t244 x7_4)) (wrap64 (x9_6 + 1))) else (none)) else (none)) else (none)) else (none)) else (none))) = some r := by rw [if_neg (show ¬ (false = true) by decide)] at H; exact H
                                            clear H
                                            have H := H1
                                            clear H1
                                            by_cases c53 : x7_4 = x9_6
                                            · rw [if_pos c53] at H
                                              have c53b0 : (x7_4 == x9_6) = true := beq_iff_eq.mpr c53
                                              have c53b1 : (x7_4 != x9_6) = false := bne_eq_false_iff_eq.mpr c53
                                              clear c53
                                              have H' := Aside0.mk H
                                              clear H
                                              go_wp2
                                              repeat (go_quiet (fail); try go_wp2)
                                              go_roundg kj40
                                              case measure => have := HJ2.out; have := HJ14.out; have := HK3.out; have := HK4.out; have := HJ34.out; have := HK6.out; have := HJ40.out; omega
                                              case rel => exact ⟨(false), (wrap64 (x9_6 + 1)), (by first | rfl | (simp; done) | (simp [*]; done)), (by first | rfl | (simp; done) | (simp [*]; done)), H', ⟨by have := HJ2.out; have := HJ14.out; have := HK3.out; have := HK4.out; have := HJ34.out; have := HK6.out; have := HJ40.out; omega⟩, ⟨by (with_reducible repeat (first | apply Kd.S_alloc | apply Kd.S_drewN | apply Kd.S_drew)); exact HO_4.out⟩, ⟨by (with_reducible repeat (first | apply Kd.R_alloc | apply Kd.R_drewN | apply Kd.R_drew)); exact HO_5.out⟩, ⟨by (with_reducible repeat (first | refine blk_drewN ?_ _ | refine blk_drew ?_ | refine blk_alloc ?_ _)); exact BK238.out⟩, ⟨by repeat (first | (with_reducible first | exact HB.out | apply below_alloc | apply pw_below_drewN | apply below_drew1 | refine below_set ?_ GE238.out) | exact HB.out)⟩⟩
                                            · rw [if_neg c53] at H
                                              have c53b0 : (x7_4 == x9_6) = false := beq_eq_false_iff_ne.mpr c53
                                              have c53b1 : (x7_4 != x9_6) = true := bne_iff_ne.mpr c53
                                              by_cases c54 : 0 ≤ x9_6
                                              · rw [if_pos c54] at H
                                                have c54b0 : decide (0 ≤ x9_6) = true := decide_eq_true c54
                                                clear c54
                                                by_cases c55 : x9_6 < (t241.length : Int)
                                                · rw [if_pos c55] at H
                                                  have c55b0 : decide (x9_6 < (t241.length : Int)) = true := decide_eq_true c55
                                                  clear c55
                                                  by_cases c56 : 0 ≤ x7_4
                                                  · rw [if_pos c56] at H
                                                    have c56b0 : decide (0 ≤ x7_4) = true := decide_eq_true c56
                                                    clear c56
                                                    by_cases c57 : x7_4 < ((rd_L2 t241 x9_6).length : Int)
                                                    · rw [if_pos c57] at H
                                                      have c57b0 : decide (x7_4 < ((rd_L2 t241 x9_6).length : Int)) = true := decide_eq_true c57
                                                      clear c57
                                                      by_cases c58 : x7_4 < (t244.length : Int)
                                                      · rw [if_pos c58] at H
                                                        have c58b0 : decide (x7_4 < (t244.length : Int)) = true := decide_eq_true c58
                                                        clear c58
                                                        have H' := Aside0.mk H
                                                        clear H
                                                        have p258 : 0 ≤ (x9_6 : Int) := of_decide_eq_true (by first | (with_reducible assumption) | assumption)
                                                        have q258 : x9_6 < (t241.length : Int) := of_decide_eq_true (by first | (with_reducible assumption) | assumption)
                                                        obtain ⟨ad258, A258_0, c258_0, e258, hx258_0, hl258_0, hi258_0⟩ := at_L2 (Kd.S_reads' HO_4.out).2.2 x9_6 p258 q258
                                                        cases e258
                                                        obtain ⟨ce258, hce258, hMe258, hcc258⟩ := Kd.S_get HO_4.out [] x9_6 p258 (by first | exact q258 | exact of_decide_eq_true (by first | (with_reducible assumption) | assumption) | (have e_ := (Kd.S_reads' HO_4.out).1; omega))
                                                        obtain ⟨ve258_0, rfl, ge258_0⟩ := hMe258
                                                        have hv258_0 := hcc258 0 _ rfl
                                                        rw [Nat.add_zero, show ((Kd.slice 3 (Kd.int .i64))).sz = 1 from rfl, Nat.mul_one] at hv258_0
                                                        replace hv258_0 := Option.some.inj (hv258_0.symm.trans hx258_0)
                                                        rw [hv258_0] at ge258_0
                                                        have HL258_0 := Aside0.mk (show Kd.R (Kd.int .i64) 3 _ _ _ _ (rd_L2 t241 x9_6) from ge258_0)
                                                        clear hv258_0 ge258_0
                                                        clear hcc258 hce258
                                                        have HR258_0 := Aside0.mk hi258_0
                                                        have HC258_0 := Aside0.mk hl258_0
                                                        clear hi258_0 hl258_0
                                                        replace p258 := eq_true p258
                                                        replace q258 := eq_true q258
                                                        have p259 : 0 ≤ (x7_4 : Int) := of_decide_eq_true (by first | (with_reducible assumption) | assumption)
                                                        have q259 : x7_4 < ((rd_L2 t241 x9_6).length : Int) := of_decide_eq_true (by first | (with_reducible assumption) | assumption)
                                                        obtain ⟨ad259, e259, hx259_0⟩ := Kd.at_int (by repeat (first | (with_reducible exact HR258_0.out) | (with_reducible refine Kd.C_alloc ?_ _) | (with_reducible refine Kd.C_drewN ?_ _) | (with_reducible refine Kd.C_drew ?_) | exact HR258_0.out)) x7_4 p259 q259
                                                        cases e259
                                                        replace p259 := eq_true p259
                                                        replace q259 := eq_true q259
                                                        obtain ⟨Ao59, co59, eo59⟩ := Kd.R_slice HO_5.out
                                                        subst eo59
                                                        have p260 : 0 ≤ (x7_4 : Int) := of_decide_eq_true (by first | (with_reducible assumption) | assumption)
                                                        have q260 : x7_4 < (t244.length : Int) := of_decide_eq_true (by first | (with_reducible assumption) | assumption)
                                                        obtain ⟨ad260, e260, hx260_0⟩ := Kd.at_int (Kd.R_reads' HO_5.out).2.2 x7_4 p260 q260
                                                        cases e260
                                                        replace p260 := eq_true p260
                                                        replace q260 := eq_true q260
                                                        go_wp2
                                                        repeat (go_quiet (fail); try go_wp2)
                                                        go_roundg kj40
                                                        case measure => have := HJ2.out; have := HJ14.out; have := HK3.out; have := HK4.out; have := HJ34.out; have := HK6.out; have := HJ40.out; omega
                                                        case rel => exact ⟨(((rd (rd_L2 t241 x9_6) x7_4) == (rd t244 x7_4))), (wrap64 (x9_6 + 1)), (by first | rfl | (simp; done) | (simp [*]; done)), (by first | rfl | (simp; done) | (simp [*]; done)), H', ⟨by have := HJ2.out; have := HJ14.out; have := HK3.out; have := HK4.out; have := HJ34.out; have := HK6.out; have := HJ40.out; omega⟩, ⟨by (with_reducible repeat (first | apply Kd.S_alloc | apply Kd.S_drewN | apply Kd.S_drew)); exact HO_4.out⟩, ⟨by (with_reducible repeat (first | apply Kd.R_alloc | apply Kd.R_drewN | apply Kd.R_drew)); exact HO_5.out⟩, ⟨by (with_reducible repeat (first | refine blk_drewN ?_ _ | refine blk_drew ?_ | refine blk_alloc ?_ _)); exact BK238.out⟩, ⟨by repeat (first | (with_reducible first | exact HB.out | apply below_alloc | apply pw_below_drewN | apply below_drew1 | refine below_set ?_ GE238.out) | exact HB.out)⟩⟩
                                                      · rw [if_neg c58] at H
                                                        exact absurd H (by simp)
                                                    · rw [if_neg c57] at H
                                                      exact absurd H (by simp)
                                                  · rw [if_neg c56] at H
                                                    exact absurd H (by simp)
                                                · rw [if_neg c55] at H
                                                  exact absurd H (by simp)
                                              · rw [if_neg c54] at H
                                                exact absurd H (by simp)
                                  · rw [if_neg c40] at H
                                    have c40b0 : decide (x9_6 < (t241.length : Int)) = false := decide_eq_false c40
                                    clear c40
                                    by_cases c60 : x8_6 = true
                                    · subst c60
                                      have H1 : (haulierlaw06_PlaneNear.l1 k6 t241 t244 (wrap64 (x7_4 + 1))) = some r := by rw [if_pos rfl] at H; exact H
                                      clear H
                                      have H := H1
                                      clear H1
                                      have H' := Aside0.mk H
                                      clear H
                                      go_wp2
                                      repeat (go_quiet (fail); try go_wp2)
                                      go_roundg k6
                                      case measure => have := HJ2.out; have := HJ14.out; have := HK3.out; have := HK4.out; have := HJ34.out; have := HK6.out; omega
                                      case rel => exact ⟨(wrap64 (x7_4 + 1)), (by first | rfl | (simp; done) | (simp [*]; done)), H', ⟨by have := HJ2.out; have := HJ14.out; have := HK3.out; have := HK4.out; have := HJ34.out; have := HK6.out; omega⟩, ⟨by (with_reducible repeat (first | apply Kd.S_alloc | apply Kd.S_drewN | apply Kd.S_drew)); exact HO_4.out⟩, ⟨by (with_reducible repeat (first | apply Kd.R_alloc | apply Kd.R_drewN | apply Kd.R_drew)); exact HO_5.out⟩, ⟨by (with_reducible repeat (first | refine blk_drewN ?_ _ | refine blk_drew ?_ | refine blk_alloc ?_ _)); exact BK238.out⟩, ⟨by repeat (first | (with_reducible first | exact HB.out | apply below_alloc | apply pw_below_drewN | apply below_drew1 | refine below_set ?_ GE238.out) | exact HB.out)⟩⟩
                                    · replace c60 := Bool.eq_false_iff.mpr c60
                                      subst c60
                                      have H1 : (none) = some r := by rw [if_neg (show ¬ (false = true) by decide)] at H; exact H
                                      clear H
                                      have H := H1
                                      clear H1
                                      exact absurd H (by simp)
                        · rw [if_neg c34] at H
                          have c34b0 : decide (x7_4 < (t241.length : Int)) = false := decide_eq_false c34
                          clear c34
                          obtain rfl := Option.some.inj H
                          go_wp2
                          repeat (go_quiet (fail); try go_wp2)
                          go_ret
                          exact ⟨by first | rfl | (simp [errW_none, errW_some] <;> rfl) | (simp [*, errW_none, errW_some] <;> rfl), by repeat (first | (with_reducible first | exact HB.out | apply below_alloc | apply pw_below_drewN | apply below_drew1 | refine below_set ?_ GE238.out) | exact HB.out)⟩

end Go.Proofs.Ytjiammiihamkiaa.PA
