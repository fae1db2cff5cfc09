-- Printed for this claim by wip/tools/xprint.py over the kit's print; the contracts marked BY HAND are this session's own.
import Derived.Test.YtblpfjocmbppbaaPAx0
import Derived.Test.YtblpfjocmbppbaaPAx3
import Derived.Test.YtblpfjocmbppbaaPAx4
import Derived.Test.YtblpfjocmbppbaaPAx5
import Derived.Test.YtblpfjocmbppbaaPAx6
import Derived.Test.YtblpfjocmbppbaaPAx8
namespace Go.Proofs.Ytblpfjocmbppbaa.PA
open Go.RowKit Go.Proofs.YtblpfjocmbppbaaW.PrintWords Go.Proofs.YtblpfjocmbppbaaW.PrintLast Go.Proofs.YtblpfjocmbppbaaW.PrintMore
attribute [local go_sem] max2_int min2_int max_two min_two max_three min_three max_four min_four   -- for this text's walks alone
set_option linter.unusedVariables false
set_option linter.unusedSimpArgs false

/-! ### haulierlaw09_TourPlans: function 4 -/
mutual
def haulierlaw09_TourPlans.j0 : Nat → Bool → Bool → List (List Int) → Option (Bool)
  | 0, _, _, _ => none
  | k + 1, x3, x20, x237000 => if x20 = true then (some x3) else (haulierlaw09_TourPlans.l0 k 0 x237000)
def haulierlaw09_TourPlans.l0 : Nat → Int → List (List Int) → Option (Bool)
  | 0, _, _ => none
  | k + 1, x5, x237000 => if x5 < (x237000.length : Int) then (haulierlaw09_TourPlans.l1 k x5 0 x237000) else ((tour_Join.f k x237000).bind fun t248 => ((tour_Split.f t248).bind fun bt251 => ((plan_Sorted.f k x237000).bind fun t256 => ((haulierref04_Same.f k bt251.1 t256).bind fun t260 => (if bt251.2 = 0 then (some t260) else (none))))))
def haulierlaw09_TourPlans.l1 : Nat → Int → Int → List (List Int) → Option (Bool)
  | 0, _, _, _ => none
  | k + 1, x5, x6, x237000 => if 0 ≤ x5 then (if x5 < (x237000.length : Int) then (if x6 < ((rd_L1 x237000 x5).length : Int) then (if 0 ≤ x6 then (if (rd (rd_L1 x237000 x5) x6) < 1 then (some true) else (haulierlaw09_TourPlans.l1 k x5 (wrap64 (x6 + 1)) x237000)) else (none)) else (haulierlaw09_TourPlans.l2 k x5 0 x237000)) else (none)) else (none)
def haulierlaw09_TourPlans.l2 : Nat → Int → Int → List (List Int) → Option (Bool)
  | 0, _, _, _ => none
  | k + 1, x5, x7, x237000 => if x7 < x5 then (if 0 ≤ x7 then (if x7 < (x237000.length : Int) then (if ((rd_L1 x237000 x7).length : Int) > 0 then (if 0 ≤ x5 then (if x5 < (x237000.length : Int) then (if ((rd_L1 x237000 x5).length : Int) > 0 then (if 0 < ((rd_L1 x237000 x7).length : Int) then (if 0 < ((rd_L1 x237000 x5).length : Int) then (if (rd (rd_L1 x237000 x7) 0) = (rd (rd_L1 x237000 x5) 0) then (some true) else (haulierlaw09_TourPlans.l2 k x5 (wrap64 (x7 + 1)) x237000)) else (none)) else (none)) else (haulierlaw09_TourPlans.l2 k x5 (wrap64 (x7 + 1)) x237000)) else (none)) else (none)) else (haulierlaw09_TourPlans.l2 k x5 (wrap64 (x7 + 1)) x237000)) else (none)) else (none)) else (haulierlaw09_TourPlans.l0 k (wrap64 (x5 + 1)) x237000)
end
def haulierlaw09_TourPlans.f (k : Nat) (l0_0 : List (List Int)) : Option (Bool) := (haulierlaw09_awake.f k).bind fun t237 => ((haulierlaw08_Few.f k l0_0).bind fun t238 => (if t237 = true then (haulierlaw09_TourPlans.j0 k t237 (!t238) l0_0) else (haulierlaw09_TourPlans.j0 k t237 true l0_0)))
theorem haulierlaw09_TourPlans.mono_l : ∀ k, (∀ y0 y1 y2, LeO (haulierlaw09_TourPlans.j0 k y0 y1 y2) (haulierlaw09_TourPlans.j0 (k + 1) y0 y1 y2)) ∧ (∀ y0 y1, LeO (haulierlaw09_TourPlans.l0 k y0 y1) (haulierlaw09_TourPlans.l0 (k + 1) y0 y1)) ∧ (∀ y0 y1 y2, LeO (haulierlaw09_TourPlans.l1 k y0 y1 y2) (haulierlaw09_TourPlans.l1 (k + 1) y0 y1 y2)) ∧ (∀ y0 y1 y2, LeO (haulierlaw09_TourPlans.l2 k y0 y1 y2) (haulierlaw09_TourPlans.l2 (k + 1) y0 y1 y2))
  | 0 => ⟨fun _ _ _ r h => by simp [haulierlaw09_TourPlans.j0] at h, fun _ _ r h => by simp [haulierlaw09_TourPlans.l0] at h, fun _ _ _ r h => by simp [haulierlaw09_TourPlans.l1] at h, fun _ _ _ r h => by simp [haulierlaw09_TourPlans.l2] at h⟩
  | k + 1 => by
    obtain ⟨ih0, ih1, ih2, ih3⟩ := haulierlaw09_TourPlans.mono_l k
    refine ⟨?_, ?_, ?_, ?_⟩
    · intro y0 y1 y2
      unfold haulierlaw09_TourPlans.j0
      repeat' first
      | (with_reducible exact ih0 _ _ _)
      | (with_reducible exact ih1 _ _)
      | (with_reducible exact ih2 _ _ _)
      | (with_reducible exact ih3 _ _ _)
      | (with_reducible exact haulierlaw08_Few.mono _ _)
      | (with_reducible exact haulierlaw09_awake.mono _)
      | (with_reducible exact haulierref04_Same.mono _ _ _)
      | (with_reducible exact plan_Sorted.mono _ _)
      | (with_reducible exact tour_Join.mono _ _)
      | (with_reducible exact LeO.refl _)
      | (with_reducible exact LeO.none _)
      | (with_reducible refine LeO.ite ?_ ?_)
      | (with_reducible refine LeO.bind ?_ (fun _ => ?_))
      | exact ih0 _ _ _
      | exact ih1 _ _
      | exact ih2 _ _ _
      | exact ih3 _ _ _
      | exact haulierlaw08_Few.mono _ _
      | exact haulierlaw09_awake.mono _
      | exact haulierref04_Same.mono _ _ _
      | exact plan_Sorted.mono _ _
      | exact tour_Join.mono _ _
      | exact LeO.none _
      | refine LeO.ite ?_ ?_
      | refine LeO.bind ?_ (fun _ => ?_)
    · intro y0 y1
      unfold haulierlaw09_TourPlans.l0
      repeat' first
      | (with_reducible exact ih0 _ _ _)
      | (with_reducible exact ih1 _ _)
      | (with_reducible exact ih2 _ _ _)
      | (with_reducible exact ih3 _ _ _)
      | (with_reducible exact haulierlaw08_Few.mono _ _)
      | (with_reducible exact haulierlaw09_awake.mono _)
      | (with_reducible exact haulierref04_Same.mono _ _ _)
      | (with_reducible exact plan_Sorted.mono _ _)
      | (with_reducible exact tour_Join.mono _ _)
      | (with_reducible exact LeO.refl _)
      | (with_reducible exact LeO.none _)
      | (with_reducible refine LeO.ite ?_ ?_)
      | (with_reducible refine LeO.bind ?_ (fun _ => ?_))
      | exact ih0 _ _ _
      | exact ih1 _ _
      | exact ih2 _ _ _
      | exact ih3 _ _ _
      | exact haulierlaw08_Few.mono _ _
      | exact haulierlaw09_awake.mono _
      | exact haulierref04_Same.mono _ _ _
      | exact plan_Sorted.mono _ _
      | exact tour_Join.mono _ _
      | exact LeO.none _
      | refine LeO.ite ?_ ?_
      | refine LeO.bind ?_ (fun _ => ?_)
    · intro y0 y1 y2
      unfold haulierlaw09_TourPlans.l1
      repeat' first
      | (with_reducible exact ih0 _ _ _)
      | (with_reducible exact ih1 _ _)
      | (with_reducible exact ih2 _ _ _)
      | (with_reducible exact ih3 _ _ _)
      | (with_reducible exact haulierlaw08_Few.mono _ _)
      | (with_reducible exact haulierlaw09_awake.mono _)
      | (with_reducible exact haulierref04_Same.mono _ _ _)
      | (with_reducible exact plan_Sorted.mono _ _)
      | (with_reducible exact tour_Join.mono _ _)
      | (with_reducible exact LeO.refl _)
      | (with_reducible exact LeO.none _)
      | (with_reducible refine LeO.ite ?_ ?_)
      | (with_reducible refine LeO.bind ?_ (fun _ => ?_))
      | exact ih0 _ _ _
      | exact ih1 _ _
      | exact ih2 _ _ _
      | exact ih3 _ _ _
      | exact haulierlaw08_Few.mono _ _
      | exact haulierlaw09_awake.mono _
      | exact haulierref04_Same.mono _ _ _
      | exact plan_Sorted.mono _ _
      | exact tour_Join.mono _ _
      | exact LeO.none _
      | refine LeO.ite ?_ ?_
      | refine LeO.bind ?_ (fun _ => ?_)
    · intro y0 y1 y2
      unfold haulierlaw09_TourPlans.l2
      repeat' first
      | (with_reducible exact ih0 _ _ _)
      | (with_reducible exact ih1 _ _)
      | (with_reducible exact ih2 _ _ _)
      | (with_reducible exact ih3 _ _ _)
      | (with_reducible exact haulierlaw08_Few.mono _ _)
      | (with_reducible exact haulierlaw09_awake.mono _)
      | (with_reducible exact haulierref04_Same.mono _ _ _)
      | (with_reducible exact plan_Sorted.mono _ _)
      | (with_reducible exact tour_Join.mono _ _)
      | (with_reducible exact LeO.refl _)
      | (with_reducible exact LeO.none _)
      | (with_reducible refine LeO.ite ?_ ?_)
      | (with_reducible refine LeO.bind ?_ (fun _ => ?_))
      | exact ih0 _ _ _
      | exact ih1 _ _
      | exact ih2 _ _ _
      | exact ih3 _ _ _
      | exact haulierlaw08_Few.mono _ _
      | exact haulierlaw09_awake.mono _
      | exact haulierref04_Same.mono _ _ _
      | exact plan_Sorted.mono _ _
      | exact tour_Join.mono _ _
      | exact LeO.none _
      | refine LeO.ite ?_ ?_
      | refine LeO.bind ?_ (fun _ => ?_)
theorem haulierlaw09_TourPlans.mono : ∀ a0 k, LeO (haulierlaw09_TourPlans.f k a0) (haulierlaw09_TourPlans.f (k + 1) a0) := by
  intro a0 k
  obtain ⟨ih0, ih1, ih2, ih3⟩ := haulierlaw09_TourPlans.mono_l k
  unfold haulierlaw09_TourPlans.f
  repeat' first
      | (with_reducible exact ih0 _ _ _)
      | (with_reducible exact ih1 _ _)
      | (with_reducible exact ih2 _ _ _)
      | (with_reducible exact ih3 _ _ _)
      | (with_reducible exact haulierlaw08_Few.mono _ _)
      | (with_reducible exact haulierlaw09_awake.mono _)
      | (with_reducible exact haulierref04_Same.mono _ _ _)
      | (with_reducible exact plan_Sorted.mono _ _)
      | (with_reducible exact tour_Join.mono _ _)
      | (with_reducible exact LeO.refl _)
      | (with_reducible exact LeO.none _)
      | (with_reducible refine LeO.ite ?_ ?_)
      | (with_reducible refine LeO.bind ?_ (fun _ => ?_))
      | exact ih0 _ _ _
      | exact ih1 _ _
      | exact ih2 _ _ _
      | exact ih3 _ _ _
      | exact haulierlaw08_Few.mono _ _
      | exact haulierlaw09_awake.mono _
      | exact haulierref04_Same.mono _ _ _
      | exact plan_Sorted.mono _ _
      | exact tour_Join.mono _ _
      | exact LeO.none _
      | refine LeO.ite ?_ ?_
      | refine LeO.bind ?_ (fun _ => ?_)
set_option maxHeartbeats 8000000 in
set_option maxRecDepth 100000 in
theorem haulierlaw09_TourPlans.calls (k : Nat) (A0_0 : Option Addr) (c0_0 : Nat) (l0_0 : List (List Int)) (r : Bool) (w : World) (hr0_0 : Kd.C (Kd.slice 3 (Kd.int .i64)) w A0_0 l0_0.length l0_0) (hc0_0 : l0_0.length ≤ c0_0) (h : haulierlaw09_TourPlans.f k l0_0 = some r) :
    Calls Try.prog 4 #[.agg #[.slice A0_0 l0_0.length c0_0]] w fun e w' => e = .returned (.bool r) ∧ Below w.heap.size w w' := by
  have hu24 := Try.underlying24
  have HR0_0 := Aside0.mk hr0_0
  have HC0_0 := Aside0.mk hc0_0
  clear hr0_0 hc0_0
  have HB := Aside0.mk (Below.refl w.heap.size w)
  have H : ((haulierlaw09_awake.f k).bind fun t237 => ((haulierlaw08_Few.f k l0_0).bind fun t238 => (if t237 = true then (haulierlaw09_TourPlans.j0 k t237 (!t238) l0_0) else (haulierlaw09_TourPlans.j0 k t237 true l0_0)))) = some r := h
  clear h
  replace H := Option.bind_eq_some_iff.mp H
  obtain ⟨t237, A20, H⟩ := H
  replace H : ((haulierlaw08_Few.f k l0_0).bind fun t238 => (if t237 = true then (haulierlaw09_TourPlans.j0 k t237 (!t238) l0_0) else (haulierlaw09_TourPlans.j0 k t237 true l0_0))) = some r := H
  have A2 := Aside0.mk A20
  clear A20
  replace H := Option.bind_eq_some_iff.mp H
  obtain ⟨t238, A30, H⟩ := H
  replace H : (if t237 = true then (haulierlaw09_TourPlans.j0 k t237 (!t238) l0_0) else (haulierlaw09_TourPlans.j0 k t237 true l0_0)) = some r := H
  have A3 := Aside0.mk A30
  clear A30
  have HC4 := Aside0.mk H
  clear H
  go_enter Try.func4, Try.ntmps4
  go_upto_region 3 with (first | ((with_reducible refine gate_dst (N := 1) rfl ?_); (try (refine gate_guard (by rfl) ?_; dsimp only)); refine box_event ?hg (N := 1) ?hd (cs := #[.slice A0_0 l0_0.length c0_0]) (t := 24) ?hr ?_; (case hd => rfl); (case hg => rfl); (case hr => first | (go_simp; done) | (go_simp; rfl)); intro gb236 hg w5 hbox hb; have n0_ := Aside0.mk (below_step (by repeat (first | (with_reducible first | exact HB.out | apply below_alloc | apply pw_below_drewN | apply below_drew1) | exact HB.out)) hb); have n1_ := Aside0.mk (hbox); have n2_ := Aside0.mk ((by rw [hg]; exact (below_size (by repeat (first | (with_reducible first | exact HB.out | apply below_alloc | apply pw_below_drewN | apply below_drew1) | exact HB.out))) : w.heap.size ≤ gb236)); have n3_ := Aside0.mk ((by rw [hg]; exact (below_size (by repeat (first | (with_reducible first | exact HB.out | apply below_alloc | apply pw_below_drewN | apply below_drew1) | exact HB.out))) : w.heap.size ≤ gb236)); clear HB; have HB := n0_; have BK236 := n1_; have GW236 := n2_; have GE236 := n3_; clear n0_ n1_ n2_ n3_; clear hb hbox hg) | (go_at_call 6; (with_reducible refine (haulierlaw09_awake.calls k  t237 _ A2.out).mono ?_); rintro e w6 ⟨rfl, hb⟩; have n0_ := Aside0.mk (blk_below (g := gb236) (o := .cells #[.slice A0_0 l0_0.length c0_0] 24 (0, 0)) (by (with_reducible repeat (first | refine blk_drewN ?_ _ | refine blk_drew ?_ | refine blk_alloc ?_ _)); exact BK236.out) hb); have n1_ := Aside0.mk (below_step (by repeat (first | (with_reducible first | exact HB.out | apply below_alloc | apply pw_below_drewN | apply below_drew1 | refine below_set ?_ GE236.out) | exact HB.out)) hb); clear BK236; clear HB; have BK236 := n0_; have HB := n1_; clear n0_ n1_; (try clear hb); (try clear hb2); (try clear hk); (try clear hi); have hcz7_0 : w6.cell? ⟨gb236, 0, none⟩ = some (.slice A0_0 l0_0.length c0_0) := (blk_cell BK236.out 0).trans rfl; have hfz7_0 := blk_frozen BK236.out 0) | (go_at_call 7; (with_reducible refine (haulierlaw08_Few.calls k _ _ l0_0 t238 _ ?side1 ?side2 A3.out).mono ?_); (case side1 => repeat (first | exact (Kd.C_below HR0_0.out HB.out) | (with_reducible refine Kd.C_alloc ?_ _) | (with_reducible refine Kd.C_drewN ?_ _) | (with_reducible refine Kd.C_drew ?_))); (case side2 => exact HC0_0.out); rintro e w8 ⟨rfl, hb⟩; have n0_ := Aside0.mk (blk_below (g := gb236) (o := .cells #[.slice A0_0 l0_0.length c0_0] 24 (0, 0)) (by (with_reducible repeat (first | refine blk_drewN ?_ _ | refine blk_drew ?_ | refine blk_alloc ?_ _)); exact BK236.out) hb); have n1_ := Aside0.mk (below_step (by repeat (first | (with_reducible first | exact HB.out | apply below_alloc | apply pw_below_drewN | apply below_drew1 | refine below_set ?_ GE236.out) | exact HB.out)) hb); clear BK236; clear HB; have BK236 := n0_; have HB := n1_; clear n0_ n1_; (try clear hb); (try clear hb2); (try clear hk); (try clear hi)))
  repeat (go_quiet (first | ((with_reducible refine gate_dst (N := 1) rfl ?_); (try (refine gate_guard (by rfl) ?_; dsimp only)); refine box_event ?hg (N := 1) ?hd (cs := #[.slice A0_0 l0_0.length c0_0]) (t := 24) ?hr ?_; (case hd => rfl); (case hg => rfl); (case hr => first | (go_simp; done) | (go_simp; rfl)); intro gb236 hg w5 hbox hb; have n0_ := Aside0.mk (below_step (by repeat (first | (with_reducible first | exact HB.out | apply below_alloc | apply pw_below_drewN | apply below_drew1) | exact HB.out)) hb); have n1_ := Aside0.mk (hbox); have n2_ := Aside0.mk ((by rw [hg]; exact (below_size (by repeat (first | (with_reducible first | exact HB.out | apply below_alloc | apply pw_below_drewN | apply below_drew1) | exact HB.out))) : w.heap.size ≤ gb236)); have n3_ := Aside0.mk ((by rw [hg]; exact (below_size (by repeat (first | (with_reducible first | exact HB.out | apply below_alloc | apply pw_below_drewN | apply below_drew1) | exact HB.out))) : w.heap.size ≤ gb236)); clear HB; have HB := n0_; have BK236 := n1_; have GW236 := n2_; have GE236 := n3_; clear n0_ n1_ n2_ n3_; clear hb hbox hg) | (go_at_call 6; (with_reducible refine (haulierlaw09_awake.calls k  t237 _ A2.out).mono ?_); rintro e w6 ⟨rfl, hb⟩; have n0_ := Aside0.mk (blk_below (g := gb236) (o := .cells #[.slice A0_0 l0_0.length c0_0] 24 (0, 0)) (by (with_reducible repeat (first | refine blk_drewN ?_ _ | refine blk_drew ?_ | refine blk_alloc ?_ _)); exact BK236.out) hb); have n1_ := Aside0.mk (below_step (by repeat (first | (with_reducible first | exact HB.out | apply below_alloc | apply pw_below_drewN | apply below_drew1 | refine below_set ?_ GE236.out) | exact HB.out)) hb); clear BK236; clear HB; have BK236 := n0_; have HB := n1_; clear n0_ n1_; (try clear hb); (try clear hb2); (try clear hk); (try clear hi); have hcz7_0 : w6.cell? ⟨gb236, 0, none⟩ = some (.slice A0_0 l0_0.length c0_0) := (blk_cell BK236.out 0).trans rfl; have hfz7_0 := blk_frozen BK236.out 0) | (go_at_call 7; (with_reducible refine (haulierlaw08_Few.calls k _ _ l0_0 t238 _ ?side1 ?side2 A3.out).mono ?_); (case side1 => repeat (first | exact (Kd.C_below HR0_0.out HB.out) | (with_reducible refine Kd.C_alloc ?_ _) | (with_reducible refine Kd.C_drewN ?_ _) | (with_reducible refine Kd.C_drew ?_))); (case side2 => exact HC0_0.out); rintro e w8 ⟨rfl, hb⟩; have n0_ := Aside0.mk (blk_below (g := gb236) (o := .cells #[.slice A0_0 l0_0.length c0_0] 24 (0, 0)) (by (with_reducible repeat (first | refine blk_drewN ?_ _ | refine blk_drew ?_ | refine blk_alloc ?_ _)); exact BK236.out) hb); have n1_ := Aside0.mk (below_step (by repeat (first | (with_reducible first | exact HB.out | apply below_alloc | apply pw_below_drewN | apply below_drew1 | refine below_set ?_ GE236.out) | exact HB.out)) hb); clear BK236; clear HB; have BK236 := n0_; have HB := n1_; clear n0_ n1_; (try clear hb); (try clear hb2); (try clear hk); (try clear hi))); go_upto_region 3 with (first | ((with_reducible refine gate_dst (N := 1) rfl ?_); (try (refine gate_guard (by rfl) ?_; dsimp only)); refine box_event ?hg (N := 1) ?hd (cs := #[.slice A0_0 l0_0.length c0_0]) (t := 24) ?hr ?_; (case hd => rfl); (case hg => rfl); (case hr => first | (go_simp; done) | (go_simp; rfl)); intro gb236 hg w5 hbox hb; have n0_ := Aside0.mk (below_step (by repeat (first | (with_reducible first | exact HB.out | apply below_alloc | apply pw_below_drewN | apply below_drew1) | exact HB.out)) hb); have n1_ := Aside0.mk (hbox); have n2_ := Aside0.mk ((by rw [hg]; exact (below_size (by repeat (first | (with_reducible first | exact HB.out | apply below_alloc | apply pw_below_drewN | apply below_drew1) | exact HB.out))) : w.heap.size ≤ gb236)); have n3_ := Aside0.mk ((by rw [hg]; exact (below_size (by repeat (first | (with_reducible first | exact HB.out | apply below_alloc | apply pw_below_drewN | apply below_drew1) | exact HB.out))) : w.heap.size ≤ gb236)); clear HB; have HB := n0_; have BK236 := n1_; have GW236 := n2_; have GE236 := n3_; clear n0_ n1_ n2_ n3_; clear hb hbox hg) | (go_at_call 6; (with_reducible refine (haulierlaw09_awake.calls k  t237 _ A2.out).mono ?_); rintro e w6 ⟨rfl, hb⟩; have n0_ := Aside0.mk (blk_below (g := gb236) (o := .cells #[.slice A0_0 l0_0.length c0_0] 24 (0, 0)) (by (with_reducible repeat (first | refine blk_drewN ?_ _ | refine blk_drew ?_ | refine blk_alloc ?_ _)); exact BK236.out) hb); have n1_ := Aside0.mk (below_step (by repeat (first | (with_reducible first | exact HB.out | apply below_alloc | apply pw_below_drewN | apply below_drew1 | refine below_set ?_ GE236.out) | exact HB.out)) hb); clear BK236; clear HB; have BK236 := n0_; have HB := n1_; clear n0_ n1_; (try clear hb); (try clear hb2); (try clear hk); (try clear hi); have hcz7_0 : w6.cell? ⟨gb236, 0, none⟩ = some (.slice A0_0 l0_0.length c0_0) := (blk_cell BK236.out 0).trans rfl; have hfz7_0 := blk_frozen BK236.out 0) | (go_at_call 7; (with_reducible refine (haulierlaw08_Few.calls k _ _ l0_0 t238 _ ?side1 ?side2 A3.out).mono ?_); (case side1 => repeat (first | exact (Kd.C_below HR0_0.out HB.out) | (with_reducible refine Kd.C_alloc ?_ _) | (with_reducible refine Kd.C_drewN ?_ _) | (with_reducible refine Kd.C_drew ?_))); (case side2 => exact HC0_0.out); rintro e w8 ⟨rfl, hb⟩; have n0_ := Aside0.mk (blk_below (g := gb236) (o := .cells #[.slice A0_0 l0_0.length c0_0] 24 (0, 0)) (by (with_reducible repeat (first | refine blk_drewN ?_ _ | refine blk_drew ?_ | refine blk_alloc ?_ _)); exact BK236.out) hb); have n1_ := Aside0.mk (below_step (by repeat (first | (with_reducible first | exact HB.out | apply below_alloc | apply pw_below_drewN | apply below_drew1 | refine below_set ?_ GE236.out) | exact HB.out)) hb); clear BK236; clear HB; have BK236 := n0_; have HB := n1_; clear n0_ n1_; (try clear hb); (try clear hb2); (try clear hk); (try clear hi))))
  (try simp only [Act.put, List.setIfInBounds_toArray, List.set_cons_zero, List.set_cons_succ])
  go_cut [20] (fun v20 wc => ∃ (kq : Nat) (x20_3 : Bool), v20 = .bool x20_3 ∧ Aside0 (haulierlaw09_TourPlans.j0 kq t237 x20_3 l0_0 = some r) ∧ Aside0 (kq ≤ k) ∧ Aside0 (wc.heap[gb236]? = some (.cells #[(.slice A0_0 l0_0.length c0_0)] 24 (0, 0))) ∧ Aside0 (Below w.heap.size w wc))
  case first =>
    have H := HC4.out
    clear HC4
    by_cases c9 : t237 = true
    · subst c9
      have H1 : (haulierlaw09_TourPlans.j0 k true (!t238) l0_0) = some r := by rw [if_pos rfl] at H; exact H
      clear H
      have H := H1
      clear H1
      have H' := Aside0.mk H
      clear H
      go_wp2
      repeat (go_quiet (fail); try go_wp2)
      go_meet
      case rel => exact ⟨_, (!t238), (by first | rfl | (simp; done) | (simp [*]; done)), H', ⟨by first | omega | exact Nat.le_refl _⟩, ⟨by (with_reducible repeat (first | refine blk_drewN ?_ _ | refine blk_drew ?_ | refine blk_alloc ?_ _)); exact BK236.out⟩, ⟨by repeat (first | (with_reducible first | exact HB.out | apply below_alloc | apply pw_below_drewN | apply below_drew1 | refine below_set ?_ GE236.out) | exact HB.out)⟩⟩
    · replace c9 := Bool.eq_false_iff.mpr c9
      subst c9
      have H1 : (haulierlaw09_TourPlans.j0 k false true l0_0) = some r := by rw [if_neg (show ¬ (false = true) by decide)] at H; exact H
      clear H
      have H := H1
      clear H1
      have H' := Aside0.mk H
      clear H
      go_wp2
      repeat (go_quiet (fail); try go_wp2)
      go_meet
      case rel => exact ⟨_, (true), (by first | rfl | (simp; done) | (simp [*]; done)), H', ⟨by first | omega | exact Nat.le_refl _⟩, ⟨by (with_reducible repeat (first | refine blk_drewN ?_ _ | refine blk_drew ?_ | refine blk_alloc ?_ _)); exact BK236.out⟩, ⟨by repeat (first | (with_reducible first | exact HB.out | apply below_alloc | apply pw_below_drewN | apply below_drew1 | refine below_set ?_ GE236.out) | exact HB.out)⟩⟩
  case rest =>
    clear HC4
    try clear p2
    try clear c4
    try clear c9
    try clear hcz7_0
    try clear hfz7_0
    obtain ⟨kq, x20_3, rfl, HA, HJ3, BK236, HB⟩ := hcut
    cases kq with
    | zero => exact absurd HA.out (by simp [haulierlaw09_TourPlans.j0])
    | succ kj3 =>
      have H := HA.out
      clear HA
      simp only [haulierlaw09_TourPlans.j0] at H
      by_cases c10 : x20_3 = true
      · subst c10
        have H1 : (some t237) = some r := by rw [if_pos rfl] at H; exact H
        clear H
        have H := H1
        clear H1
        obtain rfl := Option.some.inj H
        go_wp2
        repeat (go_quiet (fail); try go_wp2)
        go_ret
        exact ⟨by first | rfl | (simp [errW_none, errW_some] <;> rfl) | (simp [*, errW_none, errW_some] <;> rfl), by repeat (first | (with_reducible first | exact HB.out | apply below_alloc | apply pw_below_drewN | apply below_drew1 | refine below_set ?_ GE236.out) | exact HB.out)⟩
      · replace c10 := Bool.eq_false_iff.mpr c10
        subst c10
        have H1 : (haulierlaw09_TourPlans.l0 kj3 0 l0_0) = some r := by rw [if_neg (show ¬ (false = true) by decide)] at H; exact H
        clear H
        have H := H1
        clear H1
        have H' := Aside0.mk H
        clear H
        go_wp2
        repeat (go_quiet (fail); try go_wp2)
        go_loopg [5] kj3 (fun kq v5 w' => ∃ (x5_2 : Int), v5 = .int .i64 x5_2 ∧ Aside0 (haulierlaw09_TourPlans.l0 kq x5_2 l0_0 = some r) ∧ Aside0 (kq ≤ kj3) ∧ Aside0 (w'.heap[gb236]? = some (.cells #[(.slice A0_0 l0_0.length c0_0)] 24 (0, 0))) ∧ Aside0 (Below w.heap.size w w'))
        case atStart => exact ⟨(0), (by first | rfl | (simp; done) | (simp [*]; done)), H', ⟨Nat.le_refl _⟩, ⟨by (with_reducible repeat (first | refine blk_drewN ?_ _ | refine blk_drew ?_ | refine blk_alloc ?_ _)); exact BK236.out⟩, ⟨by repeat (first | (with_reducible first | exact HB.out | apply below_alloc | apply pw_below_drewN | apply below_drew1 | refine below_set ?_ GE236.out) | exact HB.out)⟩⟩
        case round =>
          clear H'
          try clear c1
          try clear p2
          try clear c4
          try clear c9
          try clear c10
          try clear hcz7_0
          try clear hfz7_0
          try clear p2
          obtain ⟨x5_2, rfl, HA, HK2, BK236, HB⟩ := hrel
          cases gk with
          | zero => exact absurd HA.out (by simp [haulierlaw09_TourPlans.l0])
          | succ k2 =>
            have H := HA.out
            clear HA
            simp only [haulierlaw09_TourPlans.l0] at H
            by_cases c11 : x5_2 < (l0_0.length : Int)
            · rw [if_pos c11] at H
              have c11b0 : decide (x5_2 < (l0_0.length : Int)) = true := decide_eq_true c11
              clear c11
              have H' := Aside0.mk H
              clear H
              have hcz12_0 : wr.cell? ⟨gb236, 0, none⟩ = some (.slice A0_0 l0_0.length c0_0) := (blk_cell BK236.out 0).trans rfl
              have hfz12_0 := blk_frozen BK236.out 0
              go_wp2
              repeat (go_quiet (fail); try go_wp2)
              go_loopg [6] k2 (fun kq v6 w' => ∃ (x6_3 : Int), v6 = .int .i64 x6_3 ∧ Aside0 (haulierlaw09_TourPlans.l1 kq x5_2 x6_3 l0_0 = some r) ∧ Aside0 (kq ≤ k2) ∧ Aside0 (w'.heap[gb236]? = some (.cells #[(.slice A0_0 l0_0.length c0_0)] 24 (0, 0))) ∧ Aside0 (Below w.heap.size w w'))
              case atStart => exact ⟨(0), (by first | rfl | (simp; done) | (simp [*]; done)), H', ⟨Nat.le_refl _⟩, ⟨by (with_reducible repeat (first | refine blk_drewN ?_ _ | refine blk_drew ?_ | refine blk_alloc ?_ _)); exact BK236.out⟩, ⟨by repeat (first | (with_reducible first | exact HB.out | apply below_alloc | apply pw_below_drewN | apply below_drew1 | refine below_set ?_ GE236.out) | exact HB.out)⟩⟩
              case round =>
                clear H'
                try clear c1
                try clear p2
                try clear c4
                try clear c9
                try clear c10
                try clear c11
                try clear c11b0
                try clear hcz12_0
                try clear hcz7_0
                try clear hfz12_0
                try clear hfz7_0
                try clear p2
                obtain ⟨x6_3, rfl, HA, HK3, BK236, HB⟩ := hrel
                cases gk with
                | zero => exact absurd HA.out (by simp [haulierlaw09_TourPlans.l1])
                | succ k3 =>
                  have H := HA.out
                  clear HA
                  simp only [haulierlaw09_TourPlans.l1] at H
                  by_cases c13 : 0 ≤ x5_2
                  · rw [if_pos c13] at H
                    have c13b0 : decide (0 ≤ x5_2) = true := decide_eq_true c13
                    clear c13
                    by_cases c14 : x5_2 < (l0_0.length : Int)
                    · rw [if_pos c14] at H
                      have c14b0 : decide (x5_2 < (l0_0.length : Int)) = true := decide_eq_true c14
                      clear c14
                      by_cases c15 : x6_3 < ((rd_L1 l0_0 x5_2).length : Int)
                      · rw [if_pos c15] at H
                        have c15b0 : decide (x6_3 < ((rd_L1 l0_0 x5_2).length : Int)) = true := decide_eq_true c15
                        clear c15
                        by_cases c16 : 0 ≤ x6_3
                        · rw [if_pos c16] at H
                          have c16b0 : decide (0 ≤ x6_3) = true := decide_eq_true c16
                          clear c16
                          by_cases c17 : (rd (rd_L1 l0_0 x5_2) x6_3) < 1
                          · rw [if_pos c17] at H
                            have c17b0 : decide ((rd (rd_L1 l0_0 x5_2) x6_3) < 1) = true := decide_eq_true c17
                            clear c17
                            obtain rfl := Option.some.inj H
                            have hcz18_0 : wr.cell? ⟨gb236, 0, none⟩ = some (.slice A0_0 l0_0.length c0_0) := (blk_cell BK236.out 0).trans rfl
                            have hfz18_0 := blk_frozen BK236.out 0
                            have p239 : 0 ≤ (x5_2 : Int) := of_decide_eq_true (by first | (with_reducible assumption) | assumption)
                            have q239 : x5_2 < (l0_0.length : Int) := of_decide_eq_true (by first | (with_reducible assumption) | assumption)
                            obtain ⟨ad239, A239_0, c239_0, e239, hx239_0, hl239_0, hi239_0⟩ := at_L1 HR0_0.out x5_2 p239 q239
                            cases e239
                            replace hx239_0 := (HB.out.cell (World.block_lt_of_cell? w _ hx239_0)).trans hx239_0
                            have HR239_0 := Aside0.mk hi239_0
                            have HC239_0 := Aside0.mk hl239_0
                            clear hi239_0 hl239_0
                            replace p239 := eq_true p239
                            replace q239 := eq_true q239
                            have p240 : 0 ≤ (x5_2 : Int) := of_decide_eq_true (by first | (with_reducible assumption) | assumption)
                            have q240 : x5_2 < (l0_0.length : Int) := of_decide_eq_true (by first | (with_reducible assumption) | assumption)
                            obtain ⟨ad240, A240_0, c240_0, e240, hx240_0, hl240_0, hi240_0⟩ := at_L1 HR0_0.out x5_2 p240 q240
                            obtain rfl : ad239 = ad240 := (by injection e240)
                            replace hx240_0 := (HB.out.cell (World.block_lt_of_cell? w _ hx240_0)).trans hx240_0
                            have HR240_0 := Aside0.mk hi240_0
                            have HC240_0 := Aside0.mk hl240_0
                            clear hi240_0 hl240_0
                            replace p240 := eq_true p240
                            replace q240 := eq_true q240
                            have ea_ := Option.some.inj (hx239_0.symm.trans hx240_0)
                            injection ea_ with ea_ en_ ec_
                            subst ea_
                            subst ec_
                            clear en_
                            have p241 : 0 ≤ (x6_3 : Int) := of_decide_eq_true (by first | (with_reducible assumption) | assumption)
                            have q241 : x6_3 < ((rd_L1 l0_0 x5_2).length : Int) := of_decide_eq_true (by first | (with_reducible assumption) | assumption)
                            obtain ⟨ad241, e241, hx241_0⟩ := Kd.at_int HR240_0.out x6_3 p241 q241
                            cases e241
                            replace hx241_0 := (HB.out.cell (World.block_lt_of_cell? w _ hx241_0)).trans hx241_0
                            replace p241 := eq_true p241
                            replace q241 := eq_true q241
                            go_wp2
                            repeat (go_quiet (fail); try go_wp2)
                            go_ret
                            exact ⟨by first | rfl | (simp [errW_none, errW_some] <;> rfl) | (simp [*, errW_none, errW_some] <;> rfl), by repeat (first | (with_reducible first | exact HB.out | apply below_alloc | apply pw_below_drewN | apply below_drew1 | refine below_set ?_ GE236.out) | exact HB.out)⟩
                          · rw [if_neg c17] at H
                            have c17b0 : decide ((rd (rd_L1 l0_0 x5_2) x6_3) < 1) = false := decide_eq_false c17
                            clear c17
                            have H' := Aside0.mk H
                            clear H
                            have hcz19_0 : wr.cell? ⟨gb236, 0, none⟩ = some (.slice A0_0 l0_0.length c0_0) := (blk_cell BK236.out 0).trans rfl
                            have hfz19_0 := blk_frozen BK236.out 0
                            have p239 : 0 ≤ (x5_2 : Int) := of_decide_eq_true (by first | (with_reducible assumption) | assumption)
                            have q239 : x5_2 < (l0_0.length : Int) := of_decide_eq_true (by first | (with_reducible assumption) | assumption)
                            obtain ⟨ad239, A239_0, c239_0, e239, hx239_0, hl239_0, hi239_0⟩ := at_L1 HR0_0.out x5_2 p239 q239
                            cases e239
                            replace hx239_0 := (HB.out.cell (World.block_lt_of_cell? w _ hx239_0)).trans hx239_0
                            have HR239_0 := Aside0.mk hi239_0
                            have HC239_0 := Aside0.mk hl239_0
                            clear hi239_0 hl239_0
                            replace p239 := eq_true p239
                            replace q239 := eq_true q239
                            have p240 : 0 ≤ (x5_2 : Int) := of_decide_eq_true (by first | (with_reducible assumption) | assumption)
                            have q240 : x5_2 < (l0_0.length : Int) := of_decide_eq_true (by first | (with_reducible assumption) | assumption)
                            obtain ⟨ad240, A240_0, c240_0, e240, hx240_0, hl240_0, hi240_0⟩ := at_L1 HR0_0.out x5_2 p240 q240
                            obtain rfl : ad239 = ad240 := (by injection e240)
                            replace hx240_0 := (HB.out.cell (World.block_lt_of_cell? w _ hx240_0)).trans hx240_0
                            have HR240_0 := Aside0.mk hi240_0
                            have HC240_0 := Aside0.mk hl240_0
                            clear hi240_0 hl240_0
                            replace p240 := eq_true p240
                            replace q240 := eq_true q240
                            have ea_ := Option.some.inj (hx239_0.symm.trans hx240_0)
                            injection ea_ with ea_ en_ ec_
                            subst ea_
                            subst ec_
                            clear en_
                            have p241 : 0 ≤ (x6_3 : Int) := of_decide_eq_true (by first | (with_reducible assumption) | assumption)
                            have q241 : x6_3 < ((rd_L1 l0_0 x5_2).length : Int) := of_decide_eq_true (by first | (with_reducible assumption) | assumption)
                            obtain ⟨ad241, e241, hx241_0⟩ := Kd.at_int HR240_0.out x6_3 p241 q241
                            cases e241
                            replace hx241_0 := (HB.out.cell (World.block_lt_of_cell? w _ hx241_0)).trans hx241_0
                            replace p241 := eq_true p241
                            replace q241 := eq_true q241
                            go_wp2
                            repeat (go_quiet (fail); try go_wp2)
                            go_roundg k3
                            case measure => have := HJ3.out; have := HK2.out; have := HK3.out; omega
                            case rel => exact ⟨(wrap64 (x6_3 + 1)), (by first | rfl | (simp; done) | (simp [*]; done)), H', ⟨by have := HJ3.out; have := HK2.out; have := HK3.out; omega⟩, ⟨by (with_reducible repeat (first | refine blk_drewN ?_ _ | refine blk_drew ?_ | refine blk_alloc ?_ _)); exact BK236.out⟩, ⟨by repeat (first | (with_reducible first | exact HB.out | apply below_alloc | apply pw_below_drewN | apply below_drew1 | refine below_set ?_ GE236.out) | exact HB.out)⟩⟩
                        · rw [if_neg c16] at H
                          exact absurd H (by simp)
                      · rw [if_neg c15] at H
                        have c15b0 : decide (x6_3 < ((rd_L1 l0_0 x5_2).length : Int)) = false := decide_eq_false c15
                        clear c15
                        have H' := Aside0.mk H
                        clear H
                        have hcz20_0 : wr.cell? ⟨gb236, 0, none⟩ = some (.slice A0_0 l0_0.length c0_0) := (blk_cell BK236.out 0).trans rfl
                        have hfz20_0 := blk_frozen BK236.out 0
                        have p239 : 0 ≤ (x5_2 : Int) := of_decide_eq_true (by first | (with_reducible assumption) | assumption)
                        have q239 : x5_2 < (l0_0.length : Int) := of_decide_eq_true (by first | (with_reducible assumption) | assumption)
                        obtain ⟨ad239, A239_0, c239_0, e239, hx239_0, hl239_0, hi239_0⟩ := at_L1 HR0_0.out x5_2 p239 q239
                        cases e239
                        replace hx239_0 := (HB.out.cell (World.block_lt_of_cell? w _ hx239_0)).trans hx239_0
                        have HR239_0 := Aside0.mk hi239_0
                        have HC239_0 := Aside0.mk hl239_0
                        clear hi239_0 hl239_0
                        replace p239 := eq_true p239
                        replace q239 := eq_true q239
                        go_wp2
                        repeat (go_quiet (fail); try go_wp2)
                        go_loopg [7] k3 (fun kq v7 w' => ∃ (x7_4 : Int), v7 = .int .i64 x7_4 ∧ Aside0 (haulierlaw09_TourPlans.l2 kq x5_2 x7_4 l0_0 = some r) ∧ Aside0 (kq ≤ k3) ∧ Aside0 (w'.heap[gb236]? = some (.cells #[(.slice (some ad239) l0_0.length c0_0)] 24 (0, 0))) ∧ Aside0 (Below w.heap.size w w'))
                        case atStart => exact ⟨(0), (by first | rfl | (simp; done) | (simp [*]; done)), H', ⟨Nat.le_refl _⟩, ⟨by (with_reducible repeat (first | refine blk_drewN ?_ _ | refine blk_drew ?_ | refine blk_alloc ?_ _)); exact BK236.out⟩, ⟨by repeat (first | (with_reducible first | exact HB.out | apply below_alloc | apply pw_below_drewN | apply below_drew1 | refine below_set ?_ GE236.out) | exact HB.out)⟩⟩
                        case round =>
                          clear H'
                          try clear c1
                          try clear c2
                          try clear p2
                          try clear q2
                          try clear hx2
                          try clear c4
                          try clear p6
                          try clear c9
                          try clear c10
                          try clear c11
                          try clear c11b0
                          try clear c13
                          try clear c13b0
                          try clear c14
                          try clear c14b0
                          try clear c15
                          try clear c15b0
                          try clear c16
                          try clear c16b0
                          try clear c17
                          try clear c17b0
                          try clear hcz12_0
                          try clear hcz18_0
                          try clear hcz19_0
                          try clear hcz20_0
                          try clear hcz7_0
                          try clear hfz12_0
                          try clear hfz18_0
                          try clear hfz19_0
                          try clear hfz20_0
                          try clear hfz7_0
                          try clear hx239_0
                          try clear hx240_0
                          try clear hx241_0
                          try clear p2
                          try clear p239
                          try clear p240
                          try clear p241
                          try clear q239
                          try clear q240
                          try clear q241
                          obtain ⟨x7_4, rfl, HA, HK4, BK236, HB⟩ := hrel
                          cases gk with
                          | zero => exact absurd HA.out (by simp [haulierlaw09_TourPlans.l2])
                          | succ k4 =>
                            have H := HA.out
                            clear HA
                            simp only [haulierlaw09_TourPlans.l2] at H
                            by_cases c21 : x7_4 < x5_2
                            · rw [if_pos c21] at H
                              have c21b0 : decide (x7_4 < x5_2) = true := decide_eq_true c21
                              clear c21
                              by_cases c22 : 0 ≤ x7_4
                              · rw [if_pos c22] at H
                                have c22b0 : decide (0 ≤ x7_4) = true := decide_eq_true c22
                                clear c22
                                by_cases c23 : x7_4 < (l0_0.length : Int)
                                · rw [if_pos c23] at H
                                  have c23b0 : decide (x7_4 < (l0_0.length : Int)) = true := decide_eq_true c23
                                  clear c23
                                  by_cases c24 : ((rd_L1 l0_0 x7_4).length : Int) > 0
                                  · rw [if_pos c24] at H
                                    have c24b0 : decide (0 < ((rd_L1 l0_0 x7_4).length : Int)) = true := decide_eq_true c24
                                    have c24b1 : decide (0 < (rd_L1 l0_0 x7_4).length) = true := decide_eq_true (by omega)
                                    clear c24
                                    by_cases c25 : 0 ≤ x5_2
                                    · rw [if_pos c25] at H
                                      have c25b0 : decide (0 ≤ x5_2) = true := decide_eq_true c25
                                      clear c25
                                      by_cases c26 : x5_2 < (l0_0.length : Int)
                                      · rw [if_pos c26] at H
                                        have c26b0 : decide (x5_2 < (l0_0.length : Int)) = true := decide_eq_true c26
                                        clear c26
                                        by_cases c27 : ((rd_L1 l0_0 x5_2).length : Int) > 0
                                        · rw [if_pos c27] at H
                                          have c27b0 : decide (0 < ((rd_L1 l0_0 x5_2).length : Int)) = true := decide_eq_true c27
                                          have c27b1 : decide (0 < (rd_L1 l0_0 x5_2).length) = true := decide_eq_true (by omega)
                                          clear c27
                                          by_cases c28 : 0 < ((rd_L1 l0_0 x7_4).length : Int)
                                          · rw [if_pos c28] at H
                                            have c28b0 : decide (0 < ((rd_L1 l0_0 x7_4).length : Int)) = true := decide_eq_true c28
                                            have c28b1 : decide (0 < (rd_L1 l0_0 x7_4).length) = true := decide_eq_true (by omega)
                                            clear c28
                                            by_cases c29 : 0 < ((rd_L1 l0_0 x5_2).length : Int)
                                            · rw [if_pos c29] at H
                                              have c29b0 : decide (0 < ((rd_L1 l0_0 x5_2).length : Int)) = true := decide_eq_true c29
                                              have c29b1 : decide (0 < (rd_L1 l0_0 x5_2).length) = true := decide_eq_true (by omega)
                                              clear c29
                                              by_cases c30 : (rd (rd_L1 l0_0 x7_4) 0) = (rd (rd_L1 l0_0 x5_2) 0)
                                              · rw [if_pos c30] at H
                                                have c30b0 : ((rd (rd_L1 l0_0 x7_4) 0) == (rd (rd_L1 l0_0 x5_2) 0)) = true := beq_iff_eq.mpr c30
                                                have c30b1 : ((rd (rd_L1 l0_0 x7_4) 0) != (rd (rd_L1 l0_0 x5_2) 0)) = false := bne_eq_false_iff_eq.mpr c30
                                                clear c30
                                                obtain rfl := Option.some.inj H
                                                have hcz31_0 : wr.cell? ⟨gb236, 0, none⟩ = some (.slice (some ad239) l0_0.length c0_0) := (blk_cell BK236.out 0).trans rfl
                                                have hfz31_0 := blk_frozen BK236.out 0
                                                have p242 : 0 ≤ (x7_4 : Int) := of_decide_eq_true (by first | (with_reducible assumption) | assumption)
                                                have q242 : x7_4 < (l0_0.length : Int) := of_decide_eq_true (by first | (with_reducible assumption) | assumption)
                                                obtain ⟨ad242, A242_0, c242_0, e242, hx242_0, hl242_0, hi242_0⟩ := at_L1 HR0_0.out x7_4 p242 q242
                                                obtain rfl : ad239 = ad242 := (by injection e242)
                                                replace hx242_0 := (HB.out.cell (World.block_lt_of_cell? w _ hx242_0)).trans hx242_0
                                                have HR242_0 := Aside0.mk hi242_0
                                                have HC242_0 := Aside0.mk hl242_0
                                                clear hi242_0 hl242_0
                                                replace p242 := eq_true p242
                                                replace q242 := eq_true q242
                                                have p243 : 0 ≤ (x5_2 : Int) := of_decide_eq_true (by first | (with_reducible assumption) | assumption)
                                                have q243 : x5_2 < (l0_0.length : Int) := of_decide_eq_true (by first | (with_reducible assumption) | assumption)
                                                obtain ⟨ad243, A243_0, c243_0, e243, hx243_0, hl243_0, hi243_0⟩ := at_L1 HR0_0.out x5_2 p243 q243
                                                obtain rfl : ad239 = ad243 := (by injection e243)
                                                replace hx243_0 := (HB.out.cell (World.block_lt_of_cell? w _ hx243_0)).trans hx243_0
                                                have HR243_0 := Aside0.mk hi243_0
                                                have HC243_0 := Aside0.mk hl243_0
                                                clear hi243_0 hl243_0
                                                replace p243 := eq_true p243
                                                replace q243 := eq_true q243
                                                have p244 : 0 ≤ (x7_4 : Int) := of_decide_eq_true (by first | (with_reducible assumption) | assumption)
                                                have q244 : x7_4 < (l0_0.length : Int) := of_decide_eq_true (by first | (with_reducible assumption) | assumption)
                                                obtain ⟨ad244, A244_0, c244_0, e244, hx244_0, hl244_0, hi244_0⟩ := at_L1 HR0_0.out x7_4 p244 q244
                                                obtain rfl : ad239 = ad244 := (by injection e244)
                                                replace hx244_0 := (HB.out.cell (World.block_lt_of_cell? w _ hx244_0)).trans hx244_0
                                                have HR244_0 := Aside0.mk hi244_0
                                                have HC244_0 := Aside0.mk hl244_0
                                                clear hi244_0 hl244_0
                                                replace p244 := eq_true p244
                                                replace q244 := eq_true q244
                                                have ea_ := Option.some.inj (hx242_0.symm.trans hx244_0)
                                                injection ea_ with ea_ en_ ec_
                                                subst ea_
                                                subst ec_
                                                clear en_
                                                have p245 : 0 ≤ (0 : Int) := (by omega)
                                                have q245 : 0 < ((rd_L1 l0_0 x7_4).length : Int) := of_decide_eq_true (by first | (with_reducible assumption) | assumption)
                                                obtain ⟨ad245, e245, hx245_0⟩ := Kd.at_int HR244_0.out 0 p245 q245
                                                cases e245
                                                have qi245 : (0 < (rd_L1 l0_0 x7_4).length) = True := eq_true (by omega)
                                                (try rw [show ((0 : Int)).toNat = 0 from rfl] at hx245_0)
                                                (try rw [Addr.add_zero'] at hx245_0)
                                                replace hx245_0 := (HB.out.cell (World.block_lt_of_cell? w _ hx245_0)).trans hx245_0
                                                replace p245 := eq_true p245
                                                replace q245 := eq_true q245
                                                have p246 : 0 ≤ (x5_2 : Int) := of_decide_eq_true (by first | (with_reducible assumption) | assumption)
                                                have q246 : x5_2 < (l0_0.length : Int) := of_decide_eq_true (by first | (with_reducible assumption) | assumption)
                                                obtain ⟨ad246, A246_0, c246_0, e246, hx246_0, hl246_0, hi246_0⟩ := at_L1 HR0_0.out x5_2 p246 q246
                                                obtain rfl : ad239 = ad246 := (by injection e246)
                                                replace hx246_0 := (HB.out.cell (World.block_lt_of_cell? w _ hx246_0)).trans hx246_0
                                                have HR246_0 := Aside0.mk hi246_0
                                                have HC246_0 := Aside0.mk hl246_0
                                                clear hi246_0 hl246_0
                                                replace p246 := eq_true p246
                                                replace q246 := eq_true q246
                                                have ea_ := Option.some.inj (hx243_0.symm.trans hx246_0)
                                                injection ea_ with ea_ en_ ec_
                                                subst ea_
                                                subst ec_
                                                clear en_
                                                have p247 : 0 ≤ (0 : Int) := (by omega)
                                                have q247 : 0 < ((rd_L1 l0_0 x5_2).length : Int) := of_decide_eq_true (by first | (with_reducible assumption) | assumption)
                                                obtain ⟨ad247, e247, hx247_0⟩ := Kd.at_int HR246_0.out 0 p247 q247
                                                cases e247
                                                have qi247 : (0 < (rd_L1 l0_0 x5_2).length) = True := eq_true (by omega)
                                                (try rw [show ((0 : Int)).toNat = 0 from rfl] at hx247_0)
                                                (try rw [Addr.add_zero'] at hx247_0)
                                                replace hx247_0 := (HB.out.cell (World.block_lt_of_cell? w _ hx247_0)).trans hx247_0
                                                replace p247 := eq_true p247
                                                replace q247 := eq_true q247
                                                go_wp2
                                                repeat (go_quiet (fail); try go_wp2)
                                                go_ret
                                                exact ⟨by first | rfl | (simp [errW_none, errW_some] <;> rfl) | (simp [*, errW_none, errW_some] <;> rfl), by repeat (first | (with_reducible first | exact HB.out | apply below_alloc | apply pw_below_drewN | apply below_drew1 | refine below_set ?_ GE236.out) | exact HB.out)⟩
                                              · rw [if_neg c30] at H
                                                have c30b0 : ((rd (rd_L1 l0_0 x7_4) 0) == (rd (rd_L1 l0_0 x5_2) 0)) = false := beq_eq_false_iff_ne.mpr c30
                                                have c30b1 : ((rd (rd_L1 l0_0 x7_4) 0) != (rd (rd_L1 l0_0 x5_2) 0)) = true := bne_iff_ne.mpr c30
                                                have H' := Aside0.mk H
                                                clear H
                                                have hcz32_0 : wr.cell? ⟨gb236, 0, none⟩ = some (.slice (some ad239) l0_0.length c0_0) := (blk_cell BK236.out 0).trans rfl
                                                have hfz32_0 := blk_frozen BK236.out 0
                                                have p242 : 0 ≤ (x7_4 : Int) := of_decide_eq_true (by first | (with_reducible assumption) | assumption)
                                                have q242 : x7_4 < (l0_0.length : Int) := of_decide_eq_true (by first | (with_reducible assumption) | assumption)
                                                obtain ⟨ad242, A242_0, c242_0, e242, hx242_0, hl242_0, hi242_0⟩ := at_L1 HR0_0.out x7_4 p242 q242
                                                obtain rfl : ad239 = ad242 := (by injection e242)
                                                replace hx242_0 := (HB.out.cell (World.block_lt_of_cell? w _ hx242_0)).trans hx242_0
                                                have HR242_0 := Aside0.mk hi242_0
                                                have HC242_0 := Aside0.mk hl242_0
                                                clear hi242_0 hl242_0
                                                replace p242 := eq_true p242
                                                replace q242 := eq_true q242
                                                have p243 : 0 ≤ (x5_2 : Int) := of_decide_eq_true (by first | (with_reducible assumption) | assumption)
                                                have q243 : x5_2 < (l0_0.length : Int) := of_decide_eq_true (by first | (with_reducible assumption) | assumption)
                                                obtain ⟨ad243, A243_0, c243_0, e243, hx243_0, hl243_0, hi243_0⟩ := at_L1 HR0_0.out x5_2 p243 q243
                                                obtain rfl : ad239 = ad243 := (by injection e243)
                                                replace hx243_0 := (HB.out.cell (World.block_lt_of_cell? w _ hx243_0)).trans hx243_0
                                                have HR243_0 := Aside0.mk hi243_0
                                                have HC243_0 := Aside0.mk hl243_0
                                                clear hi243_0 hl243_0
                                                replace p243 := eq_true p243
                                                replace q243 := eq_true q243
                                                have p244 : 0 ≤ (x7_4 : Int) := of_decide_eq_true (by first | (with_reducible assumption) | assumption)
                                                have q244 : x7_4 < (l0_0.length : Int) := of_decide_eq_true (by first | (with_reducible assumption) | assumption)
                                                obtain ⟨ad244, A244_0, c244_0, e244, hx244_0, hl244_0, hi244_0⟩ := at_L1 HR0_0.out x7_4 p244 q244
                                                obtain rfl : ad239 = ad244 := (by injection e244)
                                                replace hx244_0 := (HB.out.cell (World.block_lt_of_cell? w _ hx244_0)).trans hx244_0
                                                have HR244_0 := Aside0.mk hi244_0
                                                have HC244_0 := Aside0.mk hl244_0
                                                clear hi244_0 hl244_0
                                                replace p244 := eq_true p244
                                                replace q244 := eq_true q244
                                                have ea_ := Option.some.inj (hx242_0.symm.trans hx244_0)
                                                injection ea_ with ea_ en_ ec_
                                                subst ea_
                                                subst ec_
                                                clear en_
                                                have p245 : 0 ≤ (0 : Int) := (by omega)
                                                have q245 : 0 < ((rd_L1 l0_0 x7_4).length : Int) := of_decide_eq_true (by first | (with_reducible assumption) | assumption)
                                                obtain ⟨ad245, e245, hx245_0⟩ := Kd.at_int HR244_0.out 0 p245 q245
                                                cases e245
                                                have qi245 : (0 < (rd_L1 l0_0 x7_4).length) = True := eq_true (by omega)
                                                (try rw [show ((0 : Int)).toNat = 0 from rfl] at hx245_0)
                                                (try rw [Addr.add_zero'] at hx245_0)
                                                replace hx245_0 := (HB.out.cell (World.block_lt_of_cell? w _ hx245_0)).trans hx245_0
                                                replace p245 := eq_true p245
                                                replace q245 := eq_true q245
                                                have p246 : 0 ≤ (x5_2 : Int) := of_decide_eq_true (by first | (with_reducible assumption) | assumption)
                                                have q246 : x5_2 < (l0_0.length : Int) := of_decide_eq_true (by first | (with_reducible assumption) | assumption)
                                                obtain ⟨ad246, A246_0, c246_0, e246, hx246_0, hl246_0, hi246_0⟩ := at_L1 HR0_0.out x5_2 p246 q246
                                                obtain rfl : ad239 = ad246 := (by injection e246)
                                                replace hx246_0 := (HB.out.cell (World.block_lt_of_cell? w _ hx246_0)).trans hx246_0
                                                have HR246_0 := Aside0.mk hi246_0
                                                have HC246_0 := Aside0.mk hl246_0
                                                clear hi246_0 hl246_0
                                                replace p246 := eq_true p246
                                                replace q246 := eq_true q246
                                                have ea_ := Option.some.inj (hx243_0.symm.trans hx246_0)
                                                injection ea_ with ea_ en_ ec_
                                                subst ea_
                                                subst ec_
                                                clear en_
                                                have p247 : 0 ≤ (0 : Int) := (by omega)
                                                have q247 : 0 < ((rd_L1 l0_0 x5_2).length : Int) := of_decide_eq_true (by first | (with_reducible assumption) | assumption)
                                                obtain ⟨ad247, e247, hx247_0⟩ := Kd.at_int HR246_0.out 0 p247 q247
                                                cases e247
                                                have qi247 : (0 < (rd_L1 l0_0 x5_2).length) = True := eq_true (by omega)
                                                (try rw [show ((0 : Int)).toNat = 0 from rfl] at hx247_0)
                                                (try rw [Addr.add_zero'] at hx247_0)
                                                replace hx247_0 := (HB.out.cell (World.block_lt_of_cell? w _ hx247_0)).trans hx247_0
                                                replace p247 := eq_true p247
                                                replace q247 := eq_true q247
                                                go_wp2
                                                repeat (go_quiet (fail); try go_wp2)
                                                go_roundg k4
                                                case measure => have := HJ3.out; have := HK2.out; have := HK3.out; have := HK4.out; omega
                                                case rel => exact ⟨(wrap64 (x7_4 + 1)), (by first | rfl | (simp; done) | (simp [*]; done)), H', ⟨by have := HJ3.out; have := HK2.out; have := HK3.out; have := HK4.out; omega⟩, ⟨by (with_reducible repeat (first | refine blk_drewN ?_ _ | refine blk_drew ?_ | refine blk_alloc ?_ _)); exact BK236.out⟩, ⟨by repeat (first | (with_reducible first | exact HB.out | apply below_alloc | apply pw_below_drewN | apply below_drew1 | refine below_set ?_ GE236.out) | exact HB.out)⟩⟩
                                            · rw [if_neg c29] at H
                                              exact absurd H (by simp)
                                          · rw [if_neg c28] at H
                                            exact absurd H (by simp)
                                        · rw [if_neg c27] at H
                                          have c27b0 : decide (0 < ((rd_L1 l0_0 x5_2).length : Int)) = false := decide_eq_false c27
                                          have c27b1 : decide (0 < (rd_L1 l0_0 x5_2).length) = false := decide_eq_false (by omega)
                                          clear c27
                                          have H' := Aside0.mk H
                                          clear H
                                          have hcz33_0 : wr.cell? ⟨gb236, 0, none⟩ = some (.slice (some ad239) l0_0.length c0_0) := (blk_cell BK236.out 0).trans rfl
                                          have hfz33_0 := blk_frozen BK236.out 0
                                          have p242 : 0 ≤ (x7_4 : Int) := of_decide_eq_true (by first | (with_reducible assumption) | assumption)
                                          have q242 : x7_4 < (l0_0.length : Int) := of_decide_eq_true (by first | (with_reducible assumption) | assumption)
                                          obtain ⟨ad242, A242_0, c242_0, e242, hx242_0, hl242_0, hi242_0⟩ := at_L1 HR0_0.out x7_4 p242 q242
                                          obtain rfl : ad239 = ad242 := (by injection e242)
                                          replace hx242_0 := (HB.out.cell (World.block_lt_of_cell? w _ hx242_0)).trans hx242_0
                                          have HR242_0 := Aside0.mk hi242_0
                                          have HC242_0 := Aside0.mk hl242_0
                                          clear hi242_0 hl242_0
                                          replace p242 := eq_true p242
                                          replace q242 := eq_true q242
                                          have p243 : 0 ≤ (x5_2 : Int) := of_decide_eq_true (by first | (with_reducible assumption) | assumption)
                                          have q243 : x5_2 < (l0_0.length : Int) := of_decide_eq_true (by first | (with_reducible assumption) | assumption)
                                          obtain ⟨ad243, A243_0, c243_0, e243, hx243_0, hl243_0, hi243_0⟩ := at_L1 HR0_0.out x5_2 p243 q243
                                          obtain rfl : ad239 = ad243 := (by injection e243)
                                          replace hx243_0 := (HB.out.cell (World.block_lt_of_cell? w _ hx243_0)).trans hx243_0
                                          have HR243_0 := Aside0.mk hi243_0
                                          have HC243_0 := Aside0.mk hl243_0
                                          clear hi243_0 hl243_0
                                          replace p243 := eq_true p243
                                          replace q243 := eq_true q243
                                          go_wp2
                                          repeat (go_quiet (fail); try go_wp2)
                                          go_roundg k4
                                          case measure => have := HJ3.out; have := HK2.out; have := HK3.out; have := HK4.out; omega
                                          case rel => exact ⟨(wrap64 (x7_4 + 1)), (by first | rfl | (simp; done) | (simp [*]; done)), H', ⟨by have := HJ3.out; have := HK2.out; have := HK3.out; have := HK4.out; omega⟩, ⟨by (with_reducible repeat (first | refine blk_drewN ?_ _ | refine blk_drew ?_ | refine blk_alloc ?_ _)); exact BK236.out⟩, ⟨by repeat (first | (with_reducible first | exact HB.out | apply below_alloc | apply pw_below_drewN | apply below_drew1 | refine below_set ?_ GE236.out) | exact HB.out)⟩⟩
                                      · rw [if_neg c26] at H
                                        exact absurd H (by simp)
                                    · rw [if_neg c25] at H
                                      exact absurd H (by simp)
                                  · rw [if_neg c24] at H
                                    have c24b0 : decide (0 < ((rd_L1 l0_0 x7_4).length : Int)) = false := decide_eq_false c24
                                    have c24b1 : decide (0 < (rd_L1 l0_0 x7_4).length) = false := decide_eq_false (by omega)
                                    clear c24
                                    have H' := Aside0.mk H
                                    clear H
                                    have hcz34_0 : wr.cell? ⟨gb236, 0, none⟩ = some (.slice (some ad239) l0_0.length c0_0) := (blk_cell BK236.out 0).trans rfl
                                    have hfz34_0 := blk_frozen BK236.out 0
                                    have p242 : 0 ≤ (x7_4 : Int) := of_decide_eq_true (by first | (with_reducible assumption) | assumption)
                                    have q242 : x7_4 < (l0_0.length : Int) := of_decide_eq_true (by first | (with_reducible assumption) | assumption)
                                    obtain ⟨ad242, A242_0, c242_0, e242, hx242_0, hl242_0, hi242_0⟩ := at_L1 HR0_0.out x7_4 p242 q242
                                    obtain rfl : ad239 = ad242 := (by injection e242)
                                    replace hx242_0 := (HB.out.cell (World.block_lt_of_cell? w _ hx242_0)).trans hx242_0
                                    have HR242_0 := Aside0.mk hi242_0
                                    have HC242_0 := Aside0.mk hl242_0
                                    clear hi242_0 hl242_0
                                    replace p242 := eq_true p242
                                    replace q242 := eq_true q242
                                    go_wp2
                                    repeat (go_quiet (fail); try go_wp2)
                                    go_roundg k4
                                    case measure => have := HJ3.out; have := HK2.out; have := HK3.out; have := HK4.out; omega
                                    case rel => exact ⟨(wrap64 (x7_4 + 1)), (by first | rfl | (simp; done) | (simp [*]; done)), H', ⟨by have := HJ3.out; have := HK2.out; have := HK3.out; have := HK4.out; omega⟩, ⟨by (with_reducible repeat (first | refine blk_drewN ?_ _ | refine blk_drew ?_ | refine blk_alloc ?_ _)); exact BK236.out⟩, ⟨by repeat (first | (with_reducible first | exact HB.out | apply below_alloc | apply pw_below_drewN | apply below_drew1 | refine below_set ?_ GE236.out) | exact HB.out)⟩⟩
                                · rw [if_neg c23] at H
                                  exact absurd H (by simp)
                              · rw [if_neg c22] at H
                                exact absurd H (by simp)
                            · rw [if_neg c21] at H
                              have c21b0 : decide (x7_4 < x5_2) = false := decide_eq_false c21
                              clear c21
                              have H' := Aside0.mk H
                              clear H
                              go_wp2
                              repeat (go_quiet (fail); try go_wp2)
                              go_roundg k4
                              case measure => have := HJ3.out; have := HK2.out; have := HK3.out; have := HK4.out; omega
                              case rel => exact ⟨(wrap64 (x5_2 + 1)), (by first | rfl | (simp; done) | (simp [*]; done)), H', ⟨by have := HJ3.out; have := HK2.out; have := HK3.out; have := HK4.out; omega⟩, ⟨by (with_reducible repeat (first | refine blk_drewN ?_ _ | refine blk_drew ?_ | refine blk_alloc ?_ _)); exact BK236.out⟩, ⟨by repeat (first | (with_reducible first | exact HB.out | apply below_alloc | apply pw_below_drewN | apply below_drew1 | refine below_set ?_ GE236.out) | exact HB.out)⟩⟩
                    · rw [if_neg c14] at H
                      exact absurd H (by simp)
                  · rw [if_neg c13] at H
                    exact absurd H (by simp)
            · rw [if_neg c11] at H
              have c11b0 : decide (x5_2 < (l0_0.length : Int)) = false := decide_eq_false c11
              clear c11
              replace H := Option.bind_eq_some_iff.mp H
              obtain ⟨t248, A350, H⟩ := H
              replace H : ((tour_Split.f t248).bind fun bt251 => ((plan_Sorted.f k2 l0_0).bind fun t256 => ((haulierref04_Same.f k2 bt251.1 t256).bind fun t260 => (if bt251.2 = 0 then (some t260) else (none))))) = some r := H
              have A35 := Aside0.mk A350
              clear A350
              replace H := Option.bind_eq_some_iff.mp H
              obtain ⟨⟨t251, t254⟩, A360, H⟩ := H
              replace H : ((plan_Sorted.f k2 l0_0).bind fun t256 => ((haulierref04_Same.f k2 t251 t256).bind fun t260 => (if t254 = 0 then (some t260) else (none)))) = some r := H
              have A36 := Aside0.mk A360
              clear A360
              replace H := Option.bind_eq_some_iff.mp H
              obtain ⟨t256, A370, H⟩ := H
              replace H : ((haulierref04_Same.f k2 t251 t256).bind fun t260 => (if t254 = 0 then (some t260) else (none))) = some r := H
              have A37 := Aside0.mk A370
              clear A370
              replace H := Option.bind_eq_some_iff.mp H
              obtain ⟨t260, A380, H⟩ := H
              replace H : (if t254 = 0 then (some t260) else (none)) = some r := H
              have A38 := Aside0.mk A380
              clear A380
              by_cases c39 : t254 = 0
              · rw [if_pos c39] at H
                have c39b0 : (t254 == 0) = true := beq_iff_eq.mpr c39
                have c39b1 : (t254 != 0) = false := bne_eq_false_iff_eq.mpr c39
                clear c39
                obtain rfl := Option.some.inj H
                have hcz40_0 : wr.cell? ⟨gb236, 0, none⟩ = some (.slice A0_0 l0_0.length c0_0) := (blk_cell BK236.out 0).trans rfl
                have hfz40_0 := blk_frozen BK236.out 0
                go_wp2_with (first | (go_at_call 9; (with_reducible refine (tour_Join.calls k2 _ _ l0_0 t248 _ ?side1 ?side2 A35.out).mono ?_); (case side1 => repeat (first | exact (Kd.C_below HR0_0.out HB.out) | (with_reducible refine Kd.C_alloc ?_ _) | (with_reducible refine Kd.C_drewN ?_ _) | (with_reducible refine Kd.C_drew ?_))); (case side2 => exact HC0_0.out); rintro e w41 ⟨v249, rfl, ho0, hb⟩; have n0_ := Aside0.mk (Kd.R_lower ho0 (below_size (by repeat (first | (with_reducible first | exact HB.out | apply below_alloc | apply pw_below_drewN | apply below_drew1 | refine below_set ?_ GE236.out) | exact HB.out)))); have n1_ := Aside0.mk (blk_below (g := gb236) (o := .cells #[.slice A0_0 l0_0.length c0_0] 24 (0, 0)) (by (with_reducible repeat (first | refine blk_drewN ?_ _ | refine blk_drew ?_ | refine blk_alloc ?_ _)); exact BK236.out) hb); have n2_ := Aside0.mk (below_step (by repeat (first | (with_reducible first | exact HB.out | apply below_alloc | apply pw_below_drewN | apply below_drew1 | refine below_set ?_ GE236.out) | exact HB.out)) hb); clear BK236; clear HB; have HO250 := n0_; have BK236 := n1_; have HB := n2_; clear n0_ n1_ n2_; (try clear hb); (try clear hb2); (try clear hk); (try clear hi); (try clear ho0); obtain ⟨Ao42, co42, eo42⟩ := Kd.R_slice HO250.out; subst eo42) | (go_at_call 11; (with_reducible refine (tour_Split.calls _ _ t248 t251 t254 _ ?side1 ?side2 A36.out).mono ?_); (case side1 => repeat (first | exact (Kd.R_reads' HO250.out).2.2 | (with_reducible refine Kd.C_alloc ?_ _) | (with_reducible refine Kd.C_drewN ?_ _) | (with_reducible refine Kd.C_drew ?_))); (case side2 => exact (Kd.R_reads' HO250.out).2.1); rintro e w43 ⟨v252, rfl, ho0, hb⟩; have n0_ := Aside0.mk (Kd.R_below (by (with_reducible repeat (first | apply Kd.R_alloc | apply Kd.R_drewN | apply Kd.R_drew)); exact HO250.out) hb); obtain ⟨M_, hM_⟩ : ∃ M_, M_ = w43.heap.size := ⟨_, rfl⟩; have HM_ := Aside0.mk hM_; have n1_ := Aside0.mk (Kd.N_mono (ok' := fun k_ => k_ < M_) (Kd.N_lower (Kd.N_bound ho0) (below_size (by repeat (first | (with_reducible first | exact HB.out | apply below_alloc | apply pw_below_drewN | apply below_drew1 | refine below_set ?_ GE236.out) | exact HB.out)))) (fun k_ hk_ => by rw [hM_]; exact hk_.2)); clear hM_; have n2_ := Aside0.mk (blk_below (g := gb236) (o := .cells #[.slice A0_0 l0_0.length c0_0] 24 (0, 0)) (by (with_reducible repeat (first | refine blk_drewN ?_ _ | refine blk_drew ?_ | refine blk_alloc ?_ _)); exact BK236.out) hb); have n3_ := Aside0.mk (below_step (by repeat (first | (with_reducible first | exact HB.out | apply below_alloc | apply pw_below_drewN | apply below_drew1 | refine below_set ?_ GE236.out) | exact HB.out)) hb); clear HO250; clear BK236; clear HB; have HO250 := n0_; have HO253 := n1_; have BK236 := n2_; have HB := n3_; clear n0_ n1_ n2_ n3_; (try clear hb); (try clear hb2); (try clear hk); (try clear hi); (try clear ho0)) | ((with_reducible refine gate_dst (N := 8) rfl ?_); (try (refine gate_guard (by rfl) ?_; dsimp only)); refine box_event ?hg (N := 8) ?hd (cs := #[.slice none 0 0]) (t := 24) ?hr ?_; (case hd => rfl); (case hg => rfl); (case hr => first | (go_simp; done) | (go_simp; rfl)); intro gb255 hg w44 hbox hb; have HG255_ := Aside0.mk (show M_ ≤ gb255 by rw [HM_.out, hg]; exact Nat.le_refl _); have n0_ := Aside0.mk (Kd.R_below (by (with_reducible repeat (first | apply Kd.R_alloc | apply Kd.R_drewN | apply Kd.R_drew)); exact HO250.out) hb); have n1_ := Aside0.mk (Kd.N_below (by (with_reducible repeat (first | apply Kd.N_alloc | apply Kd.N_drewN | apply Kd.N_drew)); exact HO253.out) hb); have n2_ := Aside0.mk (blk_below (g := gb236) (o := .cells #[.slice A0_0 l0_0.length c0_0] 24 (0, 0)) (by (with_reducible repeat (first | refine blk_drewN ?_ _ | refine blk_drew ?_ | refine blk_alloc ?_ _)); exact BK236.out) hb); have n3_ := Aside0.mk (below_step (by repeat (first | (with_reducible first | exact HB.out | apply below_alloc | apply pw_below_drewN | apply below_drew1 | refine below_set ?_ GE236.out) | exact HB.out)) hb); have n4_ := Aside0.mk (hbox); have n5_ := Aside0.mk ((by rw [hg]; exact (below_size (by repeat (first | (with_reducible first | exact HB.out | apply below_alloc | apply pw_below_drewN | apply below_drew1 | refine below_set ?_ GE236.out) | exact HB.out))) : w.heap.size ≤ gb255)); have n6_ := Aside0.mk ((by rw [hg]; exact (below_size (by repeat (first | (with_reducible first | exact HB.out | apply below_alloc | apply pw_below_drewN | apply below_drew1 | refine below_set ?_ GE236.out) | exact HB.out))) : w.heap.size ≤ gb255)); have n7_ := Aside0.mk ((by rw [hg]; exact Nat.ne_of_lt (blk_lt (g := gb236) (o := .cells #[.slice A0_0 l0_0.length c0_0] 24 (0, 0)) (by (with_reducible repeat (first | refine blk_drewN ?_ _ | refine blk_drew ?_ | refine blk_alloc ?_ _)); exact BK236.out)) : gb236 ≠ gb255)); have n8_ := Aside0.mk ((by rw [hg]; exact Nat.ne_of_gt (blk_lt (g := gb236) (o := .cells #[.slice A0_0 l0_0.length c0_0] 24 (0, 0)) (by (with_reducible repeat (first | refine blk_drewN ?_ _ | refine blk_drew ?_ | refine blk_alloc ?_ _)); exact BK236.out)) : gb255 ≠ gb236)); clear HO250; clear HO253; clear BK236; clear HB; have HO250 := n0_; have HO253 := n1_; have BK236 := n2_; have HB := n3_; have BK255 := n4_; have GW255 := n5_; have GE255 := n6_; have NB236_255 := n7_; have NB255_236 := n8_; clear n0_ n1_ n2_ n3_ n4_ n5_ n6_ n7_ n8_; clear hb hbox hg; obtain ⟨Ao45, co45, eo45⟩ := Kd.N_slice HO253.out; subst eo45; have hnb46 := NB255_236.out; have hnc46 := NB236_255.out; have hcz47_0 : w44.cell? ⟨gb255, 0, none⟩ = some (.slice none 0 0) := (blk_cell BK255.out 0).trans rfl; have hfz47_0 := blk_frozen BK255.out 0; have hcz48_0 : w44.cell? ⟨gb236, 0, none⟩ = some (.slice A0_0 l0_0.length c0_0) := (blk_cell BK236.out 0).trans rfl; have hfz48_0 := blk_frozen BK236.out 0) | (go_at_call 12; (with_reducible refine (plan_Sorted.calls k2 _ _ l0_0 t256 _ ?side1 ?side2 A37.out).mono ?_); (case side1 => exact Kd.C_below HR0_0.out (by repeat (first | (with_reducible first | exact HB.out | apply below_alloc | apply pw_below_drewN | apply below_drew1 | refine below_set ?_ GE236.out | refine below_set ?_ GE255.out) | exact HB.out))); (case side2 => exact HC0_0.out); rintro e w49 ⟨v257, rfl, ho0, hb⟩; have n0_ := Aside0.mk (Kd.R_below (by (with_reducible repeat (first | apply Kd.R_alloc | apply Kd.R_drewN | apply Kd.R_drew)); exact (Kd.R_mono (Kd.R_far (p := ⟨gb255, 0, none⟩) (Kd.R_types HO250.out BK255.out (by decide)) (fun _ hk => hk.2) (.slice Ao45 t251.length co45)) (fun _ h_ => h_.1))) hb); have n1_ := Aside0.mk (Kd.N_below (by (with_reducible repeat (first | apply Kd.N_alloc | apply Kd.N_drewN | apply Kd.N_drew)); exact (Kd.N_far (p := ⟨gb255, 0, none⟩) HO253.out (fun k_ hk_ => Nat.ne_of_lt (Nat.lt_of_lt_of_le hk_ HG255_.out)) (.slice Ao45 t251.length co45))) hb); have n2_ := Aside0.mk (Kd.S_lower (Kd.S_new' (Kd.S_new' ho0 (Kd.R_lt (by (with_reducible repeat (first | apply Kd.R_alloc | apply Kd.R_drewN | apply Kd.R_drew)); exact (Kd.R_mono (Kd.R_far (p := ⟨gb255, 0, none⟩) (Kd.R_types HO250.out BK255.out (by decide)) (fun _ hk => hk.2) (.slice Ao45 t251.length co45)) (fun _ h_ => h_.1))))) (Kd.N_lt (by (with_reducible repeat (first | apply Kd.N_alloc | apply Kd.N_drewN | apply Kd.N_drew)); exact (Kd.N_far (p := ⟨gb255, 0, none⟩) HO253.out (fun k_ hk_ => Nat.ne_of_lt (Nat.lt_of_lt_of_le hk_ HG255_.out)) (.slice Ao45 t251.length co45))))) (below_size (by repeat (first | (with_reducible first | exact HB.out | apply below_alloc | apply pw_below_drewN | apply below_drew1 | refine below_set ?_ GE236.out | refine below_set ?_ GE255.out) | exact HB.out)))); have n3_ := Aside0.mk (blk_below (g := gb236) (o := .cells #[.slice A0_0 l0_0.length c0_0] 24 (0, 0)) (by (with_reducible repeat (first | refine blk_drewN ?_ _ | refine blk_drew ?_ | refine blk_alloc ?_ _)); refine blk_far ?_ NB236_255.out _; (with_reducible repeat (first | refine blk_drewN ?_ _ | refine blk_drew ?_ | refine blk_alloc ?_ _)); exact BK236.out) hb); have n4_ := Aside0.mk (blk_below (g := gb255) (o := .cells #[.slice Ao45 t251.length co45] 24 (0, 0)) (by (with_reducible repeat (first | refine blk_drewN ?_ _ | refine blk_drew ?_ | refine blk_alloc ?_ _)); refine blk_put (cs := #[.slice none 0 0]) ?_ 0 _ rfl; (with_reducible repeat (first | refine blk_drewN ?_ _ | refine blk_drew ?_ | refine blk_alloc ?_ _)); exact BK255.out) hb); have n5_ := Aside0.mk (below_step (by repeat (first | (with_reducible first | exact HB.out | apply below_alloc | apply pw_below_drewN | apply below_drew1 | refine below_set ?_ GE236.out | refine below_set ?_ GE255.out) | exact HB.out)) hb); clear HO250; clear HO253; clear BK236; clear BK255; clear HB; have HO250 := n0_; have HO253 := n1_; have HO258 := n2_; have BK236 := n3_; have BK255 := n4_; have HB := n5_; clear n0_ n1_ n2_ n3_ n4_ n5_; (try clear hb); (try clear hb2); (try clear hk); (try clear hi); (try clear ho0)) | ((with_reducible refine gate_dst (N := 10) rfl ?_); (try (refine gate_guard (by rfl) ?_; dsimp only)); refine box_event ?hg (N := 10) ?hd (cs := #[.slice none 0 0]) (t := 24) ?hr ?_; (case hd => rfl); (case hg => rfl); (case hr => first | (go_simp; done) | (go_simp; rfl)); intro gb259 hg w50 hbox hb; have n0_ := Aside0.mk (Kd.R_below (by (with_reducible repeat (first | apply Kd.R_alloc | apply Kd.R_drewN | apply Kd.R_drew)); exact HO250.out) hb); have n1_ := Aside0.mk (Kd.N_below (by (with_reducible repeat (first | apply Kd.N_alloc | apply Kd.N_drewN | apply Kd.N_drew)); exact HO253.out) hb); have n2_ := Aside0.mk (Kd.S_below (by (with_reducible repeat (first | apply Kd.S_alloc | apply Kd.S_drewN | apply Kd.S_drew)); exact HO258.out) hb); have n3_ := Aside0.mk (blk_below (g := gb236) (o := .cells #[.slice A0_0 l0_0.length c0_0] 24 (0, 0)) (by (with_reducible repeat (first | refine blk_drewN ?_ _ | refine blk_drew ?_ | refine blk_alloc ?_ _)); exact BK236.out) hb); have n4_ := Aside0.mk (blk_below (g := gb255) (o := .cells #[.slice Ao45 t251.length co45] 24 (0, 0)) (by (with_reducible repeat (first | refine blk_drewN ?_ _ | refine blk_drew ?_ | refine blk_alloc ?_ _)); exact BK255.out) hb); have n5_ := Aside0.mk (below_step (by repeat (first | (with_reducible first | exact HB.out | apply below_alloc | apply pw_below_drewN | apply below_drew1 | refine below_set ?_ GE236.out | refine below_set ?_ GE255.out) | exact HB.out)) hb); have n6_ := Aside0.mk (hbox); have n7_ := Aside0.mk ((by rw [hg]; exact (below_size (by repeat (first | (with_reducible first | exact HB.out | apply below_alloc | apply pw_below_drewN | apply below_drew1 | refine below_set ?_ GE236.out | refine below_set ?_ GE255.out) | exact HB.out))) : w.heap.size ≤ gb259)); have n8_ := Aside0.mk ((by rw [hg]; exact (below_size (by repeat (first | (with_reducible first | exact HB.out | apply below_alloc | apply pw_below_drewN | apply below_drew1 | refine below_set ?_ GE236.out | refine below_set ?_ GE255.out) | exact HB.out))) : w.heap.size ≤ gb259)); have n9_ := Aside0.mk ((by rw [hg]; exact Nat.ne_of_lt (blk_lt (g := gb236) (o := .cells #[.slice A0_0 l0_0.length c0_0] 24 (0, 0)) (by (with_reducible repeat (first | refine blk_drewN ?_ _ | refine blk_drew ?_ | refine blk_alloc ?_ _)); exact BK236.out)) : gb236 ≠ gb259)); have n10_ := Aside0.mk ((by rw [hg]; exact Nat.ne_of_gt (blk_lt (g := gb236) (o := .cells #[.slice A0_0 l0_0.length c0_0] 24 (0, 0)) (by (with_reducible repeat (first | refine blk_drewN ?_ _ | refine blk_drew ?_ | refine blk_alloc ?_ _)); exact BK236.out)) : gb259 ≠ gb236)); have HG259_ := Aside0.mk ((by rw [hg]; exact Nat.le_of_lt (Nat.lt_of_le_of_lt HG255_.out (blk_lt (g := gb255) (o := .cells #[.slice Ao45 t251.length co45] 24 (0, 0)) (by (with_reducible repeat (first | refine blk_drewN ?_ _ | refine blk_drew ?_ | refine blk_alloc ?_ _)); exact BK255.out))) : M_ ≤ gb259)); have n11_ := Aside0.mk ((by rw [hg]; exact Nat.ne_of_lt (blk_lt (g := gb255) (o := .cells #[.slice Ao45 t251.length co45] 24 (0, 0)) (by (with_reducible repeat (first | refine blk_drewN ?_ _ | refine blk_drew ?_ | refine blk_alloc ?_ _)); exact BK255.out)) : gb255 ≠ gb259)); have n12_ := Aside0.mk ((by rw [hg]; exact Nat.ne_of_gt (blk_lt (g := gb255) (o := .cells #[.slice Ao45 t251.length co45] 24 (0, 0)) (by (with_reducible repeat (first | refine blk_drewN ?_ _ | refine blk_drew ?_ | refine blk_alloc ?_ _)); exact BK255.out)) : gb259 ≠ gb255)); clear HO250; clear HO253; clear HO258; clear BK236; clear BK255; clear HB; have HO250 := n0_; have HO253 := n1_; have HO258 := n2_; have BK236 := n3_; have BK255 := n4_; have HB := n5_; have BK259 := n6_; have GW259 := n7_; have GE259 := n8_; have NB236_259 := n9_; have NB259_236 := n10_; have NB255_259 := n11_; have NB259_255 := n12_; clear n0_ n1_ n2_ n3_ n4_ n5_ n6_ n7_ n8_ n9_ n10_ n11_ n12_; clear hb hbox hg; obtain ⟨Ao51, co51, eo51⟩ := Kd.S_slice HO258.out; subst eo51; have hnb52 := NB259_236.out; have hnc52 := NB236_259.out; have hnb53 := NB259_255.out; have hnc53 := NB255_259.out; have hcz54_0 : w50.cell? ⟨gb259, 0, none⟩ = some (.slice none 0 0) := (blk_cell BK259.out 0).trans rfl; have hfz54_0 := blk_frozen BK259.out 0; have hcz55_0 : w50.cell? ⟨gb255, 0, none⟩ = some (.slice Ao45 t251.length co45) := (blk_cell BK255.out 0).trans rfl; have hfz55_0 := blk_frozen BK255.out 0) | (go_at_call 13; (with_reducible refine (haulierref04_Same.calls k2 _ _ t251 _ _ t256 t260 _ ?side1 ?side2 ?side3 ?side4 A38.out).mono ?_); (case side1 => refine (Kd.N_reads' (e := 28) (base := w.heap.size) (ok := fun k_ => k_ < M_) (n := t251.length) (c := co45) ?_).2.2; exact (by (with_reducible repeat (first | apply Kd.N_alloc | apply Kd.N_drewN | apply Kd.N_drew)); exact (Kd.N_far (p := ⟨gb259, 0, none⟩) HO253.out (fun k_ hk_ => Nat.ne_of_lt (Nat.lt_of_lt_of_le hk_ HG259_.out)) (.slice Ao51 t256.length co51)))); (case side2 => exact (Kd.N_reads' HO253.out).2.1); (case side3 => refine (Kd.S_reads' (e := 28) (base := w.heap.size) (ok := fun k_ => ((True ∧ some k_ ≠ (.slice Ao42 t248.length co42 : Value).ownBlock) ∧ some k_ ≠ (.slice Ao45 t251.length co45 : Value).ownBlock)) (n := t256.length) (c := co51) ?_).2.2; exact (by (with_reducible repeat (first | apply Kd.S_alloc | apply Kd.S_drewN | apply Kd.S_drew)); exact (Kd.S_mono (Kd.S_far (p := ⟨gb259, 0, none⟩) (Kd.S_types HO258.out BK259.out (by decide)) (fun _ hk => hk.2) (.slice Ao51 t256.length co51)) (fun _ h_ => h_.1)))); (case side4 => exact (Kd.S_reads' HO258.out).2.1); rintro e w' ⟨rfl, ⟨nd, rfl⟩⟩; (try first | exact ⟨rfl, _, World.drewN_drewN _ _ _⟩ | exact ⟨rfl, _, Eq.trans (World.drewN_drewN _ _ _) (congrArg (World.drewN _) (Nat.add_assoc _ _ _))⟩)))
                repeat (go_quiet (first | (go_at_call 9; (with_reducible refine (tour_Join.calls k2 _ _ l0_0 t248 _ ?side1 ?side2 A35.out).mono ?_); (case side1 => repeat (first | exact (Kd.C_below HR0_0.out HB.out) | (with_reducible refine Kd.C_alloc ?_ _) | (with_reducible refine Kd.C_drewN ?_ _) | (with_reducible refine Kd.C_drew ?_))); (case side2 => exact HC0_0.out); rintro e w41 ⟨v249, rfl, ho0, hb⟩; have n0_ := Aside0.mk (Kd.R_lower ho0 (below_size (by repeat (first | (with_reducible first | exact HB.out | apply below_alloc | apply pw_below_drewN | apply below_drew1 | refine below_set ?_ GE236.out) | exact HB.out)))); have n1_ := Aside0.mk (blk_below (g := gb236) (o := .cells #[.slice A0_0 l0_0.length c0_0] 24 (0, 0)) (by (with_reducible repeat (first | refine blk_drewN ?_ _ | refine blk_drew ?_ | refine blk_alloc ?_ _)); exact BK236.out) hb); have n2_ := Aside0.mk (below_step (by repeat (first | (with_reducible first | exact HB.out | apply below_alloc | apply pw_below_drewN | apply below_drew1 | refine below_set ?_ GE236.out) | exact HB.out)) hb); clear BK236; clear HB; have HO250 := n0_; have BK236 := n1_; have HB := n2_; clear n0_ n1_ n2_; (try clear hb); (try clear hb2); (try clear hk); (try clear hi); (try clear ho0); obtain ⟨Ao42, co42, eo42⟩ := Kd.R_slice HO250.out; subst eo42) | (go_at_call 11; (with_reducible refine (tour_Split.calls _ _ t248 t251 t254 _ ?side1 ?side2 A36.out).mono ?_); (case side1 => repeat (first | exact (Kd.R_reads' HO250.out).2.2 | (with_reducible refine Kd.C_alloc ?_ _) | (with_reducible refine Kd.C_drewN ?_ _) | (with_reducible refine Kd.C_drew ?_))); (case side2 => exact (Kd.R_reads' HO250.out).2.1); rintro e w43 ⟨v252, rfl, ho0, hb⟩; have n0_ := Aside0.mk (Kd.R_below (by (with_reducible repeat (first | apply Kd.R_alloc | apply Kd.R_drewN | apply Kd.R_drew)); exact HO250.out) hb); obtain ⟨M_, hM_⟩ : ∃ M_, M_ = w43.heap.size := ⟨_, rfl⟩; have HM_ := Aside0.mk hM_; have n1_ := Aside0.mk (Kd.N_mono (ok' := fun k_ => k_ < M_) (Kd.N_lower (Kd.N_bound ho0) (below_size (by repeat (first | (with_reducible first | exact HB.out | apply below_alloc | apply pw_below_drewN | apply below_drew1 | refine below_set ?_ GE236.out) | exact HB.out)))) (fun k_ hk_ => by rw [hM_]; exact hk_.2)); clear hM_; have n2_ := Aside0.mk (blk_below (g := gb236) (o := .cells #[.slice A0_0 l0_0.length c0_0] 24 (0, 0)) (by (with_reducible repeat (first | refine blk_drewN ?_ _ | refine blk_drew ?_ | refine blk_alloc ?_ _)); exact BK236.out) hb); have n3_ := Aside0.mk (below_step (by repeat (first | (with_reducible first | exact HB.out | apply below_alloc | apply pw_below_drewN | apply below_drew1 | refine below_set ?_ GE236.out) | exact HB.out)) hb); clear HO250; clear BK236; clear HB; have HO250 := n0_; have HO253 := n1_; have BK236 := n2_; have HB := n3_; clear n0_ n1_ n2_ n3_; (try clear hb); (try clear hb2); (try clear hk); (try clear hi); (try clear ho0)) | ((with_reducible refine gate_dst (N := 8) rfl ?_); (try (refine gate_guard (by rfl) ?_; dsimp only)); refine box_event ?hg (N := 8) ?hd (cs := #[.slice none 0 0]) (t := 24) ?hr ?_; (case hd => rfl); (case hg => rfl); (case hr => first | (go_simp; done) | (go_simp; rfl)); intro gb255 hg w44 hbox hb; have HG255_ := Aside0.mk (show M_ ≤ gb255 by rw [HM_.out, hg]; exact Nat.le_refl _); have n0_ := Aside0.mk (Kd.R_below (by (with_reducible repeat (first | apply Kd.R_alloc | apply Kd.R_drewN | apply Kd.R_drew)); exact HO250.out) hb); have n1_ := Aside0.mk (Kd.N_below (by (with_reducible repeat (first | apply Kd.N_alloc | apply Kd.N_drewN | apply Kd.N_drew)); exact HO253.out) hb); have n2_ := Aside0.mk (blk_below (g := gb236) (o := .cells #[.slice A0_0 l0_0.length c0_0] 24 (0, 0)) (by (with_reducible repeat (first | refine blk_drewN ?_ _ | refine blk_drew ?_ | refine blk_alloc ?_ _)); exact BK236.out) hb); have n3_ := Aside0.mk (below_step (by repeat (first | (with_reducible first | exact HB.out | apply below_alloc | apply pw_below_drewN | apply below_drew1 | refine below_set ?_ GE236.out) | exact HB.out)) hb); have n4_ := Aside0.mk (hbox); have n5_ := Aside0.mk ((by rw [hg]; exact (below_size (by repeat (first | (with_reducible first | exact HB.out | apply below_alloc | apply pw_below_drewN | apply below_drew1 | refine below_set ?_ GE236.out) | exact HB.out))) : w.heap.size ≤ gb255)); have n6_ := Aside0.mk ((by rw [hg]; exact (below_size (by repeat (first | (with_reducible first | exact HB.out | apply below_alloc | apply pw_below_drewN | apply below_drew1 | refine below_set ?_ GE236.out) | exact HB.out))) : w.heap.size ≤ gb255)); have n7_ := Aside0.mk ((by rw [hg]; exact Nat.ne_of_lt (blk_lt (g := gb236) (o := .cells #[.slice A0_0 l0_0.length c0_0] 24 (0, 0)) (by (with_reducible repeat (first | refine blk_drewN ?_ _ | refine blk_drew ?_ | refine blk_alloc ?_ _)); exact BK236.out)) : gb236 ≠ gb255)); have n8_ := Aside0.mk ((by rw [hg]; exact Nat.ne_of_gt (blk_lt (g := gb236) (o := .cells #[.slice A0_0 l0_0.length c0_0] 24 (0, 0)) (by (with_reducible repeat (first | refine blk_drewN ?_ _ | refine blk_drew ?_ | refine blk_alloc ?_ _)); exact BK236.out)) : gb255 ≠ gb236)); clear HO250; clear HO253; clear BK236; clear HB; have HO250 := n0_; have HO253 := n1_; have BK236 := n2_; have HB := n3_; have BK255 := n4_; have GW255 := n5_; have GE255 := n6_; have NB236_255 := n7_; have NB255_236 := n8_; clear n0_ n1_ n2_ n3_ n4_ n5_ n6_ n7_ n8_; clear hb hbox hg; obtain ⟨Ao45, co45, eo45⟩ := Kd.N_slice HO253.out; subst eo45; have hnb46 := NB255_236.out; have hnc46 := NB236_255.out; have hcz47_0 : w44.cell? ⟨gb255, 0, none⟩ = some (.slice none 0 0) := (blk_cell BK255.out 0).trans rfl; have hfz47_0 := blk_frozen BK255.out 0; have hcz48_0 : w44.cell? ⟨gb236, 0, none⟩ = some (.slice A0_0 l0_0.length c0_0) := (blk_cell BK236.out 0).trans rfl; have hfz48_0 := blk_frozen BK236.out 0) | (go_at_call 12; (with_reducible refine (plan_Sorted.calls k2 _ _ l0_0 t256 _ ?side1 ?side2 A37.out).mono ?_); (case side1 => exact Kd.C_below HR0_0.out (by repeat (first | (with_reducible first | exact HB.out | apply below_alloc | apply pw_below_drewN | apply below_drew1 | refine below_set ?_ GE236.out | refine below_set ?_ GE255.out) | exact HB.out))); (case side2 => exact HC0_0.out); rintro e w49 ⟨v257, rfl, ho0, hb⟩; have n0_ := Aside0.mk (Kd.R_below (by (with_reducible repeat (first | apply Kd.R_alloc | apply Kd.R_drewN | apply Kd.R_drew)); exact (Kd.R_mono (Kd.R_far (p := ⟨gb255, 0, none⟩) (Kd.R_types HO250.out BK255.out (by decide)) (fun _ hk => hk.2) (.slice Ao45 t251.length co45)) (fun _ h_ => h_.1))) hb); have n1_ := Aside0.mk (Kd.N_below (by (with_reducible repeat (first | apply Kd.N_alloc | apply Kd.N_drewN | apply Kd.N_drew)); exact (Kd.N_far (p := ⟨gb255, 0, none⟩) HO253.out (fun k_ hk_ => Nat.ne_of_lt (Nat.lt_of_lt_of_le hk_ HG255_.out)) (.slice Ao45 t251.length co45))) hb); have n2_ := Aside0.mk (Kd.S_lower (Kd.S_new' (Kd.S_new' ho0 (Kd.R_lt (by (with_reducible repeat (first | apply Kd.R_alloc | apply Kd.R_drewN | apply Kd.R_drew)); exact (Kd.R_mono (Kd.R_far (p := ⟨gb255, 0, none⟩) (Kd.R_types HO250.out BK255.out (by decide)) (fun _ hk => hk.2) (.slice Ao45 t251.length co45)) (fun _ h_ => h_.1))))) (Kd.N_lt (by (with_reducible repeat (first | apply Kd.N_alloc | apply Kd.N_drewN | apply Kd.N_drew)); exact (Kd.N_far (p := ⟨gb255, 0, none⟩) HO253.out (fun k_ hk_ => Nat.ne_of_lt (Nat.lt_of_lt_of_le hk_ HG255_.out)) (.slice Ao45 t251.length co45))))) (below_size (by repeat (first | (with_reducible first | exact HB.out | apply below_alloc | apply pw_below_drewN | apply below_drew1 | refine below_set ?_ GE236.out | refine below_set ?_ GE255.out) | exact HB.out)))); have n3_ := Aside0.mk (blk_below (g := gb236) (o := .cells #[.slice A0_0 l0_0.length c0_0] 24 (0, 0)) (by (with_reducible repeat (first | refine blk_drewN ?_ _ | refine blk_drew ?_ | refine blk_alloc ?_ _)); refine blk_far ?_ NB236_255.out _; (with_reducible repeat (first | refine blk_drewN ?_ _ | refine blk_drew ?_ | refine blk_alloc ?_ _)); exact BK236.out) hb); have n4_ := Aside0.mk (blk_below (g := gb255) (o := .cells #[.slice Ao45 t251.length co45] 24 (0, 0)) (by (with_reducible repeat (first | refine blk_drewN ?_ _ | refine blk_drew ?_ | refine blk_alloc ?_ _)); refine blk_put (cs := #[.slice none 0 0]) ?_ 0 _ rfl; (with_reducible repeat (first | refine blk_drewN ?_ _ | refine blk_drew ?_ | refine blk_alloc ?_ _)); exact BK255.out) hb); have n5_ := Aside0.mk (below_step (by repeat (first | (with_reducible first | exact HB.out | apply below_alloc | apply pw_below_drewN | apply below_drew1 | refine below_set ?_ GE236.out | refine below_set ?_ GE255.out) | exact HB.out)) hb); clear HO250; clear HO253; clear BK236; clear BK255; clear HB; have HO250 := n0_; have HO253 := n1_; have HO258 := n2_; have BK236 := n3_; have BK255 := n4_; have HB := n5_; clear n0_ n1_ n2_ n3_ n4_ n5_; (try clear hb); (try clear hb2); (try clear hk); (try clear hi); (try clear ho0)) | ((with_reducible refine gate_dst (N := 10) rfl ?_); (try (refine gate_guard (by rfl) ?_; dsimp only)); refine box_event ?hg (N := 10) ?hd (cs := #[.slice none 0 0]) (t := 24) ?hr ?_; (case hd => rfl); (case hg => rfl); (case hr => first | (go_simp; done) | (go_simp; rfl)); intro gb259 hg w50 hbox hb; have n0_ := Aside0.mk (Kd.R_below (by (with_reducible repeat (first | apply Kd.R_alloc | apply Kd.R_drewN | apply Kd.R_drew)); exact HO250.out) hb); have n1_ := Aside0.mk (Kd.N_below (by (with_reducible repeat (first | apply Kd.N_alloc | apply Kd.N_drewN | apply Kd.N_drew)); exact HO253.out) hb); have n2_ := Aside0.mk (Kd.S_below (by (with_reducible repeat (first | apply Kd.S_alloc | apply Kd.S_drewN | apply Kd.S_drew)); exact HO258.out) hb); have n3_ := Aside0.mk (blk_below (g := gb236) (o := .cells #[.slice A0_0 l0_0.length c0_0] 24 (0, 0)) (by (with_reducible repeat (first | refine blk_drewN ?_ _ | refine blk_drew ?_ | refine blk_alloc ?_ _)); exact BK236.out) hb); have n4_ := Aside0.mk (blk_below (g := gb255) (o := .cells #[.slice Ao45 t251.length co45] 24 (0, 0)) (by (with_reducible repeat (first | refine blk_drewN ?_ _ | refine blk_drew ?_ | refine blk_alloc ?_ _)); exact BK255.out) hb); have n5_ := Aside0.mk (below_step (by repeat (first | (with_reducible first | exact HB.out | apply below_alloc | apply pw_below_drewN | apply below_drew1 | refine below_set ?_ GE236.out | refine below_set ?_ GE255.out) | exact HB.out)) hb); have n6_ := Aside0.mk (hbox); have n7_ := Aside0.mk ((by rw [hg]; exact (below_size (by repeat (first | (with_reducible first | exact HB.out | apply below_alloc | apply pw_below_drewN | apply below_drew1 | refine below_set ?_ GE236.out | refine below_set ?_ GE255.out) | exact HB.out))) : w.heap.size ≤ gb259)); have n8_ := Aside0.mk ((by rw [hg]; exact (below_size (by repeat (first | (with_reducible first | exact HB.out | apply below_alloc | apply pw_below_drewN | apply below_drew1 | refine below_set ?_ GE236.out | refine below_set ?_ GE255.out) | exact HB.out))) : w.heap.size ≤ gb259)); have n9_ := Aside0.mk ((by rw [hg]; exact Nat.ne_of_lt (blk_lt (g := gb236) (o := .cells #[.slice A0_0 l0_0.length c0_0] 24 (0, 0)) (by (with_reducible repeat (first | refine blk_drewN ?_ _ | refine blk_drew ?_ | refine blk_alloc ?_ _)); exact BK236.out)) : gb236 ≠ gb259)); have n10_ := Aside0.mk ((by rw [hg]; exact Nat.ne_of_gt (blk_lt (g := gb236) (o := .cells #[.slice A0_0 l0_0.length c0_0] 24 (0, 0)) (by (with_reducible repeat (first | refine blk_drewN ?_ _ | refine blk_drew ?_ | refine blk_alloc ?_ _)); exact BK236.out)) : gb259 ≠ gb236)); have HG259_ := Aside0.mk ((by rw [hg]; exact Nat.le_of_lt (Nat.lt_of_le_of_lt HG255_.out (blk_lt (g := gb255) (o := .cells #[.slice Ao45 t251.length co45] 24 (0, 0)) (by (with_reducible repeat (first | refine blk_drewN ?_ _ | refine blk_drew ?_ | refine blk_alloc ?_ _)); exact BK255.out))) : M_ ≤ gb259)); have n11_ := Aside0.mk ((by rw [hg]; exact Nat.ne_of_lt (blk_lt (g := gb255) (o := .cells #[.slice Ao45 t251.length co45] 24 (0, 0)) (by (with_reducible repeat (first | refine blk_drewN ?_ _ | refine blk_drew ?_ | refine blk_alloc ?_ _)); exact BK255.out)) : gb255 ≠ gb259)); have n12_ := Aside0.mk ((by rw [hg]; exact Nat.ne_of_gt (blk_lt (g := gb255) (o := .cells #[.slice Ao45 t251.length co45] 24 (0, 0)) (by (with_reducible repeat (first | refine blk_drewN ?_ _ | refine blk_drew ?_ | refine blk_alloc ?_ _)); exact BK255.out)) : gb259 ≠ gb255)); clear HO250; clear HO253; clear HO258; clear BK236; clear BK255; clear HB; have HO250 := n0_; have HO253 := n1_; have HO258 := n2_; have BK236 := n3_; have BK255 := n4_; have HB := n5_; have BK259 := n6_; have GW259 := n7_; have GE259 := n8_; have NB236_259 := n9_; have NB259_236 := n10_; have NB255_259 := n11_; have NB259_255 := n12_; clear n0_ n1_ n2_ n3_ n4_ n5_ n6_ n7_ n8_ n9_ n10_ n11_ n12_; clear hb hbox hg; obtain ⟨Ao51, co51, eo51⟩ := Kd.S_slice HO258.out; subst eo51; have hnb52 := NB259_236.out; have hnc52 := NB236_259.out; have hnb53 := NB259_255.out; have hnc53 := NB255_259.out; have hcz54_0 : w50.cell? ⟨gb259, 0, none⟩ = some (.slice none 0 0) := (blk_cell BK259.out 0).trans rfl; have hfz54_0 := blk_frozen BK259.out 0; have hcz55_0 : w50.cell? ⟨gb255, 0, none⟩ = some (.slice Ao45 t251.length co45) := (blk_cell BK255.out 0).trans rfl; have hfz55_0 := blk_frozen BK255.out 0) | (go_at_call 13; (with_reducible refine (haulierref04_Same.calls k2 _ _ t251 _ _ t256 t260 _ ?side1 ?side2 ?side3 ?side4 A38.out).mono ?_); (case side1 => refine (Kd.N_reads' (e := 28) (base := w.heap.size) (ok := fun k_ => k_ < M_) (n := t251.length) (c := co45) ?_).2.2; exact (by (with_reducible repeat (first | apply Kd.N_alloc | apply Kd.N_drewN | apply Kd.N_drew)); exact (Kd.N_far (p := ⟨gb259, 0, none⟩) HO253.out (fun k_ hk_ => Nat.ne_of_lt (Nat.lt_of_lt_of_le hk_ HG259_.out)) (.slice Ao51 t256.length co51)))); (case side2 => exact (Kd.N_reads' HO253.out).2.1); (case side3 => refine (Kd.S_reads' (e := 28) (base := w.heap.size) (ok := fun k_ => ((True ∧ some k_ ≠ (.slice Ao42 t248.length co42 : Value).ownBlock) ∧ some k_ ≠ (.slice Ao45 t251.length co45 : Value).ownBlock)) (n := t256.length) (c := co51) ?_).2.2; exact (by (with_reducible repeat (first | apply Kd.S_alloc | apply Kd.S_drewN | apply Kd.S_drew)); exact (Kd.S_mono (Kd.S_far (p := ⟨gb259, 0, none⟩) (Kd.S_types HO258.out BK259.out (by decide)) (fun _ hk => hk.2) (.slice Ao51 t256.length co51)) (fun _ h_ => h_.1)))); (case side4 => exact (Kd.S_reads' HO258.out).2.1); rintro e w' ⟨rfl, ⟨nd, rfl⟩⟩; (try first | exact ⟨rfl, _, World.drewN_drewN _ _ _⟩ | exact ⟨rfl, _, Eq.trans (World.drewN_drewN _ _ _) (congrArg (World.drewN _) (Nat.add_assoc _ _ _))⟩))); try go_wp2_with (first | (go_at_call 9; (with_reducible refine (tour_Join.calls k2 _ _ l0_0 t248 _ ?side1 ?side2 A35.out).mono ?_); (case side1 => repeat (first | exact (Kd.C_below HR0_0.out HB.out) | (with_reducible refine Kd.C_alloc ?_ _) | (with_reducible refine Kd.C_drewN ?_ _) | (with_reducible refine Kd.C_drew ?_))); (case side2 => exact HC0_0.out); rintro e w41 ⟨v249, rfl, ho0, hb⟩; have n0_ := Aside0.mk (Kd.R_lower ho0 (below_size (by repeat (first | (with_reducible first | exact HB.out | apply below_alloc | apply pw_below_drewN | apply below_drew1 | refine below_set ?_ GE236.out) | exact HB.out)))); have n1_ := Aside0.mk (blk_below (g := gb236) (o := .cells #[.slice A0_0 l0_0.length c0_0] 24 (0, 0)) (by (with_reducible repeat (first | refine blk_drewN ?_ _ | refine blk_drew ?_ | refine blk_alloc ?_ _)); exact BK236.out) hb); have n2_ := Aside0.mk (below_step (by repeat (first | (with_reducible first | exact HB.out | apply below_alloc | apply pw_below_drewN | apply below_drew1 | refine below_set ?_ GE236.out) | exact HB.out)) hb); clear BK236; clear HB; have HO250 := n0_; have BK236 := n1_; have HB := n2_; clear n0_ n1_ n2_; (try clear hb); (try clear hb2); (try clear hk); (try clear hi); (try clear ho0); obtain ⟨Ao42, co42, eo42⟩ := Kd.R_slice HO250.out; subst eo42) | (go_at_call 11; (with_reducible refine (tour_Split.calls _ _ t248 t251 t254 _ ?side1 ?side2 A36.out).mono ?_); (case side1 => repeat (first | exact (Kd.R_reads' HO250.out).2.2 | (with_reducible refine Kd.C_alloc ?_ _) | (with_reducible refine Kd.C_drewN ?_ _) | (with_reducible refine Kd.C_drew ?_))); (case side2 => exact (Kd.R_reads' HO250.out).2.1); rintro e w43 ⟨v252, rfl, ho0, hb⟩; have n0_ := Aside0.mk (Kd.R_below (by (with_reducible repeat (first | apply Kd.R_alloc | apply Kd.R_drewN | apply Kd.R_drew)); exact HO250.out) hb); obtain ⟨M_, hM_⟩ : ∃ M_, M_ = w43.heap.size := ⟨_, rfl⟩; have HM_ := Aside0.mk hM_; have n1_ := Aside0.mk (Kd.N_mono (ok' := fun k_ => k_ < M_) (Kd.N_lower (Kd.N_bound ho0) (below_size (by repeat (first | (with_reducible first | exact HB.out | apply below_alloc | apply pw_below_drewN | apply below_drew1 | refine below_set ?_ GE236.out) | exact HB.out)))) (fun k_ hk_ => by rw [hM_]; exact hk_.2)); clear hM_; have n2_ := Aside0.mk (blk_below (g := gb236) (o := .cells #[.slice A0_0 l0_0.length c0_0] 24 (0, 0)) (by (with_reducible repeat (first | refine blk_drewN ?_ _ | refine blk_drew ?_ | refine blk_alloc ?_ _)); exact BK236.out) hb); have n3_ := Aside0.mk (below_step (by repeat (first | (with_reducible first | exact HB.out | apply below_alloc | apply pw_below_drewN | apply below_drew1 | refine below_set ?_ GE236.out) | exact HB.out)) hb); clear HO250; clear BK236; clear HB; have HO250 := n0_; have HO253 := n1_; have BK236 := n2_; have HB := n3_; clear n0_ n1_ n2_ n3_; (try clear hb); (try clear hb2); (try clear hk); (try clear hi); (try clear ho0)) | ((with_reducible refine gate_dst (N := 8) rfl ?_); (try (refine gate_guard (by rfl) ?_; dsimp only)); refine box_event ?hg (N := 8) ?hd (cs := #[.slice none 0 0]) (t := 24) ?hr ?_; (case hd => rfl); (case hg => rfl); (case hr => first | (go_simp; done) | (go_simp; rfl)); intro gb255 hg w44 hbox hb; have HG255_ := Aside0.mk (show M_ ≤ gb255 by rw [HM_.out, hg]; exact Nat.le_refl _); have n0_ := Aside0.mk (Kd.R_below (by (with_reducible repeat (first | apply Kd.R_alloc | apply Kd.R_drewN | apply Kd.R_drew)); exact HO250.out) hb); have n1_ := Aside0.mk (Kd.N_below (by (with_reducible repeat (first | apply Kd.N_alloc | apply Kd.N_drewN | apply Kd.N_drew)); exact HO253.out) hb); have n2_ := Aside0.mk (blk_below (g := gb236) (o := .cells #[.slice A0_0 l0_0.length c0_0] 24 (0, 0)) (by (with_reducible repeat (first | refine blk_drewN ?_ _ | refine blk_drew ?_ | refine blk_alloc ?_ _)); exact BK236.out) hb); have n3_ := Aside0.mk (below_step (by repeat (first | (with_reducible first | exact HB.out | apply below_alloc | apply pw_below_drewN | apply below_drew1 | refine below_set ?_ GE236.out) | exact HB.out)) hb); have n4_ := Aside0.mk (hbox); have n5_ := Aside0.mk ((by rw [hg]; exact (below_size (by repeat (first | (with_reducible first | exact HB.out | apply below_alloc | apply pw_below_drewN | apply below_drew1 | refine below_set ?_ GE236.out) | exact HB.out))) : w.heap.size ≤ gb255)); have n6_ := Aside0.mk ((by rw [hg]; exact (below_size (by repeat (first | (with_reducible first | exact HB.out | apply below_alloc | apply pw_below_drewN | apply below_drew1 | refine below_set ?_ GE236.out) | exact HB.out))) : w.heap.size ≤ gb255)); have n7_ := Aside0.mk ((by rw [hg]; exact Nat.ne_of_lt (blk_lt (g := gb236) (o := .cells #[.slice A0_0 l0_0.length c0_0] 24 (0, 0)) (by (with_reducible repeat (first | refine blk_drewN ?_ _ | refine blk_drew ?_ | refine blk_alloc ?_ _)); exact BK236.out)) : gb236 ≠ gb255)); have n8_ := Aside0.mk ((by rw [hg]; exact Nat.ne_of_gt (blk_lt (g := gb236) (o := .cells #[.slice A0_0 l0_0.length c0_0] 24 (0, 0)) (by (with_reducible repeat (first | refine blk_drewN ?_ _ | refine blk_drew ?_ | refine blk_alloc ?_ _)); exact BK236.out)) : gb255 ≠ gb236)); clear HO250; clear HO253; clear BK236; clear HB; have HO250 := n0_; have HO253 := n1_; have BK236 := n2_; have HB := n3_; have BK255 := n4_; have GW255 := n5_; have GE255 := n6_; have NB236_255 := n7_; have NB255_236 := n8_; clear n0_ n1_ n2_ n3_ n4_ n5_ n6_ n7_ n8_; clear hb hbox hg; obtain ⟨Ao45, co45, eo45⟩ := Kd.N_slice HO253.out; subst eo45; have hnb46 := NB255_236.out; have hnc46 := NB236_255.out; have hcz47_0 : w44.cell? ⟨gb255, 0, none⟩ = some (.slice none 0 0) := (blk_cell BK255.out 0).trans rfl; have hfz47_0 := blk_frozen BK255.out 0; have hcz48_0 : w44.cell? ⟨gb236, 0, none⟩ = some (.slice A0_0 l0_0.length c0_0) := (blk_cell BK236.out 0).trans rfl; have hfz48_0 := blk_frozen BK236.out 0) | (go_at_call 12; (with_reducible refine (plan_Sorted.calls k2 _ _ l0_0 t256 _ ?side1 ?side2 A37.out).mono ?_); (case side1 => exact Kd.C_below HR0_0.out (by repeat (first | (with_reducible first | exact HB.out | apply below_alloc | apply pw_below_drewN | apply below_drew1 | refine below_set ?_ GE236.out | refine below_set ?_ GE255.out) | exact HB.out))); (case side2 => exact HC0_0.out); rintro e w49 ⟨v257, rfl, ho0, hb⟩; have n0_ := Aside0.mk (Kd.R_below (by (with_reducible repeat (first | apply Kd.R_alloc | apply Kd.R_drewN | apply Kd.R_drew)); exact (Kd.R_mono (Kd.R_far (p := ⟨gb255, 0, none⟩) (Kd.R_types HO250.out BK255.out (by decide)) (fun _ hk => hk.2) (.slice Ao45 t251.length co45)) (fun _ h_ => h_.1))) hb); have n1_ := Aside0.mk (Kd.N_below (by (with_reducible repeat (first | apply Kd.N_alloc | apply Kd.N_drewN | apply Kd.N_drew)); exact (Kd.N_far (p := ⟨gb255, 0, none⟩) HO253.out (fun k_ hk_ => Nat.ne_of_lt (Nat.lt_of_lt_of_le hk_ HG255_.out)) (.slice Ao45 t251.length co45))) hb); have n2_ := Aside0.mk (Kd.S_lower (Kd.S_new' (Kd.S_new' ho0 (Kd.R_lt (by (with_reducible repeat (first | apply Kd.R_alloc | apply Kd.R_drewN | apply Kd.R_drew)); exact (Kd.R_mono (Kd.R_far (p := ⟨gb255, 0, none⟩) (Kd.R_types HO250.out BK255.out (by decide)) (fun _ hk => hk.2) (.slice Ao45 t251.length co45)) (fun _ h_ => h_.1))))) (Kd.N_lt (by (with_reducible repeat (first | apply Kd.N_alloc | apply Kd.N_drewN | apply Kd.N_drew)); exact (Kd.N_far (p := ⟨gb255, 0, none⟩) HO253.out (fun k_ hk_ => Nat.ne_of_lt (Nat.lt_of_lt_of_le hk_ HG255_.out)) (.slice Ao45 t251.length co45))))) (below_size (by repeat (first | (with_reducible first | exact HB.out | apply below_alloc | apply pw_below_drewN | apply below_drew1 | refine below_set ?_ GE236.out | refine below_set ?_ GE255.out) | exact HB.out)))); have n3_ := Aside0.mk (blk_below (g := gb236) (o := .cells #[.slice A0_0 l0_0.length c0_0] 24 (0, 0)) (by (with_reducible repeat (first | refine blk_drewN ?_ _ | refine blk_drew ?_ | refine blk_alloc ?_ _)); refine blk_far ?_ NB236_255.out _; (with_reducible repeat (first | refine blk_drewN ?_ _ | refine blk_drew ?_ | refine blk_alloc ?_ _)); exact BK236.out) hb); have n4_ := Aside0.mk (blk_below (g := gb255) (o := .cells #[.slice Ao45 t251.length co45] 24 (0, 0)) (by (with_reducible repeat (first | refine blk_drewN ?_ _ | refine blk_drew ?_ | refine blk_alloc ?_ _)); refine blk_put (cs := #[.slice none 0 0]) ?_ 0 _ rfl; (with_reducible repeat (first | refine blk_drewN ?_ _ | refine blk_drew ?_ | refine blk_alloc ?_ _)); exact BK255.out) hb); have n5_ := Aside0.mk (below_step (by repeat (first | (with_reducible first | exact HB.out | apply below_alloc | apply pw_below_drewN | apply below_drew1 | refine below_set ?_ GE236.out | refine below_set ?_ GE255.out) | exact HB.out)) hb); clear HO250; clear HO253; clear BK236; clear BK255; clear HB; have HO250 := n0_; have HO253 := n1_; have HO258 := n2_; have BK236 := n3_; have BK255 := n4_; have HB := n5_; clear n0_ n1_ n2_ n3_ n4_ n5_; (try clear hb); (try clear hb2); (try clear hk); (try clear hi); (try clear ho0)) | ((with_reducible refine gate_dst (N := 10) rfl ?_); (try (refine gate_guard (by rfl) ?_; dsimp only)); refine box_event ?hg (N := 10) ?hd (cs := #[.slice none 0 0]) (t := 24) ?hr ?_; (case hd => rfl); (case hg => rfl); (case hr => first | (go_simp; done) | (go_simp; rfl)); intro gb259 hg w50 hbox hb; have n0_ := Aside0.mk (Kd.R_below (by (with_reducible repeat (first | apply Kd.R_alloc | apply Kd.R_drewN | apply Kd.R_drew)); exact HO250.out) hb); have n1_ := Aside0.mk (Kd.N_below (by (with_reducible repeat (first | apply Kd.N_alloc | apply Kd.N_drewN | apply Kd.N_drew)); exact HO253.out) hb); have n2_ := Aside0.mk (Kd.S_below (by (with_reducible repeat (first | apply Kd.S_alloc | apply Kd.S_drewN | apply Kd.S_drew)); exact HO258.out) hb); have n3_ := Aside0.mk (blk_below (g := gb236) (o := .cells #[.slice A0_0 l0_0.length c0_0] 24 (0, 0)) (by (with_reducible repeat (first | refine blk_drewN ?_ _ | refine blk_drew ?_ | refine blk_alloc ?_ _)); exact BK236.out) hb); have n4_ := Aside0.mk (blk_below (g := gb255) (o := .cells #[.slice Ao45 t251.length co45] 24 (0, 0)) (by (with_reducible repeat (first | refine blk_drewN ?_ _ | refine blk_drew ?_ | refine blk_alloc ?_ _)); exact BK255.out) hb); have n5_ := Aside0.mk (below_step (by repeat (first | (with_reducible first | exact HB.out | apply below_alloc | apply pw_below_drewN | apply below_drew1 | refine below_set ?_ GE236.out | refine below_set ?_ GE255.out) | exact HB.out)) hb); have n6_ := Aside0.mk (hbox); have n7_ := Aside0.mk ((by rw [hg]; exact (below_size (by repeat (first | (with_reducible first | exact HB.out | apply below_alloc | apply pw_below_drewN | apply below_drew1 | refine below_set ?_ GE236.out | refine below_set ?_ GE255.out) | exact HB.out))) : w.heap.size ≤ gb259)); have n8_ := Aside0.mk ((by rw [hg]; exact (below_size (by repeat (first | (with_reducible first | exact HB.out | apply below_alloc | apply pw_below_drewN | apply below_drew1 | refine below_set ?_ GE236.out | refine below_set ?_ GE255.out) | exact HB.out))) : w.heap.size ≤ gb259)); have n9_ := Aside0.mk ((by rw [hg]; exact Nat.ne_of_lt (blk_lt (g := gb236) (o := .cells #[.slice A0_0 l0_0.length c0_0] 24 (0, 0)) (by (with_reducible repeat (first | refine blk_drewN ?_ _ | refine blk_drew ?_ | refine blk_alloc ?_ _)); exact BK236.out)) : gb236 ≠ gb259)); have n10_ := Aside0.mk ((by rw [hg]; exact Nat.ne_of_gt (blk_lt (g := gb236) (o := .cells #[.slice A0_0 l0_0.length c0_0] 24 (0, 0)) (by (with_reducible repeat (first | refine blk_drewN ?_ _ | refine blk_drew ?_ | refine blk_alloc ?_ _)); exact BK236.out)) : gb259 ≠ gb236)); have HG259_ := Aside0.mk ((by rw [hg]; exact Nat.le_of_lt (Nat.lt_of_le_of_lt HG255_.out (blk_lt (g := gb255) (o := .cells #[.slice Ao45 t251.length co45] 24 (0, 0)) (by (with_reducible repeat (first | refine blk_drewN ?_ _ | refine blk_drew ?_ | refine blk_alloc ?_ _)); exact BK255.out))) : M_ ≤ gb259)); have n11_ := Aside0.mk ((by rw [hg]; exact Nat.ne_of_lt (blk_lt (g := gb255) (o := .cells #[.slice Ao45 t251.length co45] 24 (0, 0)) (by (with_reducible repeat (first | refine blk_drewN ?_ _ | refine blk_drew ?_ | refine blk_alloc ?_ _)); exact BK255.out)) : gb255 ≠ gb259)); have n12_ := Aside0.mk ((by rw [hg]; exact Nat.ne_of_gt (blk_lt (g := gb255) (o := .cells #[.slice Ao45 t251.length co45] 24 (0, 0)) (by (with_reducible repeat (first | refine blk_drewN ?_ _ | refine blk_drew ?_ | refine blk_alloc ?_ _)); exact BK255.out)) : gb259 ≠ gb255)); clear HO250; clear HO253; clear HO258; clear BK236; clear BK255; clear HB; have HO250 := n0_; have HO253 := n1_; have HO258 := n2_; have BK236 := n3_; have BK255 := n4_; have HB := n5_; have BK259 := n6_; have GW259 := n7_; have GE259 := n8_; have NB236_259 := n9_; have NB259_236 := n10_; have NB255_259 := n11_; have NB259_255 := n12_; clear n0_ n1_ n2_ n3_ n4_ n5_ n6_ n7_ n8_ n9_ n10_ n11_ n12_; clear hb hbox hg; obtain ⟨Ao51, co51, eo51⟩ := Kd.S_slice HO258.out; subst eo51; have hnb52 := NB259_236.out; have hnc52 := NB236_259.out; have hnb53 := NB259_255.out; have hnc53 := NB255_259.out; have hcz54_0 : w50.cell? ⟨gb259, 0, none⟩ = some (.slice none 0 0) := (blk_cell BK259.out 0).trans rfl; have hfz54_0 := blk_frozen BK259.out 0; have hcz55_0 : w50.cell? ⟨gb255, 0, none⟩ = some (.slice Ao45 t251.length co45) := (blk_cell BK255.out 0).trans rfl; have hfz55_0 := blk_frozen BK255.out 0) | (go_at_call 13; (with_reducible refine (haulierref04_Same.calls k2 _ _ t251 _ _ t256 t260 _ ?side1 ?side2 ?side3 ?side4 A38.out).mono ?_); (case side1 => refine (Kd.N_reads' (e := 28) (base := w.heap.size) (ok := fun k_ => k_ < M_) (n := t251.length) (c := co45) ?_).2.2; exact (by (with_reducible repeat (first | apply Kd.N_alloc | apply Kd.N_drewN | apply Kd.N_drew)); exact (Kd.N_far (p := ⟨gb259, 0, none⟩) HO253.out (fun k_ hk_ => Nat.ne_of_lt (Nat.lt_of_lt_of_le hk_ HG259_.out)) (.slice Ao51 t256.length co51)))); (case side2 => exact (Kd.N_reads' HO253.out).2.1); (case side3 => refine (Kd.S_reads' (e := 28) (base := w.heap.size) (ok := fun k_ => ((True ∧ some k_ ≠ (.slice Ao42 t248.length co42 : Value).ownBlock) ∧ some k_ ≠ (.slice Ao45 t251.length co45 : Value).ownBlock)) (n := t256.length) (c := co51) ?_).2.2; exact (by (with_reducible repeat (first | apply Kd.S_alloc | apply Kd.S_drewN | apply Kd.S_drew)); exact (Kd.S_mono (Kd.S_far (p := ⟨gb259, 0, none⟩) (Kd.S_types HO258.out BK259.out (by decide)) (fun _ hk => hk.2) (.slice Ao51 t256.length co51)) (fun _ h_ => h_.1)))); (case side4 => exact (Kd.S_reads' HO258.out).2.1); rintro e w' ⟨rfl, ⟨nd, rfl⟩⟩; (try first | exact ⟨rfl, _, World.drewN_drewN _ _ _⟩ | exact ⟨rfl, _, Eq.trans (World.drewN_drewN _ _ _) (congrArg (World.drewN _) (Nat.add_assoc _ _ _))⟩))))
                go_ret
                exact ⟨by first | rfl | (simp [errW_none, errW_some] <;> rfl) | (simp [*, errW_none, errW_some] <;> rfl), by repeat (first | (with_reducible first | exact HB.out | apply below_alloc | apply pw_below_drewN | apply below_drew1 | refine below_set ?_ GE236.out | refine below_set ?_ GE255.out | refine below_set ?_ GE259.out) | exact HB.out)⟩
              · rw [if_neg c39] at H
                exact absurd H (by simp)

end Go.Proofs.Ytblpfjocmbppbaa.PA
