-- Printed for this claim by wip/tools/xprint.py over the kit's print; the contracts marked BY HAND are this session's own.
import Derived.Test.YtdkhajgfifaibaaDoorPAx0
import Derived.Test.YtdkhajgfifaibaaDoorPAx7
import Derived.Test.YtdkhajgfifaibaaDoorPAx11
namespace Go.Proofs.YtdkhajgfifaibaaDoor.PA
open Go.RowKit Go.Proofs.YtdkhajgfifaibaaDoorW.PrintWords Go.Proofs.YtdkhajgfifaibaaDoorW.PrintLast Go.Proofs.YtdkhajgfifaibaaDoorW.PrintMore
attribute [local go_sem] max2_int min2_int max_two min_two max_three min_three max_four min_four   -- for this text's walks alone
set_option linter.unusedVariables false
set_option linter.unusedSimpArgs false

/-! ### plan_Cost: function 18 -/
mutual
def plan_Cost.l0 : Nat → Int → List Int → List (List Int) → Int → Int → Int → Int → Int → List (S58) → Option (Int × Int)
  | 0, _, _, _, _, _, _, _, _, _ => none
  | k + 1, x6, x7, x33, x34, x35, x199000, x199001, x199002, x199003 => if x35 < x34 then (if 0 ≤ x35 then (if x35 < (x33.length : Int) then (if ((rd_L1 x33 x35).length : Int) = 0 then (some (0, 1)) else ((sched_Times.f k x199000 x199001 x199002 x199003 (rd_L1 x33 x35)).bind fun bt205 => (if bt205.2.2 = 0 then (plan_Cost.l1 k (wrap64 (x6 + bt205.2.1)) x7 x33 x34 x35 (rd_L1 x33 x35) ((rd_L1 x33 x35).length : Int) 0 x199000 x199001 x199002 x199003) else (some (0, bt205.2.2))))) else (none)) else (none)) else ((slices_ContainsFunc_int_int_37.f x7 999036).bind fun t213 => (if t213 = true then (some (0, 5)) else (if 1 ≤ (x7.length : Int) then ((slices_Contains_int_int.f k (x7.drop 1) 0).bind fun t218 => (if t218 = true then (some (0, 4)) else (some (x6, 0)))) else (none))))
def plan_Cost.l1 : Nat → Int → List Int → List (List Int) → Int → Int → List Int → Int → Int → Int → Int → Int → List (S58) → Option (Int × Int)
  | 0, _, _, _, _, _, _, _, _, _, _, _, _ => none
  | k + 1, x6, x7, x33, x34, x35, x55, x56, x57, x199000, x199001, x199002, x199003 => if x57 < x56 then (if 0 ≤ x57 then (if x57 < (x55.length : Int) then (if 0 ≤ (rd x55 x57) then (if (rd x55 x57) < (x7.length : Int) then (plan_Cost.l1 k x6 (x7.set ((rd x55 x57) : Int).toNat (wrap64 ((rd x7 (rd x55 x57)) + 1))) x33 x34 x35 x55 x56 (wrap64 (x57 + 1)) x199000 x199001 x199002 x199003) else (none)) else (none)) else (none)) else (none)) else (plan_Cost.l0 k x6 x7 x33 x34 (wrap64 (x35 + 1)) x199000 x199001 x199002 x199003)
end
def plan_Cost.f (k : Nat) (a0_0 : Int) (a0_1 : Int) (a0_2 : Int) (l0_3 : List (S58)) (l1_0 : List (List Int)) : Option (Int × Int) := (inst_May.f k a0_0 a0_1 a0_2 l0_3).bind fun t200 => (if t200 = true then (if (l1_0.length : Int) > a0_1 then (some (0, 6)) else (if 0 ≤ (wrap64 ((wrap64 (2 * a0_0)) + 1)) then (if (wrap64 ((wrap64 (2 * a0_0)) + 1) : Int).toNat ≤ 35184372088832 then (plan_Cost.l0 k 0 (List.replicate (wrap64 ((wrap64 (2 * a0_0)) + 1) : Int).toNat 0) l1_0 (l1_0.length : Int) 0 a0_0 a0_1 a0_2 l0_3) else (none)) else (none))) else (some (0, 1)))
theorem plan_Cost.mono_l : ∀ k, (∀ y0 y1 y2 y3 y4 y5 y6 y7 y8, LeO (plan_Cost.l0 k y0 y1 y2 y3 y4 y5 y6 y7 y8) (plan_Cost.l0 (k + 1) y0 y1 y2 y3 y4 y5 y6 y7 y8)) ∧ (∀ y0 y1 y2 y3 y4 y5 y6 y7 y8 y9 y10 y11, LeO (plan_Cost.l1 k y0 y1 y2 y3 y4 y5 y6 y7 y8 y9 y10 y11) (plan_Cost.l1 (k + 1) y0 y1 y2 y3 y4 y5 y6 y7 y8 y9 y10 y11))
  | 0 => ⟨fun _ _ _ _ _ _ _ _ _ r h => by simp [plan_Cost.l0] at h, fun _ _ _ _ _ _ _ _ _ _ _ _ r h => by simp [plan_Cost.l1] at h⟩
  | k + 1 => by
    obtain ⟨ih0, ih1⟩ := plan_Cost.mono_l k
    refine ⟨?_, ?_⟩
    · intro y0 y1 y2 y3 y4 y5 y6 y7 y8
      unfold plan_Cost.l0
      repeat' first
      | (with_reducible exact ih0 _ _ _ _ _ _ _ _ _)
      | (with_reducible exact ih1 _ _ _ _ _ _ _ _ _ _ _ _)
      | (with_reducible exact inst_May.mono _ _ _ _ _)
      | (with_reducible exact sched_Times.mono _ _ _ _ _ _)
      | (with_reducible exact slices_Contains_int_int.mono _ _ _)
      | (with_reducible exact LeO.refl _)
      | (with_reducible exact LeO.none _)
      | (with_reducible refine LeO.ite ?_ ?_)
      | (with_reducible refine LeO.bind ?_ (fun _ => ?_))
      | exact ih0 _ _ _ _ _ _ _ _ _
      | exact ih1 _ _ _ _ _ _ _ _ _ _ _ _
      | exact inst_May.mono _ _ _ _ _
      | exact sched_Times.mono _ _ _ _ _ _
      | exact slices_Contains_int_int.mono _ _ _
      | exact LeO.none _
      | refine LeO.ite ?_ ?_
      | refine LeO.bind ?_ (fun _ => ?_)
    · intro y0 y1 y2 y3 y4 y5 y6 y7 y8 y9 y10 y11
      unfold plan_Cost.l1
      repeat' first
      | (with_reducible exact ih0 _ _ _ _ _ _ _ _ _)
      | (with_reducible exact ih1 _ _ _ _ _ _ _ _ _ _ _ _)
      | (with_reducible exact inst_May.mono _ _ _ _ _)
      | (with_reducible exact sched_Times.mono _ _ _ _ _ _)
      | (with_reducible exact slices_Contains_int_int.mono _ _ _)
      | (with_reducible exact LeO.refl _)
      | (with_reducible exact LeO.none _)
      | (with_reducible refine LeO.ite ?_ ?_)
      | (with_reducible refine LeO.bind ?_ (fun _ => ?_))
      | exact ih0 _ _ _ _ _ _ _ _ _
      | exact ih1 _ _ _ _ _ _ _ _ _ _ _ _
      | exact inst_May.mono _ _ _ _ _
      | exact sched_Times.mono _ _ _ _ _ _
      | exact slices_Contains_int_int.mono _ _ _
      | exact LeO.none _
      | refine LeO.ite ?_ ?_
      | refine LeO.bind ?_ (fun _ => ?_)
theorem plan_Cost.mono : ∀ a0 a1 a2 a3 a4 k, LeO (plan_Cost.f k a0 a1 a2 a3 a4) (plan_Cost.f (k + 1) a0 a1 a2 a3 a4) := by
  intro a0 a1 a2 a3 a4 k
  obtain ⟨ih0, ih1⟩ := plan_Cost.mono_l k
  unfold plan_Cost.f
  repeat' first
      | (with_reducible exact ih0 _ _ _ _ _ _ _ _ _)
      | (with_reducible exact ih1 _ _ _ _ _ _ _ _ _ _ _ _)
      | (with_reducible exact inst_May.mono _ _ _ _ _)
      | (with_reducible exact sched_Times.mono _ _ _ _ _ _)
      | (with_reducible exact slices_Contains_int_int.mono _ _ _)
      | (with_reducible exact LeO.refl _)
      | (with_reducible exact LeO.none _)
      | (with_reducible refine LeO.ite ?_ ?_)
      | (with_reducible refine LeO.bind ?_ (fun _ => ?_))
      | exact ih0 _ _ _ _ _ _ _ _ _
      | exact ih1 _ _ _ _ _ _ _ _ _ _ _ _
      | exact inst_May.mono _ _ _ _ _
      | exact sched_Times.mono _ _ _ _ _ _
      | exact slices_Contains_int_int.mono _ _ _
      | exact LeO.none _
      | refine LeO.ite ?_ ?_
      | refine LeO.bind ?_ (fun _ => ?_)
set_option maxHeartbeats 16000000 in
set_option maxRecDepth 100000 in
theorem plan_Cost.calls (k : Nat) (a0_0 : Int) (a0_1 : Int) (a0_2 : Int) (A0_3 : Option Addr) (c0_3 : Nat) (l0_3 : List (S58)) (A1_0 : Option Addr) (c1_0 : Nat) (l1_0 : List (List Int)) (r1 : Int) (r2 : Int) (w : World) (hr0_3 : Kd.C k58 w A0_3 l0_3.length l0_3) (hc0_3 : l0_3.length ≤ c0_3) (hr1_0 : Kd.C (Kd.slice 3 (Kd.int .i64)) w A1_0 l1_0.length l1_0) (hc1_0 : l1_0.length ≤ c1_0) (h : plan_Cost.f k a0_0 a0_1 a0_2 l0_3 l1_0 = some (r1, r2)) :
  Calls Tryd.prog 18 #[.agg #[.int .i64 a0_0, .int .i64 a0_1, .int .i64 a0_2, .slice A0_3 l0_3.length c0_3], .agg #[.slice A1_0 l1_0.length c1_0]] w fun e w' => e = .returned (.tuple #[.int .i64 r1, .int .i64 r2]) ∧ Below w.heap.size w w' := by
 have hu39 := Tryd.underlying39
 have hu24 := Tryd.underlying24
 have HR0_3 := zqi hr0_3
 have HC0_3 := zqi hc0_3
 clear hr0_3 hc0_3
 have HR1_0 := zqi hr1_0
 have HC1_0 := zqi hc1_0
 clear hr1_0 hc1_0
 have HB := zqi (Below.refl w.heap.size w)
 have H : ((inst_May.f k a0_0 a0_1 a0_2 l0_3).bind fun t200 => (if t200 = true then (if (l1_0.length : Int) > a0_1 then (some (0, 6)) else (if 0 ≤ (wrap64 ((wrap64 (2 * a0_0)) + 1)) then (if (wrap64 ((wrap64 (2 * a0_0)) + 1) : Int).toNat ≤ 35184372088832 then (plan_Cost.l0 k 0 (List.replicate (wrap64 ((wrap64 (2 * a0_0)) + 1) : Int).toNat 0) l1_0 (l1_0.length : Int) 0 a0_0 a0_1 a0_2 l0_3) else (none)) else (none))) else (some (0, 1)))) = some (r1, r2) := h
 clear h
 replace H := Option.bind_eq_some_iff.mp H
 obtain ⟨t200, A30, H⟩ := H
 replace H : (if t200 = true then (if (l1_0.length : Int) > a0_1 then (some (0, 6)) else (if 0 ≤ (wrap64 ((wrap64 (2 * a0_0)) + 1)) then (if (wrap64 ((wrap64 (2 * a0_0)) + 1) : Int).toNat ≤ 35184372088832 then (plan_Cost.l0 k 0 (List.replicate (wrap64 ((wrap64 (2 * a0_0)) + 1) : Int).toNat 0) l1_0 (l1_0.length : Int) 0 a0_0 a0_1 a0_2 l0_3) else (none)) else (none))) else (some (0, 1))) = some (r1, r2) := H
 have A3 := zqi A30
 clear A30
 by_cases c4 : t200 = true
 ·
  subst c4
  have H1 : (if (l1_0.length : Int) > a0_1 then (some (0, 6)) else (if 0 ≤ (wrap64 ((wrap64 (2 * a0_0)) + 1)) then (if (wrap64 ((wrap64 (2 * a0_0)) + 1) : Int).toNat ≤ 35184372088832 then (plan_Cost.l0 k 0 (List.replicate (wrap64 ((wrap64 (2 * a0_0)) + 1) : Int).toNat 0) l1_0 (l1_0.length : Int) 0 a0_0 a0_1 a0_2 l0_3) else (none)) else (none))) = some (r1, r2) := by rw [if_pos rfl] at H; exact H
  clear H
  have H := H1
  clear H1
  by_cases c5 : (l1_0.length : Int) > a0_1
  ·
   rw [if_pos c5] at H
   have c5b0 : decide (a0_1 < (l1_0.length : Int)) = true := decide_eq_true c5
   clear c5
   simp only [Option.some.injEq, Prod.mk.injEq] at H
   obtain ⟨rfl, rfl⟩ := H
   go_enter Tryd.func18, Tryd.ntmps18
   go_wp2_with (first | ((with_reducible refine gate_dst (N := 2) rfl ?_); refine box_event ?hg (N := 2) ?hd (cs := #[.int .i64 a0_0, .int .i64 a0_1, .int .i64 a0_2, .slice A0_3 l0_3.length c0_3]) (t := 39) ?hr ?_; (case hd => rfl); (case hg => rfl); (case hr => first | (go_simp; done) | (go_simp; rfl)); intro gb198 hg w6 hbox hb; have n0_ := zqi (below_step (zqn HB.out) hb); have n1_ := zqi (hbox); have n2_ := zqi (zqo hg HB.out); have n3_ := zqi (zqo hg HB.out); clear HB; have HB := n0_; have BK198 := n1_; have GW198 := n2_; have GE198 := n3_; clear n0_ n1_ n2_ n3_; clear hb hbox hg) | ((with_reducible refine gate_dst (N := 3) rfl ?_); refine box_event ?hg (N := 3) ?hd (cs := #[.slice A1_0 l1_0.length c1_0]) (t := 24) ?hr ?_; (case hd => rfl); (case hg => rfl); (case hr => first | (go_simp; done) | (go_simp; rfl)); intro gb199 hg w7 hbox hb; have n0_ := zqi (zqy BK198.out hb); have n1_ := zqi (below_step (zqn HB.out) hb); have n2_ := zqi (hbox); have n3_ := zqi (zqo hg HB.out); have n4_ := zqi (zqo hg HB.out); have n5_ := zqi ((zqq hg BK198.out)); have n6_ := zqi ((zqr hg BK198.out)); clear BK198; clear HB; have BK198 := n0_; have HB := n1_; have BK199 := n2_; have GW199 := n3_; have GE199 := n4_; have NB198_199 := n5_; have NB199_198 := n6_; clear n0_ n1_ n2_ n3_ n4_ n5_ n6_; clear hb hbox hg; have hnb8 := NB198_199.out; have hnc8 := NB199_198.out; obtain ⟨hcz9_0, hcz9_1, hcz9_2, hcz9_3, hfz9_0, hfz9_1, hfz9_2, hfz9_3⟩ := zqz4 BK198.out) | ((with_reducible refine gate_callee (f := 34) rfl ?_); refine goesL_ (some 18) rfl rfl Tryd.func34 (by kernel_rfl) rfl #[.agg #[.int .i64 a0_0, .int .i64 a0_1, .int .i64 a0_2, .slice A0_3 l0_3.length c0_3]] rfl (by (try simp only [List.map_toArray, List.map_cons, List.map_nil]); first | done | rfl | (simp only [List.length_drop, List.length_take]; rfl)) ?_; (with_reducible refine (inst_May.calls k a0_0 a0_1 a0_2 _ _ l0_3 true _ ?side1 ?side2 A3.out).mono ?_); (case side1 => repeat (first | exact (Kd.C_below HR0_3.out HB.out) | (with_reducible refine Kd.C_alloc ?_ _) | (with_reducible refine Kd.C_drewN ?_ _) | (with_reducible refine Kd.C_drew ?_))); (case side2 => exact HC0_3.out); rintro e w10 ⟨rfl, hb⟩; refine ⟨_, rfl, ?_⟩; have n0_ := zqi (zqy BK198.out hb); have n1_ := zqi (zqy BK199.out hb); have n2_ := zqi (below_step (zqn HB.out) hb); clear BK198; clear BK199; clear HB; have BK198 := n0_; have BK199 := n1_; have HB := n2_; clear n0_ n1_ n2_; (try clear hb); (try clear hb2); (try clear hk); (try clear hi); have hcz11_0 : w10.cell? ⟨gb199, 0, none⟩ = some (.slice A1_0 l1_0.length c1_0) := (zqe BK199.out 0).trans rfl; have hfz11_0 := zqd BK199.out 0; obtain ⟨hcz12_0, hcz12_1, hcz12_2, hcz12_3, hfz12_0, hfz12_1, hfz12_2, hfz12_3⟩ := zqz4 BK198.out))
   go_ret2
   exact ⟨by first | rfl | (simp [errW_none, errW_some] <;> rfl) | (simp [*, errW_none, errW_some] <;> rfl), by repeat (first | (with_reducible first | exact HB.out | apply zqg | apply zqf | apply zqh | refine below_set ?_ GE198.out | refine below_set ?_ GE199.out) | exact HB.out)⟩
  ·
   rw [if_neg c5] at H
   have c5b0 : decide (a0_1 < (l1_0.length : Int)) = false := decide_eq_false c5
   clear c5
   obtain ⟨ji13, hji13⟩ : ∃ j_ : Int, (wrap64 ((wrap64 (2 * a0_0)) + 1)) = j_ := ⟨_, rfl⟩
   replace H : (if 0 ≤ (ji13) then (if (ji13 : Int).toNat ≤ 35184372088832 then (plan_Cost.l0 k 0 (List.replicate (ji13 : Int).toNat 0) l1_0 (l1_0.length : Int) 0 a0_0 a0_1 a0_2 l0_3) else (none)) else (none)) = some (r1, r2) := by first | (rw [hji13] at H; exact H) | (simp only [hji13] at H ⊢; exact H)
   (try rw [hji13] at A3)
   have hji13w : (IntKind.i64.wrap ((wrap64 (2 * a0_0)) + 1)) = ji13 := (i64_w _).trans hji13
   by_cases c14 : 0 ≤ (ji13)
   ·
    rw [if_pos c14] at H
    have c14b0 := eq_true c14
    have c14b1 : decide (0 ≤ (ji13)) = true := decide_eq_true c14
    clear c14
    by_cases c15 : (ji13 : Int).toNat ≤ 35184372088832
    ·
     rw [if_pos c15] at H
     have c15b0 := eq_true c15
     have c15b1 : decide ((ji13 : Int).toNat ≤ 35184372088832) = true := decide_eq_true c15
     clear c15
     obtain ⟨y201, hy201⟩ : ∃ y_ : List Int, y_ = (List.replicate (ji13 : Int).toNat 0) := ⟨_, rfl⟩
     replace H : (plan_Cost.l0 k 0 y201 l1_0 (l1_0.length : Int) 0 a0_0 a0_1 a0_2 l0_3) = some (r1, r2) := by first | (rw [hy201]; with_reducible exact H) | (have H2_ := (Option.bind_some _ _).symm.trans H; rw [hy201]; with_reducible exact H2_) | (have H2_ := (Option.bind_some _ _).symm.trans H; with_reducible exact H2_) | with_reducible exact H | (rw [hy201]; exact H) | exact H
     have Ny201 := zqi hy201
     clear hy201
     have H' := zqi H
     clear H
     go_enter Tryd.func18, Tryd.ntmps18
     try go_wp2_with (first | ((with_reducible refine gate_dst (N := 2) rfl ?_); refine box_event ?hg (N := 2) ?hd (cs := #[.int .i64 a0_0, .int .i64 a0_1, .int .i64 a0_2, .slice A0_3 l0_3.length c0_3]) (t := 39) ?hr ?_; (case hd => rfl); (case hg => rfl); (case hr => first | (go_simp; done) | (go_simp; rfl)); intro gb198 hg w16 hbox hb; have n0_ := zqi (below_step (zqn HB.out) hb); have n1_ := zqi (hbox); have n2_ := zqi (zqo hg HB.out); have n3_ := zqi (zqo hg HB.out); clear HB; have HB := n0_; have BK198 := n1_; have GW198 := n2_; have GE198 := n3_; clear n0_ n1_ n2_ n3_; clear hb hbox hg) | ((with_reducible refine gate_dst (N := 3) rfl ?_); refine box_event ?hg (N := 3) ?hd (cs := #[.slice A1_0 l1_0.length c1_0]) (t := 24) ?hr ?_; (case hd => rfl); (case hg => rfl); (case hr => first | (go_simp; done) | (go_simp; rfl)); intro gb199 hg w17 hbox hb; have n0_ := zqi (zqy BK198.out hb); have n1_ := zqi (below_step (zqn HB.out) hb); have n2_ := zqi (hbox); have n3_ := zqi (zqo hg HB.out); have n4_ := zqi (zqo hg HB.out); have n5_ := zqi ((zqq hg BK198.out)); have n6_ := zqi ((zqr hg BK198.out)); clear BK198; clear HB; have BK198 := n0_; have HB := n1_; have BK199 := n2_; have GW199 := n3_; have GE199 := n4_; have NB198_199 := n5_; have NB199_198 := n6_; clear n0_ n1_ n2_ n3_ n4_ n5_ n6_; clear hb hbox hg; have hnb18 := NB198_199.out; have hnc18 := NB199_198.out; obtain ⟨hcz19_0, hcz19_1, hcz19_2, hcz19_3, hfz19_0, hfz19_1, hfz19_2, hfz19_3⟩ := zqz4 BK198.out) | ((with_reducible refine gate_callee (f := 34) rfl ?_); refine goesL_ (some 18) rfl rfl Tryd.func34 (by kernel_rfl) rfl #[.agg #[.int .i64 a0_0, .int .i64 a0_1, .int .i64 a0_2, .slice A0_3 l0_3.length c0_3]] rfl (by (try simp only [List.map_toArray, List.map_cons, List.map_nil]); first | done | rfl | (simp only [List.length_drop, List.length_take]; rfl)) ?_; (with_reducible refine (inst_May.calls k a0_0 a0_1 a0_2 _ _ l0_3 true _ ?side1 ?side2 A3.out).mono ?_); (case side1 => repeat (first | exact (Kd.C_below HR0_3.out HB.out) | (with_reducible refine Kd.C_alloc ?_ _) | (with_reducible refine Kd.C_drewN ?_ _) | (with_reducible refine Kd.C_drew ?_))); (case side2 => exact HC0_3.out); rintro e w20 ⟨rfl, hb⟩; refine ⟨_, rfl, ?_⟩; have n0_ := zqi (zqy BK198.out hb); have n1_ := zqi (zqy BK199.out hb); have n2_ := zqi (below_step (zqn HB.out) hb); clear BK198; clear BK199; clear HB; have BK198 := n0_; have BK199 := n1_; have HB := n2_; clear n0_ n1_ n2_; (try clear hb); (try clear hb2); (try clear hk); (try clear hi); have hcz21_0 : w20.cell? ⟨gb199, 0, none⟩ = some (.slice A1_0 l1_0.length c1_0) := (zqe BK199.out 0).trans rfl; have hfz21_0 := zqd BK199.out 0; obtain ⟨hcz22_0, hcz22_1, hcz22_2, hcz22_3, hfz22_0, hfz22_1, hfz22_2, hfz22_3⟩ := zqz4 BK198.out))
     have n0_ := zqi (zqb BK198.out)
     have n1_ := zqi (zqb BK199.out)
     have n2_ := zqi (zqh HB.out)
     clear BK198
     clear BK199
     clear HB
     have BK198 := n0_
     have BK199 := n1_
     have HB := n2_
     clear n0_ n1_ n2_
     refine start_ (n := 7) (S := fun w' => w'.cell? ⟨gb198, 0, none⟩ = some (.int .i64 a0_0) ∧ w'.cell? ⟨gb198, 1, none⟩ = some (.int .i64 a0_1) ∧ w'.cell? ⟨gb198, 2, none⟩ = some (.int .i64 a0_2) ∧ w'.cell? ⟨gb198, 3, none⟩ = some (.slice A0_3 l0_3.length c0_3)) (ds := []) (zqB 7 0) (by kernel_rfl) rfl rfl ⟨(zqe BK198.out 0).trans rfl, (zqe BK198.out 1).trans rfl, (zqe BK198.out 2).trans rfl, (zqe BK198.out 3).trans rfl⟩ (fun hHeld => ?_)
     generalize w20.drew = w23 at BK198 BK199 HB hHeld ⊢
     refine zqp 0 (some 27) (zqB 7 1) (by kernel_rfl) (h := ?_)
     refine zqp 5 (some 6) (zqB 7 33) (by kernel_rfl) (h := ?_)
     refine zqt 1 (some 28) (zqB 7 35) (by kernel_rfl) hHeld (h := ?_)
     refine zqp 2 (some 29) (zqB 7 39) (by kernel_rfl) (h := ?_)
     refine zqp 3 (some 30) (zqB 7 47) (by kernel_rfl) (h := ?_)
     refine one_ (i := 4) (N := some 31) (zqB 7 63) rfl rfl (by kernel_rfl) (by decide) (fun K hK => ?_)
     refine Kd.R_make_step (Kd.int .i64) _ 3 (by rfl) (N := 31) rfl 36 _ _ rfl ji13 rfl rfl Tryd.underlying36 (.int .i64 0) 8 info3 rfl (by decide) (by omega) 0 (ok := fun _ => True) (okp := fun _ => True) rfl (fun _ hk => hk) trivial (of_decide_eq_true (by first | (with_reducible assumption) | assumption)) (Nat.le_trans (Nat.mul_le_mul_right _ (of_decide_eq_true (by first | (with_reducible assumption) | assumption) : ji13.toNat ≤ 35184372088832)) (by omega)) (Below.refl _ _) (Nat.le_refl _) ?_
     intro v202 w24 ho25 hb hg_ hnew_
     clear hg_ hnew_
     (first | rw [← Ny201.out] at ho25 | (simp only [Int.reduceToNat] at ho25; rw [← Ny201.out] at ho25))
     have n0_ := zqi (Kd.R_lower ho25 (below_size (zqn HB.out)))
     have n1_ := zqi (zqy BK198.out hb)
     have n2_ := zqi (zqy BK199.out hb)
     have n3_ := zqi (below_step (zqn HB.out) hb)
     clear BK198
     clear BK199
     clear HB
     have HO203 := n0_
     have BK198 := n1_
     have BK199 := n2_
     have HB := n3_
     clear n0_ n1_ n2_ n3_
     clear hb ho25
     refine hK.out _ _ ⟨(zqe BK198.out 0).trans rfl, (zqe BK198.out 1).trans rfl, (zqe BK198.out 2).trans rfl, (zqe BK198.out 3).trans rfl⟩ (fun hHeld => ?_)
     clear hK K
     refine norm_ (a' := ?_) ?_ ?_
     rotate_left
     ·
      show Act.put _ (some 31) _ = _
      simp only [Act.put, List.setIfInBounds_toArray, List.set_cons_zero, List.set_cons_succ, i64_w, i32_w]
      rfl
     refine zqp 6 (some 7) (zqB 7 127) (by kernel_rfl) (h := ?_)
     refine done_ (by kernel_rfl) ?_
     have hcz26_0 : w24.cell? ⟨gb199, 0, none⟩ = some (.slice A1_0 l1_0.length c1_0) := (zqe BK199.out 0).trans rfl
     have hfz26_0 := zqd BK199.out 0
     try go_wp2
     go_loopg [6, 35] k (fun kq v6 v35 w' => ∃ (x6_1 : Int) (x7_1 : List Int) (x35_1 : Int), v6 = .int .i64 x6_1 ∧ v35 = .int .i64 x35_1 ∧ Aside0 (plan_Cost.l0 kq x6_1 x7_1 l1_0 (l1_0.length : Int) x35_1 a0_0 a0_1 a0_2 l0_3 = some (r1, r2)) ∧ Aside0 (kq ≤ k) ∧ Aside0 (Kd.R (Kd.int .i64) 3 w' w.heap.size (fun _ => True) v202 x7_1) ∧ Aside0 (w'.heap[gb198]? = some (.cells #[.int .i64 a0_0, .int .i64 a0_1, .int .i64 a0_2, (.slice A0_3 l0_3.length c0_3)] 39 (0, 0))) ∧ Aside0 (w'.heap[gb199]? = some (.cells #[(.slice A1_0 l1_0.length c1_0)] 24 (0, 0))) ∧ Aside0 (Below w.heap.size w w'))
     case atStart => exact ⟨(0), (y201), (0), (by first | rfl | (simp; done) | (simp [*]; done)), (by first | rfl | (simp; done) | (simp [*]; done)), H', ⟨Nat.le_refl _⟩, ⟨by (with_reducible repeat (first | apply Kd.R_alloc | apply Kd.R_drewN | apply Kd.R_drew)); exact HO203.out⟩, ⟨by (with_reducible repeat (first | apply zqa | apply zqb | apply zqc)); exact BK198.out⟩, ⟨by (with_reducible repeat (first | apply zqa | apply zqb | apply zqc)); exact BK199.out⟩, ⟨by repeat (first | (with_reducible first | exact HB.out | apply zqg | apply zqf | apply zqh | refine below_set ?_ GE198.out | refine below_set ?_ GE199.out) | exact HB.out)⟩⟩
     case round =>
      clear H'
      try clear c1
      try clear p2
      try clear c3
      try clear c4
      try clear c5
      try clear c5b0
      try clear p6
      try clear c8
      try clear c14
      try clear c14b0
      try clear c14b1
      try clear c15
      try clear c15b0
      try clear c15b1
      try clear c18
      try clear hcz11_0
      try clear hcz12_0
      try clear hcz12_1
      try clear hcz12_2
      try clear hcz12_3
      try clear hcz19_0
      try clear hcz19_1
      try clear hcz19_2
      try clear hcz19_3
      try clear hcz21_0
      try clear hcz22_0
      try clear hcz22_1
      try clear hcz22_2
      try clear hcz22_3
      try clear hcz26_0
      try clear hcz9_0
      try clear hcz9_1
      try clear hcz9_2
      try clear hcz9_3
      try clear hfz11_0
      try clear hfz12_0
      try clear hfz12_1
      try clear hfz12_2
      try clear hfz12_3
      try clear hfz19_0
      try clear hfz19_1
      try clear hfz19_2
      try clear hfz19_3
      try clear hfz21_0
      try clear hfz22_0
      try clear hfz22_1
      try clear hfz22_2
      try clear hfz22_3
      try clear hfz26_0
      try clear hfz9_0
      try clear hfz9_1
      try clear hfz9_2
      try clear hfz9_3
      obtain ⟨x6_1, x7_1, x35_1, rfl, rfl, HA, HK1, HO_7, BK198, BK199, HB⟩ := hrel
      cases gk with
      | zero => exact absurd HA.out (by simp [plan_Cost.l0])
      | succ k1 =>
       have H := HA.out
       clear HA
       simp only [plan_Cost.l0] at H
       by_cases c27 : x35_1 < (l1_0.length : Int)
       ·
        rw [if_pos c27] at H
        have c27b0 : decide (x35_1 < (l1_0.length : Int)) = true := decide_eq_true c27
        clear c27
        by_cases c28 : 0 ≤ x35_1
        ·
         rw [if_pos c28] at H
         have c28b0 : decide (0 ≤ x35_1) = true := decide_eq_true c28
         clear c28
         by_cases c29 : x35_1 < (l1_0.length : Int)
         ·
          rw [if_pos c29] at H
          have c29b0 : decide (x35_1 < (l1_0.length : Int)) = true := decide_eq_true c29
          clear c29
          by_cases c30 : ((rd_L1 l1_0 x35_1).length : Int) = 0
          ·
           rw [if_pos c30] at H
           have c30b0 : (((rd_L1 l1_0 x35_1).length : Int) == 0) = true := beq_iff_eq.mpr c30
           have c30b1 : (((rd_L1 l1_0 x35_1).length : Int) != 0) = false := bne_eq_false_iff_eq.mpr c30
           clear c30
           simp only [Option.some.injEq, Prod.mk.injEq] at H
           obtain ⟨rfl, rfl⟩ := H
           have p204 : 0 ≤ (x35_1 : Int) := of_decide_eq_true (by first | (with_reducible assumption) | assumption)
           have q204 : x35_1 < (l1_0.length : Int) := of_decide_eq_true (by first | (with_reducible assumption) | assumption)
           obtain ⟨ad204, A204_0, c204_0, e204, hx204_0, hl204_0, hi204_0⟩ := at_L1 HR1_0.out x35_1 p204 q204
           cases e204
           replace hx204_0 := (HB.out.cell (World.block_lt_of_cell? w _ hx204_0)).trans hx204_0
           have HR204_0 := zqi hi204_0
           have HC204_0 := zqi hl204_0
           clear hi204_0 hl204_0
           replace p204 := eq_true p204
           replace q204 := eq_true q204
           go_wp2
           go_ret2
           exact ⟨by first | rfl | (simp [errW_none, errW_some] <;> rfl) | (simp only [← hji13]; first | rfl | (simp [errW_none, errW_some] <;> rfl)) | (simp [*, errW_none, errW_some] <;> rfl), by repeat (first | (with_reducible first | exact HB.out | apply zqg | apply zqf | apply zqh | refine below_set ?_ GE198.out | refine below_set ?_ GE199.out) | exact HB.out)⟩
          ·
           rw [if_neg c30] at H
           have c30b0 : (((rd_L1 l1_0 x35_1).length : Int) == 0) = false := beq_eq_false_iff_ne.mpr c30
           have c30b1 : (((rd_L1 l1_0 x35_1).length : Int) != 0) = true := bne_iff_ne.mpr c30
           have c30b2 : ¬ ((rd_L1 l1_0 x35_1) = []) := fun h_ => c30 (by rw [h_]; rfl)
           replace H := Option.bind_eq_some_iff.mp H
           obtain ⟨⟨t205, t208, t209⟩, A310, H⟩ := H
           replace H : (if t209 = 0 then (plan_Cost.l1 k1 (wrap64 (x6_1 + t208)) x7_1 l1_0 (l1_0.length : Int) x35_1 (rd_L1 l1_0 x35_1) ((rd_L1 l1_0 x35_1).length : Int) 0 a0_0 a0_1 a0_2 l0_3) else (some (0, t209))) = some (r1, r2) := H
           have A31 := zqi A310
           clear A310
           by_cases c32 : t209 = 0
           ·
            rw [if_pos c32] at H
            have c32b0 : (t209 == 0) = true := beq_iff_eq.mpr c32
            have c32b1 : (t209 != 0) = false := bne_eq_false_iff_eq.mpr c32
            clear c32
            have H' := zqi H
            clear H
            have p204 : 0 ≤ (x35_1 : Int) := of_decide_eq_true (by first | (with_reducible assumption) | assumption)
            have q204 : x35_1 < (l1_0.length : Int) := of_decide_eq_true (by first | (with_reducible assumption) | assumption)
            obtain ⟨ad204, A204_0, c204_0, e204, hx204_0, hl204_0, hi204_0⟩ := at_L1 HR1_0.out x35_1 p204 q204
            cases e204
            replace hx204_0 := (HB.out.cell (World.block_lt_of_cell? w _ hx204_0)).trans hx204_0
            have HR204_0 := zqi hi204_0
            have HC204_0 := zqi hl204_0
            clear hi204_0 hl204_0
            replace p204 := eq_true p204
            replace q204 := eq_true q204
            have hnb33 := NB198_199.out
            have hnc33 := NB199_198.out
            obtain ⟨hcz34_0, hcz34_1, hcz34_2, hcz34_3, hfz34_0, hfz34_1, hfz34_2, hfz34_3⟩ := zqz4 BK198.out
            go_wp2_with (first | ((with_reducible refine gate_callee (f := 35) rfl ?_); refine goesL_ (some 45) rfl rfl Tryd.func35 (by kernel_rfl) rfl #[.agg #[.int .i64 a0_0, .int .i64 a0_1, .int .i64 a0_2, .slice A0_3 l0_3.length c0_3], .slice A204_0 (rd_L1 l1_0 x35_1).length c204_0] rfl (by (try simp only [List.map_toArray, List.map_cons, List.map_nil]); first | done | rfl | (simp only [List.length_drop, List.length_take]; rfl)) ?_; (with_reducible refine (sched_Times.calls k1 a0_0 a0_1 a0_2 _ _ l0_3 _ _ (rd_L1 l1_0 x35_1) t205 t208 t209 _ ?side1 ?side2 ?side3 ?side4 A31.out).mono ?_); (case side1 => repeat (first | exact (Kd.C_below HR0_3.out HB.out) | (with_reducible refine Kd.C_alloc ?_ _) | (with_reducible refine Kd.C_drewN ?_ _) | (with_reducible refine Kd.C_drew ?_))); (case side2 => exact HC0_3.out); (case side3 => repeat (first | exact (Kd.C_below HR204_0.out HB.out) | (with_reducible refine Kd.C_alloc ?_ _) | (with_reducible refine Kd.C_drewN ?_ _) | (with_reducible refine Kd.C_drew ?_))); (case side4 => exact HC204_0.out); rintro e w35 ⟨v206, rfl, ho0, hb⟩; refine ⟨_, rfl, ?_⟩; have n0_ := zqi (Kd.R_below (by (with_reducible repeat (first | apply Kd.R_alloc | apply Kd.R_drewN | apply Kd.R_drew)); exact HO_7.out) hb); have n1_ := zqi (Kd.R_lower ho0 (below_size (zqn HB.out))); have n2_ := zqi (zqy BK198.out hb); have n3_ := zqi (zqy BK199.out hb); have n4_ := zqi (below_step (zqn HB.out) hb); clear HO_7; clear BK198; clear BK199; clear HB; have HO_7 := n0_; have HO207 := n1_; have BK198 := n2_; have BK199 := n3_; have HB := n4_; clear n0_ n1_ n2_ n3_ n4_; (try clear hb); (try clear hb2); (try clear hk); (try clear hi); (try clear ho0)))
            go_loopg [57] k1 (fun kq v57 w' => ∃ (x7_2 : List Int) (x57_2 : Int), v57 = .int .i64 x57_2 ∧ Aside0 (plan_Cost.l1 kq (wrap64 (x6_1 + t208)) x7_2 l1_0 (l1_0.length : Int) x35_1 (rd_L1 l1_0 x35_1) ((rd_L1 l1_0 x35_1).length : Int) x57_2 a0_0 a0_1 a0_2 l0_3 = some (r1, r2)) ∧ Aside0 (kq ≤ k1) ∧ Aside0 (Kd.R (Kd.int .i64) 3 w' w.heap.size (fun _ => True) v202 x7_2) ∧ Aside0 (w'.heap[gb198]? = some (.cells #[.int .i64 a0_0, .int .i64 a0_1, .int .i64 a0_2, (.slice A0_3 l0_3.length c0_3)] 39 (0, 0))) ∧ Aside0 (w'.heap[gb199]? = some (.cells #[(.slice (some ad204) l1_0.length c1_0)] 24 (0, 0))) ∧ Aside0 (Below w.heap.size w w'))
            case atStart => exact ⟨(x7_1), (0), (by first | rfl | (simp; done) | (simp [*]; done)), H', ⟨Nat.le_refl _⟩, ⟨by (with_reducible repeat (first | apply Kd.R_alloc | apply Kd.R_drewN | apply Kd.R_drew)); exact HO_7.out⟩, ⟨by (with_reducible repeat (first | apply zqa | apply zqb | apply zqc)); exact BK198.out⟩, ⟨by (with_reducible repeat (first | apply zqa | apply zqb | apply zqc)); exact BK199.out⟩, ⟨by repeat (first | (with_reducible first | exact HB.out | apply zqg | apply zqf | apply zqh | refine below_set ?_ GE198.out | refine below_set ?_ GE199.out) | exact HB.out)⟩⟩
            case round =>
             clear H'
             try clear c1
             try clear c2
             try clear p2
             try clear q2
             try clear hx2
             try clear c3
             try clear c4
             try clear c5
             try clear c5b0
             try clear p6
             try clear c8
             try clear c14
             try clear c14b0
             try clear c14b1
             try clear c15
             try clear c15b0
             try clear c15b1
             try clear c18
             try clear c20
             try clear p20
             try clear q20
             try clear hx20
             try clear c27
             try clear c27b0
             try clear c28
             try clear c28b0
             try clear c29
             try clear c29b0
             try clear c30
             try clear c30b0
             try clear c30b1
             try clear c30b2
             try clear c32
             try clear c32b0
             try clear c32b1
             try clear c33
             try clear c34
             try clear c35
             try clear hcz11_0
             try clear hcz12_0
             try clear hcz12_1
             try clear hcz12_2
             try clear hcz12_3
             try clear hcz19_0
             try clear hcz19_1
             try clear hcz19_2
             try clear hcz19_3
             try clear hcz21_0
             try clear hcz22_0
             try clear hcz22_1
             try clear hcz22_2
             try clear hcz22_3
             try clear hcz26_0
             try clear hcz34_0
             try clear hcz34_1
             try clear hcz34_2
             try clear hcz34_3
             try clear hcz9_0
             try clear hcz9_1
             try clear hcz9_2
             try clear hcz9_3
             try clear hfz11_0
             try clear hfz12_0
             try clear hfz12_1
             try clear hfz12_2
             try clear hfz12_3
             try clear hfz19_0
             try clear hfz19_1
             try clear hfz19_2
             try clear hfz19_3
             try clear hfz21_0
             try clear hfz22_0
             try clear hfz22_1
             try clear hfz22_2
             try clear hfz22_3
             try clear hfz26_0
             try clear hfz34_0
             try clear hfz34_1
             try clear hfz34_2
             try clear hfz34_3
             try clear hfz9_0
             try clear hfz9_1
             try clear hfz9_2
             try clear hfz9_3
             try clear hx204_0
             try clear p2
             try clear p204
             try clear p6
             try clear q204
             obtain ⟨x7_2, x57_2, rfl, HA, HK2, HO_7, BK198, BK199, HB⟩ := hrel
             cases gk with
             | zero => exact absurd HA.out (by simp [plan_Cost.l1])
             | succ k2 =>
              have H := HA.out
              clear HA
              simp only [plan_Cost.l1] at H
              by_cases c36 : x57_2 < ((rd_L1 l1_0 x35_1).length : Int)
              ·
               rw [if_pos c36] at H
               have c36b0 : decide (x57_2 < ((rd_L1 l1_0 x35_1).length : Int)) = true := decide_eq_true c36
               clear c36
               by_cases c37 : 0 ≤ x57_2
               ·
                rw [if_pos c37] at H
                have c37b0 : decide (0 ≤ x57_2) = true := decide_eq_true c37
                clear c37
                by_cases c38 : x57_2 < ((rd_L1 l1_0 x35_1).length : Int)
                ·
                 rw [if_pos c38] at H
                 have c38b0 : decide (x57_2 < ((rd_L1 l1_0 x35_1).length : Int)) = true := decide_eq_true c38
                 clear c38
                 by_cases c39 : 0 ≤ (rd (rd_L1 l1_0 x35_1) x57_2)
                 ·
                  rw [if_pos c39] at H
                  have c39b0 : decide (0 ≤ (rd (rd_L1 l1_0 x35_1) x57_2)) = true := decide_eq_true c39
                  clear c39
                  by_cases c40 : (rd (rd_L1 l1_0 x35_1) x57_2) < (x7_2.length : Int)
                  ·
                   rw [if_pos c40] at H
                   have c40b0 : decide ((rd (rd_L1 l1_0 x35_1) x57_2) < (x7_2.length : Int)) = true := decide_eq_true c40
                   clear c40
                   obtain ⟨y212, hy212⟩ : ∃ y_ : List Int, y_ = (x7_2.set ((rd (rd_L1 l1_0 x35_1) x57_2) : Int).toNat (wrap64 ((rd x7_2 (rd (rd_L1 l1_0 x35_1) x57_2)) + 1))) := ⟨_, rfl⟩
                   replace H : (plan_Cost.l1 k2 (wrap64 (x6_1 + t208)) y212 l1_0 (l1_0.length : Int) x35_1 (rd_L1 l1_0 x35_1) ((rd_L1 l1_0 x35_1).length : Int) (wrap64 (x57_2 + 1)) a0_0 a0_1 a0_2 l0_3) = some (r1, r2) := by first | (rw [hy212]; with_reducible exact H) | (have H2_ := (Option.bind_some _ _).symm.trans H; rw [hy212]; with_reducible exact H2_) | (have H2_ := (Option.bind_some _ _).symm.trans H; with_reducible exact H2_) | with_reducible exact H | (rw [hy212]; exact H) | exact H
                   have Ny212 := zqi hy212
                   clear hy212
                   have H' := zqi H
                   clear H
                   have p210 : 0 ≤ (x57_2 : Int) := of_decide_eq_true (by first | (with_reducible assumption) | assumption)
                   have q210 : x57_2 < ((rd_L1 l1_0 x35_1).length : Int) := of_decide_eq_true (by first | (with_reducible assumption) | assumption)
                   obtain ⟨ad210, e210, hx210_0⟩ := Kd.at_int HR204_0.out x57_2 p210 q210
                   cases e210
                   replace hx210_0 := (HB.out.cell (World.block_lt_of_cell? w _ hx210_0)).trans hx210_0
                   replace p210 := eq_true p210
                   replace q210 := eq_true q210
                   obtain ⟨Ao42, co42, eo42⟩ := Kd.R_slice HO_7.out
                   subst eo42
                   have p211 : 0 ≤ ((rd (rd_L1 l1_0 x35_1) x57_2) : Int) := of_decide_eq_true (by first | (with_reducible assumption) | assumption)
                   have q211 : (rd (rd_L1 l1_0 x35_1) x57_2) < (x7_2.length : Int) := of_decide_eq_true (by first | (with_reducible assumption) | assumption)
                   obtain ⟨ad211, e211, hx211_0⟩ := Kd.at_int (Kd.R_reads' HO_7.out).2.2 (rd (rd_L1 l1_0 x35_1) x57_2) p211 q211
                   cases e211
                   replace p211 := eq_true p211
                   replace q211 := eq_true q211
                   have p41 : 0 ≤ ((rd (rd_L1 l1_0 x35_1) x57_2) : Int) := of_decide_eq_true (by first | (with_reducible assumption) | assumption)
                   have q41 : ((rd (rd_L1 l1_0 x35_1) x57_2) : Int) < ((x7_2.length : Int) : Int) := of_decide_eq_true (by first | (with_reducible assumption) | assumption)
                   obtain ⟨go41, co41, eo41, gb41, gl41, cl41, HG41⟩ := Kd.R_form HO_7.out (by omega)
                   (first | cases eo41 | (injection eo41 with ea_ en_ ec_; (first | subst ea_ | (injection ea_ with ea_; subst ea_)); subst ec_; clear en_))
                   have GB41 := zqi gb41
                   have GG41 := zqi HG41
                   clear gb41 gl41 HG41
                   (first | simp only [add_plain] at hx211_0 | skip)
                   obtain ⟨hx41_0, hf41_0⟩ := Kd.R_celln 0 HO_7.out ((rd (rd_L1 l1_0 x35_1) x57_2) : Int) p41 q41
                   replace p41 := eq_true p41
                   replace q41 := eq_true q41
                   have HP43 := Kd.R_putg HO_7.out ((rd (rd_L1 l1_0 x35_1) x57_2) : Int) (wrap64 ((rd x7_2 (rd (rd_L1 l1_0 x35_1) x57_2)) + 1))
                   go_wp2_with (first | ((with_reducible refine gate_store (t := 3) (p := 66) rfl ?_); refine store_event (t := 3) (p := 66) (v := ?vo_w44) (w1 := (wr.setCell ⟨go41, ((rd (rd_L1 l1_0 x35_1) x57_2) : Int).toNat, none⟩ (.int .i64 (wrap64 ((rd x7_2 (rd (rd_L1 l1_0 x35_1) x57_2)) + 1))))) ?hg ?ho ?hn ?hr ?_; (case ho => rfl); (case hg => rfl); (case hn => rfl); (case hr => first | (go_simp; done) | (go_simp; rfl)); intro w44 hw; have hg : wr.grownBy w44 (some go41) := (by rw [hw]; exact HP43.2); have hp_ : Kd.R (Kd.int .i64) 3 w44 w.heap.size (fun _ => True) (.slice (some ⟨go41, 0, none⟩) x7_2.length co42) y212 := (by rw [hw, Ny212.out]; exact HP43.1); clear HP43; have n0_ := zqi (hp_); have n1_ := zqi (blk_grown (g := gb198) (o := .cells #[.int .i64 a0_0, .int .i64 a0_1, .int .i64 a0_2, .slice A0_3 l0_3.length c0_3] 39 (0, 0)) (zqm BK198.out) hg (Kd.R_ne HO_7.out BK198.out (by decide))); have n2_ := zqi (blk_grown (g := gb199) (o := .cells #[.slice (some ad204) l1_0.length c1_0] 24 (0, 0)) (zqm BK199.out) hg (Kd.R_ne HO_7.out BK199.out (by decide))); have n3_ := zqi ((by rw [hw]; exact below_set (HB.out) GB41.out : Below w.heap.size w w44)); clear HO_7; clear BK198; clear BK199; clear HB; have HO_7 := n0_; have BK198 := n1_; have BK199 := n2_; have HB := n3_; clear n0_ n1_ n2_ n3_; clear hg hw hp_))
                   go_roundg k2
                   case measure => have := HK1.out; have := HK2.out; omega
                   case rel => exact ⟨(y212), (wrap64 (x57_2 + 1)), (by first | rfl | (simp; done) | (simp [*]; done)), H', ⟨by have := HK1.out; have := HK2.out; omega⟩, ⟨by (with_reducible repeat (first | apply Kd.R_alloc | apply Kd.R_drewN | apply Kd.R_drew)); exact HO_7.out⟩, ⟨by (with_reducible repeat (first | apply zqa | apply zqb | apply zqc)); exact BK198.out⟩, ⟨by (with_reducible repeat (first | apply zqa | apply zqb | apply zqc)); exact BK199.out⟩, ⟨by repeat (first | (with_reducible first | exact HB.out | apply zqg | apply zqf | apply zqh | refine below_set ?_ GE198.out | refine below_set ?_ GE199.out) | exact HB.out)⟩⟩
                  ·
                   rw [if_neg c40] at H
                   exact absurd H (by simp)
                 ·
                  rw [if_neg c39] at H
                  exact absurd H (by simp)
                ·
                 rw [if_neg c38] at H
                 exact absurd H (by simp)
               ·
                rw [if_neg c37] at H
                exact absurd H (by simp)
              ·
               rw [if_neg c36] at H
               have c36b0 : decide (x57_2 < ((rd_L1 l1_0 x35_1).length : Int)) = false := decide_eq_false c36
               clear c36
               have H' := zqi H
               clear H
               go_wp2
               go_roundg k2
               case measure => have := HK1.out; have := HK2.out; omega
               case rel => exact ⟨((wrap64 (x6_1 + t208))), (x7_2), (wrap64 (x35_1 + 1)), (by first | rfl | (simp; done) | (simp [*]; done)), (by first | rfl | (simp; done) | (simp [*]; done)), H', ⟨by have := HK1.out; have := HK2.out; omega⟩, ⟨by (with_reducible repeat (first | apply Kd.R_alloc | apply Kd.R_drewN | apply Kd.R_drew)); exact HO_7.out⟩, ⟨by (with_reducible repeat (first | apply zqa | apply zqb | apply zqc)); exact BK198.out⟩, ⟨by (with_reducible repeat (first | apply zqa | apply zqb | apply zqc)); exact BK199.out⟩, ⟨by repeat (first | (with_reducible first | exact HB.out | apply zqg | apply zqf | apply zqh | refine below_set ?_ GE198.out | refine below_set ?_ GE199.out) | exact HB.out)⟩⟩
           ·
            rw [if_neg c32] at H
            have c32b0 : (t209 == 0) = false := beq_eq_false_iff_ne.mpr c32
            have c32b1 : (t209 != 0) = true := bne_iff_ne.mpr c32
            simp only [Option.some.injEq, Prod.mk.injEq] at H
            obtain ⟨rfl, rfl⟩ := H
            have p204 : 0 ≤ (x35_1 : Int) := of_decide_eq_true (by first | (with_reducible assumption) | assumption)
            have q204 : x35_1 < (l1_0.length : Int) := of_decide_eq_true (by first | (with_reducible assumption) | assumption)
            obtain ⟨ad204, A204_0, c204_0, e204, hx204_0, hl204_0, hi204_0⟩ := at_L1 HR1_0.out x35_1 p204 q204
            cases e204
            replace hx204_0 := (HB.out.cell (World.block_lt_of_cell? w _ hx204_0)).trans hx204_0
            have HR204_0 := zqi hi204_0
            have HC204_0 := zqi hl204_0
            clear hi204_0 hl204_0
            replace p204 := eq_true p204
            replace q204 := eq_true q204
            have hnb45 := NB198_199.out
            have hnc45 := NB199_198.out
            obtain ⟨hcz46_0, hcz46_1, hcz46_2, hcz46_3, hfz46_0, hfz46_1, hfz46_2, hfz46_3⟩ := zqz4 BK198.out
            go_wp2_with (first | ((with_reducible refine gate_callee (f := 35) rfl ?_); refine goesL_ (some 45) rfl rfl Tryd.func35 (by kernel_rfl) rfl #[.agg #[.int .i64 a0_0, .int .i64 a0_1, .int .i64 a0_2, .slice A0_3 l0_3.length c0_3], .slice A204_0 (rd_L1 l1_0 x35_1).length c204_0] rfl (by (try simp only [List.map_toArray, List.map_cons, List.map_nil]); first | done | rfl | (simp only [List.length_drop, List.length_take]; rfl)) ?_; (with_reducible refine (sched_Times.calls k1 a0_0 a0_1 a0_2 _ _ l0_3 _ _ (rd_L1 l1_0 x35_1) t205 t208 t209 _ ?side1 ?side2 ?side3 ?side4 A31.out).mono ?_); (case side1 => repeat (first | exact (Kd.C_below HR0_3.out HB.out) | (with_reducible refine Kd.C_alloc ?_ _) | (with_reducible refine Kd.C_drewN ?_ _) | (with_reducible refine Kd.C_drew ?_))); (case side2 => exact HC0_3.out); (case side3 => repeat (first | exact (Kd.C_below HR204_0.out HB.out) | (with_reducible refine Kd.C_alloc ?_ _) | (with_reducible refine Kd.C_drewN ?_ _) | (with_reducible refine Kd.C_drew ?_))); (case side4 => exact HC204_0.out); rintro e w47 ⟨v206, rfl, ho0, hb⟩; refine ⟨_, rfl, ?_⟩; have n0_ := zqi (Kd.R_below (by (with_reducible repeat (first | apply Kd.R_alloc | apply Kd.R_drewN | apply Kd.R_drew)); exact HO_7.out) hb); have n1_ := zqi (Kd.R_lower ho0 (below_size (zqn HB.out))); have n2_ := zqi (zqy BK198.out hb); have n3_ := zqi (zqy BK199.out hb); have n4_ := zqi (below_step (zqn HB.out) hb); clear HO_7; clear BK198; clear BK199; clear HB; have HO_7 := n0_; have HO207 := n1_; have BK198 := n2_; have BK199 := n3_; have HB := n4_; clear n0_ n1_ n2_ n3_ n4_; (try clear hb); (try clear hb2); (try clear hk); (try clear hi); (try clear ho0)))
            go_ret2
            exact ⟨by first | rfl | (simp [errW_none, errW_some] <;> rfl) | (simp only [← hji13]; first | rfl | (simp [errW_none, errW_some] <;> rfl)) | (simp [*, errW_none, errW_some] <;> rfl), by repeat (first | (with_reducible first | exact HB.out | apply zqg | apply zqf | apply zqh | refine below_set ?_ GE198.out | refine below_set ?_ GE199.out) | exact HB.out)⟩
         ·
          rw [if_neg c29] at H
          exact absurd H (by simp)
        ·
         rw [if_neg c28] at H
         exact absurd H (by simp)
       ·
        rw [if_neg c27] at H
        have c27b0 : decide (x35_1 < (l1_0.length : Int)) = false := decide_eq_false c27
        clear c27
        replace H := Option.bind_eq_some_iff.mp H
        obtain ⟨t213, A480, H⟩ := H
        replace H : (if t213 = true then (some (0, 5)) else (if 1 ≤ (x7_1.length : Int) then ((slices_Contains_int_int.f k1 (x7_1.drop 1) 0).bind fun t218 => (if t218 = true then (some (0, 4)) else (some (x6_1, 0)))) else (none))) = some (r1, r2) := H
        have A48 := zqi A480
        clear A480
        by_cases c49 : t213 = true
        ·
         subst c49
         have H1 : (some (0, 5)) = some (r1, r2) := by rw [if_pos rfl] at H; exact H
         clear H
         have H := H1
         clear H1
         simp only [Option.some.injEq, Prod.mk.injEq] at H
         obtain ⟨rfl, rfl⟩ := H
         obtain ⟨Ao50, co50, eo50⟩ := Kd.R_slice HO_7.out
         subst eo50
         go_wp2_with (first | ((with_reducible refine gate_callee (f := 37) rfl ?_); refine goesL_ (some 72) rfl rfl Tryd.func37 (by kernel_rfl) rfl #[.slice Ao50 x7_1.length co50, .func (.func 36) #[] #[]] rfl (by (try simp only [List.map_toArray, List.map_cons, List.map_nil]); first | done | rfl | (simp only [List.length_drop, List.length_take]; rfl)) ?_; (with_reducible refine (slices_ContainsFunc_int_int_37.calls _ _ x7_1 999036 true _ ?side1 ?side2 A48.out).mono ?_); (case side1 => repeat (first | exact (Kd.R_reads' HO_7.out).2.2 | (with_reducible refine Kd.C_alloc ?_ _) | (with_reducible refine Kd.C_drewN ?_ _) | (with_reducible refine Kd.C_drew ?_))); (case side2 => exact (Kd.R_reads' HO_7.out).2.1); rintro e w' ⟨rfl, ⟨nd, rfl⟩⟩; refine ⟨_, rfl, ?_⟩))
         go_ret2
         exact ⟨by first | rfl | (simp [errW_none, errW_some] <;> rfl) | (simp only [← hji13]; first | rfl | (simp [errW_none, errW_some] <;> rfl)) | (simp [*, errW_none, errW_some] <;> rfl), by repeat (first | (with_reducible first | exact HB.out | apply zqg | apply zqf | apply zqh | refine below_set ?_ GE198.out | refine below_set ?_ GE199.out) | exact HB.out)⟩
        ·
         replace c49 := Bool.eq_false_iff.mpr c49
         subst c49
         have H1 : (if 1 ≤ (x7_1.length : Int) then ((slices_Contains_int_int.f k1 (x7_1.drop 1) 0).bind fun t218 => (if t218 = true then (some (0, 4)) else (some (x6_1, 0)))) else (none)) = some (r1, r2) := by rw [if_neg (show ¬ (false = true) by decide)] at H; exact H
         clear H
         have H := H1
         clear H1
         by_cases c51 : 1 ≤ (x7_1.length : Int)
         ·
          rw [if_pos c51] at H
          have c51b0 := eq_true c51
          have c51b1 : decide (1 ≤ (x7_1.length : Int)) = true := decide_eq_true c51
          clear c51
          obtain ⟨y214, hy214⟩ : ∃ y_ : List Int, y_ = (x7_1.drop 1) := ⟨_, rfl⟩
          replace H : ((slices_Contains_int_int.f k1 y214 0).bind fun t218 => (if t218 = true then (some (0, 4)) else (some (x6_1, 0)))) = some (r1, r2) := by first | (rw [hy214]; with_reducible exact H) | (have H2_ := (Option.bind_some _ _).symm.trans H; rw [hy214]; with_reducible exact H2_) | (have H2_ := (Option.bind_some _ _).symm.trans H; with_reducible exact H2_) | with_reducible exact H | (rw [hy214]; exact H) | exact H
          have Ny214 := zqi hy214
          clear hy214
          replace H := Option.bind_eq_some_iff.mp H
          obtain ⟨t218, A520, H⟩ := H
          replace H : (if t218 = true then (some (0, 4)) else (some (x6_1, 0))) = some (r1, r2) := H
          have A52 := zqi A520
          clear A520
          by_cases c53 : t218 = true
          ·
           subst c53
           have H1 : (some (0, 4)) = some (r1, r2) := by rw [if_pos rfl] at H; exact H
           clear H
           have H := H1
           clear H1
           simp only [Option.some.injEq, Prod.mk.injEq] at H
           obtain ⟨rfl, rfl⟩ := H
           obtain ⟨Ao54, co54, eo54⟩ := Kd.R_slice HO_7.out
           subst eo54
           go_wp2_with (first | ((with_reducible refine gate_callee (f := 37) rfl ?_); refine goesL_ (some 72) rfl rfl Tryd.func37 (by kernel_rfl) rfl #[.slice Ao54 x7_1.length co54, .func (.func 36) #[] #[]] rfl (by (try simp only [List.map_toArray, List.map_cons, List.map_nil]); first | done | rfl | (simp only [List.length_drop, List.length_take]; rfl)) ?_; (with_reducible refine (slices_ContainsFunc_int_int_37.calls _ _ x7_1 999036 false _ ?side1 ?side2 A48.out).mono ?_); (case side1 => repeat (first | exact (Kd.R_reads' HO_7.out).2.2 | (with_reducible refine Kd.C_alloc ?_ _) | (with_reducible refine Kd.C_drewN ?_ _) | (with_reducible refine Kd.C_drew ?_))); (case side2 => exact (Kd.R_reads' HO_7.out).2.1); rintro e w' ⟨rfl, ⟨nd, rfl⟩⟩; refine ⟨_, rfl, ?_⟩; have q55 : (1 : Int) ≤ ((x7_1.length : Int) : Int) := of_decide_eq_true (by first | (with_reducible assumption) | assumption); obtain ⟨i055, hi055, _, hsz55, _⟩ := info_parts info3; have hroom55 : x7_1.length ≤ co54 := (Kd.R_reads' HO_7.out).2.1; have hC55 : Kd.C (Kd.int .i64) _ Ao54 x7_1.length x7_1 := (Kd.R_reads' HO_7.out).2.2; have hcut55 := cut_from (P := Tryd.prog) 36 3 .i64 Tryd.underlying36 hi055 1 hsz55 Ao54 x7_1.length co54 1 (by omega) q55; have hr55 := Kd.C_drop (m := (1 : Int).toNat) (c := co54) hC55 (by omega) hroom55; obtain ⟨A55, hA55⟩ : ∃ A1, A1 = (if co54 = (1 : Int).toNat then Ao54 else (Ao54 : Option Addr).map (·.add ((1 : Int).toNat * 1))) := ⟨_, rfl⟩; obtain ⟨c55, hc55⟩ : ∃ c1, c1 = co54 - (1 : Int).toNat := ⟨_, rfl⟩; have hy55 : y214.length = x7_1.length - (1 : Int).toNat := (by rw [Ny214.out, List.length_drop] <;> omega); rw [show (x7_1).drop (1 : Int).toNat = y214 from Ny214.out.symm] at hr55; replace hr55 : Kd.C (Kd.int .i64) _ A55 y214.length y214 := (by rw [hA55]; exact hr55); rw [← hy55, ← hA55, ← hc55] at hcut55; have HR217 := zqi hr55; have HC217 := zqi (show y214.length ≤ c55 from by rw [hy55, hc55]; exact Nat.sub_le_sub_right hroom55 _); clear hr55 hC55 hroom55 hi055 hsz55 hc55; have KY55 := zqi hy55; have KA55 := zqi hA55; clear hy55 hA55; have KL55 := zqi (show 1 ≤ x7_1.length from by omega); replace q55 := eq_true q55) | ((with_reducible refine gate_callee (f := 38) rfl ?_); refine goesL_ (some 76) rfl rfl Tryd.func38 (by kernel_rfl) rfl #[.slice A55 y214.length c55, .int .i64 0] rfl (by (try simp only [List.map_toArray, List.map_cons, List.map_nil]); first | done | rfl | (simp only [List.length_drop, List.length_take]; rfl)) ?_; (with_reducible refine (slices_Contains_int_int.calls k1 _ _ y214 0 true _ ?side1 ?side2 A52.out).mono ?_); (case side1 => repeat (first | exact (by repeat (first | (with_reducible exact HR217.out) | (with_reducible refine Kd.C_alloc ?_ _) | (with_reducible refine Kd.C_drewN ?_ _) | (with_reducible refine Kd.C_drew ?_) | exact HR217.out)) | (with_reducible refine Kd.C_alloc ?_ _) | (with_reducible refine Kd.C_drewN ?_ _) | (with_reducible refine Kd.C_drew ?_))); (case side2 => exact HC217.out); rintro e w' ⟨rfl, ⟨nd, rfl⟩⟩; refine ⟨_, rfl, ?_⟩))
           go_ret2
           exact ⟨by first | rfl | (simp [errW_none, errW_some] <;> rfl) | (simp only [← hji13]; first | rfl | (simp [errW_none, errW_some] <;> rfl)) | (simp [*, errW_none, errW_some] <;> rfl), by repeat (first | (with_reducible first | exact HB.out | apply zqg | apply zqf | apply zqh | refine below_set ?_ GE198.out | refine below_set ?_ GE199.out) | exact HB.out)⟩
          ·
           replace c53 := Bool.eq_false_iff.mpr c53
           subst c53
           have H1 : (some (x6_1, 0)) = some (r1, r2) := by rw [if_neg (show ¬ (false = true) by decide)] at H; exact H
           clear H
           have H := H1
           clear H1
           simp only [Option.some.injEq, Prod.mk.injEq] at H
           obtain ⟨rfl, rfl⟩ := H
           obtain ⟨Ao56, co56, eo56⟩ := Kd.R_slice HO_7.out
           subst eo56
           go_wp2_with (first | ((with_reducible refine gate_callee (f := 37) rfl ?_); refine goesL_ (some 72) rfl rfl Tryd.func37 (by kernel_rfl) rfl #[.slice Ao56 x7_1.length co56, .func (.func 36) #[] #[]] rfl (by (try simp only [List.map_toArray, List.map_cons, List.map_nil]); first | done | rfl | (simp only [List.length_drop, List.length_take]; rfl)) ?_; (with_reducible refine (slices_ContainsFunc_int_int_37.calls _ _ x7_1 999036 false _ ?side1 ?side2 A48.out).mono ?_); (case side1 => repeat (first | exact (Kd.R_reads' HO_7.out).2.2 | (with_reducible refine Kd.C_alloc ?_ _) | (with_reducible refine Kd.C_drewN ?_ _) | (with_reducible refine Kd.C_drew ?_))); (case side2 => exact (Kd.R_reads' HO_7.out).2.1); rintro e w' ⟨rfl, ⟨nd, rfl⟩⟩; refine ⟨_, rfl, ?_⟩; have q57 : (1 : Int) ≤ ((x7_1.length : Int) : Int) := of_decide_eq_true (by first | (with_reducible assumption) | assumption); obtain ⟨i057, hi057, _, hsz57, _⟩ := info_parts info3; have hroom57 : x7_1.length ≤ co56 := (Kd.R_reads' HO_7.out).2.1; have hC57 : Kd.C (Kd.int .i64) _ Ao56 x7_1.length x7_1 := (Kd.R_reads' HO_7.out).2.2; have hcut57 := cut_from (P := Tryd.prog) 36 3 .i64 Tryd.underlying36 hi057 1 hsz57 Ao56 x7_1.length co56 1 (by omega) q57; have hr57 := Kd.C_drop (m := (1 : Int).toNat) (c := co56) hC57 (by omega) hroom57; obtain ⟨A57, hA57⟩ : ∃ A1, A1 = (if co56 = (1 : Int).toNat then Ao56 else (Ao56 : Option Addr).map (·.add ((1 : Int).toNat * 1))) := ⟨_, rfl⟩; obtain ⟨c57, hc57⟩ : ∃ c1, c1 = co56 - (1 : Int).toNat := ⟨_, rfl⟩; have hy57 : y214.length = x7_1.length - (1 : Int).toNat := (by rw [Ny214.out, List.length_drop] <;> omega); rw [show (x7_1).drop (1 : Int).toNat = y214 from Ny214.out.symm] at hr57; replace hr57 : Kd.C (Kd.int .i64) _ A57 y214.length y214 := (by rw [hA57]; exact hr57); rw [← hy57, ← hA57, ← hc57] at hcut57; have HR217 := zqi hr57; have HC217 := zqi (show y214.length ≤ c57 from by rw [hy57, hc57]; exact Nat.sub_le_sub_right hroom57 _); clear hr57 hC57 hroom57 hi057 hsz57 hc57; have KY57 := zqi hy57; have KA57 := zqi hA57; clear hy57 hA57; have KL57 := zqi (show 1 ≤ x7_1.length from by omega); replace q57 := eq_true q57) | ((with_reducible refine gate_callee (f := 38) rfl ?_); refine goesL_ (some 76) rfl rfl Tryd.func38 (by kernel_rfl) rfl #[.slice A57 y214.length c57, .int .i64 0] rfl (by (try simp only [List.map_toArray, List.map_cons, List.map_nil]); first | done | rfl | (simp only [List.length_drop, List.length_take]; rfl)) ?_; (with_reducible refine (slices_Contains_int_int.calls k1 _ _ y214 0 false _ ?side1 ?side2 A52.out).mono ?_); (case side1 => repeat (first | exact (by repeat (first | (with_reducible exact HR217.out) | (with_reducible refine Kd.C_alloc ?_ _) | (with_reducible refine Kd.C_drewN ?_ _) | (with_reducible refine Kd.C_drew ?_) | exact HR217.out)) | (with_reducible refine Kd.C_alloc ?_ _) | (with_reducible refine Kd.C_drewN ?_ _) | (with_reducible refine Kd.C_drew ?_))); (case side2 => exact HC217.out); rintro e w' ⟨rfl, ⟨nd, rfl⟩⟩; refine ⟨_, rfl, ?_⟩))
           go_ret2
           exact ⟨by first | rfl | (simp [errW_none, errW_some] <;> rfl) | (simp only [← hji13]; first | rfl | (simp [errW_none, errW_some] <;> rfl)) | (simp [*, errW_none, errW_some] <;> rfl), by repeat (first | (with_reducible first | exact HB.out | apply zqg | apply zqf | apply zqh | refine below_set ?_ GE198.out | refine below_set ?_ GE199.out) | exact HB.out)⟩
         ·
          rw [if_neg c51] at H
          exact absurd H (by simp)
    ·
     rw [if_neg c15] at H
     exact absurd H (by simp)
   ·
    rw [if_neg c14] at H
    exact absurd H (by simp)
 ·
  replace c4 := Bool.eq_false_iff.mpr c4
  subst c4
  have H1 : (some (0, 1)) = some (r1, r2) := by rw [if_neg (show ¬ (false = true) by decide)] at H; exact H
  clear H
  have H := H1
  clear H1
  simp only [Option.some.injEq, Prod.mk.injEq] at H
  obtain ⟨rfl, rfl⟩ := H
  go_enter Tryd.func18, Tryd.ntmps18
  go_wp2_with (first | ((with_reducible refine gate_dst (N := 2) rfl ?_); refine box_event ?hg (N := 2) ?hd (cs := #[.int .i64 a0_0, .int .i64 a0_1, .int .i64 a0_2, .slice A0_3 l0_3.length c0_3]) (t := 39) ?hr ?_; (case hd => rfl); (case hg => rfl); (case hr => first | (go_simp; done) | (go_simp; rfl)); intro gb198 hg w58 hbox hb; have n0_ := zqi (below_step (zqn HB.out) hb); have n1_ := zqi (hbox); have n2_ := zqi (zqo hg HB.out); have n3_ := zqi (zqo hg HB.out); clear HB; have HB := n0_; have BK198 := n1_; have GW198 := n2_; have GE198 := n3_; clear n0_ n1_ n2_ n3_; clear hb hbox hg) | ((with_reducible refine gate_dst (N := 3) rfl ?_); refine box_event ?hg (N := 3) ?hd (cs := #[.slice A1_0 l1_0.length c1_0]) (t := 24) ?hr ?_; (case hd => rfl); (case hg => rfl); (case hr => first | (go_simp; done) | (go_simp; rfl)); intro gb199 hg w59 hbox hb; have n0_ := zqi (zqy BK198.out hb); have n1_ := zqi (below_step (zqn HB.out) hb); have n2_ := zqi (hbox); have n3_ := zqi (zqo hg HB.out); have n4_ := zqi (zqo hg HB.out); have n5_ := zqi ((zqq hg BK198.out)); have n6_ := zqi ((zqr hg BK198.out)); clear BK198; clear HB; have BK198 := n0_; have HB := n1_; have BK199 := n2_; have GW199 := n3_; have GE199 := n4_; have NB198_199 := n5_; have NB199_198 := n6_; clear n0_ n1_ n2_ n3_ n4_ n5_ n6_; clear hb hbox hg; have hnb60 := NB198_199.out; have hnc60 := NB199_198.out; obtain ⟨hcz61_0, hcz61_1, hcz61_2, hcz61_3, hfz61_0, hfz61_1, hfz61_2, hfz61_3⟩ := zqz4 BK198.out) | ((with_reducible refine gate_callee (f := 34) rfl ?_); refine goesL_ (some 18) rfl rfl Tryd.func34 (by kernel_rfl) rfl #[.agg #[.int .i64 a0_0, .int .i64 a0_1, .int .i64 a0_2, .slice A0_3 l0_3.length c0_3]] rfl (by (try simp only [List.map_toArray, List.map_cons, List.map_nil]); first | done | rfl | (simp only [List.length_drop, List.length_take]; rfl)) ?_; (with_reducible refine (inst_May.calls k a0_0 a0_1 a0_2 _ _ l0_3 false _ ?side1 ?side2 A3.out).mono ?_); (case side1 => repeat (first | exact (Kd.C_below HR0_3.out HB.out) | (with_reducible refine Kd.C_alloc ?_ _) | (with_reducible refine Kd.C_drewN ?_ _) | (with_reducible refine Kd.C_drew ?_))); (case side2 => exact HC0_3.out); rintro e w62 ⟨rfl, hb⟩; refine ⟨_, rfl, ?_⟩; have n0_ := zqi (zqy BK198.out hb); have n1_ := zqi (zqy BK199.out hb); have n2_ := zqi (below_step (zqn HB.out) hb); clear BK198; clear BK199; clear HB; have BK198 := n0_; have BK199 := n1_; have HB := n2_; clear n0_ n1_ n2_; (try clear hb); (try clear hb2); (try clear hk); (try clear hi)))
  go_ret2
  exact ⟨by first | rfl | (simp [errW_none, errW_some] <;> rfl) | (simp [*, errW_none, errW_some] <;> rfl), by repeat (first | (with_reducible first | exact HB.out | apply zqg | apply zqf | apply zqh | refine below_set ?_ GE198.out | refine below_set ?_ GE199.out) | exact HB.out)⟩

end Go.Proofs.YtdkhajgfifaibaaDoor.PA
