-- Printed for this claim by wip/tools/xprint.py over the kit's print; the contracts marked BY HAND are this session's own.
import Derived.Test.YtifekgemngfidaaDoorPAx0
import Derived.Test.YtifekgemngfidaaDoorPAx3
import Derived.Test.YtifekgemngfidaaDoorPAx7
import Derived.Test.YtifekgemngfidaaDoorPAx8
import Derived.Test.YtifekgemngfidaaDoorPAx9
import Derived.Test.YtifekgemngfidaaDoorPAx14
import Derived.Test.YtifekgemngfidaaDoorPAx18
namespace Go.Proofs.YtifekgemngfidaaDoor.PA
open Go.RowKit Go.Proofs.YtifekgemngfidaaDoorW.PrintWords Go.Proofs.YtifekgemngfidaaDoorW.PrintLast Go.Proofs.YtifekgemngfidaaDoorW.PrintMore
attribute [local go_sem] max2_int min2_int max_two min_two max_three min_three max_four min_four   -- for this text's walks alone
set_option linter.unusedVariables false
set_option linter.unusedSimpArgs false

/-! ### haulierlaw05_InstPrints: function 5 -/
def haulierlaw05_InstPrints.j0 : Nat → Bool → Bool → Int → Int → Int → List (S34) → Int → Int → Int → List (S34) → Option (Bool)
  | 0, _, _, _, _, _, _, _, _, _, _ => none
  | k + 1, x5, x24, x389000, x389001, x389002, x389003, x390000, x390001, x390002, x390003 => if x24 = true then (some x5) else ((inst_Print.f k x389000 x389001 x389002 x389003).bind fun bt391 => ((haulierref05_Print.f k x389000 x389001 x389002 x389003).bind fun bt395 => (if (strOfNums bt391.1).toList = (strOfNums bt395.1).toList then (if bt391.2 = bt395.2 then ((inst_May.f k x389000 x389001 x389002 x389003).bind fun t399 => ((haulierref05_May.f k x389000 x389001 x389002 x389003).bind fun t400 => (if (t399 == t400) = true then ((inst_Same.f k x389000 x389001 x389002 x389003 x390000 x390001 x390002 x390003).bind fun t401 => ((haulierref05_Same.f k x389000 x389001 x389002 x389003 x390000 x390001 x390002 x390003).bind fun t402 => (some (t401 == t402)))) else (none)))) else (none)) else (none))))
def haulierlaw05_InstPrints.f (k : Nat) (a0_0 : Int) (a0_1 : Int) (a0_2 : Int) (l0_3 : List (S34)) (a1_0 : Int) (a1_1 : Int) (a1_2 : Int) (l1_3 : List (S34)) : Option (Bool) := (haulierlaw05_awake.f k).bind fun t390 => (if t390 = true then (if (l0_3.length : Int) > 100 then (haulierlaw05_InstPrints.j0 k t390 true a0_0 a0_1 a0_2 l0_3 a1_0 a1_1 a1_2 l1_3) else (haulierlaw05_InstPrints.j0 k t390 (decide ((l1_3.length : Int) > 100)) a0_0 a0_1 a0_2 l0_3 a1_0 a1_1 a1_2 l1_3)) else (haulierlaw05_InstPrints.j0 k t390 true a0_0 a0_1 a0_2 l0_3 a1_0 a1_1 a1_2 l1_3))
theorem haulierlaw05_InstPrints.mono_l : ∀ k, (∀ y0 y1 y2 y3 y4 y5 y6 y7 y8 y9, LeO (haulierlaw05_InstPrints.j0 k y0 y1 y2 y3 y4 y5 y6 y7 y8 y9) (haulierlaw05_InstPrints.j0 (k + 1) y0 y1 y2 y3 y4 y5 y6 y7 y8 y9))
  | 0 => fun _ _ _ _ _ _ _ _ _ _ r h => by simp [haulierlaw05_InstPrints.j0] at h
  | k + 1 => by
    have ih0 := haulierlaw05_InstPrints.mono_l k
    · intro y0 y1 y2 y3 y4 y5 y6 y7 y8 y9
      unfold haulierlaw05_InstPrints.j0
      repeat' first
      | (with_reducible exact ih0 _ _ _ _ _ _ _ _ _ _)
      | (with_reducible exact haulierlaw05_awake.mono _)
      | (with_reducible exact haulierref05_May.mono _ _ _ _ _)
      | (with_reducible exact haulierref05_Print.mono _ _ _ _ _)
      | (with_reducible exact haulierref05_Same.mono _ _ _ _ _ _ _ _ _)
      | (with_reducible exact inst_May.mono _ _ _ _ _)
      | (with_reducible exact inst_Print.mono _ _ _ _ _)
      | (with_reducible exact inst_Same.mono _ _ _ _ _ _ _ _ _)
      | (with_reducible exact LeO.refl _)
      | (with_reducible exact LeO.none _)
      | (with_reducible refine LeO.ite ?_ ?_)
      | (with_reducible refine LeO.bind ?_ (fun _ => ?_))
      | exact ih0 _ _ _ _ _ _ _ _ _ _
      | exact haulierlaw05_awake.mono _
      | exact haulierref05_May.mono _ _ _ _ _
      | exact haulierref05_Print.mono _ _ _ _ _
      | exact haulierref05_Same.mono _ _ _ _ _ _ _ _ _
      | exact inst_May.mono _ _ _ _ _
      | exact inst_Print.mono _ _ _ _ _
      | exact inst_Same.mono _ _ _ _ _ _ _ _ _
      | exact LeO.none _
      | refine LeO.ite ?_ ?_
      | refine LeO.bind ?_ (fun _ => ?_)
theorem haulierlaw05_InstPrints.mono : ∀ a0 a1 a2 a3 a4 a5 a6 a7 k, LeO (haulierlaw05_InstPrints.f k a0 a1 a2 a3 a4 a5 a6 a7) (haulierlaw05_InstPrints.f (k + 1) a0 a1 a2 a3 a4 a5 a6 a7) := by
  intro a0 a1 a2 a3 a4 a5 a6 a7 k
  have ih0 := haulierlaw05_InstPrints.mono_l k
  unfold haulierlaw05_InstPrints.f
  repeat' first
      | (with_reducible exact ih0 _ _ _ _ _ _ _ _ _ _)
      | (with_reducible exact haulierlaw05_awake.mono _)
      | (with_reducible exact haulierref05_May.mono _ _ _ _ _)
      | (with_reducible exact haulierref05_Print.mono _ _ _ _ _)
      | (with_reducible exact haulierref05_Same.mono _ _ _ _ _ _ _ _ _)
      | (with_reducible exact inst_May.mono _ _ _ _ _)
      | (with_reducible exact inst_Print.mono _ _ _ _ _)
      | (with_reducible exact inst_Same.mono _ _ _ _ _ _ _ _ _)
      | (with_reducible exact LeO.refl _)
      | (with_reducible exact LeO.none _)
      | (with_reducible refine LeO.ite ?_ ?_)
      | (with_reducible refine LeO.bind ?_ (fun _ => ?_))
      | exact ih0 _ _ _ _ _ _ _ _ _ _
      | exact haulierlaw05_awake.mono _
      | exact haulierref05_May.mono _ _ _ _ _
      | exact haulierref05_Print.mono _ _ _ _ _
      | exact haulierref05_Same.mono _ _ _ _ _ _ _ _ _
      | exact inst_May.mono _ _ _ _ _
      | exact inst_Print.mono _ _ _ _ _
      | exact inst_Same.mono _ _ _ _ _ _ _ _ _
      | exact LeO.none _
      | refine LeO.ite ?_ ?_
      | refine LeO.bind ?_ (fun _ => ?_)
def haulierlaw05_InstPrints.T6 : Bool × List (List Nat × List Nat) := (true, [([], []), ([0], [0]), ([], []), ([2], [2]), ([1, 3], [1, 3]), ([4], [4]), ([5], [5]), ([5], [5]), ([6, 7, 5], [5, 6, 7]), ([5, 8], [5, 8]), ([9, 5], [9]), ([10], [10]), ([11, 10, 10], [10, 11]), ([10], [10]), ([13, 12, 10], [10, 13]), ([12, 14, 10], [10, 12, 14]), ([10, 15], [10, 15]), ([16, 14], [16]), ([17], [17]), ([17], [17]), ([18, 19, 17, 17], [17, 18, 19]), ([17], [17]), ([17], [17]), ([21, 22, 20, 17], [17, 21, 22]), ([20, 23, 17], [17, 20, 23]), ([17, 24], [17, 24]), ([25, 23, 0, 1, 2, 3, 4, 5, 6, 7, 8, 9, 10, 11, 12, 13, 14, 15, 16, 17, 18, 19, 20, 21, 22, 23, 24, 25], [25])])
def haulierlaw05_InstPrints.B6 : List Nat := [0, 1, 0, 4, 15, 31, 63, 63, 255, 511, 1023, 2047, 4095, 2047, 16383, 32767, 65535, 131071, 262143, 262143, 1048575, 262143, 262143, 8388607, 16777215, 33554431, 67108863]
theorem haulierlaw05_InstPrints.tab6 : rtab .any (opsOf Tryd.f5 6) = haulierlaw05_InstPrints.T6 := by kernel_rfl
theorem haulierlaw05_InstPrints.bits6 : waitsOk haulierlaw05_InstPrints.T6.2 haulierlaw05_InstPrints.B6 = true := by kernel_rfl
set_option maxHeartbeats 8000000 in
set_option maxRecDepth 100000 in
theorem haulierlaw05_InstPrints.calls (k : Nat) (a0_0 : Int) (a0_1 : Int) (a0_2 : Int) (A0_3 : Option Addr) (c0_3 : Nat) (l0_3 : List (S34)) (a1_0 : Int) (a1_1 : Int) (a1_2 : Int) (A1_3 : Option Addr) (c1_3 : Nat) (l1_3 : List (S34)) (r : Bool) (w : World) (hr0_3 : Kd.C k34 w A0_3 l0_3.length l0_3) (hc0_3 : l0_3.length ≤ c0_3) (hr1_3 : Kd.C k34 w A1_3 l1_3.length l1_3) (hc1_3 : l1_3.length ≤ c1_3) (h : haulierlaw05_InstPrints.f k a0_0 a0_1 a0_2 l0_3 a1_0 a1_1 a1_2 l1_3 = some r) (hT : Go.Proofs.YtifekgemngfidaaDoor.Scan.NumTab w) :
  Calls Tryd.prog 5 #[.agg #[.int .i64 a0_0, .int .i64 a0_1, .int .i64 a0_2, .slice A0_3 l0_3.length c0_3], .agg #[.int .i64 a1_0, .int .i64 a1_1, .int .i64 a1_2, .slice A1_3 l1_3.length c1_3]] w fun e w' => e = .returned (.bool r) ∧ Below w.heap.size w w' := by
 have HT := zqi hT
 clear hT
 have hu26 := Tryd.underlying26
 have HR0_3 := zqi hr0_3
 have HC0_3 := zqi hc0_3
 clear hr0_3 hc0_3
 have HR1_3 := zqi hr1_3
 have HC1_3 := zqi hc1_3
 clear hr1_3 hc1_3
 have HB := zqi (Below.refl w.heap.size w)
 have H : ((haulierlaw05_awake.f k).bind fun t390 => (if t390 = true then (if (l0_3.length : Int) > 100 then (haulierlaw05_InstPrints.j0 k t390 true a0_0 a0_1 a0_2 l0_3 a1_0 a1_1 a1_2 l1_3) else (haulierlaw05_InstPrints.j0 k t390 (decide ((l1_3.length : Int) > 100)) a0_0 a0_1 a0_2 l0_3 a1_0 a1_1 a1_2 l1_3)) else (haulierlaw05_InstPrints.j0 k t390 true a0_0 a0_1 a0_2 l0_3 a1_0 a1_1 a1_2 l1_3))) = some r := h
 clear h
 replace H := Option.bind_eq_some_iff.mp H
 obtain ⟨t390, A30, H⟩ := H
 replace H : (if t390 = true then (if (l0_3.length : Int) > 100 then (haulierlaw05_InstPrints.j0 k t390 true a0_0 a0_1 a0_2 l0_3 a1_0 a1_1 a1_2 l1_3) else (haulierlaw05_InstPrints.j0 k t390 (decide ((l1_3.length : Int) > 100)) a0_0 a0_1 a0_2 l0_3 a1_0 a1_1 a1_2 l1_3)) else (haulierlaw05_InstPrints.j0 k t390 true a0_0 a0_1 a0_2 l0_3 a1_0 a1_1 a1_2 l1_3)) = some r := H
 have A3 := zqi A30
 clear A30
 have HC4 := zqi H
 clear H
 go_enter Tryd.func5, Tryd.ntmps5
 go_upto_region 2 with (first | ((with_reducible refine gate_dst (N := 2) rfl ?_); (try (refine gate_guard (by rfl) ?_; dsimp only)); refine box_event ?hg (N := 2) ?hd (cs := #[.int .i64 a0_0, .int .i64 a0_1, .int .i64 a0_2, .slice A0_3 l0_3.length c0_3]) (t := 26) ?hr ?_; (case hd => rfl); (case hg => rfl); (case hr => first | (go_simp; done) | (go_simp; rfl)); intro gb388 hg w5 hbox hb; have n0_ := zqi (below_step (by repeat (first | (with_reducible first | exact HB.out | apply zqg | apply zqf | apply zqh) | exact HB.out)) hb); have n1_ := zqi (hbox); have n2_ := zqi ((by rw [hg]; exact (below_size (by repeat (first | (with_reducible first | exact HB.out | apply zqg | apply zqf | apply zqh) | exact HB.out))) : w.heap.size ≤ gb388)); have n3_ := zqi ((by rw [hg]; exact (below_size (by repeat (first | (with_reducible first | exact HB.out | apply zqg | apply zqf | apply zqh) | exact HB.out))) : w.heap.size ≤ gb388)); clear HB; have HB := n0_; have BK388 := n1_; have GW388 := n2_; have GE388 := n3_; clear n0_ n1_ n2_ n3_; clear hb hbox hg) | ((with_reducible refine gate_dst (N := 3) rfl ?_); (try (refine gate_guard (by rfl) ?_; dsimp only)); refine box_event ?hg (N := 3) ?hd (cs := #[.int .i64 a1_0, .int .i64 a1_1, .int .i64 a1_2, .slice A1_3 l1_3.length c1_3]) (t := 26) ?hr ?_; (case hd => rfl); (case hg => rfl); (case hr => first | (go_simp; done) | (go_simp; rfl)); intro gb389 hg w6 hbox hb; have n0_ := zqi (blk_below (g := gb388) (o := .cells #[.int .i64 a0_0, .int .i64 a0_1, .int .i64 a0_2, .slice A0_3 l0_3.length c0_3] 26 (0, 0)) (by (with_reducible repeat (first | apply zqa | apply zqb | apply zqc)); exact BK388.out) hb); have n1_ := zqi (below_step (by repeat (first | (with_reducible first | exact HB.out | apply zqg | apply zqf | apply zqh | refine below_set ?_ GE388.out) | exact HB.out)) hb); have n2_ := zqi (hbox); have n3_ := zqi ((by rw [hg]; exact (below_size (by repeat (first | (with_reducible first | exact HB.out | apply zqg | apply zqf | apply zqh | refine below_set ?_ GE388.out) | exact HB.out))) : w.heap.size ≤ gb389)); have n4_ := zqi ((by rw [hg]; exact (below_size (by repeat (first | (with_reducible first | exact HB.out | apply zqg | apply zqf | apply zqh | refine below_set ?_ GE388.out) | exact HB.out))) : w.heap.size ≤ gb389)); have n5_ := zqi ((by rw [hg]; exact Nat.ne_of_lt (blk_lt (g := gb388) (o := .cells #[.int .i64 a0_0, .int .i64 a0_1, .int .i64 a0_2, .slice A0_3 l0_3.length c0_3] 26 (0, 0)) (by (with_reducible repeat (first | apply zqa | apply zqb | apply zqc)); exact BK388.out)) : gb388 ≠ gb389)); have n6_ := zqi ((by rw [hg]; exact Nat.ne_of_gt (blk_lt (g := gb388) (o := .cells #[.int .i64 a0_0, .int .i64 a0_1, .int .i64 a0_2, .slice A0_3 l0_3.length c0_3] 26 (0, 0)) (by (with_reducible repeat (first | apply zqa | apply zqb | apply zqc)); exact BK388.out)) : gb389 ≠ gb388)); clear BK388; clear HB; have BK388 := n0_; have HB := n1_; have BK389 := n2_; have GW389 := n3_; have GE389 := n4_; have NB388_389 := n5_; have NB389_388 := n6_; clear n0_ n1_ n2_ n3_ n4_ n5_ n6_; clear hb hbox hg) | ((with_reducible refine gate_callee (f := 9) rfl ?_); refine goesL_ (some 10) rfl rfl Tryd.func9 (by kernel_rfl) rfl #[] rfl (by (try simp only [List.map_toArray, List.map_cons, List.map_nil]); first | done | rfl | (simp only [List.length_drop, List.length_take]; rfl)) ?_; (with_reducible refine (haulierlaw05_awake.calls k  t390 _ A3.out ?tab).mono ?_); (case tab => exact HT.out.on (by repeat (first | (with_reducible first | exact HB.out | apply zqg | apply zqf | apply zqh | refine below_set ?_ GE388.out | refine below_set ?_ GE389.out) | exact HB.out))); rintro e w7 ⟨rfl, hb⟩; refine ⟨_, rfl, ?_⟩; have n0_ := zqi (blk_below (g := gb388) (o := .cells #[.int .i64 a0_0, .int .i64 a0_1, .int .i64 a0_2, .slice A0_3 l0_3.length c0_3] 26 (0, 0)) (by (with_reducible repeat (first | apply zqa | apply zqb | apply zqc)); exact BK388.out) hb); have n1_ := zqi (blk_below (g := gb389) (o := .cells #[.int .i64 a1_0, .int .i64 a1_1, .int .i64 a1_2, .slice A1_3 l1_3.length c1_3] 26 (0, 0)) (by (with_reducible repeat (first | apply zqa | apply zqb | apply zqc)); exact BK389.out) hb); have n2_ := zqi (below_step (by repeat (first | (with_reducible first | exact HB.out | apply zqg | apply zqf | apply zqh | refine below_set ?_ GE388.out | refine below_set ?_ GE389.out) | exact HB.out)) hb); clear BK388; clear BK389; clear HB; have BK388 := n0_; have BK389 := n1_; have HB := n2_; clear n0_ n1_ n2_; (try clear hb); (try clear hb2); (try clear hk); (try clear hi)))
 (try simp only [Act.put, List.setIfInBounds_toArray, List.set_cons_zero, List.set_cons_succ])
 go_cut [24] (fun v24 wc => ∃ (kq : Nat) (x24_3 : Bool), v24 = .bool x24_3 ∧ Aside0 (haulierlaw05_InstPrints.j0 kq t390 x24_3 a0_0 a0_1 a0_2 l0_3 a1_0 a1_1 a1_2 l1_3 = some r) ∧ Aside0 (kq ≤ k) ∧ Aside0 (wc.heap[gb388]? = some (.cells #[.int .i64 a0_0, .int .i64 a0_1, .int .i64 a0_2, (.slice A0_3 l0_3.length c0_3)] 26 (0, 0))) ∧ Aside0 (wc.heap[gb389]? = some (.cells #[.int .i64 a1_0, .int .i64 a1_1, .int .i64 a1_2, (.slice A1_3 l1_3.length c1_3)] 26 (0, 0))) ∧ Aside0 (Below w.heap.size w wc))
 case first =>
  have H := HC4.out
  clear HC4
  by_cases c8 : t390 = true
  ·
   subst c8
   have H1 : (if (l0_3.length : Int) > 100 then (haulierlaw05_InstPrints.j0 k true true a0_0 a0_1 a0_2 l0_3 a1_0 a1_1 a1_2 l1_3) else (haulierlaw05_InstPrints.j0 k true (decide ((l1_3.length : Int) > 100)) a0_0 a0_1 a0_2 l0_3 a1_0 a1_1 a1_2 l1_3)) = some r := by rw [if_pos rfl] at H; exact H
   clear H
   have H := H1
   clear H1
   by_cases c9 : (l0_3.length : Int) > 100
   ·
    rw [if_pos c9] at H
    have c9b0 : decide (100 < (l0_3.length : Int)) = true := decide_eq_true c9
    have c9b1 : decide (100 < l0_3.length) = true := decide_eq_true (by omega)
    clear c9
    (first | rw [c9b0] | (simp only [i64_w, i32_w]; rw [c9b0]) | skip)
    have H' := zqi H
    clear H
    have hnb10 := NB388_389.out
    have hnc10 := NB389_388.out
    have hcz11_0 : w7.cell? ⟨gb388, 0, none⟩ = some (.int .i64 a0_0) := (zqe BK388.out 0).trans rfl
    have hcz11_1 : w7.cell? ⟨gb388, 1, none⟩ = some (.int .i64 a0_1) := (zqe BK388.out 1).trans rfl
    have hcz11_2 : w7.cell? ⟨gb388, 2, none⟩ = some (.int .i64 a0_2) := (zqe BK388.out 2).trans rfl
    have hcz11_3 : w7.cell? ⟨gb388, 3, none⟩ = some (.slice A0_3 l0_3.length c0_3) := (zqe BK388.out 3).trans rfl
    have hfz11_0 := zqd BK388.out 0
    have hfz11_1 := zqd BK388.out 1
    have hfz11_2 := zqd BK388.out 2
    have hfz11_3 := zqd BK388.out 3
    go_wp2
    go_meet
    case rel => exact ⟨_, (true), (by first | rfl | (simp; done) | (simp [*]; done)), H', ⟨by first | omega | exact Nat.le_refl _⟩, ⟨by (with_reducible repeat (first | apply zqa | apply zqb | apply zqc)); exact BK388.out⟩, ⟨by (with_reducible repeat (first | apply zqa | apply zqb | apply zqc)); exact BK389.out⟩, ⟨by repeat (first | (with_reducible first | exact HB.out | apply zqg | apply zqf | apply zqh | refine below_set ?_ GE388.out | refine below_set ?_ GE389.out) | exact HB.out)⟩⟩
   ·
    rw [if_neg c9] at H
    have c9b0 : decide (100 < (l0_3.length : Int)) = false := decide_eq_false c9
    have c9b1 : decide (100 < l0_3.length) = false := decide_eq_false (by omega)
    clear c9
    (first | rw [c9b0] | (simp only [i64_w, i32_w]; rw [c9b0]) | skip)
    have H' := zqi H
    clear H
    have hnb12 := NB388_389.out
    have hnc12 := NB389_388.out
    have hcz13_0 : w7.cell? ⟨gb388, 0, none⟩ = some (.int .i64 a0_0) := (zqe BK388.out 0).trans rfl
    have hcz13_1 : w7.cell? ⟨gb388, 1, none⟩ = some (.int .i64 a0_1) := (zqe BK388.out 1).trans rfl
    have hcz13_2 : w7.cell? ⟨gb388, 2, none⟩ = some (.int .i64 a0_2) := (zqe BK388.out 2).trans rfl
    have hcz13_3 : w7.cell? ⟨gb388, 3, none⟩ = some (.slice A0_3 l0_3.length c0_3) := (zqe BK388.out 3).trans rfl
    have hfz13_0 := zqd BK388.out 0
    have hfz13_1 := zqd BK388.out 1
    have hfz13_2 := zqd BK388.out 2
    have hfz13_3 := zqd BK388.out 3
    have hcz14_0 : w7.cell? ⟨gb389, 0, none⟩ = some (.int .i64 a1_0) := (zqe BK389.out 0).trans rfl
    have hcz14_1 : w7.cell? ⟨gb389, 1, none⟩ = some (.int .i64 a1_1) := (zqe BK389.out 1).trans rfl
    have hcz14_2 : w7.cell? ⟨gb389, 2, none⟩ = some (.int .i64 a1_2) := (zqe BK389.out 2).trans rfl
    have hcz14_3 : w7.cell? ⟨gb389, 3, none⟩ = some (.slice A1_3 l1_3.length c1_3) := (zqe BK389.out 3).trans rfl
    have hfz14_0 := zqd BK389.out 0
    have hfz14_1 := zqd BK389.out 1
    have hfz14_2 := zqd BK389.out 2
    have hfz14_3 := zqd BK389.out 3
    go_wp2
    go_meet
    case rel => exact ⟨_, (decide ((l1_3.length : Int) > 100)), (by first | rfl | (simp; done) | (simp [*]; done)), H', ⟨by first | omega | exact Nat.le_refl _⟩, ⟨by (with_reducible repeat (first | apply zqa | apply zqb | apply zqc)); exact BK388.out⟩, ⟨by (with_reducible repeat (first | apply zqa | apply zqb | apply zqc)); exact BK389.out⟩, ⟨by repeat (first | (with_reducible first | exact HB.out | apply zqg | apply zqf | apply zqh | refine below_set ?_ GE388.out | refine below_set ?_ GE389.out) | exact HB.out)⟩⟩
  ·
   replace c8 := Bool.eq_false_iff.mpr c8
   subst c8
   have H1 : (haulierlaw05_InstPrints.j0 k false true a0_0 a0_1 a0_2 l0_3 a1_0 a1_1 a1_2 l1_3) = some r := by rw [if_neg (show ¬ (false = true) by decide)] at H; exact H
   clear H
   have H := H1
   clear H1
   have H' := zqi H
   clear H
   go_wp2
   go_meet
   case rel => exact ⟨_, (true), (by first | rfl | (simp; done) | (simp [*]; done)), H', ⟨by first | omega | exact Nat.le_refl _⟩, ⟨by (with_reducible repeat (first | apply zqa | apply zqb | apply zqc)); exact BK388.out⟩, ⟨by (with_reducible repeat (first | apply zqa | apply zqb | apply zqc)); exact BK389.out⟩, ⟨by repeat (first | (with_reducible first | exact HB.out | apply zqg | apply zqf | apply zqh | refine below_set ?_ GE388.out | refine below_set ?_ GE389.out) | exact HB.out)⟩⟩
 case rest =>
  clear HC4
  try clear c1
  try clear p2
  try clear c5
  try clear c8
  try clear c9
  try clear c9b0
  try clear c9b1
  try clear c10
  try clear c12
  try clear hcz11_0
  try clear hcz11_1
  try clear hcz11_2
  try clear hcz11_3
  try clear hcz13_0
  try clear hcz13_1
  try clear hcz13_2
  try clear hcz13_3
  try clear hcz14_0
  try clear hcz14_1
  try clear hcz14_2
  try clear hcz14_3
  try clear hfz11_0
  try clear hfz11_1
  try clear hfz11_2
  try clear hfz11_3
  try clear hfz13_0
  try clear hfz13_1
  try clear hfz13_2
  try clear hfz13_3
  try clear hfz14_0
  try clear hfz14_1
  try clear hfz14_2
  try clear hfz14_3
  obtain ⟨kq, x24_3, rfl, HA, HJ3, BK388, BK389, HB⟩ := hcut
  cases kq with
  | zero => exact absurd HA.out (by simp [haulierlaw05_InstPrints.j0])
  | succ kj3 =>
   have H := HA.out
   clear HA
   simp only [haulierlaw05_InstPrints.j0] at H
   by_cases c15 : x24_3 = true
   ·
    subst c15
    have H1 : (some t390) = some r := by rw [if_pos rfl] at H; exact H
    clear H
    have H := H1
    clear H1
    obtain rfl := Option.some.inj H
    go_wp2
    go_ret
    exact ⟨by first | rfl | (simp [errW_none, errW_some] <;> rfl) | (simp [*, errW_none, errW_some] <;> rfl), by repeat (first | (with_reducible first | exact HB.out | apply zqg | apply zqf | apply zqh | refine below_set ?_ GE388.out | refine below_set ?_ GE389.out) | exact HB.out)⟩
   ·
    replace c15 := Bool.eq_false_iff.mpr c15
    subst c15
    have H1 : ((inst_Print.f kj3 a0_0 a0_1 a0_2 l0_3).bind fun bt391 => ((haulierref05_Print.f kj3 a0_0 a0_1 a0_2 l0_3).bind fun bt395 => (if (strOfNums bt391.1).toList = (strOfNums bt395.1).toList then (if bt391.2 = bt395.2 then ((inst_May.f kj3 a0_0 a0_1 a0_2 l0_3).bind fun t399 => ((haulierref05_May.f kj3 a0_0 a0_1 a0_2 l0_3).bind fun t400 => (if (t399 == t400) = true then ((inst_Same.f kj3 a0_0 a0_1 a0_2 l0_3 a1_0 a1_1 a1_2 l1_3).bind fun t401 => ((haulierref05_Same.f kj3 a0_0 a0_1 a0_2 l0_3 a1_0 a1_1 a1_2 l1_3).bind fun t402 => (some (t401 == t402)))) else (none)))) else (none)) else (none)))) = some r := by rw [if_neg (show ¬ (false = true) by decide)] at H; exact H
    clear H
    have H := H1
    clear H1
    replace H := Option.bind_eq_some_iff.mp H
    obtain ⟨⟨t391, t394⟩, A160, H⟩ := H
    replace H : ((haulierref05_Print.f kj3 a0_0 a0_1 a0_2 l0_3).bind fun bt395 => (if (strOfNums t391).toList = (strOfNums bt395.1).toList then (if t394 = bt395.2 then ((inst_May.f kj3 a0_0 a0_1 a0_2 l0_3).bind fun t399 => ((haulierref05_May.f kj3 a0_0 a0_1 a0_2 l0_3).bind fun t400 => (if (t399 == t400) = true then ((inst_Same.f kj3 a0_0 a0_1 a0_2 l0_3 a1_0 a1_1 a1_2 l1_3).bind fun t401 => ((haulierref05_Same.f kj3 a0_0 a0_1 a0_2 l0_3 a1_0 a1_1 a1_2 l1_3).bind fun t402 => (some (t401 == t402)))) else (none)))) else (none)) else (none))) = some r := H
    have A16 := zqi A160
    clear A160
    replace H := Option.bind_eq_some_iff.mp H
    obtain ⟨⟨t395, t398⟩, A170, H⟩ := H
    replace H : (if (strOfNums t391).toList = (strOfNums t395).toList then (if t394 = t398 then ((inst_May.f kj3 a0_0 a0_1 a0_2 l0_3).bind fun t399 => ((haulierref05_May.f kj3 a0_0 a0_1 a0_2 l0_3).bind fun t400 => (if (t399 == t400) = true then ((inst_Same.f kj3 a0_0 a0_1 a0_2 l0_3 a1_0 a1_1 a1_2 l1_3).bind fun t401 => ((haulierref05_Same.f kj3 a0_0 a0_1 a0_2 l0_3 a1_0 a1_1 a1_2 l1_3).bind fun t402 => (some (t401 == t402)))) else (none)))) else (none)) else (none)) = some r := H
    have A17 := zqi A170
    clear A170
    by_cases c18 : (strOfNums t391).toList = (strOfNums t395).toList
    ·
     rw [if_pos c18] at H
     have c18b0 : ((strOfNums t391).toList == (strOfNums t395).toList) = true := beq_iff_eq.mpr c18
     have c18b1 : ((strOfNums t391).toList != (strOfNums t395).toList) = false := bne_eq_false_iff_eq.mpr c18
     clear c18
     by_cases c19 : t394 = t398
     ·
      rw [if_pos c19] at H
      have c19b0 : (t394 == t398) = true := beq_iff_eq.mpr c19
      have c19b1 : (t394 != t398) = false := bne_eq_false_iff_eq.mpr c19
      clear c19
      replace H := Option.bind_eq_some_iff.mp H
      obtain ⟨t399, A200, H⟩ := H
      replace H : ((haulierref05_May.f kj3 a0_0 a0_1 a0_2 l0_3).bind fun t400 => (if (t399 == t400) = true then ((inst_Same.f kj3 a0_0 a0_1 a0_2 l0_3 a1_0 a1_1 a1_2 l1_3).bind fun t401 => ((haulierref05_Same.f kj3 a0_0 a0_1 a0_2 l0_3 a1_0 a1_1 a1_2 l1_3).bind fun t402 => (some (t401 == t402)))) else (none))) = some r := H
      have A20 := zqi A200
      clear A200
      replace H := Option.bind_eq_some_iff.mp H
      obtain ⟨t400, A210, H⟩ := H
      replace H : (if (t399 == t400) = true then ((inst_Same.f kj3 a0_0 a0_1 a0_2 l0_3 a1_0 a1_1 a1_2 l1_3).bind fun t401 => ((haulierref05_Same.f kj3 a0_0 a0_1 a0_2 l0_3 a1_0 a1_1 a1_2 l1_3).bind fun t402 => (some (t401 == t402)))) else (none)) = some r := H
      have A21 := zqi A210
      clear A210
      by_cases c22 : (t399 == t400) = true
      ·
       rw [if_pos c22] at H
       have c22b0 : (t399 == t400) = true := c22
       (try (have c22b1 : decide (t399 = t400) = true := by simpa using c22))
       (try (have c22b2 : (t399 == t400) = true := by simpa using c22))
       clear c22
       replace H := Option.bind_eq_some_iff.mp H
       obtain ⟨t401, A230, H⟩ := H
       replace H : ((haulierref05_Same.f kj3 a0_0 a0_1 a0_2 l0_3 a1_0 a1_1 a1_2 l1_3).bind fun t402 => (some (t401 == t402))) = some r := H
       have A23 := zqi A230
       clear A230
       replace H := Option.bind_eq_some_iff.mp H
       obtain ⟨t402, A240, H⟩ := H
       replace H : (some (t401 == t402)) = some r := H
       have A24 := zqi A240
       clear A240
       obtain rfl := Option.some.inj H
       have hnb25 := NB388_389.out
       have hnc25 := NB389_388.out
       have hcz26_0 : wc.cell? ⟨gb388, 0, none⟩ = some (.int .i64 a0_0) := (zqe BK388.out 0).trans rfl
       have hcz26_1 : wc.cell? ⟨gb388, 1, none⟩ = some (.int .i64 a0_1) := (zqe BK388.out 1).trans rfl
       have hcz26_2 : wc.cell? ⟨gb388, 2, none⟩ = some (.int .i64 a0_2) := (zqe BK388.out 2).trans rfl
       have hcz26_3 : wc.cell? ⟨gb388, 3, none⟩ = some (.slice A0_3 l0_3.length c0_3) := (zqe BK388.out 3).trans rfl
       have hfz26_0 := zqd BK388.out 0
       have hfz26_1 := zqd BK388.out 1
       have hfz26_2 := zqd BK388.out 2
       have hfz26_3 := zqd BK388.out 3
       try go_wp2_with (first | ((with_reducible refine gate_callee (f := 14) rfl ?_); refine goesL_ (some 28) rfl rfl Tryd.func14 (by kernel_rfl) rfl #[.agg #[.int .i64 a0_0, .int .i64 a0_1, .int .i64 a0_2, .slice A0_3 l0_3.length c0_3]] rfl (by (try simp only [List.map_toArray, List.map_cons, List.map_nil]); first | done | rfl | (simp only [List.length_drop, List.length_take]; rfl)) ?_; (with_reducible refine (inst_Print.calls kj3 a0_0 a0_1 a0_2 _ _ l0_3 t391 t394 _ ?side1 ?side2 A16.out ?tab).mono ?_); (case tab => exact HT.out.on (by repeat (first | (with_reducible first | exact HB.out | apply zqg | apply zqf | apply zqh | refine below_set ?_ GE388.out | refine below_set ?_ GE389.out) | exact HB.out))); (case side1 => repeat (first | exact (Kd.C_below HR0_3.out HB.out) | (with_reducible refine Kd.C_alloc ?_ _) | (with_reducible refine Kd.C_drewN ?_ _) | (with_reducible refine Kd.C_drew ?_))); (case side2 => exact HC0_3.out); rintro e w27 ⟨v392, rfl, ho0, hb⟩; refine ⟨_, rfl, ?_⟩; have n0_ := zqi (Kd.R_lower ho0 (below_size (by repeat (first | (with_reducible first | exact HB.out | apply zqg | apply zqf | apply zqh | refine below_set ?_ GE388.out | refine below_set ?_ GE389.out) | exact HB.out)))); have n1_ := zqi (blk_below (g := gb388) (o := .cells #[.int .i64 a0_0, .int .i64 a0_1, .int .i64 a0_2, .slice A0_3 l0_3.length c0_3] 26 (0, 0)) (by (with_reducible repeat (first | apply zqa | apply zqb | apply zqc)); exact BK388.out) hb); have n2_ := zqi (blk_below (g := gb389) (o := .cells #[.int .i64 a1_0, .int .i64 a1_1, .int .i64 a1_2, .slice A1_3 l1_3.length c1_3] 26 (0, 0)) (by (with_reducible repeat (first | apply zqa | apply zqb | apply zqc)); exact BK389.out) hb); have n3_ := zqi (below_step (by repeat (first | (with_reducible first | exact HB.out | apply zqg | apply zqf | apply zqh | refine below_set ?_ GE388.out | refine below_set ?_ GE389.out) | exact HB.out)) hb); clear BK388; clear BK389; clear HB; have HO393 := n0_; have BK388 := n1_; have BK389 := n2_; have HB := n3_; clear n0_ n1_ n2_ n3_; (try clear hb); (try clear hb2); (try clear hk); (try clear hi); (try clear ho0); have hcz28_0 : w27.cell? ⟨gb388, 0, none⟩ = some (.int .i64 a0_0) := (zqe BK388.out 0).trans rfl; have hcz28_1 : w27.cell? ⟨gb388, 1, none⟩ = some (.int .i64 a0_1) := (zqe BK388.out 1).trans rfl; have hcz28_2 : w27.cell? ⟨gb388, 2, none⟩ = some (.int .i64 a0_2) := (zqe BK388.out 2).trans rfl; have hcz28_3 : w27.cell? ⟨gb388, 3, none⟩ = some (.slice A0_3 l0_3.length c0_3) := (zqe BK388.out 3).trans rfl; have hfz28_0 := zqd BK388.out 0; have hfz28_1 := zqd BK388.out 1; have hfz28_2 := zqd BK388.out 2; have hfz28_3 := zqd BK388.out 3) | ((with_reducible refine gate_callee (f := 15) rfl ?_); refine goesL_ (some 33) rfl rfl Tryd.func15 (by kernel_rfl) rfl #[.agg #[.int .i64 a0_0, .int .i64 a0_1, .int .i64 a0_2, .slice A0_3 l0_3.length c0_3]] rfl (by (try simp only [List.map_toArray, List.map_cons, List.map_nil]); first | done | rfl | (simp only [List.length_drop, List.length_take]; rfl)) ?_; (with_reducible refine (haulierref05_Print.calls kj3 a0_0 a0_1 a0_2 _ _ l0_3 t395 t398 _ ?side1 ?side2 A17.out).mono ?_); (case side1 => repeat (first | exact (Kd.C_below HR0_3.out HB.out) | (with_reducible refine Kd.C_alloc ?_ _) | (with_reducible refine Kd.C_drewN ?_ _) | (with_reducible refine Kd.C_drew ?_))); (case side2 => exact HC0_3.out); rintro e w29 ⟨v396, rfl, ho0, hb⟩; refine ⟨_, rfl, ?_⟩; have n0_ := zqi (Kd.R_elder' (by (with_reducible repeat (first | apply Kd.R_alloc | apply Kd.R_drewN | apply Kd.R_drew)); exact HO393.out) (Kd.R_base ho0) hb); have n1_ := zqi (Kd.R_lower (Kd.R_new' ho0 (Kd.R_lt (by (with_reducible repeat (first | apply Kd.R_alloc | apply Kd.R_drewN | apply Kd.R_drew)); exact HO393.out))) (below_size (by repeat (first | (with_reducible first | exact HB.out | apply zqg | apply zqf | apply zqh | refine below_set ?_ GE388.out | refine below_set ?_ GE389.out) | exact HB.out)))); have n2_ := zqi (blk_below (g := gb388) (o := .cells #[.int .i64 a0_0, .int .i64 a0_1, .int .i64 a0_2, .slice A0_3 l0_3.length c0_3] 26 (0, 0)) (by (with_reducible repeat (first | apply zqa | apply zqb | apply zqc)); exact BK388.out) hb); have n3_ := zqi (blk_below (g := gb389) (o := .cells #[.int .i64 a1_0, .int .i64 a1_1, .int .i64 a1_2, .slice A1_3 l1_3.length c1_3] 26 (0, 0)) (by (with_reducible repeat (first | apply zqa | apply zqb | apply zqc)); exact BK389.out) hb); have n4_ := zqi (below_step (by repeat (first | (with_reducible first | exact HB.out | apply zqg | apply zqf | apply zqh | refine below_set ?_ GE388.out | refine below_set ?_ GE389.out) | exact HB.out)) hb); clear HO393; clear BK388; clear BK389; clear HB; have HO393 := n0_; have HO397 := n1_; have BK388 := n2_; have BK389 := n3_; have HB := n4_; clear n0_ n1_ n2_ n3_ n4_; (try clear hb); (try clear hb2); (try clear hk); (try clear hi); (try clear ho0)))
       have n0_ := zqi (Kd.R_drew HO393.out)
       have n1_ := zqi (Kd.R_drew HO397.out)
       have n2_ := zqi (zqb BK388.out)
       have n3_ := zqi (zqb BK389.out)
       have n4_ := zqi (zqh HB.out)
       clear HO393
       clear HO397
       clear BK388
       clear BK389
       clear HB
       have HO393 := n0_
       have HO397 := n1_
       have BK388 := n2_
       have BK389 := n3_
       have HB := n4_
       clear n0_ n1_ n2_ n3_ n4_
       have hcv31 := own_string (P := Tryd.prog) Tryd.underlying22 Tryd.underlying5 Tryd.underlying9 (Kd.own_of_R HO393.out)
       have hcv32 := own_string (P := Tryd.prog) Tryd.underlying22 Tryd.underlying5 Tryd.underlying9 (Kd.own_of_R HO397.out)
       refine start_ (n := 27) (S := fun w' => w'.ownsRow w.heap.size 5 1 v396 t395.length (encs (Value.int .u8) t395) ∧ w'.ownsRow w.heap.size 5 1 v392 t391.length (encs (Value.int .u8) t391) ∧ w'.cell? ⟨gb388, 0, none⟩ = some (.int .i64 a0_0) ∧ w'.cell? ⟨gb388, 1, none⟩ = some (.int .i64 a0_1) ∧ w'.cell? ⟨gb388, 2, none⟩ = some (.int .i64 a0_2) ∧ w'.cell? ⟨gb388, 3, none⟩ = some (.slice A0_3 l0_3.length c0_3) ∧ w'.cell? ⟨gb389, 0, none⟩ = some (.int .i64 a1_0) ∧ w'.cell? ⟨gb389, 1, none⟩ = some (.int .i64 a1_1) ∧ w'.cell? ⟨gb389, 2, none⟩ = some (.int .i64 a1_2) ∧ w'.cell? ⟨gb389, 3, none⟩ = some (.slice A1_3 l1_3.length c1_3)) (ds := []) #[false, false, false, false, false, false, false, false, false, false, false, false, false, false, false, false, false, false, false, false, false, false, false, false, false, false, false] (by kernel_rfl) rfl rfl ⟨Kd.own_of_R HO397.out, Kd.own_of_R HO393.out, (zqe BK388.out 0).trans rfl, (zqe BK388.out 1).trans rfl, (zqe BK388.out 2).trans rfl, (zqe BK388.out 3).trans rfl, (zqe BK389.out 0).trans rfl, (zqe BK389.out 1).trans rfl, (zqe BK389.out 2).trans rfl, (zqe BK389.out 3).trans rfl⟩ (fun hHeld => ?_); refine with_tabW haulierlaw05_InstPrints.tab6 haulierlaw05_InstPrints.bits6 (fun HT_ HW_ => ?_)
       generalize w29.drew = w30 at HO393 HO397 BK388 BK389 HB hHeld ⊢
       refine pure_ (i := 0) (N := some 36) (v := ?_) (a' := ?_) #[true, false, false, false, false, false, false, false, false, false, false, false, false, false, false, false, false, false, false, false, false, false, false, false, false, false, false] rfl rfl (any_of HT_.out (by kernel_rfl)) (fun _ _ _ h => h) (Or.inl ⟨by rfl, ?_⟩) ?_ ?_
       rotate_left
       ·
        intro w'
        go_simp
        with_reducible rfl
       rotate_left
       ·
        simp only [Act.put, List.setIfInBounds_toArray, List.set_cons_zero, List.set_cons_succ, i64_w, i32_w]
        rfl
       refine take_ (i := 1) (N := some 37) (v := ?_) (a' := ?_) #[true, true, false, false, false, false, false, false, false, false, false, false, false, false, false, false, false, false, false, false, false, false, false, false, false, false, false] rfl rfl (take_of HT_.out (by kernel_rfl)) (fun _ _ _ h => h) (Or.inl ⟨by rfl, ?_⟩) hHeld ?_ ?_
       rotate_left
       ·
        intro w' hS_
        have hcv_ := own_string (P := Tryd.prog) Tryd.underlying22 Tryd.underlying5 Tryd.underlying9 hS_.2.1
        go_simp
        with_reducible rfl
       rotate_left
       ·
        simp only [Act.put, List.setIfInBounds_toArray, List.set_cons_zero, List.set_cons_succ, i64_w, i32_w]
        rfl
       refine pure_ (i := 2) (N := some 38) (v := ?_) (a' := ?_) #[true, true, true, false, false, false, false, false, false, false, false, false, false, false, false, false, false, false, false, false, false, false, false, false, false, false, false] rfl rfl (any_of HT_.out (by kernel_rfl)) (fun _ _ _ h => h) (Or.inl ⟨by rfl, ?_⟩) ?_ ?_
       rotate_left
       ·
        intro w'
        go_simp
        with_reducible rfl
       rotate_left
       ·
        simp only [Act.put, List.setIfInBounds_toArray, List.set_cons_zero, List.set_cons_succ, i64_w, i32_w]
        rfl
       refine take_ (i := 3) (N := some 39) (v := ?_) (a' := ?_) #[true, true, true, true, false, false, false, false, false, false, false, false, false, false, false, false, false, false, false, false, false, false, false, false, false, false, false] rfl rfl (take_of HT_.out (by kernel_rfl)) (fun _ _ _ h => h) (Or.inl ⟨by rfl, ?_⟩) hHeld ?_ ?_
       rotate_left
       ·
        intro w' hS_
        have hcv_ := own_string (P := Tryd.prog) Tryd.underlying22 Tryd.underlying5 Tryd.underlying9 hS_.1
        go_simp
        with_reducible rfl
       rotate_left
       ·
        simp only [Act.put, List.setIfInBounds_toArray, List.set_cons_zero, List.set_cons_succ, i64_w, i32_w]
        rfl
       refine pure_ (i := 4) (N := some 40) (v := ?_) (a' := ?_) #[true, true, true, true, true, false, false, false, false, false, false, false, false, false, false, false, false, false, false, false, false, false, false, false, false, false, false] rfl rfl (any_of HT_.out (by kernel_rfl)) (fun _ _ _ h => h) (Or.inl ⟨by rfl, ?_⟩) ?_ ?_
       rotate_left
       ·
        intro w'
        go_simp
        with_reducible rfl
       rotate_left
       ·
        simp only [Act.put, List.setIfInBounds_toArray, List.set_cons_zero, List.set_cons_succ, i64_w, i32_w]
        rfl
       refine pure_ (i := 5) (N := some 41) (v := ?_) (a' := ?_) #[true, true, true, true, true, true, false, false, false, false, false, false, false, false, false, false, false, false, false, false, false, false, false, false, false, false, false] rfl rfl (any_of HT_.out (by kernel_rfl)) (fun _ _ _ h => h) (Or.inl ⟨by rfl, ?_⟩) ?_ ?_
       rotate_left
       ·
        intro w'
        go_simp
        with_reducible rfl
       rotate_left
       ·
        simp only [Act.put, List.setIfInBounds_toArray, List.set_cons_zero, List.set_cons_succ, i64_w, i32_w]
        rfl
       refine pure_ (i := 6) (N := some 42) (v := ?_) (a' := ?_) #[true, true, true, true, true, true, true, false, false, false, false, false, false, false, false, false, false, false, false, false, false, false, false, false, false, false, false] rfl rfl (any_of HT_.out (by kernel_rfl)) (fun _ _ _ h => h) (Or.inl ⟨by rfl, ?_⟩) ?_ ?_
       rotate_left
       ·
        intro w'
        go_simp
        with_reducible rfl
       rotate_left
       ·
        simp only [Act.put, List.setIfInBounds_toArray, List.set_cons_zero, List.set_cons_succ, i64_w, i32_w]
        rfl
       refine pure_ (i := 7) (N := some 43) (v := ?_) (a' := ?_) #[true, true, true, true, true, true, true, true, false, false, false, false, false, false, false, false, false, false, false, false, false, false, false, false, false, false, false] rfl rfl (any_of HT_.out (by kernel_rfl)) (fun _ _ _ h => h) (Or.inl ⟨by rfl, ?_⟩) ?_ ?_
       rotate_left
       ·
        intro w'
        go_simp
        with_reducible rfl
       rotate_left
       ·
        simp only [Act.put, List.setIfInBounds_toArray, List.set_cons_zero, List.set_cons_succ, i64_w, i32_w]
        rfl
       refine pure_ (i := 8) (N := some 44) (v := ?_) (a' := ?_) #[true, true, true, true, true, true, true, true, true, false, false, false, false, false, false, false, false, false, false, false, false, false, false, false, false, false, false] rfl rfl (any_of HT_.out (by kernel_rfl)) (fun _ _ _ h => h) (Or.inl ⟨by rfl, ?_⟩) ?_ ?_
       rotate_left
       ·
        intro w'
        go_simp
        with_reducible rfl
       rotate_left
       ·
        simp only [Act.put, List.setIfInBounds_toArray, List.set_cons_zero, List.set_cons_succ, i64_w, i32_w]
        rfl
       refine pure_ (i := 9) (N := some 45) (v := ?_) (a' := ?_) #[true, true, true, true, true, true, true, true, true, true, false, false, false, false, false, false, false, false, false, false, false, false, false, false, false, false, false] rfl rfl (any_of HT_.out (by kernel_rfl)) (fun _ _ _ h => h) (Or.inl ⟨by rfl, ?_⟩) ?_ ?_
       rotate_left
       ·
        intro w'
        go_simp
        with_reducible rfl
       rotate_left
       ·
        simp only [Act.put, List.setIfInBounds_toArray, List.set_cons_zero, List.set_cons_succ, i64_w, i32_w]
        rfl
       refine pure_ (i := 10) (N := some 46) (v := ?_) (a' := ?_) #[true, true, true, true, true, true, true, true, true, true, true, false, false, false, false, false, false, false, false, false, false, false, false, false, false, false, false] rfl rfl (any_of HT_.out (by kernel_rfl)) (fun _ _ _ h => h) (Or.inl ⟨by rfl, ?_⟩) ?_ ?_
       rotate_left
       ·
        intro w'
        go_simp
        with_reducible rfl
       rotate_left
       ·
        simp only [Act.put, List.setIfInBounds_toArray, List.set_cons_zero, List.set_cons_succ, i64_w, i32_w]
        rfl
       refine take_ (i := 11) (N := some 47) (v := ?_) (a' := ?_) #[true, true, true, true, true, true, true, true, true, true, true, true, false, false, false, false, false, false, false, false, false, false, false, false, false, false, false] rfl rfl (take_ofW HT_.out HW_.out (by kernel_rfl)) (fun _ _ _ h => h) (Or.inl ⟨by rfl, ?_⟩) hHeld ?_ ?_
       rotate_left
       ·
        rintro w' ⟨-, -, s0, s1, s2, s3, s4, s5, s6, s7⟩
        go_simp
        with_reducible rfl
       rotate_left
       ·
        simp only [Act.put, List.setIfInBounds_toArray, List.set_cons_zero, List.set_cons_succ, i64_w, i32_w]
        rfl
       refine take_ (i := 13) (N := some 49) (v := ?_) (a' := ?_) #[true, true, true, true, true, true, true, true, true, true, true, true, false, true, false, false, false, false, false, false, false, false, false, false, false, false, false] rfl rfl (take_ofW HT_.out HW_.out (by kernel_rfl)) (fun _ _ _ h => h) (Or.inl ⟨by rfl, ?_⟩) hHeld ?_ ?_
       rotate_left
       ·
        rintro w' ⟨-, -, s0, s1, s2, s3, s4, s5, s6, s7⟩
        go_simp
        with_reducible rfl
       rotate_left
       ·
        simp only [Act.put, List.setIfInBounds_toArray, List.set_cons_zero, List.set_cons_succ, i64_w, i32_w]
        rfl
       refine one_ (i := 12) (N := some 48) #[true, true, true, true, true, true, true, true, true, true, true, true, true, true, false, false, false, false, false, false, false, false, false, false, false, false, false] rfl rfl (one_of HT_.out (by kernel_rfl)) (by decide) (fun K hK => ?_)
       refine goes_ Tryd.func13 (by kernel_rfl) rfl #[.agg #[.int .i64 a0_0, .int .i64 a0_1, .int .i64 a0_2, .slice A0_3 l0_3.length c0_3]] (by rfl) rfl rfl (by (try simp only [List.map_toArray, List.map_cons, List.map_nil]); first | done | rfl | (simp only [List.length_drop, List.length_take]; rfl)) ?_
       with_reducible refine (inst_May.calls kj3 a0_0 a0_1 a0_2 _ _ l0_3 t399 _ ?side1 ?side2 A20.out).mono ?_
       (case side1 => repeat (first | exact (Kd.C_below HR0_3.out HB.out) | (with_reducible refine Kd.C_alloc ?_ _) | (with_reducible refine Kd.C_drewN ?_ _) | (with_reducible refine Kd.C_drew ?_)))
       (case side2 => exact HC0_3.out)
       rintro e w34 ⟨rfl, hb⟩
       refine ⟨_, rfl, ?_⟩
       have n0_ := zqi (Kd.R_below (by (with_reducible repeat (first | apply Kd.R_alloc | apply Kd.R_drewN | apply Kd.R_drew)); exact HO393.out) hb)
       have n1_ := zqi (Kd.R_below (by (with_reducible repeat (first | apply Kd.R_alloc | apply Kd.R_drewN | apply Kd.R_drew)); exact HO397.out) hb)
       have n2_ := zqi (blk_below (g := gb388) (o := .cells #[.int .i64 a0_0, .int .i64 a0_1, .int .i64 a0_2, .slice A0_3 l0_3.length c0_3] 26 (0, 0)) (by (with_reducible repeat (first | apply zqa | apply zqb | apply zqc)); exact BK388.out) hb)
       have n3_ := zqi (blk_below (g := gb389) (o := .cells #[.int .i64 a1_0, .int .i64 a1_1, .int .i64 a1_2, .slice A1_3 l1_3.length c1_3] 26 (0, 0)) (by (with_reducible repeat (first | apply zqa | apply zqb | apply zqc)); exact BK389.out) hb)
       have n4_ := zqi (below_step (by repeat (first | (with_reducible first | exact HB.out | apply zqg | apply zqf | apply zqh | refine below_set ?_ GE388.out | refine below_set ?_ GE389.out) | exact HB.out)) hb)
       clear HO393
       clear HO397
       clear BK388
       clear BK389
       clear HB
       have HO393 := n0_
       have HO397 := n1_
       have BK388 := n2_
       have BK389 := n3_
       have HB := n4_
       clear n0_ n1_ n2_ n3_ n4_
       (try clear hb)
       (try clear hb2)
       (try clear hk)
       (try clear hi)
       refine hK.out _ _ ⟨Kd.own_of_R HO397.out, Kd.own_of_R HO393.out, (zqe BK388.out 0).trans rfl, (zqe BK388.out 1).trans rfl, (zqe BK388.out 2).trans rfl, (zqe BK388.out 3).trans rfl, (zqe BK389.out 0).trans rfl, (zqe BK389.out 1).trans rfl, (zqe BK389.out 2).trans rfl, (zqe BK389.out 3).trans rfl⟩ (fun hHeld => ?_)
       clear hK K
       refine norm_ (a' := ?_) ?_ ?_
       rotate_left
       ·
        show Act.put _ (some 48) _ = _
        simp only [Act.put, List.setIfInBounds_toArray, List.set_cons_zero, List.set_cons_succ, i64_w, i32_w]
        rfl
       refine one_ (i := 14) (N := some 50) #[true, true, true, true, true, true, true, true, true, true, true, true, true, true, true, false, false, false, false, false, false, false, false, false, false, false, false] rfl rfl (one_of HT_.out (by kernel_rfl)) (by decide) (fun K hK => ?_)
       refine goes_ Tryd.func16 (by kernel_rfl) rfl #[.agg #[.int .i64 a0_0, .int .i64 a0_1, .int .i64 a0_2, .slice A0_3 l0_3.length c0_3]] (by rfl) rfl rfl (by (try simp only [List.map_toArray, List.map_cons, List.map_nil]); first | done | rfl | (simp only [List.length_drop, List.length_take]; rfl)) ?_
       with_reducible refine (haulierref05_May.calls kj3 a0_0 a0_1 a0_2 _ _ l0_3 t400 _ ?side1 ?side2 A21.out).mono ?_
       (case side1 => repeat (first | exact (Kd.C_below HR0_3.out HB.out) | (with_reducible refine Kd.C_alloc ?_ _) | (with_reducible refine Kd.C_drewN ?_ _) | (with_reducible refine Kd.C_drew ?_)))
       (case side2 => exact HC0_3.out)
       rintro e w35 ⟨rfl, hb⟩
       refine ⟨_, rfl, ?_⟩
       have n0_ := zqi (Kd.R_below (by (with_reducible repeat (first | apply Kd.R_alloc | apply Kd.R_drewN | apply Kd.R_drew)); exact HO393.out) hb)
       have n1_ := zqi (Kd.R_below (by (with_reducible repeat (first | apply Kd.R_alloc | apply Kd.R_drewN | apply Kd.R_drew)); exact HO397.out) hb)
       have n2_ := zqi (blk_below (g := gb388) (o := .cells #[.int .i64 a0_0, .int .i64 a0_1, .int .i64 a0_2, .slice A0_3 l0_3.length c0_3] 26 (0, 0)) (by (with_reducible repeat (first | apply zqa | apply zqb | apply zqc)); exact BK388.out) hb)
       have n3_ := zqi (blk_below (g := gb389) (o := .cells #[.int .i64 a1_0, .int .i64 a1_1, .int .i64 a1_2, .slice A1_3 l1_3.length c1_3] 26 (0, 0)) (by (with_reducible repeat (first | apply zqa | apply zqb | apply zqc)); exact BK389.out) hb)
       have n4_ := zqi (below_step (by repeat (first | (with_reducible first | exact HB.out | apply zqg | apply zqf | apply zqh | refine below_set ?_ GE388.out | refine below_set ?_ GE389.out) | exact HB.out)) hb)
       clear HO393
       clear HO397
       clear BK388
       clear BK389
       clear HB
       have HO393 := n0_
       have HO397 := n1_
       have BK388 := n2_
       have BK389 := n3_
       have HB := n4_
       clear n0_ n1_ n2_ n3_ n4_
       (try clear hb)
       (try clear hb2)
       (try clear hk)
       (try clear hi)
       refine hK.out _ _ ⟨Kd.own_of_R HO397.out, Kd.own_of_R HO393.out, (zqe BK388.out 0).trans rfl, (zqe BK388.out 1).trans rfl, (zqe BK388.out 2).trans rfl, (zqe BK388.out 3).trans rfl, (zqe BK389.out 0).trans rfl, (zqe BK389.out 1).trans rfl, (zqe BK389.out 2).trans rfl, (zqe BK389.out 3).trans rfl⟩ (fun hHeld => ?_)
       clear hK K
       refine norm_ (a' := ?_) ?_ ?_
       rotate_left
       ·
        show Act.put _ (some 50) _ = _
        simp only [Act.put, List.setIfInBounds_toArray, List.set_cons_zero, List.set_cons_succ, i64_w, i32_w]
        rfl
       refine pure_ (i := 15) (N := some 51) (v := ?_) (a' := ?_) #[true, true, true, true, true, true, true, true, true, true, true, true, true, true, true, true, false, false, false, false, false, false, false, false, false, false, false] rfl rfl (any_of HT_.out (by kernel_rfl)) (fun _ _ _ h => h) (Or.inl ⟨by rfl, ?_⟩) ?_ ?_
       rotate_left
       ·
        intro w'
        go_simp
        with_reducible rfl
       rotate_left
       ·
        simp only [Act.put, List.setIfInBounds_toArray, List.set_cons_zero, List.set_cons_succ, i64_w, i32_w]
        rfl
       refine pure_ (i := 16) (N := some 52) (v := ?_) (a' := ?_) #[true, true, true, true, true, true, true, true, true, true, true, true, true, true, true, true, true, false, false, false, false, false, false, false, false, false, false] rfl rfl (any_of HT_.out (by kernel_rfl)) (fun _ _ _ h => h) (Or.inl ⟨by rfl, ?_⟩) ?_ ?_
       rotate_left
       ·
        intro w'
        go_simp
        with_reducible rfl
       rotate_left
       ·
        simp only [Act.put, List.setIfInBounds_toArray, List.set_cons_zero, List.set_cons_succ, i64_w, i32_w]
        rfl
       refine pure_ (i := 17) (N := some 53) (v := ?_) (a' := ?_) #[true, true, true, true, true, true, true, true, true, true, true, true, true, true, true, true, true, true, false, false, false, false, false, false, false, false, false] rfl rfl (any_of HT_.out (by kernel_rfl)) (fun _ _ _ h => h) (Or.inl ⟨by rfl, ?_⟩) ?_ ?_
       rotate_left
       ·
        intro w'
        go_simp
        with_reducible rfl
       rotate_left
       ·
        simp only [Act.put, List.setIfInBounds_toArray, List.set_cons_zero, List.set_cons_succ, i64_w, i32_w]
        rfl
       refine take_ (i := 18) (N := some 54) (v := ?_) (a' := ?_) #[true, true, true, true, true, true, true, true, true, true, true, true, true, true, true, true, true, true, true, false, false, false, false, false, false, false, false] rfl rfl (take_ofW HT_.out HW_.out (by kernel_rfl)) (fun _ _ _ h => h) (Or.inl ⟨by rfl, ?_⟩) hHeld ?_ ?_
       rotate_left
       ·
        rintro w' ⟨-, -, s0, s1, s2, s3, s4, s5, s6, s7⟩
        go_simp
        with_reducible rfl
       rotate_left
       ·
        simp only [Act.put, List.setIfInBounds_toArray, List.set_cons_zero, List.set_cons_succ, i64_w, i32_w]
        rfl
       refine take_ (i := 19) (N := some 55) (v := ?_) (a' := ?_) #[true, true, true, true, true, true, true, true, true, true, true, true, true, true, true, true, true, true, true, true, false, false, false, false, false, false, false] rfl rfl (take_ofW HT_.out HW_.out (by kernel_rfl)) (fun _ _ _ h => h) (Or.inl ⟨by rfl, ?_⟩) hHeld ?_ ?_
       rotate_left
       ·
        rintro w' ⟨-, -, s0, s1, s2, s3, s4, s5, s6, s7⟩
        go_simp
        with_reducible rfl
       rotate_left
       ·
        simp only [Act.put, List.setIfInBounds_toArray, List.set_cons_zero, List.set_cons_succ, i64_w, i32_w]
        rfl
       refine take_ (i := 21) (N := some 57) (v := ?_) (a' := ?_) #[true, true, true, true, true, true, true, true, true, true, true, true, true, true, true, true, true, true, true, true, false, true, false, false, false, false, false] rfl rfl (take_ofW HT_.out HW_.out (by kernel_rfl)) (fun _ _ _ h => h) (Or.inl ⟨by rfl, ?_⟩) hHeld ?_ ?_
       rotate_left
       ·
        rintro w' ⟨-, -, s0, s1, s2, s3, s4, s5, s6, s7⟩
        go_simp
        with_reducible rfl
       rotate_left
       ·
        simp only [Act.put, List.setIfInBounds_toArray, List.set_cons_zero, List.set_cons_succ, i64_w, i32_w]
        rfl
       refine take_ (i := 22) (N := some 58) (v := ?_) (a' := ?_) #[true, true, true, true, true, true, true, true, true, true, true, true, true, true, true, true, true, true, true, true, false, true, true, false, false, false, false] rfl rfl (take_ofW HT_.out HW_.out (by kernel_rfl)) (fun _ _ _ h => h) (Or.inl ⟨by rfl, ?_⟩) hHeld ?_ ?_
       rotate_left
       ·
        rintro w' ⟨-, -, s0, s1, s2, s3, s4, s5, s6, s7⟩
        go_simp
        with_reducible rfl
       rotate_left
       ·
        simp only [Act.put, List.setIfInBounds_toArray, List.set_cons_zero, List.set_cons_succ, i64_w, i32_w]
        rfl
       refine one_ (i := 20) (N := some 56) #[true, true, true, true, true, true, true, true, true, true, true, true, true, true, true, true, true, true, true, true, true, true, true, false, false, false, false] rfl rfl (one_of HT_.out (by kernel_rfl)) (by decide) (fun K hK => ?_)
       refine goes_ Tryd.func17 (by kernel_rfl) rfl #[.agg #[.int .i64 a0_0, .int .i64 a0_1, .int .i64 a0_2, .slice A0_3 l0_3.length c0_3], .agg #[.int .i64 a1_0, .int .i64 a1_1, .int .i64 a1_2, .slice A1_3 l1_3.length c1_3]] (by rfl) rfl rfl (by (try simp only [List.map_toArray, List.map_cons, List.map_nil]); first | done | rfl | (simp only [List.length_drop, List.length_take]; rfl)) ?_
       with_reducible refine (inst_Same.calls kj3 a0_0 a0_1 a0_2 _ _ l0_3 a1_0 a1_1 a1_2 _ _ l1_3 t401 _ ?side1 ?side2 ?side3 ?side4 A23.out).mono ?_
       (case side1 => repeat (first | exact (Kd.C_below HR0_3.out HB.out) | (with_reducible refine Kd.C_alloc ?_ _) | (with_reducible refine Kd.C_drewN ?_ _) | (with_reducible refine Kd.C_drew ?_)))
       (case side2 => exact HC0_3.out)
       (case side3 => repeat (first | exact (Kd.C_below HR1_3.out HB.out) | (with_reducible refine Kd.C_alloc ?_ _) | (with_reducible refine Kd.C_drewN ?_ _) | (with_reducible refine Kd.C_drew ?_)))
       (case side4 => exact HC1_3.out)
       rintro e w36 ⟨rfl, hb⟩
       refine ⟨_, rfl, ?_⟩
       have n0_ := zqi (Kd.R_below (by (with_reducible repeat (first | apply Kd.R_alloc | apply Kd.R_drewN | apply Kd.R_drew)); exact HO393.out) hb)
       have n1_ := zqi (Kd.R_below (by (with_reducible repeat (first | apply Kd.R_alloc | apply Kd.R_drewN | apply Kd.R_drew)); exact HO397.out) hb)
       have n2_ := zqi (blk_below (g := gb388) (o := .cells #[.int .i64 a0_0, .int .i64 a0_1, .int .i64 a0_2, .slice A0_3 l0_3.length c0_3] 26 (0, 0)) (by (with_reducible repeat (first | apply zqa | apply zqb | apply zqc)); exact BK388.out) hb)
       have n3_ := zqi (blk_below (g := gb389) (o := .cells #[.int .i64 a1_0, .int .i64 a1_1, .int .i64 a1_2, .slice A1_3 l1_3.length c1_3] 26 (0, 0)) (by (with_reducible repeat (first | apply zqa | apply zqb | apply zqc)); exact BK389.out) hb)
       have n4_ := zqi (below_step (by repeat (first | (with_reducible first | exact HB.out | apply zqg | apply zqf | apply zqh | refine below_set ?_ GE388.out | refine below_set ?_ GE389.out) | exact HB.out)) hb)
       clear HO393
       clear HO397
       clear BK388
       clear BK389
       clear HB
       have HO393 := n0_
       have HO397 := n1_
       have BK388 := n2_
       have BK389 := n3_
       have HB := n4_
       clear n0_ n1_ n2_ n3_ n4_
       (try clear hb)
       (try clear hb2)
       (try clear hk)
       (try clear hi)
       refine hK.out _ _ ⟨Kd.own_of_R HO397.out, Kd.own_of_R HO393.out, (zqe BK388.out 0).trans rfl, (zqe BK388.out 1).trans rfl, (zqe BK388.out 2).trans rfl, (zqe BK388.out 3).trans rfl, (zqe BK389.out 0).trans rfl, (zqe BK389.out 1).trans rfl, (zqe BK389.out 2).trans rfl, (zqe BK389.out 3).trans rfl⟩ (fun hHeld => ?_)
       clear hK K
       refine norm_ (a' := ?_) ?_ ?_
       rotate_left
       ·
        show Act.put _ (some 56) _ = _
        simp only [Act.put, List.setIfInBounds_toArray, List.set_cons_zero, List.set_cons_succ, i64_w, i32_w]
        rfl
       refine one_ (i := 23) (N := some 59) #[true, true, true, true, true, true, true, true, true, true, true, true, true, true, true, true, true, true, true, true, true, true, true, true, false, false, false] rfl rfl (one_of HT_.out (by kernel_rfl)) (by decide) (fun K hK => ?_)
       refine goes_ Tryd.func12 (by kernel_rfl) rfl #[.agg #[.int .i64 a0_0, .int .i64 a0_1, .int .i64 a0_2, .slice A0_3 l0_3.length c0_3], .agg #[.int .i64 a1_0, .int .i64 a1_1, .int .i64 a1_2, .slice A1_3 l1_3.length c1_3]] (by rfl) rfl rfl (by (try simp only [List.map_toArray, List.map_cons, List.map_nil]); first | done | rfl | (simp only [List.length_drop, List.length_take]; rfl)) ?_
       with_reducible refine (haulierref05_Same.calls kj3 a0_0 a0_1 a0_2 _ _ l0_3 a1_0 a1_1 a1_2 _ _ l1_3 t402 _ ?side1 ?side2 ?side3 ?side4 A24.out).mono ?_
       (case side1 => repeat (first | exact (Kd.C_below HR0_3.out HB.out) | (with_reducible refine Kd.C_alloc ?_ _) | (with_reducible refine Kd.C_drewN ?_ _) | (with_reducible refine Kd.C_drew ?_)))
       (case side2 => exact HC0_3.out)
       (case side3 => repeat (first | exact (Kd.C_below HR1_3.out HB.out) | (with_reducible refine Kd.C_alloc ?_ _) | (with_reducible refine Kd.C_drewN ?_ _) | (with_reducible refine Kd.C_drew ?_)))
       (case side4 => exact HC1_3.out)
       rintro e w37 ⟨rfl, hb⟩
       refine ⟨_, rfl, ?_⟩
       have n0_ := zqi (Kd.R_below (by (with_reducible repeat (first | apply Kd.R_alloc | apply Kd.R_drewN | apply Kd.R_drew)); exact HO393.out) hb)
       have n1_ := zqi (Kd.R_below (by (with_reducible repeat (first | apply Kd.R_alloc | apply Kd.R_drewN | apply Kd.R_drew)); exact HO397.out) hb)
       have n2_ := zqi (blk_below (g := gb388) (o := .cells #[.int .i64 a0_0, .int .i64 a0_1, .int .i64 a0_2, .slice A0_3 l0_3.length c0_3] 26 (0, 0)) (by (with_reducible repeat (first | apply zqa | apply zqb | apply zqc)); exact BK388.out) hb)
       have n3_ := zqi (blk_below (g := gb389) (o := .cells #[.int .i64 a1_0, .int .i64 a1_1, .int .i64 a1_2, .slice A1_3 l1_3.length c1_3] 26 (0, 0)) (by (with_reducible repeat (first | apply zqa | apply zqb | apply zqc)); exact BK389.out) hb)
       have n4_ := zqi (below_step (by repeat (first | (with_reducible first | exact HB.out | apply zqg | apply zqf | apply zqh | refine below_set ?_ GE388.out | refine below_set ?_ GE389.out) | exact HB.out)) hb)
       clear HO393
       clear HO397
       clear BK388
       clear BK389
       clear HB
       have HO393 := n0_
       have HO397 := n1_
       have BK388 := n2_
       have BK389 := n3_
       have HB := n4_
       clear n0_ n1_ n2_ n3_ n4_
       (try clear hb)
       (try clear hb2)
       (try clear hk)
       (try clear hi)
       refine hK.out _ _ ⟨Kd.own_of_R HO397.out, Kd.own_of_R HO393.out, (zqe BK388.out 0).trans rfl, (zqe BK388.out 1).trans rfl, (zqe BK388.out 2).trans rfl, (zqe BK388.out 3).trans rfl, (zqe BK389.out 0).trans rfl, (zqe BK389.out 1).trans rfl, (zqe BK389.out 2).trans rfl, (zqe BK389.out 3).trans rfl⟩ (fun hHeld => ?_)
       clear hK K
       refine norm_ (a' := ?_) ?_ ?_
       rotate_left
       ·
        show Act.put _ (some 59) _ = _
        simp only [Act.put, List.setIfInBounds_toArray, List.set_cons_zero, List.set_cons_succ, i64_w, i32_w]
        rfl
       refine pure_ (i := 24) (N := some 60) (v := ?_) (a' := ?_) #[true, true, true, true, true, true, true, true, true, true, true, true, true, true, true, true, true, true, true, true, true, true, true, true, true, false, false] rfl rfl (any_of HT_.out (by kernel_rfl)) (fun _ _ _ h => h) (Or.inl ⟨by rfl, ?_⟩) ?_ ?_
       rotate_left
       ·
        intro w'
        go_simp
        with_reducible rfl
       rotate_left
       ·
        simp only [Act.put, List.setIfInBounds_toArray, List.set_cons_zero, List.set_cons_succ, i64_w, i32_w]
        rfl
       refine pure_ (i := 25) (N := some 61) (v := ?_) (a' := ?_) #[true, true, true, true, true, true, true, true, true, true, true, true, true, true, true, true, true, true, true, true, true, true, true, true, true, true, false] rfl rfl (any_of HT_.out (by kernel_rfl)) (fun _ _ _ h => h) (Or.inl ⟨by rfl, ?_⟩) ?_ ?_
       rotate_left
       ·
        intro w'
        go_simp
        with_reducible rfl
       rotate_left
       ·
        simp only [Act.put, List.setIfInBounds_toArray, List.set_cons_zero, List.set_cons_succ, i64_w, i32_w]
        rfl
       refine pure_ (i := 26) (N := some 4) (v := ?_) (a' := ?_) #[true, true, true, true, true, true, true, true, true, true, true, true, true, true, true, true, true, true, true, true, true, true, true, true, true, true, true] rfl rfl (any_of HT_.out (by kernel_rfl)) (fun _ _ _ h => h) (Or.inl ⟨by rfl, ?_⟩) ?_ ?_
       rotate_left
       ·
        intro w'
        go_simp
        with_reducible rfl
       rotate_left
       ·
        simp only [Act.put, List.setIfInBounds_toArray, List.set_cons_zero, List.set_cons_succ, i64_w, i32_w]
        rfl
       refine done_ (done_of HT_.out (by kernel_rfl)) ?_
       try go_wp2
       go_ret
       exact ⟨by first | rfl | (simp [errW_none, errW_some] <;> rfl) | (simp [*, errW_none, errW_some] <;> rfl), by repeat (first | (with_reducible first | exact HB.out | apply zqg | apply zqf | apply zqh | refine below_set ?_ GE388.out | refine below_set ?_ GE389.out) | exact HB.out)⟩
      ·
       rw [if_neg c22] at H
       have c22b0 : (t399 == t400) = false := by simpa using c22
       (try (have c22b1 : decide (t399 = t400) = false := by simpa using c22))
       (try (have c22b2 : (t399 == t400) = false := by simpa using c22))
       (try (have c22b3 : ¬ (t399 = t400) := by simpa using c22))
       clear c22
       exact absurd H (by simp)
     ·
      rw [if_neg c19] at H
      have c19b0 : (t394 == t398) = false := beq_eq_false_iff_ne.mpr c19
      have c19b1 : (t394 != t398) = true := bne_iff_ne.mpr c19
      exact absurd H (by simp)
    ·
     rw [if_neg c18] at H
     have c18b0 : ((strOfNums t391).toList == (strOfNums t395).toList) = false := beq_eq_false_iff_ne.mpr c18
     have c18b1 : ((strOfNums t391).toList != (strOfNums t395).toList) = true := bne_iff_ne.mpr c18
     exact absurd H (by simp)

end Go.Proofs.YtifekgemngfidaaDoor.PA
