-- Printed for this claim by wip/tools/xprint.py over the kit's print; the contracts marked BY HAND are this session's own.
import Derived.Test.YtjiammiihamkiaaPBx0
import Derived.Test.YtjiammiihamkiaaPBx2
import Derived.Test.YtjiammiihamkiaaPBx3
import Derived.Test.YtjiammiihamkiaaPBx4
namespace Go.Proofs.Ytjiammiihamkiaa.PB
open Go.RowKit Go.Proofs.YtjiammiihamkiaaW.PrintWords Go.Proofs.YtjiammiihamkiaaW.PrintLast Go.Proofs.YtjiammiihamkiaaW.PrintMore
attribute [local go_sem] max2_int min2_int max_two min_two max_three min_three max_four min_four   -- for this text's walks alone
set_option linter.unusedVariables false
set_option linter.unusedSimpArgs false

/-! ### state_here_take: function 54 -/
def state_here_take.j0 : Nat → Int → Bool → Int → Int → Int → List (S23) → Int → Int → Int → Int → Int → Int → Int → Int → Option (Int × Int × Int × Int × Int × Int × Int × Int × Bool)
  | 0, _, _, _, _, _, _, _, _, _, _, _, _, _, _ => none
  | k + 1, x1, x35, x145000, x145001, x145002, x145003, x145004, x145005, x145006, x145007, x145008, x145009, x145010, x145011 => if x35 = true then (some (x145004, x145005, x145006, x145007, x145008, x145009, x145010, x145011, false)) else ((state_here_visit.f k x145000 x145001 x145002 x145003 x145004 x145005 x145006 x145007 x145008 x145009 x145010 x145011 x1).bind fun bt147 => (if bt147.2.2.2.2.2.2.2.2 = true then ((set_With.f bt147.2.2.2.2.2.2.2.1 x1).bind fun t157 => (some (bt147.1, bt147.2.1, bt147.2.2.1, bt147.2.2.2.1, bt147.2.2.2.2.1, bt147.2.2.2.2.2.1, bt147.2.2.2.2.2.2.1, t157, bt147.2.2.2.2.2.2.2.2))) else (some (bt147.1, bt147.2.1, bt147.2.2.1, bt147.2.2.2.1, bt147.2.2.2.2.1, bt147.2.2.2.2.2.1, bt147.2.2.2.2.2.2.1, bt147.2.2.2.2.2.2.2.1, bt147.2.2.2.2.2.2.2.2))))
def state_here_take.f (k : Nat) (a0_0 : Int) (a0_1 : Int) (a0_2 : Int) (l0_3 : List (S23)) (a0_4 : Int) (a0_5 : Int) (a0_6 : Int) (a0_7 : Int) (a0_8 : Int) (a0_9 : Int) (a0_10 : Int) (a0_11 : Int) (a1 : Int) : Option (Int × Int × Int × Int × Int × Int × Int × Int × Bool) := if 0 ≤ a1 then (if a1 < (l0_3.length : Int) then (if (wrap64 (a0_7 + ((rd_T23 l0_3 a1).f2))) > a0_2 then (state_here_take.j0 k a1 true a0_0 a0_1 a0_2 l0_3 a0_4 a0_5 a0_6 a0_7 a0_8 a0_9 a0_10 a0_11) else (if a0_4 = 0 then (state_here_take.j0 k a1 (decide (a1 ≤ a0_8)) a0_0 a0_1 a0_2 l0_3 a0_4 a0_5 a0_6 a0_7 a0_8 a0_9 a0_10 a0_11) else (state_here_take.j0 k a1 false a0_0 a0_1 a0_2 l0_3 a0_4 a0_5 a0_6 a0_7 a0_8 a0_9 a0_10 a0_11))) else (none)) else (none)
theorem state_here_take.mono_l : ∀ k, (∀ y0 y1 y2 y3 y4 y5 y6 y7 y8 y9 y10 y11 y12 y13, LeO (state_here_take.j0 k y0 y1 y2 y3 y4 y5 y6 y7 y8 y9 y10 y11 y12 y13) (state_here_take.j0 (k + 1) y0 y1 y2 y3 y4 y5 y6 y7 y8 y9 y10 y11 y12 y13))
  | 0 => fun _ _ _ _ _ _ _ _ _ _ _ _ _ _ r h => by simp [state_here_take.j0] at h
  | k + 1 => by
    have ih0 := state_here_take.mono_l k
    · intro y0 y1 y2 y3 y4 y5 y6 y7 y8 y9 y10 y11 y12 y13
      unfold state_here_take.j0
      repeat' first
      | (with_reducible exact ih0 _ _ _ _ _ _ _ _ _ _ _ _ _ _)
      | (with_reducible exact state_here_visit.mono _ _ _ _ _ _ _ _ _ _ _ _ _ _)
      | (with_reducible exact LeO.refl _)
      | (with_reducible exact LeO.none _)
      | (with_reducible refine LeO.ite ?_ ?_)
      | (with_reducible refine LeO.bind ?_ (fun _ => ?_))
      | exact ih0 _ _ _ _ _ _ _ _ _ _ _ _ _ _
      | exact state_here_visit.mono _ _ _ _ _ _ _ _ _ _ _ _ _ _
      | exact LeO.none _
      | refine LeO.ite ?_ ?_
      | refine LeO.bind ?_ (fun _ => ?_)
theorem state_here_take.mono : ∀ a0 a1 a2 a3 a4 a5 a6 a7 a8 a9 a10 a11 a12 k, LeO (state_here_take.f k a0 a1 a2 a3 a4 a5 a6 a7 a8 a9 a10 a11 a12) (state_here_take.f (k + 1) a0 a1 a2 a3 a4 a5 a6 a7 a8 a9 a10 a11 a12) := by
  intro a0 a1 a2 a3 a4 a5 a6 a7 a8 a9 a10 a11 a12 k
  have ih0 := state_here_take.mono_l k
  unfold state_here_take.f
  repeat' first
      | (with_reducible exact ih0 _ _ _ _ _ _ _ _ _ _ _ _ _ _)
      | (with_reducible exact state_here_visit.mono _ _ _ _ _ _ _ _ _ _ _ _ _ _)
      | (with_reducible exact LeO.refl _)
      | (with_reducible exact LeO.none _)
      | (with_reducible refine LeO.ite ?_ ?_)
      | (with_reducible refine LeO.bind ?_ (fun _ => ?_))
      | exact ih0 _ _ _ _ _ _ _ _ _ _ _ _ _ _
      | exact state_here_visit.mono _ _ _ _ _ _ _ _ _ _ _ _ _ _
      | exact LeO.none _
      | refine LeO.ite ?_ ?_
      | refine LeO.bind ?_ (fun _ => ?_)
set_option maxHeartbeats 16000000 in
set_option maxRecDepth 100000 in
theorem state_here_take.calls (k : Nat) (a0_0 : Int) (a0_1 : Int) (a0_2 : Int) (A0_3 : Option Addr) (c0_3 : Nat) (l0_3 : List (S23)) (a0_4 : Int) (a0_5 : Int) (a0_6 : Int) (a0_7 : Int) (a0_8 : Int) (a0_9 : Int) (a0_10 : Int) (a0_11 : Int) (a1 : Int) (r1 : Int) (r2 : Int) (r3 : Int) (r4 : Int) (r5 : Int) (r6 : Int) (r7 : Int) (r8 : Int) (r9 : Bool) (w : World) (hr0_3 : Kd.C k23 w A0_3 l0_3.length l0_3) (hc0_3 : l0_3.length ≤ c0_3) (h : state_here_take.f k a0_0 a0_1 a0_2 l0_3 a0_4 a0_5 a0_6 a0_7 a0_8 a0_9 a0_10 a0_11 a1 = some (r1, r2, r3, r4, r5, r6, r7, r8, r9)) :
  Calls Try.prog 54 #[.agg #[.int .i64 a0_0, .int .i64 a0_1, .int .i64 a0_2, .slice A0_3 l0_3.length c0_3, .int .i64 a0_4, .int .i64 a0_5, .int .i64 a0_6, .int .i64 a0_7, .int .i64 a0_8, .int .u64 a0_9, .int .u64 a0_10, .int .u64 a0_11], .int .i64 a1] w fun e w' => e = .returned (.tuple #[.agg #[.int .i64 r1, .int .i64 r2, .int .i64 r3, .int .i64 r4, .int .i64 r5, .int .u64 r6, .int .u64 r7, .int .u64 r8], .bool r9]) ∧ Below w.heap.size w w' := by
 have hu69 := Try.underlying69
 have hu40 := Try.underlying40
 have HR0_3 := zqi hr0_3
 have HC0_3 := zqi hc0_3
 clear hr0_3 hc0_3
 have HB := zqi (Below.refl w.heap.size w)
 have H : (if 0 ≤ a1 then (if a1 < (l0_3.length : Int) then (if (wrap64 (a0_7 + ((rd_T23 l0_3 a1).f2))) > a0_2 then (state_here_take.j0 k a1 true a0_0 a0_1 a0_2 l0_3 a0_4 a0_5 a0_6 a0_7 a0_8 a0_9 a0_10 a0_11) else (if a0_4 = 0 then (state_here_take.j0 k a1 (decide (a1 ≤ a0_8)) a0_0 a0_1 a0_2 l0_3 a0_4 a0_5 a0_6 a0_7 a0_8 a0_9 a0_10 a0_11) else (state_here_take.j0 k a1 false a0_0 a0_1 a0_2 l0_3 a0_4 a0_5 a0_6 a0_7 a0_8 a0_9 a0_10 a0_11))) else (none)) else (none)) = some (r1, r2, r3, r4, r5, r6, r7, r8, r9) := h
 clear h
 have HC3 := zqi H
 clear H
 go_enter Try.func54, Try.ntmps54
 go_upto_region 1 with (first | ((with_reducible refine gate_dst (N := 2) rfl ?_); refine box_event ?hg (N := 2) ?hd (cs := #[.int .i64 a0_0, .int .i64 a0_1, .int .i64 a0_2, .slice A0_3 l0_3.length c0_3, .int .i64 a0_4, .int .i64 a0_5, .int .i64 a0_6, .int .i64 a0_7, .int .i64 a0_8, .int .u64 a0_9, .int .u64 a0_10, .int .u64 a0_11]) (t := 69) ?hr ?_; (case hd => rfl); (case hg => rfl); (case hr => first | (go_simp; done) | (go_simp; rfl)); intro gb144 hg w4 hbox hb; have n0_ := zqi (below_step (zqn HB.out) hb); have n1_ := zqi (hbox); have n2_ := zqi (zqo hg HB.out); have n3_ := zqi (zqo hg HB.out); clear HB; have HB := n0_; have BK144 := n1_; have GW144 := n2_; have GE144 := n3_; clear n0_ n1_ n2_ n3_; clear hb hbox hg) | ((with_reducible refine gate_dst (N := 4) rfl ?_); refine box_event ?hg (N := 4) ?hd (cs := #[.int .i64 0, .int .i64 0, .int .i64 0, .int .i64 0, .int .i64 0, .int .u64 0, .int .u64 0, .int .u64 0]) (t := 40) ?hr ?_; (case hd => rfl); (case hg => rfl); (case hr => first | (go_simp; done) | (go_simp; rfl)); intro gb145 hg w5 hbox hb; have n0_ := zqi (zqy BK144.out hb); have n1_ := zqi (below_step (zqn HB.out) hb); have n2_ := zqi (hbox); have n3_ := zqi (zqo hg HB.out); have n4_ := zqi (zqo hg HB.out); have n5_ := zqi ((zqq hg BK144.out)); have n6_ := zqi ((zqr hg BK144.out)); clear BK144; clear HB; have BK144 := n0_; have HB := n1_; have BK145 := n2_; have GW145 := n3_; have GE145 := n4_; have NB144_145 := n5_; have NB145_144 := n6_; clear n0_ n1_ n2_ n3_ n4_ n5_ n6_; clear hb hbox hg))
 repeat (go_quiet (first | ((with_reducible refine gate_dst (N := 2) rfl ?_); refine box_event ?hg (N := 2) ?hd (cs := #[.int .i64 a0_0, .int .i64 a0_1, .int .i64 a0_2, .slice A0_3 l0_3.length c0_3, .int .i64 a0_4, .int .i64 a0_5, .int .i64 a0_6, .int .i64 a0_7, .int .i64 a0_8, .int .u64 a0_9, .int .u64 a0_10, .int .u64 a0_11]) (t := 69) ?hr ?_; (case hd => rfl); (case hg => rfl); (case hr => first | (go_simp; done) | (go_simp; rfl)); intro gb144 hg w4 hbox hb; have n0_ := zqi (below_step (zqn HB.out) hb); have n1_ := zqi (hbox); have n2_ := zqi (zqo hg HB.out); have n3_ := zqi (zqo hg HB.out); clear HB; have HB := n0_; have BK144 := n1_; have GW144 := n2_; have GE144 := n3_; clear n0_ n1_ n2_ n3_; clear hb hbox hg) | ((with_reducible refine gate_dst (N := 4) rfl ?_); refine box_event ?hg (N := 4) ?hd (cs := #[.int .i64 0, .int .i64 0, .int .i64 0, .int .i64 0, .int .i64 0, .int .u64 0, .int .u64 0, .int .u64 0]) (t := 40) ?hr ?_; (case hd => rfl); (case hg => rfl); (case hr => first | (go_simp; done) | (go_simp; rfl)); intro gb145 hg w5 hbox hb; have n0_ := zqi (zqy BK144.out hb); have n1_ := zqi (below_step (zqn HB.out) hb); have n2_ := zqi (hbox); have n3_ := zqi (zqo hg HB.out); have n4_ := zqi (zqo hg HB.out); have n5_ := zqi ((zqq hg BK144.out)); have n6_ := zqi ((zqr hg BK144.out)); clear BK144; clear HB; have BK144 := n0_; have HB := n1_; have BK145 := n2_; have GW145 := n3_; have GE145 := n4_; have NB144_145 := n5_; have NB145_144 := n6_; clear n0_ n1_ n2_ n3_ n4_ n5_ n6_; clear hb hbox hg)); go_upto_region 1 with (first | ((with_reducible refine gate_dst (N := 2) rfl ?_); refine box_event ?hg (N := 2) ?hd (cs := #[.int .i64 a0_0, .int .i64 a0_1, .int .i64 a0_2, .slice A0_3 l0_3.length c0_3, .int .i64 a0_4, .int .i64 a0_5, .int .i64 a0_6, .int .i64 a0_7, .int .i64 a0_8, .int .u64 a0_9, .int .u64 a0_10, .int .u64 a0_11]) (t := 69) ?hr ?_; (case hd => rfl); (case hg => rfl); (case hr => first | (go_simp; done) | (go_simp; rfl)); intro gb144 hg w4 hbox hb; have n0_ := zqi (below_step (zqn HB.out) hb); have n1_ := zqi (hbox); have n2_ := zqi (zqo hg HB.out); have n3_ := zqi (zqo hg HB.out); clear HB; have HB := n0_; have BK144 := n1_; have GW144 := n2_; have GE144 := n3_; clear n0_ n1_ n2_ n3_; clear hb hbox hg) | ((with_reducible refine gate_dst (N := 4) rfl ?_); refine box_event ?hg (N := 4) ?hd (cs := #[.int .i64 0, .int .i64 0, .int .i64 0, .int .i64 0, .int .i64 0, .int .u64 0, .int .u64 0, .int .u64 0]) (t := 40) ?hr ?_; (case hd => rfl); (case hg => rfl); (case hr => first | (go_simp; done) | (go_simp; rfl)); intro gb145 hg w5 hbox hb; have n0_ := zqi (zqy BK144.out hb); have n1_ := zqi (below_step (zqn HB.out) hb); have n2_ := zqi (hbox); have n3_ := zqi (zqo hg HB.out); have n4_ := zqi (zqo hg HB.out); have n5_ := zqi ((zqq hg BK144.out)); have n6_ := zqi ((zqr hg BK144.out)); clear BK144; clear HB; have BK144 := n0_; have HB := n1_; have BK145 := n2_; have GW145 := n3_; have GE145 := n4_; have NB144_145 := n5_; have NB145_144 := n6_; clear n0_ n1_ n2_ n3_ n4_ n5_ n6_; clear hb hbox hg)))
 (try simp only [Act.put, List.setIfInBounds_toArray, List.set_cons_zero, List.set_cons_succ])
 go_cut [35] (fun v35 wc => ∃ (kq : Nat) (x35_2 : Bool), v35 = .bool x35_2 ∧ Aside0 (state_here_take.j0 kq a1 x35_2 a0_0 a0_1 a0_2 l0_3 a0_4 a0_5 a0_6 a0_7 a0_8 a0_9 a0_10 a0_11 = some (r1, r2, r3, r4, r5, r6, r7, r8, r9)) ∧ Aside0 (kq ≤ k) ∧ Aside0 (wc.heap[gb144]? = some (.cells #[.int .i64 a0_0, .int .i64 a0_1, .int .i64 a0_2, (.slice A0_3 l0_3.length c0_3), .int .i64 a0_4, .int .i64 a0_5, .int .i64 a0_6, .int .i64 a0_7, .int .i64 a0_8, .int .u64 a0_9, .int .u64 a0_10, .int .u64 a0_11] 69 (0, 0))) ∧ Aside0 (wc.heap[gb145]? = some (.cells #[.int .i64 0, .int .i64 0, .int .i64 0, .int .i64 0, .int .i64 0, .int .u64 0, .int .u64 0, .int .u64 0] 40 (0, 0))) ∧ Aside0 (Below w.heap.size w wc))
 case first =>
  have H := HC3.out
  clear HC3
  by_cases c6 : 0 ≤ a1
  ·
   rw [if_pos c6] at H
   have c6b0 : decide (0 ≤ a1) = true := decide_eq_true c6
   clear c6
   (first | rw [c6b0] | (simp only [i64_w, i32_w]; rw [c6b0]) | skip)
   by_cases c7 : a1 < (l0_3.length : Int)
   ·
    rw [if_pos c7] at H
    have c7b0 : decide (a1 < (l0_3.length : Int)) = true := decide_eq_true c7
    clear c7
    by_cases c8 : (wrap64 (a0_7 + ((rd_T23 l0_3 a1).f2))) > a0_2
    ·
     rw [if_pos c8] at H
     have c8b0 : decide (a0_2 < (wrap64 (a0_7 + ((rd_T23 l0_3 a1).f2)))) = true := decide_eq_true c8
     clear c8
     have H' := zqi H
     clear H
     have hnb9 := NB144_145.out
     have hnc9 := NB145_144.out
     obtain ⟨hcz10_0, hcz10_1, hcz10_2, hcz10_3, hcz10_4, hcz10_5, hcz10_6, hcz10_7, hcz10_8, hcz10_9, hcz10_10, hcz10_11, hfz10_0, hfz10_1, hfz10_2, hfz10_3, hfz10_4, hfz10_5, hfz10_6, hfz10_7, hfz10_8, hfz10_9, hfz10_10, hfz10_11⟩ := zqz12 BK144.out
     have p146 : 0 ≤ (a1 : Int) := of_decide_eq_true (by first | (with_reducible assumption) | assumption)
     have q146 : a1 < (l0_3.length : Int) := of_decide_eq_true (by first | (with_reducible assumption) | assumption)
     obtain ⟨ad146, e146, hx146_0, hx146_1, hx146_2, hx146_3, hx146_4, hx146_5⟩ := at_T23 HR0_3.out a1 p146 q146
     cases e146
     replace hx146_0 := (HB.out.cell (World.block_lt_of_cell? w _ hx146_0)).trans hx146_0
     replace hx146_1 := (HB.out.cell (World.block_lt_of_cell? w _ hx146_1)).trans hx146_1
     replace hx146_2 := (HB.out.cell (World.block_lt_of_cell? w _ hx146_2)).trans hx146_2
     replace hx146_3 := (HB.out.cell (World.block_lt_of_cell? w _ hx146_3)).trans hx146_3
     replace hx146_4 := (HB.out.cell (World.block_lt_of_cell? w _ hx146_4)).trans hx146_4
     replace hx146_5 := (HB.out.cell (World.block_lt_of_cell? w _ hx146_5)).trans hx146_5
     replace p146 := eq_true p146
     replace q146 := eq_true q146
     go_wp2
     repeat (go_quiet (fail); try go_wp2)
     go_meet
     case rel => exact ⟨_, (true), (by first | rfl | (simp; done) | (simp [*]; done)), H', ⟨by first | omega | exact Nat.le_refl _⟩, ⟨by (with_reducible repeat (first | apply zqa | apply zqb | apply zqc)); exact BK144.out⟩, ⟨by (with_reducible repeat (first | apply zqa | apply zqb | apply zqc)); exact BK145.out⟩, ⟨by repeat (first | (with_reducible first | exact HB.out | apply zqg | apply zqf | apply zqh | refine below_set ?_ GE144.out | refine below_set ?_ GE145.out) | exact HB.out)⟩⟩
    ·
     rw [if_neg c8] at H
     have c8b0 : decide (a0_2 < (wrap64 (a0_7 + ((rd_T23 l0_3 a1).f2)))) = false := decide_eq_false c8
     clear c8
     by_cases c11 : a0_4 = 0
     ·
      rw [if_pos c11] at H
      have c11b0 : (a0_4 == 0) = true := beq_iff_eq.mpr c11
      have c11b1 : (a0_4 != 0) = false := bne_eq_false_iff_eq.mpr c11
      clear c11
      have H' := zqi H
      clear H
      have hnb12 := NB144_145.out
      have hnc12 := NB145_144.out
      obtain ⟨hcz13_0, hcz13_1, hcz13_2, hcz13_3, hcz13_4, hcz13_5, hcz13_6, hcz13_7, hcz13_8, hcz13_9, hcz13_10, hcz13_11, hfz13_0, hfz13_1, hfz13_2, hfz13_3, hfz13_4, hfz13_5, hfz13_6, hfz13_7, hfz13_8, hfz13_9, hfz13_10, hfz13_11⟩ := zqz12 BK144.out
      have p146 : 0 ≤ (a1 : Int) := of_decide_eq_true (by first | (with_reducible assumption) | assumption)
      have q146 : a1 < (l0_3.length : Int) := of_decide_eq_true (by first | (with_reducible assumption) | assumption)
      obtain ⟨ad146, e146, hx146_0, hx146_1, hx146_2, hx146_3, hx146_4, hx146_5⟩ := at_T23 HR0_3.out a1 p146 q146
      cases e146
      replace hx146_0 := (HB.out.cell (World.block_lt_of_cell? w _ hx146_0)).trans hx146_0
      replace hx146_1 := (HB.out.cell (World.block_lt_of_cell? w _ hx146_1)).trans hx146_1
      replace hx146_2 := (HB.out.cell (World.block_lt_of_cell? w _ hx146_2)).trans hx146_2
      replace hx146_3 := (HB.out.cell (World.block_lt_of_cell? w _ hx146_3)).trans hx146_3
      replace hx146_4 := (HB.out.cell (World.block_lt_of_cell? w _ hx146_4)).trans hx146_4
      replace hx146_5 := (HB.out.cell (World.block_lt_of_cell? w _ hx146_5)).trans hx146_5
      replace p146 := eq_true p146
      replace q146 := eq_true q146
      go_wp2
      repeat (go_quiet (fail); try go_wp2)
      go_meet
      case rel => exact ⟨_, (decide (a1 ≤ a0_8)), (by first | rfl | (simp; done) | (simp [*]; done)), H', ⟨by first | omega | exact Nat.le_refl _⟩, ⟨by (with_reducible repeat (first | apply zqa | apply zqb | apply zqc)); exact BK144.out⟩, ⟨by (with_reducible repeat (first | apply zqa | apply zqb | apply zqc)); exact BK145.out⟩, ⟨by repeat (first | (with_reducible first | exact HB.out | apply zqg | apply zqf | apply zqh | refine below_set ?_ GE144.out | refine below_set ?_ GE145.out) | exact HB.out)⟩⟩
     ·
      rw [if_neg c11] at H
      have c11b0 : (a0_4 == 0) = false := beq_eq_false_iff_ne.mpr c11
      have c11b1 : (a0_4 != 0) = true := bne_iff_ne.mpr c11
      have H' := zqi H
      clear H
      have hnb14 := NB144_145.out
      have hnc14 := NB145_144.out
      obtain ⟨hcz15_0, hcz15_1, hcz15_2, hcz15_3, hcz15_4, hcz15_5, hcz15_6, hcz15_7, hcz15_8, hcz15_9, hcz15_10, hcz15_11, hfz15_0, hfz15_1, hfz15_2, hfz15_3, hfz15_4, hfz15_5, hfz15_6, hfz15_7, hfz15_8, hfz15_9, hfz15_10, hfz15_11⟩ := zqz12 BK144.out
      have p146 : 0 ≤ (a1 : Int) := of_decide_eq_true (by first | (with_reducible assumption) | assumption)
      have q146 : a1 < (l0_3.length : Int) := of_decide_eq_true (by first | (with_reducible assumption) | assumption)
      obtain ⟨ad146, e146, hx146_0, hx146_1, hx146_2, hx146_3, hx146_4, hx146_5⟩ := at_T23 HR0_3.out a1 p146 q146
      cases e146
      replace hx146_0 := (HB.out.cell (World.block_lt_of_cell? w _ hx146_0)).trans hx146_0
      replace hx146_1 := (HB.out.cell (World.block_lt_of_cell? w _ hx146_1)).trans hx146_1
      replace hx146_2 := (HB.out.cell (World.block_lt_of_cell? w _ hx146_2)).trans hx146_2
      replace hx146_3 := (HB.out.cell (World.block_lt_of_cell? w _ hx146_3)).trans hx146_3
      replace hx146_4 := (HB.out.cell (World.block_lt_of_cell? w _ hx146_4)).trans hx146_4
      replace hx146_5 := (HB.out.cell (World.block_lt_of_cell? w _ hx146_5)).trans hx146_5
      replace p146 := eq_true p146
      replace q146 := eq_true q146
      go_wp2
      repeat (go_quiet (fail); try go_wp2)
      go_meet
      case rel => exact ⟨_, (false), (by first | rfl | (simp; done) | (simp [*]; done)), H', ⟨by first | omega | exact Nat.le_refl _⟩, ⟨by (with_reducible repeat (first | apply zqa | apply zqb | apply zqc)); exact BK144.out⟩, ⟨by (with_reducible repeat (first | apply zqa | apply zqb | apply zqc)); exact BK145.out⟩, ⟨by repeat (first | (with_reducible first | exact HB.out | apply zqg | apply zqf | apply zqh | refine below_set ?_ GE144.out | refine below_set ?_ GE145.out) | exact HB.out)⟩⟩
   ·
    rw [if_neg c7] at H
    exact absurd H (by simp)
  ·
   rw [if_neg c6] at H
   exact absurd H (by simp)
 case rest =>
  clear HC3
  try clear c1
  try clear p1
  try clear q1
  try clear hx1
  try clear p2
  try clear c5
  try clear c6
  try clear c6b0
  try clear p6
  try clear c7
  try clear c7b0
  try clear c8
  try clear c8b0
  try clear c9
  try clear c11
  try clear c11b0
  try clear c11b1
  try clear c12
  try clear c14
  try clear p14
  try clear q14
  try clear hx14
  try clear hcz10_0
  try clear hcz10_1
  try clear hcz10_10
  try clear hcz10_11
  try clear hcz10_2
  try clear hcz10_3
  try clear hcz10_4
  try clear hcz10_5
  try clear hcz10_6
  try clear hcz10_7
  try clear hcz10_8
  try clear hcz10_9
  try clear hcz13_0
  try clear hcz13_1
  try clear hcz13_10
  try clear hcz13_11
  try clear hcz13_2
  try clear hcz13_3
  try clear hcz13_4
  try clear hcz13_5
  try clear hcz13_6
  try clear hcz13_7
  try clear hcz13_8
  try clear hcz13_9
  try clear hcz15_0
  try clear hcz15_1
  try clear hcz15_10
  try clear hcz15_11
  try clear hcz15_2
  try clear hcz15_3
  try clear hcz15_4
  try clear hcz15_5
  try clear hcz15_6
  try clear hcz15_7
  try clear hcz15_8
  try clear hcz15_9
  try clear hfz10_0
  try clear hfz10_1
  try clear hfz10_10
  try clear hfz10_11
  try clear hfz10_2
  try clear hfz10_3
  try clear hfz10_4
  try clear hfz10_5
  try clear hfz10_6
  try clear hfz10_7
  try clear hfz10_8
  try clear hfz10_9
  try clear hfz13_0
  try clear hfz13_1
  try clear hfz13_10
  try clear hfz13_11
  try clear hfz13_2
  try clear hfz13_3
  try clear hfz13_4
  try clear hfz13_5
  try clear hfz13_6
  try clear hfz13_7
  try clear hfz13_8
  try clear hfz13_9
  try clear hfz15_0
  try clear hfz15_1
  try clear hfz15_10
  try clear hfz15_11
  try clear hfz15_2
  try clear hfz15_3
  try clear hfz15_4
  try clear hfz15_5
  try clear hfz15_6
  try clear hfz15_7
  try clear hfz15_8
  try clear hfz15_9
  try clear hx146_0
  try clear hx146_1
  try clear hx146_2
  try clear hx146_3
  try clear hx146_4
  try clear hx146_5
  try clear p146
  try clear q146
  obtain ⟨kq, x35_2, rfl, HA, HJ2, BK144, BK145, HB⟩ := hcut
  cases kq with
  | zero => exact absurd HA.out (by simp [state_here_take.j0])
  | succ kj2 =>
   have H := HA.out
   clear HA
   simp only [state_here_take.j0] at H
   by_cases c16 : x35_2 = true
   ·
    subst c16
    have H1 : (some (a0_4, a0_5, a0_6, a0_7, a0_8, a0_9, a0_10, a0_11, false)) = some (r1, r2, r3, r4, r5, r6, r7, r8, r9) := by rw [if_pos rfl] at H; exact H
    clear H
    have H := H1
    clear H1
    simp only [Option.some.injEq, Prod.mk.injEq] at H
    obtain ⟨rfl, rfl, rfl, rfl, rfl, rfl, rfl, rfl, rfl⟩ := H
    have hnb17 := NB144_145.out
    have hnc17 := NB145_144.out
    obtain ⟨hcz18_0, hcz18_1, hcz18_2, hcz18_3, hcz18_4, hcz18_5, hcz18_6, hcz18_7, hcz18_8, hcz18_9, hcz18_10, hcz18_11, hfz18_0, hfz18_1, hfz18_2, hfz18_3, hfz18_4, hfz18_5, hfz18_6, hfz18_7, hfz18_8, hfz18_9, hfz18_10, hfz18_11⟩ := zqz12 BK144.out
    obtain ⟨hcz19_0, hcz19_1, hcz19_2, hcz19_3, hcz19_4, hcz19_5, hcz19_6, hcz19_7, hfz19_0, hfz19_1, hfz19_2, hfz19_3, hfz19_4, hfz19_5, hfz19_6, hfz19_7⟩ := zqz8 BK145.out
    go_wp2
    repeat (go_quiet (fail); try go_wp2)
    refine bodyPost_ret (results_ct rfl _ _ gb145 40 #[.int .i64 a0_4, .int .i64 a0_5, .int .i64 a0_6, .int .i64 a0_7, .int .i64 a0_8, .int .u64 a0_9, .int .u64 a0_10, .int .u64 a0_11] (0, 0) _ rfl (by exact zqC (blk_set (blk_set (blk_set (blk_set (blk_set (blk_set (blk_set (blk_set BK145.out 0 _) 1 _) 2 _) 3 _) 4 _) 5 _) 6 _) 7 _) (by simp only [List.setIfInBounds_toArray, List.set_cons_zero, List.set_cons_succ])) Try.underlying40 rfl (by kernel_rfl)) rfl ?_
    exact ⟨by first | rfl | (simp [errW_none, errW_some] <;> rfl) | (simp [*, errW_none, errW_some] <;> rfl), by repeat (first | (with_reducible first | exact HB.out | apply zqg | apply zqf | apply zqh | refine below_set ?_ GE144.out | refine below_set ?_ GE145.out) | exact HB.out)⟩
   ·
    replace c16 := Bool.eq_false_iff.mpr c16
    subst c16
    have H1 : ((state_here_visit.f kj2 a0_0 a0_1 a0_2 l0_3 a0_4 a0_5 a0_6 a0_7 a0_8 a0_9 a0_10 a0_11 a1).bind fun bt147 => (if bt147.2.2.2.2.2.2.2.2 = true then ((set_With.f bt147.2.2.2.2.2.2.2.1 a1).bind fun t157 => (some (bt147.1, bt147.2.1, bt147.2.2.1, bt147.2.2.2.1, bt147.2.2.2.2.1, bt147.2.2.2.2.2.1, bt147.2.2.2.2.2.2.1, t157, bt147.2.2.2.2.2.2.2.2))) else (some (bt147.1, bt147.2.1, bt147.2.2.1, bt147.2.2.2.1, bt147.2.2.2.2.1, bt147.2.2.2.2.2.1, bt147.2.2.2.2.2.2.1, bt147.2.2.2.2.2.2.2.1, bt147.2.2.2.2.2.2.2.2)))) = some (r1, r2, r3, r4, r5, r6, r7, r8, r9) := by rw [if_neg (show ¬ (false = true) by decide)] at H; exact H
    clear H
    have H := H1
    clear H1
    replace H := Option.bind_eq_some_iff.mp H
    obtain ⟨⟨t147, t148, t149, t150, t151, t152, t153, t154, t155⟩, A200, H⟩ := H
    replace H : (if t155 = true then ((set_With.f t154 a1).bind fun t157 => (some (t147, t148, t149, t150, t151, t152, t153, t157, t155))) else (some (t147, t148, t149, t150, t151, t152, t153, t154, t155))) = some (r1, r2, r3, r4, r5, r6, r7, r8, r9) := H
    have A20 := zqi A200
    clear A200
    by_cases c21 : t155 = true
    ·
     subst c21
     have H1 : ((set_With.f t154 a1).bind fun t157 => (some (t147, t148, t149, t150, t151, t152, t153, t157, true))) = some (r1, r2, r3, r4, r5, r6, r7, r8, r9) := by rw [if_pos rfl] at H; exact H
     clear H
     have H := H1
     clear H1
     replace H := Option.bind_eq_some_iff.mp H
     obtain ⟨t157, A220, H⟩ := H
     replace H : (some (t147, t148, t149, t150, t151, t152, t153, t157, true)) = some (r1, r2, r3, r4, r5, r6, r7, r8, r9) := H
     have A22 := zqi A220
     clear A220
     simp only [Option.some.injEq, Prod.mk.injEq] at H
     obtain ⟨rfl, rfl, rfl, rfl, rfl, rfl, rfl, rfl, rfl⟩ := H
     have hnb23 := NB144_145.out
     have hnc23 := NB145_144.out
     obtain ⟨hcz24_0, hcz24_1, hcz24_2, hcz24_3, hcz24_4, hcz24_5, hcz24_6, hcz24_7, hcz24_8, hcz24_9, hcz24_10, hcz24_11, hfz24_0, hfz24_1, hfz24_2, hfz24_3, hfz24_4, hfz24_5, hfz24_6, hfz24_7, hfz24_8, hfz24_9, hfz24_10, hfz24_11⟩ := zqz12 BK144.out
     go_wp2_with (first | ((with_reducible refine zqg1 40 ⟨_, _, rfl⟩ ?_); refine zqv 40 _ _ 0 8 #[.int .i64 t147, .int .i64 t148, .int .i64 t149, .int .i64 t150, .int .i64 t151, .int .u64 t152, .int .u64 t153, .int .u64 t154] (by exact zqm BK156.out) rfl rfl rfl rfl rfl rfl (by rfl) (by kernel_rfl) (by exact Nat.le_of_ble_eq_true rfl) (by rfl) ?_; intro wE hb1_ hbel_ hfar_; have n144_ := zqi ((hfar_ _ NB144_156.out).trans (zqm BK144.out)); have n145_ := zqi ((hfar_ _ NB145_156.out).trans (zqm BK145.out)); have n156_ := zqi (hb1_); have n0_ := zqi (hbel_ _ _ (zqn HB.out) GE156.out); clear hb1_ hbel_ hfar_ HB; clear BK144 BK145 BK156; have HB := n0_; have BK144 := n144_; have BK145 := n145_; have BK156 := n156_; clear n0_ n144_ n145_ n156_; obtain ⟨_, _, _, _, _, _, _, _, _, _, _, _, _, _, _, _⟩ := zqz8 BK156.out; obtain ⟨_, _, _, _, _, _, _, _, _, _, _, _, _, _, _, _, _, _, _, _, _, _, _, _⟩ := zqz12 BK144.out) | ((with_reducible refine zqg1 38 ⟨_, _, rfl⟩ ?_); refine zqv 38 _ _ 7 1 #[.int .i64 t147, .int .i64 t148, .int .i64 t149, .int .i64 t150, .int .i64 t151, .int .u64 t152, .int .u64 t153, .int .u64 t157] (by exact zqm BK156.out) rfl rfl rfl rfl rfl rfl (by rfl) (by kernel_rfl) (by exact Nat.le_of_ble_eq_true rfl) (by rfl) ?_; intro wE hb1_ hbel_ hfar_; have n144_ := zqi ((hfar_ _ NB144_156.out).trans (zqm BK144.out)); have n145_ := zqi ((hfar_ _ NB145_156.out).trans (zqm BK145.out)); have n156_ := zqi (hb1_); have n0_ := zqi (hbel_ _ _ (zqn HB.out) GE156.out); clear hb1_ hbel_ hfar_ HB; clear BK144 BK145 BK156; have HB := n0_; have BK144 := n144_; have BK145 := n145_; have BK156 := n156_; clear n0_ n144_ n145_ n156_; obtain ⟨_, _, _, _, _, _, _, _, _, _, _, _, _, _, _, _⟩ := zqz8 BK156.out; obtain ⟨_, _, _, _, _, _, _, _, _, _, _, _, _, _, _, _, _, _, _, _, _, _, _, _⟩ := zqz12 BK144.out) | ((with_reducible refine zqg1 40 ⟨_, _, rfl⟩ ?_); refine zqv 40 _ _ 0 8 #[.int .i64 t147, .int .i64 t148, .int .i64 t149, .int .i64 t150, .int .i64 t151, .int .u64 t152, .int .u64 t153, .int .u64 t157] (by exact zqm BK145.out) rfl rfl rfl rfl rfl rfl (by rfl) (by kernel_rfl) (by exact Nat.le_of_ble_eq_true rfl) (by rfl) ?_; intro wE hb1_ hbel_ hfar_; have n144_ := zqi ((hfar_ _ NB144_145.out).trans (zqm BK144.out)); have n145_ := zqi (hb1_); have n156_ := zqi ((hfar_ _ NB156_145.out).trans (zqm BK156.out)); have n0_ := zqi (hbel_ _ _ (zqn HB.out) GE145.out); clear hb1_ hbel_ hfar_ HB; clear BK144 BK145 BK156; have HB := n0_; have BK144 := n144_; have BK145 := n145_; have BK156 := n156_; clear n0_ n144_ n145_ n156_) | (go_at_call 69; (with_reducible refine (state_here_visit.calls kj2 a0_0 a0_1 a0_2 _ _ l0_3 a0_4 a0_5 a0_6 a0_7 a0_8 a0_9 a0_10 a0_11 a1 t147 t148 t149 t150 t151 t152 t153 t154 true _ ?side1 ?side2 A20.out).mono ?_); (case side1 => repeat (first | exact (Kd.C_below HR0_3.out HB.out) | (with_reducible refine Kd.C_alloc ?_ _) | (with_reducible refine Kd.C_drewN ?_ _) | (with_reducible refine Kd.C_drew ?_))); (case side2 => exact HC0_3.out); rintro e w25 ⟨rfl, hb⟩; have n0_ := zqi (zqy BK144.out hb); have n1_ := zqi (zqy BK145.out hb); have n2_ := zqi (below_step (zqn HB.out) hb); clear BK144; clear BK145; clear HB; have BK144 := n0_; have BK145 := n1_; have HB := n2_; clear n0_ n1_ n2_; (try clear hb); (try clear hb2); (try clear hk); (try clear hi)) | ((with_reducible refine gate_dst (N := 6) rfl ?_); refine box_event ?hg (N := 6) ?hd (cs := #[.int .i64 0, .int .i64 0, .int .i64 0, .int .i64 0, .int .i64 0, .int .u64 0, .int .u64 0, .int .u64 0]) (t := 40) ?hr ?_; (case hd => rfl); (case hg => rfl); (case hr => first | (go_simp; done) | (go_simp; rfl)); intro gb156 hg w26 hbox hb; have n0_ := zqi (zqy BK144.out hb); have n1_ := zqi (zqy BK145.out hb); have n2_ := zqi (below_step (zqn HB.out) hb); have n3_ := zqi (hbox); have n4_ := zqi (zqo hg HB.out); have n5_ := zqi (zqo hg HB.out); have n6_ := zqi ((zqq hg BK144.out)); have n7_ := zqi ((zqr hg BK144.out)); have n8_ := zqi ((zqq hg BK145.out)); have n9_ := zqi ((zqr hg BK145.out)); clear BK144; clear BK145; clear HB; have BK144 := n0_; have BK145 := n1_; have HB := n2_; have BK156 := n3_; have GW156 := n4_; have GE156 := n5_; have NB144_156 := n6_; have NB156_144 := n7_; have NB145_156 := n8_; have NB156_145 := n9_; clear n0_ n1_ n2_ n3_ n4_ n5_ n6_ n7_ n8_ n9_; clear hb hbox hg; have hnb27 := NB156_144.out; have hnc27 := NB144_156.out; have hnb28 := NB156_145.out; have hnc28 := NB145_156.out; obtain ⟨hcz29_0, hcz29_1, hcz29_2, hcz29_3, hcz29_4, hcz29_5, hcz29_6, hcz29_7, hfz29_0, hfz29_1, hfz29_2, hfz29_3, hfz29_4, hfz29_5, hfz29_6, hfz29_7⟩ := zqz8 BK156.out) | (go_at_call 71; (with_reducible refine (set_With.calls t154 a1 t157 _ A22.out).mono ?_); rintro e w' ⟨rfl, ⟨nd, rfl⟩⟩; (try first | exact ⟨rfl, _, zqj⟩ | exact ⟨rfl, _, Eq.trans (zqj) (congrArg (World.drewN _) (Nat.add_assoc _ _ _))⟩); obtain ⟨hcz30_0, hcz30_1, hcz30_2, hcz30_3, hcz30_4, hcz30_5, hcz30_6, hcz30_7, hfz30_0, hfz30_1, hfz30_2, hfz30_3, hfz30_4, hfz30_5, hfz30_6, hfz30_7⟩ := zqz8 BK145.out))
     repeat (go_quiet (first | (go_at_call 69; (with_reducible refine (state_here_visit.calls kj2 a0_0 a0_1 a0_2 _ _ l0_3 a0_4 a0_5 a0_6 a0_7 a0_8 a0_9 a0_10 a0_11 a1 t147 t148 t149 t150 t151 t152 t153 t154 true _ ?side1 ?side2 A20.out).mono ?_); (case side1 => repeat (first | exact (Kd.C_below HR0_3.out HB.out) | (with_reducible refine Kd.C_alloc ?_ _) | (with_reducible refine Kd.C_drewN ?_ _) | (with_reducible refine Kd.C_drew ?_))); (case side2 => exact HC0_3.out); rintro e w25 ⟨rfl, hb⟩; have n0_ := zqi (zqy BK144.out hb); have n1_ := zqi (zqy BK145.out hb); have n2_ := zqi (below_step (zqn HB.out) hb); clear BK144; clear BK145; clear HB; have BK144 := n0_; have BK145 := n1_; have HB := n2_; clear n0_ n1_ n2_; (try clear hb); (try clear hb2); (try clear hk); (try clear hi)) | ((with_reducible refine gate_dst (N := 6) rfl ?_); refine box_event ?hg (N := 6) ?hd (cs := #[.int .i64 0, .int .i64 0, .int .i64 0, .int .i64 0, .int .i64 0, .int .u64 0, .int .u64 0, .int .u64 0]) (t := 40) ?hr ?_; (case hd => rfl); (case hg => rfl); (case hr => first | (go_simp; done) | (go_simp; rfl)); intro gb156 hg w26 hbox hb; have n0_ := zqi (zqy BK144.out hb); have n1_ := zqi (zqy BK145.out hb); have n2_ := zqi (below_step (zqn HB.out) hb); have n3_ := zqi (hbox); have n4_ := zqi (zqo hg HB.out); have n5_ := zqi (zqo hg HB.out); have n6_ := zqi ((zqq hg BK144.out)); have n7_ := zqi ((zqr hg BK144.out)); have n8_ := zqi ((zqq hg BK145.out)); have n9_ := zqi ((zqr hg BK145.out)); clear BK144; clear BK145; clear HB; have BK144 := n0_; have BK145 := n1_; have HB := n2_; have BK156 := n3_; have GW156 := n4_; have GE156 := n5_; have NB144_156 := n6_; have NB156_144 := n7_; have NB145_156 := n8_; have NB156_145 := n9_; clear n0_ n1_ n2_ n3_ n4_ n5_ n6_ n7_ n8_ n9_; clear hb hbox hg; have hnb27 := NB156_144.out; have hnc27 := NB144_156.out; have hnb28 := NB156_145.out; have hnc28 := NB145_156.out; obtain ⟨hcz29_0, hcz29_1, hcz29_2, hcz29_3, hcz29_4, hcz29_5, hcz29_6, hcz29_7, hfz29_0, hfz29_1, hfz29_2, hfz29_3, hfz29_4, hfz29_5, hfz29_6, hfz29_7⟩ := zqz8 BK156.out) | (go_at_call 71; (with_reducible refine (set_With.calls t154 a1 t157 _ A22.out).mono ?_); rintro e w' ⟨rfl, ⟨nd, rfl⟩⟩; (try first | exact ⟨rfl, _, zqj⟩ | exact ⟨rfl, _, Eq.trans (zqj) (congrArg (World.drewN _) (Nat.add_assoc _ _ _))⟩); obtain ⟨hcz30_0, hcz30_1, hcz30_2, hcz30_3, hcz30_4, hcz30_5, hcz30_6, hcz30_7, hfz30_0, hfz30_1, hfz30_2, hfz30_3, hfz30_4, hfz30_5, hfz30_6, hfz30_7⟩ := zqz8 BK145.out)); try go_wp2_with (first | ((with_reducible refine zqg1 40 ⟨_, _, rfl⟩ ?_); refine zqv 40 _ _ 0 8 #[.int .i64 t147, .int .i64 t148, .int .i64 t149, .int .i64 t150, .int .i64 t151, .int .u64 t152, .int .u64 t153, .int .u64 t154] (by exact zqm BK156.out) rfl rfl rfl rfl rfl rfl (by rfl) (by kernel_rfl) (by exact Nat.le_of_ble_eq_true rfl) (by rfl) ?_; intro wE hb1_ hbel_ hfar_; have n144_ := zqi ((hfar_ _ NB144_156.out).trans (zqm BK144.out)); have n145_ := zqi ((hfar_ _ NB145_156.out).trans (zqm BK145.out)); have n156_ := zqi (hb1_); have n0_ := zqi (hbel_ _ _ (zqn HB.out) GE156.out); clear hb1_ hbel_ hfar_ HB; clear BK144 BK145 BK156; have HB := n0_; have BK144 := n144_; have BK145 := n145_; have BK156 := n156_; clear n0_ n144_ n145_ n156_; obtain ⟨_, _, _, _, _, _, _, _, _, _, _, _, _, _, _, _⟩ := zqz8 BK156.out; obtain ⟨_, _, _, _, _, _, _, _, _, _, _, _, _, _, _, _, _, _, _, _, _, _, _, _⟩ := zqz12 BK144.out) | ((with_reducible refine zqg1 38 ⟨_, _, rfl⟩ ?_); refine zqv 38 _ _ 7 1 #[.int .i64 t147, .int .i64 t148, .int .i64 t149, .int .i64 t150, .int .i64 t151, .int .u64 t152, .int .u64 t153, .int .u64 t157] (by exact zqm BK156.out) rfl rfl rfl rfl rfl rfl (by rfl) (by kernel_rfl) (by exact Nat.le_of_ble_eq_true rfl) (by rfl) ?_; intro wE hb1_ hbel_ hfar_; have n144_ := zqi ((hfar_ _ NB144_156.out).trans (zqm BK144.out)); have n145_ := zqi ((hfar_ _ NB145_156.out).trans (zqm BK145.out)); have n156_ := zqi (hb1_); have n0_ := zqi (hbel_ _ _ (zqn HB.out) GE156.out); clear hb1_ hbel_ hfar_ HB; clear BK144 BK145 BK156; have HB := n0_; have BK144 := n144_; have BK145 := n145_; have BK156 := n156_; clear n0_ n144_ n145_ n156_; obtain ⟨_, _, _, _, _, _, _, _, _, _, _, _, _, _, _, _⟩ := zqz8 BK156.out; obtain ⟨_, _, _, _, _, _, _, _, _, _, _, _, _, _, _, _, _, _, _, _, _, _, _, _⟩ := zqz12 BK144.out) | ((with_reducible refine zqg1 40 ⟨_, _, rfl⟩ ?_); refine zqv 40 _ _ 0 8 #[.int .i64 t147, .int .i64 t148, .int .i64 t149, .int .i64 t150, .int .i64 t151, .int .u64 t152, .int .u64 t153, .int .u64 t157] (by exact zqm BK145.out) rfl rfl rfl rfl rfl rfl (by rfl) (by kernel_rfl) (by exact Nat.le_of_ble_eq_true rfl) (by rfl) ?_; intro wE hb1_ hbel_ hfar_; have n144_ := zqi ((hfar_ _ NB144_145.out).trans (zqm BK144.out)); have n145_ := zqi (hb1_); have n156_ := zqi ((hfar_ _ NB156_145.out).trans (zqm BK156.out)); have n0_ := zqi (hbel_ _ _ (zqn HB.out) GE145.out); clear hb1_ hbel_ hfar_ HB; clear BK144 BK145 BK156; have HB := n0_; have BK144 := n144_; have BK145 := n145_; have BK156 := n156_; clear n0_ n144_ n145_ n156_) | (go_at_call 69; (with_reducible refine (state_here_visit.calls kj2 a0_0 a0_1 a0_2 _ _ l0_3 a0_4 a0_5 a0_6 a0_7 a0_8 a0_9 a0_10 a0_11 a1 t147 t148 t149 t150 t151 t152 t153 t154 true _ ?side1 ?side2 A20.out).mono ?_); (case side1 => repeat (first | exact (Kd.C_below HR0_3.out HB.out) | (with_reducible refine Kd.C_alloc ?_ _) | (with_reducible refine Kd.C_drewN ?_ _) | (with_reducible refine Kd.C_drew ?_))); (case side2 => exact HC0_3.out); rintro e w25 ⟨rfl, hb⟩; have n0_ := zqi (zqy BK144.out hb); have n1_ := zqi (zqy BK145.out hb); have n2_ := zqi (below_step (zqn HB.out) hb); clear BK144; clear BK145; clear HB; have BK144 := n0_; have BK145 := n1_; have HB := n2_; clear n0_ n1_ n2_; (try clear hb); (try clear hb2); (try clear hk); (try clear hi)) | ((with_reducible refine gate_dst (N := 6) rfl ?_); refine box_event ?hg (N := 6) ?hd (cs := #[.int .i64 0, .int .i64 0, .int .i64 0, .int .i64 0, .int .i64 0, .int .u64 0, .int .u64 0, .int .u64 0]) (t := 40) ?hr ?_; (case hd => rfl); (case hg => rfl); (case hr => first | (go_simp; done) | (go_simp; rfl)); intro gb156 hg w26 hbox hb; have n0_ := zqi (zqy BK144.out hb); have n1_ := zqi (zqy BK145.out hb); have n2_ := zqi (below_step (zqn HB.out) hb); have n3_ := zqi (hbox); have n4_ := zqi (zqo hg HB.out); have n5_ := zqi (zqo hg HB.out); have n6_ := zqi ((zqq hg BK144.out)); have n7_ := zqi ((zqr hg BK144.out)); have n8_ := zqi ((zqq hg BK145.out)); have n9_ := zqi ((zqr hg BK145.out)); clear BK144; clear BK145; clear HB; have BK144 := n0_; have BK145 := n1_; have HB := n2_; have BK156 := n3_; have GW156 := n4_; have GE156 := n5_; have NB144_156 := n6_; have NB156_144 := n7_; have NB145_156 := n8_; have NB156_145 := n9_; clear n0_ n1_ n2_ n3_ n4_ n5_ n6_ n7_ n8_ n9_; clear hb hbox hg; have hnb27 := NB156_144.out; have hnc27 := NB144_156.out; have hnb28 := NB156_145.out; have hnc28 := NB145_156.out; obtain ⟨hcz29_0, hcz29_1, hcz29_2, hcz29_3, hcz29_4, hcz29_5, hcz29_6, hcz29_7, hfz29_0, hfz29_1, hfz29_2, hfz29_3, hfz29_4, hfz29_5, hfz29_6, hfz29_7⟩ := zqz8 BK156.out) | (go_at_call 71; (with_reducible refine (set_With.calls t154 a1 t157 _ A22.out).mono ?_); rintro e w' ⟨rfl, ⟨nd, rfl⟩⟩; (try first | exact ⟨rfl, _, zqj⟩ | exact ⟨rfl, _, Eq.trans (zqj) (congrArg (World.drewN _) (Nat.add_assoc _ _ _))⟩); obtain ⟨hcz30_0, hcz30_1, hcz30_2, hcz30_3, hcz30_4, hcz30_5, hcz30_6, hcz30_7, hfz30_0, hfz30_1, hfz30_2, hfz30_3, hfz30_4, hfz30_5, hfz30_6, hfz30_7⟩ := zqz8 BK145.out)))
     refine bodyPost_ret (results_ct rfl _ _ gb145 40 #[.int .i64 t147, .int .i64 t148, .int .i64 t149, .int .i64 t150, .int .i64 t151, .int .u64 t152, .int .u64 t153, .int .u64 t157] (0, 0) _ rfl BK145.out Try.underlying40 rfl (by kernel_rfl)) rfl ?_
     exact ⟨by first | rfl | (simp [errW_none, errW_some] <;> rfl) | (simp [*, errW_none, errW_some] <;> rfl), by repeat (first | (with_reducible first | exact HB.out | apply zqg | apply zqf | apply zqh | refine below_set ?_ GE144.out | refine below_set ?_ GE145.out | refine below_set ?_ GE156.out) | exact HB.out)⟩
    ·
     replace c21 := Bool.eq_false_iff.mpr c21
     subst c21
     have H1 : (some (t147, t148, t149, t150, t151, t152, t153, t154, false)) = some (r1, r2, r3, r4, r5, r6, r7, r8, r9) := by rw [if_neg (show ¬ (false = true) by decide)] at H; exact H
     clear H
     have H := H1
     clear H1
     simp only [Option.some.injEq, Prod.mk.injEq] at H
     obtain ⟨rfl, rfl, rfl, rfl, rfl, rfl, rfl, rfl, rfl⟩ := H
     have hnb31 := NB144_145.out
     have hnc31 := NB145_144.out
     obtain ⟨hcz32_0, hcz32_1, hcz32_2, hcz32_3, hcz32_4, hcz32_5, hcz32_6, hcz32_7, hcz32_8, hcz32_9, hcz32_10, hcz32_11, hfz32_0, hfz32_1, hfz32_2, hfz32_3, hfz32_4, hfz32_5, hfz32_6, hfz32_7, hfz32_8, hfz32_9, hfz32_10, hfz32_11⟩ := zqz12 BK144.out
     go_wp2_with (first | ((with_reducible refine zqg1 40 ⟨_, _, rfl⟩ ?_); refine zqv 40 _ _ 0 8 #[.int .i64 t147, .int .i64 t148, .int .i64 t149, .int .i64 t150, .int .i64 t151, .int .u64 t152, .int .u64 t153, .int .u64 t154] (by exact zqm BK156.out) rfl rfl rfl rfl rfl rfl (by rfl) (by kernel_rfl) (by exact Nat.le_of_ble_eq_true rfl) (by rfl) ?_; intro wE hb1_ hbel_ hfar_; have n144_ := zqi ((hfar_ _ NB144_156.out).trans (zqm BK144.out)); have n145_ := zqi ((hfar_ _ NB145_156.out).trans (zqm BK145.out)); have n156_ := zqi (hb1_); have n0_ := zqi (hbel_ _ _ (zqn HB.out) GE156.out); clear hb1_ hbel_ hfar_ HB; clear BK144 BK145 BK156; have HB := n0_; have BK144 := n144_; have BK145 := n145_; have BK156 := n156_; clear n0_ n144_ n145_ n156_; obtain ⟨_, _, _, _, _, _, _, _, _, _, _, _, _, _, _, _⟩ := zqz8 BK156.out; obtain ⟨_, _, _, _, _, _, _, _, _, _, _, _, _, _, _, _, _, _, _, _, _, _, _, _⟩ := zqz12 BK144.out) | ((with_reducible refine zqg1 40 ⟨_, _, rfl⟩ ?_); refine zqv 40 _ _ 0 8 #[.int .i64 t147, .int .i64 t148, .int .i64 t149, .int .i64 t150, .int .i64 t151, .int .u64 t152, .int .u64 t153, .int .u64 t154] (by exact zqm BK145.out) rfl rfl rfl rfl rfl rfl (by rfl) (by kernel_rfl) (by exact Nat.le_of_ble_eq_true rfl) (by rfl) ?_; intro wE hb1_ hbel_ hfar_; have n144_ := zqi ((hfar_ _ NB144_145.out).trans (zqm BK144.out)); have n145_ := zqi (hb1_); have n156_ := zqi ((hfar_ _ NB156_145.out).trans (zqm BK156.out)); have n0_ := zqi (hbel_ _ _ (zqn HB.out) GE145.out); clear hb1_ hbel_ hfar_ HB; clear BK144 BK145 BK156; have HB := n0_; have BK144 := n144_; have BK145 := n145_; have BK156 := n156_; clear n0_ n144_ n145_ n156_) | (go_at_call 69; (with_reducible refine (state_here_visit.calls kj2 a0_0 a0_1 a0_2 _ _ l0_3 a0_4 a0_5 a0_6 a0_7 a0_8 a0_9 a0_10 a0_11 a1 t147 t148 t149 t150 t151 t152 t153 t154 false _ ?side1 ?side2 A20.out).mono ?_); (case side1 => repeat (first | exact (Kd.C_below HR0_3.out HB.out) | (with_reducible refine Kd.C_alloc ?_ _) | (with_reducible refine Kd.C_drewN ?_ _) | (with_reducible refine Kd.C_drew ?_))); (case side2 => exact HC0_3.out); rintro e w33 ⟨rfl, hb⟩; have n0_ := zqi (zqy BK144.out hb); have n1_ := zqi (zqy BK145.out hb); have n2_ := zqi (below_step (zqn HB.out) hb); clear BK144; clear BK145; clear HB; have BK144 := n0_; have BK145 := n1_; have HB := n2_; clear n0_ n1_ n2_; (try clear hb); (try clear hb2); (try clear hk); (try clear hi)) | ((with_reducible refine gate_dst (N := 6) rfl ?_); refine box_event ?hg (N := 6) ?hd (cs := #[.int .i64 0, .int .i64 0, .int .i64 0, .int .i64 0, .int .i64 0, .int .u64 0, .int .u64 0, .int .u64 0]) (t := 40) ?hr ?_; (case hd => rfl); (case hg => rfl); (case hr => first | (go_simp; done) | (go_simp; rfl)); intro gb156 hg w34 hbox hb; have n0_ := zqi (zqy BK144.out hb); have n1_ := zqi (zqy BK145.out hb); have n2_ := zqi (below_step (zqn HB.out) hb); have n3_ := zqi (hbox); have n4_ := zqi (zqo hg HB.out); have n5_ := zqi (zqo hg HB.out); have n6_ := zqi ((zqq hg BK144.out)); have n7_ := zqi ((zqr hg BK144.out)); have n8_ := zqi ((zqq hg BK145.out)); have n9_ := zqi ((zqr hg BK145.out)); clear BK144; clear BK145; clear HB; have BK144 := n0_; have BK145 := n1_; have HB := n2_; have BK156 := n3_; have GW156 := n4_; have GE156 := n5_; have NB144_156 := n6_; have NB156_144 := n7_; have NB145_156 := n8_; have NB156_145 := n9_; clear n0_ n1_ n2_ n3_ n4_ n5_ n6_ n7_ n8_ n9_; clear hb hbox hg; have hnb35 := NB156_144.out; have hnc35 := NB144_156.out; have hnb36 := NB156_145.out; have hnc36 := NB145_156.out; obtain ⟨hcz37_0, hcz37_1, hcz37_2, hcz37_3, hcz37_4, hcz37_5, hcz37_6, hcz37_7, hfz37_0, hfz37_1, hfz37_2, hfz37_3, hfz37_4, hfz37_5, hfz37_6, hfz37_7⟩ := zqz8 BK156.out; obtain ⟨hcz38_0, hcz38_1, hcz38_2, hcz38_3, hcz38_4, hcz38_5, hcz38_6, hcz38_7, hfz38_0, hfz38_1, hfz38_2, hfz38_3, hfz38_4, hfz38_5, hfz38_6, hfz38_7⟩ := zqz8 BK145.out))
     repeat (go_quiet (first | (go_at_call 69; (with_reducible refine (state_here_visit.calls kj2 a0_0 a0_1 a0_2 _ _ l0_3 a0_4 a0_5 a0_6 a0_7 a0_8 a0_9 a0_10 a0_11 a1 t147 t148 t149 t150 t151 t152 t153 t154 false _ ?side1 ?side2 A20.out).mono ?_); (case side1 => repeat (first | exact (Kd.C_below HR0_3.out HB.out) | (with_reducible refine Kd.C_alloc ?_ _) | (with_reducible refine Kd.C_drewN ?_ _) | (with_reducible refine Kd.C_drew ?_))); (case side2 => exact HC0_3.out); rintro e w33 ⟨rfl, hb⟩; have n0_ := zqi (zqy BK144.out hb); have n1_ := zqi (zqy BK145.out hb); have n2_ := zqi (below_step (zqn HB.out) hb); clear BK144; clear BK145; clear HB; have BK144 := n0_; have BK145 := n1_; have HB := n2_; clear n0_ n1_ n2_; (try clear hb); (try clear hb2); (try clear hk); (try clear hi)) | ((with_reducible refine gate_dst (N := 6) rfl ?_); refine box_event ?hg (N := 6) ?hd (cs := #[.int .i64 0, .int .i64 0, .int .i64 0, .int .i64 0, .int .i64 0, .int .u64 0, .int .u64 0, .int .u64 0]) (t := 40) ?hr ?_; (case hd => rfl); (case hg => rfl); (case hr => first | (go_simp; done) | (go_simp; rfl)); intro gb156 hg w34 hbox hb; have n0_ := zqi (zqy BK144.out hb); have n1_ := zqi (zqy BK145.out hb); have n2_ := zqi (below_step (zqn HB.out) hb); have n3_ := zqi (hbox); have n4_ := zqi (zqo hg HB.out); have n5_ := zqi (zqo hg HB.out); have n6_ := zqi ((zqq hg BK144.out)); have n7_ := zqi ((zqr hg BK144.out)); have n8_ := zqi ((zqq hg BK145.out)); have n9_ := zqi ((zqr hg BK145.out)); clear BK144; clear BK145; clear HB; have BK144 := n0_; have BK145 := n1_; have HB := n2_; have BK156 := n3_; have GW156 := n4_; have GE156 := n5_; have NB144_156 := n6_; have NB156_144 := n7_; have NB145_156 := n8_; have NB156_145 := n9_; clear n0_ n1_ n2_ n3_ n4_ n5_ n6_ n7_ n8_ n9_; clear hb hbox hg; have hnb35 := NB156_144.out; have hnc35 := NB144_156.out; have hnb36 := NB156_145.out; have hnc36 := NB145_156.out; obtain ⟨hcz37_0, hcz37_1, hcz37_2, hcz37_3, hcz37_4, hcz37_5, hcz37_6, hcz37_7, hfz37_0, hfz37_1, hfz37_2, hfz37_3, hfz37_4, hfz37_5, hfz37_6, hfz37_7⟩ := zqz8 BK156.out; obtain ⟨hcz38_0, hcz38_1, hcz38_2, hcz38_3, hcz38_4, hcz38_5, hcz38_6, hcz38_7, hfz38_0, hfz38_1, hfz38_2, hfz38_3, hfz38_4, hfz38_5, hfz38_6, hfz38_7⟩ := zqz8 BK145.out)); try go_wp2_with (first | ((with_reducible refine zqg1 40 ⟨_, _, rfl⟩ ?_); refine zqv 40 _ _ 0 8 #[.int .i64 t147, .int .i64 t148, .int .i64 t149, .int .i64 t150, .int .i64 t151, .int .u64 t152, .int .u64 t153, .int .u64 t154] (by exact zqm BK156.out) rfl rfl rfl rfl rfl rfl (by rfl) (by kernel_rfl) (by exact Nat.le_of_ble_eq_true rfl) (by rfl) ?_; intro wE hb1_ hbel_ hfar_; have n144_ := zqi ((hfar_ _ NB144_156.out).trans (zqm BK144.out)); have n145_ := zqi ((hfar_ _ NB145_156.out).trans (zqm BK145.out)); have n156_ := zqi (hb1_); have n0_ := zqi (hbel_ _ _ (zqn HB.out) GE156.out); clear hb1_ hbel_ hfar_ HB; clear BK144 BK145 BK156; have HB := n0_; have BK144 := n144_; have BK145 := n145_; have BK156 := n156_; clear n0_ n144_ n145_ n156_; obtain ⟨_, _, _, _, _, _, _, _, _, _, _, _, _, _, _, _⟩ := zqz8 BK156.out; obtain ⟨_, _, _, _, _, _, _, _, _, _, _, _, _, _, _, _, _, _, _, _, _, _, _, _⟩ := zqz12 BK144.out) | ((with_reducible refine zqg1 40 ⟨_, _, rfl⟩ ?_); refine zqv 40 _ _ 0 8 #[.int .i64 t147, .int .i64 t148, .int .i64 t149, .int .i64 t150, .int .i64 t151, .int .u64 t152, .int .u64 t153, .int .u64 t154] (by exact zqm BK145.out) rfl rfl rfl rfl rfl rfl (by rfl) (by kernel_rfl) (by exact Nat.le_of_ble_eq_true rfl) (by rfl) ?_; intro wE hb1_ hbel_ hfar_; have n144_ := zqi ((hfar_ _ NB144_145.out).trans (zqm BK144.out)); have n145_ := zqi (hb1_); have n156_ := zqi ((hfar_ _ NB156_145.out).trans (zqm BK156.out)); have n0_ := zqi (hbel_ _ _ (zqn HB.out) GE145.out); clear hb1_ hbel_ hfar_ HB; clear BK144 BK145 BK156; have HB := n0_; have BK144 := n144_; have BK145 := n145_; have BK156 := n156_; clear n0_ n144_ n145_ n156_) | (go_at_call 69; (with_reducible refine (state_here_visit.calls kj2 a0_0 a0_1 a0_2 _ _ l0_3 a0_4 a0_5 a0_6 a0_7 a0_8 a0_9 a0_10 a0_11 a1 t147 t148 t149 t150 t151 t152 t153 t154 false _ ?side1 ?side2 A20.out).mono ?_); (case side1 => repeat (first | exact (Kd.C_below HR0_3.out HB.out) | (with_reducible refine Kd.C_alloc ?_ _) | (with_reducible refine Kd.C_drewN ?_ _) | (with_reducible refine Kd.C_drew ?_))); (case side2 => exact HC0_3.out); rintro e w33 ⟨rfl, hb⟩; have n0_ := zqi (zqy BK144.out hb); have n1_ := zqi (zqy BK145.out hb); have n2_ := zqi (below_step (zqn HB.out) hb); clear BK144; clear BK145; clear HB; have BK144 := n0_; have BK145 := n1_; have HB := n2_; clear n0_ n1_ n2_; (try clear hb); (try clear hb2); (try clear hk); (try clear hi)) | ((with_reducible refine gate_dst (N := 6) rfl ?_); refine box_event ?hg (N := 6) ?hd (cs := #[.int .i64 0, .int .i64 0, .int .i64 0, .int .i64 0, .int .i64 0, .int .u64 0, .int .u64 0, .int .u64 0]) (t := 40) ?hr ?_; (case hd => rfl); (case hg => rfl); (case hr => first | (go_simp; done) | (go_simp; rfl)); intro gb156 hg w34 hbox hb; have n0_ := zqi (zqy BK144.out hb); have n1_ := zqi (zqy BK145.out hb); have n2_ := zqi (below_step (zqn HB.out) hb); have n3_ := zqi (hbox); have n4_ := zqi (zqo hg HB.out); have n5_ := zqi (zqo hg HB.out); have n6_ := zqi ((zqq hg BK144.out)); have n7_ := zqi ((zqr hg BK144.out)); have n8_ := zqi ((zqq hg BK145.out)); have n9_ := zqi ((zqr hg BK145.out)); clear BK144; clear BK145; clear HB; have BK144 := n0_; have BK145 := n1_; have HB := n2_; have BK156 := n3_; have GW156 := n4_; have GE156 := n5_; have NB144_156 := n6_; have NB156_144 := n7_; have NB145_156 := n8_; have NB156_145 := n9_; clear n0_ n1_ n2_ n3_ n4_ n5_ n6_ n7_ n8_ n9_; clear hb hbox hg; have hnb35 := NB156_144.out; have hnc35 := NB144_156.out; have hnb36 := NB156_145.out; have hnc36 := NB145_156.out; obtain ⟨hcz37_0, hcz37_1, hcz37_2, hcz37_3, hcz37_4, hcz37_5, hcz37_6, hcz37_7, hfz37_0, hfz37_1, hfz37_2, hfz37_3, hfz37_4, hfz37_5, hfz37_6, hfz37_7⟩ := zqz8 BK156.out; obtain ⟨hcz38_0, hcz38_1, hcz38_2, hcz38_3, hcz38_4, hcz38_5, hcz38_6, hcz38_7, hfz38_0, hfz38_1, hfz38_2, hfz38_3, hfz38_4, hfz38_5, hfz38_6, hfz38_7⟩ := zqz8 BK145.out)))
     refine bodyPost_ret (results_ct rfl _ _ gb145 40 #[.int .i64 t147, .int .i64 t148, .int .i64 t149, .int .i64 t150, .int .i64 t151, .int .u64 t152, .int .u64 t153, .int .u64 t154] (0, 0) _ rfl BK145.out Try.underlying40 rfl (by kernel_rfl)) rfl ?_
     exact ⟨by first | rfl | (simp [errW_none, errW_some] <;> rfl) | (simp [*, errW_none, errW_some] <;> rfl), by repeat (first | (with_reducible first | exact HB.out | apply zqg | apply zqf | apply zqh | refine below_set ?_ GE144.out | refine below_set ?_ GE145.out | refine below_set ?_ GE156.out) | exact HB.out)⟩

/-! ### relax_Covers: function 21 -/
def relax_Covers.f (a0_0 : Int) (a0_1 : Int) (a0_2 : Int) (a0_3 : Int) (a0_4 : Int) (a0_5 : Int) (a0_6 : Int) (a0_7 : Int) (a1_0 : Int) (a1_1 : Int) (a1_2 : Int) (a1_3 : Int) (a1_4 : Int) (a1_5 : Int) (a1_6 : Int) (a1_7 : Int) : Option (Bool) := if a0_0 = a1_0 then ((set_Within.f a0_5 a1_5).bind fun t160 => (if t160 = true then ((set_Within.f a0_7 a1_7).bind fun t161 => (if t161 = true then ((set_Within.f a1_6 a0_6).bind fun t162 => (if t162 = true then (if a0_1 ≤ a1_1 then (if a0_2 ≤ a1_2 then (if a0_3 ≤ a1_3 then (some (decide (a0_4 ≤ a1_4))) else (some false)) else (some false)) else (some false)) else (some false))) else (some false))) else (some false))) else (some false)
set_option maxHeartbeats 16000000 in
set_option maxRecDepth 100000 in
theorem relax_Covers.calls (a0_0 : Int) (a0_1 : Int) (a0_2 : Int) (a0_3 : Int) (a0_4 : Int) (a0_5 : Int) (a0_6 : Int) (a0_7 : Int) (a1_0 : Int) (a1_1 : Int) (a1_2 : Int) (a1_3 : Int) (a1_4 : Int) (a1_5 : Int) (a1_6 : Int) (a1_7 : Int) (r : Bool) (w : World) (h : relax_Covers.f a0_0 a0_1 a0_2 a0_3 a0_4 a0_5 a0_6 a0_7 a1_0 a1_1 a1_2 a1_3 a1_4 a1_5 a1_6 a1_7 = some r) :
  Calls Try.prog 21 #[.agg #[.int .i64 a0_0, .int .i64 a0_1, .int .i64 a0_2, .int .i64 a0_3, .int .i64 a0_4, .int .u64 a0_5, .int .u64 a0_6, .int .u64 a0_7], .agg #[.int .i64 a1_0, .int .i64 a1_1, .int .i64 a1_2, .int .i64 a1_3, .int .i64 a1_4, .int .u64 a1_5, .int .u64 a1_6, .int .u64 a1_7]] w fun e w' => e = .returned (.bool r) ∧ Below w.heap.size w w' := by
 have hu40 := Try.underlying40
 have HB := zqi (Below.refl w.heap.size w)
 have H : (if a0_0 = a1_0 then ((set_Within.f a0_5 a1_5).bind fun t160 => (if t160 = true then ((set_Within.f a0_7 a1_7).bind fun t161 => (if t161 = true then ((set_Within.f a1_6 a0_6).bind fun t162 => (if t162 = true then (if a0_1 ≤ a1_1 then (if a0_2 ≤ a1_2 then (if a0_3 ≤ a1_3 then (some (decide (a0_4 ≤ a1_4))) else (some false)) else (some false)) else (some false)) else (some false))) else (some false))) else (some false))) else (some false)) = some r := h
 clear h
 by_cases c3 : a0_0 = a1_0
 ·
  rw [if_pos c3] at H
  have c3b0 : (a0_0 == a1_0) = true := beq_iff_eq.mpr c3
  have c3b1 : (a0_0 != a1_0) = false := bne_eq_false_iff_eq.mpr c3
  clear c3
  replace H := Option.bind_eq_some_iff.mp H
  obtain ⟨t160, A40, H⟩ := H
  replace H : (if t160 = true then ((set_Within.f a0_7 a1_7).bind fun t161 => (if t161 = true then ((set_Within.f a1_6 a0_6).bind fun t162 => (if t162 = true then (if a0_1 ≤ a1_1 then (if a0_2 ≤ a1_2 then (if a0_3 ≤ a1_3 then (some (decide (a0_4 ≤ a1_4))) else (some false)) else (some false)) else (some false)) else (some false))) else (some false))) else (some false)) = some r := H
  have A4 := zqi A40
  clear A40
  by_cases c5 : t160 = true
  ·
   subst c5
   have H1 : ((set_Within.f a0_7 a1_7).bind fun t161 => (if t161 = true then ((set_Within.f a1_6 a0_6).bind fun t162 => (if t162 = true then (if a0_1 ≤ a1_1 then (if a0_2 ≤ a1_2 then (if a0_3 ≤ a1_3 then (some (decide (a0_4 ≤ a1_4))) else (some false)) else (some false)) else (some false)) else (some false))) else (some false))) = some r := by rw [if_pos rfl] at H; exact H
   clear H
   have H := H1
   clear H1
   replace H := Option.bind_eq_some_iff.mp H
   obtain ⟨t161, A60, H⟩ := H
   replace H : (if t161 = true then ((set_Within.f a1_6 a0_6).bind fun t162 => (if t162 = true then (if a0_1 ≤ a1_1 then (if a0_2 ≤ a1_2 then (if a0_3 ≤ a1_3 then (some (decide (a0_4 ≤ a1_4))) else (some false)) else (some false)) else (some false)) else (some false))) else (some false)) = some r := H
   have A6 := zqi A60
   clear A60
   by_cases c7 : t161 = true
   ·
    subst c7
    have H1 : ((set_Within.f a1_6 a0_6).bind fun t162 => (if t162 = true then (if a0_1 ≤ a1_1 then (if a0_2 ≤ a1_2 then (if a0_3 ≤ a1_3 then (some (decide (a0_4 ≤ a1_4))) else (some false)) else (some false)) else (some false)) else (some false))) = some r := by rw [if_pos rfl] at H; exact H
    clear H
    have H := H1
    clear H1
    replace H := Option.bind_eq_some_iff.mp H
    obtain ⟨t162, A80, H⟩ := H
    replace H : (if t162 = true then (if a0_1 ≤ a1_1 then (if a0_2 ≤ a1_2 then (if a0_3 ≤ a1_3 then (some (decide (a0_4 ≤ a1_4))) else (some false)) else (some false)) else (some false)) else (some false)) = some r := H
    have A8 := zqi A80
    clear A80
    by_cases c9 : t162 = true
    ·
     subst c9
     have H1 : (if a0_1 ≤ a1_1 then (if a0_2 ≤ a1_2 then (if a0_3 ≤ a1_3 then (some (decide (a0_4 ≤ a1_4))) else (some false)) else (some false)) else (some false)) = some r := by rw [if_pos rfl] at H; exact H
     clear H
     have H := H1
     clear H1
     by_cases c10 : a0_1 ≤ a1_1
     ·
      rw [if_pos c10] at H
      have c10b0 : decide (a0_1 ≤ a1_1) = true := decide_eq_true c10
      clear c10
      by_cases c11 : a0_2 ≤ a1_2
      ·
       rw [if_pos c11] at H
       have c11b0 : decide (a0_2 ≤ a1_2) = true := decide_eq_true c11
       clear c11
       by_cases c12 : a0_3 ≤ a1_3
       ·
        rw [if_pos c12] at H
        have c12b0 : decide (a0_3 ≤ a1_3) = true := decide_eq_true c12
        clear c12
        obtain rfl := Option.some.inj H
        go_enter Try.func21, Try.ntmps21
        go_wp2_with (first | ((with_reducible refine gate_dst (N := 2) rfl ?_); refine box_event ?hg (N := 2) ?hd (cs := #[.int .i64 a0_0, .int .i64 a0_1, .int .i64 a0_2, .int .i64 a0_3, .int .i64 a0_4, .int .u64 a0_5, .int .u64 a0_6, .int .u64 a0_7]) (t := 40) ?hr ?_; (case hd => rfl); (case hg => rfl); (case hr => first | (go_simp; done) | (go_simp; rfl)); intro gb158 hg w13 hbox hb; have n0_ := zqi (below_step (zqn HB.out) hb); have n1_ := zqi (hbox); have n2_ := zqi (zqo hg HB.out); have n3_ := zqi (zqo hg HB.out); clear HB; have HB := n0_; have BK158 := n1_; have GW158 := n2_; have GE158 := n3_; clear n0_ n1_ n2_ n3_; clear hb hbox hg) | ((with_reducible refine gate_dst (N := 3) rfl ?_); refine box_event ?hg (N := 3) ?hd (cs := #[.int .i64 a1_0, .int .i64 a1_1, .int .i64 a1_2, .int .i64 a1_3, .int .i64 a1_4, .int .u64 a1_5, .int .u64 a1_6, .int .u64 a1_7]) (t := 40) ?hr ?_; (case hd => rfl); (case hg => rfl); (case hr => first | (go_simp; done) | (go_simp; rfl)); intro gb159 hg w14 hbox hb; have n0_ := zqi (zqy BK158.out hb); have n1_ := zqi (below_step (zqn HB.out) hb); have n2_ := zqi (hbox); have n3_ := zqi (zqo hg HB.out); have n4_ := zqi (zqo hg HB.out); have n5_ := zqi ((zqq hg BK158.out)); have n6_ := zqi ((zqr hg BK158.out)); clear BK158; clear HB; have BK158 := n0_; have HB := n1_; have BK159 := n2_; have GW159 := n3_; have GE159 := n4_; have NB158_159 := n5_; have NB159_158 := n6_; clear n0_ n1_ n2_ n3_ n4_ n5_ n6_; clear hb hbox hg; have hnb15 := NB158_159.out; have hnc15 := NB159_158.out; obtain ⟨hcz16_0, hcz16_1, hcz16_2, hcz16_3, hcz16_4, hcz16_5, hcz16_6, hcz16_7, hfz16_0, hfz16_1, hfz16_2, hfz16_3, hfz16_4, hfz16_5, hfz16_6, hfz16_7⟩ := zqz8 BK158.out; obtain ⟨hcz17_0, hcz17_1, hcz17_2, hcz17_3, hcz17_4, hcz17_5, hcz17_6, hcz17_7, hfz17_0, hfz17_1, hfz17_2, hfz17_3, hfz17_4, hfz17_5, hfz17_6, hfz17_7⟩ := zqz8 BK159.out) | (go_at_call 36; (with_reducible refine (set_Within.calls a0_5 a1_5 true _ A4.out).mono ?_); rintro e w' ⟨rfl, ⟨nd, rfl⟩⟩) | (go_at_call 36; (with_reducible refine (set_Within.calls a0_7 a1_7 true _ A6.out).mono ?_); rintro e w' ⟨rfl, ⟨nd, rfl⟩⟩) | (go_at_call 36; (with_reducible refine (set_Within.calls a1_6 a0_6 true _ A8.out).mono ?_); rintro e w' ⟨rfl, ⟨nd, rfl⟩⟩))
        go_ret
        exact ⟨by first | rfl | (simp [errW_none, errW_some] <;> rfl) | (simp [*, errW_none, errW_some] <;> rfl), by repeat (first | (with_reducible first | exact HB.out | apply zqg | apply zqf | apply zqh | refine below_set ?_ GE158.out | refine below_set ?_ GE159.out) | exact HB.out)⟩
       ·
        rw [if_neg c12] at H
        have c12b0 : decide (a0_3 ≤ a1_3) = false := decide_eq_false c12
        clear c12
        obtain rfl := Option.some.inj H
        go_enter Try.func21, Try.ntmps21
        go_wp2_with (first | ((with_reducible refine gate_dst (N := 2) rfl ?_); refine box_event ?hg (N := 2) ?hd (cs := #[.int .i64 a0_0, .int .i64 a0_1, .int .i64 a0_2, .int .i64 a0_3, .int .i64 a0_4, .int .u64 a0_5, .int .u64 a0_6, .int .u64 a0_7]) (t := 40) ?hr ?_; (case hd => rfl); (case hg => rfl); (case hr => first | (go_simp; done) | (go_simp; rfl)); intro gb158 hg w18 hbox hb; have n0_ := zqi (below_step (zqn HB.out) hb); have n1_ := zqi (hbox); have n2_ := zqi (zqo hg HB.out); have n3_ := zqi (zqo hg HB.out); clear HB; have HB := n0_; have BK158 := n1_; have GW158 := n2_; have GE158 := n3_; clear n0_ n1_ n2_ n3_; clear hb hbox hg) | ((with_reducible refine gate_dst (N := 3) rfl ?_); refine box_event ?hg (N := 3) ?hd (cs := #[.int .i64 a1_0, .int .i64 a1_1, .int .i64 a1_2, .int .i64 a1_3, .int .i64 a1_4, .int .u64 a1_5, .int .u64 a1_6, .int .u64 a1_7]) (t := 40) ?hr ?_; (case hd => rfl); (case hg => rfl); (case hr => first | (go_simp; done) | (go_simp; rfl)); intro gb159 hg w19 hbox hb; have n0_ := zqi (zqy BK158.out hb); have n1_ := zqi (below_step (zqn HB.out) hb); have n2_ := zqi (hbox); have n3_ := zqi (zqo hg HB.out); have n4_ := zqi (zqo hg HB.out); have n5_ := zqi ((zqq hg BK158.out)); have n6_ := zqi ((zqr hg BK158.out)); clear BK158; clear HB; have BK158 := n0_; have HB := n1_; have BK159 := n2_; have GW159 := n3_; have GE159 := n4_; have NB158_159 := n5_; have NB159_158 := n6_; clear n0_ n1_ n2_ n3_ n4_ n5_ n6_; clear hb hbox hg; have hnb20 := NB158_159.out; have hnc20 := NB159_158.out; obtain ⟨hcz21_0, hcz21_1, hcz21_2, hcz21_3, hcz21_4, hcz21_5, hcz21_6, hcz21_7, hfz21_0, hfz21_1, hfz21_2, hfz21_3, hfz21_4, hfz21_5, hfz21_6, hfz21_7⟩ := zqz8 BK158.out; obtain ⟨hcz22_0, hcz22_1, hcz22_2, hcz22_3, hcz22_4, hcz22_5, hcz22_6, hcz22_7, hfz22_0, hfz22_1, hfz22_2, hfz22_3, hfz22_4, hfz22_5, hfz22_6, hfz22_7⟩ := zqz8 BK159.out) | (go_at_call 36; (with_reducible refine (set_Within.calls a0_5 a1_5 true _ A4.out).mono ?_); rintro e w' ⟨rfl, ⟨nd, rfl⟩⟩) | (go_at_call 36; (with_reducible refine (set_Within.calls a0_7 a1_7 true _ A6.out).mono ?_); rintro e w' ⟨rfl, ⟨nd, rfl⟩⟩) | (go_at_call 36; (with_reducible refine (set_Within.calls a1_6 a0_6 true _ A8.out).mono ?_); rintro e w' ⟨rfl, ⟨nd, rfl⟩⟩))
        go_ret
        exact ⟨by first | rfl | (simp [errW_none, errW_some] <;> rfl) | (simp [*, errW_none, errW_some] <;> rfl), by repeat (first | (with_reducible first | exact HB.out | apply zqg | apply zqf | apply zqh | refine below_set ?_ GE158.out | refine below_set ?_ GE159.out) | exact HB.out)⟩
      ·
       rw [if_neg c11] at H
       have c11b0 : decide (a0_2 ≤ a1_2) = false := decide_eq_false c11
       clear c11
       obtain rfl := Option.some.inj H
       go_enter Try.func21, Try.ntmps21
       go_wp2_with (first | ((with_reducible refine gate_dst (N := 2) rfl ?_); refine box_event ?hg (N := 2) ?hd (cs := #[.int .i64 a0_0, .int .i64 a0_1, .int .i64 a0_2, .int .i64 a0_3, .int .i64 a0_4, .int .u64 a0_5, .int .u64 a0_6, .int .u64 a0_7]) (t := 40) ?hr ?_; (case hd => rfl); (case hg => rfl); (case hr => first | (go_simp; done) | (go_simp; rfl)); intro gb158 hg w23 hbox hb; have n0_ := zqi (below_step (zqn HB.out) hb); have n1_ := zqi (hbox); have n2_ := zqi (zqo hg HB.out); have n3_ := zqi (zqo hg HB.out); clear HB; have HB := n0_; have BK158 := n1_; have GW158 := n2_; have GE158 := n3_; clear n0_ n1_ n2_ n3_; clear hb hbox hg) | ((with_reducible refine gate_dst (N := 3) rfl ?_); refine box_event ?hg (N := 3) ?hd (cs := #[.int .i64 a1_0, .int .i64 a1_1, .int .i64 a1_2, .int .i64 a1_3, .int .i64 a1_4, .int .u64 a1_5, .int .u64 a1_6, .int .u64 a1_7]) (t := 40) ?hr ?_; (case hd => rfl); (case hg => rfl); (case hr => first | (go_simp; done) | (go_simp; rfl)); intro gb159 hg w24 hbox hb; have n0_ := zqi (zqy BK158.out hb); have n1_ := zqi (below_step (zqn HB.out) hb); have n2_ := zqi (hbox); have n3_ := zqi (zqo hg HB.out); have n4_ := zqi (zqo hg HB.out); have n5_ := zqi ((zqq hg BK158.out)); have n6_ := zqi ((zqr hg BK158.out)); clear BK158; clear HB; have BK158 := n0_; have HB := n1_; have BK159 := n2_; have GW159 := n3_; have GE159 := n4_; have NB158_159 := n5_; have NB159_158 := n6_; clear n0_ n1_ n2_ n3_ n4_ n5_ n6_; clear hb hbox hg; have hnb25 := NB158_159.out; have hnc25 := NB159_158.out; obtain ⟨hcz26_0, hcz26_1, hcz26_2, hcz26_3, hcz26_4, hcz26_5, hcz26_6, hcz26_7, hfz26_0, hfz26_1, hfz26_2, hfz26_3, hfz26_4, hfz26_5, hfz26_6, hfz26_7⟩ := zqz8 BK158.out; obtain ⟨hcz27_0, hcz27_1, hcz27_2, hcz27_3, hcz27_4, hcz27_5, hcz27_6, hcz27_7, hfz27_0, hfz27_1, hfz27_2, hfz27_3, hfz27_4, hfz27_5, hfz27_6, hfz27_7⟩ := zqz8 BK159.out) | (go_at_call 36; (with_reducible refine (set_Within.calls a0_5 a1_5 true _ A4.out).mono ?_); rintro e w' ⟨rfl, ⟨nd, rfl⟩⟩) | (go_at_call 36; (with_reducible refine (set_Within.calls a0_7 a1_7 true _ A6.out).mono ?_); rintro e w' ⟨rfl, ⟨nd, rfl⟩⟩) | (go_at_call 36; (with_reducible refine (set_Within.calls a1_6 a0_6 true _ A8.out).mono ?_); rintro e w' ⟨rfl, ⟨nd, rfl⟩⟩))
       go_ret
       exact ⟨by first | rfl | (simp [errW_none, errW_some] <;> rfl) | (simp [*, errW_none, errW_some] <;> rfl), by repeat (first | (with_reducible first | exact HB.out | apply zqg | apply zqf | apply zqh | refine below_set ?_ GE158.out | refine below_set ?_ GE159.out) | exact HB.out)⟩
     ·
      rw [if_neg c10] at H
      have c10b0 : decide (a0_1 ≤ a1_1) = false := decide_eq_false c10
      clear c10
      obtain rfl := Option.some.inj H
      go_enter Try.func21, Try.ntmps21
      go_wp2_with (first | ((with_reducible refine gate_dst (N := 2) rfl ?_); refine box_event ?hg (N := 2) ?hd (cs := #[.int .i64 a0_0, .int .i64 a0_1, .int .i64 a0_2, .int .i64 a0_3, .int .i64 a0_4, .int .u64 a0_5, .int .u64 a0_6, .int .u64 a0_7]) (t := 40) ?hr ?_; (case hd => rfl); (case hg => rfl); (case hr => first | (go_simp; done) | (go_simp; rfl)); intro gb158 hg w28 hbox hb; have n0_ := zqi (below_step (zqn HB.out) hb); have n1_ := zqi (hbox); have n2_ := zqi (zqo hg HB.out); have n3_ := zqi (zqo hg HB.out); clear HB; have HB := n0_; have BK158 := n1_; have GW158 := n2_; have GE158 := n3_; clear n0_ n1_ n2_ n3_; clear hb hbox hg) | ((with_reducible refine gate_dst (N := 3) rfl ?_); refine box_event ?hg (N := 3) ?hd (cs := #[.int .i64 a1_0, .int .i64 a1_1, .int .i64 a1_2, .int .i64 a1_3, .int .i64 a1_4, .int .u64 a1_5, .int .u64 a1_6, .int .u64 a1_7]) (t := 40) ?hr ?_; (case hd => rfl); (case hg => rfl); (case hr => first | (go_simp; done) | (go_simp; rfl)); intro gb159 hg w29 hbox hb; have n0_ := zqi (zqy BK158.out hb); have n1_ := zqi (below_step (zqn HB.out) hb); have n2_ := zqi (hbox); have n3_ := zqi (zqo hg HB.out); have n4_ := zqi (zqo hg HB.out); have n5_ := zqi ((zqq hg BK158.out)); have n6_ := zqi ((zqr hg BK158.out)); clear BK158; clear HB; have BK158 := n0_; have HB := n1_; have BK159 := n2_; have GW159 := n3_; have GE159 := n4_; have NB158_159 := n5_; have NB159_158 := n6_; clear n0_ n1_ n2_ n3_ n4_ n5_ n6_; clear hb hbox hg; have hnb30 := NB158_159.out; have hnc30 := NB159_158.out; obtain ⟨hcz31_0, hcz31_1, hcz31_2, hcz31_3, hcz31_4, hcz31_5, hcz31_6, hcz31_7, hfz31_0, hfz31_1, hfz31_2, hfz31_3, hfz31_4, hfz31_5, hfz31_6, hfz31_7⟩ := zqz8 BK158.out; obtain ⟨hcz32_0, hcz32_1, hcz32_2, hcz32_3, hcz32_4, hcz32_5, hcz32_6, hcz32_7, hfz32_0, hfz32_1, hfz32_2, hfz32_3, hfz32_4, hfz32_5, hfz32_6, hfz32_7⟩ := zqz8 BK159.out) | (go_at_call 36; (with_reducible refine (set_Within.calls a0_5 a1_5 true _ A4.out).mono ?_); rintro e w' ⟨rfl, ⟨nd, rfl⟩⟩) | (go_at_call 36; (with_reducible refine (set_Within.calls a0_7 a1_7 true _ A6.out).mono ?_); rintro e w' ⟨rfl, ⟨nd, rfl⟩⟩) | (go_at_call 36; (with_reducible refine (set_Within.calls a1_6 a0_6 true _ A8.out).mono ?_); rintro e w' ⟨rfl, ⟨nd, rfl⟩⟩))
      go_ret
      exact ⟨by first | rfl | (simp [errW_none, errW_some] <;> rfl) | (simp [*, errW_none, errW_some] <;> rfl), by repeat (first | (with_reducible first | exact HB.out | apply zqg | apply zqf | apply zqh | refine below_set ?_ GE158.out | refine below_set ?_ GE159.out) | exact HB.out)⟩
    ·
     replace c9 := Bool.eq_false_iff.mpr c9
     subst c9
     have H1 : (some false) = some r := by rw [if_neg (show ¬ (false = true) by decide)] at H; exact H
     clear H
     have H := H1
     clear H1
     obtain rfl := Option.some.inj H
     go_enter Try.func21, Try.ntmps21
     go_wp2_with (first | ((with_reducible refine gate_dst (N := 2) rfl ?_); refine box_event ?hg (N := 2) ?hd (cs := #[.int .i64 a0_0, .int .i64 a0_1, .int .i64 a0_2, .int .i64 a0_3, .int .i64 a0_4, .int .u64 a0_5, .int .u64 a0_6, .int .u64 a0_7]) (t := 40) ?hr ?_; (case hd => rfl); (case hg => rfl); (case hr => first | (go_simp; done) | (go_simp; rfl)); intro gb158 hg w33 hbox hb; have n0_ := zqi (below_step (zqn HB.out) hb); have n1_ := zqi (hbox); have n2_ := zqi (zqo hg HB.out); have n3_ := zqi (zqo hg HB.out); clear HB; have HB := n0_; have BK158 := n1_; have GW158 := n2_; have GE158 := n3_; clear n0_ n1_ n2_ n3_; clear hb hbox hg) | ((with_reducible refine gate_dst (N := 3) rfl ?_); refine box_event ?hg (N := 3) ?hd (cs := #[.int .i64 a1_0, .int .i64 a1_1, .int .i64 a1_2, .int .i64 a1_3, .int .i64 a1_4, .int .u64 a1_5, .int .u64 a1_6, .int .u64 a1_7]) (t := 40) ?hr ?_; (case hd => rfl); (case hg => rfl); (case hr => first | (go_simp; done) | (go_simp; rfl)); intro gb159 hg w34 hbox hb; have n0_ := zqi (zqy BK158.out hb); have n1_ := zqi (below_step (zqn HB.out) hb); have n2_ := zqi (hbox); have n3_ := zqi (zqo hg HB.out); have n4_ := zqi (zqo hg HB.out); have n5_ := zqi ((zqq hg BK158.out)); have n6_ := zqi ((zqr hg BK158.out)); clear BK158; clear HB; have BK158 := n0_; have HB := n1_; have BK159 := n2_; have GW159 := n3_; have GE159 := n4_; have NB158_159 := n5_; have NB159_158 := n6_; clear n0_ n1_ n2_ n3_ n4_ n5_ n6_; clear hb hbox hg; have hnb35 := NB158_159.out; have hnc35 := NB159_158.out; obtain ⟨hcz36_0, hcz36_1, hcz36_2, hcz36_3, hcz36_4, hcz36_5, hcz36_6, hcz36_7, hfz36_0, hfz36_1, hfz36_2, hfz36_3, hfz36_4, hfz36_5, hfz36_6, hfz36_7⟩ := zqz8 BK158.out; obtain ⟨hcz37_0, hcz37_1, hcz37_2, hcz37_3, hcz37_4, hcz37_5, hcz37_6, hcz37_7, hfz37_0, hfz37_1, hfz37_2, hfz37_3, hfz37_4, hfz37_5, hfz37_6, hfz37_7⟩ := zqz8 BK159.out) | (go_at_call 36; (with_reducible refine (set_Within.calls a0_5 a1_5 true _ A4.out).mono ?_); rintro e w' ⟨rfl, ⟨nd, rfl⟩⟩) | (go_at_call 36; (with_reducible refine (set_Within.calls a0_7 a1_7 true _ A6.out).mono ?_); rintro e w' ⟨rfl, ⟨nd, rfl⟩⟩) | (go_at_call 36; (with_reducible refine (set_Within.calls a1_6 a0_6 false _ A8.out).mono ?_); rintro e w' ⟨rfl, ⟨nd, rfl⟩⟩))
     go_ret
     exact ⟨by first | rfl | (simp [errW_none, errW_some] <;> rfl) | (simp [*, errW_none, errW_some] <;> rfl), by repeat (first | (with_reducible first | exact HB.out | apply zqg | apply zqf | apply zqh | refine below_set ?_ GE158.out | refine below_set ?_ GE159.out) | exact HB.out)⟩
   ·
    replace c7 := Bool.eq_false_iff.mpr c7
    subst c7
    have H1 : (some false) = some r := by rw [if_neg (show ¬ (false = true) by decide)] at H; exact H
    clear H
    have H := H1
    clear H1
    obtain rfl := Option.some.inj H
    go_enter Try.func21, Try.ntmps21
    go_wp2_with (first | ((with_reducible refine gate_dst (N := 2) rfl ?_); refine box_event ?hg (N := 2) ?hd (cs := #[.int .i64 a0_0, .int .i64 a0_1, .int .i64 a0_2, .int .i64 a0_3, .int .i64 a0_4, .int .u64 a0_5, .int .u64 a0_6, .int .u64 a0_7]) (t := 40) ?hr ?_; (case hd => rfl); (case hg => rfl); (case hr => first | (go_simp; done) | (go_simp; rfl)); intro gb158 hg w38 hbox hb; have n0_ := zqi (below_step (zqn HB.out) hb); have n1_ := zqi (hbox); have n2_ := zqi (zqo hg HB.out); have n3_ := zqi (zqo hg HB.out); clear HB; have HB := n0_; have BK158 := n1_; have GW158 := n2_; have GE158 := n3_; clear n0_ n1_ n2_ n3_; clear hb hbox hg) | ((with_reducible refine gate_dst (N := 3) rfl ?_); refine box_event ?hg (N := 3) ?hd (cs := #[.int .i64 a1_0, .int .i64 a1_1, .int .i64 a1_2, .int .i64 a1_3, .int .i64 a1_4, .int .u64 a1_5, .int .u64 a1_6, .int .u64 a1_7]) (t := 40) ?hr ?_; (case hd => rfl); (case hg => rfl); (case hr => first | (go_simp; done) | (go_simp; rfl)); intro gb159 hg w39 hbox hb; have n0_ := zqi (zqy BK158.out hb); have n1_ := zqi (below_step (zqn HB.out) hb); have n2_ := zqi (hbox); have n3_ := zqi (zqo hg HB.out); have n4_ := zqi (zqo hg HB.out); have n5_ := zqi ((zqq hg BK158.out)); have n6_ := zqi ((zqr hg BK158.out)); clear BK158; clear HB; have BK158 := n0_; have HB := n1_; have BK159 := n2_; have GW159 := n3_; have GE159 := n4_; have NB158_159 := n5_; have NB159_158 := n6_; clear n0_ n1_ n2_ n3_ n4_ n5_ n6_; clear hb hbox hg; have hnb40 := NB158_159.out; have hnc40 := NB159_158.out; obtain ⟨hcz41_0, hcz41_1, hcz41_2, hcz41_3, hcz41_4, hcz41_5, hcz41_6, hcz41_7, hfz41_0, hfz41_1, hfz41_2, hfz41_3, hfz41_4, hfz41_5, hfz41_6, hfz41_7⟩ := zqz8 BK158.out; obtain ⟨hcz42_0, hcz42_1, hcz42_2, hcz42_3, hcz42_4, hcz42_5, hcz42_6, hcz42_7, hfz42_0, hfz42_1, hfz42_2, hfz42_3, hfz42_4, hfz42_5, hfz42_6, hfz42_7⟩ := zqz8 BK159.out) | (go_at_call 36; (with_reducible refine (set_Within.calls a0_5 a1_5 true _ A4.out).mono ?_); rintro e w' ⟨rfl, ⟨nd, rfl⟩⟩) | (go_at_call 36; (with_reducible refine (set_Within.calls a0_7 a1_7 false _ A6.out).mono ?_); rintro e w' ⟨rfl, ⟨nd, rfl⟩⟩))
    go_ret
    exact ⟨by first | rfl | (simp [errW_none, errW_some] <;> rfl) | (simp [*, errW_none, errW_some] <;> rfl), by repeat (first | (with_reducible first | exact HB.out | apply zqg | apply zqf | apply zqh | refine below_set ?_ GE158.out | refine below_set ?_ GE159.out) | exact HB.out)⟩
  ·
   replace c5 := Bool.eq_false_iff.mpr c5
   subst c5
   have H1 : (some false) = some r := by rw [if_neg (show ¬ (false = true) by decide)] at H; exact H
   clear H
   have H := H1
   clear H1
   obtain rfl := Option.some.inj H
   go_enter Try.func21, Try.ntmps21
   go_wp2_with (first | ((with_reducible refine gate_dst (N := 2) rfl ?_); refine box_event ?hg (N := 2) ?hd (cs := #[.int .i64 a0_0, .int .i64 a0_1, .int .i64 a0_2, .int .i64 a0_3, .int .i64 a0_4, .int .u64 a0_5, .int .u64 a0_6, .int .u64 a0_7]) (t := 40) ?hr ?_; (case hd => rfl); (case hg => rfl); (case hr => first | (go_simp; done) | (go_simp; rfl)); intro gb158 hg w43 hbox hb; have n0_ := zqi (below_step (zqn HB.out) hb); have n1_ := zqi (hbox); have n2_ := zqi (zqo hg HB.out); have n3_ := zqi (zqo hg HB.out); clear HB; have HB := n0_; have BK158 := n1_; have GW158 := n2_; have GE158 := n3_; clear n0_ n1_ n2_ n3_; clear hb hbox hg) | ((with_reducible refine gate_dst (N := 3) rfl ?_); refine box_event ?hg (N := 3) ?hd (cs := #[.int .i64 a1_0, .int .i64 a1_1, .int .i64 a1_2, .int .i64 a1_3, .int .i64 a1_4, .int .u64 a1_5, .int .u64 a1_6, .int .u64 a1_7]) (t := 40) ?hr ?_; (case hd => rfl); (case hg => rfl); (case hr => first | (go_simp; done) | (go_simp; rfl)); intro gb159 hg w44 hbox hb; have n0_ := zqi (zqy BK158.out hb); have n1_ := zqi (below_step (zqn HB.out) hb); have n2_ := zqi (hbox); have n3_ := zqi (zqo hg HB.out); have n4_ := zqi (zqo hg HB.out); have n5_ := zqi ((zqq hg BK158.out)); have n6_ := zqi ((zqr hg BK158.out)); clear BK158; clear HB; have BK158 := n0_; have HB := n1_; have BK159 := n2_; have GW159 := n3_; have GE159 := n4_; have NB158_159 := n5_; have NB159_158 := n6_; clear n0_ n1_ n2_ n3_ n4_ n5_ n6_; clear hb hbox hg; have hnb45 := NB158_159.out; have hnc45 := NB159_158.out; obtain ⟨hcz46_0, hcz46_1, hcz46_2, hcz46_3, hcz46_4, hcz46_5, hcz46_6, hcz46_7, hfz46_0, hfz46_1, hfz46_2, hfz46_3, hfz46_4, hfz46_5, hfz46_6, hfz46_7⟩ := zqz8 BK158.out; obtain ⟨hcz47_0, hcz47_1, hcz47_2, hcz47_3, hcz47_4, hcz47_5, hcz47_6, hcz47_7, hfz47_0, hfz47_1, hfz47_2, hfz47_3, hfz47_4, hfz47_5, hfz47_6, hfz47_7⟩ := zqz8 BK159.out) | (go_at_call 36; (with_reducible refine (set_Within.calls a0_5 a1_5 false _ A4.out).mono ?_); rintro e w' ⟨rfl, ⟨nd, rfl⟩⟩))
   go_ret
   exact ⟨by first | rfl | (simp [errW_none, errW_some] <;> rfl) | (simp [*, errW_none, errW_some] <;> rfl), by repeat (first | (with_reducible first | exact HB.out | apply zqg | apply zqf | apply zqh | refine below_set ?_ GE158.out | refine below_set ?_ GE159.out) | exact HB.out)⟩
 ·
  rw [if_neg c3] at H
  have c3b0 : (a0_0 == a1_0) = false := beq_eq_false_iff_ne.mpr c3
  have c3b1 : (a0_0 != a1_0) = true := bne_iff_ne.mpr c3
  obtain rfl := Option.some.inj H
  go_enter Try.func21, Try.ntmps21
  go_wp2_with (first | ((with_reducible refine gate_dst (N := 2) rfl ?_); refine box_event ?hg (N := 2) ?hd (cs := #[.int .i64 a0_0, .int .i64 a0_1, .int .i64 a0_2, .int .i64 a0_3, .int .i64 a0_4, .int .u64 a0_5, .int .u64 a0_6, .int .u64 a0_7]) (t := 40) ?hr ?_; (case hd => rfl); (case hg => rfl); (case hr => first | (go_simp; done) | (go_simp; rfl)); intro gb158 hg w48 hbox hb; have n0_ := zqi (below_step (zqn HB.out) hb); have n1_ := zqi (hbox); have n2_ := zqi (zqo hg HB.out); have n3_ := zqi (zqo hg HB.out); clear HB; have HB := n0_; have BK158 := n1_; have GW158 := n2_; have GE158 := n3_; clear n0_ n1_ n2_ n3_; clear hb hbox hg) | ((with_reducible refine gate_dst (N := 3) rfl ?_); refine box_event ?hg (N := 3) ?hd (cs := #[.int .i64 a1_0, .int .i64 a1_1, .int .i64 a1_2, .int .i64 a1_3, .int .i64 a1_4, .int .u64 a1_5, .int .u64 a1_6, .int .u64 a1_7]) (t := 40) ?hr ?_; (case hd => rfl); (case hg => rfl); (case hr => first | (go_simp; done) | (go_simp; rfl)); intro gb159 hg w49 hbox hb; have n0_ := zqi (zqy BK158.out hb); have n1_ := zqi (below_step (zqn HB.out) hb); have n2_ := zqi (hbox); have n3_ := zqi (zqo hg HB.out); have n4_ := zqi (zqo hg HB.out); have n5_ := zqi ((zqq hg BK158.out)); have n6_ := zqi ((zqr hg BK158.out)); clear BK158; clear HB; have BK158 := n0_; have HB := n1_; have BK159 := n2_; have GW159 := n3_; have GE159 := n4_; have NB158_159 := n5_; have NB159_158 := n6_; clear n0_ n1_ n2_ n3_ n4_ n5_ n6_; clear hb hbox hg; have hnb50 := NB158_159.out; have hnc50 := NB159_158.out; obtain ⟨hcz51_0, hcz51_1, hcz51_2, hcz51_3, hcz51_4, hcz51_5, hcz51_6, hcz51_7, hfz51_0, hfz51_1, hfz51_2, hfz51_3, hfz51_4, hfz51_5, hfz51_6, hfz51_7⟩ := zqz8 BK158.out; obtain ⟨hcz52_0, hcz52_1, hcz52_2, hcz52_3, hcz52_4, hcz52_5, hcz52_6, hcz52_7, hfz52_0, hfz52_1, hfz52_2, hfz52_3, hfz52_4, hfz52_5, hfz52_6, hfz52_7⟩ := zqz8 BK159.out))
  go_ret
  exact ⟨by first | rfl | (simp [errW_none, errW_some] <;> rfl) | (simp [*, errW_none, errW_some] <;> rfl), by repeat (first | (with_reducible first | exact HB.out | apply zqg | apply zqf | apply zqh | refine below_set ?_ GE158.out | refine below_set ?_ GE159.out) | exact HB.out)⟩

-- NOT PRINTED: function 50 (relax_each)

end Go.Proofs.Ytjiammiihamkiaa.PB
