-- Printed for this claim by wip/tools/xprint.py over the kit's print; the contracts marked BY HAND are this session's own.
import Derived.Test.YtjiammiihamkiaaPCx0
namespace Go.Proofs.Ytjiammiihamkiaa.PC
open Go.RowKit Go.Proofs.YtjiammiihamkiaaW.PrintWords Go.Proofs.YtjiammiihamkiaaW.PrintLast Go.Proofs.YtjiammiihamkiaaW.PrintMore
attribute [local go_sem] max2_int min2_int max_two min_two max_three min_three max_four min_four   -- for this text's walks alone
set_option linter.unusedVariables false
set_option linter.unusedSimpArgs false

/-! ### set_Within: function 36 -/
def set_Within.f (a0 : Int) (a1 : Int) : Option (Bool) := some ((Go.bits .andNot .u64 a0 a1) == 0)
set_option maxHeartbeats 8000000 in
set_option maxRecDepth 100000 in
theorem set_Within.calls (a0 : Int) (a1 : Int) (r : Bool) (w : World) (h : set_Within.f a0 a1 = some r) :
    Calls Try.prog 36 #[.int .u64 a0, .int .u64 a1] w fun e w' => e = .returned (.bool r) ∧ Drawn0 w w' := by
  have H : (some ((Go.bits .andNot .u64 a0 a1) == 0)) = some r := h
  clear h
  obtain rfl := Option.some.inj H
  go_enter Try.func36, Try.ntmps36
  go_wp2
  go_ret
  exact ⟨by first | rfl | (simp; done) | (simp [*]; done), by repeat (first | exact Drawn0.refl _ | apply Drawn0.step)⟩

/-! ### relax_Covers: function 21 -/
def relax_Covers.f (a0_0 : Int) (a0_1 : Int) (a0_2 : Int) (a0_3 : Int) (a0_4 : Int) (a0_5 : Int) (a0_6 : Int) (a0_7 : Int) (a1_0 : Int) (a1_1 : Int) (a1_2 : Int) (a1_3 : Int) (a1_4 : Int) (a1_5 : Int) (a1_6 : Int) (a1_7 : Int) : Option (Bool) := if a0_0 = a1_0 then ((set_Within.f a0_5 a1_5).bind fun t103 => (if t103 = true then ((set_Within.f a0_7 a1_7).bind fun t104 => (if t104 = true then ((set_Within.f a1_6 a0_6).bind fun t105 => (if t105 = true then (if a0_1 ≤ a1_1 then (if a0_2 ≤ a1_2 then (if a0_3 ≤ a1_3 then (some (decide (a0_4 ≤ a1_4))) else (some false)) else (some false)) else (some false)) else (some false))) else (some false))) else (some false))) else (some false)
set_option maxHeartbeats 16000000 in
set_option maxRecDepth 100000 in
theorem relax_Covers.calls (a0_0 : Int) (a0_1 : Int) (a0_2 : Int) (a0_3 : Int) (a0_4 : Int) (a0_5 : Int) (a0_6 : Int) (a0_7 : Int) (a1_0 : Int) (a1_1 : Int) (a1_2 : Int) (a1_3 : Int) (a1_4 : Int) (a1_5 : Int) (a1_6 : Int) (a1_7 : Int) (r : Bool) (w : World) (h : relax_Covers.f a0_0 a0_1 a0_2 a0_3 a0_4 a0_5 a0_6 a0_7 a1_0 a1_1 a1_2 a1_3 a1_4 a1_5 a1_6 a1_7 = some r) :
  Calls Try.prog 21 #[.agg #[.int .i64 a0_0, .int .i64 a0_1, .int .i64 a0_2, .int .i64 a0_3, .int .i64 a0_4, .int .u64 a0_5, .int .u64 a0_6, .int .u64 a0_7], .agg #[.int .i64 a1_0, .int .i64 a1_1, .int .i64 a1_2, .int .i64 a1_3, .int .i64 a1_4, .int .u64 a1_5, .int .u64 a1_6, .int .u64 a1_7]] w fun e w' => e = .returned (.bool r) ∧ Below w.heap.size w w' := by
 have hu40 := Try.underlying40
 have HB := zqi (Below.refl w.heap.size w)
 have H : (if a0_0 = a1_0 then ((set_Within.f a0_5 a1_5).bind fun t103 => (if t103 = true then ((set_Within.f a0_7 a1_7).bind fun t104 => (if t104 = true then ((set_Within.f a1_6 a0_6).bind fun t105 => (if t105 = true then (if a0_1 ≤ a1_1 then (if a0_2 ≤ a1_2 then (if a0_3 ≤ a1_3 then (some (decide (a0_4 ≤ a1_4))) else (some false)) else (some false)) else (some false)) else (some false))) else (some false))) else (some false))) else (some false)) = some r := h
 clear h
 by_cases c3 : a0_0 = a1_0
 ·
  rw [if_pos c3] at H
  have c3b0 : (a0_0 == a1_0) = true := beq_iff_eq.mpr c3
  have c3b1 : (a0_0 != a1_0) = false := bne_eq_false_iff_eq.mpr c3
  clear c3
  replace H := Option.bind_eq_some_iff.mp H
  obtain ⟨t103, A40, H⟩ := H
  replace H : (if t103 = true then ((set_Within.f a0_7 a1_7).bind fun t104 => (if t104 = true then ((set_Within.f a1_6 a0_6).bind fun t105 => (if t105 = true then (if a0_1 ≤ a1_1 then (if a0_2 ≤ a1_2 then (if a0_3 ≤ a1_3 then (some (decide (a0_4 ≤ a1_4))) else (some false)) else (some false)) else (some false)) else (some false))) else (some false))) else (some false)) = some r := H
  have A4 := zqi A40
  clear A40
  by_cases c5 : t103 = true
  ·
   subst c5
   have H1 : ((set_Within.f a0_7 a1_7).bind fun t104 => (if t104 = true then ((set_Within.f a1_6 a0_6).bind fun t105 => (if t105 = true then (if a0_1 ≤ a1_1 then (if a0_2 ≤ a1_2 then (if a0_3 ≤ a1_3 then (some (decide (a0_4 ≤ a1_4))) else (some false)) else (some false)) else (some false)) else (some false))) else (some false))) = some r := by rw [if_pos rfl] at H; exact H
   clear H
   have H := H1
   clear H1
   replace H := Option.bind_eq_some_iff.mp H
   obtain ⟨t104, A60, H⟩ := H
   replace H : (if t104 = true then ((set_Within.f a1_6 a0_6).bind fun t105 => (if t105 = true then (if a0_1 ≤ a1_1 then (if a0_2 ≤ a1_2 then (if a0_3 ≤ a1_3 then (some (decide (a0_4 ≤ a1_4))) else (some false)) else (some false)) else (some false)) else (some false))) else (some false)) = some r := H
   have A6 := zqi A60
   clear A60
   by_cases c7 : t104 = true
   ·
    subst c7
    have H1 : ((set_Within.f a1_6 a0_6).bind fun t105 => (if t105 = true then (if a0_1 ≤ a1_1 then (if a0_2 ≤ a1_2 then (if a0_3 ≤ a1_3 then (some (decide (a0_4 ≤ a1_4))) else (some false)) else (some false)) else (some false)) else (some false))) = some r := by rw [if_pos rfl] at H; exact H
    clear H
    have H := H1
    clear H1
    replace H := Option.bind_eq_some_iff.mp H
    obtain ⟨t105, A80, H⟩ := H
    replace H : (if t105 = true then (if a0_1 ≤ a1_1 then (if a0_2 ≤ a1_2 then (if a0_3 ≤ a1_3 then (some (decide (a0_4 ≤ a1_4))) else (some false)) else (some false)) else (some false)) else (some false)) = some r := H
    have A8 := zqi A80
    clear A80
    by_cases c9 : t105 = true
    ·
     subst c9
     have H1 : (if a0_1 ≤ a1_1 then (if a0_2 ≤ a1_2 then (if a0_3 ≤ a1_3 then (some (decide (a0_4 ≤ a1_4))) else (some false)) else (some false)) else (some false)) = some r := by rw [if_pos rfl] at H; exact H
     clear H
     have H := H1
     clear H1
     by_cases c10 : a0_1 ≤ a1_1
     ·
      rw [if_pos c10] at H
      have c10b0 : decide (a0_1 ≤ a1_1) = true := decide_eq_true c10
      clear c10
      by_cases c11 : a0_2 ≤ a1_2
      ·
       rw [if_pos c11] at H
       have c11b0 : decide (a0_2 ≤ a1_2) = true := decide_eq_true c11
       clear c11
       by_cases c12 : a0_3 ≤ a1_3
       ·
        rw [if_pos c12] at H
        have c12b0 : decide (a0_3 ≤ a1_3) = true := decide_eq_true c12
        clear c12
        obtain rfl := Option.some.inj H
        go_enter Try.func21, Try.ntmps21
        go_wp2_with (first | ((with_reducible refine gate_dst (N := 2) rfl ?_); refine box_event ?hg (N := 2) ?hd (cs := #[.int .i64 a0_0, .int .i64 a0_1, .int .i64 a0_2, .int .i64 a0_3, .int .i64 a0_4, .int .u64 a0_5, .int .u64 a0_6, .int .u64 a0_7]) (t := 40) ?hr ?_; (case hd => rfl); (case hg => rfl); (case hr => first | (go_simp; done) | (go_simp; rfl)); intro gb101 hg w13 hbox hb; have n0_ := zqi (below_step (zqn HB.out) hb); have n1_ := zqi (hbox); have n2_ := zqi (zqo hg HB.out); have n3_ := zqi (zqo hg HB.out); clear HB; have HB := n0_; have BK101 := n1_; have GW101 := n2_; have GE101 := n3_; clear n0_ n1_ n2_ n3_; clear hb hbox hg) | ((with_reducible refine gate_dst (N := 3) rfl ?_); refine box_event ?hg (N := 3) ?hd (cs := #[.int .i64 a1_0, .int .i64 a1_1, .int .i64 a1_2, .int .i64 a1_3, .int .i64 a1_4, .int .u64 a1_5, .int .u64 a1_6, .int .u64 a1_7]) (t := 40) ?hr ?_; (case hd => rfl); (case hg => rfl); (case hr => first | (go_simp; done) | (go_simp; rfl)); intro gb102 hg w14 hbox hb; have n0_ := zqi (zqy BK101.out hb); have n1_ := zqi (below_step (zqn HB.out) hb); have n2_ := zqi (hbox); have n3_ := zqi (zqo hg HB.out); have n4_ := zqi (zqo hg HB.out); have n5_ := zqi ((zqq hg BK101.out)); have n6_ := zqi ((zqr hg BK101.out)); clear BK101; clear HB; have BK101 := n0_; have HB := n1_; have BK102 := n2_; have GW102 := n3_; have GE102 := n4_; have NB101_102 := n5_; have NB102_101 := n6_; clear n0_ n1_ n2_ n3_ n4_ n5_ n6_; clear hb hbox hg; have hnb15 := NB101_102.out; have hnc15 := NB102_101.out; obtain ⟨hcz16_0, hcz16_1, hcz16_2, hcz16_3, hcz16_4, hcz16_5, hcz16_6, hcz16_7, hfz16_0, hfz16_1, hfz16_2, hfz16_3, hfz16_4, hfz16_5, hfz16_6, hfz16_7⟩ := zqz8 BK101.out; obtain ⟨hcz17_0, hcz17_1, hcz17_2, hcz17_3, hcz17_4, hcz17_5, hcz17_6, hcz17_7, hfz17_0, hfz17_1, hfz17_2, hfz17_3, hfz17_4, hfz17_5, hfz17_6, hfz17_7⟩ := zqz8 BK102.out) | (go_at_call 36; (with_reducible refine (set_Within.calls a0_5 a1_5 true _ A4.out).mono ?_); rintro e w' ⟨rfl, ⟨nd, rfl⟩⟩) | (go_at_call 36; (with_reducible refine (set_Within.calls a0_7 a1_7 true _ A6.out).mono ?_); rintro e w' ⟨rfl, ⟨nd, rfl⟩⟩) | (go_at_call 36; (with_reducible refine (set_Within.calls a1_6 a0_6 true _ A8.out).mono ?_); rintro e w' ⟨rfl, ⟨nd, rfl⟩⟩))
        go_ret
        exact ⟨by first | rfl | (simp [errW_none, errW_some] <;> rfl) | (simp [*, errW_none, errW_some] <;> rfl), by repeat (first | (with_reducible first | exact HB.out | apply zqg | apply zqf | apply zqh | refine below_set ?_ GE101.out | refine below_set ?_ GE102.out) | exact HB.out)⟩
       ·
        rw [if_neg c12] at H
        have c12b0 : decide (a0_3 ≤ a1_3) = false := decide_eq_false c12
        clear c12
        obtain rfl := Option.some.inj H
        go_enter Try.func21, Try.ntmps21
        go_wp2_with (first | ((with_reducible refine gate_dst (N := 2) rfl ?_); refine box_event ?hg (N := 2) ?hd (cs := #[.int .i64 a0_0, .int .i64 a0_1, .int .i64 a0_2, .int .i64 a0_3, .int .i64 a0_4, .int .u64 a0_5, .int .u64 a0_6, .int .u64 a0_7]) (t := 40) ?hr ?_; (case hd => rfl); (case hg => rfl); (case hr => first | (go_simp; done) | (go_simp; rfl)); intro gb101 hg w18 hbox hb; have n0_ := zqi (below_step (zqn HB.out) hb); have n1_ := zqi (hbox); have n2_ := zqi (zqo hg HB.out); have n3_ := zqi (zqo hg HB.out); clear HB; have HB := n0_; have BK101 := n1_; have GW101 := n2_; have GE101 := n3_; clear n0_ n1_ n2_ n3_; clear hb hbox hg) | ((with_reducible refine gate_dst (N := 3) rfl ?_); refine box_event ?hg (N := 3) ?hd (cs := #[.int .i64 a1_0, .int .i64 a1_1, .int .i64 a1_2, .int .i64 a1_3, .int .i64 a1_4, .int .u64 a1_5, .int .u64 a1_6, .int .u64 a1_7]) (t := 40) ?hr ?_; (case hd => rfl); (case hg => rfl); (case hr => first | (go_simp; done) | (go_simp; rfl)); intro gb102 hg w19 hbox hb; have n0_ := zqi (zqy BK101.out hb); have n1_ := zqi (below_step (zqn HB.out) hb); have n2_ := zqi (hbox); have n3_ := zqi (zqo hg HB.out); have n4_ := zqi (zqo hg HB.out); have n5_ := zqi ((zqq hg BK101.out)); have n6_ := zqi ((zqr hg BK101.out)); clear BK101; clear HB; have BK101 := n0_; have HB := n1_; have BK102 := n2_; have GW102 := n3_; have GE102 := n4_; have NB101_102 := n5_; have NB102_101 := n6_; clear n0_ n1_ n2_ n3_ n4_ n5_ n6_; clear hb hbox hg; have hnb20 := NB101_102.out; have hnc20 := NB102_101.out; obtain ⟨hcz21_0, hcz21_1, hcz21_2, hcz21_3, hcz21_4, hcz21_5, hcz21_6, hcz21_7, hfz21_0, hfz21_1, hfz21_2, hfz21_3, hfz21_4, hfz21_5, hfz21_6, hfz21_7⟩ := zqz8 BK101.out; obtain ⟨hcz22_0, hcz22_1, hcz22_2, hcz22_3, hcz22_4, hcz22_5, hcz22_6, hcz22_7, hfz22_0, hfz22_1, hfz22_2, hfz22_3, hfz22_4, hfz22_5, hfz22_6, hfz22_7⟩ := zqz8 BK102.out) | (go_at_call 36; (with_reducible refine (set_Within.calls a0_5 a1_5 true _ A4.out).mono ?_); rintro e w' ⟨rfl, ⟨nd, rfl⟩⟩) | (go_at_call 36; (with_reducible refine (set_Within.calls a0_7 a1_7 true _ A6.out).mono ?_); rintro e w' ⟨rfl, ⟨nd, rfl⟩⟩) | (go_at_call 36; (with_reducible refine (set_Within.calls a1_6 a0_6 true _ A8.out).mono ?_); rintro e w' ⟨rfl, ⟨nd, rfl⟩⟩))
        go_ret
        exact ⟨by first | rfl | (simp [errW_none, errW_some] <;> rfl) | (simp [*, errW_none, errW_some] <;> rfl), by repeat (first | (with_reducible first | exact HB.out | apply zqg | apply zqf | apply zqh | refine below_set ?_ GE101.out | refine below_set ?_ GE102.out) | exact HB.out)⟩
      ·
       rw [if_neg c11] at H
       have c11b0 : decide (a0_2 ≤ a1_2) = false := decide_eq_false c11
       clear c11
       obtain rfl := Option.some.inj H
       go_enter Try.func21, Try.ntmps21
       go_wp2_with (first | ((with_reducible refine gate_dst (N := 2) rfl ?_); refine box_event ?hg (N := 2) ?hd (cs := #[.int .i64 a0_0, .int .i64 a0_1, .int .i64 a0_2, .int .i64 a0_3, .int .i64 a0_4, .int .u64 a0_5, .int .u64 a0_6, .int .u64 a0_7]) (t := 40) ?hr ?_; (case hd => rfl); (case hg => rfl); (case hr => first | (go_simp; done) | (go_simp; rfl)); intro gb101 hg w23 hbox hb; have n0_ := zqi (below_step (zqn HB.out) hb); have n1_ := zqi (hbox); have n2_ := zqi (zqo hg HB.out); have n3_ := zqi (zqo hg HB.out); clear HB; have HB := n0_; have BK101 := n1_; have GW101 := n2_; have GE101 := n3_; clear n0_ n1_ n2_ n3_; clear hb hbox hg) | ((with_reducible refine gate_dst (N := 3) rfl ?_); refine box_event ?hg (N := 3) ?hd (cs := #[.int .i64 a1_0, .int .i64 a1_1, .int .i64 a1_2, .int .i64 a1_3, .int .i64 a1_4, .int .u64 a1_5, .int .u64 a1_6, .int .u64 a1_7]) (t := 40) ?hr ?_; (case hd => rfl); (case hg => rfl); (case hr => first | (go_simp; done) | (go_simp; rfl)); intro gb102 hg w24 hbox hb; have n0_ := zqi (zqy BK101.out hb); have n1_ := zqi (below_step (zqn HB.out) hb); have n2_ := zqi (hbox); have n3_ := zqi (zqo hg HB.out); have n4_ := zqi (zqo hg HB.out); have n5_ := zqi ((zqq hg BK101.out)); have n6_ := zqi ((zqr hg BK101.out)); clear BK101; clear HB; have BK101 := n0_; have HB := n1_; have BK102 := n2_; have GW102 := n3_; have GE102 := n4_; have NB101_102 := n5_; have NB102_101 := n6_; clear n0_ n1_ n2_ n3_ n4_ n5_ n6_; clear hb hbox hg; have hnb25 := NB101_102.out; have hnc25 := NB102_101.out; obtain ⟨hcz26_0, hcz26_1, hcz26_2, hcz26_3, hcz26_4, hcz26_5, hcz26_6, hcz26_7, hfz26_0, hfz26_1, hfz26_2, hfz26_3, hfz26_4, hfz26_5, hfz26_6, hfz26_7⟩ := zqz8 BK101.out; obtain ⟨hcz27_0, hcz27_1, hcz27_2, hcz27_3, hcz27_4, hcz27_5, hcz27_6, hcz27_7, hfz27_0, hfz27_1, hfz27_2, hfz27_3, hfz27_4, hfz27_5, hfz27_6, hfz27_7⟩ := zqz8 BK102.out) | (go_at_call 36; (with_reducible refine (set_Within.calls a0_5 a1_5 true _ A4.out).mono ?_); rintro e w' ⟨rfl, ⟨nd, rfl⟩⟩) | (go_at_call 36; (with_reducible refine (set_Within.calls a0_7 a1_7 true _ A6.out).mono ?_); rintro e w' ⟨rfl, ⟨nd, rfl⟩⟩) | (go_at_call 36; (with_reducible refine (set_Within.calls a1_6 a0_6 true _ A8.out).mono ?_); rintro e w' ⟨rfl, ⟨nd, rfl⟩⟩))
       go_ret
       exact ⟨by first | rfl | (simp [errW_none, errW_some] <;> rfl) | (simp [*, errW_none, errW_some] <;> rfl), by repeat (first | (with_reducible first | exact HB.out | apply zqg | apply zqf | apply zqh | refine below_set ?_ GE101.out | refine below_set ?_ GE102.out) | exact HB.out)⟩
     ·
      rw [if_neg c10] at H
      have c10b0 : decide (a0_1 ≤ a1_1) = false := decide_eq_false c10
      clear c10
      obtain rfl := Option.some.inj H
      go_enter Try.func21, Try.ntmps21
      go_wp2_with (first | ((with_reducible refine gate_dst (N := 2) rfl ?_); refine box_event ?hg (N := 2) ?hd (cs := #[.int .i64 a0_0, .int .i64 a0_1, .int .i64 a0_2, .int .i64 a0_3, .int .i64 a0_4, .int .u64 a0_5, .int .u64 a0_6, .int .u64 a0_7]) (t := 40) ?hr ?_; (case hd => rfl); (case hg => rfl); (case hr => first | (go_simp; done) | (go_simp; rfl)); intro gb101 hg w28 hbox hb; have n0_ := zqi (below_step (zqn HB.out) hb); have n1_ := zqi (hbox); have n2_ := zqi (zqo hg HB.out); have n3_ := zqi (zqo hg HB.out); clear HB; have HB := n0_; have BK101 := n1_; have GW101 := n2_; have GE101 := n3_; clear n0_ n1_ n2_ n3_; clear hb hbox hg) | ((with_reducible refine gate_dst (N := 3) rfl ?_); refine box_event ?hg (N := 3) ?hd (cs := #[.int .i64 a1_0, .int .i64 a1_1, .int .i64 a1_2, .int .i64 a1_3, .int .i64 a1_4, .int .u64 a1_5, .int .u64 a1_6, .int .u64 a1_7]) (t := 40) ?hr ?_; (case hd => rfl); (case hg => rfl); (case hr => first | (go_simp; done) | (go_simp; rfl)); intro gb102 hg w29 hbox hb; have n0_ := zqi (zqy BK101.out hb); have n1_ := zqi (below_step (zqn HB.out) hb); have n2_ := zqi (hbox); have n3_ := zqi (zqo hg HB.out); have n4_ := zqi (zqo hg HB.out); have n5_ := zqi ((zqq hg BK101.out)); have n6_ := zqi ((zqr hg BK101.out)); clear BK101; clear HB; have BK101 := n0_; have HB := n1_; have BK102 := n2_; have GW102 := n3_; have GE102 := n4_; have NB101_102 := n5_; have NB102_101 := n6_; clear n0_ n1_ n2_ n3_ n4_ n5_ n6_; clear hb hbox hg; have hnb30 := NB101_102.out; have hnc30 := NB102_101.out; obtain ⟨hcz31_0, hcz31_1, hcz31_2, hcz31_3, hcz31_4, hcz31_5, hcz31_6, hcz31_7, hfz31_0, hfz31_1, hfz31_2, hfz31_3, hfz31_4, hfz31_5, hfz31_6, hfz31_7⟩ := zqz8 BK101.out; obtain ⟨hcz32_0, hcz32_1, hcz32_2, hcz32_3, hcz32_4, hcz32_5, hcz32_6, hcz32_7, hfz32_0, hfz32_1, hfz32_2, hfz32_3, hfz32_4, hfz32_5, hfz32_6, hfz32_7⟩ := zqz8 BK102.out) | (go_at_call 36; (with_reducible refine (set_Within.calls a0_5 a1_5 true _ A4.out).mono ?_); rintro e w' ⟨rfl, ⟨nd, rfl⟩⟩) | (go_at_call 36; (with_reducible refine (set_Within.calls a0_7 a1_7 true _ A6.out).mono ?_); rintro e w' ⟨rfl, ⟨nd, rfl⟩⟩) | (go_at_call 36; (with_reducible refine (set_Within.calls a1_6 a0_6 true _ A8.out).mono ?_); rintro e w' ⟨rfl, ⟨nd, rfl⟩⟩))
      go_ret
      exact ⟨by first | rfl | (simp [errW_none, errW_some] <;> rfl) | (simp [*, errW_none, errW_some] <;> rfl), by repeat (first | (with_reducible first | exact HB.out | apply zqg | apply zqf | apply zqh | refine below_set ?_ GE101.out | refine below_set ?_ GE102.out) | exact HB.out)⟩
    ·
     replace c9 := Bool.eq_false_iff.mpr c9
     subst c9
     have H1 : (some false) = some r := by rw [if_neg (show ¬ (false = true) by decide)] at H; exact H
     clear H
     have H := H1
     clear H1
     obtain rfl := Option.some.inj H
     go_enter Try.func21, Try.ntmps21
     go_wp2_with (first | ((with_reducible refine gate_dst (N := 2) rfl ?_); refine box_event ?hg (N := 2) ?hd (cs := #[.int .i64 a0_0, .int .i64 a0_1, .int .i64 a0_2, .int .i64 a0_3, .int .i64 a0_4, .int .u64 a0_5, .int .u64 a0_6, .int .u64 a0_7]) (t := 40) ?hr ?_; (case hd => rfl); (case hg => rfl); (case hr => first | (go_simp; done) | (go_simp; rfl)); intro gb101 hg w33 hbox hb; have n0_ := zqi (below_step (zqn HB.out) hb); have n1_ := zqi (hbox); have n2_ := zqi (zqo hg HB.out); have n3_ := zqi (zqo hg HB.out); clear HB; have HB := n0_; have BK101 := n1_; have GW101 := n2_; have GE101 := n3_; clear n0_ n1_ n2_ n3_; clear hb hbox hg) | ((with_reducible refine gate_dst (N := 3) rfl ?_); refine box_event ?hg (N := 3) ?hd (cs := #[.int .i64 a1_0, .int .i64 a1_1, .int .i64 a1_2, .int .i64 a1_3, .int .i64 a1_4, .int .u64 a1_5, .int .u64 a1_6, .int .u64 a1_7]) (t := 40) ?hr ?_; (case hd => rfl); (case hg => rfl); (case hr => first | (go_simp; done) | (go_simp; rfl)); intro gb102 hg w34 hbox hb; have n0_ := zqi (zqy BK101.out hb); have n1_ := zqi (below_step (zqn HB.out) hb); have n2_ := zqi (hbox); have n3_ := zqi (zqo hg HB.out); have n4_ := zqi (zqo hg HB.out); have n5_ := zqi ((zqq hg BK101.out)); have n6_ := zqi ((zqr hg BK101.out)); clear BK101; clear HB; have BK101 := n0_; have HB := n1_; have BK102 := n2_; have GW102 := n3_; have GE102 := n4_; have NB101_102 := n5_; have NB102_101 := n6_; clear n0_ n1_ n2_ n3_ n4_ n5_ n6_; clear hb hbox hg; have hnb35 := NB101_102.out; have hnc35 := NB102_101.out; obtain ⟨hcz36_0, hcz36_1, hcz36_2, hcz36_3, hcz36_4, hcz36_5, hcz36_6, hcz36_7, hfz36_0, hfz36_1, hfz36_2, hfz36_3, hfz36_4, hfz36_5, hfz36_6, hfz36_7⟩ := zqz8 BK101.out; obtain ⟨hcz37_0, hcz37_1, hcz37_2, hcz37_3, hcz37_4, hcz37_5, hcz37_6, hcz37_7, hfz37_0, hfz37_1, hfz37_2, hfz37_3, hfz37_4, hfz37_5, hfz37_6, hfz37_7⟩ := zqz8 BK102.out) | (go_at_call 36; (with_reducible refine (set_Within.calls a0_5 a1_5 true _ A4.out).mono ?_); rintro e w' ⟨rfl, ⟨nd, rfl⟩⟩) | (go_at_call 36; (with_reducible refine (set_Within.calls a0_7 a1_7 true _ A6.out).mono ?_); rintro e w' ⟨rfl, ⟨nd, rfl⟩⟩) | (go_at_call 36; (with_reducible refine (set_Within.calls a1_6 a0_6 false _ A8.out).mono ?_); rintro e w' ⟨rfl, ⟨nd, rfl⟩⟩))
     go_ret
     exact ⟨by first | rfl | (simp [errW_none, errW_some] <;> rfl) | (simp [*, errW_none, errW_some] <;> rfl), by repeat (first | (with_reducible first | exact HB.out | apply zqg | apply zqf | apply zqh | refine below_set ?_ GE101.out | refine below_set ?_ GE102.out) | exact HB.out)⟩
   ·
    replace c7 := Bool.eq_false_iff.mpr c7
    subst c7
    have H1 : (some false) = some r := by rw [if_neg (show ¬ (false = true) by decide)] at H; exact H
    clear H
    have H := H1
    clear H1
    obtain rfl := Option.some.inj H
    go_enter Try.func21, Try.ntmps21
    go_wp2_with (first | ((with_reducible refine gate_dst (N := 2) rfl ?_); refine box_event ?hg (N := 2) ?hd (cs := #[.int .i64 a0_0, .int .i64 a0_1, .int .i64 a0_2, .int .i64 a0_3, .int .i64 a0_4, .int .u64 a0_5, .int .u64 a0_6, .int .u64 a0_7]) (t := 40) ?hr ?_; (case hd => rfl); (case hg => rfl); (case hr => first | (go_simp; done) | (go_simp; rfl)); intro gb101 hg w38 hbox hb; have n0_ := zqi (below_step (zqn HB.out) hb); have n1_ := zqi (hbox); have n2_ := zqi (zqo hg HB.out); have n3_ := zqi (zqo hg HB.out); clear HB; have HB := n0_; have BK101 := n1_; have GW101 := n2_; have GE101 := n3_; clear n0_ n1_ n2_ n3_; clear hb hbox hg) | ((with_reducible refine gate_dst (N := 3) rfl ?_); refine box_event ?hg (N := 3) ?hd (cs := #[.int .i64 a1_0, .int .i64 a1_1, .int .i64 a1_2, .int .i64 a1_3, .int .i64 a1_4, .int .u64 a1_5, .int .u64 a1_6, .int .u64 a1_7]) (t := 40) ?hr ?_; (case hd => rfl); (case hg => rfl); (case hr => first | (go_simp; done) | (go_simp; rfl)); intro gb102 hg w39 hbox hb; have n0_ := zqi (zqy BK101.out hb); have n1_ := zqi (below_step (zqn HB.out) hb); have n2_ := zqi (hbox); have n3_ := zqi (zqo hg HB.out); have n4_ := zqi (zqo hg HB.out); have n5_ := zqi ((zqq hg BK101.out)); have n6_ := zqi ((zqr hg BK101.out)); clear BK101; clear HB; have BK101 := n0_; have HB := n1_; have BK102 := n2_; have GW102 := n3_; have GE102 := n4_; have NB101_102 := n5_; have NB102_101 := n6_; clear n0_ n1_ n2_ n3_ n4_ n5_ n6_; clear hb hbox hg; have hnb40 := NB101_102.out; have hnc40 := NB102_101.out; obtain ⟨hcz41_0, hcz41_1, hcz41_2, hcz41_3, hcz41_4, hcz41_5, hcz41_6, hcz41_7, hfz41_0, hfz41_1, hfz41_2, hfz41_3, hfz41_4, hfz41_5, hfz41_6, hfz41_7⟩ := zqz8 BK101.out; obtain ⟨hcz42_0, hcz42_1, hcz42_2, hcz42_3, hcz42_4, hcz42_5, hcz42_6, hcz42_7, hfz42_0, hfz42_1, hfz42_2, hfz42_3, hfz42_4, hfz42_5, hfz42_6, hfz42_7⟩ := zqz8 BK102.out) | (go_at_call 36; (with_reducible refine (set_Within.calls a0_5 a1_5 true _ A4.out).mono ?_); rintro e w' ⟨rfl, ⟨nd, rfl⟩⟩) | (go_at_call 36; (with_reducible refine (set_Within.calls a0_7 a1_7 false _ A6.out).mono ?_); rintro e w' ⟨rfl, ⟨nd, rfl⟩⟩))
    go_ret
    exact ⟨by first | rfl | (simp [errW_none, errW_some] <;> rfl) | (simp [*, errW_none, errW_some] <;> rfl), by repeat (first | (with_reducible first | exact HB.out | apply zqg | apply zqf | apply zqh | refine below_set ?_ GE101.out | refine below_set ?_ GE102.out) | exact HB.out)⟩
  ·
   replace c5 := Bool.eq_false_iff.mpr c5
   subst c5
   have H1 : (some false) = some r := by rw [if_neg (show ¬ (false = true) by decide)] at H; exact H
   clear H
   have H := H1
   clear H1
   obtain rfl := Option.some.inj H
   go_enter Try.func21, Try.ntmps21
   go_wp2_with (first | ((with_reducible refine gate_dst (N := 2) rfl ?_); refine box_event ?hg (N := 2) ?hd (cs := #[.int .i64 a0_0, .int .i64 a0_1, .int .i64 a0_2, .int .i64 a0_3, .int .i64 a0_4, .int .u64 a0_5, .int .u64 a0_6, .int .u64 a0_7]) (t := 40) ?hr ?_; (case hd => rfl); (case hg => rfl); (case hr => first | (go_simp; done) | (go_simp; rfl)); intro gb101 hg w43 hbox hb; have n0_ := zqi (below_step (zqn HB.out) hb); have n1_ := zqi (hbox); have n2_ := zqi (zqo hg HB.out); have n3_ := zqi (zqo hg HB.out); clear HB; have HB := n0_; have BK101 := n1_; have GW101 := n2_; have GE101 := n3_; clear n0_ n1_ n2_ n3_; clear hb hbox hg) | ((with_reducible refine gate_dst (N := 3) rfl ?_); refine box_event ?hg (N := 3) ?hd (cs := #[.int .i64 a1_0, .int .i64 a1_1, .int .i64 a1_2, .int .i64 a1_3, .int .i64 a1_4, .int .u64 a1_5, .int .u64 a1_6, .int .u64 a1_7]) (t := 40) ?hr ?_; (case hd => rfl); (case hg => rfl); (case hr => first | (go_simp; done) | (go_simp; rfl)); intro gb102 hg w44 hbox hb; have n0_ := zqi (zqy BK101.out hb); have n1_ := zqi (below_step (zqn HB.out) hb); have n2_ := zqi (hbox); have n3_ := zqi (zqo hg HB.out); have n4_ := zqi (zqo hg HB.out); have n5_ := zqi ((zqq hg BK101.out)); have n6_ := zqi ((zqr hg BK101.out)); clear BK101; clear HB; have BK101 := n0_; have HB := n1_; have BK102 := n2_; have GW102 := n3_; have GE102 := n4_; have NB101_102 := n5_; have NB102_101 := n6_; clear n0_ n1_ n2_ n3_ n4_ n5_ n6_; clear hb hbox hg; have hnb45 := NB101_102.out; have hnc45 := NB102_101.out; obtain ⟨hcz46_0, hcz46_1, hcz46_2, hcz46_3, hcz46_4, hcz46_5, hcz46_6, hcz46_7, hfz46_0, hfz46_1, hfz46_2, hfz46_3, hfz46_4, hfz46_5, hfz46_6, hfz46_7⟩ := zqz8 BK101.out; obtain ⟨hcz47_0, hcz47_1, hcz47_2, hcz47_3, hcz47_4, hcz47_5, hcz47_6, hcz47_7, hfz47_0, hfz47_1, hfz47_2, hfz47_3, hfz47_4, hfz47_5, hfz47_6, hfz47_7⟩ := zqz8 BK102.out) | (go_at_call 36; (with_reducible refine (set_Within.calls a0_5 a1_5 false _ A4.out).mono ?_); rintro e w' ⟨rfl, ⟨nd, rfl⟩⟩))
   go_ret
   exact ⟨by first | rfl | (simp [errW_none, errW_some] <;> rfl) | (simp [*, errW_none, errW_some] <;> rfl), by repeat (first | (with_reducible first | exact HB.out | apply zqg | apply zqf | apply zqh | refine below_set ?_ GE101.out | refine below_set ?_ GE102.out) | exact HB.out)⟩
 ·
  rw [if_neg c3] at H
  have c3b0 : (a0_0 == a1_0) = false := beq_eq_false_iff_ne.mpr c3
  have c3b1 : (a0_0 != a1_0) = true := bne_iff_ne.mpr c3
  obtain rfl := Option.some.inj H
  go_enter Try.func21, Try.ntmps21
  go_wp2_with (first | ((with_reducible refine gate_dst (N := 2) rfl ?_); refine box_event ?hg (N := 2) ?hd (cs := #[.int .i64 a0_0, .int .i64 a0_1, .int .i64 a0_2, .int .i64 a0_3, .int .i64 a0_4, .int .u64 a0_5, .int .u64 a0_6, .int .u64 a0_7]) (t := 40) ?hr ?_; (case hd => rfl); (case hg => rfl); (case hr => first | (go_simp; done) | (go_simp; rfl)); intro gb101 hg w48 hbox hb; have n0_ := zqi (below_step (zqn HB.out) hb); have n1_ := zqi (hbox); have n2_ := zqi (zqo hg HB.out); have n3_ := zqi (zqo hg HB.out); clear HB; have HB := n0_; have BK101 := n1_; have GW101 := n2_; have GE101 := n3_; clear n0_ n1_ n2_ n3_; clear hb hbox hg) | ((with_reducible refine gate_dst (N := 3) rfl ?_); refine box_event ?hg (N := 3) ?hd (cs := #[.int .i64 a1_0, .int .i64 a1_1, .int .i64 a1_2, .int .i64 a1_3, .int .i64 a1_4, .int .u64 a1_5, .int .u64 a1_6, .int .u64 a1_7]) (t := 40) ?hr ?_; (case hd => rfl); (case hg => rfl); (case hr => first | (go_simp; done) | (go_simp; rfl)); intro gb102 hg w49 hbox hb; have n0_ := zqi (zqy BK101.out hb); have n1_ := zqi (below_step (zqn HB.out) hb); have n2_ := zqi (hbox); have n3_ := zqi (zqo hg HB.out); have n4_ := zqi (zqo hg HB.out); have n5_ := zqi ((zqq hg BK101.out)); have n6_ := zqi ((zqr hg BK101.out)); clear BK101; clear HB; have BK101 := n0_; have HB := n1_; have BK102 := n2_; have GW102 := n3_; have GE102 := n4_; have NB101_102 := n5_; have NB102_101 := n6_; clear n0_ n1_ n2_ n3_ n4_ n5_ n6_; clear hb hbox hg; have hnb50 := NB101_102.out; have hnc50 := NB102_101.out; obtain ⟨hcz51_0, hcz51_1, hcz51_2, hcz51_3, hcz51_4, hcz51_5, hcz51_6, hcz51_7, hfz51_0, hfz51_1, hfz51_2, hfz51_3, hfz51_4, hfz51_5, hfz51_6, hfz51_7⟩ := zqz8 BK101.out; obtain ⟨hcz52_0, hcz52_1, hcz52_2, hcz52_3, hcz52_4, hcz52_5, hcz52_6, hcz52_7, hfz52_0, hfz52_1, hfz52_2, hfz52_3, hfz52_4, hfz52_5, hfz52_6, hfz52_7⟩ := zqz8 BK102.out))
  go_ret
  exact ⟨by first | rfl | (simp [errW_none, errW_some] <;> rfl) | (simp [*, errW_none, errW_some] <;> rfl), by repeat (first | (with_reducible first | exact HB.out | apply zqg | apply zqf | apply zqh | refine below_set ?_ GE101.out | refine below_set ?_ GE102.out) | exact HB.out)⟩

-- NOT PRINTED: function 43 (better_sets)

/-! ### better_Than: function 26, BY HAND -/
theorem eq3 (a b c a' b' c' : Int) (w : World) : (binOp .eql 75 (.agg #[.int .u64 a, .int .u64 b, .int .u64 c]) (.agg #[.int .u64 a', .int .u64 b', .int .u64 c'])).run Try.prog w = .ok (.bool (a == a' && (b == b' && c == c'))) w := by
  have hi : (Try.prog.info? 38).map (·.size) = some 1 := by kernel_rfl
  obtain ⟨i, hi, _⟩ := Option.map_eq_some_iff.1 hi
  have hc : Try.prog.cellsOf 38 = 1 := by kernel_rfl
  have pe : ∀ (d : Nat) (x y : Int), (Op.equalIn (d + 1) 38 (.int .u64 x) (.int .u64 y)).run Try.prog w = .ok (x == y) w := fun d x y => run_equalIn_int w d 38 .u64 .u64 x y Try.underlying38
  have part_ : ∀ (xs : Array Value) (j : Nat) (x : Int), xs[j]? = some (.int .u64 x) → (part 38 xs j).run Try.prog w = .ok (.int .u64 x) w := by
    intro xs j x h
    simp [part, isAgg, run_underlying Try.underlying38, h]
  rw [run_eql_struct, run_equalIn_array w 9999 _ _ Try.underlying75 hi, hc]
  have go1 : ∀ (xs ys : Array Value) (j : Nat) (js : List Nat) (x y : Int), xs[j * 1]? = some (.int .u64 x) → ys[j * 1]? = some (.int .u64 y) →
      (Op.eqItems 9999 38 1 xs ys (j :: js)).run Try.prog w = if (x == y) = true then (Op.eqItems 9999 38 1 xs ys js).run Try.prog w else .ok false w := by
    intro xs ys j js x y hx hy
    rw [Op.eqItems]
    simp only [Sem.run_bind, part_ _ _ _ hx, part_ _ _ _ hy, Result.andThen_ok, pe 9998]
    cases (x == y) <;> simp
  rw [show List.range 3 = [0, 1, 2] from rfl, go1 _ _ 0 _ a a' rfl rfl, go1 _ _ 1 _ b b' rfl rfl, go1 _ _ 2 _ c c' rfl rfl]
  cases (a == a') <;> cases (b == b') <;> cases (c == c') <;> simp [Op.eqItems]
theorem better_sets.is (a0_0 a0_1 a0_2 a0_3 a0_4 a0_5 a0_6 a0_7 : Int) (w : World) : Calls Try.prog 43 #[.agg #[.int .i64 a0_0, .int .i64 a0_1, .int .i64 a0_2, .int .i64 a0_3, .int .i64 a0_4, .int .u64 a0_5, .int .u64 a0_6, .int .u64 a0_7]] w fun e w' => e = .returned (.agg #[.int .u64 a0_5, .int .u64 a0_6, .int .u64 a0_7]) ∧ Below w.heap.size w w' := by
  go_enter Try.func43, Try.ntmps43
  go_wp2
  refine bodyPost_ret (results_single rfl (.cell (w.heap.size + 1) 75 #[.int .u64 a0_5, .int .u64 a0_6, .int .u64 a0_7] (0, 0) _ rfl (by first | exact blk_new _ _ | (have e := blk_new (w.alloc (.cells #[.int .i64 a0_0, .int .i64 a0_1, .int .i64 a0_2, .int .i64 a0_3, .int .i64 a0_4, .int .u64 a0_5, .int .u64 a0_6, .int .u64 a0_7] 40)) (.cells #[.int .u64 a0_5, .int .u64 a0_6, .int .u64 a0_7] 75 (0, 0)); rwa [World.size_alloc] at e)) Try.underlying75 rfl (by kernel_rfl) .nil)) rfl ?_
  exact ⟨rfl, below_alloc (below_alloc (Below.refl _ _) _) _⟩
def better_Than.f (a0_0 a0_1 a0_2 a0_3 a0_4 a0_5 a0_6 a0_7 a0_8 : Int) (l0_9 : List Int) (a1_0 a1_1 a1_2 a1_3 a1_4 a1_5 a1_6 a1_7 a1_8 : Int) (l1_9 : List Int) : Option Bool :=
  if a0_8 ≤ a1_8 then (if (a0_5 == a1_5 && (a0_6 == a1_6 && a0_7 == a1_7)) = true then relax_Covers.f a0_0 a0_1 a0_2 a0_3 a0_4 a0_5 a0_6 a0_7 a1_0 a1_1 a1_2 a1_3 a1_4 a1_5 a1_6 a1_7 else some false) else some false
theorem core_cells {w : World} {A : Option Addr} {n c : Nat} (a0_0 a0_1 a0_2 a0_3 a0_4 a0_5 a0_6 a0_7 a0_8 : Int) {g : Nat} (h : w.heap[g]? = some (.cells #[.int .i64 a0_0, .int .i64 a0_1, .int .i64 a0_2, .int .i64 a0_3, .int .i64 a0_4, .int .u64 a0_5, .int .u64 a0_6, .int .u64 a0_7, .int .i64 a0_8, .slice A n c] 50 (0, 0))) :
    w.cell? ⟨g, 0, none⟩ = some (.int .i64 a0_0) ∧ w.cell? ⟨g, 1, none⟩ = some (.int .i64 a0_1) ∧ w.cell? ⟨g, 2, none⟩ = some (.int .i64 a0_2) ∧ w.cell? ⟨g, 3, none⟩ = some (.int .i64 a0_3) ∧ w.cell? ⟨g, 4, none⟩ = some (.int .i64 a0_4) ∧ w.cell? ⟨g, 5, none⟩ = some (.int .u64 a0_5) ∧ w.cell? ⟨g, 6, none⟩ = some (.int .u64 a0_6) ∧ w.cell? ⟨g, 7, none⟩ = some (.int .u64 a0_7) ∧ w.cell? ⟨g, 8, none⟩ = some (.int .i64 a0_8) :=
  ⟨blk_cell h 0, blk_cell h 1, blk_cell h 2, blk_cell h 3, blk_cell h 4, blk_cell h 5, blk_cell h 6, blk_cell h 7, blk_cell h 8⟩
/-- What the region reads: both nodes' cells. -/
def ThanS (w : World) (g0 g1 : Nat) (a0_0 a0_1 a0_2 a0_3 a0_4 a0_5 a0_6 a0_7 a0_8 a1_0 a1_1 a1_2 a1_3 a1_4 a1_5 a1_6 a1_7 a1_8 : Int) (w' : World) : Prop :=
  w'.cell? ⟨g0, 0, none⟩ = some (.int .i64 a0_0) ∧ w'.cell? ⟨g0, 1, none⟩ = some (.int .i64 a0_1) ∧ w'.cell? ⟨g0, 2, none⟩ = some (.int .i64 a0_2) ∧ w'.cell? ⟨g0, 3, none⟩ = some (.int .i64 a0_3) ∧ w'.cell? ⟨g0, 4, none⟩ = some (.int .i64 a0_4) ∧ w'.cell? ⟨g0, 5, none⟩ = some (.int .u64 a0_5) ∧ w'.cell? ⟨g0, 6, none⟩ = some (.int .u64 a0_6) ∧ w'.cell? ⟨g0, 7, none⟩ = some (.int .u64 a0_7) ∧ w'.cell? ⟨g0, 8, none⟩ = some (.int .i64 a0_8) ∧ w'.cell? ⟨g1, 0, none⟩ = some (.int .i64 a1_0) ∧ w'.cell? ⟨g1, 1, none⟩ = some (.int .i64 a1_1) ∧ w'.cell? ⟨g1, 2, none⟩ = some (.int .i64 a1_2) ∧ w'.cell? ⟨g1, 3, none⟩ = some (.int .i64 a1_3) ∧ w'.cell? ⟨g1, 4, none⟩ = some (.int .i64 a1_4) ∧ w'.cell? ⟨g1, 5, none⟩ = some (.int .u64 a1_5) ∧ w'.cell? ⟨g1, 6, none⟩ = some (.int .u64 a1_6) ∧ w'.cell? ⟨g1, 7, none⟩ = some (.int .u64 a1_7) ∧ w'.cell? ⟨g1, 8, none⟩ = some (.int .i64 a1_8) ∧ Below w.heap.size w w'
theorem ThanS.on {w W W' : World} {g0 g1 : Nat} {a0_0 a0_1 a0_2 a0_3 a0_4 a0_5 a0_6 a0_7 a0_8 a1_0 a1_1 a1_2 a1_3 a1_4 a1_5 a1_6 a1_7 a1_8 : Int} (h : ThanS w g0 g1 a0_0 a0_1 a0_2 a0_3 a0_4 a0_5 a0_6 a0_7 a0_8 a1_0 a1_1 a1_2 a1_3 a1_4 a1_5 a1_6 a1_7 a1_8 W) (hb : Below W.heap.size W W') : ThanS w g0 g1 a0_0 a0_1 a0_2 a0_3 a0_4 a0_5 a0_6 a0_7 a0_8 a1_0 a1_1 a1_2 a1_3 a1_4 a1_5 a1_6 a1_7 a1_8 W' := by
  obtain ⟨x0, x1, x2, x3, x4, x5, x6, x7, x8, x9, x10, x11, x12, x13, x14, x15, x16, x17, hB⟩ := h
  exact ⟨pw_cell_below hb x0, pw_cell_below hb x1, pw_cell_below hb x2, pw_cell_below hb x3, pw_cell_below hb x4, pw_cell_below hb x5, pw_cell_below hb x6, pw_cell_below hb x7, pw_cell_below hb x8, pw_cell_below hb x9, pw_cell_below hb x10, pw_cell_below hb x11, pw_cell_below hb x12, pw_cell_below hb x13, pw_cell_below hb x14, pw_cell_below hb x15, pw_cell_below hb x16, pw_cell_below hb x17, ⟨hb.os.trans hB.os, hb.tape.trans hB.tape, hb.output.trans hB.output, Nat.le_trans hB.size hb.size, fun k hk => (hb.block k (Nat.lt_of_lt_of_le hk hB.size)).trans (hB.block k hk)⟩⟩
theorem ThanS.drew {w W : World} {g0 g1 : Nat} {a0_0 a0_1 a0_2 a0_3 a0_4 a0_5 a0_6 a0_7 a0_8 a1_0 a1_1 a1_2 a1_3 a1_4 a1_5 a1_6 a1_7 a1_8 : Int} (h : ThanS w g0 g1 a0_0 a0_1 a0_2 a0_3 a0_4 a0_5 a0_6 a0_7 a0_8 a1_0 a1_1 a1_2 a1_3 a1_4 a1_5 a1_6 a1_7 a1_8 W) : ThanS w g0 g1 a0_0 a0_1 a0_2 a0_3 a0_4 a0_5 a0_6 a0_7 a0_8 a1_0 a1_1 a1_2 a1_3 a1_4 a1_5 a1_6 a1_7 a1_8 W.drew := h.on (below_drew1 (Below.refl _ _))
set_option maxHeartbeats 4000000 in
theorem better_Than.core (a0_0 a0_1 a0_2 a0_3 a0_4 a0_5 a0_6 a0_7 a0_8 : Int) (A0 : Option Addr) (n0 c0 : Nat) (a1_0 a1_1 a1_2 a1_3 a1_4 a1_5 a1_6 a1_7 a1_8 : Int) (A1 : Option Addr) (n1 c1 : Nat) (r : Bool) (w : World) (h : better_Than.f a0_0 a0_1 a0_2 a0_3 a0_4 a0_5 a0_6 a0_7 a0_8 [] a1_0 a1_1 a1_2 a1_3 a1_4 a1_5 a1_6 a1_7 a1_8 [] = some r) :
    Calls Try.prog 26 #[.agg #[.int .i64 a0_0, .int .i64 a0_1, .int .i64 a0_2, .int .i64 a0_3, .int .i64 a0_4, .int .u64 a0_5, .int .u64 a0_6, .int .u64 a0_7, .int .i64 a0_8, .slice A0 n0 c0], .agg #[.int .i64 a1_0, .int .i64 a1_1, .int .i64 a1_2, .int .i64 a1_3, .int .i64 a1_4, .int .u64 a1_5, .int .u64 a1_6, .int .u64 a1_7, .int .i64 a1_8, .slice A1 n1 c1]] w fun e w' => e = .returned (.bool r) ∧ Below w.heap.size w w' := by
  obtain ⟨W, hW⟩ : ∃ W, W = (w.alloc (.cells #[.int .i64 a0_0, .int .i64 a0_1, .int .i64 a0_2, .int .i64 a0_3, .int .i64 a0_4, .int .u64 a0_5, .int .u64 a0_6, .int .u64 a0_7, .int .i64 a0_8, .slice A0 n0 c0] 50)).alloc (.cells #[.int .i64 a1_0, .int .i64 a1_1, .int .i64 a1_2, .int .i64 a1_3, .int .i64 a1_4, .int .u64 a1_5, .int .u64 a1_6, .int .u64 a1_7, .int .i64 a1_8, .slice A1 n1 c1] 50) := ⟨_, rfl⟩
  have HS : Aside0 (ThanS w w.heap.size (w.heap.size + 1) a0_0 a0_1 a0_2 a0_3 a0_4 a0_5 a0_6 a0_7 a0_8 a1_0 a1_1 a1_2 a1_3 a1_4 a1_5 a1_6 a1_7 a1_8 W) := Aside0.mk (by
    subst hW
    have e := blk_new (w.alloc (.cells #[.int .i64 a0_0, .int .i64 a0_1, .int .i64 a0_2, .int .i64 a0_3, .int .i64 a0_4, .int .u64 a0_5, .int .u64 a0_6, .int .u64 a0_7, .int .i64 a0_8, .slice A0 n0 c0] 50)) (.cells #[.int .i64 a1_0, .int .i64 a1_1, .int .i64 a1_2, .int .i64 a1_3, .int .i64 a1_4, .int .u64 a1_5, .int .u64 a1_6, .int .u64 a1_7, .int .i64 a1_8, .slice A1 n1 c1] 50)
    rw [World.size_alloc] at e
    obtain ⟨x0, x1, x2, x3, x4, x5, x6, x7, x8⟩ := core_cells _ _ _ _ _ _ _ _ _ (blk_alloc (blk_new w (.cells #[.int .i64 a0_0, .int .i64 a0_1, .int .i64 a0_2, .int .i64 a0_3, .int .i64 a0_4, .int .u64 a0_5, .int .u64 a0_6, .int .u64 a0_7, .int .i64 a0_8, .slice A0 n0 c0] 50)) (.cells #[.int .i64 a1_0, .int .i64 a1_1, .int .i64 a1_2, .int .i64 a1_3, .int .i64 a1_4, .int .u64 a1_5, .int .u64 a1_6, .int .u64 a1_7, .int .i64 a1_8, .slice A1 n1 c1] 50))
    obtain ⟨y0, y1, y2, y3, y4, y5, y6, y7, y8⟩ := core_cells _ _ _ _ _ _ _ _ _ e
    exact ⟨x0, x1, x2, x3, x4, x5, x6, x7, x8, y0, y1, y2, y3, y4, y5, y6, y7, y8, below_alloc (below_alloc (Below.refl _ _) _) _⟩)
  have HW := Aside0.mk hW
  clear hW
  unfold better_Than.f at h
  by_cases h1 : a0_8 ≤ a1_8
  · rw [if_pos h1] at h
    have b1 : decide (a0_8 ≤ a1_8) = true := decide_eq_true h1
    cases h2 : (a0_5 == a1_5 && (a0_6 == a1_6 && a0_7 == a1_7)) with
    | true =>
      rw [h2, if_pos rfl] at h
      have H := Aside0.mk h
      clear h h1
      have e3 := fun w => eq3 a0_5 a0_6 a0_7 a1_5 a1_6 a1_7 w
      rw [h2] at e3
      clear h2
      go_enter Try.func26, Try.ntmps26
      go_wp2
      rw [← HW.out]
      refine start_ (n := 22) (S := ThanS w w.heap.size (w.heap.size + 1) a0_0 a0_1 a0_2 a0_3 a0_4 a0_5 a0_6 a0_7 a0_8 a1_0 a1_1 a1_2 a1_3 a1_4 a1_5 a1_6 a1_7 a1_8) (ds := []) (zqB 22 0) (by kernel_rfl) rfl rfl (HS.out.drew) (fun hHeld => ?_)
      refine zqp 0 (some 5) (zqB 22 1) (by kernel_rfl) (h := ?_)
      refine zqt 1 (some 6) (zqB 22 3) (by kernel_rfl) hHeld (h := ?_)
      refine zqp 2 (some 7) (zqB 22 7) (by kernel_rfl) (h := ?_)
      refine zqt 3 (some 8) (zqB 22 15) (by kernel_rfl) hHeld (h := ?_)
      refine zqp 4 (some 9) (zqB 22 31) (by kernel_rfl) (h := ?_)
      refine zqp 5 (some 10) (zqB 22 63) (by kernel_rfl) (h := ?_)
      refine zqp 6 (some 11) (zqB 22 127) (by kernel_rfl) (h := ?_)
      refine zqt 7 (some 12) (zqB 22 255) (by kernel_rfl) hHeld (h := ?_)
      refine zqp 9 (some 14) (zqB 22 767) (by kernel_rfl) (h := ?_)
      refine zqt 10 (some 15) (zqB 22 1791) (by kernel_rfl) hHeld (h := ?_)
      refine one_ (i := 8) (N := some 13) (zqB 22 2047) rfl rfl (by kernel_rfl) (by decide) (fun K hK => ?_)
      refine goes_ Try.func43 (by kernel_rfl) rfl #[.agg #[.int .i64 a0_0, .int .i64 a0_1, .int .i64 a0_2, .int .i64 a0_3, .int .i64 a0_4, .int .u64 a0_5, .int .u64 a0_6, .int .u64 a0_7]] (by rfl) rfl rfl (by first | rfl | (simp only [List.map_toArray, List.map_cons, List.map_nil]; rfl)) ?_
      with_reducible refine (better_sets.is _ _ _ _ _ _ _ _ _).mono ?_
      rintro e w1 ⟨rfl, hb⟩
      refine ⟨_, rfl, ?_⟩
      refine hK.out _ _ (ThanS.on hHeld hb) (fun hHeld => ?_)
      clear hK K
      refine norm_ (a' := ?_) ?_ ?_
      rotate_left
      · show Act.put _ (some _) _ = _
        simp only [Act.put, List.setIfInBounds_toArray, List.set_cons_zero, List.set_cons_succ, i64_w, i32_w]
        rfl
      clear HS hb
      have HS := Aside0.mk hHeld
      clear hHeld
      have hHeld := HS.out
      refine one_ (i := 11) (N := some 16) (zqB 22 4095) rfl rfl (by kernel_rfl) (by decide) (fun K hK => ?_)
      refine goes_ Try.func43 (by kernel_rfl) rfl #[.agg #[.int .i64 a1_0, .int .i64 a1_1, .int .i64 a1_2, .int .i64 a1_3, .int .i64 a1_4, .int .u64 a1_5, .int .u64 a1_6, .int .u64 a1_7]] (by rfl) rfl rfl (by first | rfl | (simp only [List.map_toArray, List.map_cons, List.map_nil]; rfl)) ?_
      with_reducible refine (better_sets.is _ _ _ _ _ _ _ _ _).mono ?_
      rintro e w1 ⟨rfl, hb⟩
      refine ⟨_, rfl, ?_⟩
      refine hK.out _ _ (ThanS.on hHeld hb) (fun hHeld => ?_)
      clear hK K
      refine norm_ (a' := ?_) ?_ ?_
      rotate_left
      · show Act.put _ (some _) _ = _
        simp only [Act.put, List.setIfInBounds_toArray, List.set_cons_zero, List.set_cons_succ, i64_w, i32_w]
        rfl
      clear HS hb
      have HS := Aside0.mk hHeld
      clear hHeld
      have hHeld := HS.out
      refine zqp 12 (some 17) (zqB 22 8191) (by kernel_rfl) (h := ?_)
      refine zqp 13 (some 18) (zqB 22 16383) (by kernel_rfl) (h := ?_)
      refine zqp 14 (some 19) (zqB 22 32767) (by kernel_rfl) (h := ?_)
      refine zqp 15 (some 20) (zqB 22 65535) (by kernel_rfl) (h := ?_)
      refine zqt 16 (some 21) (zqB 22 131071) (by kernel_rfl) hHeld (h := ?_)
      refine zqp 17 (some 22) (zqB 22 262143) (by kernel_rfl) (h := ?_)
      refine zqt 18 (some 23) (zqB 22 524287) (by kernel_rfl) hHeld (h := ?_)
      refine one_ (i := 19) (N := some 24) (zqB 22 1048575) rfl rfl (by kernel_rfl) (by decide) (fun K hK => ?_)
      refine goes_ Try.func21 (by kernel_rfl) rfl #[.agg #[.int .i64 a0_0, .int .i64 a0_1, .int .i64 a0_2, .int .i64 a0_3, .int .i64 a0_4, .int .u64 a0_5, .int .u64 a0_6, .int .u64 a0_7], .agg #[.int .i64 a1_0, .int .i64 a1_1, .int .i64 a1_2, .int .i64 a1_3, .int .i64 a1_4, .int .u64 a1_5, .int .u64 a1_6, .int .u64 a1_7]] (by rfl) rfl rfl (by first | rfl | (simp only [List.map_toArray, List.map_cons, List.map_nil]; rfl)) ?_
      with_reducible refine (relax_Covers.calls _ _ _ _ _ _ _ _ _ _ _ _ _ _ _ _ r _ H.out).mono ?_
      rintro e w1 ⟨rfl, hb⟩
      refine ⟨_, rfl, ?_⟩
      refine hK.out _ _ (ThanS.on hHeld hb) (fun hHeld => ?_)
      clear hK K
      refine norm_ (a' := ?_) ?_ ?_
      rotate_left
      · show Act.put _ (some _) _ = _
        simp only [Act.put, List.setIfInBounds_toArray, List.set_cons_zero, List.set_cons_succ, i64_w, i32_w]
        rfl
      clear HS hb
      have HS := Aside0.mk hHeld
      clear hHeld
      have hHeld := HS.out
      refine zqp 20 (some 25) (zqB 22 2097151) (by kernel_rfl) (h := ?_)
      refine zqp 21 (some 4) (zqB 22 4194303) (by kernel_rfl) (h := ?_)
      refine done_ (by kernel_rfl) ?_
      go_wp2
      go_ret
      exact ⟨rfl, hHeld.2.2.2.2.2.2.2.2.2.2.2.2.2.2.2.2.2.2⟩
    | false =>
      rw [h2, if_neg (by decide)] at h
      obtain rfl := Option.some.inj h
      clear h h1
      have e3 := fun w => eq3 a0_5 a0_6 a0_7 a1_5 a1_6 a1_7 w
      rw [h2] at e3
      clear h2
      go_enter Try.func26, Try.ntmps26
      go_wp2
      rw [← HW.out]
      refine start_ (n := 22) (S := ThanS w w.heap.size (w.heap.size + 1) a0_0 a0_1 a0_2 a0_3 a0_4 a0_5 a0_6 a0_7 a0_8 a1_0 a1_1 a1_2 a1_3 a1_4 a1_5 a1_6 a1_7 a1_8) (ds := []) (zqB 22 0) (by kernel_rfl) rfl rfl (HS.out.drew) (fun hHeld => ?_)
      refine zqp 0 (some 5) (zqB 22 1) (by kernel_rfl) (h := ?_)
      refine zqt 1 (some 6) (zqB 22 3) (by kernel_rfl) hHeld (h := ?_)
      refine zqp 2 (some 7) (zqB 22 7) (by kernel_rfl) (h := ?_)
      refine zqt 3 (some 8) (zqB 22 15) (by kernel_rfl) hHeld (h := ?_)
      refine zqp 4 (some 9) (zqB 22 31) (by kernel_rfl) (h := ?_)
      refine zqp 5 (some 10) (zqB 22 63) (by kernel_rfl) (h := ?_)
      refine zqp 6 (some 11) (zqB 22 127) (by kernel_rfl) (h := ?_)
      refine zqt 7 (some 12) (zqB 22 255) (by kernel_rfl) hHeld (h := ?_)
      refine zqp 9 (some 14) (zqB 22 767) (by kernel_rfl) (h := ?_)
      refine zqt 10 (some 15) (zqB 22 1791) (by kernel_rfl) hHeld (h := ?_)
      refine one_ (i := 8) (N := some 13) (zqB 22 2047) rfl rfl (by kernel_rfl) (by decide) (fun K hK => ?_)
      refine goes_ Try.func43 (by kernel_rfl) rfl #[.agg #[.int .i64 a0_0, .int .i64 a0_1, .int .i64 a0_2, .int .i64 a0_3, .int .i64 a0_4, .int .u64 a0_5, .int .u64 a0_6, .int .u64 a0_7]] (by rfl) rfl rfl (by first | rfl | (simp only [List.map_toArray, List.map_cons, List.map_nil]; rfl)) ?_
      with_reducible refine (better_sets.is _ _ _ _ _ _ _ _ _).mono ?_
      rintro e w1 ⟨rfl, hb⟩
      refine ⟨_, rfl, ?_⟩
      refine hK.out _ _ (ThanS.on hHeld hb) (fun hHeld => ?_)
      clear hK K
      refine norm_ (a' := ?_) ?_ ?_
      rotate_left
      · show Act.put _ (some _) _ = _
        simp only [Act.put, List.setIfInBounds_toArray, List.set_cons_zero, List.set_cons_succ, i64_w, i32_w]
        rfl
      clear HS hb
      have HS := Aside0.mk hHeld
      clear hHeld
      have hHeld := HS.out
      refine one_ (i := 11) (N := some 16) (zqB 22 4095) rfl rfl (by kernel_rfl) (by decide) (fun K hK => ?_)
      refine goes_ Try.func43 (by kernel_rfl) rfl #[.agg #[.int .i64 a1_0, .int .i64 a1_1, .int .i64 a1_2, .int .i64 a1_3, .int .i64 a1_4, .int .u64 a1_5, .int .u64 a1_6, .int .u64 a1_7]] (by rfl) rfl rfl (by first | rfl | (simp only [List.map_toArray, List.map_cons, List.map_nil]; rfl)) ?_
      with_reducible refine (better_sets.is _ _ _ _ _ _ _ _ _).mono ?_
      rintro e w1 ⟨rfl, hb⟩
      refine ⟨_, rfl, ?_⟩
      refine hK.out _ _ (ThanS.on hHeld hb) (fun hHeld => ?_)
      clear hK K
      refine norm_ (a' := ?_) ?_ ?_
      rotate_left
      · show Act.put _ (some _) _ = _
        simp only [Act.put, List.setIfInBounds_toArray, List.set_cons_zero, List.set_cons_succ, i64_w, i32_w]
        rfl
      clear HS hb
      have HS := Aside0.mk hHeld
      clear hHeld
      have hHeld := HS.out
      refine zqp 12 (some 17) (zqB 22 8191) (by kernel_rfl) (h := ?_)
      refine zqp 13 (some 18) (zqB 22 16383) (by kernel_rfl) (h := ?_)
      refine zqp 14 (some 19) (zqB 22 32767) (by kernel_rfl) (h := ?_)
      refine zqu 15 (some 20) (zqB 22 65535) (by kernel_rfl) (h := ?_)
      refine zqu 16 (some 21) (zqB 22 131071) (by kernel_rfl) (h := ?_)
      refine zqu 17 (some 22) (zqB 22 262143) (by kernel_rfl) (h := ?_)
      refine zqu 18 (some 23) (zqB 22 524287) (by kernel_rfl) (h := ?_)
      refine zqu 19 (some 24) (zqB 22 1048575) (by kernel_rfl) (h := ?_)
      refine zqp 20 (some 25) (zqB 22 2097151) (by kernel_rfl) (h := ?_)
      refine zqp 21 (some 4) (zqB 22 4194303) (by kernel_rfl) (h := ?_)
      refine done_ (by kernel_rfl) ?_
      go_wp2
      go_ret
      exact ⟨rfl, hHeld.2.2.2.2.2.2.2.2.2.2.2.2.2.2.2.2.2.2⟩
  · rw [if_neg h1] at h
    obtain rfl := Option.some.inj h
    have b1 : decide (a0_8 ≤ a1_8) = false := decide_eq_false h1
    clear h h1
    go_enter Try.func26, Try.ntmps26
    go_wp2
    rw [← HW.out]
    refine start_ (n := 22) (S := ThanS w w.heap.size (w.heap.size + 1) a0_0 a0_1 a0_2 a0_3 a0_4 a0_5 a0_6 a0_7 a0_8 a1_0 a1_1 a1_2 a1_3 a1_4 a1_5 a1_6 a1_7 a1_8) (ds := []) (zqB 22 0) (by kernel_rfl) rfl rfl (HS.out.drew) (fun hHeld => ?_)
    refine zqp 0 (some 5) (zqB 22 1) (by kernel_rfl) (h := ?_)
    refine zqt 1 (some 6) (zqB 22 3) (by kernel_rfl) hHeld (h := ?_)
    refine zqp 2 (some 7) (zqB 22 7) (by kernel_rfl) (h := ?_)
    refine zqt 3 (some 8) (zqB 22 15) (by kernel_rfl) hHeld (h := ?_)
    refine zqp 4 (some 9) (zqB 22 31) (by kernel_rfl) (h := ?_)
    refine zqp 5 (some 10) (zqB 22 63) (by kernel_rfl) (h := ?_)
    refine zqu 6 (some 11) (zqB 22 127) (by kernel_rfl) (h := ?_)
    refine zqu 7 (some 12) (zqB 22 255) (by kernel_rfl) (h := ?_)
    refine zqu 9 (some 14) (zqB 22 767) (by kernel_rfl) (h := ?_)
    refine zqu 10 (some 15) (zqB 22 1791) (by kernel_rfl) (h := ?_)
    refine zqu 8 (some 13) (zqB 22 2047) (by kernel_rfl) (h := ?_)
    refine zqu 11 (some 16) (zqB 22 4095) (by kernel_rfl) (h := ?_)
    refine zqu 12 (some 17) (zqB 22 8191) (by kernel_rfl) (h := ?_)
    refine zqp 13 (some 18) (zqB 22 16383) (by kernel_rfl) (h := ?_)
    refine zqp 14 (some 19) (zqB 22 32767) (by kernel_rfl) (h := ?_)
    refine zqu 15 (some 20) (zqB 22 65535) (by kernel_rfl) (h := ?_)
    refine zqu 16 (some 21) (zqB 22 131071) (by kernel_rfl) (h := ?_)
    refine zqu 17 (some 22) (zqB 22 262143) (by kernel_rfl) (h := ?_)
    refine zqu 18 (some 23) (zqB 22 524287) (by kernel_rfl) (h := ?_)
    refine zqu 19 (some 24) (zqB 22 1048575) (by kernel_rfl) (h := ?_)
    refine zqp 20 (some 25) (zqB 22 2097151) (by kernel_rfl) (h := ?_)
    refine zqp 21 (some 4) (zqB 22 4194303) (by kernel_rfl) (h := ?_)
    refine done_ (by kernel_rfl) ?_
    go_wp2
    go_ret
    exact ⟨rfl, hHeld.2.2.2.2.2.2.2.2.2.2.2.2.2.2.2.2.2.2⟩
theorem better_Than.calls (a0_0 a0_1 a0_2 a0_3 a0_4 a0_5 a0_6 a0_7 a0_8 : Int) (A0_9 : Option Addr) (c0_9 : Nat) (l0_9 : List Int) (a1_0 a1_1 a1_2 a1_3 a1_4 a1_5 a1_6 a1_7 a1_8 : Int) (A1_9 : Option Addr) (c1_9 : Nat) (l1_9 : List Int) (r : Bool) (w : World) (hr0_9 : Kd.C (Kd.int .i64) w A0_9 l0_9.length l0_9) (hc0_9 : l0_9.length ≤ c0_9) (hr1_9 : Kd.C (Kd.int .i64) w A1_9 l1_9.length l1_9) (hc1_9 : l1_9.length ≤ c1_9) (h : better_Than.f a0_0 a0_1 a0_2 a0_3 a0_4 a0_5 a0_6 a0_7 a0_8 l0_9 a1_0 a1_1 a1_2 a1_3 a1_4 a1_5 a1_6 a1_7 a1_8 l1_9 = some r) :
    Calls Try.prog 26 #[.agg #[.int .i64 a0_0, .int .i64 a0_1, .int .i64 a0_2, .int .i64 a0_3, .int .i64 a0_4, .int .u64 a0_5, .int .u64 a0_6, .int .u64 a0_7, .int .i64 a0_8, .slice A0_9 l0_9.length c0_9], .agg #[.int .i64 a1_0, .int .i64 a1_1, .int .i64 a1_2, .int .i64 a1_3, .int .i64 a1_4, .int .u64 a1_5, .int .u64 a1_6, .int .u64 a1_7, .int .i64 a1_8, .slice A1_9 l1_9.length c1_9]] w fun e w' => e = .returned (.bool r) ∧ Below w.heap.size w w' := by
  exact better_Than.core _ _ _ _ _ _ _ _ _ _ _ _ _ _ _ _ _ _ _ _ _ _ _ _ r w h

/-! ### set_bit: function 72 -/
def set_bit.f (a0 : Int) : Option (Int) := if a0 < 0 then (some 0) else (if a0 > 63 then (some 0) else (if 0 ≤ a0 then (some (shl .u64 1 a0)) else (none)))
set_option maxHeartbeats 8000000 in
set_option maxRecDepth 100000 in
theorem set_bit.calls (a0 : Int) (r : Int) (w : World) (h : set_bit.f a0 = some r) :
    Calls Try.prog 72 #[.int .i64 a0] w fun e w' => e = .returned (.int .u64 r) ∧ Drawn0 w w' := by
  have H : (if a0 < 0 then (some 0) else (if a0 > 63 then (some 0) else (if 0 ≤ a0 then (some (shl .u64 1 a0)) else (none)))) = some r := h
  clear h
  by_cases c2 : a0 < 0
  · rw [if_pos c2] at H
    have c2b0 : decide (a0 < 0) = true := decide_eq_true c2
    clear c2
    obtain rfl := Option.some.inj H
    go_enter Try.func72, Try.ntmps72
    go_wp2
    go_ret
    exact ⟨by first | rfl | (simp; done) | (simp [*]; done), by repeat (first | exact Drawn0.refl _ | apply Drawn0.step)⟩
  · rw [if_neg c2] at H
    have c2b0 : decide (a0 < 0) = false := decide_eq_false c2
    clear c2
    by_cases c3 : a0 > 63
    · rw [if_pos c3] at H
      have c3b0 : decide (63 < a0) = true := decide_eq_true c3
      clear c3
      obtain rfl := Option.some.inj H
      go_enter Try.func72, Try.ntmps72
      go_wp2
      go_ret
      exact ⟨by first | rfl | (simp; done) | (simp [*]; done), by repeat (first | exact Drawn0.refl _ | apply Drawn0.step)⟩
    · rw [if_neg c3] at H
      have c3b0 : decide (63 < a0) = false := decide_eq_false c3
      clear c3
      by_cases c4 : 0 ≤ a0
      · rw [if_pos c4] at H
        have c4b0 := eq_true c4
        have c4b1 : decide (0 ≤ a0) = true := decide_eq_true c4
        clear c4
        obtain ⟨ji5, hji5⟩ : ∃ j_ : Int, (shl .u64 1 a0) = j_ := ⟨_, rfl⟩
        replace H : (some ji5) = some r := by first | (rw [hji5] at H; exact H) | (simp only [hji5] at H ⊢; exact H)
        have hji5_ : (IntKind.u64.wrap (1 * 2 ^ min a0.toNat 64)) = ji5 := hji5
        have hji5z : a0 ≤ 64 → (IntKind.u64.wrap (1 * 2 ^ a0.toNat)) = ji5 := shl_small hji5
        have hji5u : (IntKind.u64.wrap (2 ^ min a0.toNat 64)) = ji5 := by have h_ := hji5_; rw [Int.one_mul] at h_; exact h_
        have hji5v : a0 ≤ 64 → (IntKind.u64.wrap (2 ^ a0.toNat)) = ji5 := fun hle_ => by have h_ := hji5z hle_; rw [Int.one_mul] at h_; exact h_
        obtain rfl := Option.some.inj H
        go_enter Try.func72, Try.ntmps72
        go_wp2
        go_ret
        exact ⟨by first | rfl | (simp; done) | (simp only [← hji5] <;> (first | rfl | simp)) | (simp [*]; done), by repeat (first | exact Drawn0.refl _ | apply Drawn0.step)⟩
      · rw [if_neg c4] at H
        exact absurd H (by simp)

/-! ### set_Has: function 68 -/
def set_Has.f (a0 : Int) (a1 : Int) : Option (Bool) := (set_bit.f a1).bind fun t106 => (some ((Go.bits .and .u64 a0 t106) != 0))
set_option maxHeartbeats 8000000 in
set_option maxRecDepth 100000 in
theorem set_Has.calls (a0 : Int) (a1 : Int) (r : Bool) (w : World) (h : set_Has.f a0 a1 = some r) :
    Calls Try.prog 68 #[.int .u64 a0, .int .i64 a1] w fun e w' => e = .returned (.bool r) ∧ Drawn0 w w' := by
  have H : ((set_bit.f a1).bind fun t106 => (some ((Go.bits .and .u64 a0 t106) != 0))) = some r := h
  clear h
  replace H := Option.bind_eq_some_iff.mp H
  obtain ⟨t106, A30, H⟩ := H
  replace H : (some ((Go.bits .and .u64 a0 t106) != 0)) = some r := H
  have A3 := Aside0.mk A30
  clear A30
  obtain rfl := Option.some.inj H
  go_enter Try.func68, Try.ntmps68
  go_wp2_with (first | ((with_reducible refine gate_callee (f := 72) rfl ?_); refine goesL_ (some 7) rfl rfl Try.func72 (by kernel_rfl) rfl #[.int .i64 a1] rfl (by (try simp only [List.map_toArray, List.map_cons, List.map_nil]); first | done | rfl | (simp only [List.length_drop, List.length_take]; rfl)) ?_; (with_reducible refine (set_bit.calls a1 t106 _ A3.out).mono ?_); rintro e w' ⟨rfl, ⟨nd, rfl⟩⟩; refine ⟨_, rfl, ?_⟩))
  go_ret
  exact ⟨by first | rfl | (simp; done) | (simp [*]; done), by repeat (first | exact Drawn0.refl _ | apply Drawn0.step)⟩

-- NOT PRINTED: function 30 (plane_place)

/-! ### num_Root: function 31, BY HAND -/
theorem hidI {p : Prop} (h : p) : Hid p := h
def rootGo (n : Int) : Nat → Int → Int
  | 0, r => if (r + 1) * (r + 1) < n then r + 1 else r
  | j + 1, r => rootGo n j (if (r + 2 ^ (j + 1)) * (r + 2 ^ (j + 1)) < n then r + 2 ^ (j + 1) else r)
def rootTop (m : Int) : Int := if 0 < m then rootGo m 30 0 + 1 else rootGo m 30 0
def num_Root.f (a0 : Int) : Option Int := some (rootTop (mn (mx a0 0) 1152921504606846976))

theorem sq_bd {x : Int} (h0 : 0 ≤ x) (h : x ≤ 2147483648) : 0 ≤ x * x ∧ x * x ≤ 4611686018427387904 := by
  refine ⟨Int.mul_nonneg h0 h0, ?_⟩
  have := Int.mul_le_mul h h h0 (by omega)
  omega
theorem two_pow_half (j : Nat) : (2 : Int) ^ (j + 1) / 2 = 2 ^ j := by rw [Int.pow_succ]; omega
theorem two_pow_pos (j : Nat) : (1 : Int) ≤ 2 ^ j := by have : (0:Int) < 2 ^ j := Int.pow_pos (by omega); omega

theorem root_next {q x b r : Int} {j : Nat} (hj : b = 2 ^ j) (hb2 : 0 < b / 2) (HR : (if 0 < q then rootGo q j x + 1 else rootGo q j x) = r) :
    ∃ i : Nat, b / 2 = 2 ^ i ∧ (∀ y, y = (if (x + b) * (x + b) < q then x + b else x) → (if 0 < q then rootGo q i y + 1 else rootGo q i y) = r) := by
  cases j with
  | zero => subst hj; exact absurd hb2 (by decide)
  | succ i =>
    refine ⟨i, by rw [hj]; exact two_pow_half i, ?_⟩
    rintro y rfl
    rw [hj]
    simpa only [rootGo] using HR
theorem root_last {q x b r : Int} {j : Nat} (hj : b = 2 ^ j) (hb : 1 ≤ b) (hb2 : b / 2 ≤ 0) (HR : (if 0 < q then rootGo q j x + 1 else rootGo q j x) = r) :
    (∀ y, y = (if (x + b) * (x + b) < q then x + b else x) → (if 0 < q then y + 1 else y) = r) := by
  have hb1 : b = 1 := by omega
  cases j with
  | zero =>
    rintro y rfl
    rw [hb1]
    simpa only [rootGo] using HR
  | succ i =>
    have := two_pow_pos i
    rw [Int.pow_succ] at hj
    omega
set_option maxHeartbeats 2000000 in
set_option maxRecDepth 100000 in
theorem num_Root.calls (n : Int) (r : Int) (w : World) (h : num_Root.f n = some r) :
    Calls Try.prog 31 #[.int .i64 n] w fun e w' => e = .returned (.int .i64 r) ∧ Below w.heap.size w w' := by
  unfold num_Root.f at h
  injection h with h
  obtain ⟨q1, hq1⟩ : ∃ q1, (if n < 0 then 0 else n) = q1 := ⟨_, rfl⟩
  obtain ⟨q, hq⟩ : ∃ q, (if 1152921504606846976 < q1 then 1152921504606846976 else q1) = q := ⟨_, rfl⟩
  have e0 : mn (mx n 0) 1152921504606846976 = q := by unfold mn mx; rw [hq1, hq]
  rw [e0] at h
  clear e0
  have HH := hidI h
  have hge1 : 0 ≤ q1 := by rw [← hq1]; split <;> omega
  have hlo : q ≤ 1152921504606846976 := by rw [← hq]; split <;> omega
  have hge : 0 ≤ q := by rw [← hq]; split <;> omega
  clear h
  go_enter Try.func31, Try.ntmps31
  go_wp2
  refine wp_scope_jumps 0 (fun a' w' => w' = w ∧ ∃ (x b : Int) (j : Nat) (u1 u5 u6 u7 u8 u9 u10 u11 u12 u13 u14 u15 u16 u17 u18 u19 u20 u21 u22 u23 u24 u25 u26 : Value), a' = { tmps := #[.int .i64 q, u1, .int .i64 0, .int .i64 x, .int .i64 b, u5, u6, u7, u8, u9, u10, u11, u12, u13, u14, u15, u16, u17, u18, u19, u20, u21, u22, u23, u24, u25, u26], defers := [] } ∧ Hid (b = 2 ^ j) ∧ 0 ≤ x ∧ 1 ≤ b ∧ x + 2 * b ≤ 2147483648 ∧ Hid ((if 0 < q then rootGo q j x + 1 else rootGo q j x) = r)) (fun a' _ => (intOf (a'.tmps.getD 4 undef)).toNat) rfl ?_ ?_
  · have NX := hidI (root_next (x := 0) (b := 1073741824) (j := 30) (by decide) (by decide) HH.out)
    go_wp2
    go_step3
    go_wp2
    go_step3
    obtain ⟨i, hi, hn⟩ := NX.out
    exact ⟨rfl, rfl, 0, 536870912, i, _, _, _, _, _, _, _, _, _, _, _, _, _, _, _, _, _, _, _, _, _, _, _, rfl, hidI (by rw [← hi]; rfl), by omega, by omega, by omega, hidI (hn _ (by rw [if_neg (by omega)]))⟩
  · rintro a' w' ⟨rfl, x, b, j, u1, u5, u6, u7, u8, u9, u10, u11, u12, u13, u14, u15, u16, u17, u18, u19, u20, u21, u22, u23, u24, u25, u26, rfl, hj, hx, hb, hxb, HR⟩
    clear hq hq1
    have hsq := sq_bd (x := x + b) (by omega) (by omega)
    obtain ⟨hs1, hs2⟩ := hsq
    by_cases hlt : (x + b) * (x + b) < q
    · have hq0 : 0 < q := by omega
      by_cases hb2 : 0 < b / 2
      · have NX := hidI (root_next hj.out hb2 HR.out)
        go_wp2
        go_step3
        obtain ⟨i, hi, hn⟩ := NX.out
        exact ⟨rfl, ⟨rfl, _, _, i, _, _, _, _, _, _, _, _, _, _, _, _, _, _, _, _, _, _, _, _, _, _, _, rfl, hidI hi, by omega, by omega, by omega, hidI (hn _ (by rw [if_pos (by omega)]))⟩, by simp [intOf]; omega⟩
      · have NX := hidI (root_last hj.out hb (by omega) HR.out)
        go_wp2
        simp only [Exit.jump]
        go_ret
        have hn := NX.out _ rfl
        rw [if_pos hlt, if_pos hq0] at hn
        exact ⟨by rw [← hn]; rfl, Below.refl _ _⟩
    · by_cases hb2 : 0 < b / 2
      · have NX := hidI (root_next hj.out hb2 HR.out)
        go_wp2
        go_step3
        obtain ⟨i, hi, hn⟩ := NX.out
        exact ⟨rfl, ⟨rfl, _, _, i, _, _, _, _, _, _, _, _, _, _, _, _, _, _, _, _, _, _, _, _, _, _, _, rfl, hidI hi, by omega, by omega, by omega, hidI (hn _ (by rw [if_neg (by omega)]))⟩, by simp [intOf]; omega⟩
      · have NX := hidI (root_last hj.out hb (by omega) HR.out)
        by_cases hq0 : 0 < q
        · go_wp2
          simp only [Exit.jump]
          go_ret
          have hn := NX.out _ rfl
          simp only [if_neg (show ¬ ((x + b) * (x + b) < q) by omega), if_pos hq0] at hn
          exact ⟨by rw [← hn]; rfl, Below.refl _ _⟩
        · go_wp2
          simp only [Exit.jump]
          go_ret
          have hn := NX.out _ rfl
          simp only [if_neg (show ¬ ((x + b) * (x + b) < q) by omega), if_neg (show ¬ (0 < q) by omega)] at hn
          exact ⟨by rw [← hn]; rfl, Below.refl _ _⟩

/-! ### plane_Far: function 17, BY HAND -/
def coordP (n : Int) : Int := mn (mx n 0) 10000
theorem bound_calls (n : Int) (w : World) : Calls Try.prog 49 #[.int .i64 n] w fun e w' => e = .returned (.float .f64 (floatOfInt .f64 (coordP n))) ∧ w = w' := by
  obtain ⟨q1, hq1⟩ : ∃ q1, (if n < 0 then 0 else n) = q1 := ⟨_, rfl⟩
  obtain ⟨q, hq⟩ : ∃ q, (if 10000 < q1 then 10000 else q1) = q := ⟨_, rfl⟩
  have e0 : coordP n = q := by unfold coordP mn mx; rw [hq1, hq]
  rw [e0]
  clear e0
  have hconv : ∀ (W : World), (convert 3 62 (.int .i64 q)).run Try.prog W = .ok (.float .f64 (floatOfInt .f64 q)) W := fun W => run_convert_int_float W 3 62 .i64 .f64 q (by kernel_rfl) (by kernel_rfl)
  go_enter Try.func49, Try.ntmps49
  go_wp2
  go_ret
  exact ⟨rfl, rfl⟩

def PlacePost (w : World) (a0 a1 a2 a3 a4 a5 : Int) (e : Ending) (w' : World) : Prop := e = .returned (.complex .f64 (floatOfInt .f64 (coordP a0)) (floatOfInt .f64 (coordP a1))) ∧ ∃ n, w' = (w.alloc (.cells #[.int .i64 a0, .int .i64 a1, .int .i64 a2, .int .i64 a3, .int .i64 a4, .int .i64 a5] 23)).drewN n
theorem place_calls (a0 a1 a2 a3 a4 a5 : Int) (w : World) : Calls Try.prog 30 #[.agg #[.int .i64 a0, .int .i64 a1, .int .i64 a2, .int .i64 a3, .int .i64 a4, .int .i64 a5]] w (PlacePost w a0 a1 a2 a3 a4 a5) := by
  go_enter Try.func30, Try.ntmps30
  go_wp2_with fail
  go_quiet ((exact Calls.quiet_of_same ((bound_calls _ _).mono fun _ _ h => ⟨h.1, h.2.symm⟩)))
  go_wp2
  go_ret
  exact ⟨rfl, _, rfl⟩

theorem coordP_bd (n : Int) : 0 ≤ coordP n ∧ coordP n ≤ 10000 := by
  unfold coordP mn mx
  by_cases h : n < 0
  · rw [if_pos h, if_neg (by omega)]; omega
  · rw [if_neg h]
    by_cases h2 : 10000 < n
    · rw [if_pos h2]; omega
    · rw [if_neg h2]; omega
theorem sq_bd4 {x : Int} (h : -10000 ≤ x) (h' : x ≤ 10000) : 0 ≤ x * x ∧ x * x ≤ 100000000 := by
  by_cases h0 : 0 ≤ x
  · refine ⟨Int.mul_nonneg h0 h0, ?_⟩
    have := Int.mul_le_mul h' h' h0 (by omega)
    omega
  · have e : x * x = (-x) * (-x) := (Int.neg_mul_neg x x).symm
    rw [e]
    refine ⟨Int.mul_nonneg (by omega) (by omega), ?_⟩
    have := Int.mul_le_mul (show -x ≤ 10000 by omega) (show -x ≤ 10000 by omega) (by omega) (by omega)
    omega
theorem prod_bd4 {x y : Int} (h : -10000 ≤ x) (h' : x ≤ 10000) (k : -10000 ≤ y) (k' : y ≤ 10000) : (x * y).natAbs ≤ 100000000 := by
  rw [Int.natAbs_mul]
  have := Nat.mul_le_mul (show x.natAbs ≤ 10000 by omega) (show y.natAbs ≤ 10000 by omega)
  omega
/-- The float that stands for the square of how far it is. -/
theorem far_floats (p q s t : Int) (hp : 0 ≤ p ∧ p ≤ 10000) (hq : 0 ≤ q ∧ q ≤ 10000) (hs : 0 ≤ s ∧ s ≤ 10000) (ht : 0 ≤ t ∧ t ≤ 10000) :
    ∃ z1 z2 re im, cSumBits .sub .f64 (floatOfInt .f64 p) (floatOfInt .f64 q) (floatOfInt .f64 s) (floatOfInt .f64 t) = some (z1, z2) ∧
      cMulBits z1 z2 z1 (Op.negFloat .f64 z2) = some (re, im) ∧ floatToIntVal .f64 re .i64 = some ((p - s) * (p - s) + (q - t) * (q - t)) := by
  obtain ⟨z1, e1, f1⟩ := (Go.Proofs.Ytjiammiihamkiaa.Fl.FV.ofInt (n := p) (by omega)).sub (Go.Proofs.Ytjiammiihamkiaa.Fl.FV.ofInt (n := s) (by omega)) (by omega)
  obtain ⟨z2, e2, f2⟩ := (Go.Proofs.Ytjiammiihamkiaa.Fl.FV.ofInt (n := q) (by omega)).sub (Go.Proofs.Ytjiammiihamkiaa.Fl.FV.ofInt (n := t) (by omega)) (by omega)
  generalize hx : p - s = x at *
  generalize hy : q - t = y at *
  have sx := sq_bd4 (x := x) (by omega) (by omega)
  have sy := sq_bd4 (x := y) (by omega) (by omega)
  have sxy := prod_bd4 (x := x) (y := y) (by omega) (by omega) (by omega) (by omega)
  have eyy : y * -y = -(y * y) := Int.mul_neg y y
  have exy : x * -y = -(x * y) := Int.mul_neg x y
  have eyx : y * x = x * y := Int.mul_comm y x
  have f3 := f2.neg
  obtain ⟨ac, g1, h1⟩ := f1.mul f1 (by omega)
  obtain ⟨bd, g2, h2⟩ := f2.mul f3 (by omega)
  obtain ⟨re, g3, h3⟩ := h1.sub h2 (by omega)
  obtain ⟨ad, g4, h4⟩ := f1.mul f3 (by omega)
  obtain ⟨bc, g5, h5⟩ := f2.mul f1 (by omega)
  obtain ⟨im, g6, h6⟩ := h4.add h5 (by omega)
  refine ⟨z1, z2, re, im, ?_, ?_, ?_⟩
  · unfold cSumBits; rw [e1, e2]; rfl
  · unfold cMulBits; simp only [g1, g2, g3, g4, g5, g6, Option.bind_some]
  · have := h3.toInt (by omega) (by omega)
    rw [this]; congr 1; omega

def plane_Far.f (a0_0 a0_1 a0_2 a0_3 a0_4 a0_5 : Int) (a1_0 a1_1 a1_2 a1_3 a1_4 a1_5 : Int) : Option Int := num_Root.f ((coordP a0_0 - coordP a1_0) * (coordP a0_0 - coordP a1_0) + (coordP a0_1 - coordP a1_1) * (coordP a0_1 - coordP a1_1))
theorem plane_Far.calls (a0_0 a0_1 a0_2 a0_3 a0_4 a0_5 : Int) (a1_0 a1_1 a1_2 a1_3 a1_4 a1_5 : Int) (r : Int) (w : World) (h : plane_Far.f a0_0 a0_1 a0_2 a0_3 a0_4 a0_5 a1_0 a1_1 a1_2 a1_3 a1_4 a1_5 = some r) :
    Calls Try.prog 17 #[.agg #[.int .i64 a0_0, .int .i64 a0_1, .int .i64 a0_2, .int .i64 a0_3, .int .i64 a0_4, .int .i64 a0_5], .agg #[.int .i64 a1_0, .int .i64 a1_1, .int .i64 a1_2, .int .i64 a1_3, .int .i64 a1_4, .int .i64 a1_5]] w fun e w' => e = .returned (.int .i64 r) ∧ Below w.heap.size w w' := by
  obtain ⟨z1, z2, re, im, e1, e2, e3⟩ := far_floats (coordP a0_0) (coordP a0_1) (coordP a1_0) (coordP a1_1) (coordP_bd _) (coordP_bd _) (coordP_bd _) (coordP_bd _)
  have hsub := fun W : World => run_complex_sum (P := Try.prog) W .sub (.inr rfl) 60 .f64 _ _ _ _ _ _ e1
  have hmul := fun W : World => run_complex_mul (P := Try.prog) W 60 _ _ _ _ _ _ e2
  have hconv := fun W : World => run_convert_float_int (P := Try.prog) W 62 3 .f64 .i64 re _ (by kernel_rfl) (by kernel_rfl) e3
  have hneg : ∀ W : World, (Op.unary .neg (.float .f64 z2)).run Try.prog W = .ok (.float .f64 (Op.negFloat .f64 z2)) W := fun W => rfl
  have HH := hidI h
  clear e1 e2 e3 h
  go_enter Try.func17, Try.ntmps17
  go_wp2_with fail
  go_region_with ((refine (place_calls _ _ _ _ _ _ _).mono ?_; rintro e w' ⟨rfl, n, rfl⟩))
  all_goals
    go_wp2_with ((go_at_call 31; refine (num_Root.calls _ r _ HH.out).mono ?_; rintro e w' ⟨rfl, hb⟩))
    go_ret
    exact ⟨rfl, below_step (by repeat (first | exact Below.refl _ _ | apply below_alloc | apply pw_below_drewN | apply below_drew1)) hb⟩

end Go.Proofs.Ytjiammiihamkiaa.PC
