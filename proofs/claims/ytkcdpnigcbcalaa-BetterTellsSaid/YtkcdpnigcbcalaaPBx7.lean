-- Printed for this claim by wip/tools/xprint.py over the kit's print; the contracts marked BY HAND are this session's own.
import Derived.Test.YtkcdpnigcbcalaaPBx0
import Derived.Test.YtkcdpnigcbcalaaPBx2
import Derived.Test.YtkcdpnigcbcalaaPBx3
import Derived.Test.YtkcdpnigcbcalaaPBx4
import Derived.Test.YtkcdpnigcbcalaaPBx5
import Derived.Test.YtkcdpnigcbcalaaPBx6
namespace Go.Proofs.Ytkcdpnigcbcalaa.PB
open Go.RowKit Go.Proofs.YtkcdpnigcbcalaaW.PrintWords Go.Proofs.YtkcdpnigcbcalaaW.PrintLast Go.Proofs.YtkcdpnigcbcalaaW.PrintMore
attribute [local go_sem] max2_int min2_int max_two min_two max_three min_three max_four min_four   -- for this text's walks alone
set_option linter.unusedVariables false
set_option linter.unusedSimpArgs false

/-! ### haulierlaw13_BetterTells: function 7 -/
def haulierlaw13_BetterTells.j0 : Nat → List (S37) → Bool → Bool → Int → Int → Int → Int → Int → Int → Int → Int → Int → List Int → Int → Int → Int → Int → Int → Int → Int → Int → Int → List Int → Option (Bool)
  | 0, _, _, _, _, _, _, _, _, _, _, _, _, _, _, _, _, _, _, _, _, _, _, _ => none
  | k + 1, x2, x7, x18, x146000, x146001, x146002, x146003, x146004, x146005, x146006, x146007, x146008, x146009, x147000, x147001, x147002, x147003, x147004, x147005, x147006, x147007, x147008, x147009 => if x18 = true then (some x7) else ((better_Front.f x2).bind fun t149 => ((haulierref13_Front.f k x2).bind fun t152 => ((haulierref13_Same.f k t149 t152).bind fun t155 => (if t155 = true then ((better_Than.f x146000 x146001 x146002 x146003 x146004 x146005 x146006 x146007 x146008 x146009 x147000 x147001 x147002 x147003 x147004 x147005 x147006 x147007 x147008 x147009).bind fun t156 => ((haulierref13_Than.f k x146000 x146001 x146002 x146003 x146004 x146005 x146006 x146007 x146008 x146009 x147000 x147001 x147002 x147003 x147004 x147005 x147006 x147007 x147008 x147009).bind fun t157 => (some (t156 == t157)))) else (none)))))
def haulierlaw13_BetterTells.f (k : Nat) (a0_0 : Int) (a0_1 : Int) (a0_2 : Int) (a0_3 : Int) (a0_4 : Int) (a0_5 : Int) (a0_6 : Int) (a0_7 : Int) (a0_8 : Int) (l0_9 : List Int) (a1_0 : Int) (a1_1 : Int) (a1_2 : Int) (a1_3 : Int) (a1_4 : Int) (a1_5 : Int) (a1_6 : Int) (a1_7 : Int) (a1_8 : Int) (l1_9 : List Int) (l2 : List (S37)) : Option (Bool) := (haulierlaw13_awake.f).bind fun t147 => ((haulierlaw13_Few.f k l2).bind fun t148 => (if t147 = true then (haulierlaw13_BetterTells.j0 k l2 t147 (!t148) a0_0 a0_1 a0_2 a0_3 a0_4 a0_5 a0_6 a0_7 a0_8 l0_9 a1_0 a1_1 a1_2 a1_3 a1_4 a1_5 a1_6 a1_7 a1_8 l1_9) else (haulierlaw13_BetterTells.j0 k l2 t147 true a0_0 a0_1 a0_2 a0_3 a0_4 a0_5 a0_6 a0_7 a0_8 l0_9 a1_0 a1_1 a1_2 a1_3 a1_4 a1_5 a1_6 a1_7 a1_8 l1_9)))
theorem haulierlaw13_BetterTells.mono_l : ∀ k, (∀ y0 y1 y2 y3 y4 y5 y6 y7 y8 y9 y10 y11 y12 y13 y14 y15 y16 y17 y18 y19 y20 y21 y22, LeO (haulierlaw13_BetterTells.j0 k y0 y1 y2 y3 y4 y5 y6 y7 y8 y9 y10 y11 y12 y13 y14 y15 y16 y17 y18 y19 y20 y21 y22) (haulierlaw13_BetterTells.j0 (k + 1) y0 y1 y2 y3 y4 y5 y6 y7 y8 y9 y10 y11 y12 y13 y14 y15 y16 y17 y18 y19 y20 y21 y22))
  | 0 => fun _ _ _ _ _ _ _ _ _ _ _ _ _ _ _ _ _ _ _ _ _ _ _ r h => by simp [haulierlaw13_BetterTells.j0] at h
  | k + 1 => by
    have ih0 := haulierlaw13_BetterTells.mono_l k
    · intro y0 y1 y2 y3 y4 y5 y6 y7 y8 y9 y10 y11 y12 y13 y14 y15 y16 y17 y18 y19 y20 y21 y22
      unfold haulierlaw13_BetterTells.j0
      repeat' first
      | (with_reducible exact ih0 _ _ _ _ _ _ _ _ _ _ _ _ _ _ _ _ _ _ _ _ _ _ _)
      | (with_reducible exact haulierlaw13_Few.mono _ _)
      | (with_reducible exact haulierref13_Front.mono _ _)
      | (with_reducible exact haulierref13_Same.mono _ _ _)
      | (with_reducible exact haulierref13_Than.mono _ _ _ _ _ _ _ _ _ _ _ _ _ _ _ _ _ _ _ _ _)
      | (with_reducible exact LeO.refl _)
      | (with_reducible exact LeO.none _)
      | (with_reducible refine LeO.ite ?_ ?_)
      | (with_reducible refine LeO.bind ?_ (fun _ => ?_))
      | exact ih0 _ _ _ _ _ _ _ _ _ _ _ _ _ _ _ _ _ _ _ _ _ _ _
      | exact haulierlaw13_Few.mono _ _
      | exact haulierref13_Front.mono _ _
      | exact haulierref13_Same.mono _ _ _
      | exact haulierref13_Than.mono _ _ _ _ _ _ _ _ _ _ _ _ _ _ _ _ _ _ _ _ _
      | exact LeO.none _
      | refine LeO.ite ?_ ?_
      | refine LeO.bind ?_ (fun _ => ?_)
theorem haulierlaw13_BetterTells.mono : ∀ a0 a1 a2 a3 a4 a5 a6 a7 a8 a9 a10 a11 a12 a13 a14 a15 a16 a17 a18 a19 a20 k, LeO (haulierlaw13_BetterTells.f k a0 a1 a2 a3 a4 a5 a6 a7 a8 a9 a10 a11 a12 a13 a14 a15 a16 a17 a18 a19 a20) (haulierlaw13_BetterTells.f (k + 1) a0 a1 a2 a3 a4 a5 a6 a7 a8 a9 a10 a11 a12 a13 a14 a15 a16 a17 a18 a19 a20) := by
  intro a0 a1 a2 a3 a4 a5 a6 a7 a8 a9 a10 a11 a12 a13 a14 a15 a16 a17 a18 a19 a20 k
  have ih0 := haulierlaw13_BetterTells.mono_l k
  unfold haulierlaw13_BetterTells.f
  repeat' first
      | (with_reducible exact ih0 _ _ _ _ _ _ _ _ _ _ _ _ _ _ _ _ _ _ _ _ _ _ _)
      | (with_reducible exact haulierlaw13_Few.mono _ _)
      | (with_reducible exact haulierref13_Front.mono _ _)
      | (with_reducible exact haulierref13_Same.mono _ _ _)
      | (with_reducible exact haulierref13_Than.mono _ _ _ _ _ _ _ _ _ _ _ _ _ _ _ _ _ _ _ _ _)
      | (with_reducible exact LeO.refl _)
      | (with_reducible exact LeO.none _)
      | (with_reducible refine LeO.ite ?_ ?_)
      | (with_reducible refine LeO.bind ?_ (fun _ => ?_))
      | exact ih0 _ _ _ _ _ _ _ _ _ _ _ _ _ _ _ _ _ _ _ _ _ _ _
      | exact haulierlaw13_Few.mono _ _
      | exact haulierref13_Front.mono _ _
      | exact haulierref13_Same.mono _ _ _
      | exact haulierref13_Than.mono _ _ _ _ _ _ _ _ _ _ _ _ _ _ _ _ _ _ _ _ _
      | exact LeO.none _
      | refine LeO.ite ?_ ?_
      | refine LeO.bind ?_ (fun _ => ?_)
def haulierlaw13_BetterTells.T6 : Bool × List (List Nat × List Nat) := (true, [([], []), ([0], [0]), ([1], [1]), ([1], [1]), ([2, 3, 1, 1], [1, 2, 3]), ([1], [1]), ([1], [1]), ([5, 6, 4, 1], [1, 5, 6]), ([4, 7, 1], [1, 4, 7]), ([1, 8], [1, 8]), ([9, 7, 0, 1, 2, 3, 4, 5, 6, 7, 8, 9], [9])])
def haulierlaw13_BetterTells.B6 : List Nat := [0, 1, 3, 3, 15, 3, 3, 127, 255, 511, 1023]
theorem haulierlaw13_BetterTells.tab6 : rtab .any (opsOf Try.f7 6) = haulierlaw13_BetterTells.T6 := by kernel_rfl
theorem haulierlaw13_BetterTells.bits6 : waitsOk haulierlaw13_BetterTells.T6.2 haulierlaw13_BetterTells.B6 = true := by kernel_rfl
set_option maxHeartbeats 16000000 in
set_option maxRecDepth 100000 in
theorem haulierlaw13_BetterTells.calls (k : Nat) (a0_0 : Int) (a0_1 : Int) (a0_2 : Int) (a0_3 : Int) (a0_4 : Int) (a0_5 : Int) (a0_6 : Int) (a0_7 : Int) (a0_8 : Int) (A0_9 : Option Addr) (c0_9 : Nat) (l0_9 : List Int) (a1_0 : Int) (a1_1 : Int) (a1_2 : Int) (a1_3 : Int) (a1_4 : Int) (a1_5 : Int) (a1_6 : Int) (a1_7 : Int) (a1_8 : Int) (A1_9 : Option Addr) (c1_9 : Nat) (l1_9 : List Int) (A2 : Option Addr) (c2 : Nat) (l2 : List (S37)) (r : Bool) (w : World) (hr0_9 : Kd.C (Kd.int .i64) w A0_9 l0_9.length l0_9) (hc0_9 : l0_9.length ≤ c0_9) (hr1_9 : Kd.C (Kd.int .i64) w A1_9 l1_9.length l1_9) (hc1_9 : l1_9.length ≤ c1_9) (hr2 : Kd.C k37 w A2 l2.length l2) (hc2 : l2.length ≤ c2) (h : haulierlaw13_BetterTells.f k a0_0 a0_1 a0_2 a0_3 a0_4 a0_5 a0_6 a0_7 a0_8 l0_9 a1_0 a1_1 a1_2 a1_3 a1_4 a1_5 a1_6 a1_7 a1_8 l1_9 l2 = some r) :
  Calls Try.prog 7 #[.agg #[.int .i64 a0_0, .int .i64 a0_1, .int .i64 a0_2, .int .i64 a0_3, .int .i64 a0_4, .int .u64 a0_5, .int .u64 a0_6, .int .u64 a0_7, .int .i64 a0_8, .slice A0_9 l0_9.length c0_9], .agg #[.int .i64 a1_0, .int .i64 a1_1, .int .i64 a1_2, .int .i64 a1_3, .int .i64 a1_4, .int .u64 a1_5, .int .u64 a1_6, .int .u64 a1_7, .int .i64 a1_8, .slice A1_9 l1_9.length c1_9], .slice A2 l2.length c2] w fun e w' => e = .returned (.bool r) ∧ Below w.heap.size w w' := by
 have hu37 := Try.underlying37
 have HR0_9 := zqi hr0_9
 have HC0_9 := zqi hc0_9
 clear hr0_9 hc0_9
 have HR1_9 := zqi hr1_9
 have HC1_9 := zqi hc1_9
 clear hr1_9 hc1_9
 have HR2 := zqi hr2
 have HC2 := zqi hc2
 clear hr2 hc2
 have HB := zqi (Below.refl w.heap.size w)
 have H : ((haulierlaw13_awake.f).bind fun t147 => ((haulierlaw13_Few.f k l2).bind fun t148 => (if t147 = true then (haulierlaw13_BetterTells.j0 k l2 t147 (!t148) a0_0 a0_1 a0_2 a0_3 a0_4 a0_5 a0_6 a0_7 a0_8 l0_9 a1_0 a1_1 a1_2 a1_3 a1_4 a1_5 a1_6 a1_7 a1_8 l1_9) else (haulierlaw13_BetterTells.j0 k l2 t147 true a0_0 a0_1 a0_2 a0_3 a0_4 a0_5 a0_6 a0_7 a0_8 l0_9 a1_0 a1_1 a1_2 a1_3 a1_4 a1_5 a1_6 a1_7 a1_8 l1_9)))) = some r := h
 clear h
 replace H := Option.bind_eq_some_iff.mp H
 obtain ⟨t147, A40, H⟩ := H
 replace H : ((haulierlaw13_Few.f k l2).bind fun t148 => (if t147 = true then (haulierlaw13_BetterTells.j0 k l2 t147 (!t148) a0_0 a0_1 a0_2 a0_3 a0_4 a0_5 a0_6 a0_7 a0_8 l0_9 a1_0 a1_1 a1_2 a1_3 a1_4 a1_5 a1_6 a1_7 a1_8 l1_9) else (haulierlaw13_BetterTells.j0 k l2 t147 true a0_0 a0_1 a0_2 a0_3 a0_4 a0_5 a0_6 a0_7 a0_8 l0_9 a1_0 a1_1 a1_2 a1_3 a1_4 a1_5 a1_6 a1_7 a1_8 l1_9))) = some r := H
 have A4 := zqi A40
 clear A40
 replace H := Option.bind_eq_some_iff.mp H
 obtain ⟨t148, A50, H⟩ := H
 replace H : (if t147 = true then (haulierlaw13_BetterTells.j0 k l2 t147 (!t148) a0_0 a0_1 a0_2 a0_3 a0_4 a0_5 a0_6 a0_7 a0_8 l0_9 a1_0 a1_1 a1_2 a1_3 a1_4 a1_5 a1_6 a1_7 a1_8 l1_9) else (haulierlaw13_BetterTells.j0 k l2 t147 true a0_0 a0_1 a0_2 a0_3 a0_4 a0_5 a0_6 a0_7 a0_8 l0_9 a1_0 a1_1 a1_2 a1_3 a1_4 a1_5 a1_6 a1_7 a1_8 l1_9)) = some r := H
 have A5 := zqi A50
 clear A50
 have HC6 := zqi H
 clear H
 go_enter Try.func7, Try.ntmps7
 go_upto_region 3 with (first | ((with_reducible refine gate_dst (N := 3) rfl ?_); refine box_event ?hg (N := 3) ?hd (cs := #[.int .i64 a0_0, .int .i64 a0_1, .int .i64 a0_2, .int .i64 a0_3, .int .i64 a0_4, .int .u64 a0_5, .int .u64 a0_6, .int .u64 a0_7, .int .i64 a0_8, .slice A0_9 l0_9.length c0_9]) (t := 37) ?hr ?_; (case hd => rfl); (case hg => rfl); (case hr => first | (go_simp; done) | (go_simp; rfl)); intro gb145 hg w7 hbox hb; have n0_ := zqi (below_step (zqn HB.out) hb); have n1_ := zqi (hbox); have n2_ := zqi (zqo hg HB.out); have n3_ := zqi (zqo hg HB.out); clear HB; have HB := n0_; have BK145 := n1_; have GW145 := n2_; have GE145 := n3_; clear n0_ n1_ n2_ n3_; clear hb hbox hg) | ((with_reducible refine gate_dst (N := 4) rfl ?_); refine box_event ?hg (N := 4) ?hd (cs := #[.int .i64 a1_0, .int .i64 a1_1, .int .i64 a1_2, .int .i64 a1_3, .int .i64 a1_4, .int .u64 a1_5, .int .u64 a1_6, .int .u64 a1_7, .int .i64 a1_8, .slice A1_9 l1_9.length c1_9]) (t := 37) ?hr ?_; (case hd => rfl); (case hg => rfl); (case hr => first | (go_simp; done) | (go_simp; rfl)); intro gb146 hg w8 hbox hb; have n0_ := zqi (zqy BK145.out hb); have n1_ := zqi (below_step (zqn HB.out) hb); have n2_ := zqi (hbox); have n3_ := zqi (zqo hg HB.out); have n4_ := zqi (zqo hg HB.out); have n5_ := zqi ((zqq hg BK145.out)); have n6_ := zqi ((zqr hg BK145.out)); clear BK145; clear HB; have BK145 := n0_; have HB := n1_; have BK146 := n2_; have GW146 := n3_; have GE146 := n4_; have NB145_146 := n5_; have NB146_145 := n6_; clear n0_ n1_ n2_ n3_ n4_ n5_ n6_; clear hb hbox hg) | ((with_reducible refine gate_callee (f := 16) rfl ?_); refine goesL_ (some 10) rfl rfl Try.func16 (by kernel_rfl) rfl #[] rfl (by (try simp only [List.map_toArray, List.map_cons, List.map_nil]); first | done | rfl | (simp only [List.length_drop, List.length_take]; rfl)) ?_; (with_reducible refine (haulierlaw13_awake.calls  t147 _ A4.out).mono ?_); rintro e w9 ⟨rfl, hb⟩; refine ⟨_, rfl, ?_⟩; have n0_ := zqi (zqy BK145.out hb); have n1_ := zqi (zqy BK146.out hb); have n2_ := zqi (below_step (zqn HB.out) hb); clear BK145; clear BK146; clear HB; have BK145 := n0_; have BK146 := n1_; have HB := n2_; clear n0_ n1_ n2_; (try clear hb); (try clear hb2); (try clear hk); (try clear hi)) | ((with_reducible refine gate_callee (f := 17) rfl ?_); refine goesL_ (some 12) rfl rfl Try.func17 (by kernel_rfl) rfl #[.slice A2 l2.length c2] rfl (by (try simp only [List.map_toArray, List.map_cons, List.map_nil]); first | done | rfl | (simp only [List.length_drop, List.length_take]; rfl)) ?_; (with_reducible refine (haulierlaw13_Few.calls k _ _ l2 t148 _ ?side1 ?side2 A5.out).mono ?_); (case side1 => repeat (first | exact (Kd.C_below HR2.out HB.out) | (with_reducible refine Kd.C_alloc ?_ _) | (with_reducible refine Kd.C_drewN ?_ _) | (with_reducible refine Kd.C_drew ?_))); (case side2 => exact HC2.out); rintro e w' ⟨rfl, ⟨nd, rfl⟩⟩; refine ⟨_, rfl, ?_⟩))
 (try simp only [Act.put, List.setIfInBounds_toArray, List.set_cons_zero, List.set_cons_succ])
 go_cut [18] (fun v18 wc => ∃ (kq : Nat) (x18_5 : Bool), v18 = .bool x18_5 ∧ Aside0 (haulierlaw13_BetterTells.j0 kq l2 t147 x18_5 a0_0 a0_1 a0_2 a0_3 a0_4 a0_5 a0_6 a0_7 a0_8 l0_9 a1_0 a1_1 a1_2 a1_3 a1_4 a1_5 a1_6 a1_7 a1_8 l1_9 = some r) ∧ Aside0 (kq ≤ k) ∧ Aside0 (wc.heap[gb145]? = some (.cells #[.int .i64 a0_0, .int .i64 a0_1, .int .i64 a0_2, .int .i64 a0_3, .int .i64 a0_4, .int .u64 a0_5, .int .u64 a0_6, .int .u64 a0_7, .int .i64 a0_8, (.slice A0_9 l0_9.length c0_9)] 37 (0, 0))) ∧ Aside0 (wc.heap[gb146]? = some (.cells #[.int .i64 a1_0, .int .i64 a1_1, .int .i64 a1_2, .int .i64 a1_3, .int .i64 a1_4, .int .u64 a1_5, .int .u64 a1_6, .int .u64 a1_7, .int .i64 a1_8, (.slice A1_9 l1_9.length c1_9)] 37 (0, 0))) ∧ Aside0 (Below w.heap.size w wc))
 case first =>
  have H := HC6.out
  clear HC6
  by_cases c10 : t147 = true
  ·
   subst c10
   have H1 : (haulierlaw13_BetterTells.j0 k l2 true (!t148) a0_0 a0_1 a0_2 a0_3 a0_4 a0_5 a0_6 a0_7 a0_8 l0_9 a1_0 a1_1 a1_2 a1_3 a1_4 a1_5 a1_6 a1_7 a1_8 l1_9) = some r := by rw [if_pos rfl] at H; exact H
   clear H
   have H := H1
   clear H1
   have H' := zqi H
   clear H
   go_wp2
   go_meet
   case rel => exact ⟨_, (!t148), (by first | rfl | (simp; done) | (simp [*]; done)), H', ⟨by first | omega | exact Nat.le_refl _⟩, ⟨by (with_reducible repeat (first | apply zqa | apply zqb | apply zqc)); exact BK145.out⟩, ⟨by (with_reducible repeat (first | apply zqa | apply zqb | apply zqc)); exact BK146.out⟩, ⟨by repeat (first | (with_reducible first | exact HB.out | apply zqg | apply zqf | apply zqh | refine below_set ?_ GE145.out | refine below_set ?_ GE146.out) | exact HB.out)⟩⟩
  ·
   replace c10 := Bool.eq_false_iff.mpr c10
   subst c10
   have H1 : (haulierlaw13_BetterTells.j0 k l2 false true a0_0 a0_1 a0_2 a0_3 a0_4 a0_5 a0_6 a0_7 a0_8 l0_9 a1_0 a1_1 a1_2 a1_3 a1_4 a1_5 a1_6 a1_7 a1_8 l1_9) = some r := by rw [if_neg (show ¬ (false = true) by decide)] at H; exact H
   clear H
   have H := H1
   clear H1
   have H' := zqi H
   clear H
   go_wp2
   go_meet
   case rel => exact ⟨_, (true), (by first | rfl | (simp; done) | (simp [*]; done)), H', ⟨by first | omega | exact Nat.le_refl _⟩, ⟨by (with_reducible repeat (first | apply zqa | apply zqb | apply zqc)); exact BK145.out⟩, ⟨by (with_reducible repeat (first | apply zqa | apply zqb | apply zqc)); exact BK146.out⟩, ⟨by repeat (first | (with_reducible first | exact HB.out | apply zqg | apply zqf | apply zqh | refine below_set ?_ GE145.out | refine below_set ?_ GE146.out) | exact HB.out)⟩⟩
 case rest =>
  clear HC6
  try clear c1
  try clear c2
  try clear p2
  try clear c7
  try clear c10
  obtain ⟨kq, x18_5, rfl, HA, HJ5, BK145, BK146, HB⟩ := hcut
  cases kq with
  | zero => exact absurd HA.out (by simp [haulierlaw13_BetterTells.j0])
  | succ kj5 =>
   have H := HA.out
   clear HA
   simp only [haulierlaw13_BetterTells.j0] at H
   by_cases c11 : x18_5 = true
   ·
    subst c11
    have H1 : (some t147) = some r := by rw [if_pos rfl] at H; exact H
    clear H
    have H := H1
    clear H1
    obtain rfl := Option.some.inj H
    go_wp2
    go_ret
    exact ⟨by first | rfl | (simp [errW_none, errW_some] <;> rfl) | (simp [*, errW_none, errW_some] <;> rfl), by repeat (first | (with_reducible first | exact HB.out | apply zqg | apply zqf | apply zqh | refine below_set ?_ GE145.out | refine below_set ?_ GE146.out) | exact HB.out)⟩
   ·
    replace c11 := Bool.eq_false_iff.mpr c11
    subst c11
    have H1 : ((better_Front.f l2).bind fun t149 => ((haulierref13_Front.f kj5 l2).bind fun t152 => ((haulierref13_Same.f kj5 t149 t152).bind fun t155 => (if t155 = true then ((better_Than.f a0_0 a0_1 a0_2 a0_3 a0_4 a0_5 a0_6 a0_7 a0_8 l0_9 a1_0 a1_1 a1_2 a1_3 a1_4 a1_5 a1_6 a1_7 a1_8 l1_9).bind fun t156 => ((haulierref13_Than.f kj5 a0_0 a0_1 a0_2 a0_3 a0_4 a0_5 a0_6 a0_7 a0_8 l0_9 a1_0 a1_1 a1_2 a1_3 a1_4 a1_5 a1_6 a1_7 a1_8 l1_9).bind fun t157 => (some (t156 == t157)))) else (none))))) = some r := by rw [if_neg (show ¬ (false = true) by decide)] at H; exact H
    clear H
    have H := H1
    clear H1
    replace H := Option.bind_eq_some_iff.mp H
    obtain ⟨t149, A120, H⟩ := H
    replace H : ((haulierref13_Front.f kj5 l2).bind fun t152 => ((haulierref13_Same.f kj5 t149 t152).bind fun t155 => (if t155 = true then ((better_Than.f a0_0 a0_1 a0_2 a0_3 a0_4 a0_5 a0_6 a0_7 a0_8 l0_9 a1_0 a1_1 a1_2 a1_3 a1_4 a1_5 a1_6 a1_7 a1_8 l1_9).bind fun t156 => ((haulierref13_Than.f kj5 a0_0 a0_1 a0_2 a0_3 a0_4 a0_5 a0_6 a0_7 a0_8 l0_9 a1_0 a1_1 a1_2 a1_3 a1_4 a1_5 a1_6 a1_7 a1_8 l1_9).bind fun t157 => (some (t156 == t157)))) else (none)))) = some r := H
    have A12 := zqi A120
    clear A120
    replace H := Option.bind_eq_some_iff.mp H
    obtain ⟨t152, A130, H⟩ := H
    replace H : ((haulierref13_Same.f kj5 t149 t152).bind fun t155 => (if t155 = true then ((better_Than.f a0_0 a0_1 a0_2 a0_3 a0_4 a0_5 a0_6 a0_7 a0_8 l0_9 a1_0 a1_1 a1_2 a1_3 a1_4 a1_5 a1_6 a1_7 a1_8 l1_9).bind fun t156 => ((haulierref13_Than.f kj5 a0_0 a0_1 a0_2 a0_3 a0_4 a0_5 a0_6 a0_7 a0_8 l0_9 a1_0 a1_1 a1_2 a1_3 a1_4 a1_5 a1_6 a1_7 a1_8 l1_9).bind fun t157 => (some (t156 == t157)))) else (none))) = some r := H
    have A13 := zqi A130
    clear A130
    replace H := Option.bind_eq_some_iff.mp H
    obtain ⟨t155, A140, H⟩ := H
    replace H : (if t155 = true then ((better_Than.f a0_0 a0_1 a0_2 a0_3 a0_4 a0_5 a0_6 a0_7 a0_8 l0_9 a1_0 a1_1 a1_2 a1_3 a1_4 a1_5 a1_6 a1_7 a1_8 l1_9).bind fun t156 => ((haulierref13_Than.f kj5 a0_0 a0_1 a0_2 a0_3 a0_4 a0_5 a0_6 a0_7 a0_8 l0_9 a1_0 a1_1 a1_2 a1_3 a1_4 a1_5 a1_6 a1_7 a1_8 l1_9).bind fun t157 => (some (t156 == t157)))) else (none)) = some r := H
    have A14 := zqi A140
    clear A140
    by_cases c15 : t155 = true
    ·
     subst c15
     have H1 : ((better_Than.f a0_0 a0_1 a0_2 a0_3 a0_4 a0_5 a0_6 a0_7 a0_8 l0_9 a1_0 a1_1 a1_2 a1_3 a1_4 a1_5 a1_6 a1_7 a1_8 l1_9).bind fun t156 => ((haulierref13_Than.f kj5 a0_0 a0_1 a0_2 a0_3 a0_4 a0_5 a0_6 a0_7 a0_8 l0_9 a1_0 a1_1 a1_2 a1_3 a1_4 a1_5 a1_6 a1_7 a1_8 l1_9).bind fun t157 => (some (t156 == t157)))) = some r := by rw [if_pos rfl] at H; exact H
     clear H
     have H := H1
     clear H1
     replace H := Option.bind_eq_some_iff.mp H
     obtain ⟨t156, A160, H⟩ := H
     replace H : ((haulierref13_Than.f kj5 a0_0 a0_1 a0_2 a0_3 a0_4 a0_5 a0_6 a0_7 a0_8 l0_9 a1_0 a1_1 a1_2 a1_3 a1_4 a1_5 a1_6 a1_7 a1_8 l1_9).bind fun t157 => (some (t156 == t157))) = some r := H
     have A16 := zqi A160
     clear A160
     replace H := Option.bind_eq_some_iff.mp H
     obtain ⟨t157, A170, H⟩ := H
     replace H : (some (t156 == t157)) = some r := H
     have A17 := zqi A170
     clear A170
     obtain rfl := Option.some.inj H
     try go_wp2_with (first | ((with_reducible refine gate_callee (f := 19) rfl ?_); refine goesL_ (some 21) rfl rfl Try.func19 (by kernel_rfl) rfl #[.slice A2 l2.length c2] rfl (by (try simp only [List.map_toArray, List.map_cons, List.map_nil]); first | done | rfl | (simp only [List.length_drop, List.length_take]; rfl)) ?_; (with_reducible refine (better_Front.calls _ _ l2 t149 _ ?side1 ?side2 A12.out).mono ?_); (case side1 => repeat (first | exact (Kd.C_below HR2.out HB.out) | (with_reducible refine Kd.C_alloc ?_ _) | (with_reducible refine Kd.C_drewN ?_ _) | (with_reducible refine Kd.C_drew ?_))); (case side2 => exact HC2.out); rintro e w18 ⟨v150, rfl, ho0, hb⟩; refine ⟨_, rfl, ?_⟩; have n0_ := zqi (Kd.N_lower (Kd.N_mono (ok' := fun k_ => k_ ≠ gb145 ∧ k_ ≠ gb146) (Kd.R_N (Kd.R_bound ho0)) (fun k_ hk_ => ⟨(Kd.freshB (g := gb145) (o := .cells #[.int .i64 a0_0, .int .i64 a0_1, .int .i64 a0_2, .int .i64 a0_3, .int .i64 a0_4, .int .u64 a0_5, .int .u64 a0_6, .int .u64 a0_7, .int .i64 a0_8, .slice A0_9 l0_9.length c0_9] 37 (0, 0)) (zqm BK145.out) k_ hk_.2.1), (Kd.freshB (g := gb146) (o := .cells #[.int .i64 a1_0, .int .i64 a1_1, .int .i64 a1_2, .int .i64 a1_3, .int .i64 a1_4, .int .u64 a1_5, .int .u64 a1_6, .int .u64 a1_7, .int .i64 a1_8, .slice A1_9 l1_9.length c1_9] 37 (0, 0)) (zqm BK146.out) k_ hk_.2.1)⟩)) (below_size (zqn HB.out))); have n1_ := zqi (zqy BK145.out hb); have n2_ := zqi (zqy BK146.out hb); have n3_ := zqi (below_step (zqn HB.out) hb); clear BK145; clear BK146; clear HB; have HO151 := n0_; have BK145 := n1_; have BK146 := n2_; have HB := n3_; clear n0_ n1_ n2_ n3_; (try clear hb); (try clear hb2); (try clear hk); (try clear hi); (try clear ho0)) | ((with_reducible refine gate_callee (f := 20) rfl ?_); refine goesL_ (some 23) rfl rfl Try.func20 (by kernel_rfl) rfl #[.slice A2 l2.length c2] rfl (by (try simp only [List.map_toArray, List.map_cons, List.map_nil]); first | done | rfl | (simp only [List.length_drop, List.length_take]; rfl)) ?_; (with_reducible refine (haulierref13_Front.calls kj5 (fun k_ => k_ < w.heap.size) _ _ l2 t152 _ ?side1 A13.out).mono ?_); (case side1 => exact Kd.V_mk HC2.out (Kd.F_below (Kd.C_F k37_heap HR2.out) (zqn HB.out))); rintro e w19 ⟨v153, rfl, ho0, hb⟩; refine ⟨_, rfl, ?_⟩; have n0_ := zqi (Kd.N_elder' (by (with_reducible repeat (first | apply Kd.N_alloc | apply Kd.N_drewN | apply Kd.N_drew)); exact HO151.out) (Kd.N_base ho0) hb); have n1_ := zqi (Kd.N_lower (Kd.N_mono (ok' := fun k_ => some k_ ≠ (v150 : Value).ownBlock ∧ k_ ≠ gb145 ∧ k_ ≠ gb146) ho0 (fun k_ hk_ => ⟨Or.elim hk_ (fun hs_ => fun e_ => Nat.not_le.2 hs_ (Kd.N_base HO151.out k_ e_.symm)) (fun hn_ => (Kd.fresh' (Kd.N_lt (by (with_reducible repeat (first | apply Kd.N_alloc | apply Kd.N_drewN | apply Kd.N_drew)); exact HO151.out)) k_ hn_)), Or.elim hk_ (fun hs_ => fun e_ => Nat.not_le.2 hs_ (by rw [e_]; exact GW145.out)) (fun hn_ => (Kd.freshB (g := gb145) (o := .cells #[.int .i64 a0_0, .int .i64 a0_1, .int .i64 a0_2, .int .i64 a0_3, .int .i64 a0_4, .int .u64 a0_5, .int .u64 a0_6, .int .u64 a0_7, .int .i64 a0_8, .slice A0_9 l0_9.length c0_9] 37 (0, 0)) (zqm BK145.out) k_ hn_)), Or.elim hk_ (fun hs_ => fun e_ => Nat.not_le.2 hs_ (by rw [e_]; exact GW146.out)) (fun hn_ => (Kd.freshB (g := gb146) (o := .cells #[.int .i64 a1_0, .int .i64 a1_1, .int .i64 a1_2, .int .i64 a1_3, .int .i64 a1_4, .int .u64 a1_5, .int .u64 a1_6, .int .u64 a1_7, .int .i64 a1_8, .slice A1_9 l1_9.length c1_9] 37 (0, 0)) (zqm BK146.out) k_ hn_))⟩)) (below_size (zqn HB.out))); have n2_ := zqi (zqy BK145.out hb); have n3_ := zqi (zqy BK146.out hb); have n4_ := zqi (below_step (zqn HB.out) hb); clear HO151; clear BK145; clear BK146; clear HB; have HO151 := n0_; have HO154 := n1_; have BK145 := n2_; have BK146 := n3_; have HB := n4_; clear n0_ n1_ n2_ n3_ n4_; (try clear hb); (try clear hb2); (try clear hk); (try clear hi); (try clear ho0); obtain ⟨Ao20, co20, eo20⟩ := Kd.N_slice HO151.out; subst eo20; obtain ⟨Ao21, co21, eo21⟩ := Kd.N_slice HO154.out; subst eo21) | ((with_reducible refine gate_callee (f := 18) rfl ?_); refine goesL_ (some 24) rfl rfl Try.func18 (by kernel_rfl) rfl #[.slice Ao20 t149.length co20, .slice Ao21 t152.length co21] rfl (by (try simp only [List.map_toArray, List.map_cons, List.map_nil]); first | done | rfl | (simp only [List.length_drop, List.length_take]; rfl)) ?_; (with_reducible refine (haulierref13_Same.calls kj5 _ _ t149 _ _ t152 true _ ?side1 ?side2 ?side3 ?side4 A14.out).mono ?_); (case side1 => repeat (first | exact (Kd.N_reads' HO151.out).2.2 | (with_reducible refine Kd.C_alloc ?_ _) | (with_reducible refine Kd.C_drewN ?_ _) | (with_reducible refine Kd.C_drew ?_))); (case side2 => exact (Kd.N_reads' HO151.out).2.1); (case side3 => repeat (first | exact (Kd.N_reads' HO154.out).2.2 | (with_reducible refine Kd.C_alloc ?_ _) | (with_reducible refine Kd.C_drewN ?_ _) | (with_reducible refine Kd.C_drew ?_))); (case side4 => exact (Kd.N_reads' HO154.out).2.1); rintro e w' ⟨rfl, ⟨nd, rfl⟩⟩; refine ⟨_, rfl, ?_⟩))
     (try (rw [drewN_self w19]; generalize hq_ : World.drewN w19 _ = w19; have n0_ : Aside0 (Kd.N k37 37 w19 w.heap.size (fun k_ => some k_ ≠ (.slice Ao21 t152.length co21 : Value).ownBlock ∧ k_ ≠ gb145 ∧ k_ ≠ gb146) (.slice Ao20 t149.length co20) t149) := ⟨by rw [← hq_]; exact (by (with_reducible repeat (first | apply Kd.N_alloc | apply Kd.N_drewN | apply Kd.N_drew)); exact Kd.N_mono HO151.out (fun _ hk => ⟨hk.2, ⟨hk.1.1, hk.1.2⟩⟩))⟩; have n1_ : Aside0 (Kd.N k37 37 w19 w.heap.size (fun k_ => some k_ ≠ (.slice Ao20 t149.length co20 : Value).ownBlock ∧ k_ ≠ gb145 ∧ k_ ≠ gb146) (.slice Ao21 t152.length co21) t152) := ⟨by rw [← hq_]; exact (by (with_reducible repeat (first | apply Kd.N_alloc | apply Kd.N_drewN | apply Kd.N_drew)); exact HO154.out)⟩; have n2_ : Aside0 (w19.heap[gb145]? = some (.cells #[.int .i64 a0_0, .int .i64 a0_1, .int .i64 a0_2, .int .i64 a0_3, .int .i64 a0_4, .int .u64 a0_5, .int .u64 a0_6, .int .u64 a0_7, .int .i64 a0_8, .slice A0_9 l0_9.length c0_9] 37 (0, 0))) := ⟨by rw [← hq_]; exact (zqm BK145.out)⟩; have n3_ : Aside0 (w19.heap[gb146]? = some (.cells #[.int .i64 a1_0, .int .i64 a1_1, .int .i64 a1_2, .int .i64 a1_3, .int .i64 a1_4, .int .u64 a1_5, .int .u64 a1_6, .int .u64 a1_7, .int .i64 a1_8, .slice A1_9 l1_9.length c1_9] 37 (0, 0))) := ⟨by rw [← hq_]; exact (zqm BK146.out)⟩; have n4_ : Aside0 (Below w.heap.size w w19) := ⟨by rw [← hq_]; exact (zqn HB.out)⟩; clear HO151 HO154 BK145 BK146 HB hq_; have HO151 := n0_; have HO154 := n1_; have BK145 := n2_; have BK146 := n3_; have HB := n4_; clear n0_ n1_ n2_ n3_ n4_))
     have n0_ := zqi (Kd.N_drew HO151.out)
     have n1_ := zqi (Kd.N_drew HO154.out)
     have n2_ := zqi (zqb BK145.out)
     have n3_ := zqi (zqb BK146.out)
     have n4_ := zqi (zqh HB.out)
     clear HO151
     clear HO154
     clear BK145
     clear BK146
     clear HB
     have HO151 := n0_
     have HO154 := n1_
     have BK145 := n2_
     have BK146 := n3_
     have HB := n4_
     clear n0_ n1_ n2_ n3_ n4_
     refine start_ (n := 11) (S := fun w' => w'.cell? ⟨gb145, 0, none⟩ = some (.int .i64 a0_0) ∧ w'.cell? ⟨gb145, 1, none⟩ = some (.int .i64 a0_1) ∧ w'.cell? ⟨gb145, 2, none⟩ = some (.int .i64 a0_2) ∧ w'.cell? ⟨gb145, 3, none⟩ = some (.int .i64 a0_3) ∧ w'.cell? ⟨gb145, 4, none⟩ = some (.int .i64 a0_4) ∧ w'.cell? ⟨gb145, 5, none⟩ = some (.int .u64 a0_5) ∧ w'.cell? ⟨gb145, 6, none⟩ = some (.int .u64 a0_6) ∧ w'.cell? ⟨gb145, 7, none⟩ = some (.int .u64 a0_7) ∧ w'.cell? ⟨gb145, 8, none⟩ = some (.int .i64 a0_8) ∧ w'.cell? ⟨gb145, 9, none⟩ = some (.slice A0_9 l0_9.length c0_9) ∧ w'.cell? ⟨gb146, 0, none⟩ = some (.int .i64 a1_0) ∧ w'.cell? ⟨gb146, 1, none⟩ = some (.int .i64 a1_1) ∧ w'.cell? ⟨gb146, 2, none⟩ = some (.int .i64 a1_2) ∧ w'.cell? ⟨gb146, 3, none⟩ = some (.int .i64 a1_3) ∧ w'.cell? ⟨gb146, 4, none⟩ = some (.int .i64 a1_4) ∧ w'.cell? ⟨gb146, 5, none⟩ = some (.int .u64 a1_5) ∧ w'.cell? ⟨gb146, 6, none⟩ = some (.int .u64 a1_6) ∧ w'.cell? ⟨gb146, 7, none⟩ = some (.int .u64 a1_7) ∧ w'.cell? ⟨gb146, 8, none⟩ = some (.int .i64 a1_8) ∧ w'.cell? ⟨gb146, 9, none⟩ = some (.slice A1_9 l1_9.length c1_9)) (ds := []) (zqB 11 0) (by kernel_rfl) rfl rfl ⟨(zqe BK145.out 0).trans rfl, (zqe BK145.out 1).trans rfl, (zqe BK145.out 2).trans rfl, (zqe BK145.out 3).trans rfl, (zqe BK145.out 4).trans rfl, (zqe BK145.out 5).trans rfl, (zqe BK145.out 6).trans rfl, (zqe BK145.out 7).trans rfl, (zqe BK145.out 8).trans rfl, (zqe BK145.out 9).trans rfl, (zqe BK146.out 0).trans rfl, (zqe BK146.out 1).trans rfl, (zqe BK146.out 2).trans rfl, (zqe BK146.out 3).trans rfl, (zqe BK146.out 4).trans rfl, (zqe BK146.out 5).trans rfl, (zqe BK146.out 6).trans rfl, (zqe BK146.out 7).trans rfl, (zqe BK146.out 8).trans rfl, (zqe BK146.out 9).trans rfl⟩ (fun hHeld => ?_); refine with_tabW haulierlaw13_BetterTells.tab6 haulierlaw13_BetterTells.bits6 (fun HT_ HW_ => ?_)
     generalize w19.drew = w22 at HO151 HO154 BK145 BK146 HB hHeld ⊢
     refine zqp 0 (some 25) (zqB 11 1) (any_of HT_.out (by kernel_rfl)) (h := ?_)
     refine zqp 1 (some 26) (zqB 11 3) (any_of HT_.out (by kernel_rfl)) (h := ?_)
     refine zqt 2 (some 27) (zqB 11 7) (take_ofW HT_.out HW_.out (by kernel_rfl)) hHeld (h := ?_)
     refine zqt 3 (some 28) (zqB 11 15) (take_ofW HT_.out HW_.out (by kernel_rfl)) hHeld (h := ?_)
     refine zqt 5 (some 30) (zqB 11 47) (take_ofW HT_.out HW_.out (by kernel_rfl)) hHeld (h := ?_)
     refine zqt 6 (some 31) (zqB 11 111) (take_ofW HT_.out HW_.out (by kernel_rfl)) hHeld (h := ?_)
     refine one_ (i := 4) (N := some 29) (zqB 11 127) rfl rfl (one_of HT_.out (by kernel_rfl)) (by decide) (fun K hK => ?_)
     refine goes_ Try.func21 (by kernel_rfl) rfl #[.agg #[.int .i64 a0_0, .int .i64 a0_1, .int .i64 a0_2, .int .i64 a0_3, .int .i64 a0_4, .int .u64 a0_5, .int .u64 a0_6, .int .u64 a0_7, .int .i64 a0_8, .slice A0_9 l0_9.length c0_9], .agg #[.int .i64 a1_0, .int .i64 a1_1, .int .i64 a1_2, .int .i64 a1_3, .int .i64 a1_4, .int .u64 a1_5, .int .u64 a1_6, .int .u64 a1_7, .int .i64 a1_8, .slice A1_9 l1_9.length c1_9]] (by rfl) rfl rfl (by (try simp only [List.map_toArray, List.map_cons, List.map_nil]); first | done | rfl | (simp only [List.length_drop, List.length_take]; rfl)) ?_
     with_reducible refine (better_Than.calls a0_0 a0_1 a0_2 a0_3 a0_4 a0_5 a0_6 a0_7 a0_8 _ _ l0_9 a1_0 a1_1 a1_2 a1_3 a1_4 a1_5 a1_6 a1_7 a1_8 _ _ l1_9 t156 _ ?side1 ?side2 ?side3 ?side4 A16.out).mono ?_
     (case side1 => repeat (first | exact (Kd.C_below HR0_9.out HB.out) | (with_reducible refine Kd.C_alloc ?_ _) | (with_reducible refine Kd.C_drewN ?_ _) | (with_reducible refine Kd.C_drew ?_)))
     (case side2 => exact HC0_9.out)
     (case side3 => repeat (first | exact (Kd.C_below HR1_9.out HB.out) | (with_reducible refine Kd.C_alloc ?_ _) | (with_reducible refine Kd.C_drewN ?_ _) | (with_reducible refine Kd.C_drew ?_)))
     (case side4 => exact HC1_9.out)
     rintro e w23 ⟨rfl, hb⟩
     refine ⟨_, rfl, ?_⟩
     have n0_ := zqi (Kd.N_below (by (with_reducible repeat (first | apply Kd.N_alloc | apply Kd.N_drewN | apply Kd.N_drew)); exact HO151.out) hb)
     have n1_ := zqi (Kd.N_below (by (with_reducible repeat (first | apply Kd.N_alloc | apply Kd.N_drewN | apply Kd.N_drew)); exact HO154.out) hb)
     have n2_ := zqi (zqy BK145.out hb)
     have n3_ := zqi (zqy BK146.out hb)
     have n4_ := zqi (below_step (zqn HB.out) hb)
     clear HO151
     clear HO154
     clear BK145
     clear BK146
     clear HB
     have HO151 := n0_
     have HO154 := n1_
     have BK145 := n2_
     have BK146 := n3_
     have HB := n4_
     clear n0_ n1_ n2_ n3_ n4_
     (try clear hb)
     (try clear hb2)
     (try clear hk)
     (try clear hi)
     refine hK.out _ _ ⟨(zqe BK145.out 0).trans rfl, (zqe BK145.out 1).trans rfl, (zqe BK145.out 2).trans rfl, (zqe BK145.out 3).trans rfl, (zqe BK145.out 4).trans rfl, (zqe BK145.out 5).trans rfl, (zqe BK145.out 6).trans rfl, (zqe BK145.out 7).trans rfl, (zqe BK145.out 8).trans rfl, (zqe BK145.out 9).trans rfl, (zqe BK146.out 0).trans rfl, (zqe BK146.out 1).trans rfl, (zqe BK146.out 2).trans rfl, (zqe BK146.out 3).trans rfl, (zqe BK146.out 4).trans rfl, (zqe BK146.out 5).trans rfl, (zqe BK146.out 6).trans rfl, (zqe BK146.out 7).trans rfl, (zqe BK146.out 8).trans rfl, (zqe BK146.out 9).trans rfl⟩ (fun hHeld => ?_)
     clear hK K
     refine norm_ (a' := ?_) ?_ ?_
     rotate_left
     ·
      show Act.put _ (some 29) _ = _
      simp only [Act.put, List.setIfInBounds_toArray, List.set_cons_zero, List.set_cons_succ, i64_w, i32_w]
      rfl
     refine one_ (i := 7) (N := some 32) (zqB 11 255) rfl rfl (one_of HT_.out (by kernel_rfl)) (by decide) (fun K hK => ?_)
     refine goes_ Try.func22 (by kernel_rfl) rfl #[.agg #[.int .i64 a0_0, .int .i64 a0_1, .int .i64 a0_2, .int .i64 a0_3, .int .i64 a0_4, .int .u64 a0_5, .int .u64 a0_6, .int .u64 a0_7, .int .i64 a0_8, .slice A0_9 l0_9.length c0_9], .agg #[.int .i64 a1_0, .int .i64 a1_1, .int .i64 a1_2, .int .i64 a1_3, .int .i64 a1_4, .int .u64 a1_5, .int .u64 a1_6, .int .u64 a1_7, .int .i64 a1_8, .slice A1_9 l1_9.length c1_9]] (by rfl) rfl rfl (by (try simp only [List.map_toArray, List.map_cons, List.map_nil]); first | done | rfl | (simp only [List.length_drop, List.length_take]; rfl)) ?_
     with_reducible refine (haulierref13_Than.calls kj5 a0_0 a0_1 a0_2 a0_3 a0_4 a0_5 a0_6 a0_7 a0_8 _ _ l0_9 a1_0 a1_1 a1_2 a1_3 a1_4 a1_5 a1_6 a1_7 a1_8 _ _ l1_9 t157 _ ?side1 ?side2 ?side3 ?side4 A17.out).mono ?_
     (case side1 => repeat (first | exact (Kd.C_below HR0_9.out HB.out) | (with_reducible refine Kd.C_alloc ?_ _) | (with_reducible refine Kd.C_drewN ?_ _) | (with_reducible refine Kd.C_drew ?_)))
     (case side2 => exact HC0_9.out)
     (case side3 => repeat (first | exact (Kd.C_below HR1_9.out HB.out) | (with_reducible refine Kd.C_alloc ?_ _) | (with_reducible refine Kd.C_drewN ?_ _) | (with_reducible refine Kd.C_drew ?_)))
     (case side4 => exact HC1_9.out)
     rintro e w24 ⟨rfl, hb⟩
     refine ⟨_, rfl, ?_⟩
     have n0_ := zqi (Kd.N_below (by (with_reducible repeat (first | apply Kd.N_alloc | apply Kd.N_drewN | apply Kd.N_drew)); exact HO151.out) hb)
     have n1_ := zqi (Kd.N_below (by (with_reducible repeat (first | apply Kd.N_alloc | apply Kd.N_drewN | apply Kd.N_drew)); exact HO154.out) hb)
     have n2_ := zqi (zqy BK145.out hb)
     have n3_ := zqi (zqy BK146.out hb)
     have n4_ := zqi (below_step (zqn HB.out) hb)
     clear HO151
     clear HO154
     clear BK145
     clear BK146
     clear HB
     have HO151 := n0_
     have HO154 := n1_
     have BK145 := n2_
     have BK146 := n3_
     have HB := n4_
     clear n0_ n1_ n2_ n3_ n4_
     (try clear hb)
     (try clear hb2)
     (try clear hk)
     (try clear hi)
     refine hK.out _ _ ⟨(zqe BK145.out 0).trans rfl, (zqe BK145.out 1).trans rfl, (zqe BK145.out 2).trans rfl, (zqe BK145.out 3).trans rfl, (zqe BK145.out 4).trans rfl, (zqe BK145.out 5).trans rfl, (zqe BK145.out 6).trans rfl, (zqe BK145.out 7).trans rfl, (zqe BK145.out 8).trans rfl, (zqe BK145.out 9).trans rfl, (zqe BK146.out 0).trans rfl, (zqe BK146.out 1).trans rfl, (zqe BK146.out 2).trans rfl, (zqe BK146.out 3).trans rfl, (zqe BK146.out 4).trans rfl, (zqe BK146.out 5).trans rfl, (zqe BK146.out 6).trans rfl, (zqe BK146.out 7).trans rfl, (zqe BK146.out 8).trans rfl, (zqe BK146.out 9).trans rfl⟩ (fun hHeld => ?_)
     clear hK K
     refine norm_ (a' := ?_) ?_ ?_
     rotate_left
     ·
      show Act.put _ (some 32) _ = _
      simp only [Act.put, List.setIfInBounds_toArray, List.set_cons_zero, List.set_cons_succ, i64_w, i32_w]
      rfl
     refine zqp 8 (some 33) (zqB 11 511) (any_of HT_.out (by kernel_rfl)) (h := ?_)
     refine zqp 9 (some 34) (zqB 11 1023) (any_of HT_.out (by kernel_rfl)) (h := ?_)
     refine zqp 10 (some 6) (zqB 11 2047) (any_of HT_.out (by kernel_rfl)) (h := ?_)
     refine done_ (done_of HT_.out (by kernel_rfl)) ?_
     try go_wp2
     go_ret
     exact ⟨by first | rfl | (simp [errW_none, errW_some] <;> rfl) | (simp [*, errW_none, errW_some] <;> rfl), by repeat (first | (with_reducible first | exact HB.out | apply zqg | apply zqf | apply zqh | refine below_set ?_ GE145.out | refine below_set ?_ GE146.out) | exact HB.out)⟩
    ·
     replace c15 := Bool.eq_false_iff.mpr c15
     subst c15
     have H1 : (none) = some r := by rw [if_neg (show ¬ (false = true) by decide)] at H; exact H
     clear H
     have H := H1
     clear H1
     exact absurd H (by simp)

end Go.Proofs.Ytkcdpnigcbcalaa.PB
