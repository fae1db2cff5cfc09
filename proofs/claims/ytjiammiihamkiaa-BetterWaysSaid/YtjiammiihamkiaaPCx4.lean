-- Printed for this claim by wip/tools/xprint.py over the kit's print; the contracts marked BY HAND are this session's own.
import Derived.Test.YtjiammiihamkiaaPCx0
import Derived.Test.YtjiammiihamkiaaPCx2
import Derived.Test.YtjiammiihamkiaaPCx3
namespace Go.Proofs.Ytjiammiihamkiaa.PC
open Go.RowKit Go.Proofs.YtjiammiihamkiaaW.PrintWords Go.Proofs.YtjiammiihamkiaaW.PrintLast Go.Proofs.YtjiammiihamkiaaW.PrintMore
attribute [local go_sem] max2_int min2_int max_two min_two max_three min_three max_four min_four   -- for this text's walks alone
set_option linter.unusedVariables false
set_option linter.unusedSimpArgs false

/-! ### state_here_visit: function 69 -/
def state_here_visit.j0 : Nat → Int → Int → Bool → Int → Int → Int → Int → Int → Int → Int → Int → Int → Int → Int → Int → Int → Int → Option (Int × Int × Int × Int × Int × Int × Int × Int × Bool)
  | 0, _, _, _, _, _, _, _, _, _, _, _, _, _, _, _, _, _ => none
  | k + 1, x1, x8, x35, x116000, x116001, x116002, x116003, x116004, x116005, x116006, x116007, x117000, x117001, x117002, x117003, x117004, x117005 => if x35 = true then (some (x116000, x116001, x116002, x116003, x116004, x116005, x116006, x116007, false)) else (if x116000 = 0 then ((set_With.f x116005 x1).bind fun t119 => ((set_With.f x116006 x1).bind fun t120 => (some (x1, x116001, wrap64 (x8 + x117005), mx (wrap64 (x116003 + x117002)) 0, x1, t119, t120, x116007, true)))) else ((set_With.f x116005 x1).bind fun t121 => ((set_With.f x116006 x1).bind fun t122 => (some (x1, x116001, wrap64 (x8 + x117005), mx (wrap64 (x116003 + x117002)) 0, x116004, t121, t122, x116007, true)))))
def state_here_visit.f (k : Nat) (a0_0 : Int) (a0_1 : Int) (a0_2 : Int) (l0_3 : List (S23)) (a0_4 : Int) (a0_5 : Int) (a0_6 : Int) (a0_7 : Int) (a0_8 : Int) (a0_9 : Int) (a0_10 : Int) (a0_11 : Int) (a1 : Int) : Option (Int × Int × Int × Int × Int × Int × Int × Int × Bool) := if 0 ≤ a1 then (if a1 < (l0_3.length : Int) then ((state_here_far.f a0_0 a0_1 a0_2 l0_3 a0_4 a0_5 a0_6 a0_7 a0_8 a0_9 a0_10 a0_11 a1).bind fun t117 => ((set_Has.f a0_9 a1).bind fun t118 => (if t118 = true then (state_here_visit.j0 k a1 (mx (wrap64 (a0_6 + t117)) ((rd_T23 l0_3 a1).f3)) true a0_4 a0_5 a0_6 a0_7 a0_8 a0_9 a0_10 a0_11 ((rd_T23 l0_3 a1).f0) ((rd_T23 l0_3 a1).f1) ((rd_T23 l0_3 a1).f2) ((rd_T23 l0_3 a1).f3) ((rd_T23 l0_3 a1).f4) ((rd_T23 l0_3 a1).f5)) else (state_here_visit.j0 k a1 (mx (wrap64 (a0_6 + t117)) ((rd_T23 l0_3 a1).f3)) (decide ((mx (wrap64 (a0_6 + t117)) ((rd_T23 l0_3 a1).f3)) > ((rd_T23 l0_3 a1).f4))) a0_4 a0_5 a0_6 a0_7 a0_8 a0_9 a0_10 a0_11 ((rd_T23 l0_3 a1).f0) ((rd_T23 l0_3 a1).f1) ((rd_T23 l0_3 a1).f2) ((rd_T23 l0_3 a1).f3) ((rd_T23 l0_3 a1).f4) ((rd_T23 l0_3 a1).f5))))) else (none)) else (none)
theorem state_here_visit.mono_l : ∀ k, (∀ y0 y1 y2 y3 y4 y5 y6 y7 y8 y9 y10 y11 y12 y13 y14 y15 y16, LeO (state_here_visit.j0 k y0 y1 y2 y3 y4 y5 y6 y7 y8 y9 y10 y11 y12 y13 y14 y15 y16) (state_here_visit.j0 (k + 1) y0 y1 y2 y3 y4 y5 y6 y7 y8 y9 y10 y11 y12 y13 y14 y15 y16))
  | 0 => fun _ _ _ _ _ _ _ _ _ _ _ _ _ _ _ _ _ r h => by simp [state_here_visit.j0] at h
  | k + 1 => by
    have ih0 := state_here_visit.mono_l k
    · intro y0 y1 y2 y3 y4 y5 y6 y7 y8 y9 y10 y11 y12 y13 y14 y15 y16
      unfold state_here_visit.j0
      repeat' first
      | (with_reducible exact ih0 _ _ _ _ _ _ _ _ _ _ _ _ _ _ _ _ _)
      | (with_reducible exact LeO.refl _)
      | (with_reducible exact LeO.none _)
      | (with_reducible refine LeO.ite ?_ ?_)
      | (with_reducible refine LeO.bind ?_ (fun _ => ?_))
      | exact ih0 _ _ _ _ _ _ _ _ _ _ _ _ _ _ _ _ _
      | exact LeO.none _
      | refine LeO.ite ?_ ?_
      | refine LeO.bind ?_ (fun _ => ?_)
theorem state_here_visit.mono : ∀ a0 a1 a2 a3 a4 a5 a6 a7 a8 a9 a10 a11 a12 k, LeO (state_here_visit.f k a0 a1 a2 a3 a4 a5 a6 a7 a8 a9 a10 a11 a12) (state_here_visit.f (k + 1) a0 a1 a2 a3 a4 a5 a6 a7 a8 a9 a10 a11 a12) := by
  intro a0 a1 a2 a3 a4 a5 a6 a7 a8 a9 a10 a11 a12 k
  have ih0 := state_here_visit.mono_l k
  unfold state_here_visit.f
  repeat' first
      | (with_reducible exact ih0 _ _ _ _ _ _ _ _ _ _ _ _ _ _ _ _ _)
      | (with_reducible exact LeO.refl _)
      | (with_reducible exact LeO.none _)
      | (with_reducible refine LeO.ite ?_ ?_)
      | (with_reducible refine LeO.bind ?_ (fun _ => ?_))
      | exact ih0 _ _ _ _ _ _ _ _ _ _ _ _ _ _ _ _ _
      | exact LeO.none _
      | refine LeO.ite ?_ ?_
      | refine LeO.bind ?_ (fun _ => ?_)
def state_here_visit.T1 : Bool × List (List Nat × List Nat) := (true, [([], []), ([0], [0]), ([], []), ([2], [2]), ([3], [3]), ([], []), ([4, 5], [4, 5]), ([6], [6]), ([], []), ([], []), ([8, 1, 0, 1, 8, 9], [1, 8]), ([9, 7, 10, 0, 1, 2, 3, 4, 5, 6, 7, 8, 9, 10], [7, 9])])
def state_here_visit.B1 : List Nat := [0, 1, 0, 4, 12, 0, 60, 124, 0, 0, 771, 2047]
theorem state_here_visit.tab1 : rtab .any (opsOf Try.f69 1) = state_here_visit.T1 := by kernel_rfl
theorem state_here_visit.bits1 : waitsOk state_here_visit.T1.2 state_here_visit.B1 = true := by kernel_rfl
def state_here_visit.T2 : Bool × List (List Nat × List Nat) := (true, [([], []), ([0], [0]), ([], []), ([], []), ([2, 3], [2, 3]), ([1, 4], [1, 4]), ([], []), ([6], [6]), ([5, 7], [5, 7]), ([8, 4, 0, 1, 2, 3, 4, 5, 6, 7, 8], [8])])
def state_here_visit.B2 : List Nat := [0, 1, 0, 0, 12, 31, 0, 64, 255, 511]
theorem state_here_visit.tab2 : rtab .any (opsOf Try.f69 2) = state_here_visit.T2 := by kernel_rfl
theorem state_here_visit.bits2 : waitsOk state_here_visit.T2.2 state_here_visit.B2 = true := by kernel_rfl
def state_here_visit.T7 : Bool × List (List Nat × List Nat) := (true, [([], []), ([], []), ([], []), ([2], [2]), ([1, 3], [1, 3]), ([], []), ([5], [5]), ([], []), ([7], [7]), ([6, 8], [6, 8]), ([9], [9]), ([0, 5, 6], []), ([11, 0, 0, 5, 6], [0, 11]), ([0, 1, 2, 3, 4, 5, 6, 11, 12], []), ([13, 4, 12, 0, 1, 2, 3, 4, 5, 6, 11, 12], [4, 13]), ([0, 1, 2, 3, 4, 5, 6, 7, 8, 9, 10, 11, 12, 13, 14], []), ([15, 10, 14, 0, 1, 2, 3, 4, 5, 6, 7, 8, 9, 10, 11, 12, 13, 14], [10, 15])])
def state_here_visit.B7 : List Nat := [0, 0, 0, 4, 14, 0, 32, 0, 128, 480, 992, 97, 2145, 6271, 14463, 32767, 65535]
theorem state_here_visit.tab7 : rtab .any (opsOf Try.f69 7) = state_here_visit.T7 := by kernel_rfl
theorem state_here_visit.bits7 : waitsOk state_here_visit.T7.2 state_here_visit.B7 = true := by kernel_rfl
def state_here_visit.T8 : Bool × List (List Nat × List Nat) := (true, [([], []), ([0], [0]), ([], []), ([1, 2], [1, 2]), ([], []), ([4], [4]), ([], []), ([5, 6, 3], [5, 6]), ([0, 1, 2, 3, 4, 5], []), ([8, 3, 7, 0, 1, 2, 3, 4, 5], [3, 8]), ([0, 1, 2, 3, 4, 5, 6, 7, 8, 9], []), ([10, 7, 9, 0, 1, 2, 3, 4, 5, 6, 7, 8, 9], [7, 10])])
def state_here_visit.B8 : List Nat := [0, 1, 0, 7, 0, 16, 0, 127, 63, 511, 1023, 2047]
theorem state_here_visit.tab8 : rtab .any (opsOf Try.f69 8) = state_here_visit.T8 := by kernel_rfl
theorem state_here_visit.bits8 : waitsOk state_here_visit.T8.2 state_here_visit.B8 = true := by kernel_rfl
set_option maxHeartbeats 16000000 in
set_option maxRecDepth 100000 in
theorem state_here_visit.calls (k : Nat) (a0_0 : Int) (a0_1 : Int) (a0_2 : Int) (A0_3 : Option Addr) (c0_3 : Nat) (l0_3 : List (S23)) (a0_4 : Int) (a0_5 : Int) (a0_6 : Int) (a0_7 : Int) (a0_8 : Int) (a0_9 : Int) (a0_10 : Int) (a0_11 : Int) (a1 : Int) (r1 : Int) (r2 : Int) (r3 : Int) (r4 : Int) (r5 : Int) (r6 : Int) (r7 : Int) (r8 : Int) (r9 : Bool) (w : World) (hr0_3 : Kd.C k23 w A0_3 l0_3.length l0_3) (hc0_3 : l0_3.length ≤ c0_3) (h : state_here_visit.f k a0_0 a0_1 a0_2 l0_3 a0_4 a0_5 a0_6 a0_7 a0_8 a0_9 a0_10 a0_11 a1 = some (r1, r2, r3, r4, r5, r6, r7, r8, r9)) :
  Calls Try.prog 69 #[.agg #[.int .i64 a0_0, .int .i64 a0_1, .int .i64 a0_2, .slice A0_3 l0_3.length c0_3, .int .i64 a0_4, .int .i64 a0_5, .int .i64 a0_6, .int .i64 a0_7, .int .i64 a0_8, .int .u64 a0_9, .int .u64 a0_10, .int .u64 a0_11], .int .i64 a1] w fun e w' => e = .returned (.tuple #[.agg #[.int .i64 r1, .int .i64 r2, .int .i64 r3, .int .i64 r4, .int .i64 r5, .int .u64 r6, .int .u64 r7, .int .u64 r8], .bool r9]) ∧ Below w.heap.size w w' := by
 have hu69 := Try.underlying69
 have hu40 := Try.underlying40
 have hu23 := Try.underlying23
 have HR0_3 := zqi hr0_3
 have HC0_3 := zqi hc0_3
 clear hr0_3 hc0_3
 have HB := zqi (Below.refl w.heap.size w)
 have H : (if 0 ≤ a1 then (if a1 < (l0_3.length : Int) then ((state_here_far.f a0_0 a0_1 a0_2 l0_3 a0_4 a0_5 a0_6 a0_7 a0_8 a0_9 a0_10 a0_11 a1).bind fun t117 => ((set_Has.f a0_9 a1).bind fun t118 => (if t118 = true then (state_here_visit.j0 k a1 (mx (wrap64 (a0_6 + t117)) ((rd_T23 l0_3 a1).f3)) true a0_4 a0_5 a0_6 a0_7 a0_8 a0_9 a0_10 a0_11 ((rd_T23 l0_3 a1).f0) ((rd_T23 l0_3 a1).f1) ((rd_T23 l0_3 a1).f2) ((rd_T23 l0_3 a1).f3) ((rd_T23 l0_3 a1).f4) ((rd_T23 l0_3 a1).f5)) else (state_here_visit.j0 k a1 (mx (wrap64 (a0_6 + t117)) ((rd_T23 l0_3 a1).f3)) (decide ((mx (wrap64 (a0_6 + t117)) ((rd_T23 l0_3 a1).f3)) > ((rd_T23 l0_3 a1).f4))) a0_4 a0_5 a0_6 a0_7 a0_8 a0_9 a0_10 a0_11 ((rd_T23 l0_3 a1).f0) ((rd_T23 l0_3 a1).f1) ((rd_T23 l0_3 a1).f2) ((rd_T23 l0_3 a1).f3) ((rd_T23 l0_3 a1).f4) ((rd_T23 l0_3 a1).f5))))) else (none)) else (none)) = some (r1, r2, r3, r4, r5, r6, r7, r8, r9) := h
 clear h
 by_cases c3 : 0 ≤ a1
 ·
  rw [if_pos c3] at H
  have c3b0 : decide (0 ≤ a1) = true := decide_eq_true c3
  clear c3
  by_cases c4 : a1 < (l0_3.length : Int)
  ·
   rw [if_pos c4] at H
   have c4b0 : decide (a1 < (l0_3.length : Int)) = true := decide_eq_true c4
   clear c4
   replace H := Option.bind_eq_some_iff.mp H
   obtain ⟨t117, A50, H⟩ := H
   replace H : ((set_Has.f a0_9 a1).bind fun t118 => (if t118 = true then (state_here_visit.j0 k a1 (mx (wrap64 (a0_6 + t117)) ((rd_T23 l0_3 a1).f3)) true a0_4 a0_5 a0_6 a0_7 a0_8 a0_9 a0_10 a0_11 ((rd_T23 l0_3 a1).f0) ((rd_T23 l0_3 a1).f1) ((rd_T23 l0_3 a1).f2) ((rd_T23 l0_3 a1).f3) ((rd_T23 l0_3 a1).f4) ((rd_T23 l0_3 a1).f5)) else (state_here_visit.j0 k a1 (mx (wrap64 (a0_6 + t117)) ((rd_T23 l0_3 a1).f3)) (decide ((mx (wrap64 (a0_6 + t117)) ((rd_T23 l0_3 a1).f3)) > ((rd_T23 l0_3 a1).f4))) a0_4 a0_5 a0_6 a0_7 a0_8 a0_9 a0_10 a0_11 ((rd_T23 l0_3 a1).f0) ((rd_T23 l0_3 a1).f1) ((rd_T23 l0_3 a1).f2) ((rd_T23 l0_3 a1).f3) ((rd_T23 l0_3 a1).f4) ((rd_T23 l0_3 a1).f5)))) = some (r1, r2, r3, r4, r5, r6, r7, r8, r9) := H
   have A5 := zqi A50
   clear A50
   obtain ⟨ji6, hji6⟩ : ∃ j_ : Int, (mx (wrap64 (a0_6 + t117)) ((rd_T23 l0_3 a1).f3)) = j_ := ⟨_, rfl⟩
   replace H : ((set_Has.f a0_9 a1).bind fun t118 => (if t118 = true then (state_here_visit.j0 k a1 ji6 true a0_4 a0_5 a0_6 a0_7 a0_8 a0_9 a0_10 a0_11 ((rd_T23 l0_3 a1).f0) ((rd_T23 l0_3 a1).f1) ((rd_T23 l0_3 a1).f2) ((rd_T23 l0_3 a1).f3) ((rd_T23 l0_3 a1).f4) ((rd_T23 l0_3 a1).f5)) else (state_here_visit.j0 k a1 ji6 (decide ((ji6) > ((rd_T23 l0_3 a1).f4))) a0_4 a0_5 a0_6 a0_7 a0_8 a0_9 a0_10 a0_11 ((rd_T23 l0_3 a1).f0) ((rd_T23 l0_3 a1).f1) ((rd_T23 l0_3 a1).f2) ((rd_T23 l0_3 a1).f3) ((rd_T23 l0_3 a1).f4) ((rd_T23 l0_3 a1).f5)))) = some (r1, r2, r3, r4, r5, r6, r7, r8, r9) := by first | (rw [hji6] at H; exact H) | (simp only [hji6] at H ⊢; exact H)
   (try rw [hji6] at A5)
   have hji6_ : (if (wrap64 (a0_6 + t117)) < ((rd_T23 l0_3 a1).f3) then ((rd_T23 l0_3 a1).f3) else (wrap64 (a0_6 + t117))) = ji6 := hji6
   have HC7 := zqi H
   clear H
   go_enter Try.func69, Try.ntmps69
   try go_wp2_with (first | ((with_reducible refine gate_dst (N := 2) rfl ?_); refine box_event ?hg (N := 2) ?hd (cs := #[.int .i64 a0_0, .int .i64 a0_1, .int .i64 a0_2, .slice A0_3 l0_3.length c0_3, .int .i64 a0_4, .int .i64 a0_5, .int .i64 a0_6, .int .i64 a0_7, .int .i64 a0_8, .int .u64 a0_9, .int .u64 a0_10, .int .u64 a0_11]) (t := 69) ?hr ?_; (case hd => rfl); (case hg => rfl); (case hr => first | (go_simp; done) | (go_simp; rfl)); intro gb112 hg w8 hbox hb; have n0_ := zqi (below_step (zqn HB.out) hb); have n1_ := zqi (hbox); have n2_ := zqi (zqo hg HB.out); have n3_ := zqi (zqo hg HB.out); clear HB; have HB := n0_; have BK112 := n1_; have GW112 := n2_; have GE112 := n3_; clear n0_ n1_ n2_ n3_; clear hb hbox hg) | ((with_reducible refine gate_dst (N := 4) rfl ?_); refine box_event ?hg (N := 4) ?hd (cs := #[.int .i64 0, .int .i64 0, .int .i64 0, .int .i64 0, .int .i64 0, .int .u64 0, .int .u64 0, .int .u64 0]) (t := 40) ?hr ?_; (case hd => rfl); (case hg => rfl); (case hr => first | (go_simp; done) | (go_simp; rfl)); intro gb113 hg w9 hbox hb; have n0_ := zqi (zqy BK112.out hb); have n1_ := zqi (below_step (zqn HB.out) hb); have n2_ := zqi (hbox); have n3_ := zqi (zqo hg HB.out); have n4_ := zqi (zqo hg HB.out); have n5_ := zqi ((zqq hg BK112.out)); have n6_ := zqi ((zqr hg BK112.out)); clear BK112; clear HB; have BK112 := n0_; have HB := n1_; have BK113 := n2_; have GW113 := n3_; have GE113 := n4_; have NB112_113 := n5_; have NB113_112 := n6_; clear n0_ n1_ n2_ n3_ n4_ n5_ n6_; clear hb hbox hg))
   have n0_ := zqi (zqb BK112.out)
   have n1_ := zqi (zqb BK113.out)
   have n2_ := zqi (zqh HB.out)
   clear BK112
   clear BK113
   clear HB
   have BK112 := n0_
   have BK113 := n1_
   have HB := n2_
   clear n0_ n1_ n2_
   have p114 : 0 ≤ (a1 : Int) := of_decide_eq_true (by first | (with_reducible assumption) | assumption)
   have q114 : a1 < (l0_3.length : Int) := of_decide_eq_true (by first | (with_reducible assumption) | assumption)
   obtain ⟨ad114, e114, hx114_0, hx114_1, hx114_2, hx114_3, hx114_4, hx114_5⟩ := at_T23 HR0_3.out a1 p114 q114
   have hw114_5 := hx114_5
   have hw114_4 := hx114_4
   have hw114_3 := hx114_3
   have hw114_2 := hx114_2
   have hw114_1 := hx114_1
   have hw114_0 := hx114_0
   cases e114
   replace hx114_0 := (HB.out.cell (World.block_lt_of_cell? w _ hx114_0)).trans hx114_0
   replace hx114_1 := (HB.out.cell (World.block_lt_of_cell? w _ hx114_1)).trans hx114_1
   replace hx114_2 := (HB.out.cell (World.block_lt_of_cell? w _ hx114_2)).trans hx114_2
   replace hx114_3 := (HB.out.cell (World.block_lt_of_cell? w _ hx114_3)).trans hx114_3
   replace hx114_4 := (HB.out.cell (World.block_lt_of_cell? w _ hx114_4)).trans hx114_4
   replace hx114_5 := (HB.out.cell (World.block_lt_of_cell? w _ hx114_5)).trans hx114_5
   replace p114 := eq_true p114
   replace q114 := eq_true q114
   refine start_ (n := 12) (S := fun w' => w'.cell? ⟨gb112, 0, none⟩ = some (.int .i64 a0_0) ∧ w'.cell? ⟨gb112, 1, none⟩ = some (.int .i64 a0_1) ∧ w'.cell? ⟨gb112, 2, none⟩ = some (.int .i64 a0_2) ∧ w'.cell? ⟨gb112, 3, none⟩ = some (.slice (some ad114) l0_3.length c0_3) ∧ w'.cell? ⟨gb112, 4, none⟩ = some (.int .i64 a0_4) ∧ w'.cell? ⟨gb112, 5, none⟩ = some (.int .i64 a0_5) ∧ w'.cell? ⟨gb112, 6, none⟩ = some (.int .i64 a0_6) ∧ w'.cell? ⟨gb112, 7, none⟩ = some (.int .i64 a0_7) ∧ w'.cell? ⟨gb112, 8, none⟩ = some (.int .i64 a0_8) ∧ w'.cell? ⟨gb112, 9, none⟩ = some (.int .u64 a0_9) ∧ w'.cell? ⟨gb112, 10, none⟩ = some (.int .u64 a0_10) ∧ w'.cell? ⟨gb112, 11, none⟩ = some (.int .u64 a0_11) ∧ w'.cell? (ad114.add ((a1).toNat * 6)) = some (.int .i64 ((rd_T23 l0_3 a1).f0)) ∧ w'.cell? ⟨(ad114.add ((a1).toNat * 6)).block, (ad114.add ((a1).toNat * 6)).off + 1, none⟩ = some (.int .i64 ((rd_T23 l0_3 a1).f1)) ∧ w'.cell? ⟨(ad114.add ((a1).toNat * 6)).block, (ad114.add ((a1).toNat * 6)).off + 2, none⟩ = some (.int .i64 ((rd_T23 l0_3 a1).f2)) ∧ w'.cell? ⟨(ad114.add ((a1).toNat * 6)).block, (ad114.add ((a1).toNat * 6)).off + 3, none⟩ = some (.int .i64 ((rd_T23 l0_3 a1).f3)) ∧ w'.cell? ⟨(ad114.add ((a1).toNat * 6)).block, (ad114.add ((a1).toNat * 6)).off + 4, none⟩ = some (.int .i64 ((rd_T23 l0_3 a1).f4)) ∧ w'.cell? ⟨(ad114.add ((a1).toNat * 6)).block, (ad114.add ((a1).toNat * 6)).off + 5, none⟩ = some (.int .i64 ((rd_T23 l0_3 a1).f5))) (ds := []) (zqB 12 0) (by kernel_rfl) rfl rfl ⟨(zqe BK112.out 0).trans rfl, (zqe BK112.out 1).trans rfl, (zqe BK112.out 2).trans rfl, (zqe BK112.out 3).trans rfl, (zqe BK112.out 4).trans rfl, (zqe BK112.out 5).trans rfl, (zqe BK112.out 6).trans rfl, (zqe BK112.out 7).trans rfl, (zqe BK112.out 8).trans rfl, (zqe BK112.out 9).trans rfl, (zqe BK112.out 10).trans rfl, (zqe BK112.out 11).trans rfl, ((HB.out.cell (World.block_lt_of_cell? w _ hw114_0)).trans hw114_0), ((HB.out.cell (World.block_lt_of_cell? w _ hw114_1)).trans hw114_1), ((HB.out.cell (World.block_lt_of_cell? w _ hw114_2)).trans hw114_2), ((HB.out.cell (World.block_lt_of_cell? w _ hw114_3)).trans hw114_3), ((HB.out.cell (World.block_lt_of_cell? w _ hw114_4)).trans hw114_4), ((HB.out.cell (World.block_lt_of_cell? w _ hw114_5)).trans hw114_5)⟩ (fun hHeld => ?_); refine with_tabW state_here_visit.tab1 state_here_visit.bits1 (fun HT_ HW_ => ?_)
   generalize w9.drew = w10 at BK112 BK113 HB hx114_0 hx114_1 hx114_2 hx114_3 hx114_4 hx114_5 hHeld ⊢
   refine zqp 0 (some 9) (zqB 12 1) (any_of HT_.out (by kernel_rfl)) (h := ?_)
   refine zqp 2 (some 11) (zqB 12 5) (any_of HT_.out (by kernel_rfl)) (h := ?_)
   refine zqp 3 (some 12) (zqB 12 13) (any_of HT_.out (by kernel_rfl)) (h := ?_)
   refine zqp 5 (some 14) (zqB 12 45) (any_of HT_.out (by kernel_rfl)) (h := ?_)
   refine zqt 1 (some 10) (zqB 12 47) (take_ofW HT_.out HW_.out (by kernel_rfl)) hHeld (h := ?_)
   refine zqt 4 (some 13) (zqB 12 63) (take_ofW HT_.out HW_.out (by kernel_rfl)) hHeld (h := ?_)
   refine zqp 6 (some 15) (zqB 12 127) (any_of HT_.out (by kernel_rfl)) (h := ?_)
   refine zqt 7 (some 16) (zqB 12 255) (take_ofW HT_.out HW_.out (by kernel_rfl)) hHeld (h := ?_)
   refine join_ (σ := Nat × Nat) 2 (zqB 12 1023) (fun s_ => [(6, .pointer (some ⟨s_.1, 0, none⟩)), (7, .pointer (some ⟨s_.2, 0, none⟩))]) (fun s_ w' => (w'.cell? ⟨gb112, 0, none⟩ = some (.int .i64 a0_0) ∧ w'.cell? ⟨gb112, 1, none⟩ = some (.int .i64 a0_1) ∧ w'.cell? ⟨gb112, 2, none⟩ = some (.int .i64 a0_2) ∧ w'.cell? ⟨gb112, 3, none⟩ = some (.slice (some ad114) l0_3.length c0_3) ∧ w'.cell? ⟨gb112, 4, none⟩ = some (.int .i64 a0_4) ∧ w'.cell? ⟨gb112, 5, none⟩ = some (.int .i64 a0_5) ∧ w'.cell? ⟨gb112, 6, none⟩ = some (.int .i64 a0_6) ∧ w'.cell? ⟨gb112, 7, none⟩ = some (.int .i64 a0_7) ∧ w'.cell? ⟨gb112, 8, none⟩ = some (.int .i64 a0_8) ∧ w'.cell? ⟨gb112, 9, none⟩ = some (.int .u64 a0_9) ∧ w'.cell? ⟨gb112, 10, none⟩ = some (.int .u64 a0_10) ∧ w'.cell? ⟨gb112, 11, none⟩ = some (.int .u64 a0_11) ∧ w'.cell? (ad114.add ((a1).toNat * 6)) = some (.int .i64 ((rd_T23 l0_3 a1).f0)) ∧ w'.cell? ⟨(ad114.add ((a1).toNat * 6)).block, (ad114.add ((a1).toNat * 6)).off + 1, none⟩ = some (.int .i64 ((rd_T23 l0_3 a1).f1)) ∧ w'.cell? ⟨(ad114.add ((a1).toNat * 6)).block, (ad114.add ((a1).toNat * 6)).off + 2, none⟩ = some (.int .i64 ((rd_T23 l0_3 a1).f2)) ∧ w'.cell? ⟨(ad114.add ((a1).toNat * 6)).block, (ad114.add ((a1).toNat * 6)).off + 3, none⟩ = some (.int .i64 ((rd_T23 l0_3 a1).f3)) ∧ w'.cell? ⟨(ad114.add ((a1).toNat * 6)).block, (ad114.add ((a1).toNat * 6)).off + 4, none⟩ = some (.int .i64 ((rd_T23 l0_3 a1).f4)) ∧ w'.cell? ⟨(ad114.add ((a1).toNat * 6)).block, (ad114.add ((a1).toNat * 6)).off + 5, none⟩ = some (.int .i64 ((rd_T23 l0_3 a1).f5))) ∧ (w'.heap[gb112]? = some (.cells #[.int .i64 a0_0, .int .i64 a0_1, .int .i64 a0_2, .slice (some ad114) l0_3.length c0_3, .int .i64 a0_4, .int .i64 a0_5, .int .i64 a0_6, .int .i64 a0_7, .int .i64 a0_8, .int .u64 a0_9, .int .u64 a0_10, .int .u64 a0_11] 69 (0, 0))) ∧ (w'.heap[gb113]? = some (.cells #[.int .i64 0, .int .i64 0, .int .i64 0, .int .i64 0, .int .i64 0, .int .u64 0, .int .u64 0, .int .u64 0] 40 (0, 0))) ∧ (w'.heap[s_.1]? = some (.cells #[.int .i64 0, .int .i64 0, .int .i64 0, .int .i64 0, .int .i64 0, .int .u64 0, .int .u64 0, .int .u64 0] 40 (0, 0))) ∧ (w'.heap[s_.2]? = some (.cells #[.int .i64 0, .int .i64 0, .int .i64 0, .int .i64 0, .int .i64 0, .int .i64 0] 23 (0, 0))) ∧ (w.heap.size ≤ s_.1) ∧ (w.heap.size ≤ s_.1) ∧ (gb112 ≠ s_.1) ∧ (s_.1 ≠ gb112) ∧ (gb113 ≠ s_.1) ∧ (s_.1 ≠ gb113) ∧ (s_.2 ≠ s_.1) ∧ (s_.1 ≠ s_.2) ∧ (w.heap.size ≤ s_.2) ∧ (w.heap.size ≤ s_.2) ∧ (gb112 ≠ s_.2) ∧ (s_.2 ≠ gb112) ∧ (gb113 ≠ s_.2) ∧ (s_.2 ≠ gb113) ∧ (Below w.heap.size w w')) ?_ ?_
   rotate_left
   ·
    intro hCont
    refine two_ (i := 8) (j := 9) (Ni := some 6) (Nj := some 7) (zqB 12 511) (zqB 12 767) rfl rfl rfl rfl (two_of HT_.out (by kernel_rfl)) (by decide) (by decide) (fun K hK => ?_) (fun K hK => ?_)
    ·
     skip
     refine box_step ?hg (N := 6) ?hd (cs := #[.int .i64 0, .int .i64 0, .int .i64 0, .int .i64 0, .int .i64 0, .int .u64 0, .int .u64 0, .int .u64 0]) (t := 40) ?hr ?_; (case hd => rfl); (case hg => rfl); (case hr => first | (go_simp; done) | (go_simp; rfl))
     intro gb115 hg w11 hbox hb
     have n0_ := zqi (zqy BK112.out hb)
     have n1_ := zqi (zqy BK113.out hb)
     have n2_ := zqi (below_step (zqn HB.out) hb)
     have n3_ := zqi (hbox)
     have n4_ := zqi (zqo hg HB.out)
     have n5_ := zqi (zqo hg HB.out)
     have n6_ := zqi ((zqq hg BK112.out))
     have n7_ := zqi ((zqr hg BK112.out))
     have n8_ := zqi ((zqq hg BK113.out))
     have n9_ := zqi ((zqr hg BK113.out))
     clear BK112
     clear BK113
     clear HB
     have BK112 := n0_
     have BK113 := n1_
     have HB := n2_
     have BK115 := n3_
     have GW115 := n4_
     have GE115 := n5_
     have NB112_115 := n6_
     have NB115_112 := n7_
     have NB113_115 := n8_
     have NB115_113 := n9_
     clear n0_ n1_ n2_ n3_ n4_ n5_ n6_ n7_ n8_ n9_
     clear hb hbox hg
     refine hK.out _ _ ⟨(zqe BK112.out 0).trans rfl, (zqe BK112.out 1).trans rfl, (zqe BK112.out 2).trans rfl, (zqe BK112.out 3).trans rfl, (zqe BK112.out 4).trans rfl, (zqe BK112.out 5).trans rfl, (zqe BK112.out 6).trans rfl, (zqe BK112.out 7).trans rfl, (zqe BK112.out 8).trans rfl, (zqe BK112.out 9).trans rfl, (zqe BK112.out 10).trans rfl, (zqe BK112.out 11).trans rfl, ((HB.out.cell (World.block_lt_of_cell? w _ hw114_0)).trans hw114_0), ((HB.out.cell (World.block_lt_of_cell? w _ hw114_1)).trans hw114_1), ((HB.out.cell (World.block_lt_of_cell? w _ hw114_2)).trans hw114_2), ((HB.out.cell (World.block_lt_of_cell? w _ hw114_3)).trans hw114_3), ((HB.out.cell (World.block_lt_of_cell? w _ hw114_4)).trans hw114_4), ((HB.out.cell (World.block_lt_of_cell? w _ hw114_5)).trans hw114_5)⟩ (fun hHeld => ?_)
     clear hK K
     refine norm_ (a' := ?_) ?_ ?_
     rotate_left
     ·
      show Act.put _ (some 6) _ = _
      simp only [Act.put, List.setIfInBounds_toArray, List.set_cons_zero, List.set_cons_succ, i64_w, i32_w]
      rfl
     refine one_ (i := 9) (N := some 7) (zqB 12 1023) rfl rfl (one_of HT_.out (by kernel_rfl)) (by decide) (fun K hK => ?_)
     refine box_step ?hg (N := 7) ?hd (cs := #[.int .i64 0, .int .i64 0, .int .i64 0, .int .i64 0, .int .i64 0, .int .i64 0]) (t := 23) ?hr ?_; (case hd => rfl); (case hg => rfl); (case hr => first | (go_simp; done) | (go_simp; rfl))
     intro gb116 hg w12 hbox hb
     have n0_ := zqi (zqy BK112.out hb)
     have n1_ := zqi (zqy BK113.out hb)
     have n2_ := zqi (zqy BK115.out hb)
     have n3_ := zqi (below_step (zqn HB.out) hb)
     have n4_ := zqi (hbox)
     have n5_ := zqi (zqo hg HB.out)
     have n6_ := zqi (zqo hg HB.out)
     have n7_ := zqi ((zqq hg BK112.out))
     have n8_ := zqi ((zqr hg BK112.out))
     have n9_ := zqi ((zqq hg BK113.out))
     have n10_ := zqi ((zqr hg BK113.out))
     have n11_ := zqi ((zqq hg BK115.out))
     have n12_ := zqi ((zqr hg BK115.out))
     clear BK112
     clear BK113
     clear BK115
     clear HB
     have BK112 := n0_
     have BK113 := n1_
     have BK115 := n2_
     have HB := n3_
     have BK116 := n4_
     have GW116 := n5_
     have GE116 := n6_
     have NB112_116 := n7_
     have NB116_112 := n8_
     have NB113_116 := n9_
     have NB116_113 := n10_
     have NB115_116 := n11_
     have NB116_115 := n12_
     clear n0_ n1_ n2_ n3_ n4_ n5_ n6_ n7_ n8_ n9_ n10_ n11_ n12_
     clear hb hbox hg
     refine hK.out _ _ ⟨(zqe BK112.out 0).trans rfl, (zqe BK112.out 1).trans rfl, (zqe BK112.out 2).trans rfl, (zqe BK112.out 3).trans rfl, (zqe BK112.out 4).trans rfl, (zqe BK112.out 5).trans rfl, (zqe BK112.out 6).trans rfl, (zqe BK112.out 7).trans rfl, (zqe BK112.out 8).trans rfl, (zqe BK112.out 9).trans rfl, (zqe BK112.out 10).trans rfl, (zqe BK112.out 11).trans rfl, ((HB.out.cell (World.block_lt_of_cell? w _ hw114_0)).trans hw114_0), ((HB.out.cell (World.block_lt_of_cell? w _ hw114_1)).trans hw114_1), ((HB.out.cell (World.block_lt_of_cell? w _ hw114_2)).trans hw114_2), ((HB.out.cell (World.block_lt_of_cell? w _ hw114_3)).trans hw114_3), ((HB.out.cell (World.block_lt_of_cell? w _ hw114_4)).trans hw114_4), ((HB.out.cell (World.block_lt_of_cell? w _ hw114_5)).trans hw114_5)⟩ (fun hHeld => ?_)
     clear hK K
     refine norm_ (a' := ?_) ?_ ?_
     rotate_left
     ·
      show Act.put _ (some 7) _ = _
      simp only [Act.put, List.setIfInBounds_toArray, List.set_cons_zero, List.set_cons_succ, i64_w, i32_w]
      rfl
     exact norm_ (by simp only [putAll, Act.put, List.setIfInBounds_toArray, List.set_cons_zero, List.set_cons_succ]) (hCont (gb115, gb116) _ ⟨hHeld, (zqm BK112.out), (zqm BK113.out), (zqm BK115.out), (zqm BK116.out), GW115.out, GE115.out, NB112_115.out, NB115_112.out, NB113_115.out, NB115_113.out, NB116_115.out, NB115_116.out, GW116.out, GE116.out, NB112_116.out, NB116_112.out, NB113_116.out, NB116_113.out, (zqn HB.out)⟩)
    ·
     skip
     refine box_step ?hg (N := 7) ?hd (cs := #[.int .i64 0, .int .i64 0, .int .i64 0, .int .i64 0, .int .i64 0, .int .i64 0]) (t := 23) ?hr ?_; (case hd => rfl); (case hg => rfl); (case hr => first | (go_simp; done) | (go_simp; rfl))
     intro gb116 hg w11 hbox hb
     have n0_ := zqi (zqy BK112.out hb)
     have n1_ := zqi (zqy BK113.out hb)
     have n2_ := zqi (below_step (zqn HB.out) hb)
     have n3_ := zqi (hbox)
     have n4_ := zqi (zqo hg HB.out)
     have n5_ := zqi (zqo hg HB.out)
     have n6_ := zqi ((zqq hg BK112.out))
     have n7_ := zqi ((zqr hg BK112.out))
     have n8_ := zqi ((zqq hg BK113.out))
     have n9_ := zqi ((zqr hg BK113.out))
     clear BK112
     clear BK113
     clear HB
     have BK112 := n0_
     have BK113 := n1_
     have HB := n2_
     have BK116 := n3_
     have GW116 := n4_
     have GE116 := n5_
     have NB112_116 := n6_
     have NB116_112 := n7_
     have NB113_116 := n8_
     have NB116_113 := n9_
     clear n0_ n1_ n2_ n3_ n4_ n5_ n6_ n7_ n8_ n9_
     clear hb hbox hg
     refine hK.out _ _ ⟨(zqe BK112.out 0).trans rfl, (zqe BK112.out 1).trans rfl, (zqe BK112.out 2).trans rfl, (zqe BK112.out 3).trans rfl, (zqe BK112.out 4).trans rfl, (zqe BK112.out 5).trans rfl, (zqe BK112.out 6).trans rfl, (zqe BK112.out 7).trans rfl, (zqe BK112.out 8).trans rfl, (zqe BK112.out 9).trans rfl, (zqe BK112.out 10).trans rfl, (zqe BK112.out 11).trans rfl, ((HB.out.cell (World.block_lt_of_cell? w _ hw114_0)).trans hw114_0), ((HB.out.cell (World.block_lt_of_cell? w _ hw114_1)).trans hw114_1), ((HB.out.cell (World.block_lt_of_cell? w _ hw114_2)).trans hw114_2), ((HB.out.cell (World.block_lt_of_cell? w _ hw114_3)).trans hw114_3), ((HB.out.cell (World.block_lt_of_cell? w _ hw114_4)).trans hw114_4), ((HB.out.cell (World.block_lt_of_cell? w _ hw114_5)).trans hw114_5)⟩ (fun hHeld => ?_)
     clear hK K
     refine norm_ (a' := ?_) ?_ ?_
     rotate_left
     ·
      show Act.put _ (some 7) _ = _
      simp only [Act.put, List.setIfInBounds_toArray, List.set_cons_zero, List.set_cons_succ, i64_w, i32_w]
      rfl
     refine one_ (i := 8) (N := some 6) (zqB 12 1023) rfl rfl (one_of HT_.out (by kernel_rfl)) (by decide) (fun K hK => ?_)
     refine box_step ?hg (N := 6) ?hd (cs := #[.int .i64 0, .int .i64 0, .int .i64 0, .int .i64 0, .int .i64 0, .int .u64 0, .int .u64 0, .int .u64 0]) (t := 40) ?hr ?_; (case hd => rfl); (case hg => rfl); (case hr => first | (go_simp; done) | (go_simp; rfl))
     intro gb115 hg w12 hbox hb
     have n0_ := zqi (zqy BK112.out hb)
     have n1_ := zqi (zqy BK113.out hb)
     have n2_ := zqi (zqy BK116.out hb)
     have n3_ := zqi (below_step (zqn HB.out) hb)
     have n4_ := zqi (hbox)
     have n5_ := zqi (zqo hg HB.out)
     have n6_ := zqi (zqo hg HB.out)
     have n7_ := zqi ((zqq hg BK112.out))
     have n8_ := zqi ((zqr hg BK112.out))
     have n9_ := zqi ((zqq hg BK113.out))
     have n10_ := zqi ((zqr hg BK113.out))
     have n11_ := zqi ((zqq hg BK116.out))
     have n12_ := zqi ((zqr hg BK116.out))
     clear BK112
     clear BK113
     clear BK116
     clear HB
     have BK112 := n0_
     have BK113 := n1_
     have BK116 := n2_
     have HB := n3_
     have BK115 := n4_
     have GW115 := n5_
     have GE115 := n6_
     have NB112_115 := n7_
     have NB115_112 := n8_
     have NB113_115 := n9_
     have NB115_113 := n10_
     have NB116_115 := n11_
     have NB115_116 := n12_
     clear n0_ n1_ n2_ n3_ n4_ n5_ n6_ n7_ n8_ n9_ n10_ n11_ n12_
     clear hb hbox hg
     refine hK.out _ _ ⟨(zqe BK112.out 0).trans rfl, (zqe BK112.out 1).trans rfl, (zqe BK112.out 2).trans rfl, (zqe BK112.out 3).trans rfl, (zqe BK112.out 4).trans rfl, (zqe BK112.out 5).trans rfl, (zqe BK112.out 6).trans rfl, (zqe BK112.out 7).trans rfl, (zqe BK112.out 8).trans rfl, (zqe BK112.out 9).trans rfl, (zqe BK112.out 10).trans rfl, (zqe BK112.out 11).trans rfl, ((HB.out.cell (World.block_lt_of_cell? w _ hw114_0)).trans hw114_0), ((HB.out.cell (World.block_lt_of_cell? w _ hw114_1)).trans hw114_1), ((HB.out.cell (World.block_lt_of_cell? w _ hw114_2)).trans hw114_2), ((HB.out.cell (World.block_lt_of_cell? w _ hw114_3)).trans hw114_3), ((HB.out.cell (World.block_lt_of_cell? w _ hw114_4)).trans hw114_4), ((HB.out.cell (World.block_lt_of_cell? w _ hw114_5)).trans hw114_5)⟩ (fun hHeld => ?_)
     clear hK K
     refine norm_ (a' := ?_) ?_ ?_
     rotate_left
     ·
      show Act.put _ (some 6) _ = _
      simp only [Act.put, List.setIfInBounds_toArray, List.set_cons_zero, List.set_cons_succ, i64_w, i32_w]
      rfl
     exact norm_ (by simp only [putAll, Act.put, List.setIfInBounds_toArray, List.set_cons_zero, List.set_cons_succ]) (hCont (gb115, gb116) _ ⟨hHeld, (zqm BK112.out), (zqm BK113.out), (zqm BK115.out), (zqm BK116.out), GW115.out, GE115.out, NB112_115.out, NB115_112.out, NB113_115.out, NB115_113.out, NB116_115.out, NB115_116.out, GW116.out, GE116.out, NB112_116.out, NB116_112.out, NB113_116.out, NB116_113.out, (zqn HB.out)⟩)
   rintro ⟨gb115, gb116⟩ w13 ⟨hS_, h0_, h1_, h2_, h3_, h4_, h5_, h6_, h7_, h8_, h9_, h10_, h11_, h12_, h13_, h14_, h15_, h16_, h17_, h18_⟩
   have n0_ : Aside0 (w13.heap[gb112]? = some (.cells #[.int .i64 a0_0, .int .i64 a0_1, .int .i64 a0_2, .slice (some ad114) l0_3.length c0_3, .int .i64 a0_4, .int .i64 a0_5, .int .i64 a0_6, .int .i64 a0_7, .int .i64 a0_8, .int .u64 a0_9, .int .u64 a0_10, .int .u64 a0_11] 69 (0, 0))) := ⟨h0_⟩
   have n1_ : Aside0 (w13.heap[gb113]? = some (.cells #[.int .i64 0, .int .i64 0, .int .i64 0, .int .i64 0, .int .i64 0, .int .u64 0, .int .u64 0, .int .u64 0] 40 (0, 0))) := ⟨h1_⟩
   have n2_ : Aside0 (w13.heap[gb115]? = some (.cells #[.int .i64 0, .int .i64 0, .int .i64 0, .int .i64 0, .int .i64 0, .int .u64 0, .int .u64 0, .int .u64 0] 40 (0, 0))) := ⟨h2_⟩
   have n3_ : Aside0 (w13.heap[gb116]? = some (.cells #[.int .i64 0, .int .i64 0, .int .i64 0, .int .i64 0, .int .i64 0, .int .i64 0] 23 (0, 0))) := ⟨h3_⟩
   have n4_ : Aside0 (w.heap.size ≤ gb115) := ⟨h4_⟩
   have n5_ : Aside0 (w.heap.size ≤ gb115) := ⟨h5_⟩
   have n6_ : Aside0 (gb112 ≠ gb115) := ⟨h6_⟩
   have n7_ : Aside0 (gb115 ≠ gb112) := ⟨h7_⟩
   have n8_ : Aside0 (gb113 ≠ gb115) := ⟨h8_⟩
   have n9_ : Aside0 (gb115 ≠ gb113) := ⟨h9_⟩
   have n10_ : Aside0 (gb116 ≠ gb115) := ⟨h10_⟩
   have n11_ : Aside0 (gb115 ≠ gb116) := ⟨h11_⟩
   have n12_ : Aside0 (w.heap.size ≤ gb116) := ⟨h12_⟩
   have n13_ : Aside0 (w.heap.size ≤ gb116) := ⟨h13_⟩
   have n14_ : Aside0 (gb112 ≠ gb116) := ⟨h14_⟩
   have n15_ : Aside0 (gb116 ≠ gb112) := ⟨h15_⟩
   have n16_ : Aside0 (gb113 ≠ gb116) := ⟨h16_⟩
   have n17_ : Aside0 (gb116 ≠ gb113) := ⟨h17_⟩
   have n18_ : Aside0 (Below w.heap.size w w13) := ⟨h18_⟩
   clear BK112
   clear BK113
   clear HB
   clear h0_ h1_ h2_ h3_ h4_ h5_ h6_ h7_ h8_ h9_ h10_ h11_ h12_ h13_ h14_ h15_ h16_ h17_ h18_
   have BK112 := n0_
   have BK113 := n1_
   have BK115 := n2_
   have BK116 := n3_
   have GW115 := n4_
   have GE115 := n5_
   have NB112_115 := n6_
   have NB115_112 := n7_
   have NB113_115 := n8_
   have NB115_113 := n9_
   have NB116_115 := n10_
   have NB115_116 := n11_
   have GW116 := n12_
   have GE116 := n13_
   have NB112_116 := n14_
   have NB116_112 := n15_
   have NB113_116 := n16_
   have NB116_113 := n17_
   have HB := n18_
   clear n0_ n1_ n2_ n3_ n4_ n5_ n6_ n7_ n8_ n9_ n10_ n11_ n12_ n13_ n14_ n15_ n16_ n17_ n18_
   have hHeld : w13.cell? ⟨gb112, 0, none⟩ = some (.int .i64 a0_0) ∧ w13.cell? ⟨gb112, 1, none⟩ = some (.int .i64 a0_1) ∧ w13.cell? ⟨gb112, 2, none⟩ = some (.int .i64 a0_2) ∧ w13.cell? ⟨gb112, 3, none⟩ = some (.slice (some ad114) l0_3.length c0_3) ∧ w13.cell? ⟨gb112, 4, none⟩ = some (.int .i64 a0_4) ∧ w13.cell? ⟨gb112, 5, none⟩ = some (.int .i64 a0_5) ∧ w13.cell? ⟨gb112, 6, none⟩ = some (.int .i64 a0_6) ∧ w13.cell? ⟨gb112, 7, none⟩ = some (.int .i64 a0_7) ∧ w13.cell? ⟨gb112, 8, none⟩ = some (.int .i64 a0_8) ∧ w13.cell? ⟨gb112, 9, none⟩ = some (.int .u64 a0_9) ∧ w13.cell? ⟨gb112, 10, none⟩ = some (.int .u64 a0_10) ∧ w13.cell? ⟨gb112, 11, none⟩ = some (.int .u64 a0_11) ∧ w13.cell? (ad114.add ((a1).toNat * 6)) = some (.int .i64 ((rd_T23 l0_3 a1).f0)) ∧ w13.cell? ⟨(ad114.add ((a1).toNat * 6)).block, (ad114.add ((a1).toNat * 6)).off + 1, none⟩ = some (.int .i64 ((rd_T23 l0_3 a1).f1)) ∧ w13.cell? ⟨(ad114.add ((a1).toNat * 6)).block, (ad114.add ((a1).toNat * 6)).off + 2, none⟩ = some (.int .i64 ((rd_T23 l0_3 a1).f2)) ∧ w13.cell? ⟨(ad114.add ((a1).toNat * 6)).block, (ad114.add ((a1).toNat * 6)).off + 3, none⟩ = some (.int .i64 ((rd_T23 l0_3 a1).f3)) ∧ w13.cell? ⟨(ad114.add ((a1).toNat * 6)).block, (ad114.add ((a1).toNat * 6)).off + 4, none⟩ = some (.int .i64 ((rd_T23 l0_3 a1).f4)) ∧ w13.cell? ⟨(ad114.add ((a1).toNat * 6)).block, (ad114.add ((a1).toNat * 6)).off + 5, none⟩ = some (.int .i64 ((rd_T23 l0_3 a1).f5)) := hS_
   refine norm_ (a' := ?_) ?_ ?_
   rotate_left
   ·
    simp only [putAll, Act.put, List.setIfInBounds_toArray, List.set_cons_zero, List.set_cons_succ]
    rfl
   refine one_ (i := 10) (N := none) (zqB 12 2047) rfl rfl (one_of HT_.out (by kernel_rfl)) (by decide) (fun K hK => ?_)
   refine zqs _ _ _ #[.int .i64 a0_4, .int .i64 a0_5, .int .i64 a0_6, .int .i64 a0_7, .int .i64 a0_8, .int .u64 a0_9, .int .u64 a0_10, .int .u64 a0_11] BK115.out rfl rfl (by rfl) rfl rfl (by kernel_rfl) rfl (by rfl) ?_
   intro w28_0 hb1_ hbel_ hfar_
   have n112_ := zqi ((hfar_ _ NB112_115.out).trans BK112.out)
   have n113_ := zqi ((hfar_ _ NB113_115.out).trans BK113.out)
   have n115_ := zqi (hb1_)
   have n116_ := zqi ((hfar_ _ NB116_115.out).trans BK116.out)
   have n0_ := zqi (hbel_ _ _ HB.out GE115.out)
   clear HB hb1_ hbel_ hfar_ BK112 BK113 BK115 BK116
   have HB := n0_
   have BK112 := n112_
   have BK113 := n113_
   have BK115 := n115_
   have BK116 := n116_
   clear n0_ n112_ n113_ n115_ n116_
   refine hK.out _ _ ⟨(zqe BK112.out 0).trans rfl, (zqe BK112.out 1).trans rfl, (zqe BK112.out 2).trans rfl, (zqe BK112.out 3).trans rfl, (zqe BK112.out 4).trans rfl, (zqe BK112.out 5).trans rfl, (zqe BK112.out 6).trans rfl, (zqe BK112.out 7).trans rfl, (zqe BK112.out 8).trans rfl, (zqe BK112.out 9).trans rfl, (zqe BK112.out 10).trans rfl, (zqe BK112.out 11).trans rfl, ((HB.out.cell (World.block_lt_of_cell? w _ hw114_0)).trans hw114_0), ((HB.out.cell (World.block_lt_of_cell? w _ hw114_1)).trans hw114_1), ((HB.out.cell (World.block_lt_of_cell? w _ hw114_2)).trans hw114_2), ((HB.out.cell (World.block_lt_of_cell? w _ hw114_3)).trans hw114_3), ((HB.out.cell (World.block_lt_of_cell? w _ hw114_4)).trans hw114_4), ((HB.out.cell (World.block_lt_of_cell? w _ hw114_5)).trans hw114_5)⟩ (fun hHeld => ?_)
   clear hK K
   refine one_ (i := 11) (N := none) (zqB 12 4095) rfl rfl (one_of HT_.out (by kernel_rfl)) (by decide) (fun K hK => ?_)
   refine zqs _ _ _ #[.int .i64 ((rd_T23 l0_3 a1).f0), .int .i64 ((rd_T23 l0_3 a1).f1), .int .i64 ((rd_T23 l0_3 a1).f2), .int .i64 ((rd_T23 l0_3 a1).f3), .int .i64 ((rd_T23 l0_3 a1).f4), .int .i64 ((rd_T23 l0_3 a1).f5)] BK116.out rfl rfl (by rfl) rfl rfl (by kernel_rfl) rfl (by rfl) ?_
   intro w28 hb1_ hbel_ hfar_
   have n112_ := zqi ((hfar_ _ NB112_116.out).trans BK112.out)
   have n113_ := zqi ((hfar_ _ NB113_116.out).trans BK113.out)
   have n115_ := zqi ((hfar_ _ NB115_116.out).trans BK115.out)
   have n116_ := zqi (hb1_)
   have n0_ := zqi (hbel_ _ _ HB.out GE116.out)
   clear HB hb1_ hbel_ hfar_ BK112 BK113 BK115 BK116
   have HB := n0_
   have BK112 := n112_
   have BK113 := n113_
   have BK115 := n115_
   have BK116 := n116_
   clear n0_ n112_ n113_ n115_ n116_
   refine hK.out _ _ ⟨(zqe BK112.out 0).trans rfl, (zqe BK112.out 1).trans rfl, (zqe BK112.out 2).trans rfl, (zqe BK112.out 3).trans rfl, (zqe BK112.out 4).trans rfl, (zqe BK112.out 5).trans rfl, (zqe BK112.out 6).trans rfl, (zqe BK112.out 7).trans rfl, (zqe BK112.out 8).trans rfl, (zqe BK112.out 9).trans rfl, (zqe BK112.out 10).trans rfl, (zqe BK112.out 11).trans rfl, ((HB.out.cell (World.block_lt_of_cell? w _ hw114_0)).trans hw114_0), ((HB.out.cell (World.block_lt_of_cell? w _ hw114_1)).trans hw114_1), ((HB.out.cell (World.block_lt_of_cell? w _ hw114_2)).trans hw114_2), ((HB.out.cell (World.block_lt_of_cell? w _ hw114_3)).trans hw114_3), ((HB.out.cell (World.block_lt_of_cell? w _ hw114_4)).trans hw114_4), ((HB.out.cell (World.block_lt_of_cell? w _ hw114_5)).trans hw114_5)⟩ (fun hHeld => ?_)
   clear hK K
   refine done_ (done_of HT_.out (by kernel_rfl)) ?_
   try go_wp2
   have n0_ := zqi (zqb BK112.out)
   have n1_ := zqi (zqb BK113.out)
   have n2_ := zqi (zqb BK115.out)
   have n3_ := zqi (zqb BK116.out)
   have n4_ := zqi (zqh HB.out)
   clear BK112
   clear BK113
   clear BK115
   clear BK116
   clear HB
   have BK112 := n0_
   have BK113 := n1_
   have BK115 := n2_
   have BK116 := n3_
   have HB := n4_
   clear n0_ n1_ n2_ n3_ n4_
   refine start_ (n := 10) (S := fun w' => w'.cell? ⟨gb115, 0, none⟩ = some (.int .i64 a0_4) ∧ w'.cell? ⟨gb115, 1, none⟩ = some (.int .i64 a0_5) ∧ w'.cell? ⟨gb115, 2, none⟩ = some (.int .i64 a0_6) ∧ w'.cell? ⟨gb115, 3, none⟩ = some (.int .i64 a0_7) ∧ w'.cell? ⟨gb115, 4, none⟩ = some (.int .i64 a0_8) ∧ w'.cell? ⟨gb115, 5, none⟩ = some (.int .u64 a0_9) ∧ w'.cell? ⟨gb115, 6, none⟩ = some (.int .u64 a0_10) ∧ w'.cell? ⟨gb115, 7, none⟩ = some (.int .u64 a0_11) ∧ w'.cell? ⟨gb112, 0, none⟩ = some (.int .i64 a0_0) ∧ w'.cell? ⟨gb112, 1, none⟩ = some (.int .i64 a0_1) ∧ w'.cell? ⟨gb112, 2, none⟩ = some (.int .i64 a0_2) ∧ w'.cell? ⟨gb112, 3, none⟩ = some (.slice (some ad114) l0_3.length c0_3) ∧ w'.cell? ⟨gb112, 4, none⟩ = some (.int .i64 a0_4) ∧ w'.cell? ⟨gb112, 5, none⟩ = some (.int .i64 a0_5) ∧ w'.cell? ⟨gb112, 6, none⟩ = some (.int .i64 a0_6) ∧ w'.cell? ⟨gb112, 7, none⟩ = some (.int .i64 a0_7) ∧ w'.cell? ⟨gb112, 8, none⟩ = some (.int .i64 a0_8) ∧ w'.cell? ⟨gb112, 9, none⟩ = some (.int .u64 a0_9) ∧ w'.cell? ⟨gb112, 10, none⟩ = some (.int .u64 a0_10) ∧ w'.cell? ⟨gb112, 11, none⟩ = some (.int .u64 a0_11) ∧ w'.cell? ⟨gb116, 0, none⟩ = some (.int .i64 ((rd_T23 l0_3 a1).f0)) ∧ w'.cell? ⟨gb116, 1, none⟩ = some (.int .i64 ((rd_T23 l0_3 a1).f1)) ∧ w'.cell? ⟨gb116, 2, none⟩ = some (.int .i64 ((rd_T23 l0_3 a1).f2)) ∧ w'.cell? ⟨gb116, 3, none⟩ = some (.int .i64 ((rd_T23 l0_3 a1).f3)) ∧ w'.cell? ⟨gb116, 4, none⟩ = some (.int .i64 ((rd_T23 l0_3 a1).f4)) ∧ w'.cell? ⟨gb116, 5, none⟩ = some (.int .i64 ((rd_T23 l0_3 a1).f5))) (ds := []) (zqB 10 0) (by kernel_rfl) rfl rfl ⟨(zqe BK115.out 0).trans rfl, (zqe BK115.out 1).trans rfl, (zqe BK115.out 2).trans rfl, (zqe BK115.out 3).trans rfl, (zqe BK115.out 4).trans rfl, (zqe BK115.out 5).trans rfl, (zqe BK115.out 6).trans rfl, (zqe BK115.out 7).trans rfl, (zqe BK112.out 0).trans rfl, (zqe BK112.out 1).trans rfl, (zqe BK112.out 2).trans rfl, (zqe BK112.out 3).trans rfl, (zqe BK112.out 4).trans rfl, (zqe BK112.out 5).trans rfl, (zqe BK112.out 6).trans rfl, (zqe BK112.out 7).trans rfl, (zqe BK112.out 8).trans rfl, (zqe BK112.out 9).trans rfl, (zqe BK112.out 10).trans rfl, (zqe BK112.out 11).trans rfl, (zqe BK116.out 0).trans rfl, (zqe BK116.out 1).trans rfl, (zqe BK116.out 2).trans rfl, (zqe BK116.out 3).trans rfl, (zqe BK116.out 4).trans rfl, (zqe BK116.out 5).trans rfl⟩ (fun hHeld => ?_); refine with_tabW state_here_visit.tab2 state_here_visit.bits2 (fun HT_ HW_ => ?_)
   generalize w28.drew = w29 at BK112 BK113 BK115 BK116 HB hHeld ⊢
   refine zqp 0 (some 17) (zqB 10 1) (any_of HT_.out (by kernel_rfl)) (h := ?_)
   refine zqp 3 (some 20) (zqB 10 9) (any_of HT_.out (by kernel_rfl)) (h := ?_)
   refine zqp 6 (some 23) (zqB 10 73) (any_of HT_.out (by kernel_rfl)) (h := ?_)
   refine zqt 1 (some 18) (zqB 10 75) (take_ofW HT_.out HW_.out (by kernel_rfl)) hHeld (h := ?_)
   refine zqt 2 (some 19) (zqB 10 79) (take_ofW HT_.out HW_.out (by kernel_rfl)) hHeld (h := ?_)
   refine zqt 7 (some 24) (zqB 10 207) (take_ofW HT_.out HW_.out (by kernel_rfl)) hHeld (h := ?_)
   refine one_ (i := 4) (N := some 21) (zqB 10 223) rfl rfl (one_of HT_.out (by kernel_rfl)) (by decide) (fun K hK => ?_)
   refine goes_ Try.func41 (by kernel_rfl) rfl #[.agg #[.int .i64 a0_0, .int .i64 a0_1, .int .i64 a0_2, .slice (some ad114) l0_3.length c0_3, .int .i64 a0_4, .int .i64 a0_5, .int .i64 a0_6, .int .i64 a0_7, .int .i64 a0_8, .int .u64 a0_9, .int .u64 a0_10, .int .u64 a0_11], .int .i64 a1] (by rfl) rfl rfl (by (try simp only [List.map_toArray, List.map_cons, List.map_nil]); first | done | rfl | (simp only [List.length_drop, List.length_take]; rfl)) ?_
   with_reducible refine (state_here_far.calls a0_0 a0_1 a0_2 _ _ l0_3 a0_4 a0_5 a0_6 a0_7 a0_8 a0_9 a0_10 a0_11 a1 t117 _ ?side1 ?side2 A5.out).mono ?_
   (case side1 => repeat (first | exact (Kd.C_below HR0_3.out HB.out) | (with_reducible refine Kd.C_alloc ?_ _) | (with_reducible refine Kd.C_drewN ?_ _) | (with_reducible refine Kd.C_drew ?_)))
   (case side2 => exact HC0_3.out)
   rintro e w30 ⟨rfl, hb⟩
   refine ⟨_, rfl, ?_⟩
   have n0_ := zqi (zqy BK112.out hb)
   have n1_ := zqi (zqy BK113.out hb)
   have n2_ := zqi (zqy BK115.out hb)
   have n3_ := zqi (zqy BK116.out hb)
   have n4_ := zqi (below_step (zqn HB.out) hb)
   clear BK112
   clear BK113
   clear BK115
   clear BK116
   clear HB
   have BK112 := n0_
   have BK113 := n1_
   have BK115 := n2_
   have BK116 := n3_
   have HB := n4_
   clear n0_ n1_ n2_ n3_ n4_
   (try clear hb)
   (try clear hb2)
   (try clear hk)
   (try clear hi)
   refine hK.out _ _ ⟨(zqe BK115.out 0).trans rfl, (zqe BK115.out 1).trans rfl, (zqe BK115.out 2).trans rfl, (zqe BK115.out 3).trans rfl, (zqe BK115.out 4).trans rfl, (zqe BK115.out 5).trans rfl, (zqe BK115.out 6).trans rfl, (zqe BK115.out 7).trans rfl, (zqe BK112.out 0).trans rfl, (zqe BK112.out 1).trans rfl, (zqe BK112.out 2).trans rfl, (zqe BK112.out 3).trans rfl, (zqe BK112.out 4).trans rfl, (zqe BK112.out 5).trans rfl, (zqe BK112.out 6).trans rfl, (zqe BK112.out 7).trans rfl, (zqe BK112.out 8).trans rfl, (zqe BK112.out 9).trans rfl, (zqe BK112.out 10).trans rfl, (zqe BK112.out 11).trans rfl, (zqe BK116.out 0).trans rfl, (zqe BK116.out 1).trans rfl, (zqe BK116.out 2).trans rfl, (zqe BK116.out 3).trans rfl, (zqe BK116.out 4).trans rfl, (zqe BK116.out 5).trans rfl⟩ (fun hHeld => ?_)
   clear hK K
   refine norm_ (a' := ?_) ?_ ?_
   rotate_left
   ·
    show Act.put _ (some 21) _ = _
    simp only [Act.put, List.setIfInBounds_toArray, List.set_cons_zero, List.set_cons_succ, i64_w, i32_w]
    rfl
   refine zqp 5 (some 22) (zqB 10 255) (any_of HT_.out (by kernel_rfl)) (h := ?_)
   refine zqp 8 (some 25) (zqB 10 511) (any_of HT_.out (by kernel_rfl)) (h := ?_)
   refine zqp 9 (some 8) (zqB 10 1023) (any_of HT_.out (by kernel_rfl)) (h := ?_)
   refine done_ (done_of HT_.out (by kernel_rfl)) ?_
   go_upto_region 3 with (fail)
   go_cut [35] (fun v35 wc => ∃ (kq : Nat) (x35_6 : Bool), v35 = .bool x35_6 ∧ Aside0 (state_here_visit.j0 kq a1 ji6 x35_6 a0_4 a0_5 a0_6 a0_7 a0_8 a0_9 a0_10 a0_11 ((rd_T23 l0_3 a1).f0) ((rd_T23 l0_3 a1).f1) ((rd_T23 l0_3 a1).f2) ((rd_T23 l0_3 a1).f3) ((rd_T23 l0_3 a1).f4) ((rd_T23 l0_3 a1).f5) = some (r1, r2, r3, r4, r5, r6, r7, r8, r9)) ∧ Aside0 (kq ≤ k) ∧ Aside0 (wc.heap[gb112]? = some (.cells #[.int .i64 a0_0, .int .i64 a0_1, .int .i64 a0_2, (.slice (some ad114) l0_3.length c0_3), .int .i64 a0_4, .int .i64 a0_5, .int .i64 a0_6, .int .i64 a0_7, .int .i64 a0_8, .int .u64 a0_9, .int .u64 a0_10, .int .u64 a0_11] 69 (0, 0))) ∧ Aside0 (wc.heap[gb113]? = some (.cells #[.int .i64 0, .int .i64 0, .int .i64 0, .int .i64 0, .int .i64 0, .int .u64 0, .int .u64 0, .int .u64 0] 40 (0, 0))) ∧ Aside0 (wc.heap[gb115]? = some (.cells #[.int .i64 a0_4, .int .i64 a0_5, .int .i64 a0_6, .int .i64 a0_7, .int .i64 a0_8, .int .u64 a0_9, .int .u64 a0_10, .int .u64 a0_11] 40 (0, 0))) ∧ Aside0 (wc.heap[gb116]? = some (.cells #[.int .i64 ((rd_T23 l0_3 a1).f0), .int .i64 ((rd_T23 l0_3 a1).f1), .int .i64 ((rd_T23 l0_3 a1).f2), .int .i64 ((rd_T23 l0_3 a1).f3), .int .i64 ((rd_T23 l0_3 a1).f4), .int .i64 ((rd_T23 l0_3 a1).f5)] 23 (0, 0))) ∧ Aside0 (Below w.heap.size w wc))
   case first =>
    have H := HC7.out
    clear HC7
    replace H := Option.bind_eq_some_iff.mp H
    obtain ⟨t118, A310, H⟩ := H
    replace H : (if t118 = true then (state_here_visit.j0 k a1 ji6 true a0_4 a0_5 a0_6 a0_7 a0_8 a0_9 a0_10 a0_11 ((rd_T23 l0_3 a1).f0) ((rd_T23 l0_3 a1).f1) ((rd_T23 l0_3 a1).f2) ((rd_T23 l0_3 a1).f3) ((rd_T23 l0_3 a1).f4) ((rd_T23 l0_3 a1).f5)) else (state_here_visit.j0 k a1 ji6 (decide ((ji6) > ((rd_T23 l0_3 a1).f4))) a0_4 a0_5 a0_6 a0_7 a0_8 a0_9 a0_10 a0_11 ((rd_T23 l0_3 a1).f0) ((rd_T23 l0_3 a1).f1) ((rd_T23 l0_3 a1).f2) ((rd_T23 l0_3 a1).f3) ((rd_T23 l0_3 a1).f4) ((rd_T23 l0_3 a1).f5))) = some (r1, r2, r3, r4, r5, r6, r7, r8, r9) := H
    have A31 := zqi A310
    clear A310
    by_cases c32 : t118 = true
    ·
     subst c32
     have H1 : (state_here_visit.j0 k a1 ji6 true a0_4 a0_5 a0_6 a0_7 a0_8 a0_9 a0_10 a0_11 ((rd_T23 l0_3 a1).f0) ((rd_T23 l0_3 a1).f1) ((rd_T23 l0_3 a1).f2) ((rd_T23 l0_3 a1).f3) ((rd_T23 l0_3 a1).f4) ((rd_T23 l0_3 a1).f5)) = some (r1, r2, r3, r4, r5, r6, r7, r8, r9) := by rw [if_pos rfl] at H; exact H
     clear H
     have H := H1
     clear H1
     have H' := zqi H
     clear H
     have hnb33 := NB115_112.out
     have hnc33 := NB112_115.out
     have hnb34 := NB115_113.out
     have hnc34 := NB113_115.out
     have hnb35 := NB115_116.out
     have hnc35 := NB116_115.out
     obtain ⟨hcz36_0, hcz36_1, hcz36_2, hcz36_3, hcz36_4, hcz36_5, hcz36_6, hcz36_7, hfz36_0, hfz36_1, hfz36_2, hfz36_3, hfz36_4, hfz36_5, hfz36_6, hfz36_7⟩ := zqz8 BK115.out
     go_wp2_with (first | ((with_reducible refine gate_callee (f := 68) rfl ?_); refine goesL_ (some 29) rfl rfl Try.func68 (by kernel_rfl) rfl #[.int .u64 a0_9, .int .i64 a1] rfl (by (try simp only [List.map_toArray, List.map_cons, List.map_nil]); first | done | rfl | (simp only [List.length_drop, List.length_take]; rfl)) ?_; (with_reducible refine (set_Has.calls a0_9 a1 true _ A31.out).mono ?_); rintro e w' ⟨rfl, ⟨nd, rfl⟩⟩; refine ⟨_, rfl, ?_⟩))
     go_meet
     case rel => exact ⟨_, (true), (by first | rfl | (simp; done) | (simp [*]; done)), H', ⟨by first | omega | exact Nat.le_refl _⟩, ⟨by (with_reducible repeat (first | apply zqa | apply zqb | apply zqc)); exact BK112.out⟩, ⟨by (with_reducible repeat (first | apply zqa | apply zqb | apply zqc)); exact BK113.out⟩, ⟨by (with_reducible repeat (first | apply zqa | apply zqb | apply zqc)); exact BK115.out⟩, ⟨by (with_reducible repeat (first | apply zqa | apply zqb | apply zqc)); exact BK116.out⟩, ⟨by repeat (first | (with_reducible first | exact HB.out | apply zqg | apply zqf | apply zqh | refine below_set ?_ GE112.out | refine below_set ?_ GE113.out | refine below_set ?_ GE115.out | refine below_set ?_ GE116.out) | exact HB.out)⟩⟩
    ·
     replace c32 := Bool.eq_false_iff.mpr c32
     subst c32
     have H1 : (state_here_visit.j0 k a1 ji6 (decide ((ji6) > ((rd_T23 l0_3 a1).f4))) a0_4 a0_5 a0_6 a0_7 a0_8 a0_9 a0_10 a0_11 ((rd_T23 l0_3 a1).f0) ((rd_T23 l0_3 a1).f1) ((rd_T23 l0_3 a1).f2) ((rd_T23 l0_3 a1).f3) ((rd_T23 l0_3 a1).f4) ((rd_T23 l0_3 a1).f5)) = some (r1, r2, r3, r4, r5, r6, r7, r8, r9) := by rw [if_neg (show ¬ (false = true) by decide)] at H; exact H
     clear H
     have H := H1
     clear H1
     have H' := zqi H
     clear H
     have hnb37 := NB115_112.out
     have hnc37 := NB112_115.out
     have hnb38 := NB115_113.out
     have hnc38 := NB113_115.out
     have hnb39 := NB115_116.out
     have hnc39 := NB116_115.out
     obtain ⟨hcz40_0, hcz40_1, hcz40_2, hcz40_3, hcz40_4, hcz40_5, hcz40_6, hcz40_7, hfz40_0, hfz40_1, hfz40_2, hfz40_3, hfz40_4, hfz40_5, hfz40_6, hfz40_7⟩ := zqz8 BK115.out
     go_wp2_with (first | ((with_reducible refine gate_callee (f := 68) rfl ?_); refine goesL_ (some 29) rfl rfl Try.func68 (by kernel_rfl) rfl #[.int .u64 a0_9, .int .i64 a1] rfl (by (try simp only [List.map_toArray, List.map_cons, List.map_nil]); first | done | rfl | (simp only [List.length_drop, List.length_take]; rfl)) ?_; (with_reducible refine (set_Has.calls a0_9 a1 false _ A31.out).mono ?_); rintro e w' ⟨rfl, ⟨nd, rfl⟩⟩; refine ⟨_, rfl, ?_⟩; have hnb41 := NB116_112.out; have hnc41 := NB112_116.out; have hnb42 := NB116_113.out; have hnc42 := NB113_116.out; obtain ⟨hcz43_0, hcz43_1, hcz43_2, hcz43_3, hcz43_4, hcz43_5, hfz43_0, hfz43_1, hfz43_2, hfz43_3, hfz43_4, hfz43_5⟩ := zqz6 BK116.out))
     go_meet
     case rel => exact ⟨_, (decide ((ji6) > ((rd_T23 l0_3 a1).f4))), (by first | rfl | (simp; done) | (simp only [← hji6] <;> (first | rfl | simp)) | (simp [*]; done)), H', ⟨by first | omega | exact Nat.le_refl _⟩, ⟨by (with_reducible repeat (first | apply zqa | apply zqb | apply zqc)); exact BK112.out⟩, ⟨by (with_reducible repeat (first | apply zqa | apply zqb | apply zqc)); exact BK113.out⟩, ⟨by (with_reducible repeat (first | apply zqa | apply zqb | apply zqc)); exact BK115.out⟩, ⟨by (with_reducible repeat (first | apply zqa | apply zqb | apply zqc)); exact BK116.out⟩, ⟨by repeat (first | (with_reducible first | exact HB.out | apply zqg | apply zqf | apply zqh | refine below_set ?_ GE112.out | refine below_set ?_ GE113.out | refine below_set ?_ GE115.out | refine below_set ?_ GE116.out) | exact HB.out)⟩⟩
   case rest =>
    clear HC7
    try clear p2
    try clear c3
    try clear c4
    try clear c6
    try clear c32
    try clear c33
    try clear c34
    try clear c35
    try clear c37
    try clear c38
    try clear c39
    try clear c41
    try clear c42
    try clear hcz36_0
    try clear hcz36_1
    try clear hcz36_2
    try clear hcz36_3
    try clear hcz36_4
    try clear hcz36_5
    try clear hcz36_6
    try clear hcz36_7
    try clear hcz40_0
    try clear hcz40_1
    try clear hcz40_2
    try clear hcz40_3
    try clear hcz40_4
    try clear hcz40_5
    try clear hcz40_6
    try clear hcz40_7
    try clear hcz43_0
    try clear hcz43_1
    try clear hcz43_2
    try clear hcz43_3
    try clear hcz43_4
    try clear hcz43_5
    try clear hfz36_0
    try clear hfz36_1
    try clear hfz36_2
    try clear hfz36_3
    try clear hfz36_4
    try clear hfz36_5
    try clear hfz36_6
    try clear hfz36_7
    try clear hfz40_0
    try clear hfz40_1
    try clear hfz40_2
    try clear hfz40_3
    try clear hfz40_4
    try clear hfz40_5
    try clear hfz40_6
    try clear hfz40_7
    try clear hfz43_0
    try clear hfz43_1
    try clear hfz43_2
    try clear hfz43_3
    try clear hfz43_4
    try clear hfz43_5
    obtain ⟨kq, x35_6, rfl, HA, HJ6, BK112, BK113, BK115, BK116, HB⟩ := hcut
    cases kq with
    | zero => exact absurd HA.out (by simp [state_here_visit.j0])
    | succ kj6 =>
     have H := HA.out
     clear HA
     simp only [state_here_visit.j0] at H
     by_cases c44 : x35_6 = true
     ·
      subst c44
      have H1 : (some (a0_4, a0_5, a0_6, a0_7, a0_8, a0_9, a0_10, a0_11, false)) = some (r1, r2, r3, r4, r5, r6, r7, r8, r9) := by rw [if_pos rfl] at H; exact H
      clear H
      have H := H1
      clear H1
      simp only [Option.some.injEq, Prod.mk.injEq] at H
      obtain ⟨rfl, rfl, rfl, rfl, rfl, rfl, rfl, rfl, rfl⟩ := H
      have hnb45 := NB115_112.out
      have hnc45 := NB112_115.out
      have hnb46 := NB115_113.out
      have hnc46 := NB113_115.out
      have hnb47 := NB115_116.out
      have hnc47 := NB116_115.out
      obtain ⟨hcz48_0, hcz48_1, hcz48_2, hcz48_3, hcz48_4, hcz48_5, hcz48_6, hcz48_7, hfz48_0, hfz48_1, hfz48_2, hfz48_3, hfz48_4, hfz48_5, hfz48_6, hfz48_7⟩ := zqz8 BK115.out
      have hnb49 := NB113_112.out
      have hnc49 := NB112_113.out
      have hnb50 := NB113_116.out
      have hnc50 := NB116_113.out
      obtain ⟨hcz51_0, hcz51_1, hcz51_2, hcz51_3, hcz51_4, hcz51_5, hcz51_6, hcz51_7, hfz51_0, hfz51_1, hfz51_2, hfz51_3, hfz51_4, hfz51_5, hfz51_6, hfz51_7⟩ := zqz8 BK113.out
      go_wp2
      refine bodyPost_ret (results_ct rfl _ _ gb113 40 #[.int .i64 a0_4, .int .i64 a0_5, .int .i64 a0_6, .int .i64 a0_7, .int .i64 a0_8, .int .u64 a0_9, .int .u64 a0_10, .int .u64 a0_11] (0, 0) _ rfl (by exact zqC (blk_set (blk_set (blk_set (blk_set (blk_set (blk_set (blk_set (blk_set BK113.out 0 _) 1 _) 2 _) 3 _) 4 _) 5 _) 6 _) 7 _) (by simp only [List.setIfInBounds_toArray, List.set_cons_zero, List.set_cons_succ])) Try.underlying40 rfl (by kernel_rfl)) rfl ?_
      exact ⟨by first | rfl | (simp [errW_none, errW_some] <;> rfl) | (simp only [← hji6]; first | rfl | (simp [errW_none, errW_some] <;> rfl)) | (simp [*, errW_none, errW_some] <;> rfl), by repeat (first | (with_reducible first | exact HB.out | apply zqg | apply zqf | apply zqh | refine below_set ?_ GE112.out | refine below_set ?_ GE113.out | refine below_set ?_ GE115.out | refine below_set ?_ GE116.out) | exact HB.out)⟩
     ·
      replace c44 := Bool.eq_false_iff.mpr c44
      subst c44
      have H1 : (if a0_4 = 0 then ((set_With.f a0_9 a1).bind fun t119 => ((set_With.f a0_10 a1).bind fun t120 => (some (a1, a0_5, wrap64 (ji6 + ((rd_T23 l0_3 a1).f5)), mx (wrap64 (a0_7 + ((rd_T23 l0_3 a1).f2))) 0, a1, t119, t120, a0_11, true)))) else ((set_With.f a0_9 a1).bind fun t121 => ((set_With.f a0_10 a1).bind fun t122 => (some (a1, a0_5, wrap64 (ji6 + ((rd_T23 l0_3 a1).f5)), mx (wrap64 (a0_7 + ((rd_T23 l0_3 a1).f2))) 0, a0_8, t121, t122, a0_11, true))))) = some (r1, r2, r3, r4, r5, r6, r7, r8, r9) := by rw [if_neg (show ¬ (false = true) by decide)] at H; exact H
      clear H
      have H := H1
      clear H1
      by_cases c52 : a0_4 = 0
      ·
       rw [if_pos c52] at H
       have c52b0 : (a0_4 == 0) = true := beq_iff_eq.mpr c52
       have c52b1 : (a0_4 != 0) = false := bne_eq_false_iff_eq.mpr c52
       clear c52
       obtain ⟨ji53, hji53⟩ : ∃ j_ : Int, (mx (wrap64 (a0_7 + ((rd_T23 l0_3 a1).f2))) 0) = j_ := ⟨_, rfl⟩
       replace H : ((set_With.f a0_9 a1).bind fun t119 => ((set_With.f a0_10 a1).bind fun t120 => (some (a1, a0_5, wrap64 (ji6 + ((rd_T23 l0_3 a1).f5)), ji53, a1, t119, t120, a0_11, true)))) = some (r1, r2, r3, r4, r5, r6, r7, r8, r9) := by first | (rw [hji53] at H; exact H) | (simp only [hji53] at H ⊢; exact H)
       have hji53_ : (if (wrap64 (a0_7 + ((rd_T23 l0_3 a1).f2))) < 0 then 0 else (wrap64 (a0_7 + ((rd_T23 l0_3 a1).f2)))) = ji53 := hji53
       replace H := Option.bind_eq_some_iff.mp H
       obtain ⟨t119, A540, H⟩ := H
       replace H : ((set_With.f a0_10 a1).bind fun t120 => (some (a1, a0_5, wrap64 (ji6 + ((rd_T23 l0_3 a1).f5)), ji53, a1, t119, t120, a0_11, true))) = some (r1, r2, r3, r4, r5, r6, r7, r8, r9) := H
       have A54 := zqi A540
       clear A540
       replace H := Option.bind_eq_some_iff.mp H
       obtain ⟨t120, A550, H⟩ := H
       replace H : (some (a1, a0_5, wrap64 (ji6 + ((rd_T23 l0_3 a1).f5)), ji53, a1, t119, t120, a0_11, true)) = some (r1, r2, r3, r4, r5, r6, r7, r8, r9) := H
       have A55 := zqi A550
       clear A550
       simp only [Option.some.injEq, Prod.mk.injEq] at H
       obtain ⟨rfl, rfl, rfl, rfl, rfl, rfl, rfl, rfl, rfl⟩ := H
       have hnb56 := NB115_112.out
       have hnc56 := NB112_115.out
       have hnb57 := NB115_113.out
       have hnc57 := NB113_115.out
       have hnb58 := NB115_116.out
       have hnc58 := NB116_115.out
       obtain ⟨hcz59_0, hcz59_1, hcz59_2, hcz59_3, hcz59_4, hcz59_5, hcz59_6, hcz59_7, hfz59_0, hfz59_1, hfz59_2, hfz59_3, hfz59_4, hfz59_5, hfz59_6, hfz59_7⟩ := zqz8 BK115.out
       try go_wp2
       generalize hW_ : (wc.setCell ⟨gb115, 4, none⟩ (.int .i64 a1)) = w60
       have n0_ : Aside0 (w60.heap[gb112]? = some (.cells #[.int .i64 a0_0, .int .i64 a0_1, .int .i64 a0_2, .slice (some ad114) l0_3.length c0_3, .int .i64 a0_4, .int .i64 a0_5, .int .i64 a0_6, .int .i64 a0_7, .int .i64 a0_8, .int .u64 a0_9, .int .u64 a0_10, .int .u64 a0_11] 69 (0, 0))) := ⟨by subst hW_; (repeat (with_reducible first | apply zqa | apply zqb | apply zqc | refine blk_far ?_ NB112_115.out _)); exact BK112.out⟩
       have n1_ : Aside0 (w60.heap[gb113]? = some (.cells #[.int .i64 0, .int .i64 0, .int .i64 0, .int .i64 0, .int .i64 0, .int .u64 0, .int .u64 0, .int .u64 0] 40 (0, 0))) := ⟨by subst hW_; (repeat (with_reducible first | apply zqa | apply zqb | apply zqc | refine blk_far ?_ NB113_115.out _)); exact BK113.out⟩
       have n2_ : Aside0 (w60.heap[gb115]? = some (.cells #[.int .i64 a0_4, .int .i64 a0_5, .int .i64 a0_6, .int .i64 a0_7, .int .i64 a1, .int .u64 a0_9, .int .u64 a0_10, .int .u64 a0_11] 40 (0, 0))) := ⟨by subst hW_; exact zqC (blk_set BK115.out 4 _) (by simp only [List.setIfInBounds_toArray, List.set_cons_zero, List.set_cons_succ])⟩
       have n3_ : Aside0 (w60.heap[gb116]? = some (.cells #[.int .i64 ((rd_T23 l0_3 a1).f0), .int .i64 ((rd_T23 l0_3 a1).f1), .int .i64 ((rd_T23 l0_3 a1).f2), .int .i64 ((rd_T23 l0_3 a1).f3), .int .i64 ((rd_T23 l0_3 a1).f4), .int .i64 ((rd_T23 l0_3 a1).f5)] 23 (0, 0))) := ⟨by subst hW_; (repeat (with_reducible first | apply zqa | apply zqb | apply zqc | refine blk_far ?_ NB116_115.out _)); exact BK116.out⟩
       have n4_ : Aside0 (Below w.heap.size w w60) := ⟨by subst hW_; repeat (first | (with_reducible first | exact HB.out | apply zqg | apply zqf | apply zqh | refine below_set ?_ GE112.out | refine below_set ?_ GE113.out | refine below_set ?_ GE115.out | refine below_set ?_ GE116.out) | exact HB.out)⟩
       clear hW_
       (try clear BK112)
       (try clear BK113)
       (try clear BK115)
       (try clear BK116)
       (try clear HB)
       have BK112 := n0_
       have BK113 := n1_
       have BK115 := n2_
       have BK116 := n3_
       have HB := n4_
       clear n0_ n1_ n2_ n3_ n4_
       have n0_ := zqi (zqb BK112.out)
       have n1_ := zqi (zqb BK113.out)
       have n2_ := zqi (zqb BK115.out)
       have n3_ := zqi (zqb BK116.out)
       have n4_ := zqi (zqh HB.out)
       clear BK112
       clear BK113
       clear BK115
       clear BK116
       clear HB
       have BK112 := n0_
       have BK113 := n1_
       have BK115 := n2_
       have BK116 := n3_
       have HB := n4_
       clear n0_ n1_ n2_ n3_ n4_
       refine start_ (n := 17) (S := fun w' => w'.cell? ⟨gb116, 0, none⟩ = some (.int .i64 ((rd_T23 l0_3 a1).f0)) ∧ w'.cell? ⟨gb116, 1, none⟩ = some (.int .i64 ((rd_T23 l0_3 a1).f1)) ∧ w'.cell? ⟨gb116, 2, none⟩ = some (.int .i64 ((rd_T23 l0_3 a1).f2)) ∧ w'.cell? ⟨gb116, 3, none⟩ = some (.int .i64 ((rd_T23 l0_3 a1).f3)) ∧ w'.cell? ⟨gb116, 4, none⟩ = some (.int .i64 ((rd_T23 l0_3 a1).f4)) ∧ w'.cell? ⟨gb116, 5, none⟩ = some (.int .i64 ((rd_T23 l0_3 a1).f5)) ∧ w'.cell? ⟨gb115, 3, none⟩ = some (.int .i64 a0_7)) (ds := [16]) (zqB 17 0) (by kernel_rfl) rfl rfl ⟨(zqe BK116.out 0).trans rfl, (zqe BK116.out 1).trans rfl, (zqe BK116.out 2).trans rfl, (zqe BK116.out 3).trans rfl, (zqe BK116.out 4).trans rfl, (zqe BK116.out 5).trans rfl, (zqe BK115.out 3).trans rfl⟩ (fun hHeld => ?_); refine with_tabW state_here_visit.tab7 state_here_visit.bits7 (fun HT_ HW_ => ?_)
       generalize w60.drew = w61 at BK112 BK113 BK115 BK116 HB hHeld ⊢
       refine zqp 0 (some 42) (zqB 17 1) (any_of HT_.out (by kernel_rfl)) (h := ?_)
       refine zqp 1 (some 43) (zqB 17 3) (any_of HT_.out (by kernel_rfl)) (h := ?_)
       refine zqp 2 (some 44) (zqB 17 7) (any_of HT_.out (by kernel_rfl)) (h := ?_)
       refine zqp 5 (some 47) (zqB 17 39) (any_of HT_.out (by kernel_rfl)) (h := ?_)
       refine zqp 7 (some 49) (zqB 17 167) (any_of HT_.out (by kernel_rfl)) (h := ?_)
       refine zqt 3 (some 45) (zqB 17 175) (take_ofW HT_.out HW_.out (by kernel_rfl)) hHeld (h := ?_)
       refine zqp 4 (some 46) (zqB 17 191) (any_of HT_.out (by kernel_rfl)) (h := ?_)
       refine zqt 6 (some 48) (zqB 17 255) (take_ofW HT_.out HW_.out (by kernel_rfl)) hHeld (h := ?_)
       refine zqp 11 (some 53) (zqB 17 2303) (any_of HT_.out (by kernel_rfl)) (h := ?_)
       refine zqt 8 (some 50) (zqB 17 2559) (take_ofW HT_.out HW_.out (by kernel_rfl)) hHeld (h := ?_)
       refine zqp 9 (some 51) (zqB 17 3071) (any_of HT_.out (by kernel_rfl)) (h := ?_)
       refine zqp 10 (some 52) (zqB 17 4095) (any_of HT_.out (by kernel_rfl)) (h := ?_)
       refine one_ (i := 12) (N := none) (zqB 17 8191) rfl rfl (one_of HT_.out (by kernel_rfl)) (by decide) (fun K hK => ?_)
       have hs62 : w61.cell? ⟨gb115, 0, none⟩ = some (.int .i64 a0_4) := (zqe BK115.out 0).trans rfl
       have hfs62 := zqd BK115.out 0
       have hns62_0 := NB112_115.out
       have hns62_1 := NB113_115.out
       have hns62_3 := NB116_115.out
       have hms62_0 := NB115_112.out
       have hms62_1 := NB115_113.out
       have hms62_3 := NB115_116.out
       refine skip_ (w1 := ?_) (by rfl) rfl ?_ ?_
       rotate_left
       ·
        go_simp
        rfl
       refine hK.out _ _ ⟨((zqk NB116_115.out).trans (hHeld.1)), ((zqk NB116_115.out).trans (hHeld.2.1)), ((zqk NB116_115.out).trans (hHeld.2.2.1)), ((zqk NB116_115.out).trans (hHeld.2.2.2.1)), ((zqk NB116_115.out).trans (hHeld.2.2.2.2.1)), ((zqk NB116_115.out).trans (hHeld.2.2.2.2.2.1)), (by have h_ := hHeld.2.2.2.2.2.2; first | (go_simp; done) | (go_simp; exact h_))⟩ (fun hHeld => ?_)
       clear hK K
       refine zqp 13 (some 54) (zqB 17 16383) (any_of HT_.out (by kernel_rfl)) (h := ?_)
       refine one_ (i := 14) (N := none) (zqB 17 32767) rfl rfl (one_of HT_.out (by kernel_rfl)) (by decide) (fun K hK => ?_)
       have hs63 : w61.cell? ⟨gb115, 2, none⟩ = some (.int .i64 a0_6) := (zqe BK115.out 2).trans rfl
       have hfs63 := zqd BK115.out 2
       have hns63_0 := NB112_115.out
       have hns63_1 := NB113_115.out
       have hns63_3 := NB116_115.out
       have hms63_0 := NB115_112.out
       have hms63_1 := NB115_113.out
       have hms63_3 := NB115_116.out
       refine skip_ (w1 := ?_) (by rfl) rfl ?_ ?_
       rotate_left
       ·
        go_simp
        rfl
       refine hK.out _ _ ⟨((zqk NB116_115.out).trans (hHeld.1)), ((zqk NB116_115.out).trans (hHeld.2.1)), ((zqk NB116_115.out).trans (hHeld.2.2.1)), ((zqk NB116_115.out).trans (hHeld.2.2.2.1)), ((zqk NB116_115.out).trans (hHeld.2.2.2.2.1)), ((zqk NB116_115.out).trans (hHeld.2.2.2.2.2.1)), (by have h_ := hHeld.2.2.2.2.2.2; first | (go_simp; done) | (go_simp; exact h_))⟩ (fun hHeld => ?_)
       clear hK K
       refine zqp 15 (some 55) (zqB 17 65535) (any_of HT_.out (by kernel_rfl)) (h := ?_)
       refine last_ (i := 16) (N := none) (zqB 17 131071) rfl rfl (one_of HT_.out (by kernel_rfl)) (by decide) (fun K hK => ?_)
       have hs64 : w61.cell? ⟨gb115, 3, none⟩ = some (.int .i64 a0_7) := (zqe BK115.out 3).trans rfl
       have hfs64 := zqd BK115.out 3
       have hns64_0 := NB112_115.out
       have hns64_1 := NB113_115.out
       have hns64_3 := NB116_115.out
       have hms64_0 := NB115_112.out
       have hms64_1 := NB115_113.out
       have hms64_3 := NB115_116.out
       refine skip_ (w1 := ?_) (by rfl) rfl ?_ ?_
       rotate_left
       ·
        go_simp
        rfl
       refine hK.out _ _ ?_
       clear hK K
       refine done_ (done_of HT_.out (by kernel_rfl)) ?_
       try go_wp2
       generalize hW_ : (((w61.setCell ⟨gb115, 0, none⟩ (.int .i64 a1)).setCell ⟨gb115, 2, none⟩ (.int .i64 (wrap64 (ji6 + ((rd_T23 l0_3 a1).f5))))).setCell ⟨gb115, 3, none⟩ (.int .i64 ji53)) = w65
       have n0_ : Aside0 (w65.heap[gb112]? = some (.cells #[.int .i64 a0_0, .int .i64 a0_1, .int .i64 a0_2, .slice (some ad114) l0_3.length c0_3, .int .i64 a0_4, .int .i64 a0_5, .int .i64 a0_6, .int .i64 a0_7, .int .i64 a0_8, .int .u64 a0_9, .int .u64 a0_10, .int .u64 a0_11] 69 (0, 0))) := ⟨by subst hW_; (repeat (with_reducible first | apply zqa | apply zqb | apply zqc | refine blk_far ?_ NB112_115.out _)); exact BK112.out⟩
       have n1_ : Aside0 (w65.heap[gb113]? = some (.cells #[.int .i64 0, .int .i64 0, .int .i64 0, .int .i64 0, .int .i64 0, .int .u64 0, .int .u64 0, .int .u64 0] 40 (0, 0))) := ⟨by subst hW_; (repeat (with_reducible first | apply zqa | apply zqb | apply zqc | refine blk_far ?_ NB113_115.out _)); exact BK113.out⟩
       have n2_ : Aside0 (w65.heap[gb115]? = some (.cells #[.int .i64 a1, .int .i64 a0_5, .int .i64 (wrap64 (ji6 + ((rd_T23 l0_3 a1).f5))), .int .i64 ji53, .int .i64 a1, .int .u64 a0_9, .int .u64 a0_10, .int .u64 a0_11] 40 (0, 0))) := ⟨by subst hW_; exact zqC (blk_set (blk_set (blk_set BK115.out 0 _) 2 _) 3 _) (by simp only [List.setIfInBounds_toArray, List.set_cons_zero, List.set_cons_succ])⟩
       have n3_ : Aside0 (w65.heap[gb116]? = some (.cells #[.int .i64 ((rd_T23 l0_3 a1).f0), .int .i64 ((rd_T23 l0_3 a1).f1), .int .i64 ((rd_T23 l0_3 a1).f2), .int .i64 ((rd_T23 l0_3 a1).f3), .int .i64 ((rd_T23 l0_3 a1).f4), .int .i64 ((rd_T23 l0_3 a1).f5)] 23 (0, 0))) := ⟨by subst hW_; (repeat (with_reducible first | apply zqa | apply zqb | apply zqc | refine blk_far ?_ NB116_115.out _)); exact BK116.out⟩
       have n4_ : Aside0 (Below w.heap.size w w65) := ⟨by subst hW_; repeat (first | (with_reducible first | exact HB.out | apply zqg | apply zqf | apply zqh | refine below_set ?_ GE112.out | refine below_set ?_ GE113.out | refine below_set ?_ GE115.out | refine below_set ?_ GE116.out) | exact HB.out)⟩
       clear hW_
       (try clear BK112)
       (try clear BK113)
       (try clear BK115)
       (try clear BK116)
       (try clear HB)
       have BK112 := n0_
       have BK113 := n1_
       have BK115 := n2_
       have BK116 := n3_
       have HB := n4_
       clear n0_ n1_ n2_ n3_ n4_
       have n0_ := zqi (zqb BK112.out)
       have n1_ := zqi (zqb BK113.out)
       have n2_ := zqi (zqb BK115.out)
       have n3_ := zqi (zqb BK116.out)
       have n4_ := zqi (zqh HB.out)
       clear BK112
       clear BK113
       clear BK115
       clear BK116
       clear HB
       have BK112 := n0_
       have BK113 := n1_
       have BK115 := n2_
       have BK116 := n3_
       have HB := n4_
       clear n0_ n1_ n2_ n3_ n4_
       refine start_ (n := 12) (S := fun w' => w'.cell? ⟨gb115, 5, none⟩ = some (.int .u64 a0_9) ∧ w'.cell? ⟨gb115, 6, none⟩ = some (.int .u64 a0_10)) (ds := [9, 11]) (zqB 12 0) (by kernel_rfl) rfl rfl ⟨(zqe BK115.out 5).trans rfl, (zqe BK115.out 6).trans rfl⟩ (fun hHeld => ?_); refine with_tabW state_here_visit.tab8 state_here_visit.bits8 (fun HT_ HW_ => ?_)
       generalize w65.drew = w66 at BK112 BK113 BK115 BK116 HB hHeld ⊢
       refine zqp 0 (some 56) (zqB 12 1) (any_of HT_.out (by kernel_rfl)) (h := ?_)
       refine zqp 2 (some 58) (zqB 12 5) (any_of HT_.out (by kernel_rfl)) (h := ?_)
       refine zqp 4 (some 60) (zqB 12 21) (any_of HT_.out (by kernel_rfl)) (h := ?_)
       refine zqp 6 (some 62) (zqB 12 85) (any_of HT_.out (by kernel_rfl)) (h := ?_)
       refine zqt 1 (some 57) (zqB 12 87) (take_ofW HT_.out HW_.out (by kernel_rfl)) hHeld (h := ?_)
       refine zqt 5 (some 61) (zqB 12 119) (take_ofW HT_.out HW_.out (by kernel_rfl)) hHeld (h := ?_)
       refine one_ (i := 3) (N := some 59) (zqB 12 127) rfl rfl (one_of HT_.out (by kernel_rfl)) (by decide) (fun K hK => ?_)
       refine goes_ Try.func71 (by kernel_rfl) rfl #[.int .u64 a0_9, .int .i64 a1] (by rfl) rfl rfl (by (try simp only [List.map_toArray, List.map_cons, List.map_nil]); first | done | rfl | (simp only [List.length_drop, List.length_take]; rfl)) ?_
       with_reducible refine (set_With.calls a0_9 a1 t119 _ A54.out).mono ?_
       rintro e w' ⟨rfl, ⟨nd, rfl⟩⟩
       refine ⟨_, rfl, ?_⟩
       refine hK.out _ _ ⟨(zqe BK115.out 5).trans rfl, (zqe BK115.out 6).trans rfl⟩ (fun hHeld => ?_)
       clear hK K
       refine norm_ (a' := ?_) ?_ ?_
       rotate_left
       ·
        show Act.put _ (some 59) _ = _
        simp only [Act.put, List.setIfInBounds_toArray, List.set_cons_zero, List.set_cons_succ, i64_w, i32_w]
        rfl
       refine zqp 8 (some 64) (zqB 12 383) (any_of HT_.out (by kernel_rfl)) (h := ?_)
       refine one_ (i := 7) (N := some 63) (zqB 12 511) rfl rfl (one_of HT_.out (by kernel_rfl)) (by decide) (fun K hK => ?_)
       refine goes_ Try.func71 (by kernel_rfl) rfl #[.int .u64 a0_10, .int .i64 a1] (by rfl) rfl rfl (by (try simp only [List.map_toArray, List.map_cons, List.map_nil]); first | done | rfl | (simp only [List.length_drop, List.length_take]; rfl)) ?_
       with_reducible refine (set_With.calls a0_10 a1 t120 _ A55.out).mono ?_
       rintro e w' ⟨rfl, ⟨nd, rfl⟩⟩
       refine ⟨_, rfl, ?_⟩
       refine hK.out _ _ ⟨(zqe BK115.out 5).trans rfl, (zqe BK115.out 6).trans rfl⟩ (fun hHeld => ?_)
       clear hK K
       refine norm_ (a' := ?_) ?_ ?_
       rotate_left
       ·
        show Act.put _ (some 63) _ = _
        simp only [Act.put, List.setIfInBounds_toArray, List.set_cons_zero, List.set_cons_succ, i64_w, i32_w]
        rfl
       refine last_ (i := 9) (N := none) (zqB 12 1023) rfl rfl (one_of HT_.out (by kernel_rfl)) (by decide) (fun K hK => ?_)
       have hs67 : w66.cell? ⟨gb115, 5, none⟩ = some (.int .u64 a0_9) := (zqe BK115.out 5).trans rfl
       have hfs67 := zqd BK115.out 5
       have hns67_0 := NB112_115.out
       have hns67_1 := NB113_115.out
       have hns67_3 := NB116_115.out
       have hms67_0 := NB115_112.out
       have hms67_1 := NB115_113.out
       have hms67_3 := NB115_116.out
       refine skip_ (w1 := ?_) (by rfl) rfl ?_ ?_
       rotate_left
       ·
        go_simp
        rfl
       refine hK.out _ _ ?_
       clear hK K
       refine zqp 10 (some 65) (zqB 12 2047) (any_of HT_.out (by kernel_rfl)) (h := ?_)
       refine last_ (i := 11) (N := none) (zqB 12 4095) rfl rfl (one_of HT_.out (by kernel_rfl)) (by decide) (fun K hK => ?_)
       have hs68 : w66.cell? ⟨gb115, 6, none⟩ = some (.int .u64 a0_10) := (zqe BK115.out 6).trans rfl
       have hfs68 := zqd BK115.out 6
       have hns68_0 := NB112_115.out
       have hns68_1 := NB113_115.out
       have hns68_3 := NB116_115.out
       have hms68_0 := NB115_112.out
       have hms68_1 := NB115_113.out
       have hms68_3 := NB115_116.out
       refine skip_ (w1 := ?_) (by rfl) rfl ?_ ?_
       rotate_left
       ·
        go_simp
        rfl
       refine hK.out _ _ ?_
       clear hK K
       refine done_ (done_of HT_.out (by kernel_rfl)) ?_
       obtain ⟨hcz69_0, hcz69_1, hcz69_2, hcz69_3, hcz69_4, hcz69_5, hcz69_6, hcz69_7, hfz69_0, hfz69_1, hfz69_2, hfz69_3, hfz69_4, hfz69_5, hfz69_6, hfz69_7⟩ := zqz8 BK115.out
       have hnb70 := NB113_112.out
       have hnc70 := NB112_113.out
       have hnb71 := NB113_116.out
       have hnc71 := NB116_113.out
       obtain ⟨hcz72_0, hcz72_1, hcz72_2, hcz72_3, hcz72_4, hcz72_5, hcz72_6, hcz72_7, hfz72_0, hfz72_1, hfz72_2, hfz72_3, hfz72_4, hfz72_5, hfz72_6, hfz72_7⟩ := zqz8 BK113.out
       try go_wp2
       refine bodyPost_ret (results_ct rfl _ _ gb113 40 #[.int .i64 a1, .int .i64 a0_5, .int .i64 (wrap64 (ji6 + ((rd_T23 l0_3 a1).f5))), .int .i64 ji53, .int .i64 a1, .int .u64 t119, .int .u64 t120, .int .u64 a0_11] (0, 0) _ rfl (by exact zqC (blk_set (blk_set (blk_set (blk_set (blk_set (blk_set (blk_set (blk_set (blk_far (blk_far BK113.out NB113_115.out _) NB113_115.out _) 0 _) 1 _) 2 _) 3 _) 4 _) 5 _) 6 _) 7 _) (by simp only [List.setIfInBounds_toArray, List.set_cons_zero, List.set_cons_succ])) Try.underlying40 rfl (by kernel_rfl)) rfl ?_
       exact ⟨by first | rfl | (simp [errW_none, errW_some] <;> rfl) | (simp only [← hji6, ← hji53]; first | rfl | (simp [errW_none, errW_some] <;> rfl)) | (simp [*, errW_none, errW_some] <;> rfl), by repeat (first | (with_reducible first | exact HB.out | apply zqg | apply zqf | apply zqh | refine below_set ?_ GE112.out | refine below_set ?_ GE113.out | refine below_set ?_ GE115.out | refine below_set ?_ GE116.out) | exact HB.out)⟩
      ·
       rw [if_neg c52] at H
       have c52b0 : (a0_4 == 0) = false := beq_eq_false_iff_ne.mpr c52
       have c52b1 : (a0_4 != 0) = true := bne_iff_ne.mpr c52
       obtain ⟨ji73, hji73⟩ : ∃ j_ : Int, (mx (wrap64 (a0_7 + ((rd_T23 l0_3 a1).f2))) 0) = j_ := ⟨_, rfl⟩
       replace H : ((set_With.f a0_9 a1).bind fun t121 => ((set_With.f a0_10 a1).bind fun t122 => (some (a1, a0_5, wrap64 (ji6 + ((rd_T23 l0_3 a1).f5)), ji73, a0_8, t121, t122, a0_11, true)))) = some (r1, r2, r3, r4, r5, r6, r7, r8, r9) := by first | (rw [hji73] at H; exact H) | (simp only [hji73] at H ⊢; exact H)
       have hji73_ : (if (wrap64 (a0_7 + ((rd_T23 l0_3 a1).f2))) < 0 then 0 else (wrap64 (a0_7 + ((rd_T23 l0_3 a1).f2)))) = ji73 := hji73
       replace H := Option.bind_eq_some_iff.mp H
       obtain ⟨t121, A740, H⟩ := H
       replace H : ((set_With.f a0_10 a1).bind fun t122 => (some (a1, a0_5, wrap64 (ji6 + ((rd_T23 l0_3 a1).f5)), ji73, a0_8, t121, t122, a0_11, true))) = some (r1, r2, r3, r4, r5, r6, r7, r8, r9) := H
       have A74 := zqi A740
       clear A740
       replace H := Option.bind_eq_some_iff.mp H
       obtain ⟨t122, A750, H⟩ := H
       replace H : (some (a1, a0_5, wrap64 (ji6 + ((rd_T23 l0_3 a1).f5)), ji73, a0_8, t121, t122, a0_11, true)) = some (r1, r2, r3, r4, r5, r6, r7, r8, r9) := H
       have A75 := zqi A750
       clear A750
       simp only [Option.some.injEq, Prod.mk.injEq] at H
       obtain ⟨rfl, rfl, rfl, rfl, rfl, rfl, rfl, rfl, rfl⟩ := H
       have hnb76 := NB115_112.out
       have hnc76 := NB112_115.out
       have hnb77 := NB115_113.out
       have hnc77 := NB113_115.out
       have hnb78 := NB115_116.out
       have hnc78 := NB116_115.out
       obtain ⟨hcz79_0, hcz79_1, hcz79_2, hcz79_3, hcz79_4, hcz79_5, hcz79_6, hcz79_7, hfz79_0, hfz79_1, hfz79_2, hfz79_3, hfz79_4, hfz79_5, hfz79_6, hfz79_7⟩ := zqz8 BK115.out
       try go_wp2
       have n0_ := zqi (zqb BK112.out)
       have n1_ := zqi (zqb BK113.out)
       have n2_ := zqi (zqb BK115.out)
       have n3_ := zqi (zqb BK116.out)
       have n4_ := zqi (zqh HB.out)
       clear BK112
       clear BK113
       clear BK115
       clear BK116
       clear HB
       have BK112 := n0_
       have BK113 := n1_
       have BK115 := n2_
       have BK116 := n3_
       have HB := n4_
       clear n0_ n1_ n2_ n3_ n4_
       refine start_ (n := 17) (S := fun w' => w'.cell? ⟨gb116, 0, none⟩ = some (.int .i64 ((rd_T23 l0_3 a1).f0)) ∧ w'.cell? ⟨gb116, 1, none⟩ = some (.int .i64 ((rd_T23 l0_3 a1).f1)) ∧ w'.cell? ⟨gb116, 2, none⟩ = some (.int .i64 ((rd_T23 l0_3 a1).f2)) ∧ w'.cell? ⟨gb116, 3, none⟩ = some (.int .i64 ((rd_T23 l0_3 a1).f3)) ∧ w'.cell? ⟨gb116, 4, none⟩ = some (.int .i64 ((rd_T23 l0_3 a1).f4)) ∧ w'.cell? ⟨gb116, 5, none⟩ = some (.int .i64 ((rd_T23 l0_3 a1).f5)) ∧ w'.cell? ⟨gb115, 3, none⟩ = some (.int .i64 a0_7)) (ds := [16]) (zqB 17 0) (by kernel_rfl) rfl rfl ⟨(zqe BK116.out 0).trans rfl, (zqe BK116.out 1).trans rfl, (zqe BK116.out 2).trans rfl, (zqe BK116.out 3).trans rfl, (zqe BK116.out 4).trans rfl, (zqe BK116.out 5).trans rfl, (zqe BK115.out 3).trans rfl⟩ (fun hHeld => ?_); refine with_tabW state_here_visit.tab7 state_here_visit.bits7 (fun HT_ HW_ => ?_)
       generalize wc.drew = w80 at BK112 BK113 BK115 BK116 HB hHeld ⊢
       refine zqp 0 (some 42) (zqB 17 1) (any_of HT_.out (by kernel_rfl)) (h := ?_)
       refine zqp 1 (some 43) (zqB 17 3) (any_of HT_.out (by kernel_rfl)) (h := ?_)
       refine zqp 2 (some 44) (zqB 17 7) (any_of HT_.out (by kernel_rfl)) (h := ?_)
       refine zqp 5 (some 47) (zqB 17 39) (any_of HT_.out (by kernel_rfl)) (h := ?_)
       refine zqp 7 (some 49) (zqB 17 167) (any_of HT_.out (by kernel_rfl)) (h := ?_)
       refine zqt 3 (some 45) (zqB 17 175) (take_ofW HT_.out HW_.out (by kernel_rfl)) hHeld (h := ?_)
       refine zqp 4 (some 46) (zqB 17 191) (any_of HT_.out (by kernel_rfl)) (h := ?_)
       refine zqt 6 (some 48) (zqB 17 255) (take_ofW HT_.out HW_.out (by kernel_rfl)) hHeld (h := ?_)
       refine zqp 11 (some 53) (zqB 17 2303) (any_of HT_.out (by kernel_rfl)) (h := ?_)
       refine zqt 8 (some 50) (zqB 17 2559) (take_ofW HT_.out HW_.out (by kernel_rfl)) hHeld (h := ?_)
       refine zqp 9 (some 51) (zqB 17 3071) (any_of HT_.out (by kernel_rfl)) (h := ?_)
       refine zqp 10 (some 52) (zqB 17 4095) (any_of HT_.out (by kernel_rfl)) (h := ?_)
       refine one_ (i := 12) (N := none) (zqB 17 8191) rfl rfl (one_of HT_.out (by kernel_rfl)) (by decide) (fun K hK => ?_)
       have hs81 : w80.cell? ⟨gb115, 0, none⟩ = some (.int .i64 a0_4) := (zqe BK115.out 0).trans rfl
       have hfs81 := zqd BK115.out 0
       have hns81_0 := NB112_115.out
       have hns81_1 := NB113_115.out
       have hns81_3 := NB116_115.out
       have hms81_0 := NB115_112.out
       have hms81_1 := NB115_113.out
       have hms81_3 := NB115_116.out
       refine skip_ (w1 := ?_) (by rfl) rfl ?_ ?_
       rotate_left
       ·
        go_simp
        rfl
       refine hK.out _ _ ⟨((zqk NB116_115.out).trans (hHeld.1)), ((zqk NB116_115.out).trans (hHeld.2.1)), ((zqk NB116_115.out).trans (hHeld.2.2.1)), ((zqk NB116_115.out).trans (hHeld.2.2.2.1)), ((zqk NB116_115.out).trans (hHeld.2.2.2.2.1)), ((zqk NB116_115.out).trans (hHeld.2.2.2.2.2.1)), (by have h_ := hHeld.2.2.2.2.2.2; first | (go_simp; done) | (go_simp; exact h_))⟩ (fun hHeld => ?_)
       clear hK K
       refine zqp 13 (some 54) (zqB 17 16383) (any_of HT_.out (by kernel_rfl)) (h := ?_)
       refine one_ (i := 14) (N := none) (zqB 17 32767) rfl rfl (one_of HT_.out (by kernel_rfl)) (by decide) (fun K hK => ?_)
       have hs82 : w80.cell? ⟨gb115, 2, none⟩ = some (.int .i64 a0_6) := (zqe BK115.out 2).trans rfl
       have hfs82 := zqd BK115.out 2
       have hns82_0 := NB112_115.out
       have hns82_1 := NB113_115.out
       have hns82_3 := NB116_115.out
       have hms82_0 := NB115_112.out
       have hms82_1 := NB115_113.out
       have hms82_3 := NB115_116.out
       refine skip_ (w1 := ?_) (by rfl) rfl ?_ ?_
       rotate_left
       ·
        go_simp
        rfl
       refine hK.out _ _ ⟨((zqk NB116_115.out).trans (hHeld.1)), ((zqk NB116_115.out).trans (hHeld.2.1)), ((zqk NB116_115.out).trans (hHeld.2.2.1)), ((zqk NB116_115.out).trans (hHeld.2.2.2.1)), ((zqk NB116_115.out).trans (hHeld.2.2.2.2.1)), ((zqk NB116_115.out).trans (hHeld.2.2.2.2.2.1)), (by have h_ := hHeld.2.2.2.2.2.2; first | (go_simp; done) | (go_simp; exact h_))⟩ (fun hHeld => ?_)
       clear hK K
       refine zqp 15 (some 55) (zqB 17 65535) (any_of HT_.out (by kernel_rfl)) (h := ?_)
       refine last_ (i := 16) (N := none) (zqB 17 131071) rfl rfl (one_of HT_.out (by kernel_rfl)) (by decide) (fun K hK => ?_)
       have hs83 : w80.cell? ⟨gb115, 3, none⟩ = some (.int .i64 a0_7) := (zqe BK115.out 3).trans rfl
       have hfs83 := zqd BK115.out 3
       have hns83_0 := NB112_115.out
       have hns83_1 := NB113_115.out
       have hns83_3 := NB116_115.out
       have hms83_0 := NB115_112.out
       have hms83_1 := NB115_113.out
       have hms83_3 := NB115_116.out
       refine skip_ (w1 := ?_) (by rfl) rfl ?_ ?_
       rotate_left
       ·
        go_simp
        rfl
       refine hK.out _ _ ?_
       clear hK K
       refine done_ (done_of HT_.out (by kernel_rfl)) ?_
       try go_wp2
       generalize hW_ : (((w80.setCell ⟨gb115, 0, none⟩ (.int .i64 a1)).setCell ⟨gb115, 2, none⟩ (.int .i64 (wrap64 (ji6 + ((rd_T23 l0_3 a1).f5))))).setCell ⟨gb115, 3, none⟩ (.int .i64 ji73)) = w84
       have n0_ : Aside0 (w84.heap[gb112]? = some (.cells #[.int .i64 a0_0, .int .i64 a0_1, .int .i64 a0_2, .slice (some ad114) l0_3.length c0_3, .int .i64 a0_4, .int .i64 a0_5, .int .i64 a0_6, .int .i64 a0_7, .int .i64 a0_8, .int .u64 a0_9, .int .u64 a0_10, .int .u64 a0_11] 69 (0, 0))) := ⟨by subst hW_; (repeat (with_reducible first | apply zqa | apply zqb | apply zqc | refine blk_far ?_ NB112_115.out _)); exact BK112.out⟩
       have n1_ : Aside0 (w84.heap[gb113]? = some (.cells #[.int .i64 0, .int .i64 0, .int .i64 0, .int .i64 0, .int .i64 0, .int .u64 0, .int .u64 0, .int .u64 0] 40 (0, 0))) := ⟨by subst hW_; (repeat (with_reducible first | apply zqa | apply zqb | apply zqc | refine blk_far ?_ NB113_115.out _)); exact BK113.out⟩
       have n2_ : Aside0 (w84.heap[gb115]? = some (.cells #[.int .i64 a1, .int .i64 a0_5, .int .i64 (wrap64 (ji6 + ((rd_T23 l0_3 a1).f5))), .int .i64 ji73, .int .i64 a0_8, .int .u64 a0_9, .int .u64 a0_10, .int .u64 a0_11] 40 (0, 0))) := ⟨by subst hW_; exact zqC (blk_set (blk_set (blk_set BK115.out 0 _) 2 _) 3 _) (by simp only [List.setIfInBounds_toArray, List.set_cons_zero, List.set_cons_succ])⟩
       have n3_ : Aside0 (w84.heap[gb116]? = some (.cells #[.int .i64 ((rd_T23 l0_3 a1).f0), .int .i64 ((rd_T23 l0_3 a1).f1), .int .i64 ((rd_T23 l0_3 a1).f2), .int .i64 ((rd_T23 l0_3 a1).f3), .int .i64 ((rd_T23 l0_3 a1).f4), .int .i64 ((rd_T23 l0_3 a1).f5)] 23 (0, 0))) := ⟨by subst hW_; (repeat (with_reducible first | apply zqa | apply zqb | apply zqc | refine blk_far ?_ NB116_115.out _)); exact BK116.out⟩
       have n4_ : Aside0 (Below w.heap.size w w84) := ⟨by subst hW_; repeat (first | (with_reducible first | exact HB.out | apply zqg | apply zqf | apply zqh | refine below_set ?_ GE112.out | refine below_set ?_ GE113.out | refine below_set ?_ GE115.out | refine below_set ?_ GE116.out) | exact HB.out)⟩
       clear hW_
       (try clear BK112)
       (try clear BK113)
       (try clear BK115)
       (try clear BK116)
       (try clear HB)
       have BK112 := n0_
       have BK113 := n1_
       have BK115 := n2_
       have BK116 := n3_
       have HB := n4_
       clear n0_ n1_ n2_ n3_ n4_
       have n0_ := zqi (zqb BK112.out)
       have n1_ := zqi (zqb BK113.out)
       have n2_ := zqi (zqb BK115.out)
       have n3_ := zqi (zqb BK116.out)
       have n4_ := zqi (zqh HB.out)
       clear BK112
       clear BK113
       clear BK115
       clear BK116
       clear HB
       have BK112 := n0_
       have BK113 := n1_
       have BK115 := n2_
       have BK116 := n3_
       have HB := n4_
       clear n0_ n1_ n2_ n3_ n4_
       refine start_ (n := 12) (S := fun w' => w'.cell? ⟨gb115, 5, none⟩ = some (.int .u64 a0_9) ∧ w'.cell? ⟨gb115, 6, none⟩ = some (.int .u64 a0_10)) (ds := [9, 11]) (zqB 12 0) (by kernel_rfl) rfl rfl ⟨(zqe BK115.out 5).trans rfl, (zqe BK115.out 6).trans rfl⟩ (fun hHeld => ?_); refine with_tabW state_here_visit.tab8 state_here_visit.bits8 (fun HT_ HW_ => ?_)
       generalize w84.drew = w85 at BK112 BK113 BK115 BK116 HB hHeld ⊢
       refine zqp 0 (some 56) (zqB 12 1) (any_of HT_.out (by kernel_rfl)) (h := ?_)
       refine zqp 2 (some 58) (zqB 12 5) (any_of HT_.out (by kernel_rfl)) (h := ?_)
       refine zqp 4 (some 60) (zqB 12 21) (any_of HT_.out (by kernel_rfl)) (h := ?_)
       refine zqp 6 (some 62) (zqB 12 85) (any_of HT_.out (by kernel_rfl)) (h := ?_)
       refine zqt 1 (some 57) (zqB 12 87) (take_ofW HT_.out HW_.out (by kernel_rfl)) hHeld (h := ?_)
       refine zqt 5 (some 61) (zqB 12 119) (take_ofW HT_.out HW_.out (by kernel_rfl)) hHeld (h := ?_)
       refine one_ (i := 3) (N := some 59) (zqB 12 127) rfl rfl (one_of HT_.out (by kernel_rfl)) (by decide) (fun K hK => ?_)
       refine goes_ Try.func71 (by kernel_rfl) rfl #[.int .u64 a0_9, .int .i64 a1] (by rfl) rfl rfl (by (try simp only [List.map_toArray, List.map_cons, List.map_nil]); first | done | rfl | (simp only [List.length_drop, List.length_take]; rfl)) ?_
       with_reducible refine (set_With.calls a0_9 a1 t121 _ A74.out).mono ?_
       rintro e w' ⟨rfl, ⟨nd, rfl⟩⟩
       refine ⟨_, rfl, ?_⟩
       refine hK.out _ _ ⟨(zqe BK115.out 5).trans rfl, (zqe BK115.out 6).trans rfl⟩ (fun hHeld => ?_)
       clear hK K
       refine norm_ (a' := ?_) ?_ ?_
       rotate_left
       ·
        show Act.put _ (some 59) _ = _
        simp only [Act.put, List.setIfInBounds_toArray, List.set_cons_zero, List.set_cons_succ, i64_w, i32_w]
        rfl
       refine zqp 8 (some 64) (zqB 12 383) (any_of HT_.out (by kernel_rfl)) (h := ?_)
       refine one_ (i := 7) (N := some 63) (zqB 12 511) rfl rfl (one_of HT_.out (by kernel_rfl)) (by decide) (fun K hK => ?_)
       refine goes_ Try.func71 (by kernel_rfl) rfl #[.int .u64 a0_10, .int .i64 a1] (by rfl) rfl rfl (by (try simp only [List.map_toArray, List.map_cons, List.map_nil]); first | done | rfl | (simp only [List.length_drop, List.length_take]; rfl)) ?_
       with_reducible refine (set_With.calls a0_10 a1 t122 _ A75.out).mono ?_
       rintro e w' ⟨rfl, ⟨nd, rfl⟩⟩
       refine ⟨_, rfl, ?_⟩
       refine hK.out _ _ ⟨(zqe BK115.out 5).trans rfl, (zqe BK115.out 6).trans rfl⟩ (fun hHeld => ?_)
       clear hK K
       refine norm_ (a' := ?_) ?_ ?_
       rotate_left
       ·
        show Act.put _ (some 63) _ = _
        simp only [Act.put, List.setIfInBounds_toArray, List.set_cons_zero, List.set_cons_succ, i64_w, i32_w]
        rfl
       refine last_ (i := 9) (N := none) (zqB 12 1023) rfl rfl (one_of HT_.out (by kernel_rfl)) (by decide) (fun K hK => ?_)
       have hs86 : w85.cell? ⟨gb115, 5, none⟩ = some (.int .u64 a0_9) := (zqe BK115.out 5).trans rfl
       have hfs86 := zqd BK115.out 5
       have hns86_0 := NB112_115.out
       have hns86_1 := NB113_115.out
       have hns86_3 := NB116_115.out
       have hms86_0 := NB115_112.out
       have hms86_1 := NB115_113.out
       have hms86_3 := NB115_116.out
       refine skip_ (w1 := ?_) (by rfl) rfl ?_ ?_
       rotate_left
       ·
        go_simp
        rfl
       refine hK.out _ _ ?_
       clear hK K
       refine zqp 10 (some 65) (zqB 12 2047) (any_of HT_.out (by kernel_rfl)) (h := ?_)
       refine last_ (i := 11) (N := none) (zqB 12 4095) rfl rfl (one_of HT_.out (by kernel_rfl)) (by decide) (fun K hK => ?_)
       have hs87 : w85.cell? ⟨gb115, 6, none⟩ = some (.int .u64 a0_10) := (zqe BK115.out 6).trans rfl
       have hfs87 := zqd BK115.out 6
       have hns87_0 := NB112_115.out
       have hns87_1 := NB113_115.out
       have hns87_3 := NB116_115.out
       have hms87_0 := NB115_112.out
       have hms87_1 := NB115_113.out
       have hms87_3 := NB115_116.out
       refine skip_ (w1 := ?_) (by rfl) rfl ?_ ?_
       rotate_left
       ·
        go_simp
        rfl
       refine hK.out _ _ ?_
       clear hK K
       refine done_ (done_of HT_.out (by kernel_rfl)) ?_
       obtain ⟨hcz88_0, hcz88_1, hcz88_2, hcz88_3, hcz88_4, hcz88_5, hcz88_6, hcz88_7, hfz88_0, hfz88_1, hfz88_2, hfz88_3, hfz88_4, hfz88_5, hfz88_6, hfz88_7⟩ := zqz8 BK115.out
       have hnb89 := NB113_112.out
       have hnc89 := NB112_113.out
       have hnb90 := NB113_116.out
       have hnc90 := NB116_113.out
       obtain ⟨hcz91_0, hcz91_1, hcz91_2, hcz91_3, hcz91_4, hcz91_5, hcz91_6, hcz91_7, hfz91_0, hfz91_1, hfz91_2, hfz91_3, hfz91_4, hfz91_5, hfz91_6, hfz91_7⟩ := zqz8 BK113.out
       try go_wp2
       refine bodyPost_ret (results_ct rfl _ _ gb113 40 #[.int .i64 a1, .int .i64 a0_5, .int .i64 (wrap64 (ji6 + ((rd_T23 l0_3 a1).f5))), .int .i64 ji73, .int .i64 a0_8, .int .u64 t121, .int .u64 t122, .int .u64 a0_11] (0, 0) _ rfl (by exact zqC (blk_set (blk_set (blk_set (blk_set (blk_set (blk_set (blk_set (blk_set (blk_far (blk_far BK113.out NB113_115.out _) NB113_115.out _) 0 _) 1 _) 2 _) 3 _) 4 _) 5 _) 6 _) 7 _) (by simp only [List.setIfInBounds_toArray, List.set_cons_zero, List.set_cons_succ])) Try.underlying40 rfl (by kernel_rfl)) rfl ?_
       exact ⟨by first | rfl | (simp [errW_none, errW_some] <;> rfl) | (simp only [← hji6, ← hji73]; first | rfl | (simp [errW_none, errW_some] <;> rfl)) | (simp [*, errW_none, errW_some] <;> rfl), by repeat (first | (with_reducible first | exact HB.out | apply zqg | apply zqf | apply zqh | refine below_set ?_ GE112.out | refine below_set ?_ GE113.out | refine below_set ?_ GE115.out | refine below_set ?_ GE116.out) | exact HB.out)⟩
  ·
   rw [if_neg c4] at H
   exact absurd H (by simp)
 ·
  rw [if_neg c3] at H
  exact absurd H (by simp)

end Go.Proofs.Ytjiammiihamkiaa.PC
