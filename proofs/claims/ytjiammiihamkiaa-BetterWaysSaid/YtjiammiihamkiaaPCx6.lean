-- Printed for this claim by wip/tools/xprint.py over the kit's print; the contracts marked BY HAND are this session's own.
import Derived.Test.YtjiammiihamkiaaPCx0
import Derived.Test.YtjiammiihamkiaaPCx3
import Derived.Test.YtjiammiihamkiaaPCx5
namespace Go.Proofs.Ytjiammiihamkiaa.PC
open Go.RowKit Go.Proofs.YtjiammiihamkiaaW.PrintWords Go.Proofs.YtjiammiihamkiaaW.PrintLast Go.Proofs.YtjiammiihamkiaaW.PrintMore
attribute [local go_sem] max2_int min2_int max_two min_two max_three min_three max_four min_four   -- for this text's walks alone
set_option linter.unusedVariables false
set_option linter.unusedSimpArgs false

/-! ### state_here_home: function 53 -/
def state_here_home.f (k : Nat) (a0_0 : Int) (a0_1 : Int) (a0_2 : Int) (l0_3 : List (S23)) (a0_4 : Int) (a0_5 : Int) (a0_6 : Int) (a0_7 : Int) (a0_8 : Int) (a0_9 : Int) (a0_10 : Int) (a0_11 : Int) (a1 : Int) : Option (Int × Int × Int × Int × Int × Int × Int × Int × Bool) := if a0_4 = 0 then (some (a0_4, a0_5, a0_6, a0_7, a0_8, a0_9, a0_10, a0_11, false)) else (if a0_11 = 0 then (if a0_5 ≥ a0_1 then (some (a0_4, a0_5, a0_6, a0_7, a0_8, a0_9, a0_10, a0_11, false)) else ((state_here_all.f k a0_0 a0_1 a0_2 l0_3 a0_4 a0_5 a0_6 a0_7 a0_8 a0_9 a0_10 a0_11 a0_9).bind fun t145 => (if t145 = true then (some (a0_4, a0_5, a0_6, a0_7, a0_8, a0_9, a0_10, a0_11, false)) else ((state_here_far.f a0_0 a0_1 a0_2 l0_3 a0_4 a0_5 a0_6 a0_7 a0_8 a0_9 a0_10 a0_11 0).bind fun t146 => (if 0 < (l0_3.length : Int) then (if (wrap64 (a0_6 + t146)) > ((rd_T23 l0_3 0).f4) then (some (a0_4, a0_5, a0_6, a0_7, a0_8, a0_9, a0_10, a0_11, false)) else (some (0, wrap64 (a0_5 + 1), (rd_T23 l0_3 0).f3, 0, a0_8, a0_9, a0_10, a0_11, true))) else (none)))))) else (some (a0_4, a0_5, a0_6, a0_7, a0_8, a0_9, a0_10, a0_11, false)))
theorem state_here_home.mono : ∀ a0 a1 a2 a3 a4 a5 a6 a7 a8 a9 a10 a11 a12 k, LeO (state_here_home.f k a0 a1 a2 a3 a4 a5 a6 a7 a8 a9 a10 a11 a12) (state_here_home.f (k + 1) a0 a1 a2 a3 a4 a5 a6 a7 a8 a9 a10 a11 a12) := by
  intro a0 a1 a2 a3 a4 a5 a6 a7 a8 a9 a10 a11 a12 k
  unfold state_here_home.f
  repeat' first
      | (with_reducible exact state_here_all.mono _ _ _ _ _ _ _ _ _ _ _ _ _ _)
      | (with_reducible exact LeO.refl _)
      | (with_reducible exact LeO.none _)
      | (with_reducible refine LeO.ite ?_ ?_)
      | (with_reducible refine LeO.bind ?_ (fun _ => ?_))
      | exact state_here_all.mono _ _ _ _ _ _ _ _ _ _ _ _ _ _
      | exact LeO.none _
      | refine LeO.ite ?_ ?_
      | refine LeO.bind ?_ (fun _ => ?_)
def state_here_home.T2 : Bool × List (List Nat × List Nat) := (true, [([], []), ([0], [0]), ([1], [1]), ([2], [2]), ([3], [3]), ([4, 3], [3, 4]), ([5, 3], [3, 5]), ([3, 6], [3, 6]), ([7, 3], [7]), ([8], [8]), ([9, 8], [8, 9]), ([8], [8]), ([11, 8], [8, 11]), ([12, 8], [8, 12]), ([10, 13, 8], [8, 10, 13]), ([8, 14], [8, 14]), ([15, 8], [15]), ([16], [16]), ([16], [16]), ([18, 16], [16, 18]), ([17, 19, 16, 16], [16, 17, 19]), ([16, 20], [16, 20]), ([21, 20], [21]), ([22], [22]), ([23, 22], [22, 23]), ([22], [22]), ([25, 22, 22], [22, 25]), ([24, 26, 22], [22, 24, 26]), ([22], [22]), ([28, 22], [22, 28]), ([29, 22], [22, 29]), ([30, 22], [22, 30]), ([31, 22], [22, 31]), ([32, 22], [22, 32]), ([27, 33, 22], [22, 27, 33]), ([22, 34], [22, 34])])
def state_here_home.B2 : List Nat := [0, 1, 3, 7, 15, 31, 63, 127, 255, 511, 1023, 511, 2559, 6655, 16383, 32767, 65535, 131071, 131071, 393215, 1048575, 2097151, 4194303, 8388607, 16777215, 8388607, 41943039, 134217727, 8388607, 276824063, 813694975, 1887436799, 4034920447, 8329887743, 17179869183, 34359738367]
theorem state_here_home.tab2 : rtab .any (opsOf Try.f53 2) = state_here_home.T2 := by kernel_rfl
theorem state_here_home.bits2 : waitsOk state_here_home.T2.2 state_here_home.B2 = true := by kernel_rfl
def state_here_home.T4 : Bool × List (List Nat × List Nat) := (true, [([], []), ([0], [0]), ([1], [1]), ([], []), ([3], [3]), ([4], [4]), ([5], [5]), ([6], [6]), ([7], [7]), ([0, 1], []), ([9, 0, 1], [9]), ([0, 1, 2, 9, 10], []), ([11, 2, 10, 0, 1, 2, 9, 10], [2, 11]), ([0, 1, 2, 3, 4, 5, 6, 7, 8, 9, 10, 11, 12], []), ([13, 8, 12, 0, 1, 2, 3, 4, 5, 6, 7, 8, 9, 10, 11, 12], [8, 13]), ([0, 1, 2, 3, 4, 5, 6, 7, 8, 9, 10, 11, 12, 13, 14], []), ([15, 14, 0, 1, 2, 3, 4, 5, 6, 7, 8, 9, 10, 11, 12, 13, 14], [15])])
def state_here_home.B4 : List Nat := [0, 1, 3, 0, 8, 24, 56, 120, 248, 3, 515, 1543, 3591, 8191, 16383, 32767, 65535]
theorem state_here_home.tab4 : rtab .any (opsOf Try.f53 4) = state_here_home.T4 := by kernel_rfl
theorem state_here_home.bits4 : waitsOk state_here_home.T4.2 state_here_home.B4 = true := by kernel_rfl
set_option maxHeartbeats 16000000 in
set_option maxRecDepth 100000 in
theorem state_here_home.calls (k : Nat) (a0_0 : Int) (a0_1 : Int) (a0_2 : Int) (A0_3 : Option Addr) (c0_3 : Nat) (l0_3 : List (S23)) (a0_4 : Int) (a0_5 : Int) (a0_6 : Int) (a0_7 : Int) (a0_8 : Int) (a0_9 : Int) (a0_10 : Int) (a0_11 : Int) (a1 : Int) (r1 : Int) (r2 : Int) (r3 : Int) (r4 : Int) (r5 : Int) (r6 : Int) (r7 : Int) (r8 : Int) (r9 : Bool) (w : World) (hr0_3 : Kd.C k23 w A0_3 l0_3.length l0_3) (hc0_3 : l0_3.length ≤ c0_3) (h : state_here_home.f k a0_0 a0_1 a0_2 l0_3 a0_4 a0_5 a0_6 a0_7 a0_8 a0_9 a0_10 a0_11 a1 = some (r1, r2, r3, r4, r5, r6, r7, r8, r9)) :
  Calls Try.prog 53 #[.agg #[.int .i64 a0_0, .int .i64 a0_1, .int .i64 a0_2, .slice A0_3 l0_3.length c0_3, .int .i64 a0_4, .int .i64 a0_5, .int .i64 a0_6, .int .i64 a0_7, .int .i64 a0_8, .int .u64 a0_9, .int .u64 a0_10, .int .u64 a0_11], .int .i64 a1] w fun e w' => e = .returned (.tuple #[.agg #[.int .i64 r1, .int .i64 r2, .int .i64 r3, .int .i64 r4, .int .i64 r5, .int .u64 r6, .int .u64 r7, .int .u64 r8], .bool r9]) ∧ Below w.heap.size w w' := by
 have hu69 := Try.underlying69
 have hu40 := Try.underlying40
 have HR0_3 := zqi hr0_3
 have HC0_3 := zqi hc0_3
 clear hr0_3 hc0_3
 have HB := zqi (Below.refl w.heap.size w)
 have H : (if a0_4 = 0 then (some (a0_4, a0_5, a0_6, a0_7, a0_8, a0_9, a0_10, a0_11, false)) else (if a0_11 = 0 then (if a0_5 ≥ a0_1 then (some (a0_4, a0_5, a0_6, a0_7, a0_8, a0_9, a0_10, a0_11, false)) else ((state_here_all.f k a0_0 a0_1 a0_2 l0_3 a0_4 a0_5 a0_6 a0_7 a0_8 a0_9 a0_10 a0_11 a0_9).bind fun t145 => (if t145 = true then (some (a0_4, a0_5, a0_6, a0_7, a0_8, a0_9, a0_10, a0_11, false)) else ((state_here_far.f a0_0 a0_1 a0_2 l0_3 a0_4 a0_5 a0_6 a0_7 a0_8 a0_9 a0_10 a0_11 0).bind fun t146 => (if 0 < (l0_3.length : Int) then (if (wrap64 (a0_6 + t146)) > ((rd_T23 l0_3 0).f4) then (some (a0_4, a0_5, a0_6, a0_7, a0_8, a0_9, a0_10, a0_11, false)) else (some (0, wrap64 (a0_5 + 1), (rd_T23 l0_3 0).f3, 0, a0_8, a0_9, a0_10, a0_11, true))) else (none)))))) else (some (a0_4, a0_5, a0_6, a0_7, a0_8, a0_9, a0_10, a0_11, false)))) = some (r1, r2, r3, r4, r5, r6, r7, r8, r9) := h
 clear h
 by_cases c3 : a0_4 = 0
 ·
  rw [if_pos c3] at H
  have c3b0 : (a0_4 == 0) = true := beq_iff_eq.mpr c3
  have c3b1 : (a0_4 != 0) = false := bne_eq_false_iff_eq.mpr c3
  clear c3
  simp only [Option.some.injEq, Prod.mk.injEq] at H
  obtain ⟨rfl, rfl, rfl, rfl, rfl, rfl, rfl, rfl, rfl⟩ := H
  go_enter Try.func53, Try.ntmps53
  try go_wp2_with (first | ((with_reducible refine gate_dst (N := 2) rfl ?_); refine box_event ?hg (N := 2) ?hd (cs := #[.int .i64 a0_0, .int .i64 a0_1, .int .i64 a0_2, .slice A0_3 l0_3.length c0_3, .int .i64 a0_4, .int .i64 a0_5, .int .i64 a0_6, .int .i64 a0_7, .int .i64 a0_8, .int .u64 a0_9, .int .u64 a0_10, .int .u64 a0_11]) (t := 69) ?hr ?_; (case hd => rfl); (case hg => rfl); (case hr => first | (go_simp; done) | (go_simp; rfl)); intro gb142 hg w4 hbox hb; have n0_ := zqi (below_step (zqn HB.out) hb); have n1_ := zqi (hbox); have n2_ := zqi (zqo hg HB.out); have n3_ := zqi (zqo hg HB.out); clear HB; have HB := n0_; have BK142 := n1_; have GW142 := n2_; have GE142 := n3_; clear n0_ n1_ n2_ n3_; clear hb hbox hg) | ((with_reducible refine gate_dst (N := 4) rfl ?_); refine box_event ?hg (N := 4) ?hd (cs := #[.int .i64 0, .int .i64 0, .int .i64 0, .int .i64 0, .int .i64 0, .int .u64 0, .int .u64 0, .int .u64 0]) (t := 40) ?hr ?_; (case hd => rfl); (case hg => rfl); (case hr => first | (go_simp; done) | (go_simp; rfl)); intro gb143 hg w5 hbox hb; have n0_ := zqi (zqy BK142.out hb); have n1_ := zqi (below_step (zqn HB.out) hb); have n2_ := zqi (hbox); have n3_ := zqi (zqo hg HB.out); have n4_ := zqi (zqo hg HB.out); have n5_ := zqi ((zqq hg BK142.out)); have n6_ := zqi ((zqr hg BK142.out)); clear BK142; clear HB; have BK142 := n0_; have HB := n1_; have BK143 := n2_; have GW143 := n3_; have GE143 := n4_; have NB142_143 := n5_; have NB143_142 := n6_; clear n0_ n1_ n2_ n3_ n4_ n5_ n6_; clear hb hbox hg; have hnb6 := NB142_143.out; have hnc6 := NB143_142.out; obtain ⟨hcz7_0, hcz7_1, hcz7_2, hcz7_3, hcz7_4, hcz7_5, hcz7_6, hcz7_7, hcz7_8, hcz7_9, hcz7_10, hcz7_11, hfz7_0, hfz7_1, hfz7_2, hfz7_3, hfz7_4, hfz7_5, hfz7_6, hfz7_7, hfz7_8, hfz7_9, hfz7_10, hfz7_11⟩ := zqz12 BK142.out) | ((with_reducible refine gate_dst (N := 6) rfl ?_); refine box_event ?hg (N := 6) ?hd (cs := #[.int .i64 0, .int .i64 0, .int .i64 0, .int .i64 0, .int .i64 0, .int .u64 0, .int .u64 0, .int .u64 0]) (t := 40) ?hr ?_; (case hd => rfl); (case hg => rfl); (case hr => first | (go_simp; done) | (go_simp; rfl)); intro gb144 hg w8 hbox hb; have n0_ := zqi (zqy BK142.out hb); have n1_ := zqi (zqy BK143.out hb); have n2_ := zqi (below_step (zqn HB.out) hb); have n3_ := zqi (hbox); have n4_ := zqi (zqo hg HB.out); have n5_ := zqi (zqo hg HB.out); have n6_ := zqi ((zqq hg BK142.out)); have n7_ := zqi ((zqr hg BK142.out)); have n8_ := zqi ((zqq hg BK143.out)); have n9_ := zqi ((zqr hg BK143.out)); clear BK142; clear BK143; clear HB; have BK142 := n0_; have BK143 := n1_; have HB := n2_; have BK144 := n3_; have GW144 := n4_; have GE144 := n5_; have NB142_144 := n6_; have NB144_142 := n7_; have NB143_144 := n8_; have NB144_143 := n9_; clear n0_ n1_ n2_ n3_ n4_ n5_ n6_ n7_ n8_ n9_; clear hb hbox hg; have hnb9 := NB144_142.out; have hnc9 := NB142_144.out; have hnb10 := NB144_143.out; have hnc10 := NB143_144.out; obtain ⟨hcz11_0, hcz11_1, hcz11_2, hcz11_3, hcz11_4, hcz11_5, hcz11_6, hcz11_7, hfz11_0, hfz11_1, hfz11_2, hfz11_3, hfz11_4, hfz11_5, hfz11_6, hfz11_7⟩ := zqz8 BK144.out))
  generalize hW_ : ((((((((w8.setCell ⟨gb144, 0, none⟩ (.int .i64 a0_4)).setCell ⟨gb144, 1, none⟩ (.int .i64 a0_5)).setCell ⟨gb144, 2, none⟩ (.int .i64 a0_6)).setCell ⟨gb144, 3, none⟩ (.int .i64 a0_7)).setCell ⟨gb144, 4, none⟩ (.int .i64 a0_8)).setCell ⟨gb144, 5, none⟩ (.int .u64 a0_9)).setCell ⟨gb144, 6, none⟩ (.int .u64 a0_10)).setCell ⟨gb144, 7, none⟩ (.int .u64 a0_11)) = w12
  have n0_ : Aside0 (w12.heap[gb142]? = some (.cells #[.int .i64 a0_0, .int .i64 a0_1, .int .i64 a0_2, .slice A0_3 l0_3.length c0_3, .int .i64 a0_4, .int .i64 a0_5, .int .i64 a0_6, .int .i64 a0_7, .int .i64 a0_8, .int .u64 a0_9, .int .u64 a0_10, .int .u64 a0_11] 69 (0, 0))) := ⟨by subst hW_; (repeat (with_reducible first | apply zqa | apply zqb | apply zqc | refine blk_far ?_ NB142_144.out _)); exact BK142.out⟩
  have n1_ : Aside0 (w12.heap[gb143]? = some (.cells #[.int .i64 0, .int .i64 0, .int .i64 0, .int .i64 0, .int .i64 0, .int .u64 0, .int .u64 0, .int .u64 0] 40 (0, 0))) := ⟨by subst hW_; (repeat (with_reducible first | apply zqa | apply zqb | apply zqc | refine blk_far ?_ NB143_144.out _)); exact BK143.out⟩
  have n2_ : Aside0 (w12.heap[gb144]? = some (.cells #[.int .i64 a0_4, .int .i64 a0_5, .int .i64 a0_6, .int .i64 a0_7, .int .i64 a0_8, .int .u64 a0_9, .int .u64 a0_10, .int .u64 a0_11] 40 (0, 0))) := ⟨by subst hW_; exact zqC (blk_set (blk_set (blk_set (blk_set (blk_set (blk_set (blk_set (blk_set BK144.out 0 _) 1 _) 2 _) 3 _) 4 _) 5 _) 6 _) 7 _) (by simp only [List.setIfInBounds_toArray, List.set_cons_zero, List.set_cons_succ])⟩
  have n3_ : Aside0 (Below w.heap.size w w12) := ⟨by subst hW_; repeat (first | (with_reducible first | exact HB.out | apply zqg | apply zqf | apply zqh | refine below_set ?_ GE142.out | refine below_set ?_ GE143.out | refine below_set ?_ GE144.out) | exact HB.out)⟩
  clear hW_
  (try clear BK142)
  (try clear BK143)
  (try clear BK144)
  (try clear HB)
  have BK142 := n0_
  have BK143 := n1_
  have BK144 := n2_
  have HB := n3_
  clear n0_ n1_ n2_ n3_
  have n0_ := zqi (zqb BK142.out)
  have n1_ := zqi (zqb BK143.out)
  have n2_ := zqi (zqb BK144.out)
  have n3_ := zqi (zqh HB.out)
  clear BK142
  clear BK143
  clear BK144
  clear HB
  have BK142 := n0_
  have BK143 := n1_
  have BK144 := n2_
  have HB := n3_
  clear n0_ n1_ n2_ n3_
  refine start_ (n := 36) (S := fun w' => w'.cell? ⟨gb144, 0, none⟩ = some (.int .i64 a0_4) ∧ w'.cell? ⟨gb144, 1, none⟩ = some (.int .i64 a0_5) ∧ w'.cell? ⟨gb144, 2, none⟩ = some (.int .i64 a0_6) ∧ w'.cell? ⟨gb144, 3, none⟩ = some (.int .i64 a0_7) ∧ w'.cell? ⟨gb144, 4, none⟩ = some (.int .i64 a0_8) ∧ w'.cell? ⟨gb144, 5, none⟩ = some (.int .u64 a0_9) ∧ w'.cell? ⟨gb144, 6, none⟩ = some (.int .u64 a0_10) ∧ w'.cell? ⟨gb144, 7, none⟩ = some (.int .u64 a0_11)) (ds := []) (zqB 36 0) (by kernel_rfl) rfl rfl ⟨(zqe BK144.out 0).trans rfl, (zqe BK144.out 1).trans rfl, (zqe BK144.out 2).trans rfl, (zqe BK144.out 3).trans rfl, (zqe BK144.out 4).trans rfl, (zqe BK144.out 5).trans rfl, (zqe BK144.out 6).trans rfl, (zqe BK144.out 7).trans rfl⟩ (fun hHeld => ?_); refine with_tabW state_here_home.tab2 state_here_home.bits2 (fun HT_ HW_ => ?_)
  generalize w12.drew = w13 at BK142 BK143 BK144 HB hHeld ⊢
  refine zqp 0 (some 9) (zqB 36 1) (any_of HT_.out (by kernel_rfl)) (h := ?_)
  refine zqt 1 (some 10) (zqB 36 3) (take_ofW HT_.out HW_.out (by kernel_rfl)) hHeld (h := ?_)
  refine zqp 2 (some 11) (zqB 36 7) (any_of HT_.out (by kernel_rfl)) (h := ?_)
  refine zqp 3 (some 12) (zqB 36 15) (any_of HT_.out (by kernel_rfl)) (h := ?_)
  refine zqu 4 (some 13) (zqB 36 31) (any_of HT_.out (by kernel_rfl)) (h := ?_)
  refine zqu 5 (some 14) (zqB 36 63) (any_of HT_.out (by kernel_rfl)) (h := ?_)
  refine zqu 6 (some 15) (zqB 36 127) (any_of HT_.out (by kernel_rfl)) (h := ?_)
  refine zqp 7 (some 16) (zqB 36 255) (any_of HT_.out (by kernel_rfl)) (h := ?_)
  refine zqp 8 (some 17) (zqB 36 511) (any_of HT_.out (by kernel_rfl)) (h := ?_)
  refine zqu 9 (some 18) (zqB 36 1023) (any_of HT_.out (by kernel_rfl)) (h := ?_)
  refine zqu 10 (some 19) (zqB 36 2047) (any_of HT_.out (by kernel_rfl)) (h := ?_)
  refine zqu 11 (some 20) (zqB 36 4095) (any_of HT_.out (by kernel_rfl)) (h := ?_)
  refine zqu 12 (some 21) (zqB 36 8191) (any_of HT_.out (by kernel_rfl)) (h := ?_)
  refine zqu 13 (some 22) (zqB 36 16383) (any_of HT_.out (by kernel_rfl)) (h := ?_)
  refine zqu 14 (some 23) (zqB 36 32767) (any_of HT_.out (by kernel_rfl)) (h := ?_)
  refine zqp 15 (some 24) (zqB 36 65535) (any_of HT_.out (by kernel_rfl)) (h := ?_)
  refine zqp 16 (some 25) (zqB 36 131071) (any_of HT_.out (by kernel_rfl)) (h := ?_)
  refine zqu 17 (some 26) (zqB 36 262143) (any_of HT_.out (by kernel_rfl)) (h := ?_)
  refine zqu 18 (some 27) (zqB 36 524287) (any_of HT_.out (by kernel_rfl)) (h := ?_)
  refine zqu 19 (some 28) (zqB 36 1048575) (any_of HT_.out (by kernel_rfl)) (h := ?_)
  refine zqu 20 (some 29) (zqB 36 2097151) (any_of HT_.out (by kernel_rfl)) (h := ?_)
  refine zqp 21 (some 30) (zqB 36 4194303) (any_of HT_.out (by kernel_rfl)) (h := ?_)
  refine zqp 22 (some 31) (zqB 36 8388607) (any_of HT_.out (by kernel_rfl)) (h := ?_)
  refine zqu 23 (some 32) (zqB 36 16777215) (any_of HT_.out (by kernel_rfl)) (h := ?_)
  refine zqu 24 (some 33) (zqB 36 33554431) (any_of HT_.out (by kernel_rfl)) (h := ?_)
  refine zqu 25 (some 34) (zqB 36 67108863) (any_of HT_.out (by kernel_rfl)) (h := ?_)
  refine zqu 26 (some 35) (zqB 36 134217727) (any_of HT_.out (by kernel_rfl)) (h := ?_)
  refine zqu 27 (some 36) (zqB 36 268435455) (any_of HT_.out (by kernel_rfl)) (h := ?_)
  refine zqu 28 (some 37) (zqB 36 536870911) (any_of HT_.out (by kernel_rfl)) (h := ?_)
  refine zqu 29 (some 38) (zqB 36 1073741823) (any_of HT_.out (by kernel_rfl)) (h := ?_)
  refine zqu 30 (some 39) (zqB 36 2147483647) (any_of HT_.out (by kernel_rfl)) (h := ?_)
  refine zqu 31 (some 40) (zqB 36 4294967295) (any_of HT_.out (by kernel_rfl)) (h := ?_)
  refine zqu 32 (some 41) (zqB 36 8589934591) (any_of HT_.out (by kernel_rfl)) (h := ?_)
  refine zqu 33 (some 42) (zqB 36 17179869183) (any_of HT_.out (by kernel_rfl)) (h := ?_)
  refine zqu 34 (some 43) (zqB 36 34359738367) (any_of HT_.out (by kernel_rfl)) (h := ?_)
  refine zqp 35 (some 44) (zqB 36 68719476735) (any_of HT_.out (by kernel_rfl)) (h := ?_)
  refine done_ (done_of HT_.out (by kernel_rfl)) ?_
  obtain ⟨hcz14_0, hcz14_1, hcz14_2, hcz14_3, hcz14_4, hcz14_5, hcz14_6, hcz14_7, hfz14_0, hfz14_1, hfz14_2, hfz14_3, hfz14_4, hfz14_5, hfz14_6, hfz14_7⟩ := zqz8 BK144.out
  obtain ⟨hcz15_0, hcz15_1, hcz15_2, hcz15_3, hcz15_4, hcz15_5, hcz15_6, hcz15_7, hfz15_0, hfz15_1, hfz15_2, hfz15_3, hfz15_4, hfz15_5, hfz15_6, hfz15_7⟩ := zqz8 BK143.out
  try go_wp2
  refine bodyPost_ret (results_ct rfl _ _ gb143 40 #[.int .i64 a0_4, .int .i64 a0_5, .int .i64 a0_6, .int .i64 a0_7, .int .i64 a0_8, .int .u64 a0_9, .int .u64 a0_10, .int .u64 a0_11] (0, 0) _ rfl (by exact zqC (blk_set (blk_set (blk_set (blk_set (blk_set (blk_set (blk_set (blk_set BK143.out 0 _) 1 _) 2 _) 3 _) 4 _) 5 _) 6 _) 7 _) (by simp only [List.setIfInBounds_toArray, List.set_cons_zero, List.set_cons_succ])) Try.underlying40 rfl (by kernel_rfl)) rfl ?_
  exact ⟨by first | rfl | (simp [errW_none, errW_some] <;> rfl) | (simp [*, errW_none, errW_some] <;> rfl), by repeat (first | (with_reducible first | exact HB.out | apply zqg | apply zqf | apply zqh | refine below_set ?_ GE142.out | refine below_set ?_ GE143.out | refine below_set ?_ GE144.out) | exact HB.out)⟩
 ·
  rw [if_neg c3] at H
  have c3b0 : (a0_4 == 0) = false := beq_eq_false_iff_ne.mpr c3
  have c3b1 : (a0_4 != 0) = true := bne_iff_ne.mpr c3
  by_cases c16 : a0_11 = 0
  ·
   rw [if_pos c16] at H
   have c16b0 : (a0_11 == 0) = true := beq_iff_eq.mpr c16
   have c16b1 : (a0_11 != 0) = false := bne_eq_false_iff_eq.mpr c16
   clear c16
   by_cases c17 : a0_5 ≥ a0_1
   ·
    rw [if_pos c17] at H
    have c17b0 : decide (a0_1 ≤ a0_5) = true := decide_eq_true c17
    clear c17
    simp only [Option.some.injEq, Prod.mk.injEq] at H
    obtain ⟨rfl, rfl, rfl, rfl, rfl, rfl, rfl, rfl, rfl⟩ := H
    go_enter Try.func53, Try.ntmps53
    try go_wp2_with (first | ((with_reducible refine gate_dst (N := 2) rfl ?_); refine box_event ?hg (N := 2) ?hd (cs := #[.int .i64 a0_0, .int .i64 a0_1, .int .i64 a0_2, .slice A0_3 l0_3.length c0_3, .int .i64 a0_4, .int .i64 a0_5, .int .i64 a0_6, .int .i64 a0_7, .int .i64 a0_8, .int .u64 a0_9, .int .u64 a0_10, .int .u64 a0_11]) (t := 69) ?hr ?_; (case hd => rfl); (case hg => rfl); (case hr => first | (go_simp; done) | (go_simp; rfl)); intro gb142 hg w18 hbox hb; have n0_ := zqi (below_step (zqn HB.out) hb); have n1_ := zqi (hbox); have n2_ := zqi (zqo hg HB.out); have n3_ := zqi (zqo hg HB.out); clear HB; have HB := n0_; have BK142 := n1_; have GW142 := n2_; have GE142 := n3_; clear n0_ n1_ n2_ n3_; clear hb hbox hg) | ((with_reducible refine gate_dst (N := 4) rfl ?_); refine box_event ?hg (N := 4) ?hd (cs := #[.int .i64 0, .int .i64 0, .int .i64 0, .int .i64 0, .int .i64 0, .int .u64 0, .int .u64 0, .int .u64 0]) (t := 40) ?hr ?_; (case hd => rfl); (case hg => rfl); (case hr => first | (go_simp; done) | (go_simp; rfl)); intro gb143 hg w19 hbox hb; have n0_ := zqi (zqy BK142.out hb); have n1_ := zqi (below_step (zqn HB.out) hb); have n2_ := zqi (hbox); have n3_ := zqi (zqo hg HB.out); have n4_ := zqi (zqo hg HB.out); have n5_ := zqi ((zqq hg BK142.out)); have n6_ := zqi ((zqr hg BK142.out)); clear BK142; clear HB; have BK142 := n0_; have HB := n1_; have BK143 := n2_; have GW143 := n3_; have GE143 := n4_; have NB142_143 := n5_; have NB143_142 := n6_; clear n0_ n1_ n2_ n3_ n4_ n5_ n6_; clear hb hbox hg; have hnb20 := NB142_143.out; have hnc20 := NB143_142.out; obtain ⟨hcz21_0, hcz21_1, hcz21_2, hcz21_3, hcz21_4, hcz21_5, hcz21_6, hcz21_7, hcz21_8, hcz21_9, hcz21_10, hcz21_11, hfz21_0, hfz21_1, hfz21_2, hfz21_3, hfz21_4, hfz21_5, hfz21_6, hfz21_7, hfz21_8, hfz21_9, hfz21_10, hfz21_11⟩ := zqz12 BK142.out) | ((with_reducible refine gate_dst (N := 6) rfl ?_); refine box_event ?hg (N := 6) ?hd (cs := #[.int .i64 0, .int .i64 0, .int .i64 0, .int .i64 0, .int .i64 0, .int .u64 0, .int .u64 0, .int .u64 0]) (t := 40) ?hr ?_; (case hd => rfl); (case hg => rfl); (case hr => first | (go_simp; done) | (go_simp; rfl)); intro gb144 hg w22 hbox hb; have n0_ := zqi (zqy BK142.out hb); have n1_ := zqi (zqy BK143.out hb); have n2_ := zqi (below_step (zqn HB.out) hb); have n3_ := zqi (hbox); have n4_ := zqi (zqo hg HB.out); have n5_ := zqi (zqo hg HB.out); have n6_ := zqi ((zqq hg BK142.out)); have n7_ := zqi ((zqr hg BK142.out)); have n8_ := zqi ((zqq hg BK143.out)); have n9_ := zqi ((zqr hg BK143.out)); clear BK142; clear BK143; clear HB; have BK142 := n0_; have BK143 := n1_; have HB := n2_; have BK144 := n3_; have GW144 := n4_; have GE144 := n5_; have NB142_144 := n6_; have NB144_142 := n7_; have NB143_144 := n8_; have NB144_143 := n9_; clear n0_ n1_ n2_ n3_ n4_ n5_ n6_ n7_ n8_ n9_; clear hb hbox hg; have hnb23 := NB144_142.out; have hnc23 := NB142_144.out; have hnb24 := NB144_143.out; have hnc24 := NB143_144.out; obtain ⟨hcz25_0, hcz25_1, hcz25_2, hcz25_3, hcz25_4, hcz25_5, hcz25_6, hcz25_7, hfz25_0, hfz25_1, hfz25_2, hfz25_3, hfz25_4, hfz25_5, hfz25_6, hfz25_7⟩ := zqz8 BK144.out))
    generalize hW_ : ((((((((w22.setCell ⟨gb144, 0, none⟩ (.int .i64 a0_4)).setCell ⟨gb144, 1, none⟩ (.int .i64 a0_5)).setCell ⟨gb144, 2, none⟩ (.int .i64 a0_6)).setCell ⟨gb144, 3, none⟩ (.int .i64 a0_7)).setCell ⟨gb144, 4, none⟩ (.int .i64 a0_8)).setCell ⟨gb144, 5, none⟩ (.int .u64 a0_9)).setCell ⟨gb144, 6, none⟩ (.int .u64 a0_10)).setCell ⟨gb144, 7, none⟩ (.int .u64 a0_11)) = w26
    have n0_ : Aside0 (w26.heap[gb142]? = some (.cells #[.int .i64 a0_0, .int .i64 a0_1, .int .i64 a0_2, .slice A0_3 l0_3.length c0_3, .int .i64 a0_4, .int .i64 a0_5, .int .i64 a0_6, .int .i64 a0_7, .int .i64 a0_8, .int .u64 a0_9, .int .u64 a0_10, .int .u64 a0_11] 69 (0, 0))) := ⟨by subst hW_; (repeat (with_reducible first | apply zqa | apply zqb | apply zqc | refine blk_far ?_ NB142_144.out _)); exact BK142.out⟩
    have n1_ : Aside0 (w26.heap[gb143]? = some (.cells #[.int .i64 0, .int .i64 0, .int .i64 0, .int .i64 0, .int .i64 0, .int .u64 0, .int .u64 0, .int .u64 0] 40 (0, 0))) := ⟨by subst hW_; (repeat (with_reducible first | apply zqa | apply zqb | apply zqc | refine blk_far ?_ NB143_144.out _)); exact BK143.out⟩
    have n2_ : Aside0 (w26.heap[gb144]? = some (.cells #[.int .i64 a0_4, .int .i64 a0_5, .int .i64 a0_6, .int .i64 a0_7, .int .i64 a0_8, .int .u64 a0_9, .int .u64 a0_10, .int .u64 a0_11] 40 (0, 0))) := ⟨by subst hW_; exact zqC (blk_set (blk_set (blk_set (blk_set (blk_set (blk_set (blk_set (blk_set BK144.out 0 _) 1 _) 2 _) 3 _) 4 _) 5 _) 6 _) 7 _) (by simp only [List.setIfInBounds_toArray, List.set_cons_zero, List.set_cons_succ])⟩
    have n3_ : Aside0 (Below w.heap.size w w26) := ⟨by subst hW_; repeat (first | (with_reducible first | exact HB.out | apply zqg | apply zqf | apply zqh | refine below_set ?_ GE142.out | refine below_set ?_ GE143.out | refine below_set ?_ GE144.out) | exact HB.out)⟩
    clear hW_
    (try clear BK142)
    (try clear BK143)
    (try clear BK144)
    (try clear HB)
    have BK142 := n0_
    have BK143 := n1_
    have BK144 := n2_
    have HB := n3_
    clear n0_ n1_ n2_ n3_
    have n0_ := zqi (zqb BK142.out)
    have n1_ := zqi (zqb BK143.out)
    have n2_ := zqi (zqb BK144.out)
    have n3_ := zqi (zqh HB.out)
    clear BK142
    clear BK143
    clear BK144
    clear HB
    have BK142 := n0_
    have BK143 := n1_
    have BK144 := n2_
    have HB := n3_
    clear n0_ n1_ n2_ n3_
    refine start_ (n := 36) (S := fun w' => w'.cell? ⟨gb144, 0, none⟩ = some (.int .i64 a0_4) ∧ w'.cell? ⟨gb144, 1, none⟩ = some (.int .i64 a0_5) ∧ w'.cell? ⟨gb144, 2, none⟩ = some (.int .i64 a0_6) ∧ w'.cell? ⟨gb144, 3, none⟩ = some (.int .i64 a0_7) ∧ w'.cell? ⟨gb144, 4, none⟩ = some (.int .i64 a0_8) ∧ w'.cell? ⟨gb144, 5, none⟩ = some (.int .u64 a0_9) ∧ w'.cell? ⟨gb144, 6, none⟩ = some (.int .u64 a0_10) ∧ w'.cell? ⟨gb144, 7, none⟩ = some (.int .u64 a0_11) ∧ w'.cell? ⟨gb142, 0, none⟩ = some (.int .i64 a0_0) ∧ w'.cell? ⟨gb142, 1, none⟩ = some (.int .i64 a0_1) ∧ w'.cell? ⟨gb142, 2, none⟩ = some (.int .i64 a0_2) ∧ w'.cell? ⟨gb142, 3, none⟩ = some (.slice A0_3 l0_3.length c0_3) ∧ w'.cell? ⟨gb142, 4, none⟩ = some (.int .i64 a0_4) ∧ w'.cell? ⟨gb142, 5, none⟩ = some (.int .i64 a0_5) ∧ w'.cell? ⟨gb142, 6, none⟩ = some (.int .i64 a0_6) ∧ w'.cell? ⟨gb142, 7, none⟩ = some (.int .i64 a0_7) ∧ w'.cell? ⟨gb142, 8, none⟩ = some (.int .i64 a0_8) ∧ w'.cell? ⟨gb142, 9, none⟩ = some (.int .u64 a0_9) ∧ w'.cell? ⟨gb142, 10, none⟩ = some (.int .u64 a0_10) ∧ w'.cell? ⟨gb142, 11, none⟩ = some (.int .u64 a0_11)) (ds := []) (zqB 36 0) (by kernel_rfl) rfl rfl ⟨(zqe BK144.out 0).trans rfl, (zqe BK144.out 1).trans rfl, (zqe BK144.out 2).trans rfl, (zqe BK144.out 3).trans rfl, (zqe BK144.out 4).trans rfl, (zqe BK144.out 5).trans rfl, (zqe BK144.out 6).trans rfl, (zqe BK144.out 7).trans rfl, (zqe BK142.out 0).trans rfl, (zqe BK142.out 1).trans rfl, (zqe BK142.out 2).trans rfl, (zqe BK142.out 3).trans rfl, (zqe BK142.out 4).trans rfl, (zqe BK142.out 5).trans rfl, (zqe BK142.out 6).trans rfl, (zqe BK142.out 7).trans rfl, (zqe BK142.out 8).trans rfl, (zqe BK142.out 9).trans rfl, (zqe BK142.out 10).trans rfl, (zqe BK142.out 11).trans rfl⟩ (fun hHeld => ?_); refine with_tabW state_here_home.tab2 state_here_home.bits2 (fun HT_ HW_ => ?_)
    generalize w26.drew = w27 at BK142 BK143 BK144 HB hHeld ⊢
    refine zqp 0 (some 9) (zqB 36 1) (any_of HT_.out (by kernel_rfl)) (h := ?_)
    refine zqt 1 (some 10) (zqB 36 3) (take_ofW HT_.out HW_.out (by kernel_rfl)) hHeld (h := ?_)
    refine zqp 2 (some 11) (zqB 36 7) (any_of HT_.out (by kernel_rfl)) (h := ?_)
    refine zqp 3 (some 12) (zqB 36 15) (any_of HT_.out (by kernel_rfl)) (h := ?_)
    refine zqp 4 (some 13) (zqB 36 31) (any_of HT_.out (by kernel_rfl)) (h := ?_)
    refine zqt 5 (some 14) (zqB 36 63) (take_ofW HT_.out HW_.out (by kernel_rfl)) hHeld (h := ?_)
    refine zqp 6 (some 15) (zqB 36 127) (any_of HT_.out (by kernel_rfl)) (h := ?_)
    refine zqp 7 (some 16) (zqB 36 255) (any_of HT_.out (by kernel_rfl)) (h := ?_)
    refine zqp 8 (some 17) (zqB 36 511) (any_of HT_.out (by kernel_rfl)) (h := ?_)
    refine zqp 9 (some 18) (zqB 36 1023) (any_of HT_.out (by kernel_rfl)) (h := ?_)
    refine zqp 11 (some 20) (zqB 36 3071) (any_of HT_.out (by kernel_rfl)) (h := ?_)
    refine zqp 12 (some 21) (zqB 36 7167) (any_of HT_.out (by kernel_rfl)) (h := ?_)
    refine zqt 10 (some 19) (zqB 36 8191) (take_ofW HT_.out HW_.out (by kernel_rfl)) hHeld (h := ?_)
    refine zqt 13 (some 22) (zqB 36 16383) (take_ofW HT_.out HW_.out (by kernel_rfl)) hHeld (h := ?_)
    refine zqp 14 (some 23) (zqB 36 32767) (any_of HT_.out (by kernel_rfl)) (h := ?_)
    refine zqp 15 (some 24) (zqB 36 65535) (any_of HT_.out (by kernel_rfl)) (h := ?_)
    refine zqp 16 (some 25) (zqB 36 131071) (any_of HT_.out (by kernel_rfl)) (h := ?_)
    refine zqu 17 (some 26) (zqB 36 262143) (any_of HT_.out (by kernel_rfl)) (h := ?_)
    refine zqu 18 (some 27) (zqB 36 524287) (any_of HT_.out (by kernel_rfl)) (h := ?_)
    refine zqu 19 (some 28) (zqB 36 1048575) (any_of HT_.out (by kernel_rfl)) (h := ?_)
    refine zqu 20 (some 29) (zqB 36 2097151) (any_of HT_.out (by kernel_rfl)) (h := ?_)
    refine zqp 21 (some 30) (zqB 36 4194303) (any_of HT_.out (by kernel_rfl)) (h := ?_)
    refine zqp 22 (some 31) (zqB 36 8388607) (any_of HT_.out (by kernel_rfl)) (h := ?_)
    refine zqu 23 (some 32) (zqB 36 16777215) (any_of HT_.out (by kernel_rfl)) (h := ?_)
    refine zqu 24 (some 33) (zqB 36 33554431) (any_of HT_.out (by kernel_rfl)) (h := ?_)
    refine zqu 25 (some 34) (zqB 36 67108863) (any_of HT_.out (by kernel_rfl)) (h := ?_)
    refine zqu 26 (some 35) (zqB 36 134217727) (any_of HT_.out (by kernel_rfl)) (h := ?_)
    refine zqu 27 (some 36) (zqB 36 268435455) (any_of HT_.out (by kernel_rfl)) (h := ?_)
    refine zqu 28 (some 37) (zqB 36 536870911) (any_of HT_.out (by kernel_rfl)) (h := ?_)
    refine zqu 29 (some 38) (zqB 36 1073741823) (any_of HT_.out (by kernel_rfl)) (h := ?_)
    refine zqu 30 (some 39) (zqB 36 2147483647) (any_of HT_.out (by kernel_rfl)) (h := ?_)
    refine zqu 31 (some 40) (zqB 36 4294967295) (any_of HT_.out (by kernel_rfl)) (h := ?_)
    refine zqu 32 (some 41) (zqB 36 8589934591) (any_of HT_.out (by kernel_rfl)) (h := ?_)
    refine zqu 33 (some 42) (zqB 36 17179869183) (any_of HT_.out (by kernel_rfl)) (h := ?_)
    refine zqu 34 (some 43) (zqB 36 34359738367) (any_of HT_.out (by kernel_rfl)) (h := ?_)
    refine zqp 35 (some 44) (zqB 36 68719476735) (any_of HT_.out (by kernel_rfl)) (h := ?_)
    refine done_ (done_of HT_.out (by kernel_rfl)) ?_
    obtain ⟨hcz28_0, hcz28_1, hcz28_2, hcz28_3, hcz28_4, hcz28_5, hcz28_6, hcz28_7, hfz28_0, hfz28_1, hfz28_2, hfz28_3, hfz28_4, hfz28_5, hfz28_6, hfz28_7⟩ := zqz8 BK144.out
    obtain ⟨hcz29_0, hcz29_1, hcz29_2, hcz29_3, hcz29_4, hcz29_5, hcz29_6, hcz29_7, hfz29_0, hfz29_1, hfz29_2, hfz29_3, hfz29_4, hfz29_5, hfz29_6, hfz29_7⟩ := zqz8 BK143.out
    try go_wp2
    refine bodyPost_ret (results_ct rfl _ _ gb143 40 #[.int .i64 a0_4, .int .i64 a0_5, .int .i64 a0_6, .int .i64 a0_7, .int .i64 a0_8, .int .u64 a0_9, .int .u64 a0_10, .int .u64 a0_11] (0, 0) _ rfl (by exact zqC (blk_set (blk_set (blk_set (blk_set (blk_set (blk_set (blk_set (blk_set BK143.out 0 _) 1 _) 2 _) 3 _) 4 _) 5 _) 6 _) 7 _) (by simp only [List.setIfInBounds_toArray, List.set_cons_zero, List.set_cons_succ])) Try.underlying40 rfl (by kernel_rfl)) rfl ?_
    exact ⟨by first | rfl | (simp [errW_none, errW_some] <;> rfl) | (simp [*, errW_none, errW_some] <;> rfl), by repeat (first | (with_reducible first | exact HB.out | apply zqg | apply zqf | apply zqh | refine below_set ?_ GE142.out | refine below_set ?_ GE143.out | refine below_set ?_ GE144.out) | exact HB.out)⟩
   ·
    rw [if_neg c17] at H
    have c17b0 : decide (a0_1 ≤ a0_5) = false := decide_eq_false c17
    clear c17
    replace H := Option.bind_eq_some_iff.mp H
    obtain ⟨t145, A300, H⟩ := H
    replace H : (if t145 = true then (some (a0_4, a0_5, a0_6, a0_7, a0_8, a0_9, a0_10, a0_11, false)) else ((state_here_far.f a0_0 a0_1 a0_2 l0_3 a0_4 a0_5 a0_6 a0_7 a0_8 a0_9 a0_10 a0_11 0).bind fun t146 => (if 0 < (l0_3.length : Int) then (if (wrap64 (a0_6 + t146)) > ((rd_T23 l0_3 0).f4) then (some (a0_4, a0_5, a0_6, a0_7, a0_8, a0_9, a0_10, a0_11, false)) else (some (0, wrap64 (a0_5 + 1), (rd_T23 l0_3 0).f3, 0, a0_8, a0_9, a0_10, a0_11, true))) else (none)))) = some (r1, r2, r3, r4, r5, r6, r7, r8, r9) := H
    have A30 := zqi A300
    clear A300
    by_cases c31 : t145 = true
    ·
     subst c31
     have H1 : (some (a0_4, a0_5, a0_6, a0_7, a0_8, a0_9, a0_10, a0_11, false)) = some (r1, r2, r3, r4, r5, r6, r7, r8, r9) := by rw [if_pos rfl] at H; exact H
     clear H
     have H := H1
     clear H1
     simp only [Option.some.injEq, Prod.mk.injEq] at H
     obtain ⟨rfl, rfl, rfl, rfl, rfl, rfl, rfl, rfl, rfl⟩ := H
     go_enter Try.func53, Try.ntmps53
     try go_wp2_with (first | ((with_reducible refine gate_dst (N := 2) rfl ?_); refine box_event ?hg (N := 2) ?hd (cs := #[.int .i64 a0_0, .int .i64 a0_1, .int .i64 a0_2, .slice A0_3 l0_3.length c0_3, .int .i64 a0_4, .int .i64 a0_5, .int .i64 a0_6, .int .i64 a0_7, .int .i64 a0_8, .int .u64 a0_9, .int .u64 a0_10, .int .u64 a0_11]) (t := 69) ?hr ?_; (case hd => rfl); (case hg => rfl); (case hr => first | (go_simp; done) | (go_simp; rfl)); intro gb142 hg w32 hbox hb; have n0_ := zqi (below_step (zqn HB.out) hb); have n1_ := zqi (hbox); have n2_ := zqi (zqo hg HB.out); have n3_ := zqi (zqo hg HB.out); clear HB; have HB := n0_; have BK142 := n1_; have GW142 := n2_; have GE142 := n3_; clear n0_ n1_ n2_ n3_; clear hb hbox hg) | ((with_reducible refine gate_dst (N := 4) rfl ?_); refine box_event ?hg (N := 4) ?hd (cs := #[.int .i64 0, .int .i64 0, .int .i64 0, .int .i64 0, .int .i64 0, .int .u64 0, .int .u64 0, .int .u64 0]) (t := 40) ?hr ?_; (case hd => rfl); (case hg => rfl); (case hr => first | (go_simp; done) | (go_simp; rfl)); intro gb143 hg w33 hbox hb; have n0_ := zqi (zqy BK142.out hb); have n1_ := zqi (below_step (zqn HB.out) hb); have n2_ := zqi (hbox); have n3_ := zqi (zqo hg HB.out); have n4_ := zqi (zqo hg HB.out); have n5_ := zqi ((zqq hg BK142.out)); have n6_ := zqi ((zqr hg BK142.out)); clear BK142; clear HB; have BK142 := n0_; have HB := n1_; have BK143 := n2_; have GW143 := n3_; have GE143 := n4_; have NB142_143 := n5_; have NB143_142 := n6_; clear n0_ n1_ n2_ n3_ n4_ n5_ n6_; clear hb hbox hg; have hnb34 := NB142_143.out; have hnc34 := NB143_142.out; obtain ⟨hcz35_0, hcz35_1, hcz35_2, hcz35_3, hcz35_4, hcz35_5, hcz35_6, hcz35_7, hcz35_8, hcz35_9, hcz35_10, hcz35_11, hfz35_0, hfz35_1, hfz35_2, hfz35_3, hfz35_4, hfz35_5, hfz35_6, hfz35_7, hfz35_8, hfz35_9, hfz35_10, hfz35_11⟩ := zqz12 BK142.out) | ((with_reducible refine gate_dst (N := 6) rfl ?_); refine box_event ?hg (N := 6) ?hd (cs := #[.int .i64 0, .int .i64 0, .int .i64 0, .int .i64 0, .int .i64 0, .int .u64 0, .int .u64 0, .int .u64 0]) (t := 40) ?hr ?_; (case hd => rfl); (case hg => rfl); (case hr => first | (go_simp; done) | (go_simp; rfl)); intro gb144 hg w36 hbox hb; have n0_ := zqi (zqy BK142.out hb); have n1_ := zqi (zqy BK143.out hb); have n2_ := zqi (below_step (zqn HB.out) hb); have n3_ := zqi (hbox); have n4_ := zqi (zqo hg HB.out); have n5_ := zqi (zqo hg HB.out); have n6_ := zqi ((zqq hg BK142.out)); have n7_ := zqi ((zqr hg BK142.out)); have n8_ := zqi ((zqq hg BK143.out)); have n9_ := zqi ((zqr hg BK143.out)); clear BK142; clear BK143; clear HB; have BK142 := n0_; have BK143 := n1_; have HB := n2_; have BK144 := n3_; have GW144 := n4_; have GE144 := n5_; have NB142_144 := n6_; have NB144_142 := n7_; have NB143_144 := n8_; have NB144_143 := n9_; clear n0_ n1_ n2_ n3_ n4_ n5_ n6_ n7_ n8_ n9_; clear hb hbox hg; have hnb37 := NB144_142.out; have hnc37 := NB142_144.out; have hnb38 := NB144_143.out; have hnc38 := NB143_144.out; obtain ⟨hcz39_0, hcz39_1, hcz39_2, hcz39_3, hcz39_4, hcz39_5, hcz39_6, hcz39_7, hfz39_0, hfz39_1, hfz39_2, hfz39_3, hfz39_4, hfz39_5, hfz39_6, hfz39_7⟩ := zqz8 BK144.out))
     generalize hW_ : ((((((((w36.setCell ⟨gb144, 0, none⟩ (.int .i64 a0_4)).setCell ⟨gb144, 1, none⟩ (.int .i64 a0_5)).setCell ⟨gb144, 2, none⟩ (.int .i64 a0_6)).setCell ⟨gb144, 3, none⟩ (.int .i64 a0_7)).setCell ⟨gb144, 4, none⟩ (.int .i64 a0_8)).setCell ⟨gb144, 5, none⟩ (.int .u64 a0_9)).setCell ⟨gb144, 6, none⟩ (.int .u64 a0_10)).setCell ⟨gb144, 7, none⟩ (.int .u64 a0_11)) = w40
     have n0_ : Aside0 (w40.heap[gb142]? = some (.cells #[.int .i64 a0_0, .int .i64 a0_1, .int .i64 a0_2, .slice A0_3 l0_3.length c0_3, .int .i64 a0_4, .int .i64 a0_5, .int .i64 a0_6, .int .i64 a0_7, .int .i64 a0_8, .int .u64 a0_9, .int .u64 a0_10, .int .u64 a0_11] 69 (0, 0))) := ⟨by subst hW_; (repeat (with_reducible first | apply zqa | apply zqb | apply zqc | refine blk_far ?_ NB142_144.out _)); exact BK142.out⟩
     have n1_ : Aside0 (w40.heap[gb143]? = some (.cells #[.int .i64 0, .int .i64 0, .int .i64 0, .int .i64 0, .int .i64 0, .int .u64 0, .int .u64 0, .int .u64 0] 40 (0, 0))) := ⟨by subst hW_; (repeat (with_reducible first | apply zqa | apply zqb | apply zqc | refine blk_far ?_ NB143_144.out _)); exact BK143.out⟩
     have n2_ : Aside0 (w40.heap[gb144]? = some (.cells #[.int .i64 a0_4, .int .i64 a0_5, .int .i64 a0_6, .int .i64 a0_7, .int .i64 a0_8, .int .u64 a0_9, .int .u64 a0_10, .int .u64 a0_11] 40 (0, 0))) := ⟨by subst hW_; exact zqC (blk_set (blk_set (blk_set (blk_set (blk_set (blk_set (blk_set (blk_set BK144.out 0 _) 1 _) 2 _) 3 _) 4 _) 5 _) 6 _) 7 _) (by simp only [List.setIfInBounds_toArray, List.set_cons_zero, List.set_cons_succ])⟩
     have n3_ : Aside0 (Below w.heap.size w w40) := ⟨by subst hW_; repeat (first | (with_reducible first | exact HB.out | apply zqg | apply zqf | apply zqh | refine below_set ?_ GE142.out | refine below_set ?_ GE143.out | refine below_set ?_ GE144.out) | exact HB.out)⟩
     clear hW_
     (try clear BK142)
     (try clear BK143)
     (try clear BK144)
     (try clear HB)
     have BK142 := n0_
     have BK143 := n1_
     have BK144 := n2_
     have HB := n3_
     clear n0_ n1_ n2_ n3_
     have n0_ := zqi (zqb BK142.out)
     have n1_ := zqi (zqb BK143.out)
     have n2_ := zqi (zqb BK144.out)
     have n3_ := zqi (zqh HB.out)
     clear BK142
     clear BK143
     clear BK144
     clear HB
     have BK142 := n0_
     have BK143 := n1_
     have BK144 := n2_
     have HB := n3_
     clear n0_ n1_ n2_ n3_
     refine start_ (n := 36) (S := fun w' => w'.cell? ⟨gb144, 0, none⟩ = some (.int .i64 a0_4) ∧ w'.cell? ⟨gb144, 1, none⟩ = some (.int .i64 a0_5) ∧ w'.cell? ⟨gb144, 2, none⟩ = some (.int .i64 a0_6) ∧ w'.cell? ⟨gb144, 3, none⟩ = some (.int .i64 a0_7) ∧ w'.cell? ⟨gb144, 4, none⟩ = some (.int .i64 a0_8) ∧ w'.cell? ⟨gb144, 5, none⟩ = some (.int .u64 a0_9) ∧ w'.cell? ⟨gb144, 6, none⟩ = some (.int .u64 a0_10) ∧ w'.cell? ⟨gb144, 7, none⟩ = some (.int .u64 a0_11) ∧ w'.cell? ⟨gb142, 0, none⟩ = some (.int .i64 a0_0) ∧ w'.cell? ⟨gb142, 1, none⟩ = some (.int .i64 a0_1) ∧ w'.cell? ⟨gb142, 2, none⟩ = some (.int .i64 a0_2) ∧ w'.cell? ⟨gb142, 3, none⟩ = some (.slice A0_3 l0_3.length c0_3) ∧ w'.cell? ⟨gb142, 4, none⟩ = some (.int .i64 a0_4) ∧ w'.cell? ⟨gb142, 5, none⟩ = some (.int .i64 a0_5) ∧ w'.cell? ⟨gb142, 6, none⟩ = some (.int .i64 a0_6) ∧ w'.cell? ⟨gb142, 7, none⟩ = some (.int .i64 a0_7) ∧ w'.cell? ⟨gb142, 8, none⟩ = some (.int .i64 a0_8) ∧ w'.cell? ⟨gb142, 9, none⟩ = some (.int .u64 a0_9) ∧ w'.cell? ⟨gb142, 10, none⟩ = some (.int .u64 a0_10) ∧ w'.cell? ⟨gb142, 11, none⟩ = some (.int .u64 a0_11)) (ds := []) (zqB 36 0) (by kernel_rfl) rfl rfl ⟨(zqe BK144.out 0).trans rfl, (zqe BK144.out 1).trans rfl, (zqe BK144.out 2).trans rfl, (zqe BK144.out 3).trans rfl, (zqe BK144.out 4).trans rfl, (zqe BK144.out 5).trans rfl, (zqe BK144.out 6).trans rfl, (zqe BK144.out 7).trans rfl, (zqe BK142.out 0).trans rfl, (zqe BK142.out 1).trans rfl, (zqe BK142.out 2).trans rfl, (zqe BK142.out 3).trans rfl, (zqe BK142.out 4).trans rfl, (zqe BK142.out 5).trans rfl, (zqe BK142.out 6).trans rfl, (zqe BK142.out 7).trans rfl, (zqe BK142.out 8).trans rfl, (zqe BK142.out 9).trans rfl, (zqe BK142.out 10).trans rfl, (zqe BK142.out 11).trans rfl⟩ (fun hHeld => ?_); refine with_tabW state_here_home.tab2 state_here_home.bits2 (fun HT_ HW_ => ?_)
     generalize w40.drew = w41 at BK142 BK143 BK144 HB hHeld ⊢
     refine zqp 0 (some 9) (zqB 36 1) (any_of HT_.out (by kernel_rfl)) (h := ?_)
     refine zqt 1 (some 10) (zqB 36 3) (take_ofW HT_.out HW_.out (by kernel_rfl)) hHeld (h := ?_)
     refine zqp 2 (some 11) (zqB 36 7) (any_of HT_.out (by kernel_rfl)) (h := ?_)
     refine zqp 3 (some 12) (zqB 36 15) (any_of HT_.out (by kernel_rfl)) (h := ?_)
     refine zqp 4 (some 13) (zqB 36 31) (any_of HT_.out (by kernel_rfl)) (h := ?_)
     refine zqt 5 (some 14) (zqB 36 63) (take_ofW HT_.out HW_.out (by kernel_rfl)) hHeld (h := ?_)
     refine zqp 6 (some 15) (zqB 36 127) (any_of HT_.out (by kernel_rfl)) (h := ?_)
     refine zqp 7 (some 16) (zqB 36 255) (any_of HT_.out (by kernel_rfl)) (h := ?_)
     refine zqp 8 (some 17) (zqB 36 511) (any_of HT_.out (by kernel_rfl)) (h := ?_)
     refine zqp 9 (some 18) (zqB 36 1023) (any_of HT_.out (by kernel_rfl)) (h := ?_)
     refine zqp 11 (some 20) (zqB 36 3071) (any_of HT_.out (by kernel_rfl)) (h := ?_)
     refine zqp 12 (some 21) (zqB 36 7167) (any_of HT_.out (by kernel_rfl)) (h := ?_)
     refine zqt 10 (some 19) (zqB 36 8191) (take_ofW HT_.out HW_.out (by kernel_rfl)) hHeld (h := ?_)
     refine zqt 13 (some 22) (zqB 36 16383) (take_ofW HT_.out HW_.out (by kernel_rfl)) hHeld (h := ?_)
     refine zqp 14 (some 23) (zqB 36 32767) (any_of HT_.out (by kernel_rfl)) (h := ?_)
     refine zqp 15 (some 24) (zqB 36 65535) (any_of HT_.out (by kernel_rfl)) (h := ?_)
     refine zqp 16 (some 25) (zqB 36 131071) (any_of HT_.out (by kernel_rfl)) (h := ?_)
     refine zqp 18 (some 27) (zqB 36 393215) (any_of HT_.out (by kernel_rfl)) (h := ?_)
     refine zqt 17 (some 26) (zqB 36 524287) (take_ofW HT_.out HW_.out (by kernel_rfl)) hHeld (h := ?_)
     refine zqt 19 (some 28) (zqB 36 1048575) (take_ofW HT_.out HW_.out (by kernel_rfl)) hHeld (h := ?_)
     refine one_ (i := 20) (N := some 29) (zqB 36 2097151) rfl rfl (one_of HT_.out (by kernel_rfl)) (by decide) (fun K hK => ?_)
     refine goes_ Try.func40 (by kernel_rfl) rfl #[.agg #[.int .i64 a0_0, .int .i64 a0_1, .int .i64 a0_2, .slice A0_3 l0_3.length c0_3, .int .i64 a0_4, .int .i64 a0_5, .int .i64 a0_6, .int .i64 a0_7, .int .i64 a0_8, .int .u64 a0_9, .int .u64 a0_10, .int .u64 a0_11], .int .u64 a0_9] (by rfl) rfl rfl (by (try simp only [List.map_toArray, List.map_cons, List.map_nil]); first | done | rfl | (simp only [List.length_drop, List.length_take]; rfl)) ?_
     with_reducible refine (state_here_all.calls k a0_0 a0_1 a0_2 _ _ l0_3 a0_4 a0_5 a0_6 a0_7 a0_8 a0_9 a0_10 a0_11 a0_9 true _ ?side1 ?side2 A30.out).mono ?_
     (case side1 => repeat (first | exact (Kd.C_below HR0_3.out HB.out) | (with_reducible refine Kd.C_alloc ?_ _) | (with_reducible refine Kd.C_drewN ?_ _) | (with_reducible refine Kd.C_drew ?_)))
     (case side2 => exact HC0_3.out)
     rintro e w42 ⟨rfl, hb⟩
     refine ⟨_, rfl, ?_⟩
     have n0_ := zqi (zqy BK142.out hb)
     have n1_ := zqi (zqy BK143.out hb)
     have n2_ := zqi (zqy BK144.out hb)
     have n3_ := zqi (below_step (zqn HB.out) hb)
     clear BK142
     clear BK143
     clear BK144
     clear HB
     have BK142 := n0_
     have BK143 := n1_
     have BK144 := n2_
     have HB := n3_
     clear n0_ n1_ n2_ n3_
     (try clear hb)
     (try clear hb2)
     (try clear hk)
     (try clear hi)
     refine hK.out _ _ ⟨(zqe BK144.out 0).trans rfl, (zqe BK144.out 1).trans rfl, (zqe BK144.out 2).trans rfl, (zqe BK144.out 3).trans rfl, (zqe BK144.out 4).trans rfl, (zqe BK144.out 5).trans rfl, (zqe BK144.out 6).trans rfl, (zqe BK144.out 7).trans rfl, (zqe BK142.out 0).trans rfl, (zqe BK142.out 1).trans rfl, (zqe BK142.out 2).trans rfl, (zqe BK142.out 3).trans rfl, (zqe BK142.out 4).trans rfl, (zqe BK142.out 5).trans rfl, (zqe BK142.out 6).trans rfl, (zqe BK142.out 7).trans rfl, (zqe BK142.out 8).trans rfl, (zqe BK142.out 9).trans rfl, (zqe BK142.out 10).trans rfl, (zqe BK142.out 11).trans rfl⟩ (fun hHeld => ?_)
     clear hK K
     refine norm_ (a' := ?_) ?_ ?_
     rotate_left
     ·
      show Act.put _ (some 29) _ = _
      simp only [Act.put, List.setIfInBounds_toArray, List.set_cons_zero, List.set_cons_succ, i64_w, i32_w]
      rfl
     refine zqp 21 (some 30) (zqB 36 4194303) (any_of HT_.out (by kernel_rfl)) (h := ?_)
     refine zqp 22 (some 31) (zqB 36 8388607) (any_of HT_.out (by kernel_rfl)) (h := ?_)
     refine zqu 23 (some 32) (zqB 36 16777215) (any_of HT_.out (by kernel_rfl)) (h := ?_)
     refine zqu 24 (some 33) (zqB 36 33554431) (any_of HT_.out (by kernel_rfl)) (h := ?_)
     refine zqu 25 (some 34) (zqB 36 67108863) (any_of HT_.out (by kernel_rfl)) (h := ?_)
     refine zqu 26 (some 35) (zqB 36 134217727) (any_of HT_.out (by kernel_rfl)) (h := ?_)
     refine zqu 27 (some 36) (zqB 36 268435455) (any_of HT_.out (by kernel_rfl)) (h := ?_)
     refine zqu 28 (some 37) (zqB 36 536870911) (any_of HT_.out (by kernel_rfl)) (h := ?_)
     refine zqu 29 (some 38) (zqB 36 1073741823) (any_of HT_.out (by kernel_rfl)) (h := ?_)
     refine zqu 30 (some 39) (zqB 36 2147483647) (any_of HT_.out (by kernel_rfl)) (h := ?_)
     refine zqu 31 (some 40) (zqB 36 4294967295) (any_of HT_.out (by kernel_rfl)) (h := ?_)
     refine zqu 32 (some 41) (zqB 36 8589934591) (any_of HT_.out (by kernel_rfl)) (h := ?_)
     refine zqu 33 (some 42) (zqB 36 17179869183) (any_of HT_.out (by kernel_rfl)) (h := ?_)
     refine zqu 34 (some 43) (zqB 36 34359738367) (any_of HT_.out (by kernel_rfl)) (h := ?_)
     refine zqp 35 (some 44) (zqB 36 68719476735) (any_of HT_.out (by kernel_rfl)) (h := ?_)
     refine done_ (done_of HT_.out (by kernel_rfl)) ?_
     obtain ⟨hcz43_0, hcz43_1, hcz43_2, hcz43_3, hcz43_4, hcz43_5, hcz43_6, hcz43_7, hfz43_0, hfz43_1, hfz43_2, hfz43_3, hfz43_4, hfz43_5, hfz43_6, hfz43_7⟩ := zqz8 BK144.out
     obtain ⟨hcz44_0, hcz44_1, hcz44_2, hcz44_3, hcz44_4, hcz44_5, hcz44_6, hcz44_7, hfz44_0, hfz44_1, hfz44_2, hfz44_3, hfz44_4, hfz44_5, hfz44_6, hfz44_7⟩ := zqz8 BK143.out
     try go_wp2
     refine bodyPost_ret (results_ct rfl _ _ gb143 40 #[.int .i64 a0_4, .int .i64 a0_5, .int .i64 a0_6, .int .i64 a0_7, .int .i64 a0_8, .int .u64 a0_9, .int .u64 a0_10, .int .u64 a0_11] (0, 0) _ rfl (by exact zqC (blk_set (blk_set (blk_set (blk_set (blk_set (blk_set (blk_set (blk_set BK143.out 0 _) 1 _) 2 _) 3 _) 4 _) 5 _) 6 _) 7 _) (by simp only [List.setIfInBounds_toArray, List.set_cons_zero, List.set_cons_succ])) Try.underlying40 rfl (by kernel_rfl)) rfl ?_
     exact ⟨by first | rfl | (simp [errW_none, errW_some] <;> rfl) | (simp [*, errW_none, errW_some] <;> rfl), by repeat (first | (with_reducible first | exact HB.out | apply zqg | apply zqf | apply zqh | refine below_set ?_ GE142.out | refine below_set ?_ GE143.out | refine below_set ?_ GE144.out) | exact HB.out)⟩
    ·
     replace c31 := Bool.eq_false_iff.mpr c31
     subst c31
     have H1 : ((state_here_far.f a0_0 a0_1 a0_2 l0_3 a0_4 a0_5 a0_6 a0_7 a0_8 a0_9 a0_10 a0_11 0).bind fun t146 => (if 0 < (l0_3.length : Int) then (if (wrap64 (a0_6 + t146)) > ((rd_T23 l0_3 0).f4) then (some (a0_4, a0_5, a0_6, a0_7, a0_8, a0_9, a0_10, a0_11, false)) else (some (0, wrap64 (a0_5 + 1), (rd_T23 l0_3 0).f3, 0, a0_8, a0_9, a0_10, a0_11, true))) else (none))) = some (r1, r2, r3, r4, r5, r6, r7, r8, r9) := by rw [if_neg (show ¬ (false = true) by decide)] at H; exact H
     clear H
     have H := H1
     clear H1
     replace H := Option.bind_eq_some_iff.mp H
     obtain ⟨t146, A450, H⟩ := H
     replace H : (if 0 < (l0_3.length : Int) then (if (wrap64 (a0_6 + t146)) > ((rd_T23 l0_3 0).f4) then (some (a0_4, a0_5, a0_6, a0_7, a0_8, a0_9, a0_10, a0_11, false)) else (some (0, wrap64 (a0_5 + 1), (rd_T23 l0_3 0).f3, 0, a0_8, a0_9, a0_10, a0_11, true))) else (none)) = some (r1, r2, r3, r4, r5, r6, r7, r8, r9) := H
     have A45 := zqi A450
     clear A450
     by_cases c46 : 0 < (l0_3.length : Int)
     ·
      rw [if_pos c46] at H
      have c46b0 : decide (0 < (l0_3.length : Int)) = true := decide_eq_true c46
      have c46b1 : decide (0 < l0_3.length) = true := decide_eq_true (by omega)
      clear c46
      by_cases c47 : (wrap64 (a0_6 + t146)) > ((rd_T23 l0_3 0).f4)
      ·
       rw [if_pos c47] at H
       have c47b0 : decide (((rd_T23 l0_3 0).f4) < (wrap64 (a0_6 + t146))) = true := decide_eq_true c47
       clear c47
       simp only [Option.some.injEq, Prod.mk.injEq] at H
       obtain ⟨rfl, rfl, rfl, rfl, rfl, rfl, rfl, rfl, rfl⟩ := H
       go_enter Try.func53, Try.ntmps53
       try go_wp2_with (first | ((with_reducible refine gate_dst (N := 2) rfl ?_); refine box_event ?hg (N := 2) ?hd (cs := #[.int .i64 a0_0, .int .i64 a0_1, .int .i64 a0_2, .slice A0_3 l0_3.length c0_3, .int .i64 a0_4, .int .i64 a0_5, .int .i64 a0_6, .int .i64 a0_7, .int .i64 a0_8, .int .u64 a0_9, .int .u64 a0_10, .int .u64 a0_11]) (t := 69) ?hr ?_; (case hd => rfl); (case hg => rfl); (case hr => first | (go_simp; done) | (go_simp; rfl)); intro gb142 hg w48 hbox hb; have n0_ := zqi (below_step (zqn HB.out) hb); have n1_ := zqi (hbox); have n2_ := zqi (zqo hg HB.out); have n3_ := zqi (zqo hg HB.out); clear HB; have HB := n0_; have BK142 := n1_; have GW142 := n2_; have GE142 := n3_; clear n0_ n1_ n2_ n3_; clear hb hbox hg) | ((with_reducible refine gate_dst (N := 4) rfl ?_); refine box_event ?hg (N := 4) ?hd (cs := #[.int .i64 0, .int .i64 0, .int .i64 0, .int .i64 0, .int .i64 0, .int .u64 0, .int .u64 0, .int .u64 0]) (t := 40) ?hr ?_; (case hd => rfl); (case hg => rfl); (case hr => first | (go_simp; done) | (go_simp; rfl)); intro gb143 hg w49 hbox hb; have n0_ := zqi (zqy BK142.out hb); have n1_ := zqi (below_step (zqn HB.out) hb); have n2_ := zqi (hbox); have n3_ := zqi (zqo hg HB.out); have n4_ := zqi (zqo hg HB.out); have n5_ := zqi ((zqq hg BK142.out)); have n6_ := zqi ((zqr hg BK142.out)); clear BK142; clear HB; have BK142 := n0_; have HB := n1_; have BK143 := n2_; have GW143 := n3_; have GE143 := n4_; have NB142_143 := n5_; have NB143_142 := n6_; clear n0_ n1_ n2_ n3_ n4_ n5_ n6_; clear hb hbox hg; have hnb50 := NB142_143.out; have hnc50 := NB143_142.out; obtain ⟨hcz51_0, hcz51_1, hcz51_2, hcz51_3, hcz51_4, hcz51_5, hcz51_6, hcz51_7, hcz51_8, hcz51_9, hcz51_10, hcz51_11, hfz51_0, hfz51_1, hfz51_2, hfz51_3, hfz51_4, hfz51_5, hfz51_6, hfz51_7, hfz51_8, hfz51_9, hfz51_10, hfz51_11⟩ := zqz12 BK142.out) | ((with_reducible refine gate_dst (N := 6) rfl ?_); refine box_event ?hg (N := 6) ?hd (cs := #[.int .i64 0, .int .i64 0, .int .i64 0, .int .i64 0, .int .i64 0, .int .u64 0, .int .u64 0, .int .u64 0]) (t := 40) ?hr ?_; (case hd => rfl); (case hg => rfl); (case hr => first | (go_simp; done) | (go_simp; rfl)); intro gb144 hg w52 hbox hb; have n0_ := zqi (zqy BK142.out hb); have n1_ := zqi (zqy BK143.out hb); have n2_ := zqi (below_step (zqn HB.out) hb); have n3_ := zqi (hbox); have n4_ := zqi (zqo hg HB.out); have n5_ := zqi (zqo hg HB.out); have n6_ := zqi ((zqq hg BK142.out)); have n7_ := zqi ((zqr hg BK142.out)); have n8_ := zqi ((zqq hg BK143.out)); have n9_ := zqi ((zqr hg BK143.out)); clear BK142; clear BK143; clear HB; have BK142 := n0_; have BK143 := n1_; have HB := n2_; have BK144 := n3_; have GW144 := n4_; have GE144 := n5_; have NB142_144 := n6_; have NB144_142 := n7_; have NB143_144 := n8_; have NB144_143 := n9_; clear n0_ n1_ n2_ n3_ n4_ n5_ n6_ n7_ n8_ n9_; clear hb hbox hg; have hnb53 := NB144_142.out; have hnc53 := NB142_144.out; have hnb54 := NB144_143.out; have hnc54 := NB143_144.out; obtain ⟨hcz55_0, hcz55_1, hcz55_2, hcz55_3, hcz55_4, hcz55_5, hcz55_6, hcz55_7, hfz55_0, hfz55_1, hfz55_2, hfz55_3, hfz55_4, hfz55_5, hfz55_6, hfz55_7⟩ := zqz8 BK144.out))
       generalize hW_ : ((((((((w52.setCell ⟨gb144, 0, none⟩ (.int .i64 a0_4)).setCell ⟨gb144, 1, none⟩ (.int .i64 a0_5)).setCell ⟨gb144, 2, none⟩ (.int .i64 a0_6)).setCell ⟨gb144, 3, none⟩ (.int .i64 a0_7)).setCell ⟨gb144, 4, none⟩ (.int .i64 a0_8)).setCell ⟨gb144, 5, none⟩ (.int .u64 a0_9)).setCell ⟨gb144, 6, none⟩ (.int .u64 a0_10)).setCell ⟨gb144, 7, none⟩ (.int .u64 a0_11)) = w56
       have n0_ : Aside0 (w56.heap[gb142]? = some (.cells #[.int .i64 a0_0, .int .i64 a0_1, .int .i64 a0_2, .slice A0_3 l0_3.length c0_3, .int .i64 a0_4, .int .i64 a0_5, .int .i64 a0_6, .int .i64 a0_7, .int .i64 a0_8, .int .u64 a0_9, .int .u64 a0_10, .int .u64 a0_11] 69 (0, 0))) := ⟨by subst hW_; (repeat (with_reducible first | apply zqa | apply zqb | apply zqc | refine blk_far ?_ NB142_144.out _)); exact BK142.out⟩
       have n1_ : Aside0 (w56.heap[gb143]? = some (.cells #[.int .i64 0, .int .i64 0, .int .i64 0, .int .i64 0, .int .i64 0, .int .u64 0, .int .u64 0, .int .u64 0] 40 (0, 0))) := ⟨by subst hW_; (repeat (with_reducible first | apply zqa | apply zqb | apply zqc | refine blk_far ?_ NB143_144.out _)); exact BK143.out⟩
       have n2_ : Aside0 (w56.heap[gb144]? = some (.cells #[.int .i64 a0_4, .int .i64 a0_5, .int .i64 a0_6, .int .i64 a0_7, .int .i64 a0_8, .int .u64 a0_9, .int .u64 a0_10, .int .u64 a0_11] 40 (0, 0))) := ⟨by subst hW_; exact zqC (blk_set (blk_set (blk_set (blk_set (blk_set (blk_set (blk_set (blk_set BK144.out 0 _) 1 _) 2 _) 3 _) 4 _) 5 _) 6 _) 7 _) (by simp only [List.setIfInBounds_toArray, List.set_cons_zero, List.set_cons_succ])⟩
       have n3_ : Aside0 (Below w.heap.size w w56) := ⟨by subst hW_; repeat (first | (with_reducible first | exact HB.out | apply zqg | apply zqf | apply zqh | refine below_set ?_ GE142.out | refine below_set ?_ GE143.out | refine below_set ?_ GE144.out) | exact HB.out)⟩
       clear hW_
       (try clear BK142)
       (try clear BK143)
       (try clear BK144)
       (try clear HB)
       have BK142 := n0_
       have BK143 := n1_
       have BK144 := n2_
       have HB := n3_
       clear n0_ n1_ n2_ n3_
       have n0_ := zqi (zqb BK142.out)
       have n1_ := zqi (zqb BK143.out)
       have n2_ := zqi (zqb BK144.out)
       have n3_ := zqi (zqh HB.out)
       clear BK142
       clear BK143
       clear BK144
       clear HB
       have BK142 := n0_
       have BK143 := n1_
       have BK144 := n2_
       have HB := n3_
       clear n0_ n1_ n2_ n3_
       have p147 : 0 ≤ (0 : Int) := (by omega)
       have q147 : 0 < (l0_3.length : Int) := of_decide_eq_true (by first | (with_reducible assumption) | assumption)
       obtain ⟨ad147, e147, hx147_0, hx147_1, hx147_2, hx147_3, hx147_4, hx147_5⟩ := at_T23 HR0_3.out 0 p147 q147
       have hw147_5 := hx147_5
       (try rw [show ((0 : Int)).toNat = 0 from rfl] at hw147_5)
       (try rw [show 0 * 6 = 0 from rfl] at hw147_5)
       (try rw [Addr.add_zero'] at hw147_5)
       have hw147_4 := hx147_4
       (try rw [show ((0 : Int)).toNat = 0 from rfl] at hw147_4)
       (try rw [show 0 * 6 = 0 from rfl] at hw147_4)
       (try rw [Addr.add_zero'] at hw147_4)
       have hw147_3 := hx147_3
       (try rw [show ((0 : Int)).toNat = 0 from rfl] at hw147_3)
       (try rw [show 0 * 6 = 0 from rfl] at hw147_3)
       (try rw [Addr.add_zero'] at hw147_3)
       have hw147_2 := hx147_2
       (try rw [show ((0 : Int)).toNat = 0 from rfl] at hw147_2)
       (try rw [show 0 * 6 = 0 from rfl] at hw147_2)
       (try rw [Addr.add_zero'] at hw147_2)
       have hw147_1 := hx147_1
       (try rw [show ((0 : Int)).toNat = 0 from rfl] at hw147_1)
       (try rw [show 0 * 6 = 0 from rfl] at hw147_1)
       (try rw [Addr.add_zero'] at hw147_1)
       have hw147_0 := hx147_0
       (try rw [show ((0 : Int)).toNat = 0 from rfl] at hw147_0)
       (try rw [show 0 * 6 = 0 from rfl] at hw147_0)
       (try rw [Addr.add_zero'] at hw147_0)
       cases e147
       have qi147 : (0 < l0_3.length) = True := eq_true (by omega)
       (try rw [show ((0 : Int)).toNat = 0 from rfl] at hx147_0)
       (try rw [show 0 * 6 = 0 from rfl] at hx147_0)
       (try rw [Addr.add_zero'] at hx147_0)
       (try rw [show ((0 : Int)).toNat = 0 from rfl] at hx147_1)
       (try rw [show 0 * 6 = 0 from rfl] at hx147_1)
       (try rw [Addr.add_zero'] at hx147_1)
       (try rw [show ((0 : Int)).toNat = 0 from rfl] at hx147_2)
       (try rw [show 0 * 6 = 0 from rfl] at hx147_2)
       (try rw [Addr.add_zero'] at hx147_2)
       (try rw [show ((0 : Int)).toNat = 0 from rfl] at hx147_3)
       (try rw [show 0 * 6 = 0 from rfl] at hx147_3)
       (try rw [Addr.add_zero'] at hx147_3)
       (try rw [show ((0 : Int)).toNat = 0 from rfl] at hx147_4)
       (try rw [show 0 * 6 = 0 from rfl] at hx147_4)
       (try rw [Addr.add_zero'] at hx147_4)
       (try rw [show ((0 : Int)).toNat = 0 from rfl] at hx147_5)
       (try rw [show 0 * 6 = 0 from rfl] at hx147_5)
       (try rw [Addr.add_zero'] at hx147_5)
       replace hx147_0 := (HB.out.cell (World.block_lt_of_cell? w _ hx147_0)).trans hx147_0
       replace hx147_1 := (HB.out.cell (World.block_lt_of_cell? w _ hx147_1)).trans hx147_1
       replace hx147_2 := (HB.out.cell (World.block_lt_of_cell? w _ hx147_2)).trans hx147_2
       replace hx147_3 := (HB.out.cell (World.block_lt_of_cell? w _ hx147_3)).trans hx147_3
       replace hx147_4 := (HB.out.cell (World.block_lt_of_cell? w _ hx147_4)).trans hx147_4
       replace hx147_5 := (HB.out.cell (World.block_lt_of_cell? w _ hx147_5)).trans hx147_5
       replace p147 := eq_true p147
       replace q147 := eq_true q147
       refine start_ (n := 36) (S := fun w' => w'.cell? ⟨gb144, 0, none⟩ = some (.int .i64 a0_4) ∧ w'.cell? ⟨gb144, 1, none⟩ = some (.int .i64 a0_5) ∧ w'.cell? ⟨gb144, 2, none⟩ = some (.int .i64 a0_6) ∧ w'.cell? ⟨gb144, 3, none⟩ = some (.int .i64 a0_7) ∧ w'.cell? ⟨gb144, 4, none⟩ = some (.int .i64 a0_8) ∧ w'.cell? ⟨gb144, 5, none⟩ = some (.int .u64 a0_9) ∧ w'.cell? ⟨gb144, 6, none⟩ = some (.int .u64 a0_10) ∧ w'.cell? ⟨gb144, 7, none⟩ = some (.int .u64 a0_11) ∧ w'.cell? ⟨gb142, 0, none⟩ = some (.int .i64 a0_0) ∧ w'.cell? ⟨gb142, 1, none⟩ = some (.int .i64 a0_1) ∧ w'.cell? ⟨gb142, 2, none⟩ = some (.int .i64 a0_2) ∧ w'.cell? ⟨gb142, 3, none⟩ = some (.slice (some ad147) l0_3.length c0_3) ∧ w'.cell? ⟨gb142, 4, none⟩ = some (.int .i64 a0_4) ∧ w'.cell? ⟨gb142, 5, none⟩ = some (.int .i64 a0_5) ∧ w'.cell? ⟨gb142, 6, none⟩ = some (.int .i64 a0_6) ∧ w'.cell? ⟨gb142, 7, none⟩ = some (.int .i64 a0_7) ∧ w'.cell? ⟨gb142, 8, none⟩ = some (.int .i64 a0_8) ∧ w'.cell? ⟨gb142, 9, none⟩ = some (.int .u64 a0_9) ∧ w'.cell? ⟨gb142, 10, none⟩ = some (.int .u64 a0_10) ∧ w'.cell? ⟨gb142, 11, none⟩ = some (.int .u64 a0_11) ∧ w'.cell? ad147 = some (.int .i64 ((rd_T23 l0_3 0).f0)) ∧ w'.cell? ⟨ad147.block, ad147.off + 1, none⟩ = some (.int .i64 ((rd_T23 l0_3 0).f1)) ∧ w'.cell? ⟨ad147.block, ad147.off + 2, none⟩ = some (.int .i64 ((rd_T23 l0_3 0).f2)) ∧ w'.cell? ⟨ad147.block, ad147.off + 3, none⟩ = some (.int .i64 ((rd_T23 l0_3 0).f3)) ∧ w'.cell? ⟨ad147.block, ad147.off + 4, none⟩ = some (.int .i64 ((rd_T23 l0_3 0).f4)) ∧ w'.cell? ⟨ad147.block, ad147.off + 5, none⟩ = some (.int .i64 ((rd_T23 l0_3 0).f5))) (ds := []) (zqB 36 0) (by kernel_rfl) rfl rfl ⟨(zqe BK144.out 0).trans rfl, (zqe BK144.out 1).trans rfl, (zqe BK144.out 2).trans rfl, (zqe BK144.out 3).trans rfl, (zqe BK144.out 4).trans rfl, (zqe BK144.out 5).trans rfl, (zqe BK144.out 6).trans rfl, (zqe BK144.out 7).trans rfl, (zqe BK142.out 0).trans rfl, (zqe BK142.out 1).trans rfl, (zqe BK142.out 2).trans rfl, (zqe BK142.out 3).trans rfl, (zqe BK142.out 4).trans rfl, (zqe BK142.out 5).trans rfl, (zqe BK142.out 6).trans rfl, (zqe BK142.out 7).trans rfl, (zqe BK142.out 8).trans rfl, (zqe BK142.out 9).trans rfl, (zqe BK142.out 10).trans rfl, (zqe BK142.out 11).trans rfl, ((HB.out.cell (World.block_lt_of_cell? w _ hw147_0)).trans hw147_0), ((HB.out.cell (World.block_lt_of_cell? w _ hw147_1)).trans hw147_1), ((HB.out.cell (World.block_lt_of_cell? w _ hw147_2)).trans hw147_2), ((HB.out.cell (World.block_lt_of_cell? w _ hw147_3)).trans hw147_3), ((HB.out.cell (World.block_lt_of_cell? w _ hw147_4)).trans hw147_4), ((HB.out.cell (World.block_lt_of_cell? w _ hw147_5)).trans hw147_5)⟩ (fun hHeld => ?_); refine with_tabW state_here_home.tab2 state_here_home.bits2 (fun HT_ HW_ => ?_)
       generalize w56.drew = w57 at BK142 BK143 BK144 HB hx147_0 hx147_1 hx147_2 hx147_3 hx147_4 hx147_5 hHeld ⊢
       refine zqp 0 (some 9) (zqB 36 1) (any_of HT_.out (by kernel_rfl)) (h := ?_)
       refine zqt 1 (some 10) (zqB 36 3) (take_ofW HT_.out HW_.out (by kernel_rfl)) hHeld (h := ?_)
       refine zqp 2 (some 11) (zqB 36 7) (any_of HT_.out (by kernel_rfl)) (h := ?_)
       refine zqp 3 (some 12) (zqB 36 15) (any_of HT_.out (by kernel_rfl)) (h := ?_)
       refine zqp 4 (some 13) (zqB 36 31) (any_of HT_.out (by kernel_rfl)) (h := ?_)
       refine zqt 5 (some 14) (zqB 36 63) (take_ofW HT_.out HW_.out (by kernel_rfl)) hHeld (h := ?_)
       refine zqp 6 (some 15) (zqB 36 127) (any_of HT_.out (by kernel_rfl)) (h := ?_)
       refine zqp 7 (some 16) (zqB 36 255) (any_of HT_.out (by kernel_rfl)) (h := ?_)
       refine zqp 8 (some 17) (zqB 36 511) (any_of HT_.out (by kernel_rfl)) (h := ?_)
       refine zqp 9 (some 18) (zqB 36 1023) (any_of HT_.out (by kernel_rfl)) (h := ?_)
       refine zqp 11 (some 20) (zqB 36 3071) (any_of HT_.out (by kernel_rfl)) (h := ?_)
       refine zqp 12 (some 21) (zqB 36 7167) (any_of HT_.out (by kernel_rfl)) (h := ?_)
       refine zqt 10 (some 19) (zqB 36 8191) (take_ofW HT_.out HW_.out (by kernel_rfl)) hHeld (h := ?_)
       refine zqt 13 (some 22) (zqB 36 16383) (take_ofW HT_.out HW_.out (by kernel_rfl)) hHeld (h := ?_)
       refine zqp 14 (some 23) (zqB 36 32767) (any_of HT_.out (by kernel_rfl)) (h := ?_)
       refine zqp 15 (some 24) (zqB 36 65535) (any_of HT_.out (by kernel_rfl)) (h := ?_)
       refine zqp 16 (some 25) (zqB 36 131071) (any_of HT_.out (by kernel_rfl)) (h := ?_)
       refine zqp 18 (some 27) (zqB 36 393215) (any_of HT_.out (by kernel_rfl)) (h := ?_)
       refine zqt 17 (some 26) (zqB 36 524287) (take_ofW HT_.out HW_.out (by kernel_rfl)) hHeld (h := ?_)
       refine zqt 19 (some 28) (zqB 36 1048575) (take_ofW HT_.out HW_.out (by kernel_rfl)) hHeld (h := ?_)
       refine one_ (i := 20) (N := some 29) (zqB 36 2097151) rfl rfl (one_of HT_.out (by kernel_rfl)) (by decide) (fun K hK => ?_)
       refine goes_ Try.func40 (by kernel_rfl) rfl #[.agg #[.int .i64 a0_0, .int .i64 a0_1, .int .i64 a0_2, .slice (some ad147) l0_3.length c0_3, .int .i64 a0_4, .int .i64 a0_5, .int .i64 a0_6, .int .i64 a0_7, .int .i64 a0_8, .int .u64 a0_9, .int .u64 a0_10, .int .u64 a0_11], .int .u64 a0_9] (by rfl) rfl rfl (by (try simp only [List.map_toArray, List.map_cons, List.map_nil]); first | done | rfl | (simp only [List.length_drop, List.length_take]; rfl)) ?_
       with_reducible refine (state_here_all.calls k a0_0 a0_1 a0_2 _ _ l0_3 a0_4 a0_5 a0_6 a0_7 a0_8 a0_9 a0_10 a0_11 a0_9 false _ ?side1 ?side2 A30.out).mono ?_
       (case side1 => repeat (first | exact (Kd.C_below HR0_3.out HB.out) | (with_reducible refine Kd.C_alloc ?_ _) | (with_reducible refine Kd.C_drewN ?_ _) | (with_reducible refine Kd.C_drew ?_)))
       (case side2 => exact HC0_3.out)
       rintro e w58 ⟨rfl, hb⟩
       refine ⟨_, rfl, ?_⟩
       have n0_ := zqi (zqy BK142.out hb)
       have n1_ := zqi (zqy BK143.out hb)
       have n2_ := zqi (zqy BK144.out hb)
       have n3_ := zqi (below_step (zqn HB.out) hb)
       clear BK142
       clear BK143
       clear BK144
       clear HB
       have BK142 := n0_
       have BK143 := n1_
       have BK144 := n2_
       have HB := n3_
       clear n0_ n1_ n2_ n3_
       (try clear hb)
       (try clear hb2)
       (try clear hk)
       (try clear hi)
       refine hK.out _ _ ⟨(zqe BK144.out 0).trans rfl, (zqe BK144.out 1).trans rfl, (zqe BK144.out 2).trans rfl, (zqe BK144.out 3).trans rfl, (zqe BK144.out 4).trans rfl, (zqe BK144.out 5).trans rfl, (zqe BK144.out 6).trans rfl, (zqe BK144.out 7).trans rfl, (zqe BK142.out 0).trans rfl, (zqe BK142.out 1).trans rfl, (zqe BK142.out 2).trans rfl, (zqe BK142.out 3).trans rfl, (zqe BK142.out 4).trans rfl, (zqe BK142.out 5).trans rfl, (zqe BK142.out 6).trans rfl, (zqe BK142.out 7).trans rfl, (zqe BK142.out 8).trans rfl, (zqe BK142.out 9).trans rfl, (zqe BK142.out 10).trans rfl, (zqe BK142.out 11).trans rfl, ((HB.out.cell (World.block_lt_of_cell? w _ hw147_0)).trans hw147_0), ((HB.out.cell (World.block_lt_of_cell? w _ hw147_1)).trans hw147_1), ((HB.out.cell (World.block_lt_of_cell? w _ hw147_2)).trans hw147_2), ((HB.out.cell (World.block_lt_of_cell? w _ hw147_3)).trans hw147_3), ((HB.out.cell (World.block_lt_of_cell? w _ hw147_4)).trans hw147_4), ((HB.out.cell (World.block_lt_of_cell? w _ hw147_5)).trans hw147_5)⟩ (fun hHeld => ?_)
       clear hK K
       refine norm_ (a' := ?_) ?_ ?_
       rotate_left
       ·
        show Act.put _ (some 29) _ = _
        simp only [Act.put, List.setIfInBounds_toArray, List.set_cons_zero, List.set_cons_succ, i64_w, i32_w]
        rfl
       refine zqp 21 (some 30) (zqB 36 4194303) (any_of HT_.out (by kernel_rfl)) (h := ?_)
       refine zqp 22 (some 31) (zqB 36 8388607) (any_of HT_.out (by kernel_rfl)) (h := ?_)
       refine zqp 23 (some 32) (zqB 36 16777215) (any_of HT_.out (by kernel_rfl)) (h := ?_)
       refine zqp 28 (some 37) (zqB 36 285212671) (any_of HT_.out (by kernel_rfl)) (h := ?_)
       refine zqp 29 (some 38) (zqB 36 822083583) (any_of HT_.out (by kernel_rfl)) (h := ?_)
       refine zqt 24 (some 33) (zqB 36 838860799) (take_ofW HT_.out HW_.out (by kernel_rfl)) hHeld (h := ?_)
       refine zqt 25 (some 34) (zqB 36 872415231) (take_ofW HT_.out HW_.out (by kernel_rfl)) hHeld (h := ?_)
       refine zqt 30 (some 39) (zqB 36 1946157055) (take_ofW HT_.out HW_.out (by kernel_rfl)) hHeld (h := ?_)
       refine zqp 31 (some 40) (zqB 36 4093640703) (any_of HT_.out (by kernel_rfl)) (h := ?_)
       refine zqp 32 (some 41) (zqB 36 8388607999) (any_of HT_.out (by kernel_rfl)) (h := ?_)
       refine zqt 33 (some 42) (zqB 36 16978542591) (take_ofW HT_.out HW_.out (by kernel_rfl)) hHeld (h := ?_)
       refine one_ (i := 26) (N := some 35) (zqB 36 17045651455) rfl rfl (one_of HT_.out (by kernel_rfl)) (by decide) (fun K hK => ?_)
       refine goes_ Try.func41 (by kernel_rfl) rfl #[.agg #[.int .i64 a0_0, .int .i64 a0_1, .int .i64 a0_2, .slice (some ad147) l0_3.length c0_3, .int .i64 a0_4, .int .i64 a0_5, .int .i64 a0_6, .int .i64 a0_7, .int .i64 a0_8, .int .u64 a0_9, .int .u64 a0_10, .int .u64 a0_11], .int .i64 0] (by rfl) rfl rfl (by (try simp only [List.map_toArray, List.map_cons, List.map_nil]); first | done | rfl | (simp only [List.length_drop, List.length_take]; rfl)) ?_
       with_reducible refine (state_here_far.calls a0_0 a0_1 a0_2 _ _ l0_3 a0_4 a0_5 a0_6 a0_7 a0_8 a0_9 a0_10 a0_11 0 t146 _ ?side1 ?side2 A45.out).mono ?_
       (case side1 => repeat (first | exact (Kd.C_below HR0_3.out HB.out) | (with_reducible refine Kd.C_alloc ?_ _) | (with_reducible refine Kd.C_drewN ?_ _) | (with_reducible refine Kd.C_drew ?_)))
       (case side2 => exact HC0_3.out)
       rintro e w59 ⟨rfl, hb⟩
       refine ⟨_, rfl, ?_⟩
       have n0_ := zqi (zqy BK142.out hb)
       have n1_ := zqi (zqy BK143.out hb)
       have n2_ := zqi (zqy BK144.out hb)
       have n3_ := zqi (below_step (zqn HB.out) hb)
       clear BK142
       clear BK143
       clear BK144
       clear HB
       have BK142 := n0_
       have BK143 := n1_
       have BK144 := n2_
       have HB := n3_
       clear n0_ n1_ n2_ n3_
       (try clear hb)
       (try clear hb2)
       (try clear hk)
       (try clear hi)
       refine hK.out _ _ ⟨(zqe BK144.out 0).trans rfl, (zqe BK144.out 1).trans rfl, (zqe BK144.out 2).trans rfl, (zqe BK144.out 3).trans rfl, (zqe BK144.out 4).trans rfl, (zqe BK144.out 5).trans rfl, (zqe BK144.out 6).trans rfl, (zqe BK144.out 7).trans rfl, (zqe BK142.out 0).trans rfl, (zqe BK142.out 1).trans rfl, (zqe BK142.out 2).trans rfl, (zqe BK142.out 3).trans rfl, (zqe BK142.out 4).trans rfl, (zqe BK142.out 5).trans rfl, (zqe BK142.out 6).trans rfl, (zqe BK142.out 7).trans rfl, (zqe BK142.out 8).trans rfl, (zqe BK142.out 9).trans rfl, (zqe BK142.out 10).trans rfl, (zqe BK142.out 11).trans rfl, ((HB.out.cell (World.block_lt_of_cell? w _ hw147_0)).trans hw147_0), ((HB.out.cell (World.block_lt_of_cell? w _ hw147_1)).trans hw147_1), ((HB.out.cell (World.block_lt_of_cell? w _ hw147_2)).trans hw147_2), ((HB.out.cell (World.block_lt_of_cell? w _ hw147_3)).trans hw147_3), ((HB.out.cell (World.block_lt_of_cell? w _ hw147_4)).trans hw147_4), ((HB.out.cell (World.block_lt_of_cell? w _ hw147_5)).trans hw147_5)⟩ (fun hHeld => ?_)
       clear hK K
       refine norm_ (a' := ?_) ?_ ?_
       rotate_left
       ·
        show Act.put _ (some 35) _ = _
        simp only [Act.put, List.setIfInBounds_toArray, List.set_cons_zero, List.set_cons_succ, i64_w, i32_w]
        rfl
       refine zqp 27 (some 36) (zqB 36 17179869183) (any_of HT_.out (by kernel_rfl)) (h := ?_)
       refine zqp 34 (some 43) (zqB 36 34359738367) (any_of HT_.out (by kernel_rfl)) (h := ?_)
       refine zqp 35 (some 44) (zqB 36 68719476735) (any_of HT_.out (by kernel_rfl)) (h := ?_)
       refine done_ (done_of HT_.out (by kernel_rfl)) ?_
       obtain ⟨hcz60_0, hcz60_1, hcz60_2, hcz60_3, hcz60_4, hcz60_5, hcz60_6, hcz60_7, hfz60_0, hfz60_1, hfz60_2, hfz60_3, hfz60_4, hfz60_5, hfz60_6, hfz60_7⟩ := zqz8 BK144.out
       obtain ⟨hcz61_0, hcz61_1, hcz61_2, hcz61_3, hcz61_4, hcz61_5, hcz61_6, hcz61_7, hfz61_0, hfz61_1, hfz61_2, hfz61_3, hfz61_4, hfz61_5, hfz61_6, hfz61_7⟩ := zqz8 BK143.out
       try go_wp2
       refine bodyPost_ret (results_ct rfl _ _ gb143 40 #[.int .i64 a0_4, .int .i64 a0_5, .int .i64 a0_6, .int .i64 a0_7, .int .i64 a0_8, .int .u64 a0_9, .int .u64 a0_10, .int .u64 a0_11] (0, 0) _ rfl (by exact zqC (blk_set (blk_set (blk_set (blk_set (blk_set (blk_set (blk_set (blk_set BK143.out 0 _) 1 _) 2 _) 3 _) 4 _) 5 _) 6 _) 7 _) (by simp only [List.setIfInBounds_toArray, List.set_cons_zero, List.set_cons_succ])) Try.underlying40 rfl (by kernel_rfl)) rfl ?_
       exact ⟨by first | rfl | (simp [errW_none, errW_some] <;> rfl) | (simp [*, errW_none, errW_some] <;> rfl), by repeat (first | (with_reducible first | exact HB.out | apply zqg | apply zqf | apply zqh | refine below_set ?_ GE142.out | refine below_set ?_ GE143.out | refine below_set ?_ GE144.out) | exact HB.out)⟩
      ·
       rw [if_neg c47] at H
       have c47b0 : decide (((rd_T23 l0_3 0).f4) < (wrap64 (a0_6 + t146))) = false := decide_eq_false c47
       clear c47
       simp only [Option.some.injEq, Prod.mk.injEq] at H
       obtain ⟨rfl, rfl, rfl, rfl, rfl, rfl, rfl, rfl, rfl⟩ := H
       go_enter Try.func53, Try.ntmps53
       try go_wp2_with (first | ((with_reducible refine gate_dst (N := 2) rfl ?_); refine box_event ?hg (N := 2) ?hd (cs := #[.int .i64 a0_0, .int .i64 a0_1, .int .i64 a0_2, .slice A0_3 l0_3.length c0_3, .int .i64 a0_4, .int .i64 a0_5, .int .i64 a0_6, .int .i64 a0_7, .int .i64 a0_8, .int .u64 a0_9, .int .u64 a0_10, .int .u64 a0_11]) (t := 69) ?hr ?_; (case hd => rfl); (case hg => rfl); (case hr => first | (go_simp; done) | (go_simp; rfl)); intro gb142 hg w62 hbox hb; have n0_ := zqi (below_step (zqn HB.out) hb); have n1_ := zqi (hbox); have n2_ := zqi (zqo hg HB.out); have n3_ := zqi (zqo hg HB.out); clear HB; have HB := n0_; have BK142 := n1_; have GW142 := n2_; have GE142 := n3_; clear n0_ n1_ n2_ n3_; clear hb hbox hg) | ((with_reducible refine gate_dst (N := 4) rfl ?_); refine box_event ?hg (N := 4) ?hd (cs := #[.int .i64 0, .int .i64 0, .int .i64 0, .int .i64 0, .int .i64 0, .int .u64 0, .int .u64 0, .int .u64 0]) (t := 40) ?hr ?_; (case hd => rfl); (case hg => rfl); (case hr => first | (go_simp; done) | (go_simp; rfl)); intro gb143 hg w63 hbox hb; have n0_ := zqi (zqy BK142.out hb); have n1_ := zqi (below_step (zqn HB.out) hb); have n2_ := zqi (hbox); have n3_ := zqi (zqo hg HB.out); have n4_ := zqi (zqo hg HB.out); have n5_ := zqi ((zqq hg BK142.out)); have n6_ := zqi ((zqr hg BK142.out)); clear BK142; clear HB; have BK142 := n0_; have HB := n1_; have BK143 := n2_; have GW143 := n3_; have GE143 := n4_; have NB142_143 := n5_; have NB143_142 := n6_; clear n0_ n1_ n2_ n3_ n4_ n5_ n6_; clear hb hbox hg; have hnb64 := NB142_143.out; have hnc64 := NB143_142.out; obtain ⟨hcz65_0, hcz65_1, hcz65_2, hcz65_3, hcz65_4, hcz65_5, hcz65_6, hcz65_7, hcz65_8, hcz65_9, hcz65_10, hcz65_11, hfz65_0, hfz65_1, hfz65_2, hfz65_3, hfz65_4, hfz65_5, hfz65_6, hfz65_7, hfz65_8, hfz65_9, hfz65_10, hfz65_11⟩ := zqz12 BK142.out) | ((with_reducible refine gate_dst (N := 6) rfl ?_); refine box_event ?hg (N := 6) ?hd (cs := #[.int .i64 0, .int .i64 0, .int .i64 0, .int .i64 0, .int .i64 0, .int .u64 0, .int .u64 0, .int .u64 0]) (t := 40) ?hr ?_; (case hd => rfl); (case hg => rfl); (case hr => first | (go_simp; done) | (go_simp; rfl)); intro gb144 hg w66 hbox hb; have n0_ := zqi (zqy BK142.out hb); have n1_ := zqi (zqy BK143.out hb); have n2_ := zqi (below_step (zqn HB.out) hb); have n3_ := zqi (hbox); have n4_ := zqi (zqo hg HB.out); have n5_ := zqi (zqo hg HB.out); have n6_ := zqi ((zqq hg BK142.out)); have n7_ := zqi ((zqr hg BK142.out)); have n8_ := zqi ((zqq hg BK143.out)); have n9_ := zqi ((zqr hg BK143.out)); clear BK142; clear BK143; clear HB; have BK142 := n0_; have BK143 := n1_; have HB := n2_; have BK144 := n3_; have GW144 := n4_; have GE144 := n5_; have NB142_144 := n6_; have NB144_142 := n7_; have NB143_144 := n8_; have NB144_143 := n9_; clear n0_ n1_ n2_ n3_ n4_ n5_ n6_ n7_ n8_ n9_; clear hb hbox hg; have hnb67 := NB144_142.out; have hnc67 := NB142_144.out; have hnb68 := NB144_143.out; have hnc68 := NB143_144.out; obtain ⟨hcz69_0, hcz69_1, hcz69_2, hcz69_3, hcz69_4, hcz69_5, hcz69_6, hcz69_7, hfz69_0, hfz69_1, hfz69_2, hfz69_3, hfz69_4, hfz69_5, hfz69_6, hfz69_7⟩ := zqz8 BK144.out))
       generalize hW_ : ((((((((w66.setCell ⟨gb144, 0, none⟩ (.int .i64 a0_4)).setCell ⟨gb144, 1, none⟩ (.int .i64 a0_5)).setCell ⟨gb144, 2, none⟩ (.int .i64 a0_6)).setCell ⟨gb144, 3, none⟩ (.int .i64 a0_7)).setCell ⟨gb144, 4, none⟩ (.int .i64 a0_8)).setCell ⟨gb144, 5, none⟩ (.int .u64 a0_9)).setCell ⟨gb144, 6, none⟩ (.int .u64 a0_10)).setCell ⟨gb144, 7, none⟩ (.int .u64 a0_11)) = w70
       have n0_ : Aside0 (w70.heap[gb142]? = some (.cells #[.int .i64 a0_0, .int .i64 a0_1, .int .i64 a0_2, .slice A0_3 l0_3.length c0_3, .int .i64 a0_4, .int .i64 a0_5, .int .i64 a0_6, .int .i64 a0_7, .int .i64 a0_8, .int .u64 a0_9, .int .u64 a0_10, .int .u64 a0_11] 69 (0, 0))) := ⟨by subst hW_; (repeat (with_reducible first | apply zqa | apply zqb | apply zqc | refine blk_far ?_ NB142_144.out _)); exact BK142.out⟩
       have n1_ : Aside0 (w70.heap[gb143]? = some (.cells #[.int .i64 0, .int .i64 0, .int .i64 0, .int .i64 0, .int .i64 0, .int .u64 0, .int .u64 0, .int .u64 0] 40 (0, 0))) := ⟨by subst hW_; (repeat (with_reducible first | apply zqa | apply zqb | apply zqc | refine blk_far ?_ NB143_144.out _)); exact BK143.out⟩
       have n2_ : Aside0 (w70.heap[gb144]? = some (.cells #[.int .i64 a0_4, .int .i64 a0_5, .int .i64 a0_6, .int .i64 a0_7, .int .i64 a0_8, .int .u64 a0_9, .int .u64 a0_10, .int .u64 a0_11] 40 (0, 0))) := ⟨by subst hW_; exact zqC (blk_set (blk_set (blk_set (blk_set (blk_set (blk_set (blk_set (blk_set BK144.out 0 _) 1 _) 2 _) 3 _) 4 _) 5 _) 6 _) 7 _) (by simp only [List.setIfInBounds_toArray, List.set_cons_zero, List.set_cons_succ])⟩
       have n3_ : Aside0 (Below w.heap.size w w70) := ⟨by subst hW_; repeat (first | (with_reducible first | exact HB.out | apply zqg | apply zqf | apply zqh | refine below_set ?_ GE142.out | refine below_set ?_ GE143.out | refine below_set ?_ GE144.out) | exact HB.out)⟩
       clear hW_
       (try clear BK142)
       (try clear BK143)
       (try clear BK144)
       (try clear HB)
       have BK142 := n0_
       have BK143 := n1_
       have BK144 := n2_
       have HB := n3_
       clear n0_ n1_ n2_ n3_
       have n0_ := zqi (zqb BK142.out)
       have n1_ := zqi (zqb BK143.out)
       have n2_ := zqi (zqb BK144.out)
       have n3_ := zqi (zqh HB.out)
       clear BK142
       clear BK143
       clear BK144
       clear HB
       have BK142 := n0_
       have BK143 := n1_
       have BK144 := n2_
       have HB := n3_
       clear n0_ n1_ n2_ n3_
       have p147 : 0 ≤ (0 : Int) := (by omega)
       have q147 : 0 < (l0_3.length : Int) := of_decide_eq_true (by first | (with_reducible assumption) | assumption)
       obtain ⟨ad147, e147, hx147_0, hx147_1, hx147_2, hx147_3, hx147_4, hx147_5⟩ := at_T23 HR0_3.out 0 p147 q147
       have hw147_5 := hx147_5
       (try rw [show ((0 : Int)).toNat = 0 from rfl] at hw147_5)
       (try rw [show 0 * 6 = 0 from rfl] at hw147_5)
       (try rw [Addr.add_zero'] at hw147_5)
       have hw147_4 := hx147_4
       (try rw [show ((0 : Int)).toNat = 0 from rfl] at hw147_4)
       (try rw [show 0 * 6 = 0 from rfl] at hw147_4)
       (try rw [Addr.add_zero'] at hw147_4)
       have hw147_3 := hx147_3
       (try rw [show ((0 : Int)).toNat = 0 from rfl] at hw147_3)
       (try rw [show 0 * 6 = 0 from rfl] at hw147_3)
       (try rw [Addr.add_zero'] at hw147_3)
       have hw147_2 := hx147_2
       (try rw [show ((0 : Int)).toNat = 0 from rfl] at hw147_2)
       (try rw [show 0 * 6 = 0 from rfl] at hw147_2)
       (try rw [Addr.add_zero'] at hw147_2)
       have hw147_1 := hx147_1
       (try rw [show ((0 : Int)).toNat = 0 from rfl] at hw147_1)
       (try rw [show 0 * 6 = 0 from rfl] at hw147_1)
       (try rw [Addr.add_zero'] at hw147_1)
       have hw147_0 := hx147_0
       (try rw [show ((0 : Int)).toNat = 0 from rfl] at hw147_0)
       (try rw [show 0 * 6 = 0 from rfl] at hw147_0)
       (try rw [Addr.add_zero'] at hw147_0)
       cases e147
       have qi147 : (0 < l0_3.length) = True := eq_true (by omega)
       (try rw [show ((0 : Int)).toNat = 0 from rfl] at hx147_0)
       (try rw [show 0 * 6 = 0 from rfl] at hx147_0)
       (try rw [Addr.add_zero'] at hx147_0)
       (try rw [show ((0 : Int)).toNat = 0 from rfl] at hx147_1)
       (try rw [show 0 * 6 = 0 from rfl] at hx147_1)
       (try rw [Addr.add_zero'] at hx147_1)
       (try rw [show ((0 : Int)).toNat = 0 from rfl] at hx147_2)
       (try rw [show 0 * 6 = 0 from rfl] at hx147_2)
       (try rw [Addr.add_zero'] at hx147_2)
       (try rw [show ((0 : Int)).toNat = 0 from rfl] at hx147_3)
       (try rw [show 0 * 6 = 0 from rfl] at hx147_3)
       (try rw [Addr.add_zero'] at hx147_3)
       (try rw [show ((0 : Int)).toNat = 0 from rfl] at hx147_4)
       (try rw [show 0 * 6 = 0 from rfl] at hx147_4)
       (try rw [Addr.add_zero'] at hx147_4)
       (try rw [show ((0 : Int)).toNat = 0 from rfl] at hx147_5)
       (try rw [show 0 * 6 = 0 from rfl] at hx147_5)
       (try rw [Addr.add_zero'] at hx147_5)
       replace hx147_0 := (HB.out.cell (World.block_lt_of_cell? w _ hx147_0)).trans hx147_0
       replace hx147_1 := (HB.out.cell (World.block_lt_of_cell? w _ hx147_1)).trans hx147_1
       replace hx147_2 := (HB.out.cell (World.block_lt_of_cell? w _ hx147_2)).trans hx147_2
       replace hx147_3 := (HB.out.cell (World.block_lt_of_cell? w _ hx147_3)).trans hx147_3
       replace hx147_4 := (HB.out.cell (World.block_lt_of_cell? w _ hx147_4)).trans hx147_4
       replace hx147_5 := (HB.out.cell (World.block_lt_of_cell? w _ hx147_5)).trans hx147_5
       replace p147 := eq_true p147
       replace q147 := eq_true q147
       refine start_ (n := 36) (S := fun w' => w'.cell? ⟨gb144, 0, none⟩ = some (.int .i64 a0_4) ∧ w'.cell? ⟨gb144, 1, none⟩ = some (.int .i64 a0_5) ∧ w'.cell? ⟨gb144, 2, none⟩ = some (.int .i64 a0_6) ∧ w'.cell? ⟨gb144, 3, none⟩ = some (.int .i64 a0_7) ∧ w'.cell? ⟨gb144, 4, none⟩ = some (.int .i64 a0_8) ∧ w'.cell? ⟨gb144, 5, none⟩ = some (.int .u64 a0_9) ∧ w'.cell? ⟨gb144, 6, none⟩ = some (.int .u64 a0_10) ∧ w'.cell? ⟨gb144, 7, none⟩ = some (.int .u64 a0_11) ∧ w'.cell? ⟨gb142, 0, none⟩ = some (.int .i64 a0_0) ∧ w'.cell? ⟨gb142, 1, none⟩ = some (.int .i64 a0_1) ∧ w'.cell? ⟨gb142, 2, none⟩ = some (.int .i64 a0_2) ∧ w'.cell? ⟨gb142, 3, none⟩ = some (.slice (some ad147) l0_3.length c0_3) ∧ w'.cell? ⟨gb142, 4, none⟩ = some (.int .i64 a0_4) ∧ w'.cell? ⟨gb142, 5, none⟩ = some (.int .i64 a0_5) ∧ w'.cell? ⟨gb142, 6, none⟩ = some (.int .i64 a0_6) ∧ w'.cell? ⟨gb142, 7, none⟩ = some (.int .i64 a0_7) ∧ w'.cell? ⟨gb142, 8, none⟩ = some (.int .i64 a0_8) ∧ w'.cell? ⟨gb142, 9, none⟩ = some (.int .u64 a0_9) ∧ w'.cell? ⟨gb142, 10, none⟩ = some (.int .u64 a0_10) ∧ w'.cell? ⟨gb142, 11, none⟩ = some (.int .u64 a0_11) ∧ w'.cell? ad147 = some (.int .i64 ((rd_T23 l0_3 0).f0)) ∧ w'.cell? ⟨ad147.block, ad147.off + 1, none⟩ = some (.int .i64 ((rd_T23 l0_3 0).f1)) ∧ w'.cell? ⟨ad147.block, ad147.off + 2, none⟩ = some (.int .i64 ((rd_T23 l0_3 0).f2)) ∧ w'.cell? ⟨ad147.block, ad147.off + 3, none⟩ = some (.int .i64 ((rd_T23 l0_3 0).f3)) ∧ w'.cell? ⟨ad147.block, ad147.off + 4, none⟩ = some (.int .i64 ((rd_T23 l0_3 0).f4)) ∧ w'.cell? ⟨ad147.block, ad147.off + 5, none⟩ = some (.int .i64 ((rd_T23 l0_3 0).f5))) (ds := []) (zqB 36 0) (by kernel_rfl) rfl rfl ⟨(zqe BK144.out 0).trans rfl, (zqe BK144.out 1).trans rfl, (zqe BK144.out 2).trans rfl, (zqe BK144.out 3).trans rfl, (zqe BK144.out 4).trans rfl, (zqe BK144.out 5).trans rfl, (zqe BK144.out 6).trans rfl, (zqe BK144.out 7).trans rfl, (zqe BK142.out 0).trans rfl, (zqe BK142.out 1).trans rfl, (zqe BK142.out 2).trans rfl, (zqe BK142.out 3).trans rfl, (zqe BK142.out 4).trans rfl, (zqe BK142.out 5).trans rfl, (zqe BK142.out 6).trans rfl, (zqe BK142.out 7).trans rfl, (zqe BK142.out 8).trans rfl, (zqe BK142.out 9).trans rfl, (zqe BK142.out 10).trans rfl, (zqe BK142.out 11).trans rfl, ((HB.out.cell (World.block_lt_of_cell? w _ hw147_0)).trans hw147_0), ((HB.out.cell (World.block_lt_of_cell? w _ hw147_1)).trans hw147_1), ((HB.out.cell (World.block_lt_of_cell? w _ hw147_2)).trans hw147_2), ((HB.out.cell (World.block_lt_of_cell? w _ hw147_3)).trans hw147_3), ((HB.out.cell (World.block_lt_of_cell? w _ hw147_4)).trans hw147_4), ((HB.out.cell (World.block_lt_of_cell? w _ hw147_5)).trans hw147_5)⟩ (fun hHeld => ?_); refine with_tabW state_here_home.tab2 state_here_home.bits2 (fun HT_ HW_ => ?_)
       generalize w70.drew = w71 at BK142 BK143 BK144 HB hx147_0 hx147_1 hx147_2 hx147_3 hx147_4 hx147_5 hHeld ⊢
       refine zqp 0 (some 9) (zqB 36 1) (any_of HT_.out (by kernel_rfl)) (h := ?_)
       refine zqt 1 (some 10) (zqB 36 3) (take_ofW HT_.out HW_.out (by kernel_rfl)) hHeld (h := ?_)
       refine zqp 2 (some 11) (zqB 36 7) (any_of HT_.out (by kernel_rfl)) (h := ?_)
       refine zqp 3 (some 12) (zqB 36 15) (any_of HT_.out (by kernel_rfl)) (h := ?_)
       refine zqp 4 (some 13) (zqB 36 31) (any_of HT_.out (by kernel_rfl)) (h := ?_)
       refine zqt 5 (some 14) (zqB 36 63) (take_ofW HT_.out HW_.out (by kernel_rfl)) hHeld (h := ?_)
       refine zqp 6 (some 15) (zqB 36 127) (any_of HT_.out (by kernel_rfl)) (h := ?_)
       refine zqp 7 (some 16) (zqB 36 255) (any_of HT_.out (by kernel_rfl)) (h := ?_)
       refine zqp 8 (some 17) (zqB 36 511) (any_of HT_.out (by kernel_rfl)) (h := ?_)
       refine zqp 9 (some 18) (zqB 36 1023) (any_of HT_.out (by kernel_rfl)) (h := ?_)
       refine zqp 11 (some 20) (zqB 36 3071) (any_of HT_.out (by kernel_rfl)) (h := ?_)
       refine zqp 12 (some 21) (zqB 36 7167) (any_of HT_.out (by kernel_rfl)) (h := ?_)
       refine zqt 10 (some 19) (zqB 36 8191) (take_ofW HT_.out HW_.out (by kernel_rfl)) hHeld (h := ?_)
       refine zqt 13 (some 22) (zqB 36 16383) (take_ofW HT_.out HW_.out (by kernel_rfl)) hHeld (h := ?_)
       refine zqp 14 (some 23) (zqB 36 32767) (any_of HT_.out (by kernel_rfl)) (h := ?_)
       refine zqp 15 (some 24) (zqB 36 65535) (any_of HT_.out (by kernel_rfl)) (h := ?_)
       refine zqp 16 (some 25) (zqB 36 131071) (any_of HT_.out (by kernel_rfl)) (h := ?_)
       refine zqp 18 (some 27) (zqB 36 393215) (any_of HT_.out (by kernel_rfl)) (h := ?_)
       refine zqt 17 (some 26) (zqB 36 524287) (take_ofW HT_.out HW_.out (by kernel_rfl)) hHeld (h := ?_)
       refine zqt 19 (some 28) (zqB 36 1048575) (take_ofW HT_.out HW_.out (by kernel_rfl)) hHeld (h := ?_)
       refine one_ (i := 20) (N := some 29) (zqB 36 2097151) rfl rfl (one_of HT_.out (by kernel_rfl)) (by decide) (fun K hK => ?_)
       refine goes_ Try.func40 (by kernel_rfl) rfl #[.agg #[.int .i64 a0_0, .int .i64 a0_1, .int .i64 a0_2, .slice (some ad147) l0_3.length c0_3, .int .i64 a0_4, .int .i64 a0_5, .int .i64 a0_6, .int .i64 a0_7, .int .i64 a0_8, .int .u64 a0_9, .int .u64 a0_10, .int .u64 a0_11], .int .u64 a0_9] (by rfl) rfl rfl (by (try simp only [List.map_toArray, List.map_cons, List.map_nil]); first | done | rfl | (simp only [List.length_drop, List.length_take]; rfl)) ?_
       with_reducible refine (state_here_all.calls k a0_0 a0_1 a0_2 _ _ l0_3 a0_4 a0_5 a0_6 a0_7 a0_8 a0_9 a0_10 a0_11 a0_9 false _ ?side1 ?side2 A30.out).mono ?_
       (case side1 => repeat (first | exact (Kd.C_below HR0_3.out HB.out) | (with_reducible refine Kd.C_alloc ?_ _) | (with_reducible refine Kd.C_drewN ?_ _) | (with_reducible refine Kd.C_drew ?_)))
       (case side2 => exact HC0_3.out)
       rintro e w72 ⟨rfl, hb⟩
       refine ⟨_, rfl, ?_⟩
       have n0_ := zqi (zqy BK142.out hb)
       have n1_ := zqi (zqy BK143.out hb)
       have n2_ := zqi (zqy BK144.out hb)
       have n3_ := zqi (below_step (zqn HB.out) hb)
       clear BK142
       clear BK143
       clear BK144
       clear HB
       have BK142 := n0_
       have BK143 := n1_
       have BK144 := n2_
       have HB := n3_
       clear n0_ n1_ n2_ n3_
       (try clear hb)
       (try clear hb2)
       (try clear hk)
       (try clear hi)
       refine hK.out _ _ ⟨(zqe BK144.out 0).trans rfl, (zqe BK144.out 1).trans rfl, (zqe BK144.out 2).trans rfl, (zqe BK144.out 3).trans rfl, (zqe BK144.out 4).trans rfl, (zqe BK144.out 5).trans rfl, (zqe BK144.out 6).trans rfl, (zqe BK144.out 7).trans rfl, (zqe BK142.out 0).trans rfl, (zqe BK142.out 1).trans rfl, (zqe BK142.out 2).trans rfl, (zqe BK142.out 3).trans rfl, (zqe BK142.out 4).trans rfl, (zqe BK142.out 5).trans rfl, (zqe BK142.out 6).trans rfl, (zqe BK142.out 7).trans rfl, (zqe BK142.out 8).trans rfl, (zqe BK142.out 9).trans rfl, (zqe BK142.out 10).trans rfl, (zqe BK142.out 11).trans rfl, ((HB.out.cell (World.block_lt_of_cell? w _ hw147_0)).trans hw147_0), ((HB.out.cell (World.block_lt_of_cell? w _ hw147_1)).trans hw147_1), ((HB.out.cell (World.block_lt_of_cell? w _ hw147_2)).trans hw147_2), ((HB.out.cell (World.block_lt_of_cell? w _ hw147_3)).trans hw147_3), ((HB.out.cell (World.block_lt_of_cell? w _ hw147_4)).trans hw147_4), ((HB.out.cell (World.block_lt_of_cell? w _ hw147_5)).trans hw147_5)⟩ (fun hHeld => ?_)
       clear hK K
       refine norm_ (a' := ?_) ?_ ?_
       rotate_left
       ·
        show Act.put _ (some 29) _ = _
        simp only [Act.put, List.setIfInBounds_toArray, List.set_cons_zero, List.set_cons_succ, i64_w, i32_w]
        rfl
       refine zqp 21 (some 30) (zqB 36 4194303) (any_of HT_.out (by kernel_rfl)) (h := ?_)
       refine zqp 22 (some 31) (zqB 36 8388607) (any_of HT_.out (by kernel_rfl)) (h := ?_)
       refine zqp 23 (some 32) (zqB 36 16777215) (any_of HT_.out (by kernel_rfl)) (h := ?_)
       refine zqp 28 (some 37) (zqB 36 285212671) (any_of HT_.out (by kernel_rfl)) (h := ?_)
       refine zqp 29 (some 38) (zqB 36 822083583) (any_of HT_.out (by kernel_rfl)) (h := ?_)
       refine zqt 24 (some 33) (zqB 36 838860799) (take_ofW HT_.out HW_.out (by kernel_rfl)) hHeld (h := ?_)
       refine zqt 25 (some 34) (zqB 36 872415231) (take_ofW HT_.out HW_.out (by kernel_rfl)) hHeld (h := ?_)
       refine zqt 30 (some 39) (zqB 36 1946157055) (take_ofW HT_.out HW_.out (by kernel_rfl)) hHeld (h := ?_)
       refine zqp 31 (some 40) (zqB 36 4093640703) (any_of HT_.out (by kernel_rfl)) (h := ?_)
       refine zqp 32 (some 41) (zqB 36 8388607999) (any_of HT_.out (by kernel_rfl)) (h := ?_)
       refine zqt 33 (some 42) (zqB 36 16978542591) (take_ofW HT_.out HW_.out (by kernel_rfl)) hHeld (h := ?_)
       refine one_ (i := 26) (N := some 35) (zqB 36 17045651455) rfl rfl (one_of HT_.out (by kernel_rfl)) (by decide) (fun K hK => ?_)
       refine goes_ Try.func41 (by kernel_rfl) rfl #[.agg #[.int .i64 a0_0, .int .i64 a0_1, .int .i64 a0_2, .slice (some ad147) l0_3.length c0_3, .int .i64 a0_4, .int .i64 a0_5, .int .i64 a0_6, .int .i64 a0_7, .int .i64 a0_8, .int .u64 a0_9, .int .u64 a0_10, .int .u64 a0_11], .int .i64 0] (by rfl) rfl rfl (by (try simp only [List.map_toArray, List.map_cons, List.map_nil]); first | done | rfl | (simp only [List.length_drop, List.length_take]; rfl)) ?_
       with_reducible refine (state_here_far.calls a0_0 a0_1 a0_2 _ _ l0_3 a0_4 a0_5 a0_6 a0_7 a0_8 a0_9 a0_10 a0_11 0 t146 _ ?side1 ?side2 A45.out).mono ?_
       (case side1 => repeat (first | exact (Kd.C_below HR0_3.out HB.out) | (with_reducible refine Kd.C_alloc ?_ _) | (with_reducible refine Kd.C_drewN ?_ _) | (with_reducible refine Kd.C_drew ?_)))
       (case side2 => exact HC0_3.out)
       rintro e w73 ⟨rfl, hb⟩
       refine ⟨_, rfl, ?_⟩
       have n0_ := zqi (zqy BK142.out hb)
       have n1_ := zqi (zqy BK143.out hb)
       have n2_ := zqi (zqy BK144.out hb)
       have n3_ := zqi (below_step (zqn HB.out) hb)
       clear BK142
       clear BK143
       clear BK144
       clear HB
       have BK142 := n0_
       have BK143 := n1_
       have BK144 := n2_
       have HB := n3_
       clear n0_ n1_ n2_ n3_
       (try clear hb)
       (try clear hb2)
       (try clear hk)
       (try clear hi)
       refine hK.out _ _ ⟨(zqe BK144.out 0).trans rfl, (zqe BK144.out 1).trans rfl, (zqe BK144.out 2).trans rfl, (zqe BK144.out 3).trans rfl, (zqe BK144.out 4).trans rfl, (zqe BK144.out 5).trans rfl, (zqe BK144.out 6).trans rfl, (zqe BK144.out 7).trans rfl, (zqe BK142.out 0).trans rfl, (zqe BK142.out 1).trans rfl, (zqe BK142.out 2).trans rfl, (zqe BK142.out 3).trans rfl, (zqe BK142.out 4).trans rfl, (zqe BK142.out 5).trans rfl, (zqe BK142.out 6).trans rfl, (zqe BK142.out 7).trans rfl, (zqe BK142.out 8).trans rfl, (zqe BK142.out 9).trans rfl, (zqe BK142.out 10).trans rfl, (zqe BK142.out 11).trans rfl, ((HB.out.cell (World.block_lt_of_cell? w _ hw147_0)).trans hw147_0), ((HB.out.cell (World.block_lt_of_cell? w _ hw147_1)).trans hw147_1), ((HB.out.cell (World.block_lt_of_cell? w _ hw147_2)).trans hw147_2), ((HB.out.cell (World.block_lt_of_cell? w _ hw147_3)).trans hw147_3), ((HB.out.cell (World.block_lt_of_cell? w _ hw147_4)).trans hw147_4), ((HB.out.cell (World.block_lt_of_cell? w _ hw147_5)).trans hw147_5)⟩ (fun hHeld => ?_)
       clear hK K
       refine norm_ (a' := ?_) ?_ ?_
       rotate_left
       ·
        show Act.put _ (some 35) _ = _
        simp only [Act.put, List.setIfInBounds_toArray, List.set_cons_zero, List.set_cons_succ, i64_w, i32_w]
        rfl
       refine zqp 27 (some 36) (zqB 36 17179869183) (any_of HT_.out (by kernel_rfl)) (h := ?_)
       refine zqp 34 (some 43) (zqB 36 34359738367) (any_of HT_.out (by kernel_rfl)) (h := ?_)
       refine zqp 35 (some 44) (zqB 36 68719476735) (any_of HT_.out (by kernel_rfl)) (h := ?_)
       refine done_ (done_of HT_.out (by kernel_rfl)) ?_
       try go_wp2
       have n0_ := zqi (zqb BK142.out)
       have n1_ := zqi (zqb BK143.out)
       have n2_ := zqi (zqb BK144.out)
       have n3_ := zqi (zqh HB.out)
       clear BK142
       clear BK143
       clear BK144
       clear HB
       have BK142 := n0_
       have BK143 := n1_
       have BK144 := n2_
       have HB := n3_
       clear n0_ n1_ n2_ n3_
       have p148 : 0 ≤ (0 : Int) := (by omega)
       have q148 : 0 < (l0_3.length : Int) := of_decide_eq_true (by first | (with_reducible assumption) | assumption)
       obtain ⟨ad148, e148, hx148_0, hx148_1, hx148_2, hx148_3, hx148_4, hx148_5⟩ := at_T23 HR0_3.out 0 p148 q148
       have hw148_5 := hx148_5
       (try rw [show ((0 : Int)).toNat = 0 from rfl] at hw148_5)
       (try rw [show 0 * 6 = 0 from rfl] at hw148_5)
       (try rw [Addr.add_zero'] at hw148_5)
       have hw148_4 := hx148_4
       (try rw [show ((0 : Int)).toNat = 0 from rfl] at hw148_4)
       (try rw [show 0 * 6 = 0 from rfl] at hw148_4)
       (try rw [Addr.add_zero'] at hw148_4)
       have hw148_3 := hx148_3
       (try rw [show ((0 : Int)).toNat = 0 from rfl] at hw148_3)
       (try rw [show 0 * 6 = 0 from rfl] at hw148_3)
       (try rw [Addr.add_zero'] at hw148_3)
       have hw148_2 := hx148_2
       (try rw [show ((0 : Int)).toNat = 0 from rfl] at hw148_2)
       (try rw [show 0 * 6 = 0 from rfl] at hw148_2)
       (try rw [Addr.add_zero'] at hw148_2)
       have hw148_1 := hx148_1
       (try rw [show ((0 : Int)).toNat = 0 from rfl] at hw148_1)
       (try rw [show 0 * 6 = 0 from rfl] at hw148_1)
       (try rw [Addr.add_zero'] at hw148_1)
       have hw148_0 := hx148_0
       (try rw [show ((0 : Int)).toNat = 0 from rfl] at hw148_0)
       (try rw [show 0 * 6 = 0 from rfl] at hw148_0)
       (try rw [Addr.add_zero'] at hw148_0)
       obtain rfl : ad147 = ad148 := (by injection e148)
       have qi148 : (0 < l0_3.length) = True := eq_true (by omega)
       (try rw [show ((0 : Int)).toNat = 0 from rfl] at hx148_0)
       (try rw [show 0 * 6 = 0 from rfl] at hx148_0)
       (try rw [Addr.add_zero'] at hx148_0)
       (try rw [show ((0 : Int)).toNat = 0 from rfl] at hx148_1)
       (try rw [show 0 * 6 = 0 from rfl] at hx148_1)
       (try rw [Addr.add_zero'] at hx148_1)
       (try rw [show ((0 : Int)).toNat = 0 from rfl] at hx148_2)
       (try rw [show 0 * 6 = 0 from rfl] at hx148_2)
       (try rw [Addr.add_zero'] at hx148_2)
       (try rw [show ((0 : Int)).toNat = 0 from rfl] at hx148_3)
       (try rw [show 0 * 6 = 0 from rfl] at hx148_3)
       (try rw [Addr.add_zero'] at hx148_3)
       (try rw [show ((0 : Int)).toNat = 0 from rfl] at hx148_4)
       (try rw [show 0 * 6 = 0 from rfl] at hx148_4)
       (try rw [Addr.add_zero'] at hx148_4)
       (try rw [show ((0 : Int)).toNat = 0 from rfl] at hx148_5)
       (try rw [show 0 * 6 = 0 from rfl] at hx148_5)
       (try rw [Addr.add_zero'] at hx148_5)
       replace hx148_0 := (HB.out.cell (World.block_lt_of_cell? w _ hx148_0)).trans hx148_0
       replace hx148_1 := (HB.out.cell (World.block_lt_of_cell? w _ hx148_1)).trans hx148_1
       replace hx148_2 := (HB.out.cell (World.block_lt_of_cell? w _ hx148_2)).trans hx148_2
       replace hx148_3 := (HB.out.cell (World.block_lt_of_cell? w _ hx148_3)).trans hx148_3
       replace hx148_4 := (HB.out.cell (World.block_lt_of_cell? w _ hx148_4)).trans hx148_4
       replace hx148_5 := (HB.out.cell (World.block_lt_of_cell? w _ hx148_5)).trans hx148_5
       replace p148 := eq_true p148
       replace q148 := eq_true q148
       refine start_ (n := 17) (S := fun w' => w'.cell? ⟨gb142, 0, none⟩ = some (.int .i64 a0_0) ∧ w'.cell? ⟨gb142, 1, none⟩ = some (.int .i64 a0_1) ∧ w'.cell? ⟨gb142, 2, none⟩ = some (.int .i64 a0_2) ∧ w'.cell? ⟨gb142, 3, none⟩ = some (.slice (some ad147) l0_3.length c0_3) ∧ w'.cell? ⟨gb142, 4, none⟩ = some (.int .i64 a0_4) ∧ w'.cell? ⟨gb142, 5, none⟩ = some (.int .i64 a0_5) ∧ w'.cell? ⟨gb142, 6, none⟩ = some (.int .i64 a0_6) ∧ w'.cell? ⟨gb142, 7, none⟩ = some (.int .i64 a0_7) ∧ w'.cell? ⟨gb142, 8, none⟩ = some (.int .i64 a0_8) ∧ w'.cell? ⟨gb142, 9, none⟩ = some (.int .u64 a0_9) ∧ w'.cell? ⟨gb142, 10, none⟩ = some (.int .u64 a0_10) ∧ w'.cell? ⟨gb142, 11, none⟩ = some (.int .u64 a0_11) ∧ w'.cell? ad147 = some (.int .i64 ((rd_T23 l0_3 0).f0)) ∧ w'.cell? ⟨ad147.block, ad147.off + 1, none⟩ = some (.int .i64 ((rd_T23 l0_3 0).f1)) ∧ w'.cell? ⟨ad147.block, ad147.off + 2, none⟩ = some (.int .i64 ((rd_T23 l0_3 0).f2)) ∧ w'.cell? ⟨ad147.block, ad147.off + 3, none⟩ = some (.int .i64 ((rd_T23 l0_3 0).f3)) ∧ w'.cell? ⟨ad147.block, ad147.off + 4, none⟩ = some (.int .i64 ((rd_T23 l0_3 0).f4)) ∧ w'.cell? ⟨ad147.block, ad147.off + 5, none⟩ = some (.int .i64 ((rd_T23 l0_3 0).f5))) (ds := []) (zqB 17 0) (by kernel_rfl) rfl rfl ⟨(zqe BK142.out 0).trans rfl, (zqe BK142.out 1).trans rfl, (zqe BK142.out 2).trans rfl, (zqe BK142.out 3).trans rfl, (zqe BK142.out 4).trans rfl, (zqe BK142.out 5).trans rfl, (zqe BK142.out 6).trans rfl, (zqe BK142.out 7).trans rfl, (zqe BK142.out 8).trans rfl, (zqe BK142.out 9).trans rfl, (zqe BK142.out 10).trans rfl, (zqe BK142.out 11).trans rfl, ((HB.out.cell (World.block_lt_of_cell? w _ hw148_0)).trans hw148_0), ((HB.out.cell (World.block_lt_of_cell? w _ hw148_1)).trans hw148_1), ((HB.out.cell (World.block_lt_of_cell? w _ hw148_2)).trans hw148_2), ((HB.out.cell (World.block_lt_of_cell? w _ hw148_3)).trans hw148_3), ((HB.out.cell (World.block_lt_of_cell? w _ hw148_4)).trans hw148_4), ((HB.out.cell (World.block_lt_of_cell? w _ hw148_5)).trans hw148_5)⟩ (fun hHeld => ?_); refine with_tabW state_here_home.tab4 state_here_home.bits4 (fun HT_ HW_ => ?_)
       generalize w73.drew = w74 at BK142 BK143 BK144 HB hx148_0 hx148_1 hx148_2 hx148_3 hx148_4 hx148_5 hHeld ⊢
       refine zqp 0 (some 46) (zqB 17 1) (any_of HT_.out (by kernel_rfl)) (h := ?_)
       refine zqp 3 (some 49) (zqB 17 9) (any_of HT_.out (by kernel_rfl)) (h := ?_)
       refine zqp 4 (some 50) (zqB 17 25) (any_of HT_.out (by kernel_rfl)) (h := ?_)
       refine zqt 5 (some 51) (zqB 17 57) (take_ofW HT_.out HW_.out (by kernel_rfl)) hHeld (h := ?_)
       refine zqp 6 (some 52) (zqB 17 121) (any_of HT_.out (by kernel_rfl)) (h := ?_)
       refine zqp 7 (some 53) (zqB 17 249) (any_of HT_.out (by kernel_rfl)) (h := ?_)
       refine zqt 8 (some 54) (zqB 17 505) (take_ofW HT_.out HW_.out (by kernel_rfl)) hHeld (h := ?_)
       refine one_ (i := 1) (N := some 47) (zqB 17 507) rfl rfl (one_of HT_.out (by kernel_rfl)) (by decide) (fun K hK => ?_)
       have hz1_ := (zqe BK144.out 1).trans (rfl : _ = some ((.int .i64 a0_5) : Value))
       refine value_ (w1 := ?_) (v := ?_) (by rfl) rfl ?_ ?_
       rotate_left 2
       ·
        go_simp
        constructor
        ·
         rfl
        ·
         rfl
       refine hK.out _ _ ⟨hHeld.1, hHeld.2.1, hHeld.2.2.1, hHeld.2.2.2.1, hHeld.2.2.2.2.1, hHeld.2.2.2.2.2.1, hHeld.2.2.2.2.2.2.1, hHeld.2.2.2.2.2.2.2.1, hHeld.2.2.2.2.2.2.2.2.1, hHeld.2.2.2.2.2.2.2.2.2.1, hHeld.2.2.2.2.2.2.2.2.2.2.1, hHeld.2.2.2.2.2.2.2.2.2.2.2.1, hHeld.2.2.2.2.2.2.2.2.2.2.2.2.1, hHeld.2.2.2.2.2.2.2.2.2.2.2.2.2.1, hHeld.2.2.2.2.2.2.2.2.2.2.2.2.2.2.1, hHeld.2.2.2.2.2.2.2.2.2.2.2.2.2.2.2.1, hHeld.2.2.2.2.2.2.2.2.2.2.2.2.2.2.2.2.1, hHeld.2.2.2.2.2.2.2.2.2.2.2.2.2.2.2.2.2⟩ (fun hHeld => ?_)
       clear hK K
       refine norm_ (a' := ?_) ?_ ?_
       rotate_left
       ·
        show Act.put _ (some 47) _ = _
        simp only [Act.put, List.setIfInBounds_toArray, List.set_cons_zero, List.set_cons_succ, i64_w, i32_w]
        rfl
       refine zqp 2 (some 48) (zqB 17 511) (any_of HT_.out (by kernel_rfl)) (h := ?_)
       refine zqp 9 (some 55) (zqB 17 1023) (any_of HT_.out (by kernel_rfl)) (h := ?_)
       refine one_ (i := 10) (N := none) (zqB 17 2047) rfl rfl (one_of HT_.out (by kernel_rfl)) (by decide) (fun K hK => ?_)
       have hs75 : w74.cell? ⟨gb144, 0, none⟩ = some (.int .i64 a0_4) := (zqe BK144.out 0).trans rfl
       have hfs75 := zqd BK144.out 0
       have hns75_0 := NB142_144.out
       have hns75_1 := NB143_144.out
       have hms75_0 := NB144_142.out
       have hms75_1 := NB144_143.out
       refine skip_ (w1 := ?_) (by rfl) rfl ?_ ?_
       rotate_left
       ·
        go_simp
        rfl
       refine hK.out _ _ ⟨((zqk NB142_144.out).trans (hHeld.1)), ((zqk NB142_144.out).trans (hHeld.2.1)), ((zqk NB142_144.out).trans (hHeld.2.2.1)), ((zqk NB142_144.out).trans (hHeld.2.2.2.1)), ((zqk NB142_144.out).trans (hHeld.2.2.2.2.1)), ((zqk NB142_144.out).trans (hHeld.2.2.2.2.2.1)), ((zqk NB142_144.out).trans (hHeld.2.2.2.2.2.2.1)), ((zqk NB142_144.out).trans (hHeld.2.2.2.2.2.2.2.1)), ((zqk NB142_144.out).trans (hHeld.2.2.2.2.2.2.2.2.1)), ((zqk NB142_144.out).trans (hHeld.2.2.2.2.2.2.2.2.2.1)), ((zqk NB142_144.out).trans (hHeld.2.2.2.2.2.2.2.2.2.2.1)), ((zqk NB142_144.out).trans (hHeld.2.2.2.2.2.2.2.2.2.2.2.1)), ((zqk (by first | exact zql hw148_0 GW144.out | (rw [add_block]; exact zql hw148_0 GW144.out) | (show (Addr.add _ _).block ≠ _; rw [add_block]; exact zql hw148_0 GW144.out) | (dsimp only; exact zql hw148_0 GW144.out))).trans (hHeld.2.2.2.2.2.2.2.2.2.2.2.2.1)), ((zqk (by first | exact zql hw148_1 GW144.out | (rw [add_block]; exact zql hw148_1 GW144.out) | (show (Addr.add _ _).block ≠ _; rw [add_block]; exact zql hw148_1 GW144.out) | (dsimp only; exact zql hw148_1 GW144.out))).trans (hHeld.2.2.2.2.2.2.2.2.2.2.2.2.2.1)), ((zqk (by first | exact zql hw148_2 GW144.out | (rw [add_block]; exact zql hw148_2 GW144.out) | (show (Addr.add _ _).block ≠ _; rw [add_block]; exact zql hw148_2 GW144.out) | (dsimp only; exact zql hw148_2 GW144.out))).trans (hHeld.2.2.2.2.2.2.2.2.2.2.2.2.2.2.1)), ((zqk (by first | exact zql hw148_3 GW144.out | (rw [add_block]; exact zql hw148_3 GW144.out) | (show (Addr.add _ _).block ≠ _; rw [add_block]; exact zql hw148_3 GW144.out) | (dsimp only; exact zql hw148_3 GW144.out))).trans (hHeld.2.2.2.2.2.2.2.2.2.2.2.2.2.2.2.1)), ((zqk (by first | exact zql hw148_4 GW144.out | (rw [add_block]; exact zql hw148_4 GW144.out) | (show (Addr.add _ _).block ≠ _; rw [add_block]; exact zql hw148_4 GW144.out) | (dsimp only; exact zql hw148_4 GW144.out))).trans (hHeld.2.2.2.2.2.2.2.2.2.2.2.2.2.2.2.2.1)), ((zqk (by first | exact zql hw148_5 GW144.out | (rw [add_block]; exact zql hw148_5 GW144.out) | (show (Addr.add _ _).block ≠ _; rw [add_block]; exact zql hw148_5 GW144.out) | (dsimp only; exact zql hw148_5 GW144.out))).trans (hHeld.2.2.2.2.2.2.2.2.2.2.2.2.2.2.2.2.2))⟩ (fun hHeld => ?_)
       clear hK K
       refine zqp 11 (some 56) (zqB 17 4095) (any_of HT_.out (by kernel_rfl)) (h := ?_)
       refine one_ (i := 12) (N := none) (zqB 17 8191) rfl rfl (one_of HT_.out (by kernel_rfl)) (by decide) (fun K hK => ?_)
       have hs76 : w74.cell? ⟨gb144, 1, none⟩ = some (.int .i64 a0_5) := (zqe BK144.out 1).trans rfl
       have hfs76 := zqd BK144.out 1
       have hns76_0 := NB142_144.out
       have hns76_1 := NB143_144.out
       have hms76_0 := NB144_142.out
       have hms76_1 := NB144_143.out
       refine skip_ (w1 := ?_) (by rfl) rfl ?_ ?_
       rotate_left
       ·
        go_simp
        rfl
       refine hK.out _ _ ⟨((zqk NB142_144.out).trans (hHeld.1)), ((zqk NB142_144.out).trans (hHeld.2.1)), ((zqk NB142_144.out).trans (hHeld.2.2.1)), ((zqk NB142_144.out).trans (hHeld.2.2.2.1)), ((zqk NB142_144.out).trans (hHeld.2.2.2.2.1)), ((zqk NB142_144.out).trans (hHeld.2.2.2.2.2.1)), ((zqk NB142_144.out).trans (hHeld.2.2.2.2.2.2.1)), ((zqk NB142_144.out).trans (hHeld.2.2.2.2.2.2.2.1)), ((zqk NB142_144.out).trans (hHeld.2.2.2.2.2.2.2.2.1)), ((zqk NB142_144.out).trans (hHeld.2.2.2.2.2.2.2.2.2.1)), ((zqk NB142_144.out).trans (hHeld.2.2.2.2.2.2.2.2.2.2.1)), ((zqk NB142_144.out).trans (hHeld.2.2.2.2.2.2.2.2.2.2.2.1)), ((zqk (by first | exact zql hw148_0 GW144.out | (rw [add_block]; exact zql hw148_0 GW144.out) | (show (Addr.add _ _).block ≠ _; rw [add_block]; exact zql hw148_0 GW144.out) | (dsimp only; exact zql hw148_0 GW144.out))).trans (hHeld.2.2.2.2.2.2.2.2.2.2.2.2.1)), ((zqk (by first | exact zql hw148_1 GW144.out | (rw [add_block]; exact zql hw148_1 GW144.out) | (show (Addr.add _ _).block ≠ _; rw [add_block]; exact zql hw148_1 GW144.out) | (dsimp only; exact zql hw148_1 GW144.out))).trans (hHeld.2.2.2.2.2.2.2.2.2.2.2.2.2.1)), ((zqk (by first | exact zql hw148_2 GW144.out | (rw [add_block]; exact zql hw148_2 GW144.out) | (show (Addr.add _ _).block ≠ _; rw [add_block]; exact zql hw148_2 GW144.out) | (dsimp only; exact zql hw148_2 GW144.out))).trans (hHeld.2.2.2.2.2.2.2.2.2.2.2.2.2.2.1)), ((zqk (by first | exact zql hw148_3 GW144.out | (rw [add_block]; exact zql hw148_3 GW144.out) | (show (Addr.add _ _).block ≠ _; rw [add_block]; exact zql hw148_3 GW144.out) | (dsimp only; exact zql hw148_3 GW144.out))).trans (hHeld.2.2.2.2.2.2.2.2.2.2.2.2.2.2.2.1)), ((zqk (by first | exact zql hw148_4 GW144.out | (rw [add_block]; exact zql hw148_4 GW144.out) | (show (Addr.add _ _).block ≠ _; rw [add_block]; exact zql hw148_4 GW144.out) | (dsimp only; exact zql hw148_4 GW144.out))).trans (hHeld.2.2.2.2.2.2.2.2.2.2.2.2.2.2.2.2.1)), ((zqk (by first | exact zql hw148_5 GW144.out | (rw [add_block]; exact zql hw148_5 GW144.out) | (show (Addr.add _ _).block ≠ _; rw [add_block]; exact zql hw148_5 GW144.out) | (dsimp only; exact zql hw148_5 GW144.out))).trans (hHeld.2.2.2.2.2.2.2.2.2.2.2.2.2.2.2.2.2))⟩ (fun hHeld => ?_)
       clear hK K
       refine zqp 13 (some 57) (zqB 17 16383) (any_of HT_.out (by kernel_rfl)) (h := ?_)
       refine one_ (i := 14) (N := none) (zqB 17 32767) rfl rfl (one_of HT_.out (by kernel_rfl)) (by decide) (fun K hK => ?_)
       have hs77 : w74.cell? ⟨gb144, 2, none⟩ = some (.int .i64 a0_6) := (zqe BK144.out 2).trans rfl
       have hfs77 := zqd BK144.out 2
       have hns77_0 := NB142_144.out
       have hns77_1 := NB143_144.out
       have hms77_0 := NB144_142.out
       have hms77_1 := NB144_143.out
       refine skip_ (w1 := ?_) (by rfl) rfl ?_ ?_
       rotate_left
       ·
        go_simp
        rfl
       refine hK.out _ _ ⟨((zqk NB142_144.out).trans (hHeld.1)), ((zqk NB142_144.out).trans (hHeld.2.1)), ((zqk NB142_144.out).trans (hHeld.2.2.1)), ((zqk NB142_144.out).trans (hHeld.2.2.2.1)), ((zqk NB142_144.out).trans (hHeld.2.2.2.2.1)), ((zqk NB142_144.out).trans (hHeld.2.2.2.2.2.1)), ((zqk NB142_144.out).trans (hHeld.2.2.2.2.2.2.1)), ((zqk NB142_144.out).trans (hHeld.2.2.2.2.2.2.2.1)), ((zqk NB142_144.out).trans (hHeld.2.2.2.2.2.2.2.2.1)), ((zqk NB142_144.out).trans (hHeld.2.2.2.2.2.2.2.2.2.1)), ((zqk NB142_144.out).trans (hHeld.2.2.2.2.2.2.2.2.2.2.1)), ((zqk NB142_144.out).trans (hHeld.2.2.2.2.2.2.2.2.2.2.2.1)), ((zqk (by first | exact zql hw148_0 GW144.out | (rw [add_block]; exact zql hw148_0 GW144.out) | (show (Addr.add _ _).block ≠ _; rw [add_block]; exact zql hw148_0 GW144.out) | (dsimp only; exact zql hw148_0 GW144.out))).trans (hHeld.2.2.2.2.2.2.2.2.2.2.2.2.1)), ((zqk (by first | exact zql hw148_1 GW144.out | (rw [add_block]; exact zql hw148_1 GW144.out) | (show (Addr.add _ _).block ≠ _; rw [add_block]; exact zql hw148_1 GW144.out) | (dsimp only; exact zql hw148_1 GW144.out))).trans (hHeld.2.2.2.2.2.2.2.2.2.2.2.2.2.1)), ((zqk (by first | exact zql hw148_2 GW144.out | (rw [add_block]; exact zql hw148_2 GW144.out) | (show (Addr.add _ _).block ≠ _; rw [add_block]; exact zql hw148_2 GW144.out) | (dsimp only; exact zql hw148_2 GW144.out))).trans (hHeld.2.2.2.2.2.2.2.2.2.2.2.2.2.2.1)), ((zqk (by first | exact zql hw148_3 GW144.out | (rw [add_block]; exact zql hw148_3 GW144.out) | (show (Addr.add _ _).block ≠ _; rw [add_block]; exact zql hw148_3 GW144.out) | (dsimp only; exact zql hw148_3 GW144.out))).trans (hHeld.2.2.2.2.2.2.2.2.2.2.2.2.2.2.2.1)), ((zqk (by first | exact zql hw148_4 GW144.out | (rw [add_block]; exact zql hw148_4 GW144.out) | (show (Addr.add _ _).block ≠ _; rw [add_block]; exact zql hw148_4 GW144.out) | (dsimp only; exact zql hw148_4 GW144.out))).trans (hHeld.2.2.2.2.2.2.2.2.2.2.2.2.2.2.2.2.1)), ((zqk (by first | exact zql hw148_5 GW144.out | (rw [add_block]; exact zql hw148_5 GW144.out) | (show (Addr.add _ _).block ≠ _; rw [add_block]; exact zql hw148_5 GW144.out) | (dsimp only; exact zql hw148_5 GW144.out))).trans (hHeld.2.2.2.2.2.2.2.2.2.2.2.2.2.2.2.2.2))⟩ (fun hHeld => ?_)
       clear hK K
       refine zqp 15 (some 58) (zqB 17 65535) (any_of HT_.out (by kernel_rfl)) (h := ?_)
       refine one_ (i := 16) (N := none) (zqB 17 131071) rfl rfl (one_of HT_.out (by kernel_rfl)) (by decide) (fun K hK => ?_)
       have hs78 : w74.cell? ⟨gb144, 3, none⟩ = some (.int .i64 a0_7) := (zqe BK144.out 3).trans rfl
       have hfs78 := zqd BK144.out 3
       have hns78_0 := NB142_144.out
       have hns78_1 := NB143_144.out
       have hms78_0 := NB144_142.out
       have hms78_1 := NB144_143.out
       refine skip_ (w1 := ?_) (by rfl) rfl ?_ ?_
       rotate_left
       ·
        go_simp
        rfl
       refine hK.out _ _ ⟨((zqk NB142_144.out).trans (hHeld.1)), ((zqk NB142_144.out).trans (hHeld.2.1)), ((zqk NB142_144.out).trans (hHeld.2.2.1)), ((zqk NB142_144.out).trans (hHeld.2.2.2.1)), ((zqk NB142_144.out).trans (hHeld.2.2.2.2.1)), ((zqk NB142_144.out).trans (hHeld.2.2.2.2.2.1)), ((zqk NB142_144.out).trans (hHeld.2.2.2.2.2.2.1)), ((zqk NB142_144.out).trans (hHeld.2.2.2.2.2.2.2.1)), ((zqk NB142_144.out).trans (hHeld.2.2.2.2.2.2.2.2.1)), ((zqk NB142_144.out).trans (hHeld.2.2.2.2.2.2.2.2.2.1)), ((zqk NB142_144.out).trans (hHeld.2.2.2.2.2.2.2.2.2.2.1)), ((zqk NB142_144.out).trans (hHeld.2.2.2.2.2.2.2.2.2.2.2.1)), ((zqk (by first | exact zql hw148_0 GW144.out | (rw [add_block]; exact zql hw148_0 GW144.out) | (show (Addr.add _ _).block ≠ _; rw [add_block]; exact zql hw148_0 GW144.out) | (dsimp only; exact zql hw148_0 GW144.out))).trans (hHeld.2.2.2.2.2.2.2.2.2.2.2.2.1)), ((zqk (by first | exact zql hw148_1 GW144.out | (rw [add_block]; exact zql hw148_1 GW144.out) | (show (Addr.add _ _).block ≠ _; rw [add_block]; exact zql hw148_1 GW144.out) | (dsimp only; exact zql hw148_1 GW144.out))).trans (hHeld.2.2.2.2.2.2.2.2.2.2.2.2.2.1)), ((zqk (by first | exact zql hw148_2 GW144.out | (rw [add_block]; exact zql hw148_2 GW144.out) | (show (Addr.add _ _).block ≠ _; rw [add_block]; exact zql hw148_2 GW144.out) | (dsimp only; exact zql hw148_2 GW144.out))).trans (hHeld.2.2.2.2.2.2.2.2.2.2.2.2.2.2.1)), ((zqk (by first | exact zql hw148_3 GW144.out | (rw [add_block]; exact zql hw148_3 GW144.out) | (show (Addr.add _ _).block ≠ _; rw [add_block]; exact zql hw148_3 GW144.out) | (dsimp only; exact zql hw148_3 GW144.out))).trans (hHeld.2.2.2.2.2.2.2.2.2.2.2.2.2.2.2.1)), ((zqk (by first | exact zql hw148_4 GW144.out | (rw [add_block]; exact zql hw148_4 GW144.out) | (show (Addr.add _ _).block ≠ _; rw [add_block]; exact zql hw148_4 GW144.out) | (dsimp only; exact zql hw148_4 GW144.out))).trans (hHeld.2.2.2.2.2.2.2.2.2.2.2.2.2.2.2.2.1)), ((zqk (by first | exact zql hw148_5 GW144.out | (rw [add_block]; exact zql hw148_5 GW144.out) | (show (Addr.add _ _).block ≠ _; rw [add_block]; exact zql hw148_5 GW144.out) | (dsimp only; exact zql hw148_5 GW144.out))).trans (hHeld.2.2.2.2.2.2.2.2.2.2.2.2.2.2.2.2.2))⟩ (fun hHeld => ?_)
       clear hK K
       refine done_ (done_of HT_.out (by kernel_rfl)) ?_
       obtain ⟨hcz79_0, hcz79_1, hcz79_2, hcz79_3, hcz79_4, hcz79_5, hcz79_6, hcz79_7, hfz79_0, hfz79_1, hfz79_2, hfz79_3, hfz79_4, hfz79_5, hfz79_6, hfz79_7⟩ := zqz8 BK144.out
       obtain ⟨hcz80_0, hcz80_1, hcz80_2, hcz80_3, hcz80_4, hcz80_5, hcz80_6, hcz80_7, hfz80_0, hfz80_1, hfz80_2, hfz80_3, hfz80_4, hfz80_5, hfz80_6, hfz80_7⟩ := zqz8 BK143.out
       try go_wp2
       refine bodyPost_ret (results_ct rfl _ _ gb143 40 #[.int .i64 0, .int .i64 (wrap64 (a0_5 + 1)), .int .i64 ((rd_T23 l0_3 0).f3), .int .i64 0, .int .i64 a0_8, .int .u64 a0_9, .int .u64 a0_10, .int .u64 a0_11] (0, 0) _ rfl (by exact zqC (blk_set (blk_set (blk_set (blk_set (blk_set (blk_set (blk_set (blk_set (blk_far (blk_far (blk_far (blk_far BK143.out NB143_144.out _) NB143_144.out _) NB143_144.out _) NB143_144.out _) 0 _) 1 _) 2 _) 3 _) 4 _) 5 _) 6 _) 7 _) (by simp only [List.setIfInBounds_toArray, List.set_cons_zero, List.set_cons_succ])) Try.underlying40 rfl (by kernel_rfl)) rfl ?_
       exact ⟨by first | rfl | (simp [errW_none, errW_some] <;> rfl) | (simp [*, errW_none, errW_some] <;> rfl), by repeat (first | (with_reducible first | exact HB.out | apply zqg | apply zqf | apply zqh | refine below_set ?_ GE142.out | refine below_set ?_ GE143.out | refine below_set ?_ GE144.out) | exact HB.out)⟩
     ·
      rw [if_neg c46] at H
      exact absurd H (by simp)
  ·
   rw [if_neg c16] at H
   have c16b0 : (a0_11 == 0) = false := beq_eq_false_iff_ne.mpr c16
   have c16b1 : (a0_11 != 0) = true := bne_iff_ne.mpr c16
   simp only [Option.some.injEq, Prod.mk.injEq] at H
   obtain ⟨rfl, rfl, rfl, rfl, rfl, rfl, rfl, rfl, rfl⟩ := H
   go_enter Try.func53, Try.ntmps53
   try go_wp2_with (first | ((with_reducible refine gate_dst (N := 2) rfl ?_); refine box_event ?hg (N := 2) ?hd (cs := #[.int .i64 a0_0, .int .i64 a0_1, .int .i64 a0_2, .slice A0_3 l0_3.length c0_3, .int .i64 a0_4, .int .i64 a0_5, .int .i64 a0_6, .int .i64 a0_7, .int .i64 a0_8, .int .u64 a0_9, .int .u64 a0_10, .int .u64 a0_11]) (t := 69) ?hr ?_; (case hd => rfl); (case hg => rfl); (case hr => first | (go_simp; done) | (go_simp; rfl)); intro gb142 hg w81 hbox hb; have n0_ := zqi (below_step (zqn HB.out) hb); have n1_ := zqi (hbox); have n2_ := zqi (zqo hg HB.out); have n3_ := zqi (zqo hg HB.out); clear HB; have HB := n0_; have BK142 := n1_; have GW142 := n2_; have GE142 := n3_; clear n0_ n1_ n2_ n3_; clear hb hbox hg) | ((with_reducible refine gate_dst (N := 4) rfl ?_); refine box_event ?hg (N := 4) ?hd (cs := #[.int .i64 0, .int .i64 0, .int .i64 0, .int .i64 0, .int .i64 0, .int .u64 0, .int .u64 0, .int .u64 0]) (t := 40) ?hr ?_; (case hd => rfl); (case hg => rfl); (case hr => first | (go_simp; done) | (go_simp; rfl)); intro gb143 hg w82 hbox hb; have n0_ := zqi (zqy BK142.out hb); have n1_ := zqi (below_step (zqn HB.out) hb); have n2_ := zqi (hbox); have n3_ := zqi (zqo hg HB.out); have n4_ := zqi (zqo hg HB.out); have n5_ := zqi ((zqq hg BK142.out)); have n6_ := zqi ((zqr hg BK142.out)); clear BK142; clear HB; have BK142 := n0_; have HB := n1_; have BK143 := n2_; have GW143 := n3_; have GE143 := n4_; have NB142_143 := n5_; have NB143_142 := n6_; clear n0_ n1_ n2_ n3_ n4_ n5_ n6_; clear hb hbox hg; have hnb83 := NB142_143.out; have hnc83 := NB143_142.out; obtain ⟨hcz84_0, hcz84_1, hcz84_2, hcz84_3, hcz84_4, hcz84_5, hcz84_6, hcz84_7, hcz84_8, hcz84_9, hcz84_10, hcz84_11, hfz84_0, hfz84_1, hfz84_2, hfz84_3, hfz84_4, hfz84_5, hfz84_6, hfz84_7, hfz84_8, hfz84_9, hfz84_10, hfz84_11⟩ := zqz12 BK142.out) | ((with_reducible refine gate_dst (N := 6) rfl ?_); refine box_event ?hg (N := 6) ?hd (cs := #[.int .i64 0, .int .i64 0, .int .i64 0, .int .i64 0, .int .i64 0, .int .u64 0, .int .u64 0, .int .u64 0]) (t := 40) ?hr ?_; (case hd => rfl); (case hg => rfl); (case hr => first | (go_simp; done) | (go_simp; rfl)); intro gb144 hg w85 hbox hb; have n0_ := zqi (zqy BK142.out hb); have n1_ := zqi (zqy BK143.out hb); have n2_ := zqi (below_step (zqn HB.out) hb); have n3_ := zqi (hbox); have n4_ := zqi (zqo hg HB.out); have n5_ := zqi (zqo hg HB.out); have n6_ := zqi ((zqq hg BK142.out)); have n7_ := zqi ((zqr hg BK142.out)); have n8_ := zqi ((zqq hg BK143.out)); have n9_ := zqi ((zqr hg BK143.out)); clear BK142; clear BK143; clear HB; have BK142 := n0_; have BK143 := n1_; have HB := n2_; have BK144 := n3_; have GW144 := n4_; have GE144 := n5_; have NB142_144 := n6_; have NB144_142 := n7_; have NB143_144 := n8_; have NB144_143 := n9_; clear n0_ n1_ n2_ n3_ n4_ n5_ n6_ n7_ n8_ n9_; clear hb hbox hg; have hnb86 := NB144_142.out; have hnc86 := NB142_144.out; have hnb87 := NB144_143.out; have hnc87 := NB143_144.out; obtain ⟨hcz88_0, hcz88_1, hcz88_2, hcz88_3, hcz88_4, hcz88_5, hcz88_6, hcz88_7, hfz88_0, hfz88_1, hfz88_2, hfz88_3, hfz88_4, hfz88_5, hfz88_6, hfz88_7⟩ := zqz8 BK144.out))
   generalize hW_ : ((((((((w85.setCell ⟨gb144, 0, none⟩ (.int .i64 a0_4)).setCell ⟨gb144, 1, none⟩ (.int .i64 a0_5)).setCell ⟨gb144, 2, none⟩ (.int .i64 a0_6)).setCell ⟨gb144, 3, none⟩ (.int .i64 a0_7)).setCell ⟨gb144, 4, none⟩ (.int .i64 a0_8)).setCell ⟨gb144, 5, none⟩ (.int .u64 a0_9)).setCell ⟨gb144, 6, none⟩ (.int .u64 a0_10)).setCell ⟨gb144, 7, none⟩ (.int .u64 a0_11)) = w89
   have n0_ : Aside0 (w89.heap[gb142]? = some (.cells #[.int .i64 a0_0, .int .i64 a0_1, .int .i64 a0_2, .slice A0_3 l0_3.length c0_3, .int .i64 a0_4, .int .i64 a0_5, .int .i64 a0_6, .int .i64 a0_7, .int .i64 a0_8, .int .u64 a0_9, .int .u64 a0_10, .int .u64 a0_11] 69 (0, 0))) := ⟨by subst hW_; (repeat (with_reducible first | apply zqa | apply zqb | apply zqc | refine blk_far ?_ NB142_144.out _)); exact BK142.out⟩
   have n1_ : Aside0 (w89.heap[gb143]? = some (.cells #[.int .i64 0, .int .i64 0, .int .i64 0, .int .i64 0, .int .i64 0, .int .u64 0, .int .u64 0, .int .u64 0] 40 (0, 0))) := ⟨by subst hW_; (repeat (with_reducible first | apply zqa | apply zqb | apply zqc | refine blk_far ?_ NB143_144.out _)); exact BK143.out⟩
   have n2_ : Aside0 (w89.heap[gb144]? = some (.cells #[.int .i64 a0_4, .int .i64 a0_5, .int .i64 a0_6, .int .i64 a0_7, .int .i64 a0_8, .int .u64 a0_9, .int .u64 a0_10, .int .u64 a0_11] 40 (0, 0))) := ⟨by subst hW_; exact zqC (blk_set (blk_set (blk_set (blk_set (blk_set (blk_set (blk_set (blk_set BK144.out 0 _) 1 _) 2 _) 3 _) 4 _) 5 _) 6 _) 7 _) (by simp only [List.setIfInBounds_toArray, List.set_cons_zero, List.set_cons_succ])⟩
   have n3_ : Aside0 (Below w.heap.size w w89) := ⟨by subst hW_; repeat (first | (with_reducible first | exact HB.out | apply zqg | apply zqf | apply zqh | refine below_set ?_ GE142.out | refine below_set ?_ GE143.out | refine below_set ?_ GE144.out) | exact HB.out)⟩
   clear hW_
   (try clear BK142)
   (try clear BK143)
   (try clear BK144)
   (try clear HB)
   have BK142 := n0_
   have BK143 := n1_
   have BK144 := n2_
   have HB := n3_
   clear n0_ n1_ n2_ n3_
   have n0_ := zqi (zqb BK142.out)
   have n1_ := zqi (zqb BK143.out)
   have n2_ := zqi (zqb BK144.out)
   have n3_ := zqi (zqh HB.out)
   clear BK142
   clear BK143
   clear BK144
   clear HB
   have BK142 := n0_
   have BK143 := n1_
   have BK144 := n2_
   have HB := n3_
   clear n0_ n1_ n2_ n3_
   refine start_ (n := 36) (S := fun w' => w'.cell? ⟨gb144, 0, none⟩ = some (.int .i64 a0_4) ∧ w'.cell? ⟨gb144, 1, none⟩ = some (.int .i64 a0_5) ∧ w'.cell? ⟨gb144, 2, none⟩ = some (.int .i64 a0_6) ∧ w'.cell? ⟨gb144, 3, none⟩ = some (.int .i64 a0_7) ∧ w'.cell? ⟨gb144, 4, none⟩ = some (.int .i64 a0_8) ∧ w'.cell? ⟨gb144, 5, none⟩ = some (.int .u64 a0_9) ∧ w'.cell? ⟨gb144, 6, none⟩ = some (.int .u64 a0_10) ∧ w'.cell? ⟨gb144, 7, none⟩ = some (.int .u64 a0_11)) (ds := []) (zqB 36 0) (by kernel_rfl) rfl rfl ⟨(zqe BK144.out 0).trans rfl, (zqe BK144.out 1).trans rfl, (zqe BK144.out 2).trans rfl, (zqe BK144.out 3).trans rfl, (zqe BK144.out 4).trans rfl, (zqe BK144.out 5).trans rfl, (zqe BK144.out 6).trans rfl, (zqe BK144.out 7).trans rfl⟩ (fun hHeld => ?_); refine with_tabW state_here_home.tab2 state_here_home.bits2 (fun HT_ HW_ => ?_)
   generalize w89.drew = w90 at BK142 BK143 BK144 HB hHeld ⊢
   refine zqp 0 (some 9) (zqB 36 1) (any_of HT_.out (by kernel_rfl)) (h := ?_)
   refine zqt 1 (some 10) (zqB 36 3) (take_ofW HT_.out HW_.out (by kernel_rfl)) hHeld (h := ?_)
   refine zqp 2 (some 11) (zqB 36 7) (any_of HT_.out (by kernel_rfl)) (h := ?_)
   refine zqp 3 (some 12) (zqB 36 15) (any_of HT_.out (by kernel_rfl)) (h := ?_)
   refine zqp 4 (some 13) (zqB 36 31) (any_of HT_.out (by kernel_rfl)) (h := ?_)
   refine zqt 5 (some 14) (zqB 36 63) (take_ofW HT_.out HW_.out (by kernel_rfl)) hHeld (h := ?_)
   refine zqp 6 (some 15) (zqB 36 127) (any_of HT_.out (by kernel_rfl)) (h := ?_)
   refine zqp 7 (some 16) (zqB 36 255) (any_of HT_.out (by kernel_rfl)) (h := ?_)
   refine zqp 8 (some 17) (zqB 36 511) (any_of HT_.out (by kernel_rfl)) (h := ?_)
   refine zqu 9 (some 18) (zqB 36 1023) (any_of HT_.out (by kernel_rfl)) (h := ?_)
   refine zqu 10 (some 19) (zqB 36 2047) (any_of HT_.out (by kernel_rfl)) (h := ?_)
   refine zqu 11 (some 20) (zqB 36 4095) (any_of HT_.out (by kernel_rfl)) (h := ?_)
   refine zqu 12 (some 21) (zqB 36 8191) (any_of HT_.out (by kernel_rfl)) (h := ?_)
   refine zqu 13 (some 22) (zqB 36 16383) (any_of HT_.out (by kernel_rfl)) (h := ?_)
   refine zqu 14 (some 23) (zqB 36 32767) (any_of HT_.out (by kernel_rfl)) (h := ?_)
   refine zqp 15 (some 24) (zqB 36 65535) (any_of HT_.out (by kernel_rfl)) (h := ?_)
   refine zqp 16 (some 25) (zqB 36 131071) (any_of HT_.out (by kernel_rfl)) (h := ?_)
   refine zqu 17 (some 26) (zqB 36 262143) (any_of HT_.out (by kernel_rfl)) (h := ?_)
   refine zqu 18 (some 27) (zqB 36 524287) (any_of HT_.out (by kernel_rfl)) (h := ?_)
   refine zqu 19 (some 28) (zqB 36 1048575) (any_of HT_.out (by kernel_rfl)) (h := ?_)
   refine zqu 20 (some 29) (zqB 36 2097151) (any_of HT_.out (by kernel_rfl)) (h := ?_)
   refine zqp 21 (some 30) (zqB 36 4194303) (any_of HT_.out (by kernel_rfl)) (h := ?_)
   refine zqp 22 (some 31) (zqB 36 8388607) (any_of HT_.out (by kernel_rfl)) (h := ?_)
   refine zqu 23 (some 32) (zqB 36 16777215) (any_of HT_.out (by kernel_rfl)) (h := ?_)
   refine zqu 24 (some 33) (zqB 36 33554431) (any_of HT_.out (by kernel_rfl)) (h := ?_)
   refine zqu 25 (some 34) (zqB 36 67108863) (any_of HT_.out (by kernel_rfl)) (h := ?_)
   refine zqu 26 (some 35) (zqB 36 134217727) (any_of HT_.out (by kernel_rfl)) (h := ?_)
   refine zqu 27 (some 36) (zqB 36 268435455) (any_of HT_.out (by kernel_rfl)) (h := ?_)
   refine zqu 28 (some 37) (zqB 36 536870911) (any_of HT_.out (by kernel_rfl)) (h := ?_)
   refine zqu 29 (some 38) (zqB 36 1073741823) (any_of HT_.out (by kernel_rfl)) (h := ?_)
   refine zqu 30 (some 39) (zqB 36 2147483647) (any_of HT_.out (by kernel_rfl)) (h := ?_)
   refine zqu 31 (some 40) (zqB 36 4294967295) (any_of HT_.out (by kernel_rfl)) (h := ?_)
   refine zqu 32 (some 41) (zqB 36 8589934591) (any_of HT_.out (by kernel_rfl)) (h := ?_)
   refine zqu 33 (some 42) (zqB 36 17179869183) (any_of HT_.out (by kernel_rfl)) (h := ?_)
   refine zqu 34 (some 43) (zqB 36 34359738367) (any_of HT_.out (by kernel_rfl)) (h := ?_)
   refine zqp 35 (some 44) (zqB 36 68719476735) (any_of HT_.out (by kernel_rfl)) (h := ?_)
   refine done_ (done_of HT_.out (by kernel_rfl)) ?_
   obtain ⟨hcz91_0, hcz91_1, hcz91_2, hcz91_3, hcz91_4, hcz91_5, hcz91_6, hcz91_7, hfz91_0, hfz91_1, hfz91_2, hfz91_3, hfz91_4, hfz91_5, hfz91_6, hfz91_7⟩ := zqz8 BK144.out
   obtain ⟨hcz92_0, hcz92_1, hcz92_2, hcz92_3, hcz92_4, hcz92_5, hcz92_6, hcz92_7, hfz92_0, hfz92_1, hfz92_2, hfz92_3, hfz92_4, hfz92_5, hfz92_6, hfz92_7⟩ := zqz8 BK143.out
   try go_wp2
   refine bodyPost_ret (results_ct rfl _ _ gb143 40 #[.int .i64 a0_4, .int .i64 a0_5, .int .i64 a0_6, .int .i64 a0_7, .int .i64 a0_8, .int .u64 a0_9, .int .u64 a0_10, .int .u64 a0_11] (0, 0) _ rfl (by exact zqC (blk_set (blk_set (blk_set (blk_set (blk_set (blk_set (blk_set (blk_set BK143.out 0 _) 1 _) 2 _) 3 _) 4 _) 5 _) 6 _) 7 _) (by simp only [List.setIfInBounds_toArray, List.set_cons_zero, List.set_cons_succ])) Try.underlying40 rfl (by kernel_rfl)) rfl ?_
   exact ⟨by first | rfl | (simp [errW_none, errW_some] <;> rfl) | (simp [*, errW_none, errW_some] <;> rfl), by repeat (first | (with_reducible first | exact HB.out | apply zqg | apply zqf | apply zqh | refine below_set ?_ GE142.out | refine below_set ?_ GE143.out | refine below_set ?_ GE144.out) | exact HB.out)⟩

end Go.Proofs.Ytjiammiihamkiaa.PC
