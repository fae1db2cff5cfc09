-- Printed for this claim by wip/tools/xprint.py over the kit's print; the contracts marked BY HAND are this session's own.
import Derived.Test.YtjiammiihamkiaaPCx0
import Derived.Test.YtjiammiihamkiaaPCx2
namespace Go.Proofs.Ytjiammiihamkiaa.PC
open Go.RowKit Go.Proofs.YtjiammiihamkiaaW.PrintWords Go.Proofs.YtjiammiihamkiaaW.PrintLast Go.Proofs.YtjiammiihamkiaaW.PrintMore
attribute [local go_sem] max2_int min2_int max_two min_two max_three min_three max_four min_four   -- for this text's walks alone
set_option linter.unusedVariables false
set_option linter.unusedSimpArgs false

/-! ### state_here_far: function 41 -/
def state_here_far.f (a0_0 : Int) (a0_1 : Int) (a0_2 : Int) (l0_3 : List (S23)) (a0_4 : Int) (a0_5 : Int) (a0_6 : Int) (a0_7 : Int) (a0_8 : Int) (a0_9 : Int) (a0_10 : Int) (a0_11 : Int) (a1 : Int) : Option (Int) := if 0 ≤ a0_4 then (if a0_4 < (l0_3.length : Int) then (if 0 ≤ a1 then (if a1 < (l0_3.length : Int) then ((plane_Far.f ((rd_T23 l0_3 a0_4).f0) ((rd_T23 l0_3 a0_4).f1) ((rd_T23 l0_3 a0_4).f2) ((rd_T23 l0_3 a0_4).f3) ((rd_T23 l0_3 a0_4).f4) ((rd_T23 l0_3 a0_4).f5) ((rd_T23 l0_3 a1).f0) ((rd_T23 l0_3 a1).f1) ((rd_T23 l0_3 a1).f2) ((rd_T23 l0_3 a1).f3) ((rd_T23 l0_3 a1).f4) ((rd_T23 l0_3 a1).f5)).bind fun t110 => (some t110)) else (none)) else (none)) else (none)) else (none)
def state_here_far.T1 : Bool × List (List Nat × List Nat) := (true, [([], []), ([0], [0]), ([1], [1]), ([], []), ([3], [3]), ([4], [4]), ([2, 5], [2, 5]), ([6], [6]), ([], []), ([8], [8]), ([9], [9]), ([], []), ([10, 11], [10, 11]), ([12], [12]), ([7, 13], [7, 13]), ([14, 14, 0, 1, 2, 3, 4, 5, 6, 7, 8, 9, 10, 11, 12, 13, 14], [14])])
def state_here_far.B1 : List Nat := [0, 1, 3, 0, 8, 24, 63, 127, 0, 256, 768, 0, 3840, 7936, 16383, 32767]
theorem state_here_far.tab1 : rtab .any (opsOf Try.f41 1) = state_here_far.T1 := by kernel_rfl
theorem state_here_far.bits1 : waitsOk state_here_far.T1.2 state_here_far.B1 = true := by kernel_rfl
set_option maxHeartbeats 16000000 in
set_option maxRecDepth 100000 in
theorem state_here_far.calls (a0_0 : Int) (a0_1 : Int) (a0_2 : Int) (A0_3 : Option Addr) (c0_3 : Nat) (l0_3 : List (S23)) (a0_4 : Int) (a0_5 : Int) (a0_6 : Int) (a0_7 : Int) (a0_8 : Int) (a0_9 : Int) (a0_10 : Int) (a0_11 : Int) (a1 : Int) (r : Int) (w : World) (hr0_3 : Kd.C k23 w A0_3 l0_3.length l0_3) (hc0_3 : l0_3.length ≤ c0_3) (h : state_here_far.f a0_0 a0_1 a0_2 l0_3 a0_4 a0_5 a0_6 a0_7 a0_8 a0_9 a0_10 a0_11 a1 = some r) :
  Calls Try.prog 41 #[.agg #[.int .i64 a0_0, .int .i64 a0_1, .int .i64 a0_2, .slice A0_3 l0_3.length c0_3, .int .i64 a0_4, .int .i64 a0_5, .int .i64 a0_6, .int .i64 a0_7, .int .i64 a0_8, .int .u64 a0_9, .int .u64 a0_10, .int .u64 a0_11], .int .i64 a1] w fun e w' => e = .returned (.int .i64 r) ∧ Below w.heap.size w w' := by
 have hu69 := Try.underlying69
 have hu23 := Try.underlying23
 have HR0_3 := zqi hr0_3
 have HC0_3 := zqi hc0_3
 clear hr0_3 hc0_3
 have HB := zqi (Below.refl w.heap.size w)
 have H : (if 0 ≤ a0_4 then (if a0_4 < (l0_3.length : Int) then (if 0 ≤ a1 then (if a1 < (l0_3.length : Int) then ((plane_Far.f ((rd_T23 l0_3 a0_4).f0) ((rd_T23 l0_3 a0_4).f1) ((rd_T23 l0_3 a0_4).f2) ((rd_T23 l0_3 a0_4).f3) ((rd_T23 l0_3 a0_4).f4) ((rd_T23 l0_3 a0_4).f5) ((rd_T23 l0_3 a1).f0) ((rd_T23 l0_3 a1).f1) ((rd_T23 l0_3 a1).f2) ((rd_T23 l0_3 a1).f3) ((rd_T23 l0_3 a1).f4) ((rd_T23 l0_3 a1).f5)).bind fun t110 => (some t110)) else (none)) else (none)) else (none)) else (none)) = some r := h
 clear h
 by_cases c3 : 0 ≤ a0_4
 ·
  rw [if_pos c3] at H
  have c3b0 : decide (0 ≤ a0_4) = true := decide_eq_true c3
  clear c3
  by_cases c4 : a0_4 < (l0_3.length : Int)
  ·
   rw [if_pos c4] at H
   have c4b0 : decide (a0_4 < (l0_3.length : Int)) = true := decide_eq_true c4
   clear c4
   by_cases c5 : 0 ≤ a1
   ·
    rw [if_pos c5] at H
    have c5b0 : decide (0 ≤ a1) = true := decide_eq_true c5
    clear c5
    by_cases c6 : a1 < (l0_3.length : Int)
    ·
     rw [if_pos c6] at H
     have c6b0 : decide (a1 < (l0_3.length : Int)) = true := decide_eq_true c6
     clear c6
     replace H := Option.bind_eq_some_iff.mp H
     obtain ⟨t110, A70, H⟩ := H
     replace H : (some t110) = some r := H
     have A7 := zqi A70
     clear A70
     obtain rfl := Option.some.inj H
     go_enter Try.func41, Try.ntmps41
     try go_wp2_with (first | ((with_reducible refine gate_dst (N := 2) rfl ?_); refine box_event ?hg (N := 2) ?hd (cs := #[.int .i64 a0_0, .int .i64 a0_1, .int .i64 a0_2, .slice A0_3 l0_3.length c0_3, .int .i64 a0_4, .int .i64 a0_5, .int .i64 a0_6, .int .i64 a0_7, .int .i64 a0_8, .int .u64 a0_9, .int .u64 a0_10, .int .u64 a0_11]) (t := 69) ?hr ?_; (case hd => rfl); (case hg => rfl); (case hr => first | (go_simp; done) | (go_simp; rfl)); intro gb107 hg w8 hbox hb; have n0_ := zqi (below_step (zqn HB.out) hb); have n1_ := zqi (hbox); have n2_ := zqi (zqo hg HB.out); have n3_ := zqi (zqo hg HB.out); clear HB; have HB := n0_; have BK107 := n1_; have GW107 := n2_; have GE107 := n3_; clear n0_ n1_ n2_ n3_; clear hb hbox hg))
     have n0_ := zqi (zqb BK107.out)
     have n1_ := zqi (zqh HB.out)
     clear BK107
     clear HB
     have BK107 := n0_
     have HB := n1_
     clear n0_ n1_
     have p108 : 0 ≤ (a0_4 : Int) := of_decide_eq_true (by first | (with_reducible assumption) | assumption)
     have q108 : a0_4 < (l0_3.length : Int) := of_decide_eq_true (by first | (with_reducible assumption) | assumption)
     obtain ⟨ad108, e108, hx108_0, hx108_1, hx108_2, hx108_3, hx108_4, hx108_5⟩ := at_T23 HR0_3.out a0_4 p108 q108
     have hw108_5 := hx108_5
     have hw108_4 := hx108_4
     have hw108_3 := hx108_3
     have hw108_2 := hx108_2
     have hw108_1 := hx108_1
     have hw108_0 := hx108_0
     cases e108
     replace hx108_0 := (HB.out.cell (World.block_lt_of_cell? w _ hx108_0)).trans hx108_0
     replace hx108_1 := (HB.out.cell (World.block_lt_of_cell? w _ hx108_1)).trans hx108_1
     replace hx108_2 := (HB.out.cell (World.block_lt_of_cell? w _ hx108_2)).trans hx108_2
     replace hx108_3 := (HB.out.cell (World.block_lt_of_cell? w _ hx108_3)).trans hx108_3
     replace hx108_4 := (HB.out.cell (World.block_lt_of_cell? w _ hx108_4)).trans hx108_4
     replace hx108_5 := (HB.out.cell (World.block_lt_of_cell? w _ hx108_5)).trans hx108_5
     replace p108 := eq_true p108
     replace q108 := eq_true q108
     have p109 : 0 ≤ (a1 : Int) := of_decide_eq_true (by first | (with_reducible assumption) | assumption)
     have q109 : a1 < (l0_3.length : Int) := of_decide_eq_true (by first | (with_reducible assumption) | assumption)
     obtain ⟨ad109, e109, hx109_0, hx109_1, hx109_2, hx109_3, hx109_4, hx109_5⟩ := at_T23 HR0_3.out a1 p109 q109
     have hw109_5 := hx109_5
     have hw109_4 := hx109_4
     have hw109_3 := hx109_3
     have hw109_2 := hx109_2
     have hw109_1 := hx109_1
     have hw109_0 := hx109_0
     obtain rfl : ad108 = ad109 := (by injection e109)
     replace hx109_0 := (HB.out.cell (World.block_lt_of_cell? w _ hx109_0)).trans hx109_0
     replace hx109_1 := (HB.out.cell (World.block_lt_of_cell? w _ hx109_1)).trans hx109_1
     replace hx109_2 := (HB.out.cell (World.block_lt_of_cell? w _ hx109_2)).trans hx109_2
     replace hx109_3 := (HB.out.cell (World.block_lt_of_cell? w _ hx109_3)).trans hx109_3
     replace hx109_4 := (HB.out.cell (World.block_lt_of_cell? w _ hx109_4)).trans hx109_4
     replace hx109_5 := (HB.out.cell (World.block_lt_of_cell? w _ hx109_5)).trans hx109_5
     replace p109 := eq_true p109
     replace q109 := eq_true q109
     refine start_ (n := 16) (S := fun w' => w'.cell? ⟨gb107, 0, none⟩ = some (.int .i64 a0_0) ∧ w'.cell? ⟨gb107, 1, none⟩ = some (.int .i64 a0_1) ∧ w'.cell? ⟨gb107, 2, none⟩ = some (.int .i64 a0_2) ∧ w'.cell? ⟨gb107, 3, none⟩ = some (.slice (some ad108) l0_3.length c0_3) ∧ w'.cell? ⟨gb107, 4, none⟩ = some (.int .i64 a0_4) ∧ w'.cell? ⟨gb107, 5, none⟩ = some (.int .i64 a0_5) ∧ w'.cell? ⟨gb107, 6, none⟩ = some (.int .i64 a0_6) ∧ w'.cell? ⟨gb107, 7, none⟩ = some (.int .i64 a0_7) ∧ w'.cell? ⟨gb107, 8, none⟩ = some (.int .i64 a0_8) ∧ w'.cell? ⟨gb107, 9, none⟩ = some (.int .u64 a0_9) ∧ w'.cell? ⟨gb107, 10, none⟩ = some (.int .u64 a0_10) ∧ w'.cell? ⟨gb107, 11, none⟩ = some (.int .u64 a0_11) ∧ w'.cell? (ad108.add ((a0_4).toNat * 6)) = some (.int .i64 ((rd_T23 l0_3 a0_4).f0)) ∧ w'.cell? ⟨(ad108.add ((a0_4).toNat * 6)).block, (ad108.add ((a0_4).toNat * 6)).off + 1, none⟩ = some (.int .i64 ((rd_T23 l0_3 a0_4).f1)) ∧ w'.cell? ⟨(ad108.add ((a0_4).toNat * 6)).block, (ad108.add ((a0_4).toNat * 6)).off + 2, none⟩ = some (.int .i64 ((rd_T23 l0_3 a0_4).f2)) ∧ w'.cell? ⟨(ad108.add ((a0_4).toNat * 6)).block, (ad108.add ((a0_4).toNat * 6)).off + 3, none⟩ = some (.int .i64 ((rd_T23 l0_3 a0_4).f3)) ∧ w'.cell? ⟨(ad108.add ((a0_4).toNat * 6)).block, (ad108.add ((a0_4).toNat * 6)).off + 4, none⟩ = some (.int .i64 ((rd_T23 l0_3 a0_4).f4)) ∧ w'.cell? ⟨(ad108.add ((a0_4).toNat * 6)).block, (ad108.add ((a0_4).toNat * 6)).off + 5, none⟩ = some (.int .i64 ((rd_T23 l0_3 a0_4).f5)) ∧ w'.cell? (ad108.add ((a1).toNat * 6)) = some (.int .i64 ((rd_T23 l0_3 a1).f0)) ∧ w'.cell? ⟨(ad108.add ((a1).toNat * 6)).block, (ad108.add ((a1).toNat * 6)).off + 1, none⟩ = some (.int .i64 ((rd_T23 l0_3 a1).f1)) ∧ w'.cell? ⟨(ad108.add ((a1).toNat * 6)).block, (ad108.add ((a1).toNat * 6)).off + 2, none⟩ = some (.int .i64 ((rd_T23 l0_3 a1).f2)) ∧ w'.cell? ⟨(ad108.add ((a1).toNat * 6)).block, (ad108.add ((a1).toNat * 6)).off + 3, none⟩ = some (.int .i64 ((rd_T23 l0_3 a1).f3)) ∧ w'.cell? ⟨(ad108.add ((a1).toNat * 6)).block, (ad108.add ((a1).toNat * 6)).off + 4, none⟩ = some (.int .i64 ((rd_T23 l0_3 a1).f4)) ∧ w'.cell? ⟨(ad108.add ((a1).toNat * 6)).block, (ad108.add ((a1).toNat * 6)).off + 5, none⟩ = some (.int .i64 ((rd_T23 l0_3 a1).f5))) (ds := []) (zqB 16 0) (by kernel_rfl) rfl rfl ⟨(zqe BK107.out 0).trans rfl, (zqe BK107.out 1).trans rfl, (zqe BK107.out 2).trans rfl, (zqe BK107.out 3).trans rfl, (zqe BK107.out 4).trans rfl, (zqe BK107.out 5).trans rfl, (zqe BK107.out 6).trans rfl, (zqe BK107.out 7).trans rfl, (zqe BK107.out 8).trans rfl, (zqe BK107.out 9).trans rfl, (zqe BK107.out 10).trans rfl, (zqe BK107.out 11).trans rfl, ((HB.out.cell (World.block_lt_of_cell? w _ hw108_0)).trans hw108_0), ((HB.out.cell (World.block_lt_of_cell? w _ hw108_1)).trans hw108_1), ((HB.out.cell (World.block_lt_of_cell? w _ hw108_2)).trans hw108_2), ((HB.out.cell (World.block_lt_of_cell? w _ hw108_3)).trans hw108_3), ((HB.out.cell (World.block_lt_of_cell? w _ hw108_4)).trans hw108_4), ((HB.out.cell (World.block_lt_of_cell? w _ hw108_5)).trans hw108_5), ((HB.out.cell (World.block_lt_of_cell? w _ hw109_0)).trans hw109_0), ((HB.out.cell (World.block_lt_of_cell? w _ hw109_1)).trans hw109_1), ((HB.out.cell (World.block_lt_of_cell? w _ hw109_2)).trans hw109_2), ((HB.out.cell (World.block_lt_of_cell? w _ hw109_3)).trans hw109_3), ((HB.out.cell (World.block_lt_of_cell? w _ hw109_4)).trans hw109_4), ((HB.out.cell (World.block_lt_of_cell? w _ hw109_5)).trans hw109_5)⟩ (fun hHeld => ?_); refine with_tabW state_here_far.tab1 state_here_far.bits1 (fun HT_ HW_ => ?_)
     generalize w8.drew = w9 at BK107 HB hx108_0 hx108_1 hx108_2 hx108_3 hx108_4 hx108_5 hx109_0 hx109_1 hx109_2 hx109_3 hx109_4 hx109_5 hHeld ⊢
     refine zqp 0 (some 5) (zqB 16 1) (any_of HT_.out (by kernel_rfl)) (h := ?_)
     refine zqp 1 (some 6) (zqB 16 3) (any_of HT_.out (by kernel_rfl)) (h := ?_)
     refine zqp 3 (some 8) (zqB 16 11) (any_of HT_.out (by kernel_rfl)) (h := ?_)
     refine zqp 4 (some 9) (zqB 16 27) (any_of HT_.out (by kernel_rfl)) (h := ?_)
     refine zqp 8 (some 13) (zqB 16 283) (any_of HT_.out (by kernel_rfl)) (h := ?_)
     refine zqp 9 (some 14) (zqB 16 795) (any_of HT_.out (by kernel_rfl)) (h := ?_)
     refine zqp 11 (some 16) (zqB 16 2843) (any_of HT_.out (by kernel_rfl)) (h := ?_)
     refine zqt 2 (some 7) (zqB 16 2847) (take_ofW HT_.out HW_.out (by kernel_rfl)) hHeld (h := ?_)
     refine zqt 5 (some 10) (zqB 16 2879) (take_ofW HT_.out HW_.out (by kernel_rfl)) hHeld (h := ?_)
     refine zqp 6 (some 11) (zqB 16 2943) (any_of HT_.out (by kernel_rfl)) (h := ?_)
     refine zqt 7 (some 12) (zqB 16 3071) (take_ofW HT_.out HW_.out (by kernel_rfl)) hHeld (h := ?_)
     refine zqt 10 (some 15) (zqB 16 4095) (take_ofW HT_.out HW_.out (by kernel_rfl)) hHeld (h := ?_)
     refine zqp 12 (some 17) (zqB 16 8191) (any_of HT_.out (by kernel_rfl)) (h := ?_)
     refine zqt 13 (some 18) (zqB 16 16383) (take_ofW HT_.out HW_.out (by kernel_rfl)) hHeld (h := ?_)
     refine one_ (i := 14) (N := some 19) (zqB 16 32767) rfl rfl (one_of HT_.out (by kernel_rfl)) (by decide) (fun K hK => ?_)
     refine goes_ Try.func17 (by kernel_rfl) rfl #[.agg #[.int .i64 ((rd_T23 l0_3 a0_4).f0), .int .i64 ((rd_T23 l0_3 a0_4).f1), .int .i64 ((rd_T23 l0_3 a0_4).f2), .int .i64 ((rd_T23 l0_3 a0_4).f3), .int .i64 ((rd_T23 l0_3 a0_4).f4), .int .i64 ((rd_T23 l0_3 a0_4).f5)], .agg #[.int .i64 ((rd_T23 l0_3 a1).f0), .int .i64 ((rd_T23 l0_3 a1).f1), .int .i64 ((rd_T23 l0_3 a1).f2), .int .i64 ((rd_T23 l0_3 a1).f3), .int .i64 ((rd_T23 l0_3 a1).f4), .int .i64 ((rd_T23 l0_3 a1).f5)]] (by rfl) rfl rfl (by (try simp only [List.map_toArray, List.map_cons, List.map_nil]); first | done | rfl | (simp only [List.length_drop, List.length_take]; rfl)) ?_
     with_reducible refine (plane_Far.calls ((rd_T23 l0_3 a0_4).f0) ((rd_T23 l0_3 a0_4).f1) ((rd_T23 l0_3 a0_4).f2) ((rd_T23 l0_3 a0_4).f3) ((rd_T23 l0_3 a0_4).f4) ((rd_T23 l0_3 a0_4).f5) ((rd_T23 l0_3 a1).f0) ((rd_T23 l0_3 a1).f1) ((rd_T23 l0_3 a1).f2) ((rd_T23 l0_3 a1).f3) ((rd_T23 l0_3 a1).f4) ((rd_T23 l0_3 a1).f5) t110 _ A7.out).mono ?_
     rintro e w10 ⟨rfl, hb⟩
     refine ⟨_, rfl, ?_⟩
     have n0_ := zqi (zqy BK107.out hb)
     have n1_ := zqi (below_step (zqn HB.out) hb)
     clear BK107
     clear HB
     have BK107 := n0_
     have HB := n1_
     clear n0_ n1_
     (try clear hb)
     (try clear hb2)
     (try clear hk)
     (try clear hi)
     refine hK.out _ _ ⟨(zqe BK107.out 0).trans rfl, (zqe BK107.out 1).trans rfl, (zqe BK107.out 2).trans rfl, (zqe BK107.out 3).trans rfl, (zqe BK107.out 4).trans rfl, (zqe BK107.out 5).trans rfl, (zqe BK107.out 6).trans rfl, (zqe BK107.out 7).trans rfl, (zqe BK107.out 8).trans rfl, (zqe BK107.out 9).trans rfl, (zqe BK107.out 10).trans rfl, (zqe BK107.out 11).trans rfl, ((HB.out.cell (World.block_lt_of_cell? w _ hw108_0)).trans hw108_0), ((HB.out.cell (World.block_lt_of_cell? w _ hw108_1)).trans hw108_1), ((HB.out.cell (World.block_lt_of_cell? w _ hw108_2)).trans hw108_2), ((HB.out.cell (World.block_lt_of_cell? w _ hw108_3)).trans hw108_3), ((HB.out.cell (World.block_lt_of_cell? w _ hw108_4)).trans hw108_4), ((HB.out.cell (World.block_lt_of_cell? w _ hw108_5)).trans hw108_5), ((HB.out.cell (World.block_lt_of_cell? w _ hw109_0)).trans hw109_0), ((HB.out.cell (World.block_lt_of_cell? w _ hw109_1)).trans hw109_1), ((HB.out.cell (World.block_lt_of_cell? w _ hw109_2)).trans hw109_2), ((HB.out.cell (World.block_lt_of_cell? w _ hw109_3)).trans hw109_3), ((HB.out.cell (World.block_lt_of_cell? w _ hw109_4)).trans hw109_4), ((HB.out.cell (World.block_lt_of_cell? w _ hw109_5)).trans hw109_5)⟩ (fun hHeld => ?_)
     clear hK K
     refine norm_ (a' := ?_) ?_ ?_
     rotate_left
     ·
      show Act.put _ (some 19) _ = _
      simp only [Act.put, List.setIfInBounds_toArray, List.set_cons_zero, List.set_cons_succ, i64_w, i32_w]
      rfl
     refine zqp 15 (some 4) (zqB 16 65535) (any_of HT_.out (by kernel_rfl)) (h := ?_)
     refine done_ (done_of HT_.out (by kernel_rfl)) ?_
     try go_wp2
     go_ret
     exact ⟨by first | rfl | (simp [errW_none, errW_some] <;> rfl) | (simp [*, errW_none, errW_some] <;> rfl), by repeat (first | (with_reducible first | exact HB.out | apply zqg | apply zqf | apply zqh | refine below_set ?_ GE107.out) | exact HB.out)⟩
    ·
     rw [if_neg c6] at H
     exact absurd H (by simp)
   ·
    rw [if_neg c5] at H
    exact absurd H (by simp)
  ·
   rw [if_neg c4] at H
   exact absurd H (by simp)
 ·
  rw [if_neg c3] at H
  exact absurd H (by simp)

/-! ### set_With: function 71 -/
def set_With.f (a0 : Int) (a1 : Int) : Option (Int) := (set_bit.f a1).bind fun t111 => (some (Go.bits .or .u64 a0 t111))
set_option maxHeartbeats 8000000 in
set_option maxRecDepth 100000 in
theorem set_With.calls (a0 : Int) (a1 : Int) (r : Int) (w : World) (h : set_With.f a0 a1 = some r) :
    Calls Try.prog 71 #[.int .u64 a0, .int .i64 a1] w fun e w' => e = .returned (.int .u64 r) ∧ Drawn0 w w' := by
  have H : ((set_bit.f a1).bind fun t111 => (some (Go.bits .or .u64 a0 t111))) = some r := h
  clear h
  replace H := Option.bind_eq_some_iff.mp H
  obtain ⟨t111, A30, H⟩ := H
  replace H : (some (Go.bits .or .u64 a0 t111)) = some r := H
  have A3 := Aside0.mk A30
  clear A30
  obtain rfl := Option.some.inj H
  go_enter Try.func71, Try.ntmps71
  go_wp2_with (first | ((with_reducible refine gate_callee (f := 72) rfl ?_); refine goesL_ (some 7) rfl rfl Try.func72 (by kernel_rfl) rfl #[.int .i64 a1] rfl (by (try simp only [List.map_toArray, List.map_cons, List.map_nil]); first | done | rfl | (simp only [List.length_drop, List.length_take]; rfl)) ?_; (with_reducible refine (set_bit.calls a1 t111 _ A3.out).mono ?_); rintro e w' ⟨rfl, ⟨nd, rfl⟩⟩; refine ⟨_, rfl, ?_⟩))
  go_ret
  exact ⟨by first | rfl | (simp; done) | (simp [*]; done), by repeat (first | exact Drawn0.refl _ | apply Drawn0.step)⟩

end Go.Proofs.Ytjiammiihamkiaa.PC
