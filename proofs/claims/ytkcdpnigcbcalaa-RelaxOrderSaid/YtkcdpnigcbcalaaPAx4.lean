-- Printed for this claim by wip/tools/xprint.py over the kit's print; the contracts marked BY HAND are this session's own.
import Derived.Test.YtkcdpnigcbcalaaPAx0
import Derived.Test.YtkcdpnigcbcalaaPAx2
import Derived.Test.YtkcdpnigcbcalaaPAx3
namespace Go.Proofs.Ytkcdpnigcbcalaa.PA
open Go.RowKit Go.Proofs.YtkcdpnigcbcalaaW.PrintWords Go.Proofs.YtkcdpnigcbcalaaW.PrintLast Go.Proofs.YtkcdpnigcbcalaaW.PrintMore
attribute [local go_sem] max2_int min2_int max_two min_two max_three min_three max_four min_four   -- for this text's walks alone
set_option linter.unusedVariables false
set_option linter.unusedSimpArgs false

/-! ### haulierref11_Join: function 13 -/
def haulierref11_Join.l0 : Nat → List (S24) → Int → Int → Int → Int → Int → Int → Int → Int → Int → Option (Int × Int × Int × Int × Int × Int × Int × Int × Bool)
  | 0, _, _, _, _, _, _, _, _, _, _ => none
  | k + 1, x0, x5, x138000, x138001, x138002, x138003, x138004, x138005, x138006, x138007 => if x5 < (x0.length : Int) then (if 0 ≤ x5 then (if ((rd_T24 x0 x5).f0) = x138000 then ((haulierref11_least.f x138001 ((rd_T24 x0 x5).f1)).bind fun t140 => ((haulierref11_least.f x138002 ((rd_T24 x0 x5).f2)).bind fun t141 => ((haulierref11_least.f x138003 ((rd_T24 x0 x5).f3)).bind fun t142 => ((haulierref11_least.f x138004 ((rd_T24 x0 x5).f4)).bind fun t143 => ((haulierref02_And.f k x138005 ((rd_T24 x0 x5).f5)).bind fun t144 => ((haulierref02_Or.f k x138006 ((rd_T24 x0 x5).f6)).bind fun t145 => ((haulierref02_And.f k x138007 ((rd_T24 x0 x5).f7)).bind fun t146 => (haulierref11_Join.l0 k x0 (wrap64 (x5 + 1)) x138000 t140 t141 t142 t143 t144 t145 t146)))))))) else (some (0, 0, 0, 0, 0, 0, 0, 0, false))) else (none)) else (some (x138000, x138001, x138002, x138003, x138004, x138005, x138006, x138007, true))
def haulierref11_Join.f (k : Nat) (l0 : List (S24)) : Option (Int × Int × Int × Int × Int × Int × Int × Int × Bool) := if (l0.length : Int) = 0 then (some (0, 0, 0, 0, 0, 0, 0, 0, false)) else (if 0 < (l0.length : Int) then (haulierref11_Join.l0 k l0 1 ((rd_T24 l0 0).f0) ((rd_T24 l0 0).f1) ((rd_T24 l0 0).f2) ((rd_T24 l0 0).f3) ((rd_T24 l0 0).f4) ((rd_T24 l0 0).f5) ((rd_T24 l0 0).f6) ((rd_T24 l0 0).f7)) else (none))
theorem haulierref11_Join.mono_l : ∀ k, (∀ y0 y1 y2 y3 y4 y5 y6 y7 y8 y9, LeO (haulierref11_Join.l0 k y0 y1 y2 y3 y4 y5 y6 y7 y8 y9) (haulierref11_Join.l0 (k + 1) y0 y1 y2 y3 y4 y5 y6 y7 y8 y9))
  | 0 => fun _ _ _ _ _ _ _ _ _ _ r h => by simp [haulierref11_Join.l0] at h
  | k + 1 => by
    have ih0 := haulierref11_Join.mono_l k
    · intro y0 y1 y2 y3 y4 y5 y6 y7 y8 y9
      unfold haulierref11_Join.l0
      repeat' first
      | (with_reducible exact ih0 _ _ _ _ _ _ _ _ _ _)
      | (with_reducible exact haulierref02_And.mono _ _ _)
      | (with_reducible exact haulierref02_Or.mono _ _ _)
      | (with_reducible exact LeO.refl _)
      | (with_reducible exact LeO.none _)
      | (with_reducible refine LeO.ite ?_ ?_)
      | (with_reducible refine LeO.bind ?_ (fun _ => ?_))
      | exact ih0 _ _ _ _ _ _ _ _ _ _
      | exact haulierref02_And.mono _ _ _
      | exact haulierref02_Or.mono _ _ _
      | exact LeO.none _
      | refine LeO.ite ?_ ?_
      | refine LeO.bind ?_ (fun _ => ?_)
theorem haulierref11_Join.mono : ∀ a0 k, LeO (haulierref11_Join.f k a0) (haulierref11_Join.f (k + 1) a0) := by
  intro a0 k
  have ih0 := haulierref11_Join.mono_l k
  unfold haulierref11_Join.f
  repeat' first
      | (with_reducible exact ih0 _ _ _ _ _ _ _ _ _ _)
      | (with_reducible exact haulierref02_And.mono _ _ _)
      | (with_reducible exact haulierref02_Or.mono _ _ _)
      | (with_reducible exact LeO.refl _)
      | (with_reducible exact LeO.none _)
      | (with_reducible refine LeO.ite ?_ ?_)
      | (with_reducible refine LeO.bind ?_ (fun _ => ?_))
      | exact ih0 _ _ _ _ _ _ _ _ _ _
      | exact haulierref02_And.mono _ _ _
      | exact haulierref02_Or.mono _ _ _
      | exact LeO.none _
      | refine LeO.ite ?_ ?_
      | refine LeO.bind ?_ (fun _ => ?_)
def haulierref11_Join.T10 : Bool × List (List Nat × List Nat) := (true, [([], []), ([0], [0]), ([], []), ([2], [2]), ([], []), ([4], [4]), ([3, 5], [3, 5]), ([], []), ([7], [7]), ([], []), ([9], [9]), ([8, 10, 6], [8, 10]), ([], []), ([12], [12]), ([], []), ([14], [14]), ([13, 15, 11], [13, 15]), ([], []), ([17], [17]), ([], []), ([19], [19]), ([18, 20, 16], [18, 20]), ([], []), ([22], [22]), ([], []), ([24], [24]), ([23, 25, 21], [23, 25]), ([], []), ([27], [27]), ([], []), ([29], [29]), ([28, 30, 26], [28, 30]), ([], []), ([32], [32]), ([], []), ([34], [34]), ([33, 35, 31], [33, 35]), ([1, 6, 11, 16, 21, 26, 31, 36], [1, 6, 11, 16, 21, 26, 31, 36]), ([37, 36, 0, 1, 2, 3, 4, 5, 6, 7, 8, 9, 10, 11, 12, 13, 14, 15, 16, 17, 18, 19, 20, 21, 22, 23, 24, 25, 26, 27, 28, 29, 30, 31, 32, 33, 34, 35, 36, 37], [37])])
def haulierref11_Join.B10 : List Nat := [0, 1, 0, 4, 0, 16, 60, 0, 128, 0, 512, 2044, 0, 4096, 0, 16384, 65532, 0, 131072, 0, 524288, 2097148, 0, 4194304, 0, 16777216, 67108860, 0, 134217728, 0, 536870912, 2147483644, 0, 4294967296, 0, 17179869184, 68719476732, 137438953471, 274877906943]
theorem haulierref11_Join.tab10 : rtab .any (opsOf Try.f13 10) = haulierref11_Join.T10 := by kernel_rfl
theorem haulierref11_Join.bits10 : waitsOk haulierref11_Join.T10.2 haulierref11_Join.B10 = true := by kernel_rfl
set_option maxHeartbeats 8000000 in
set_option maxRecDepth 100000 in
theorem haulierref11_Join.calls (k : Nat) (A0 : Option Addr) (c0 : Nat) (l0 : List (S24)) (r1 : Int) (r2 : Int) (r3 : Int) (r4 : Int) (r5 : Int) (r6 : Int) (r7 : Int) (r8 : Int) (r9 : Bool) (w : World) (hr0 : Kd.C k24 w A0 l0.length l0) (hc0 : l0.length ≤ c0) (h : haulierref11_Join.f k l0 = some (r1, r2, r3, r4, r5, r6, r7, r8, r9)) :
    Calls Try.prog 13 #[.slice A0 l0.length c0] w fun e w' => e = .returned (.tuple #[.agg #[.int .i64 r1, .int .i64 r2, .int .i64 r3, .int .i64 r4, .int .i64 r5, .int .u64 r6, .int .u64 r7, .int .u64 r8], .bool r9]) ∧ Below w.heap.size w w' := by
  have hu24 := Try.underlying24
  have HR0 := Aside0.mk hr0
  have HC0 := Aside0.mk hc0
  clear hr0 hc0
  have HB := Aside0.mk (Below.refl w.heap.size w)
  have H : (if (l0.length : Int) = 0 then (some (0, 0, 0, 0, 0, 0, 0, 0, false)) else (if 0 < (l0.length : Int) then (haulierref11_Join.l0 k l0 1 ((rd_T24 l0 0).f0) ((rd_T24 l0 0).f1) ((rd_T24 l0 0).f2) ((rd_T24 l0 0).f3) ((rd_T24 l0 0).f4) ((rd_T24 l0 0).f5) ((rd_T24 l0 0).f6) ((rd_T24 l0 0).f7)) else (none))) = some (r1, r2, r3, r4, r5, r6, r7, r8, r9) := h
  clear h
  by_cases c2 : (l0.length : Int) = 0
  · rw [if_pos c2] at H
    have c2b0 : ((l0.length : Int) == 0) = true := beq_iff_eq.mpr c2
    have c2b1 : ((l0.length : Int) != 0) = false := bne_eq_false_iff_eq.mpr c2
    clear c2
    simp only [Option.some.injEq, Prod.mk.injEq] at H
    obtain ⟨rfl, rfl, rfl, rfl, rfl, rfl, rfl, rfl, rfl⟩ := H
    go_enter Try.func13, Try.ntmps13
    go_wp2_with (first | ((with_reducible refine gate_dst (N := 2) rfl ?_); refine box_event ?hg (N := 2) ?hd (cs := #[.int .i64 0, .int .i64 0, .int .i64 0, .int .i64 0, .int .i64 0, .int .u64 0, .int .u64 0, .int .u64 0]) (t := 24) ?hr ?_; (case hd => rfl); (case hg => rfl); (case hr => first | (go_simp; done) | (go_simp; rfl)); intro gb135 hg w3 hbox hb; have n0_ := Aside0.mk (below_step (by repeat (first | (with_reducible first | exact HB.out | apply below_alloc | apply pw_below_drewN | apply below_drew1) | exact HB.out)) hb); have n1_ := Aside0.mk (hbox); have n2_ := Aside0.mk ((by rw [hg]; exact (below_size (by repeat (first | (with_reducible first | exact HB.out | apply below_alloc | apply pw_below_drewN | apply below_drew1) | exact HB.out))) : w.heap.size ≤ gb135)); have n3_ := Aside0.mk ((by rw [hg]; exact (below_size (by repeat (first | (with_reducible first | exact HB.out | apply below_alloc | apply pw_below_drewN | apply below_drew1) | exact HB.out))) : w.heap.size ≤ gb135)); clear HB; have HB := n0_; have BK135 := n1_; have GW135 := n2_; have GE135 := n3_; clear n0_ n1_ n2_ n3_; clear hb hbox hg; have hcz4_0 : w3.cell? ⟨gb135, 0, none⟩ = some (.int .i64 0) := (blk_cell BK135.out 0).trans rfl; have hcz4_1 : w3.cell? ⟨gb135, 1, none⟩ = some (.int .i64 0) := (blk_cell BK135.out 1).trans rfl; have hcz4_2 : w3.cell? ⟨gb135, 2, none⟩ = some (.int .i64 0) := (blk_cell BK135.out 2).trans rfl; have hcz4_3 : w3.cell? ⟨gb135, 3, none⟩ = some (.int .i64 0) := (blk_cell BK135.out 3).trans rfl; have hcz4_4 : w3.cell? ⟨gb135, 4, none⟩ = some (.int .i64 0) := (blk_cell BK135.out 4).trans rfl; have hcz4_5 : w3.cell? ⟨gb135, 5, none⟩ = some (.int .u64 0) := (blk_cell BK135.out 5).trans rfl; have hcz4_6 : w3.cell? ⟨gb135, 6, none⟩ = some (.int .u64 0) := (blk_cell BK135.out 6).trans rfl; have hcz4_7 : w3.cell? ⟨gb135, 7, none⟩ = some (.int .u64 0) := (blk_cell BK135.out 7).trans rfl; have hfz4_0 := blk_frozen BK135.out 0; have hfz4_1 := blk_frozen BK135.out 1; have hfz4_2 := blk_frozen BK135.out 2; have hfz4_3 := blk_frozen BK135.out 3; have hfz4_4 := blk_frozen BK135.out 4; have hfz4_5 := blk_frozen BK135.out 5; have hfz4_6 := blk_frozen BK135.out 6; have hfz4_7 := blk_frozen BK135.out 7))
    refine bodyPost_ret (results_ct rfl _ _ gb135 24 #[.int .i64 0, .int .i64 0, .int .i64 0, .int .i64 0, .int .i64 0, .int .u64 0, .int .u64 0, .int .u64 0] (0, 0) _ rfl (by (with_reducible repeat (first | refine blk_drewN ?_ _ | refine blk_drew ?_ | refine blk_alloc ?_ _)); refine blk_put (cs := #[.int .i64 0, .int .i64 0, .int .i64 0, .int .i64 0, .int .i64 0, .int .u64 0, .int .u64 0, .int .u64 0]) ?_ 7 _ rfl; (with_reducible repeat (first | refine blk_drewN ?_ _ | refine blk_drew ?_ | refine blk_alloc ?_ _)); refine blk_put (cs := #[.int .i64 0, .int .i64 0, .int .i64 0, .int .i64 0, .int .i64 0, .int .u64 0, .int .u64 0, .int .u64 0]) ?_ 6 _ rfl; (with_reducible repeat (first | refine blk_drewN ?_ _ | refine blk_drew ?_ | refine blk_alloc ?_ _)); refine blk_put (cs := #[.int .i64 0, .int .i64 0, .int .i64 0, .int .i64 0, .int .i64 0, .int .u64 0, .int .u64 0, .int .u64 0]) ?_ 5 _ rfl; (with_reducible repeat (first | refine blk_drewN ?_ _ | refine blk_drew ?_ | refine blk_alloc ?_ _)); refine blk_put (cs := #[.int .i64 0, .int .i64 0, .int .i64 0, .int .i64 0, .int .i64 0, .int .u64 0, .int .u64 0, .int .u64 0]) ?_ 4 _ rfl; (with_reducible repeat (first | refine blk_drewN ?_ _ | refine blk_drew ?_ | refine blk_alloc ?_ _)); refine blk_put (cs := #[.int .i64 0, .int .i64 0, .int .i64 0, .int .i64 0, .int .i64 0, .int .u64 0, .int .u64 0, .int .u64 0]) ?_ 3 _ rfl; (with_reducible repeat (first | refine blk_drewN ?_ _ | refine blk_drew ?_ | refine blk_alloc ?_ _)); refine blk_put (cs := #[.int .i64 0, .int .i64 0, .int .i64 0, .int .i64 0, .int .i64 0, .int .u64 0, .int .u64 0, .int .u64 0]) ?_ 2 _ rfl; (with_reducible repeat (first | refine blk_drewN ?_ _ | refine blk_drew ?_ | refine blk_alloc ?_ _)); refine blk_put (cs := #[.int .i64 0, .int .i64 0, .int .i64 0, .int .i64 0, .int .i64 0, .int .u64 0, .int .u64 0, .int .u64 0]) ?_ 1 _ rfl; (with_reducible repeat (first | refine blk_drewN ?_ _ | refine blk_drew ?_ | refine blk_alloc ?_ _)); refine blk_put (cs := #[.int .i64 0, .int .i64 0, .int .i64 0, .int .i64 0, .int .i64 0, .int .u64 0, .int .u64 0, .int .u64 0]) ?_ 0 _ rfl; (with_reducible repeat (first | refine blk_drewN ?_ _ | refine blk_drew ?_ | refine blk_alloc ?_ _)); exact BK135.out) Try.underlying24 rfl (by kernel_rfl)) rfl ?_
    exact ⟨by first | rfl | (simp [errW_none, errW_some] <;> rfl) | (simp [*, errW_none, errW_some] <;> rfl), by repeat (first | (with_reducible first | exact HB.out | apply below_alloc | apply pw_below_drewN | apply below_drew1 | refine below_set ?_ GE135.out) | exact HB.out)⟩
  · rw [if_neg c2] at H
    have c2b0 : ((l0.length : Int) == 0) = false := beq_eq_false_iff_ne.mpr c2
    have c2b1 : ((l0.length : Int) != 0) = true := bne_iff_ne.mpr c2
    have c2b2 : ¬ (l0 = []) := fun h_ => c2 (by rw [h_]; rfl)
    by_cases c5 : 0 < (l0.length : Int)
    · rw [if_pos c5] at H
      have c5b0 : decide (0 < (l0.length : Int)) = true := decide_eq_true c5
      have c5b1 : decide (0 < l0.length) = true := decide_eq_true (by omega)
      clear c5
      have H' := Aside0.mk H
      clear H
      go_enter Try.func13, Try.ntmps13
      go_wp2_with (first | ((with_reducible refine gate_dst (N := 2) rfl ?_); refine box_event ?hg (N := 2) ?hd (cs := #[.int .i64 0, .int .i64 0, .int .i64 0, .int .i64 0, .int .i64 0, .int .u64 0, .int .u64 0, .int .u64 0]) (t := 24) ?hr ?_; (case hd => rfl); (case hg => rfl); (case hr => first | (go_simp; done) | (go_simp; rfl)); intro gb135 hg w6 hbox hb; have n0_ := Aside0.mk (below_step (by repeat (first | (with_reducible first | exact HB.out | apply below_alloc | apply pw_below_drewN | apply below_drew1) | exact HB.out)) hb); have n1_ := Aside0.mk (hbox); have n2_ := Aside0.mk ((by rw [hg]; exact (below_size (by repeat (first | (with_reducible first | exact HB.out | apply below_alloc | apply pw_below_drewN | apply below_drew1) | exact HB.out))) : w.heap.size ≤ gb135)); have n3_ := Aside0.mk ((by rw [hg]; exact (below_size (by repeat (first | (with_reducible first | exact HB.out | apply below_alloc | apply pw_below_drewN | apply below_drew1) | exact HB.out))) : w.heap.size ≤ gb135)); clear HB; have HB := n0_; have BK135 := n1_; have GW135 := n2_; have GE135 := n3_; clear n0_ n1_ n2_ n3_; clear hb hbox hg; have p136 : 0 ≤ (0 : Int) := (by omega); have q136 : 0 < (l0.length : Int) := of_decide_eq_true (by first | (with_reducible assumption) | assumption); obtain ⟨ad136, e136, hx136_0, hx136_1, hx136_2, hx136_3, hx136_4, hx136_5, hx136_6, hx136_7⟩ := at_T24 HR0.out 0 p136 q136; cases e136; have qi136 : (0 < l0.length) = True := eq_true (by omega); (try rw [show ((0 : Int)).toNat = 0 from rfl] at hx136_0); (try rw [show 0 * 8 = 0 from rfl] at hx136_0); (try rw [Addr.add_zero'] at hx136_0); (try rw [show ((0 : Int)).toNat = 0 from rfl] at hx136_1); (try rw [show 0 * 8 = 0 from rfl] at hx136_1); (try rw [Addr.add_zero'] at hx136_1); (try rw [show ((0 : Int)).toNat = 0 from rfl] at hx136_2); (try rw [show 0 * 8 = 0 from rfl] at hx136_2); (try rw [Addr.add_zero'] at hx136_2); (try rw [show ((0 : Int)).toNat = 0 from rfl] at hx136_3); (try rw [show 0 * 8 = 0 from rfl] at hx136_3); (try rw [Addr.add_zero'] at hx136_3); (try rw [show ((0 : Int)).toNat = 0 from rfl] at hx136_4); (try rw [show 0 * 8 = 0 from rfl] at hx136_4); (try rw [Addr.add_zero'] at hx136_4); (try rw [show ((0 : Int)).toNat = 0 from rfl] at hx136_5); (try rw [show 0 * 8 = 0 from rfl] at hx136_5); (try rw [Addr.add_zero'] at hx136_5); (try rw [show ((0 : Int)).toNat = 0 from rfl] at hx136_6); (try rw [show 0 * 8 = 0 from rfl] at hx136_6); (try rw [Addr.add_zero'] at hx136_6); (try rw [show ((0 : Int)).toNat = 0 from rfl] at hx136_7); (try rw [show 0 * 8 = 0 from rfl] at hx136_7); (try rw [Addr.add_zero'] at hx136_7); replace hx136_0 := (HB.out.cell (World.block_lt_of_cell? w _ hx136_0)).trans hx136_0; replace hx136_1 := (HB.out.cell (World.block_lt_of_cell? w _ hx136_1)).trans hx136_1; replace hx136_2 := (HB.out.cell (World.block_lt_of_cell? w _ hx136_2)).trans hx136_2; replace hx136_3 := (HB.out.cell (World.block_lt_of_cell? w _ hx136_3)).trans hx136_3; replace hx136_4 := (HB.out.cell (World.block_lt_of_cell? w _ hx136_4)).trans hx136_4; replace hx136_5 := (HB.out.cell (World.block_lt_of_cell? w _ hx136_5)).trans hx136_5; replace hx136_6 := (HB.out.cell (World.block_lt_of_cell? w _ hx136_6)).trans hx136_6; replace hx136_7 := (HB.out.cell (World.block_lt_of_cell? w _ hx136_7)).trans hx136_7; replace p136 := eq_true p136; replace q136 := eq_true q136) | ((with_reducible refine gate_dst (N := 4) rfl ?_); refine box_event ?hg (N := 4) ?hd (cs := #[.int .i64 0, .int .i64 0, .int .i64 0, .int .i64 0, .int .i64 0, .int .u64 0, .int .u64 0, .int .u64 0]) (t := 24) ?hr ?_; (case hd => rfl); (case hg => rfl); (case hr => first | (go_simp; done) | (go_simp; rfl)); intro gb137 hg w7 hbox hb; have n0_ := Aside0.mk (blk_below (g := gb135) (o := .cells #[.int .i64 0, .int .i64 0, .int .i64 0, .int .i64 0, .int .i64 0, .int .u64 0, .int .u64 0, .int .u64 0] 24 (0, 0)) (by (with_reducible repeat (first | refine blk_drewN ?_ _ | refine blk_drew ?_ | refine blk_alloc ?_ _)); exact BK135.out) hb); have n1_ := Aside0.mk (below_step (by repeat (first | (with_reducible first | exact HB.out | apply below_alloc | apply pw_below_drewN | apply below_drew1 | refine below_set ?_ GE135.out) | exact HB.out)) hb); have n2_ := Aside0.mk (hbox); have n3_ := Aside0.mk ((by rw [hg]; exact (below_size (by repeat (first | (with_reducible first | exact HB.out | apply below_alloc | apply pw_below_drewN | apply below_drew1 | refine below_set ?_ GE135.out) | exact HB.out))) : w.heap.size ≤ gb137)); have n4_ := Aside0.mk ((by rw [hg]; exact (below_size (by repeat (first | (with_reducible first | exact HB.out | apply below_alloc | apply pw_below_drewN | apply below_drew1 | refine below_set ?_ GE135.out) | exact HB.out))) : w.heap.size ≤ gb137)); have n5_ := Aside0.mk ((by rw [hg]; exact Nat.ne_of_lt (blk_lt (g := gb135) (o := .cells #[.int .i64 0, .int .i64 0, .int .i64 0, .int .i64 0, .int .i64 0, .int .u64 0, .int .u64 0, .int .u64 0] 24 (0, 0)) (by (with_reducible repeat (first | refine blk_drewN ?_ _ | refine blk_drew ?_ | refine blk_alloc ?_ _)); exact BK135.out)) : gb135 ≠ gb137)); have n6_ := Aside0.mk ((by rw [hg]; exact Nat.ne_of_gt (blk_lt (g := gb135) (o := .cells #[.int .i64 0, .int .i64 0, .int .i64 0, .int .i64 0, .int .i64 0, .int .u64 0, .int .u64 0, .int .u64 0] 24 (0, 0)) (by (with_reducible repeat (first | refine blk_drewN ?_ _ | refine blk_drew ?_ | refine blk_alloc ?_ _)); exact BK135.out)) : gb137 ≠ gb135)); clear BK135; clear HB; have BK135 := n0_; have HB := n1_; have BK137 := n2_; have GW137 := n3_; have GE137 := n4_; have NB135_137 := n5_; have NB137_135 := n6_; clear n0_ n1_ n2_ n3_ n4_ n5_ n6_; clear hb hbox hg; have hnb8 := NB137_135.out; have hnc8 := NB135_137.out; have hcz9_0 : w7.cell? ⟨gb137, 0, none⟩ = some (.int .i64 0) := (blk_cell BK137.out 0).trans rfl; have hcz9_1 : w7.cell? ⟨gb137, 1, none⟩ = some (.int .i64 0) := (blk_cell BK137.out 1).trans rfl; have hcz9_2 : w7.cell? ⟨gb137, 2, none⟩ = some (.int .i64 0) := (blk_cell BK137.out 2).trans rfl; have hcz9_3 : w7.cell? ⟨gb137, 3, none⟩ = some (.int .i64 0) := (blk_cell BK137.out 3).trans rfl; have hcz9_4 : w7.cell? ⟨gb137, 4, none⟩ = some (.int .i64 0) := (blk_cell BK137.out 4).trans rfl; have hcz9_5 : w7.cell? ⟨gb137, 5, none⟩ = some (.int .u64 0) := (blk_cell BK137.out 5).trans rfl; have hcz9_6 : w7.cell? ⟨gb137, 6, none⟩ = some (.int .u64 0) := (blk_cell BK137.out 6).trans rfl; have hcz9_7 : w7.cell? ⟨gb137, 7, none⟩ = some (.int .u64 0) := (blk_cell BK137.out 7).trans rfl; have hfz9_0 := blk_frozen BK137.out 0; have hfz9_1 := blk_frozen BK137.out 1; have hfz9_2 := blk_frozen BK137.out 2; have hfz9_3 := blk_frozen BK137.out 3; have hfz9_4 := blk_frozen BK137.out 4; have hfz9_5 := blk_frozen BK137.out 5; have hfz9_6 := blk_frozen BK137.out 6; have hfz9_7 := blk_frozen BK137.out 7))
      go_loopg [5] k (fun kq v5 w' => ∃ (x5_1 : Int) (x136000_1 : Int) (x136001_1 : Int) (x136002_1 : Int) (x136003_1 : Int) (x136004_1 : Int) (x136005_1 : Int) (x136006_1 : Int) (x136007_1 : Int) (x138000_1 : Int) (x138001_1 : Int) (x138002_1 : Int) (x138003_1 : Int) (x138004_1 : Int) (x138005_1 : Int) (x138006_1 : Int) (x138007_1 : Int), v5 = .int .i64 x5_1 ∧ Aside0 (haulierref11_Join.l0 kq l0 x5_1 x138000_1 x138001_1 x138002_1 x138003_1 x138004_1 x138005_1 x138006_1 x138007_1 = some (r1, r2, r3, r4, r5, r6, r7, r8, r9)) ∧ Aside0 (kq ≤ k) ∧ Aside0 (w'.heap[gb135]? = some (.cells #[.int .i64 x136000_1, .int .i64 x136001_1, .int .i64 x136002_1, .int .i64 x136003_1, .int .i64 x136004_1, .int .u64 x136005_1, .int .u64 x136006_1, .int .u64 x136007_1] 24 (0, 0))) ∧ Aside0 (w'.heap[gb137]? = some (.cells #[.int .i64 x138000_1, .int .i64 x138001_1, .int .i64 x138002_1, .int .i64 x138003_1, .int .i64 x138004_1, .int .u64 x138005_1, .int .u64 x138006_1, .int .u64 x138007_1] 24 (0, 0))) ∧ Aside0 (Below w.heap.size w w'))
      case atStart => exact ⟨(1), (0), (0), (0), (0), (0), (0), (0), (0), ((rd_T24 l0 0).f0), ((rd_T24 l0 0).f1), ((rd_T24 l0 0).f2), ((rd_T24 l0 0).f3), ((rd_T24 l0 0).f4), ((rd_T24 l0 0).f5), ((rd_T24 l0 0).f6), ((rd_T24 l0 0).f7), (by first | rfl | (simp; done) | (simp [*]; done)), H', ⟨Nat.le_refl _⟩, ⟨by (with_reducible repeat (first | refine blk_drewN ?_ _ | refine blk_drew ?_ | refine blk_alloc ?_ _)); refine blk_far ?_ NB135_137.out _; (with_reducible repeat (first | refine blk_drewN ?_ _ | refine blk_drew ?_ | refine blk_alloc ?_ _)); refine blk_far ?_ NB135_137.out _; (with_reducible repeat (first | refine blk_drewN ?_ _ | refine blk_drew ?_ | refine blk_alloc ?_ _)); refine blk_far ?_ NB135_137.out _; (with_reducible repeat (first | refine blk_drewN ?_ _ | refine blk_drew ?_ | refine blk_alloc ?_ _)); refine blk_far ?_ NB135_137.out _; (with_reducible repeat (first | refine blk_drewN ?_ _ | refine blk_drew ?_ | refine blk_alloc ?_ _)); refine blk_far ?_ NB135_137.out _; (with_reducible repeat (first | refine blk_drewN ?_ _ | refine blk_drew ?_ | refine blk_alloc ?_ _)); refine blk_far ?_ NB135_137.out _; (with_reducible repeat (first | refine blk_drewN ?_ _ | refine blk_drew ?_ | refine blk_alloc ?_ _)); refine blk_far ?_ NB135_137.out _; (with_reducible repeat (first | refine blk_drewN ?_ _ | refine blk_drew ?_ | refine blk_alloc ?_ _)); refine blk_far ?_ NB135_137.out _; (with_reducible repeat (first | refine blk_drewN ?_ _ | refine blk_drew ?_ | refine blk_alloc ?_ _)); exact BK135.out⟩, ⟨by (with_reducible repeat (first | refine blk_drewN ?_ _ | refine blk_drew ?_ | refine blk_alloc ?_ _)); refine blk_put (cs := #[.int .i64 ((rd_T24 l0 0).f0), .int .i64 ((rd_T24 l0 0).f1), .int .i64 ((rd_T24 l0 0).f2), .int .i64 ((rd_T24 l0 0).f3), .int .i64 ((rd_T24 l0 0).f4), .int .u64 ((rd_T24 l0 0).f5), .int .u64 ((rd_T24 l0 0).f6), .int .u64 0]) ?_ 7 _ rfl; (with_reducible repeat (first | refine blk_drewN ?_ _ | refine blk_drew ?_ | refine blk_alloc ?_ _)); refine blk_put (cs := #[.int .i64 ((rd_T24 l0 0).f0), .int .i64 ((rd_T24 l0 0).f1), .int .i64 ((rd_T24 l0 0).f2), .int .i64 ((rd_T24 l0 0).f3), .int .i64 ((rd_T24 l0 0).f4), .int .u64 ((rd_T24 l0 0).f5), .int .u64 0, .int .u64 0]) ?_ 6 _ rfl; (with_reducible repeat (first | refine blk_drewN ?_ _ | refine blk_drew ?_ | refine blk_alloc ?_ _)); refine blk_put (cs := #[.int .i64 ((rd_T24 l0 0).f0), .int .i64 ((rd_T24 l0 0).f1), .int .i64 ((rd_T24 l0 0).f2), .int .i64 ((rd_T24 l0 0).f3), .int .i64 ((rd_T24 l0 0).f4), .int .u64 0, .int .u64 0, .int .u64 0]) ?_ 5 _ rfl; (with_reducible repeat (first | refine blk_drewN ?_ _ | refine blk_drew ?_ | refine blk_alloc ?_ _)); refine blk_put (cs := #[.int .i64 ((rd_T24 l0 0).f0), .int .i64 ((rd_T24 l0 0).f1), .int .i64 ((rd_T24 l0 0).f2), .int .i64 ((rd_T24 l0 0).f3), .int .i64 0, .int .u64 0, .int .u64 0, .int .u64 0]) ?_ 4 _ rfl; (with_reducible repeat (first | refine blk_drewN ?_ _ | refine blk_drew ?_ | refine blk_alloc ?_ _)); refine blk_put (cs := #[.int .i64 ((rd_T24 l0 0).f0), .int .i64 ((rd_T24 l0 0).f1), .int .i64 ((rd_T24 l0 0).f2), .int .i64 0, .int .i64 0, .int .u64 0, .int .u64 0, .int .u64 0]) ?_ 3 _ rfl; (with_reducible repeat (first | refine blk_drewN ?_ _ | refine blk_drew ?_ | refine blk_alloc ?_ _)); refine blk_put (cs := #[.int .i64 ((rd_T24 l0 0).f0), .int .i64 ((rd_T24 l0 0).f1), .int .i64 0, .int .i64 0, .int .i64 0, .int .u64 0, .int .u64 0, .int .u64 0]) ?_ 2 _ rfl; (with_reducible repeat (first | refine blk_drewN ?_ _ | refine blk_drew ?_ | refine blk_alloc ?_ _)); refine blk_put (cs := #[.int .i64 ((rd_T24 l0 0).f0), .int .i64 0, .int .i64 0, .int .i64 0, .int .i64 0, .int .u64 0, .int .u64 0, .int .u64 0]) ?_ 1 _ rfl; (with_reducible repeat (first | refine blk_drewN ?_ _ | refine blk_drew ?_ | refine blk_alloc ?_ _)); refine blk_put (cs := #[.int .i64 0, .int .i64 0, .int .i64 0, .int .i64 0, .int .i64 0, .int .u64 0, .int .u64 0, .int .u64 0]) ?_ 0 _ rfl; (with_reducible repeat (first | refine blk_drewN ?_ _ | refine blk_drew ?_ | refine blk_alloc ?_ _)); exact BK137.out⟩, ⟨by repeat (first | (with_reducible first | exact HB.out | apply below_alloc | apply pw_below_drewN | apply below_drew1 | refine below_set ?_ GE135.out | refine below_set ?_ GE137.out) | exact HB.out)⟩⟩
      case round =>
        clear H'
        try clear c1
        try clear p1
        try clear q1
        try clear hx1
        try clear qi1
        try clear c2
        try clear c2b0
        try clear c2b1
        try clear c2b2
        try clear p2
        try clear c5
        try clear c5b0
        try clear c5b1
        try clear c8
        try clear hcz4_0
        try clear hcz4_1
        try clear hcz4_2
        try clear hcz4_3
        try clear hcz4_4
        try clear hcz4_5
        try clear hcz4_6
        try clear hcz4_7
        try clear hcz9_0
        try clear hcz9_1
        try clear hcz9_2
        try clear hcz9_3
        try clear hcz9_4
        try clear hcz9_5
        try clear hcz9_6
        try clear hcz9_7
        try clear hfz4_0
        try clear hfz4_1
        try clear hfz4_2
        try clear hfz4_3
        try clear hfz4_4
        try clear hfz4_5
        try clear hfz4_6
        try clear hfz4_7
        try clear hfz9_0
        try clear hfz9_1
        try clear hfz9_2
        try clear hfz9_3
        try clear hfz9_4
        try clear hfz9_5
        try clear hfz9_6
        try clear hfz9_7
        try clear hx136_0
        try clear hx136_1
        try clear hx136_2
        try clear hx136_3
        try clear hx136_4
        try clear hx136_5
        try clear hx136_6
        try clear hx136_7
        try clear p136
        try clear q136
        obtain ⟨x5_1, x136000_1, x136001_1, x136002_1, x136003_1, x136004_1, x136005_1, x136006_1, x136007_1, x138000_1, x138001_1, x138002_1, x138003_1, x138004_1, x138005_1, x138006_1, x138007_1, rfl, HA, HK1, BK135, BK137, HB⟩ := hrel
        cases gk with
        | zero => exact absurd HA.out (by simp [haulierref11_Join.l0])
        | succ k1 =>
          have H := HA.out
          clear HA
          simp only [haulierref11_Join.l0] at H
          by_cases c10 : x5_1 < (l0.length : Int)
          · rw [if_pos c10] at H
            have c10b0 : decide (x5_1 < (l0.length : Int)) = true := decide_eq_true c10
            clear c10
            by_cases c11 : 0 ≤ x5_1
            · rw [if_pos c11] at H
              have c11b0 : decide (0 ≤ x5_1) = true := decide_eq_true c11
              clear c11
              by_cases c12 : ((rd_T24 l0 x5_1).f0) = x138000_1
              · rw [if_pos c12] at H
                have c12b0 : (((rd_T24 l0 x5_1).f0) == x138000_1) = true := beq_iff_eq.mpr c12
                have c12b1 : (((rd_T24 l0 x5_1).f0) != x138000_1) = false := bne_eq_false_iff_eq.mpr c12
                clear c12
                replace H := Option.bind_eq_some_iff.mp H
                obtain ⟨t140, A130, H⟩ := H
                replace H : ((haulierref11_least.f x138002_1 ((rd_T24 l0 x5_1).f2)).bind fun t141 => ((haulierref11_least.f x138003_1 ((rd_T24 l0 x5_1).f3)).bind fun t142 => ((haulierref11_least.f x138004_1 ((rd_T24 l0 x5_1).f4)).bind fun t143 => ((haulierref02_And.f k1 x138005_1 ((rd_T24 l0 x5_1).f5)).bind fun t144 => ((haulierref02_Or.f k1 x138006_1 ((rd_T24 l0 x5_1).f6)).bind fun t145 => ((haulierref02_And.f k1 x138007_1 ((rd_T24 l0 x5_1).f7)).bind fun t146 => (haulierref11_Join.l0 k1 l0 (wrap64 (x5_1 + 1)) x138000_1 t140 t141 t142 t143 t144 t145 t146))))))) = some (r1, r2, r3, r4, r5, r6, r7, r8, r9) := H
                have A13 := Aside0.mk A130
                clear A130
                replace H := Option.bind_eq_some_iff.mp H
                obtain ⟨t141, A140, H⟩ := H
                replace H : ((haulierref11_least.f x138003_1 ((rd_T24 l0 x5_1).f3)).bind fun t142 => ((haulierref11_least.f x138004_1 ((rd_T24 l0 x5_1).f4)).bind fun t143 => ((haulierref02_And.f k1 x138005_1 ((rd_T24 l0 x5_1).f5)).bind fun t144 => ((haulierref02_Or.f k1 x138006_1 ((rd_T24 l0 x5_1).f6)).bind fun t145 => ((haulierref02_And.f k1 x138007_1 ((rd_T24 l0 x5_1).f7)).bind fun t146 => (haulierref11_Join.l0 k1 l0 (wrap64 (x5_1 + 1)) x138000_1 t140 t141 t142 t143 t144 t145 t146)))))) = some (r1, r2, r3, r4, r5, r6, r7, r8, r9) := H
                have A14 := Aside0.mk A140
                clear A140
                replace H := Option.bind_eq_some_iff.mp H
                obtain ⟨t142, A150, H⟩ := H
                replace H : ((haulierref11_least.f x138004_1 ((rd_T24 l0 x5_1).f4)).bind fun t143 => ((haulierref02_And.f k1 x138005_1 ((rd_T24 l0 x5_1).f5)).bind fun t144 => ((haulierref02_Or.f k1 x138006_1 ((rd_T24 l0 x5_1).f6)).bind fun t145 => ((haulierref02_And.f k1 x138007_1 ((rd_T24 l0 x5_1).f7)).bind fun t146 => (haulierref11_Join.l0 k1 l0 (wrap64 (x5_1 + 1)) x138000_1 t140 t141 t142 t143 t144 t145 t146))))) = some (r1, r2, r3, r4, r5, r6, r7, r8, r9) := H
                have A15 := Aside0.mk A150
                clear A150
                replace H := Option.bind_eq_some_iff.mp H
                obtain ⟨t143, A160, H⟩ := H
                replace H : ((haulierref02_And.f k1 x138005_1 ((rd_T24 l0 x5_1).f5)).bind fun t144 => ((haulierref02_Or.f k1 x138006_1 ((rd_T24 l0 x5_1).f6)).bind fun t145 => ((haulierref02_And.f k1 x138007_1 ((rd_T24 l0 x5_1).f7)).bind fun t146 => (haulierref11_Join.l0 k1 l0 (wrap64 (x5_1 + 1)) x138000_1 t140 t141 t142 t143 t144 t145 t146)))) = some (r1, r2, r3, r4, r5, r6, r7, r8, r9) := H
                have A16 := Aside0.mk A160
                clear A160
                replace H := Option.bind_eq_some_iff.mp H
                obtain ⟨t144, A170, H⟩ := H
                replace H : ((haulierref02_Or.f k1 x138006_1 ((rd_T24 l0 x5_1).f6)).bind fun t145 => ((haulierref02_And.f k1 x138007_1 ((rd_T24 l0 x5_1).f7)).bind fun t146 => (haulierref11_Join.l0 k1 l0 (wrap64 (x5_1 + 1)) x138000_1 t140 t141 t142 t143 t144 t145 t146))) = some (r1, r2, r3, r4, r5, r6, r7, r8, r9) := H
                have A17 := Aside0.mk A170
                clear A170
                replace H := Option.bind_eq_some_iff.mp H
                obtain ⟨t145, A180, H⟩ := H
                replace H : ((haulierref02_And.f k1 x138007_1 ((rd_T24 l0 x5_1).f7)).bind fun t146 => (haulierref11_Join.l0 k1 l0 (wrap64 (x5_1 + 1)) x138000_1 t140 t141 t142 t143 t144 t145 t146)) = some (r1, r2, r3, r4, r5, r6, r7, r8, r9) := H
                have A18 := Aside0.mk A180
                clear A180
                replace H := Option.bind_eq_some_iff.mp H
                obtain ⟨t146, A190, H⟩ := H
                replace H : (haulierref11_Join.l0 k1 l0 (wrap64 (x5_1 + 1)) x138000_1 t140 t141 t142 t143 t144 t145 t146) = some (r1, r2, r3, r4, r5, r6, r7, r8, r9) := H
                have A19 := Aside0.mk A190
                clear A190
                have H' := Aside0.mk H
                clear H
                have p138 : 0 ≤ (x5_1 : Int) := of_decide_eq_true (by first | (with_reducible assumption) | assumption)
                have q138 : x5_1 < (l0.length : Int) := of_decide_eq_true (by first | (with_reducible assumption) | assumption)
                obtain ⟨ad138, e138, hx138_0, hx138_1, hx138_2, hx138_3, hx138_4, hx138_5, hx138_6, hx138_7⟩ := at_T24 HR0.out x5_1 p138 q138
                obtain rfl : ad136 = ad138 := (by injection e138)
                replace hx138_0 := (HB.out.cell (World.block_lt_of_cell? w _ hx138_0)).trans hx138_0
                replace hx138_1 := (HB.out.cell (World.block_lt_of_cell? w _ hx138_1)).trans hx138_1
                replace hx138_2 := (HB.out.cell (World.block_lt_of_cell? w _ hx138_2)).trans hx138_2
                replace hx138_3 := (HB.out.cell (World.block_lt_of_cell? w _ hx138_3)).trans hx138_3
                replace hx138_4 := (HB.out.cell (World.block_lt_of_cell? w _ hx138_4)).trans hx138_4
                replace hx138_5 := (HB.out.cell (World.block_lt_of_cell? w _ hx138_5)).trans hx138_5
                replace hx138_6 := (HB.out.cell (World.block_lt_of_cell? w _ hx138_6)).trans hx138_6
                replace hx138_7 := (HB.out.cell (World.block_lt_of_cell? w _ hx138_7)).trans hx138_7
                replace p138 := eq_true p138
                replace q138 := eq_true q138
                try go_wp2_with (first | ((with_reducible refine gate_dst (N := 6) rfl ?_); refine box_event ?hg (N := 6) ?hd (cs := #[.int .i64 0, .int .i64 0, .int .i64 0, .int .i64 0, .int .i64 0, .int .u64 0, .int .u64 0, .int .u64 0]) (t := 24) ?hr ?_; (case hd => rfl); (case hg => rfl); (case hr => first | (go_simp; done) | (go_simp; rfl)); intro gb139 hg w20 hbox hb; have n0_ := Aside0.mk (blk_below (g := gb135) (o := .cells #[.int .i64 x136000_1, .int .i64 x136001_1, .int .i64 x136002_1, .int .i64 x136003_1, .int .i64 x136004_1, .int .u64 x136005_1, .int .u64 x136006_1, .int .u64 x136007_1] 24 (0, 0)) (by (with_reducible repeat (first | refine blk_drewN ?_ _ | refine blk_drew ?_ | refine blk_alloc ?_ _)); exact BK135.out) hb); have n1_ := Aside0.mk (blk_below (g := gb137) (o := .cells #[.int .i64 x138000_1, .int .i64 x138001_1, .int .i64 x138002_1, .int .i64 x138003_1, .int .i64 x138004_1, .int .u64 x138005_1, .int .u64 x138006_1, .int .u64 x138007_1] 24 (0, 0)) (by (with_reducible repeat (first | refine blk_drewN ?_ _ | refine blk_drew ?_ | refine blk_alloc ?_ _)); exact BK137.out) hb); have n2_ := Aside0.mk (below_step (by repeat (first | (with_reducible first | exact HB.out | apply below_alloc | apply pw_below_drewN | apply below_drew1 | refine below_set ?_ GE135.out | refine below_set ?_ GE137.out) | exact HB.out)) hb); have n3_ := Aside0.mk (hbox); have n4_ := Aside0.mk ((by rw [hg]; exact (below_size (by repeat (first | (with_reducible first | exact HB.out | apply below_alloc | apply pw_below_drewN | apply below_drew1 | refine below_set ?_ GE135.out | refine below_set ?_ GE137.out) | exact HB.out))) : w.heap.size ≤ gb139)); have n5_ := Aside0.mk ((by rw [hg]; exact (below_size (by repeat (first | (with_reducible first | exact HB.out | apply below_alloc | apply pw_below_drewN | apply below_drew1 | refine below_set ?_ GE135.out | refine below_set ?_ GE137.out) | exact HB.out))) : w.heap.size ≤ gb139)); have n6_ := Aside0.mk ((by rw [hg]; exact Nat.ne_of_lt (blk_lt (g := gb135) (o := .cells #[.int .i64 x136000_1, .int .i64 x136001_1, .int .i64 x136002_1, .int .i64 x136003_1, .int .i64 x136004_1, .int .u64 x136005_1, .int .u64 x136006_1, .int .u64 x136007_1] 24 (0, 0)) (by (with_reducible repeat (first | refine blk_drewN ?_ _ | refine blk_drew ?_ | refine blk_alloc ?_ _)); exact BK135.out)) : gb135 ≠ gb139)); have n7_ := Aside0.mk ((by rw [hg]; exact Nat.ne_of_gt (blk_lt (g := gb135) (o := .cells #[.int .i64 x136000_1, .int .i64 x136001_1, .int .i64 x136002_1, .int .i64 x136003_1, .int .i64 x136004_1, .int .u64 x136005_1, .int .u64 x136006_1, .int .u64 x136007_1] 24 (0, 0)) (by (with_reducible repeat (first | refine blk_drewN ?_ _ | refine blk_drew ?_ | refine blk_alloc ?_ _)); exact BK135.out)) : gb139 ≠ gb135)); have n8_ := Aside0.mk ((by rw [hg]; exact Nat.ne_of_lt (blk_lt (g := gb137) (o := .cells #[.int .i64 x138000_1, .int .i64 x138001_1, .int .i64 x138002_1, .int .i64 x138003_1, .int .i64 x138004_1, .int .u64 x138005_1, .int .u64 x138006_1, .int .u64 x138007_1] 24 (0, 0)) (by (with_reducible repeat (first | refine blk_drewN ?_ _ | refine blk_drew ?_ | refine blk_alloc ?_ _)); exact BK137.out)) : gb137 ≠ gb139)); have n9_ := Aside0.mk ((by rw [hg]; exact Nat.ne_of_gt (blk_lt (g := gb137) (o := .cells #[.int .i64 x138000_1, .int .i64 x138001_1, .int .i64 x138002_1, .int .i64 x138003_1, .int .i64 x138004_1, .int .u64 x138005_1, .int .u64 x138006_1, .int .u64 x138007_1] 24 (0, 0)) (by (with_reducible repeat (first | refine blk_drewN ?_ _ | refine blk_drew ?_ | refine blk_alloc ?_ _)); exact BK137.out)) : gb139 ≠ gb137)); clear BK135; clear BK137; clear HB; have BK135 := n0_; have BK137 := n1_; have HB := n2_; have BK139 := n3_; have GW139 := n4_; have GE139 := n5_; have NB135_139 := n6_; have NB139_135 := n7_; have NB137_139 := n8_; have NB139_137 := n9_; clear n0_ n1_ n2_ n3_ n4_ n5_ n6_ n7_ n8_ n9_; clear hb hbox hg; have hnb21 := NB139_135.out; have hnc21 := NB135_139.out; have hnb22 := NB139_137.out; have hnc22 := NB137_139.out; have hcz23_0 : w20.cell? ⟨gb139, 0, none⟩ = some (.int .i64 0) := (blk_cell BK139.out 0).trans rfl; have hcz23_1 : w20.cell? ⟨gb139, 1, none⟩ = some (.int .i64 0) := (blk_cell BK139.out 1).trans rfl; have hcz23_2 : w20.cell? ⟨gb139, 2, none⟩ = some (.int .i64 0) := (blk_cell BK139.out 2).trans rfl; have hcz23_3 : w20.cell? ⟨gb139, 3, none⟩ = some (.int .i64 0) := (blk_cell BK139.out 3).trans rfl; have hcz23_4 : w20.cell? ⟨gb139, 4, none⟩ = some (.int .i64 0) := (blk_cell BK139.out 4).trans rfl; have hcz23_5 : w20.cell? ⟨gb139, 5, none⟩ = some (.int .u64 0) := (blk_cell BK139.out 5).trans rfl; have hcz23_6 : w20.cell? ⟨gb139, 6, none⟩ = some (.int .u64 0) := (blk_cell BK139.out 6).trans rfl; have hcz23_7 : w20.cell? ⟨gb139, 7, none⟩ = some (.int .u64 0) := (blk_cell BK139.out 7).trans rfl; have hfz23_0 := blk_frozen BK139.out 0; have hfz23_1 := blk_frozen BK139.out 1; have hfz23_2 := blk_frozen BK139.out 2; have hfz23_3 := blk_frozen BK139.out 3; have hfz23_4 := blk_frozen BK139.out 4; have hfz23_5 := blk_frozen BK139.out 5; have hfz23_6 := blk_frozen BK139.out 6; have hfz23_7 := blk_frozen BK139.out 7; have hnb24 := NB137_135.out; have hnc24 := NB135_137.out; have hcz25_0 : w20.cell? ⟨gb137, 0, none⟩ = some (.int .i64 x138000_1) := (blk_cell BK137.out 0).trans rfl; have hcz25_1 : w20.cell? ⟨gb137, 1, none⟩ = some (.int .i64 x138001_1) := (blk_cell BK137.out 1).trans rfl; have hcz25_2 : w20.cell? ⟨gb137, 2, none⟩ = some (.int .i64 x138002_1) := (blk_cell BK137.out 2).trans rfl; have hcz25_3 : w20.cell? ⟨gb137, 3, none⟩ = some (.int .i64 x138003_1) := (blk_cell BK137.out 3).trans rfl; have hcz25_4 : w20.cell? ⟨gb137, 4, none⟩ = some (.int .i64 x138004_1) := (blk_cell BK137.out 4).trans rfl; have hcz25_5 : w20.cell? ⟨gb137, 5, none⟩ = some (.int .u64 x138005_1) := (blk_cell BK137.out 5).trans rfl; have hcz25_6 : w20.cell? ⟨gb137, 6, none⟩ = some (.int .u64 x138006_1) := (blk_cell BK137.out 6).trans rfl; have hcz25_7 : w20.cell? ⟨gb137, 7, none⟩ = some (.int .u64 x138007_1) := (blk_cell BK137.out 7).trans rfl; have hfz25_0 := blk_frozen BK137.out 0; have hfz25_1 := blk_frozen BK137.out 1; have hfz25_2 := blk_frozen BK137.out 2; have hfz25_3 := blk_frozen BK137.out 3; have hfz25_4 := blk_frozen BK137.out 4; have hfz25_5 := blk_frozen BK137.out 5; have hfz25_6 := blk_frozen BK137.out 6; have hfz25_7 := blk_frozen BK137.out 7))
                have n0_ : Aside0 (((((((((w20.setCell ⟨gb139, 0, none⟩ (.int .i64 ((rd_T24 l0 x5_1).f0))).setCell ⟨gb139, 1, none⟩ (.int .i64 ((rd_T24 l0 x5_1).f1))).setCell ⟨gb139, 2, none⟩ (.int .i64 ((rd_T24 l0 x5_1).f2))).setCell ⟨gb139, 3, none⟩ (.int .i64 ((rd_T24 l0 x5_1).f3))).setCell ⟨gb139, 4, none⟩ (.int .i64 ((rd_T24 l0 x5_1).f4))).setCell ⟨gb139, 5, none⟩ (.int .u64 ((rd_T24 l0 x5_1).f5))).setCell ⟨gb139, 6, none⟩ (.int .u64 ((rd_T24 l0 x5_1).f6))).setCell ⟨gb139, 7, none⟩ (.int .u64 ((rd_T24 l0 x5_1).f7))).heap[gb135]? = some (.cells #[.int .i64 x136000_1, .int .i64 x136001_1, .int .i64 x136002_1, .int .i64 x136003_1, .int .i64 x136004_1, .int .u64 x136005_1, .int .u64 x136006_1, .int .u64 x136007_1] 24 (0, 0))) := ⟨by (with_reducible repeat (first | refine blk_drewN ?_ _ | refine blk_drew ?_ | refine blk_alloc ?_ _)); refine blk_far ?_ NB135_139.out _; (with_reducible repeat (first | refine blk_drewN ?_ _ | refine blk_drew ?_ | refine blk_alloc ?_ _)); refine blk_far ?_ NB135_139.out _; (with_reducible repeat (first | refine blk_drewN ?_ _ | refine blk_drew ?_ | refine blk_alloc ?_ _)); refine blk_far ?_ NB135_139.out _; (with_reducible repeat (first | refine blk_drewN ?_ _ | refine blk_drew ?_ | refine blk_alloc ?_ _)); refine blk_far ?_ NB135_139.out _; (with_reducible repeat (first | refine blk_drewN ?_ _ | refine blk_drew ?_ | refine blk_alloc ?_ _)); refine blk_far ?_ NB135_139.out _; (with_reducible repeat (first | refine blk_drewN ?_ _ | refine blk_drew ?_ | refine blk_alloc ?_ _)); refine blk_far ?_ NB135_139.out _; (with_reducible repeat (first | refine blk_drewN ?_ _ | refine blk_drew ?_ | refine blk_alloc ?_ _)); refine blk_far ?_ NB135_139.out _; (with_reducible repeat (first | refine blk_drewN ?_ _ | refine blk_drew ?_ | refine blk_alloc ?_ _)); refine blk_far ?_ NB135_139.out _; (with_reducible repeat (first | refine blk_drewN ?_ _ | refine blk_drew ?_ | refine blk_alloc ?_ _)); exact BK135.out⟩
                have n1_ : Aside0 (((((((((w20.setCell ⟨gb139, 0, none⟩ (.int .i64 ((rd_T24 l0 x5_1).f0))).setCell ⟨gb139, 1, none⟩ (.int .i64 ((rd_T24 l0 x5_1).f1))).setCell ⟨gb139, 2, none⟩ (.int .i64 ((rd_T24 l0 x5_1).f2))).setCell ⟨gb139, 3, none⟩ (.int .i64 ((rd_T24 l0 x5_1).f3))).setCell ⟨gb139, 4, none⟩ (.int .i64 ((rd_T24 l0 x5_1).f4))).setCell ⟨gb139, 5, none⟩ (.int .u64 ((rd_T24 l0 x5_1).f5))).setCell ⟨gb139, 6, none⟩ (.int .u64 ((rd_T24 l0 x5_1).f6))).setCell ⟨gb139, 7, none⟩ (.int .u64 ((rd_T24 l0 x5_1).f7))).heap[gb137]? = some (.cells #[.int .i64 x138000_1, .int .i64 x138001_1, .int .i64 x138002_1, .int .i64 x138003_1, .int .i64 x138004_1, .int .u64 x138005_1, .int .u64 x138006_1, .int .u64 x138007_1] 24 (0, 0))) := ⟨by (with_reducible repeat (first | refine blk_drewN ?_ _ | refine blk_drew ?_ | refine blk_alloc ?_ _)); refine blk_far ?_ NB137_139.out _; (with_reducible repeat (first | refine blk_drewN ?_ _ | refine blk_drew ?_ | refine blk_alloc ?_ _)); refine blk_far ?_ NB137_139.out _; (with_reducible repeat (first | refine blk_drewN ?_ _ | refine blk_drew ?_ | refine blk_alloc ?_ _)); refine blk_far ?_ NB137_139.out _; (with_reducible repeat (first | refine blk_drewN ?_ _ | refine blk_drew ?_ | refine blk_alloc ?_ _)); refine blk_far ?_ NB137_139.out _; (with_reducible repeat (first | refine blk_drewN ?_ _ | refine blk_drew ?_ | refine blk_alloc ?_ _)); refine blk_far ?_ NB137_139.out _; (with_reducible repeat (first | refine blk_drewN ?_ _ | refine blk_drew ?_ | refine blk_alloc ?_ _)); refine blk_far ?_ NB137_139.out _; (with_reducible repeat (first | refine blk_drewN ?_ _ | refine blk_drew ?_ | refine blk_alloc ?_ _)); refine blk_far ?_ NB137_139.out _; (with_reducible repeat (first | refine blk_drewN ?_ _ | refine blk_drew ?_ | refine blk_alloc ?_ _)); refine blk_far ?_ NB137_139.out _; (with_reducible repeat (first | refine blk_drewN ?_ _ | refine blk_drew ?_ | refine blk_alloc ?_ _)); exact BK137.out⟩
                have n2_ : Aside0 (((((((((w20.setCell ⟨gb139, 0, none⟩ (.int .i64 ((rd_T24 l0 x5_1).f0))).setCell ⟨gb139, 1, none⟩ (.int .i64 ((rd_T24 l0 x5_1).f1))).setCell ⟨gb139, 2, none⟩ (.int .i64 ((rd_T24 l0 x5_1).f2))).setCell ⟨gb139, 3, none⟩ (.int .i64 ((rd_T24 l0 x5_1).f3))).setCell ⟨gb139, 4, none⟩ (.int .i64 ((rd_T24 l0 x5_1).f4))).setCell ⟨gb139, 5, none⟩ (.int .u64 ((rd_T24 l0 x5_1).f5))).setCell ⟨gb139, 6, none⟩ (.int .u64 ((rd_T24 l0 x5_1).f6))).setCell ⟨gb139, 7, none⟩ (.int .u64 ((rd_T24 l0 x5_1).f7))).heap[gb139]? = some (.cells #[.int .i64 ((rd_T24 l0 x5_1).f0), .int .i64 ((rd_T24 l0 x5_1).f1), .int .i64 ((rd_T24 l0 x5_1).f2), .int .i64 ((rd_T24 l0 x5_1).f3), .int .i64 ((rd_T24 l0 x5_1).f4), .int .u64 ((rd_T24 l0 x5_1).f5), .int .u64 ((rd_T24 l0 x5_1).f6), .int .u64 ((rd_T24 l0 x5_1).f7)] 24 (0, 0))) := ⟨by (with_reducible repeat (first | refine blk_drewN ?_ _ | refine blk_drew ?_ | refine blk_alloc ?_ _)); refine blk_put (cs := #[.int .i64 ((rd_T24 l0 x5_1).f0), .int .i64 ((rd_T24 l0 x5_1).f1), .int .i64 ((rd_T24 l0 x5_1).f2), .int .i64 ((rd_T24 l0 x5_1).f3), .int .i64 ((rd_T24 l0 x5_1).f4), .int .u64 ((rd_T24 l0 x5_1).f5), .int .u64 ((rd_T24 l0 x5_1).f6), .int .u64 0]) ?_ 7 _ rfl; (with_reducible repeat (first | refine blk_drewN ?_ _ | refine blk_drew ?_ | refine blk_alloc ?_ _)); refine blk_put (cs := #[.int .i64 ((rd_T24 l0 x5_1).f0), .int .i64 ((rd_T24 l0 x5_1).f1), .int .i64 ((rd_T24 l0 x5_1).f2), .int .i64 ((rd_T24 l0 x5_1).f3), .int .i64 ((rd_T24 l0 x5_1).f4), .int .u64 ((rd_T24 l0 x5_1).f5), .int .u64 0, .int .u64 0]) ?_ 6 _ rfl; (with_reducible repeat (first | refine blk_drewN ?_ _ | refine blk_drew ?_ | refine blk_alloc ?_ _)); refine blk_put (cs := #[.int .i64 ((rd_T24 l0 x5_1).f0), .int .i64 ((rd_T24 l0 x5_1).f1), .int .i64 ((rd_T24 l0 x5_1).f2), .int .i64 ((rd_T24 l0 x5_1).f3), .int .i64 ((rd_T24 l0 x5_1).f4), .int .u64 0, .int .u64 0, .int .u64 0]) ?_ 5 _ rfl; (with_reducible repeat (first | refine blk_drewN ?_ _ | refine blk_drew ?_ | refine blk_alloc ?_ _)); refine blk_put (cs := #[.int .i64 ((rd_T24 l0 x5_1).f0), .int .i64 ((rd_T24 l0 x5_1).f1), .int .i64 ((rd_T24 l0 x5_1).f2), .int .i64 ((rd_T24 l0 x5_1).f3), .int .i64 0, .int .u64 0, .int .u64 0, .int .u64 0]) ?_ 4 _ rfl; (with_reducible repeat (first | refine blk_drewN ?_ _ | refine blk_drew ?_ | refine blk_alloc ?_ _)); refine blk_put (cs := #[.int .i64 ((rd_T24 l0 x5_1).f0), .int .i64 ((rd_T24 l0 x5_1).f1), .int .i64 ((rd_T24 l0 x5_1).f2), .int .i64 0, .int .i64 0, .int .u64 0, .int .u64 0, .int .u64 0]) ?_ 3 _ rfl; (with_reducible repeat (first | refine blk_drewN ?_ _ | refine blk_drew ?_ | refine blk_alloc ?_ _)); refine blk_put (cs := #[.int .i64 ((rd_T24 l0 x5_1).f0), .int .i64 ((rd_T24 l0 x5_1).f1), .int .i64 0, .int .i64 0, .int .i64 0, .int .u64 0, .int .u64 0, .int .u64 0]) ?_ 2 _ rfl; (with_reducible repeat (first | refine blk_drewN ?_ _ | refine blk_drew ?_ | refine blk_alloc ?_ _)); refine blk_put (cs := #[.int .i64 ((rd_T24 l0 x5_1).f0), .int .i64 0, .int .i64 0, .int .i64 0, .int .i64 0, .int .u64 0, .int .u64 0, .int .u64 0]) ?_ 1 _ rfl; (with_reducible repeat (first | refine blk_drewN ?_ _ | refine blk_drew ?_ | refine blk_alloc ?_ _)); refine blk_put (cs := #[.int .i64 0, .int .i64 0, .int .i64 0, .int .i64 0, .int .i64 0, .int .u64 0, .int .u64 0, .int .u64 0]) ?_ 0 _ rfl; (with_reducible repeat (first | refine blk_drewN ?_ _ | refine blk_drew ?_ | refine blk_alloc ?_ _)); exact BK139.out⟩
                have n3_ : Aside0 (Below w.heap.size w ((((((((w20.setCell ⟨gb139, 0, none⟩ (.int .i64 ((rd_T24 l0 x5_1).f0))).setCell ⟨gb139, 1, none⟩ (.int .i64 ((rd_T24 l0 x5_1).f1))).setCell ⟨gb139, 2, none⟩ (.int .i64 ((rd_T24 l0 x5_1).f2))).setCell ⟨gb139, 3, none⟩ (.int .i64 ((rd_T24 l0 x5_1).f3))).setCell ⟨gb139, 4, none⟩ (.int .i64 ((rd_T24 l0 x5_1).f4))).setCell ⟨gb139, 5, none⟩ (.int .u64 ((rd_T24 l0 x5_1).f5))).setCell ⟨gb139, 6, none⟩ (.int .u64 ((rd_T24 l0 x5_1).f6))).setCell ⟨gb139, 7, none⟩ (.int .u64 ((rd_T24 l0 x5_1).f7)))) := ⟨by repeat (first | (with_reducible first | exact HB.out | apply below_alloc | apply pw_below_drewN | apply below_drew1 | refine below_set ?_ GE135.out | refine below_set ?_ GE137.out | refine below_set ?_ GE139.out) | exact HB.out)⟩
                (try clear BK135)
                (try clear BK137)
                (try clear BK139)
                (try clear HB)
                generalize ((((((((w20.setCell ⟨gb139, 0, none⟩ (.int .i64 ((rd_T24 l0 x5_1).f0))).setCell ⟨gb139, 1, none⟩ (.int .i64 ((rd_T24 l0 x5_1).f1))).setCell ⟨gb139, 2, none⟩ (.int .i64 ((rd_T24 l0 x5_1).f2))).setCell ⟨gb139, 3, none⟩ (.int .i64 ((rd_T24 l0 x5_1).f3))).setCell ⟨gb139, 4, none⟩ (.int .i64 ((rd_T24 l0 x5_1).f4))).setCell ⟨gb139, 5, none⟩ (.int .u64 ((rd_T24 l0 x5_1).f5))).setCell ⟨gb139, 6, none⟩ (.int .u64 ((rd_T24 l0 x5_1).f6))).setCell ⟨gb139, 7, none⟩ (.int .u64 ((rd_T24 l0 x5_1).f7))) = w26 at n0_ n1_ n2_ n3_ ⊢
                have BK135 := n0_
                have BK137 := n1_
                have BK139 := n2_
                have HB := n3_
                clear n0_ n1_ n2_ n3_
                have n0_ := Aside0.mk (blk_drew BK135.out)
                have n1_ := Aside0.mk (blk_drew BK137.out)
                have n2_ := Aside0.mk (blk_drew BK139.out)
                have n3_ := Aside0.mk (below_drew1 HB.out)
                clear BK135
                clear BK137
                clear BK139
                clear HB
                have BK135 := n0_
                have BK137 := n1_
                have BK139 := n2_
                have HB := n3_
                clear n0_ n1_ n2_ n3_
                refine start_ (n := 39) (S := fun w' => w'.cell? ⟨gb137, 0, none⟩ = some (.int .i64 x138000_1) ∧ w'.cell? ⟨gb137, 1, none⟩ = some (.int .i64 x138001_1) ∧ w'.cell? ⟨gb137, 2, none⟩ = some (.int .i64 x138002_1) ∧ w'.cell? ⟨gb137, 3, none⟩ = some (.int .i64 x138003_1) ∧ w'.cell? ⟨gb137, 4, none⟩ = some (.int .i64 x138004_1) ∧ w'.cell? ⟨gb137, 5, none⟩ = some (.int .u64 x138005_1) ∧ w'.cell? ⟨gb137, 6, none⟩ = some (.int .u64 x138006_1) ∧ w'.cell? ⟨gb137, 7, none⟩ = some (.int .u64 x138007_1) ∧ w'.cell? ⟨gb139, 0, none⟩ = some (.int .i64 ((rd_T24 l0 x5_1).f0)) ∧ w'.cell? ⟨gb139, 1, none⟩ = some (.int .i64 ((rd_T24 l0 x5_1).f1)) ∧ w'.cell? ⟨gb139, 2, none⟩ = some (.int .i64 ((rd_T24 l0 x5_1).f2)) ∧ w'.cell? ⟨gb139, 3, none⟩ = some (.int .i64 ((rd_T24 l0 x5_1).f3)) ∧ w'.cell? ⟨gb139, 4, none⟩ = some (.int .i64 ((rd_T24 l0 x5_1).f4)) ∧ w'.cell? ⟨gb139, 5, none⟩ = some (.int .u64 ((rd_T24 l0 x5_1).f5)) ∧ w'.cell? ⟨gb139, 6, none⟩ = some (.int .u64 ((rd_T24 l0 x5_1).f6)) ∧ w'.cell? ⟨gb139, 7, none⟩ = some (.int .u64 ((rd_T24 l0 x5_1).f7))) (ds := [38]) #[false, false, false, false, false, false, false, false, false, false, false, false, false, false, false, false, false, false, false, false, false, false, false, false, false, false, false, false, false, false, false, false, false, false, false, false, false, false, false] (by kernel_rfl) rfl rfl ⟨(blk_cell BK137.out 0).trans rfl, (blk_cell BK137.out 1).trans rfl, (blk_cell BK137.out 2).trans rfl, (blk_cell BK137.out 3).trans rfl, (blk_cell BK137.out 4).trans rfl, (blk_cell BK137.out 5).trans rfl, (blk_cell BK137.out 6).trans rfl, (blk_cell BK137.out 7).trans rfl, (blk_cell BK139.out 0).trans rfl, (blk_cell BK139.out 1).trans rfl, (blk_cell BK139.out 2).trans rfl, (blk_cell BK139.out 3).trans rfl, (blk_cell BK139.out 4).trans rfl, (blk_cell BK139.out 5).trans rfl, (blk_cell BK139.out 6).trans rfl, (blk_cell BK139.out 7).trans rfl⟩ (fun hHeld => ?_); refine with_tabW haulierref11_Join.tab10 haulierref11_Join.bits10 (fun HT_ HW_ => ?_)
                generalize w26.drew = w27 at BK135 BK137 BK139 HB hHeld ⊢
                refine pure_ (i := 0) (N := some 30) (v := ?_) (a' := ?_) #[true, false, false, false, false, false, false, false, false, false, false, false, false, false, false, false, false, false, false, false, false, false, false, false, false, false, false, false, false, false, false, false, false, false, false, false, false, false, false] rfl rfl (any_of HT_.out (by kernel_rfl)) (fun _ _ _ h => h) (Or.inl ⟨by rfl, ?_⟩) ?_ ?_
                rotate_left
                · intro w'
                  go_simp
                  with_reducible rfl
                rotate_left
                · simp only [Act.put, List.setIfInBounds_toArray, List.set_cons_zero, List.set_cons_succ, i64_w, i32_w]
                  rfl
                refine pure_ (i := 2) (N := some 32) (v := ?_) (a' := ?_) #[true, false, true, false, false, false, false, false, false, false, false, false, false, false, false, false, false, false, false, false, false, false, false, false, false, false, false, false, false, false, false, false, false, false, false, false, false, false, false] rfl rfl (any_of HT_.out (by kernel_rfl)) (fun _ _ _ h => h) (Or.inl ⟨by rfl, ?_⟩) ?_ ?_
                rotate_left
                · intro w'
                  go_simp
                  with_reducible rfl
                rotate_left
                · simp only [Act.put, List.setIfInBounds_toArray, List.set_cons_zero, List.set_cons_succ, i64_w, i32_w]
                  rfl
                refine pure_ (i := 4) (N := some 34) (v := ?_) (a' := ?_) #[true, false, true, false, true, false, false, false, false, false, false, false, false, false, false, false, false, false, false, false, false, false, false, false, false, false, false, false, false, false, false, false, false, false, false, false, false, false, false] rfl rfl (any_of HT_.out (by kernel_rfl)) (fun _ _ _ h => h) (Or.inl ⟨by rfl, ?_⟩) ?_ ?_
                rotate_left
                · intro w'
                  go_simp
                  with_reducible rfl
                rotate_left
                · simp only [Act.put, List.setIfInBounds_toArray, List.set_cons_zero, List.set_cons_succ, i64_w, i32_w]
                  rfl
                refine pure_ (i := 7) (N := some 37) (v := ?_) (a' := ?_) #[true, false, true, false, true, false, false, true, false, false, false, false, false, false, false, false, false, false, false, false, false, false, false, false, false, false, false, false, false, false, false, false, false, false, false, false, false, false, false] rfl rfl (any_of HT_.out (by kernel_rfl)) (fun _ _ _ h => h) (Or.inl ⟨by rfl, ?_⟩) ?_ ?_
                rotate_left
                · intro w'
                  go_simp
                  with_reducible rfl
                rotate_left
                · simp only [Act.put, List.setIfInBounds_toArray, List.set_cons_zero, List.set_cons_succ, i64_w, i32_w]
                  rfl
                refine pure_ (i := 9) (N := some 39) (v := ?_) (a' := ?_) #[true, false, true, false, true, false, false, true, false, true, false, false, false, false, false, false, false, false, false, false, false, false, false, false, false, false, false, false, false, false, false, false, false, false, false, false, false, false, false] rfl rfl (any_of HT_.out (by kernel_rfl)) (fun _ _ _ h => h) (Or.inl ⟨by rfl, ?_⟩) ?_ ?_
                rotate_left
                · intro w'
                  go_simp
                  with_reducible rfl
                rotate_left
                · simp only [Act.put, List.setIfInBounds_toArray, List.set_cons_zero, List.set_cons_succ, i64_w, i32_w]
                  rfl
                refine pure_ (i := 12) (N := some 42) (v := ?_) (a' := ?_) #[true, false, true, false, true, false, false, true, false, true, false, false, true, false, false, false, false, false, false, false, false, false, false, false, false, false, false, false, false, false, false, false, false, false, false, false, false, false, false] rfl rfl (any_of HT_.out (by kernel_rfl)) (fun _ _ _ h => h) (Or.inl ⟨by rfl, ?_⟩) ?_ ?_
                rotate_left
                · intro w'
                  go_simp
                  with_reducible rfl
                rotate_left
                · simp only [Act.put, List.setIfInBounds_toArray, List.set_cons_zero, List.set_cons_succ, i64_w, i32_w]
                  rfl
                refine pure_ (i := 14) (N := some 44) (v := ?_) (a' := ?_) #[true, false, true, false, true, false, false, true, false, true, false, false, true, false, true, false, false, false, false, false, false, false, false, false, false, false, false, false, false, false, false, false, false, false, false, false, false, false, false] rfl rfl (any_of HT_.out (by kernel_rfl)) (fun _ _ _ h => h) (Or.inl ⟨by rfl, ?_⟩) ?_ ?_
                rotate_left
                · intro w'
                  go_simp
                  with_reducible rfl
                rotate_left
                · simp only [Act.put, List.setIfInBounds_toArray, List.set_cons_zero, List.set_cons_succ, i64_w, i32_w]
                  rfl
                refine pure_ (i := 17) (N := some 47) (v := ?_) (a' := ?_) #[true, false, true, false, true, false, false, true, false, true, false, false, true, false, true, false, false, true, false, false, false, false, false, false, false, false, false, false, false, false, false, false, false, false, false, false, false, false, false] rfl rfl (any_of HT_.out (by kernel_rfl)) (fun _ _ _ h => h) (Or.inl ⟨by rfl, ?_⟩) ?_ ?_
                rotate_left
                · intro w'
                  go_simp
                  with_reducible rfl
                rotate_left
                · simp only [Act.put, List.setIfInBounds_toArray, List.set_cons_zero, List.set_cons_succ, i64_w, i32_w]
                  rfl
                refine pure_ (i := 19) (N := some 49) (v := ?_) (a' := ?_) #[true, false, true, false, true, false, false, true, false, true, false, false, true, false, true, false, false, true, false, true, false, false, false, false, false, false, false, false, false, false, false, false, false, false, false, false, false, false, false] rfl rfl (any_of HT_.out (by kernel_rfl)) (fun _ _ _ h => h) (Or.inl ⟨by rfl, ?_⟩) ?_ ?_
                rotate_left
                · intro w'
                  go_simp
                  with_reducible rfl
                rotate_left
                · simp only [Act.put, List.setIfInBounds_toArray, List.set_cons_zero, List.set_cons_succ, i64_w, i32_w]
                  rfl
                refine pure_ (i := 22) (N := some 52) (v := ?_) (a' := ?_) #[true, false, true, false, true, false, false, true, false, true, false, false, true, false, true, false, false, true, false, true, false, false, true, false, false, false, false, false, false, false, false, false, false, false, false, false, false, false, false] rfl rfl (any_of HT_.out (by kernel_rfl)) (fun _ _ _ h => h) (Or.inl ⟨by rfl, ?_⟩) ?_ ?_
                rotate_left
                · intro w'
                  go_simp
                  with_reducible rfl
                rotate_left
                · simp only [Act.put, List.setIfInBounds_toArray, List.set_cons_zero, List.set_cons_succ, i64_w, i32_w]
                  rfl
                refine pure_ (i := 24) (N := some 54) (v := ?_) (a' := ?_) #[true, false, true, false, true, false, false, true, false, true, false, false, true, false, true, false, false, true, false, true, false, false, true, false, true, false, false, false, false, false, false, false, false, false, false, false, false, false, false] rfl rfl (any_of HT_.out (by kernel_rfl)) (fun _ _ _ h => h) (Or.inl ⟨by rfl, ?_⟩) ?_ ?_
                rotate_left
                · intro w'
                  go_simp
                  with_reducible rfl
                rotate_left
                · simp only [Act.put, List.setIfInBounds_toArray, List.set_cons_zero, List.set_cons_succ, i64_w, i32_w]
                  rfl
                refine pure_ (i := 27) (N := some 57) (v := ?_) (a' := ?_) #[true, false, true, false, true, false, false, true, false, true, false, false, true, false, true, false, false, true, false, true, false, false, true, false, true, false, false, true, false, false, false, false, false, false, false, false, false, false, false] rfl rfl (any_of HT_.out (by kernel_rfl)) (fun _ _ _ h => h) (Or.inl ⟨by rfl, ?_⟩) ?_ ?_
                rotate_left
                · intro w'
                  go_simp
                  with_reducible rfl
                rotate_left
                · simp only [Act.put, List.setIfInBounds_toArray, List.set_cons_zero, List.set_cons_succ, i64_w, i32_w]
                  rfl
                refine pure_ (i := 29) (N := some 59) (v := ?_) (a' := ?_) #[true, false, true, false, true, false, false, true, false, true, false, false, true, false, true, false, false, true, false, true, false, false, true, false, true, false, false, true, false, true, false, false, false, false, false, false, false, false, false] rfl rfl (any_of HT_.out (by kernel_rfl)) (fun _ _ _ h => h) (Or.inl ⟨by rfl, ?_⟩) ?_ ?_
                rotate_left
                · intro w'
                  go_simp
                  with_reducible rfl
                rotate_left
                · simp only [Act.put, List.setIfInBounds_toArray, List.set_cons_zero, List.set_cons_succ, i64_w, i32_w]
                  rfl
                refine pure_ (i := 32) (N := some 62) (v := ?_) (a' := ?_) #[true, false, true, false, true, false, false, true, false, true, false, false, true, false, true, false, false, true, false, true, false, false, true, false, true, false, false, true, false, true, false, false, true, false, false, false, false, false, false] rfl rfl (any_of HT_.out (by kernel_rfl)) (fun _ _ _ h => h) (Or.inl ⟨by rfl, ?_⟩) ?_ ?_
                rotate_left
                · intro w'
                  go_simp
                  with_reducible rfl
                rotate_left
                · simp only [Act.put, List.setIfInBounds_toArray, List.set_cons_zero, List.set_cons_succ, i64_w, i32_w]
                  rfl
                refine pure_ (i := 34) (N := some 64) (v := ?_) (a' := ?_) #[true, false, true, false, true, false, false, true, false, true, false, false, true, false, true, false, false, true, false, true, false, false, true, false, true, false, false, true, false, true, false, false, true, false, true, false, false, false, false] rfl rfl (any_of HT_.out (by kernel_rfl)) (fun _ _ _ h => h) (Or.inl ⟨by rfl, ?_⟩) ?_ ?_
                rotate_left
                · intro w'
                  go_simp
                  with_reducible rfl
                rotate_left
                · simp only [Act.put, List.setIfInBounds_toArray, List.set_cons_zero, List.set_cons_succ, i64_w, i32_w]
                  rfl
                refine take_ (i := 1) (N := some 31) (v := ?_) (a' := ?_) #[true, true, true, false, true, false, false, true, false, true, false, false, true, false, true, false, false, true, false, true, false, false, true, false, true, false, false, true, false, true, false, false, true, false, true, false, false, false, false] rfl rfl (take_ofW HT_.out HW_.out (by kernel_rfl)) (fun _ _ _ h => h) (Or.inl ⟨by rfl, ?_⟩) hHeld ?_ ?_
                rotate_left
                · rintro w' ⟨s0, s1, s2, s3, s4, s5, s6, s7, s8, s9, s10, s11, s12, s13, s14, s15⟩
                  go_simp
                  with_reducible rfl
                rotate_left
                · simp only [Act.put, List.setIfInBounds_toArray, List.set_cons_zero, List.set_cons_succ, i64_w, i32_w]
                  rfl
                refine take_ (i := 3) (N := some 33) (v := ?_) (a' := ?_) #[true, true, true, true, true, false, false, true, false, true, false, false, true, false, true, false, false, true, false, true, false, false, true, false, true, false, false, true, false, true, false, false, true, false, true, false, false, false, false] rfl rfl (take_ofW HT_.out HW_.out (by kernel_rfl)) (fun _ _ _ h => h) (Or.inl ⟨by rfl, ?_⟩) hHeld ?_ ?_
                rotate_left
                · rintro w' ⟨s0, s1, s2, s3, s4, s5, s6, s7, s8, s9, s10, s11, s12, s13, s14, s15⟩
                  go_simp
                  with_reducible rfl
                rotate_left
                · simp only [Act.put, List.setIfInBounds_toArray, List.set_cons_zero, List.set_cons_succ, i64_w, i32_w]
                  rfl
                refine take_ (i := 5) (N := some 35) (v := ?_) (a' := ?_) #[true, true, true, true, true, true, false, true, false, true, false, false, true, false, true, false, false, true, false, true, false, false, true, false, true, false, false, true, false, true, false, false, true, false, true, false, false, false, false] rfl rfl (take_ofW HT_.out HW_.out (by kernel_rfl)) (fun _ _ _ h => h) (Or.inl ⟨by rfl, ?_⟩) hHeld ?_ ?_
                rotate_left
                · rintro w' ⟨s0, s1, s2, s3, s4, s5, s6, s7, s8, s9, s10, s11, s12, s13, s14, s15⟩
                  go_simp
                  with_reducible rfl
                rotate_left
                · simp only [Act.put, List.setIfInBounds_toArray, List.set_cons_zero, List.set_cons_succ, i64_w, i32_w]
                  rfl
                refine take_ (i := 8) (N := some 38) (v := ?_) (a' := ?_) #[true, true, true, true, true, true, false, true, true, true, false, false, true, false, true, false, false, true, false, true, false, false, true, false, true, false, false, true, false, true, false, false, true, false, true, false, false, false, false] rfl rfl (take_ofW HT_.out HW_.out (by kernel_rfl)) (fun _ _ _ h => h) (Or.inl ⟨by rfl, ?_⟩) hHeld ?_ ?_
                rotate_left
                · rintro w' ⟨s0, s1, s2, s3, s4, s5, s6, s7, s8, s9, s10, s11, s12, s13, s14, s15⟩
                  go_simp
                  with_reducible rfl
                rotate_left
                · simp only [Act.put, List.setIfInBounds_toArray, List.set_cons_zero, List.set_cons_succ, i64_w, i32_w]
                  rfl
                refine take_ (i := 10) (N := some 40) (v := ?_) (a' := ?_) #[true, true, true, true, true, true, false, true, true, true, true, false, true, false, true, false, false, true, false, true, false, false, true, false, true, false, false, true, false, true, false, false, true, false, true, false, false, false, false] rfl rfl (take_ofW HT_.out HW_.out (by kernel_rfl)) (fun _ _ _ h => h) (Or.inl ⟨by rfl, ?_⟩) hHeld ?_ ?_
                rotate_left
                · rintro w' ⟨s0, s1, s2, s3, s4, s5, s6, s7, s8, s9, s10, s11, s12, s13, s14, s15⟩
                  go_simp
                  with_reducible rfl
                rotate_left
                · simp only [Act.put, List.setIfInBounds_toArray, List.set_cons_zero, List.set_cons_succ, i64_w, i32_w]
                  rfl
                refine take_ (i := 13) (N := some 43) (v := ?_) (a' := ?_) #[true, true, true, true, true, true, false, true, true, true, true, false, true, true, true, false, false, true, false, true, false, false, true, false, true, false, false, true, false, true, false, false, true, false, true, false, false, false, false] rfl rfl (take_ofW HT_.out HW_.out (by kernel_rfl)) (fun _ _ _ h => h) (Or.inl ⟨by rfl, ?_⟩) hHeld ?_ ?_
                rotate_left
                · rintro w' ⟨s0, s1, s2, s3, s4, s5, s6, s7, s8, s9, s10, s11, s12, s13, s14, s15⟩
                  go_simp
                  with_reducible rfl
                rotate_left
                · simp only [Act.put, List.setIfInBounds_toArray, List.set_cons_zero, List.set_cons_succ, i64_w, i32_w]
                  rfl
                refine take_ (i := 15) (N := some 45) (v := ?_) (a' := ?_) #[true, true, true, true, true, true, false, true, true, true, true, false, true, true, true, true, false, true, false, true, false, false, true, false, true, false, false, true, false, true, false, false, true, false, true, false, false, false, false] rfl rfl (take_ofW HT_.out HW_.out (by kernel_rfl)) (fun _ _ _ h => h) (Or.inl ⟨by rfl, ?_⟩) hHeld ?_ ?_
                rotate_left
                · rintro w' ⟨s0, s1, s2, s3, s4, s5, s6, s7, s8, s9, s10, s11, s12, s13, s14, s15⟩
                  go_simp
                  with_reducible rfl
                rotate_left
                · simp only [Act.put, List.setIfInBounds_toArray, List.set_cons_zero, List.set_cons_succ, i64_w, i32_w]
                  rfl
                refine take_ (i := 18) (N := some 48) (v := ?_) (a' := ?_) #[true, true, true, true, true, true, false, true, true, true, true, false, true, true, true, true, false, true, true, true, false, false, true, false, true, false, false, true, false, true, false, false, true, false, true, false, false, false, false] rfl rfl (take_ofW HT_.out HW_.out (by kernel_rfl)) (fun _ _ _ h => h) (Or.inl ⟨by rfl, ?_⟩) hHeld ?_ ?_
                rotate_left
                · rintro w' ⟨s0, s1, s2, s3, s4, s5, s6, s7, s8, s9, s10, s11, s12, s13, s14, s15⟩
                  go_simp
                  with_reducible rfl
                rotate_left
                · simp only [Act.put, List.setIfInBounds_toArray, List.set_cons_zero, List.set_cons_succ, i64_w, i32_w]
                  rfl
                refine take_ (i := 20) (N := some 50) (v := ?_) (a' := ?_) #[true, true, true, true, true, true, false, true, true, true, true, false, true, true, true, true, false, true, true, true, true, false, true, false, true, false, false, true, false, true, false, false, true, false, true, false, false, false, false] rfl rfl (take_ofW HT_.out HW_.out (by kernel_rfl)) (fun _ _ _ h => h) (Or.inl ⟨by rfl, ?_⟩) hHeld ?_ ?_
                rotate_left
                · rintro w' ⟨s0, s1, s2, s3, s4, s5, s6, s7, s8, s9, s10, s11, s12, s13, s14, s15⟩
                  go_simp
                  with_reducible rfl
                rotate_left
                · simp only [Act.put, List.setIfInBounds_toArray, List.set_cons_zero, List.set_cons_succ, i64_w, i32_w]
                  rfl
                refine take_ (i := 23) (N := some 53) (v := ?_) (a' := ?_) #[true, true, true, true, true, true, false, true, true, true, true, false, true, true, true, true, false, true, true, true, true, false, true, true, true, false, false, true, false, true, false, false, true, false, true, false, false, false, false] rfl rfl (take_ofW HT_.out HW_.out (by kernel_rfl)) (fun _ _ _ h => h) (Or.inl ⟨by rfl, ?_⟩) hHeld ?_ ?_
                rotate_left
                · rintro w' ⟨s0, s1, s2, s3, s4, s5, s6, s7, s8, s9, s10, s11, s12, s13, s14, s15⟩
                  go_simp
                  with_reducible rfl
                rotate_left
                · simp only [Act.put, List.setIfInBounds_toArray, List.set_cons_zero, List.set_cons_succ, i64_w, i32_w]
                  rfl
                refine take_ (i := 25) (N := some 55) (v := ?_) (a' := ?_) #[true, true, true, true, true, true, false, true, true, true, true, false, true, true, true, true, false, true, true, true, true, false, true, true, true, true, false, true, false, true, false, false, true, false, true, false, false, false, false] rfl rfl (take_ofW HT_.out HW_.out (by kernel_rfl)) (fun _ _ _ h => h) (Or.inl ⟨by rfl, ?_⟩) hHeld ?_ ?_
                rotate_left
                · rintro w' ⟨s0, s1, s2, s3, s4, s5, s6, s7, s8, s9, s10, s11, s12, s13, s14, s15⟩
                  go_simp
                  with_reducible rfl
                rotate_left
                · simp only [Act.put, List.setIfInBounds_toArray, List.set_cons_zero, List.set_cons_succ, i64_w, i32_w]
                  rfl
                refine take_ (i := 28) (N := some 58) (v := ?_) (a' := ?_) #[true, true, true, true, true, true, false, true, true, true, true, false, true, true, true, true, false, true, true, true, true, false, true, true, true, true, false, true, true, true, false, false, true, false, true, false, false, false, false] rfl rfl (take_ofW HT_.out HW_.out (by kernel_rfl)) (fun _ _ _ h => h) (Or.inl ⟨by rfl, ?_⟩) hHeld ?_ ?_
                rotate_left
                · rintro w' ⟨s0, s1, s2, s3, s4, s5, s6, s7, s8, s9, s10, s11, s12, s13, s14, s15⟩
                  go_simp
                  with_reducible rfl
                rotate_left
                · simp only [Act.put, List.setIfInBounds_toArray, List.set_cons_zero, List.set_cons_succ, i64_w, i32_w]
                  rfl
                refine take_ (i := 30) (N := some 60) (v := ?_) (a' := ?_) #[true, true, true, true, true, true, false, true, true, true, true, false, true, true, true, true, false, true, true, true, true, false, true, true, true, true, false, true, true, true, true, false, true, false, true, false, false, false, false] rfl rfl (take_ofW HT_.out HW_.out (by kernel_rfl)) (fun _ _ _ h => h) (Or.inl ⟨by rfl, ?_⟩) hHeld ?_ ?_
                rotate_left
                · rintro w' ⟨s0, s1, s2, s3, s4, s5, s6, s7, s8, s9, s10, s11, s12, s13, s14, s15⟩
                  go_simp
                  with_reducible rfl
                rotate_left
                · simp only [Act.put, List.setIfInBounds_toArray, List.set_cons_zero, List.set_cons_succ, i64_w, i32_w]
                  rfl
                refine take_ (i := 33) (N := some 63) (v := ?_) (a' := ?_) #[true, true, true, true, true, true, false, true, true, true, true, false, true, true, true, true, false, true, true, true, true, false, true, true, true, true, false, true, true, true, true, false, true, true, true, false, false, false, false] rfl rfl (take_ofW HT_.out HW_.out (by kernel_rfl)) (fun _ _ _ h => h) (Or.inl ⟨by rfl, ?_⟩) hHeld ?_ ?_
                rotate_left
                · rintro w' ⟨s0, s1, s2, s3, s4, s5, s6, s7, s8, s9, s10, s11, s12, s13, s14, s15⟩
                  go_simp
                  with_reducible rfl
                rotate_left
                · simp only [Act.put, List.setIfInBounds_toArray, List.set_cons_zero, List.set_cons_succ, i64_w, i32_w]
                  rfl
                refine take_ (i := 35) (N := some 65) (v := ?_) (a' := ?_) #[true, true, true, true, true, true, false, true, true, true, true, false, true, true, true, true, false, true, true, true, true, false, true, true, true, true, false, true, true, true, true, false, true, true, true, true, false, false, false] rfl rfl (take_ofW HT_.out HW_.out (by kernel_rfl)) (fun _ _ _ h => h) (Or.inl ⟨by rfl, ?_⟩) hHeld ?_ ?_
                rotate_left
                · rintro w' ⟨s0, s1, s2, s3, s4, s5, s6, s7, s8, s9, s10, s11, s12, s13, s14, s15⟩
                  go_simp
                  with_reducible rfl
                rotate_left
                · simp only [Act.put, List.setIfInBounds_toArray, List.set_cons_zero, List.set_cons_succ, i64_w, i32_w]
                  rfl
                refine one_ (i := 6) (N := some 36) #[true, true, true, true, true, true, true, true, true, true, true, false, true, true, true, true, false, true, true, true, true, false, true, true, true, true, false, true, true, true, true, false, true, true, true, true, false, false, false] rfl rfl (one_of HT_.out (by kernel_rfl)) (by decide) (fun K hK => ?_)
                refine goes_ Try.func25 (by kernel_rfl) rfl #[.int .i64 x138001_1, .int .i64 ((rd_T24 l0 x5_1).f1)] (by rfl) rfl rfl (by (try simp only [List.map_toArray, List.map_cons, List.map_nil]); first | done | rfl | (simp only [List.length_drop, List.length_take]; rfl)) ?_
                with_reducible refine (haulierref11_least.calls x138001_1 ((rd_T24 l0 x5_1).f1) t140 _ A13.out).mono ?_
                rintro e w' ⟨rfl, ⟨nd, rfl⟩⟩
                refine ⟨_, rfl, ?_⟩
                refine hK.out _ _ ⟨(blk_cell BK137.out 0).trans rfl, (blk_cell BK137.out 1).trans rfl, (blk_cell BK137.out 2).trans rfl, (blk_cell BK137.out 3).trans rfl, (blk_cell BK137.out 4).trans rfl, (blk_cell BK137.out 5).trans rfl, (blk_cell BK137.out 6).trans rfl, (blk_cell BK137.out 7).trans rfl, (blk_cell BK139.out 0).trans rfl, (blk_cell BK139.out 1).trans rfl, (blk_cell BK139.out 2).trans rfl, (blk_cell BK139.out 3).trans rfl, (blk_cell BK139.out 4).trans rfl, (blk_cell BK139.out 5).trans rfl, (blk_cell BK139.out 6).trans rfl, (blk_cell BK139.out 7).trans rfl⟩ (fun hHeld => ?_)
                clear hK K
                refine norm_ (a' := ?_) ?_ ?_
                rotate_left
                · show Act.put _ (some 36) _ = _
                  simp only [Act.put, List.setIfInBounds_toArray, List.set_cons_zero, List.set_cons_succ, i64_w, i32_w]
                  rfl
                refine one_ (i := 11) (N := some 41) #[true, true, true, true, true, true, true, true, true, true, true, true, true, true, true, true, false, true, true, true, true, false, true, true, true, true, false, true, true, true, true, false, true, true, true, true, false, false, false] rfl rfl (one_of HT_.out (by kernel_rfl)) (by decide) (fun K hK => ?_)
                refine goes_ Try.func25 (by kernel_rfl) rfl #[.int .i64 x138002_1, .int .i64 ((rd_T24 l0 x5_1).f2)] (by rfl) rfl rfl (by (try simp only [List.map_toArray, List.map_cons, List.map_nil]); first | done | rfl | (simp only [List.length_drop, List.length_take]; rfl)) ?_
                with_reducible refine (haulierref11_least.calls x138002_1 ((rd_T24 l0 x5_1).f2) t141 _ A14.out).mono ?_
                rintro e w' ⟨rfl, ⟨nd, rfl⟩⟩
                refine ⟨_, rfl, ?_⟩
                refine hK.out _ _ ⟨(blk_cell BK137.out 0).trans rfl, (blk_cell BK137.out 1).trans rfl, (blk_cell BK137.out 2).trans rfl, (blk_cell BK137.out 3).trans rfl, (blk_cell BK137.out 4).trans rfl, (blk_cell BK137.out 5).trans rfl, (blk_cell BK137.out 6).trans rfl, (blk_cell BK137.out 7).trans rfl, (blk_cell BK139.out 0).trans rfl, (blk_cell BK139.out 1).trans rfl, (blk_cell BK139.out 2).trans rfl, (blk_cell BK139.out 3).trans rfl, (blk_cell BK139.out 4).trans rfl, (blk_cell BK139.out 5).trans rfl, (blk_cell BK139.out 6).trans rfl, (blk_cell BK139.out 7).trans rfl⟩ (fun hHeld => ?_)
                clear hK K
                refine norm_ (a' := ?_) ?_ ?_
                rotate_left
                · show Act.put _ (some 41) _ = _
                  simp only [Act.put, List.setIfInBounds_toArray, List.set_cons_zero, List.set_cons_succ, i64_w, i32_w]
                  rfl
                refine one_ (i := 16) (N := some 46) #[true, true, true, true, true, true, true, true, true, true, true, true, true, true, true, true, true, true, true, true, true, false, true, true, true, true, false, true, true, true, true, false, true, true, true, true, false, false, false] rfl rfl (one_of HT_.out (by kernel_rfl)) (by decide) (fun K hK => ?_)
                refine goes_ Try.func25 (by kernel_rfl) rfl #[.int .i64 x138003_1, .int .i64 ((rd_T24 l0 x5_1).f3)] (by rfl) rfl rfl (by (try simp only [List.map_toArray, List.map_cons, List.map_nil]); first | done | rfl | (simp only [List.length_drop, List.length_take]; rfl)) ?_
                with_reducible refine (haulierref11_least.calls x138003_1 ((rd_T24 l0 x5_1).f3) t142 _ A15.out).mono ?_
                rintro e w' ⟨rfl, ⟨nd, rfl⟩⟩
                refine ⟨_, rfl, ?_⟩
                refine hK.out _ _ ⟨(blk_cell BK137.out 0).trans rfl, (blk_cell BK137.out 1).trans rfl, (blk_cell BK137.out 2).trans rfl, (blk_cell BK137.out 3).trans rfl, (blk_cell BK137.out 4).trans rfl, (blk_cell BK137.out 5).trans rfl, (blk_cell BK137.out 6).trans rfl, (blk_cell BK137.out 7).trans rfl, (blk_cell BK139.out 0).trans rfl, (blk_cell BK139.out 1).trans rfl, (blk_cell BK139.out 2).trans rfl, (blk_cell BK139.out 3).trans rfl, (blk_cell BK139.out 4).trans rfl, (blk_cell BK139.out 5).trans rfl, (blk_cell BK139.out 6).trans rfl, (blk_cell BK139.out 7).trans rfl⟩ (fun hHeld => ?_)
                clear hK K
                refine norm_ (a' := ?_) ?_ ?_
                rotate_left
                · show Act.put _ (some 46) _ = _
                  simp only [Act.put, List.setIfInBounds_toArray, List.set_cons_zero, List.set_cons_succ, i64_w, i32_w]
                  rfl
                refine one_ (i := 21) (N := some 51) #[true, true, true, true, true, true, true, true, true, true, true, true, true, true, true, true, true, true, true, true, true, true, true, true, true, true, false, true, true, true, true, false, true, true, true, true, false, false, false] rfl rfl (one_of HT_.out (by kernel_rfl)) (by decide) (fun K hK => ?_)
                refine goes_ Try.func25 (by kernel_rfl) rfl #[.int .i64 x138004_1, .int .i64 ((rd_T24 l0 x5_1).f4)] (by rfl) rfl rfl (by (try simp only [List.map_toArray, List.map_cons, List.map_nil]); first | done | rfl | (simp only [List.length_drop, List.length_take]; rfl)) ?_
                with_reducible refine (haulierref11_least.calls x138004_1 ((rd_T24 l0 x5_1).f4) t143 _ A16.out).mono ?_
                rintro e w' ⟨rfl, ⟨nd, rfl⟩⟩
                refine ⟨_, rfl, ?_⟩
                refine hK.out _ _ ⟨(blk_cell BK137.out 0).trans rfl, (blk_cell BK137.out 1).trans rfl, (blk_cell BK137.out 2).trans rfl, (blk_cell BK137.out 3).trans rfl, (blk_cell BK137.out 4).trans rfl, (blk_cell BK137.out 5).trans rfl, (blk_cell BK137.out 6).trans rfl, (blk_cell BK137.out 7).trans rfl, (blk_cell BK139.out 0).trans rfl, (blk_cell BK139.out 1).trans rfl, (blk_cell BK139.out 2).trans rfl, (blk_cell BK139.out 3).trans rfl, (blk_cell BK139.out 4).trans rfl, (blk_cell BK139.out 5).trans rfl, (blk_cell BK139.out 6).trans rfl, (blk_cell BK139.out 7).trans rfl⟩ (fun hHeld => ?_)
                clear hK K
                refine norm_ (a' := ?_) ?_ ?_
                rotate_left
                · show Act.put _ (some 51) _ = _
                  simp only [Act.put, List.setIfInBounds_toArray, List.set_cons_zero, List.set_cons_succ, i64_w, i32_w]
                  rfl
                refine one_ (i := 26) (N := some 56) #[true, true, true, true, true, true, true, true, true, true, true, true, true, true, true, true, true, true, true, true, true, true, true, true, true, true, true, true, true, true, true, false, true, true, true, true, false, false, false] rfl rfl (one_of HT_.out (by kernel_rfl)) (by decide) (fun K hK => ?_)
                refine goes_ Try.func26 (by kernel_rfl) rfl #[.int .u64 x138005_1, .int .u64 ((rd_T24 l0 x5_1).f5)] (by rfl) rfl rfl (by (try simp only [List.map_toArray, List.map_cons, List.map_nil]); first | done | rfl | (simp only [List.length_drop, List.length_take]; rfl)) ?_
                with_reducible refine (haulierref02_And.calls k1 x138005_1 ((rd_T24 l0 x5_1).f5) t144 _ A17.out).mono ?_
                rintro e w' ⟨rfl, ⟨nd, rfl⟩⟩
                refine ⟨_, rfl, ?_⟩
                refine hK.out _ _ ⟨(blk_cell BK137.out 0).trans rfl, (blk_cell BK137.out 1).trans rfl, (blk_cell BK137.out 2).trans rfl, (blk_cell BK137.out 3).trans rfl, (blk_cell BK137.out 4).trans rfl, (blk_cell BK137.out 5).trans rfl, (blk_cell BK137.out 6).trans rfl, (blk_cell BK137.out 7).trans rfl, (blk_cell BK139.out 0).trans rfl, (blk_cell BK139.out 1).trans rfl, (blk_cell BK139.out 2).trans rfl, (blk_cell BK139.out 3).trans rfl, (blk_cell BK139.out 4).trans rfl, (blk_cell BK139.out 5).trans rfl, (blk_cell BK139.out 6).trans rfl, (blk_cell BK139.out 7).trans rfl⟩ (fun hHeld => ?_)
                clear hK K
                refine norm_ (a' := ?_) ?_ ?_
                rotate_left
                · show Act.put _ (some 56) _ = _
                  simp only [Act.put, List.setIfInBounds_toArray, List.set_cons_zero, List.set_cons_succ, i64_w, i32_w]
                  rfl
                refine one_ (i := 31) (N := some 61) #[true, true, true, true, true, true, true, true, true, true, true, true, true, true, true, true, true, true, true, true, true, true, true, true, true, true, true, true, true, true, true, true, true, true, true, true, false, false, false] rfl rfl (one_of HT_.out (by kernel_rfl)) (by decide) (fun K hK => ?_)
                refine goes_ Try.func27 (by kernel_rfl) rfl #[.int .u64 x138006_1, .int .u64 ((rd_T24 l0 x5_1).f6)] (by rfl) rfl rfl (by (try simp only [List.map_toArray, List.map_cons, List.map_nil]); first | done | rfl | (simp only [List.length_drop, List.length_take]; rfl)) ?_
                with_reducible refine (haulierref02_Or.calls k1 x138006_1 ((rd_T24 l0 x5_1).f6) t145 _ A18.out).mono ?_
                rintro e w28 ⟨rfl, hb⟩
                refine ⟨_, rfl, ?_⟩
                have n0_ := Aside0.mk (blk_below (g := gb135) (o := .cells #[.int .i64 x136000_1, .int .i64 x136001_1, .int .i64 x136002_1, .int .i64 x136003_1, .int .i64 x136004_1, .int .u64 x136005_1, .int .u64 x136006_1, .int .u64 x136007_1] 24 (0, 0)) (by (with_reducible repeat (first | refine blk_drewN ?_ _ | refine blk_drew ?_ | refine blk_alloc ?_ _)); exact BK135.out) hb)
                have n1_ := Aside0.mk (blk_below (g := gb137) (o := .cells #[.int .i64 x138000_1, .int .i64 x138001_1, .int .i64 x138002_1, .int .i64 x138003_1, .int .i64 x138004_1, .int .u64 x138005_1, .int .u64 x138006_1, .int .u64 x138007_1] 24 (0, 0)) (by (with_reducible repeat (first | refine blk_drewN ?_ _ | refine blk_drew ?_ | refine blk_alloc ?_ _)); exact BK137.out) hb)
                have n2_ := Aside0.mk (blk_below (g := gb139) (o := .cells #[.int .i64 ((rd_T24 l0 x5_1).f0), .int .i64 ((rd_T24 l0 x5_1).f1), .int .i64 ((rd_T24 l0 x5_1).f2), .int .i64 ((rd_T24 l0 x5_1).f3), .int .i64 ((rd_T24 l0 x5_1).f4), .int .u64 ((rd_T24 l0 x5_1).f5), .int .u64 ((rd_T24 l0 x5_1).f6), .int .u64 ((rd_T24 l0 x5_1).f7)] 24 (0, 0)) (by (with_reducible repeat (first | refine blk_drewN ?_ _ | refine blk_drew ?_ | refine blk_alloc ?_ _)); exact BK139.out) hb)
                have n3_ := Aside0.mk (below_step (by repeat (first | (with_reducible first | exact HB.out | apply below_alloc | apply pw_below_drewN | apply below_drew1 | refine below_set ?_ GE135.out | refine below_set ?_ GE137.out | refine below_set ?_ GE139.out) | exact HB.out)) hb)
                clear BK135
                clear BK137
                clear BK139
                clear HB
                have BK135 := n0_
                have BK137 := n1_
                have BK139 := n2_
                have HB := n3_
                clear n0_ n1_ n2_ n3_
                (try clear hb)
                (try clear hb2)
                (try clear hk)
                (try clear hi)
                refine hK.out _ _ ⟨(blk_cell BK137.out 0).trans rfl, (blk_cell BK137.out 1).trans rfl, (blk_cell BK137.out 2).trans rfl, (blk_cell BK137.out 3).trans rfl, (blk_cell BK137.out 4).trans rfl, (blk_cell BK137.out 5).trans rfl, (blk_cell BK137.out 6).trans rfl, (blk_cell BK137.out 7).trans rfl, (blk_cell BK139.out 0).trans rfl, (blk_cell BK139.out 1).trans rfl, (blk_cell BK139.out 2).trans rfl, (blk_cell BK139.out 3).trans rfl, (blk_cell BK139.out 4).trans rfl, (blk_cell BK139.out 5).trans rfl, (blk_cell BK139.out 6).trans rfl, (blk_cell BK139.out 7).trans rfl⟩ (fun hHeld => ?_)
                clear hK K
                refine norm_ (a' := ?_) ?_ ?_
                rotate_left
                · show Act.put _ (some 61) _ = _
                  simp only [Act.put, List.setIfInBounds_toArray, List.set_cons_zero, List.set_cons_succ, i64_w, i32_w]
                  rfl
                refine one_ (i := 36) (N := some 66) #[true, true, true, true, true, true, true, true, true, true, true, true, true, true, true, true, true, true, true, true, true, true, true, true, true, true, true, true, true, true, true, true, true, true, true, true, true, false, false] rfl rfl (one_of HT_.out (by kernel_rfl)) (by decide) (fun K hK => ?_)
                refine goes_ Try.func26 (by kernel_rfl) rfl #[.int .u64 x138007_1, .int .u64 ((rd_T24 l0 x5_1).f7)] (by rfl) rfl rfl (by (try simp only [List.map_toArray, List.map_cons, List.map_nil]); first | done | rfl | (simp only [List.length_drop, List.length_take]; rfl)) ?_
                with_reducible refine (haulierref02_And.calls k1 x138007_1 ((rd_T24 l0 x5_1).f7) t146 _ A19.out).mono ?_
                rintro e w' ⟨rfl, ⟨nd, rfl⟩⟩
                refine ⟨_, rfl, ?_⟩
                refine hK.out _ _ ⟨(blk_cell BK137.out 0).trans rfl, (blk_cell BK137.out 1).trans rfl, (blk_cell BK137.out 2).trans rfl, (blk_cell BK137.out 3).trans rfl, (blk_cell BK137.out 4).trans rfl, (blk_cell BK137.out 5).trans rfl, (blk_cell BK137.out 6).trans rfl, (blk_cell BK137.out 7).trans rfl, (blk_cell BK139.out 0).trans rfl, (blk_cell BK139.out 1).trans rfl, (blk_cell BK139.out 2).trans rfl, (blk_cell BK139.out 3).trans rfl, (blk_cell BK139.out 4).trans rfl, (blk_cell BK139.out 5).trans rfl, (blk_cell BK139.out 6).trans rfl, (blk_cell BK139.out 7).trans rfl⟩ (fun hHeld => ?_)
                clear hK K
                refine norm_ (a' := ?_) ?_ ?_
                rotate_left
                · show Act.put _ (some 66) _ = _
                  simp only [Act.put, List.setIfInBounds_toArray, List.set_cons_zero, List.set_cons_succ, i64_w, i32_w]
                  rfl
                refine pure_ (i := 37) (N := some 67) (v := ?_) (a' := ?_) #[true, true, true, true, true, true, true, true, true, true, true, true, true, true, true, true, true, true, true, true, true, true, true, true, true, true, true, true, true, true, true, true, true, true, true, true, true, true, false] rfl rfl (any_of HT_.out (by kernel_rfl)) (fun _ _ _ h => h) (Or.inl ⟨by rfl, ?_⟩) ?_ ?_
                rotate_left
                · intro w'
                  go_simp
                  with_reducible rfl
                rotate_left
                · simp only [Act.put, List.setIfInBounds_toArray, List.set_cons_zero, List.set_cons_succ, i64_w, i32_w]
                  rfl
                refine last_ (i := 38) (N := none) #[true, true, true, true, true, true, true, true, true, true, true, true, true, true, true, true, true, true, true, true, true, true, true, true, true, true, true, true, true, true, true, true, true, true, true, true, true, true, true] rfl rfl (one_of HT_.out (by kernel_rfl)) (by decide) (fun K hK => ?_)
                have hs29 : w28.cell? ⟨gb137, 0, none⟩ = some (.int .i64 x138000_1) := (blk_cell BK137.out 0).trans rfl
                have hfs29 := blk_frozen BK137.out 0
                have hns29_0 := NB135_137.out
                have hns29_2 := NB139_137.out
                have hms29_0 := NB137_135.out
                have hms29_2 := NB137_139.out
                have hs30 : w28.cell? ⟨gb137, 1, none⟩ = some (.int .i64 x138001_1) := (blk_cell BK137.out 1).trans rfl
                have hfs30 := blk_frozen BK137.out 1
                have hns30_0 := NB135_137.out
                have hns30_2 := NB139_137.out
                have hms30_0 := NB137_135.out
                have hms30_2 := NB137_139.out
                have hs31 : w28.cell? ⟨gb137, 2, none⟩ = some (.int .i64 x138002_1) := (blk_cell BK137.out 2).trans rfl
                have hfs31 := blk_frozen BK137.out 2
                have hns31_0 := NB135_137.out
                have hns31_2 := NB139_137.out
                have hms31_0 := NB137_135.out
                have hms31_2 := NB137_139.out
                have hs32 : w28.cell? ⟨gb137, 3, none⟩ = some (.int .i64 x138003_1) := (blk_cell BK137.out 3).trans rfl
                have hfs32 := blk_frozen BK137.out 3
                have hns32_0 := NB135_137.out
                have hns32_2 := NB139_137.out
                have hms32_0 := NB137_135.out
                have hms32_2 := NB137_139.out
                have hs33 : w28.cell? ⟨gb137, 4, none⟩ = some (.int .i64 x138004_1) := (blk_cell BK137.out 4).trans rfl
                have hfs33 := blk_frozen BK137.out 4
                have hns33_0 := NB135_137.out
                have hns33_2 := NB139_137.out
                have hms33_0 := NB137_135.out
                have hms33_2 := NB137_139.out
                have hs34 : w28.cell? ⟨gb137, 5, none⟩ = some (.int .u64 x138005_1) := (blk_cell BK137.out 5).trans rfl
                have hfs34 := blk_frozen BK137.out 5
                have hns34_0 := NB135_137.out
                have hns34_2 := NB139_137.out
                have hms34_0 := NB137_135.out
                have hms34_2 := NB137_139.out
                have hs35 : w28.cell? ⟨gb137, 6, none⟩ = some (.int .u64 x138006_1) := (blk_cell BK137.out 6).trans rfl
                have hfs35 := blk_frozen BK137.out 6
                have hns35_0 := NB135_137.out
                have hns35_2 := NB139_137.out
                have hms35_0 := NB137_135.out
                have hms35_2 := NB137_139.out
                have hs36 : w28.cell? ⟨gb137, 7, none⟩ = some (.int .u64 x138007_1) := (blk_cell BK137.out 7).trans rfl
                have hfs36 := blk_frozen BK137.out 7
                have hns36_0 := NB135_137.out
                have hns36_2 := NB139_137.out
                have hms36_0 := NB137_135.out
                have hms36_2 := NB137_139.out
                refine skip_ (w1 := ?_) (by rfl) rfl ?_ ?_
                rotate_left
                · go_simp
                  rfl
                refine hK.out _ _ ?_
                clear hK K
                refine done_ (done_of HT_.out (by kernel_rfl)) ?_
                try go_wp2
                go_roundg k1
                case measure => have := HK1.out; omega
                case rel => exact ⟨(wrap64 (x5_1 + 1)), (x136000_1), (x136001_1), (x136002_1), (x136003_1), (x136004_1), (x136005_1), (x136006_1), (x136007_1), (x138000_1), (t140), (t141), (t142), (t143), (t144), (t145), (t146), (by first | rfl | (simp; done) | (simp [*]; done)), H', ⟨by have := HK1.out; omega⟩, ⟨by (with_reducible repeat (first | refine blk_drewN ?_ _ | refine blk_drew ?_ | refine blk_alloc ?_ _)); refine blk_far ?_ NB135_137.out _; (with_reducible repeat (first | refine blk_drewN ?_ _ | refine blk_drew ?_ | refine blk_alloc ?_ _)); refine blk_far ?_ NB135_137.out _; (with_reducible repeat (first | refine blk_drewN ?_ _ | refine blk_drew ?_ | refine blk_alloc ?_ _)); refine blk_far ?_ NB135_137.out _; (with_reducible repeat (first | refine blk_drewN ?_ _ | refine blk_drew ?_ | refine blk_alloc ?_ _)); refine blk_far ?_ NB135_137.out _; (with_reducible repeat (first | refine blk_drewN ?_ _ | refine blk_drew ?_ | refine blk_alloc ?_ _)); refine blk_far ?_ NB135_137.out _; (with_reducible repeat (first | refine blk_drewN ?_ _ | refine blk_drew ?_ | refine blk_alloc ?_ _)); refine blk_far ?_ NB135_137.out _; (with_reducible repeat (first | refine blk_drewN ?_ _ | refine blk_drew ?_ | refine blk_alloc ?_ _)); refine blk_far ?_ NB135_137.out _; (with_reducible repeat (first | refine blk_drewN ?_ _ | refine blk_drew ?_ | refine blk_alloc ?_ _)); refine blk_far ?_ NB135_137.out _; (with_reducible repeat (first | refine blk_drewN ?_ _ | refine blk_drew ?_ | refine blk_alloc ?_ _)); exact BK135.out⟩, ⟨by (with_reducible repeat (first | refine blk_drewN ?_ _ | refine blk_drew ?_ | refine blk_alloc ?_ _)); refine blk_put (cs := #[.int .i64 x138000_1, .int .i64 t140, .int .i64 t141, .int .i64 t142, .int .i64 t143, .int .u64 t144, .int .u64 t145, .int .u64 x138007_1]) ?_ 7 _ rfl; (with_reducible repeat (first | refine blk_drewN ?_ _ | refine blk_drew ?_ | refine blk_alloc ?_ _)); refine blk_put (cs := #[.int .i64 x138000_1, .int .i64 t140, .int .i64 t141, .int .i64 t142, .int .i64 t143, .int .u64 t144, .int .u64 x138006_1, .int .u64 x138007_1]) ?_ 6 _ rfl; (with_reducible repeat (first | refine blk_drewN ?_ _ | refine blk_drew ?_ | refine blk_alloc ?_ _)); refine blk_put (cs := #[.int .i64 x138000_1, .int .i64 t140, .int .i64 t141, .int .i64 t142, .int .i64 t143, .int .u64 x138005_1, .int .u64 x138006_1, .int .u64 x138007_1]) ?_ 5 _ rfl; (with_reducible repeat (first | refine blk_drewN ?_ _ | refine blk_drew ?_ | refine blk_alloc ?_ _)); refine blk_put (cs := #[.int .i64 x138000_1, .int .i64 t140, .int .i64 t141, .int .i64 t142, .int .i64 x138004_1, .int .u64 x138005_1, .int .u64 x138006_1, .int .u64 x138007_1]) ?_ 4 _ rfl; (with_reducible repeat (first | refine blk_drewN ?_ _ | refine blk_drew ?_ | refine blk_alloc ?_ _)); refine blk_put (cs := #[.int .i64 x138000_1, .int .i64 t140, .int .i64 t141, .int .i64 x138003_1, .int .i64 x138004_1, .int .u64 x138005_1, .int .u64 x138006_1, .int .u64 x138007_1]) ?_ 3 _ rfl; (with_reducible repeat (first | refine blk_drewN ?_ _ | refine blk_drew ?_ | refine blk_alloc ?_ _)); refine blk_put (cs := #[.int .i64 x138000_1, .int .i64 t140, .int .i64 x138002_1, .int .i64 x138003_1, .int .i64 x138004_1, .int .u64 x138005_1, .int .u64 x138006_1, .int .u64 x138007_1]) ?_ 2 _ rfl; (with_reducible repeat (first | refine blk_drewN ?_ _ | refine blk_drew ?_ | refine blk_alloc ?_ _)); refine blk_put (cs := #[.int .i64 x138000_1, .int .i64 x138001_1, .int .i64 x138002_1, .int .i64 x138003_1, .int .i64 x138004_1, .int .u64 x138005_1, .int .u64 x138006_1, .int .u64 x138007_1]) ?_ 1 _ rfl; (with_reducible repeat (first | refine blk_drewN ?_ _ | refine blk_drew ?_ | refine blk_alloc ?_ _)); refine blk_put (cs := #[.int .i64 x138000_1, .int .i64 x138001_1, .int .i64 x138002_1, .int .i64 x138003_1, .int .i64 x138004_1, .int .u64 x138005_1, .int .u64 x138006_1, .int .u64 x138007_1]) ?_ 0 _ rfl; (with_reducible repeat (first | refine blk_drewN ?_ _ | refine blk_drew ?_ | refine blk_alloc ?_ _)); exact BK137.out⟩, ⟨by repeat (first | (with_reducible first | exact HB.out | apply below_alloc | apply pw_below_drewN | apply below_drew1 | refine below_set ?_ GE135.out | refine below_set ?_ GE137.out | refine below_set ?_ GE139.out) | exact HB.out)⟩⟩
              · rw [if_neg c12] at H
                have c12b0 : (((rd_T24 l0 x5_1).f0) == x138000_1) = false := beq_eq_false_iff_ne.mpr c12
                have c12b1 : (((rd_T24 l0 x5_1).f0) != x138000_1) = true := bne_iff_ne.mpr c12
                simp only [Option.some.injEq, Prod.mk.injEq] at H
                obtain ⟨rfl, rfl, rfl, rfl, rfl, rfl, rfl, rfl, rfl⟩ := H
                have p138 : 0 ≤ (x5_1 : Int) := of_decide_eq_true (by first | (with_reducible assumption) | assumption)
                have q138 : x5_1 < (l0.length : Int) := of_decide_eq_true (by first | (with_reducible assumption) | assumption)
                obtain ⟨ad138, e138, hx138_0, hx138_1, hx138_2, hx138_3, hx138_4, hx138_5, hx138_6, hx138_7⟩ := at_T24 HR0.out x5_1 p138 q138
                obtain rfl : ad136 = ad138 := (by injection e138)
                replace hx138_0 := (HB.out.cell (World.block_lt_of_cell? w _ hx138_0)).trans hx138_0
                replace hx138_1 := (HB.out.cell (World.block_lt_of_cell? w _ hx138_1)).trans hx138_1
                replace hx138_2 := (HB.out.cell (World.block_lt_of_cell? w _ hx138_2)).trans hx138_2
                replace hx138_3 := (HB.out.cell (World.block_lt_of_cell? w _ hx138_3)).trans hx138_3
                replace hx138_4 := (HB.out.cell (World.block_lt_of_cell? w _ hx138_4)).trans hx138_4
                replace hx138_5 := (HB.out.cell (World.block_lt_of_cell? w _ hx138_5)).trans hx138_5
                replace hx138_6 := (HB.out.cell (World.block_lt_of_cell? w _ hx138_6)).trans hx138_6
                replace hx138_7 := (HB.out.cell (World.block_lt_of_cell? w _ hx138_7)).trans hx138_7
                replace p138 := eq_true p138
                replace q138 := eq_true q138
                go_wp2_with (first | ((with_reducible refine gate_dst (N := 6) rfl ?_); refine box_event ?hg (N := 6) ?hd (cs := #[.int .i64 0, .int .i64 0, .int .i64 0, .int .i64 0, .int .i64 0, .int .u64 0, .int .u64 0, .int .u64 0]) (t := 24) ?hr ?_; (case hd => rfl); (case hg => rfl); (case hr => first | (go_simp; done) | (go_simp; rfl)); intro gb139 hg w37 hbox hb; have n0_ := Aside0.mk (blk_below (g := gb135) (o := .cells #[.int .i64 x136000_1, .int .i64 x136001_1, .int .i64 x136002_1, .int .i64 x136003_1, .int .i64 x136004_1, .int .u64 x136005_1, .int .u64 x136006_1, .int .u64 x136007_1] 24 (0, 0)) (by (with_reducible repeat (first | refine blk_drewN ?_ _ | refine blk_drew ?_ | refine blk_alloc ?_ _)); exact BK135.out) hb); have n1_ := Aside0.mk (blk_below (g := gb137) (o := .cells #[.int .i64 x138000_1, .int .i64 x138001_1, .int .i64 x138002_1, .int .i64 x138003_1, .int .i64 x138004_1, .int .u64 x138005_1, .int .u64 x138006_1, .int .u64 x138007_1] 24 (0, 0)) (by (with_reducible repeat (first | refine blk_drewN ?_ _ | refine blk_drew ?_ | refine blk_alloc ?_ _)); exact BK137.out) hb); have n2_ := Aside0.mk (below_step (by repeat (first | (with_reducible first | exact HB.out | apply below_alloc | apply pw_below_drewN | apply below_drew1 | refine below_set ?_ GE135.out | refine below_set ?_ GE137.out) | exact HB.out)) hb); have n3_ := Aside0.mk (hbox); have n4_ := Aside0.mk ((by rw [hg]; exact (below_size (by repeat (first | (with_reducible first | exact HB.out | apply below_alloc | apply pw_below_drewN | apply below_drew1 | refine below_set ?_ GE135.out | refine below_set ?_ GE137.out) | exact HB.out))) : w.heap.size ≤ gb139)); have n5_ := Aside0.mk ((by rw [hg]; exact (below_size (by repeat (first | (with_reducible first | exact HB.out | apply below_alloc | apply pw_below_drewN | apply below_drew1 | refine below_set ?_ GE135.out | refine below_set ?_ GE137.out) | exact HB.out))) : w.heap.size ≤ gb139)); have n6_ := Aside0.mk ((by rw [hg]; exact Nat.ne_of_lt (blk_lt (g := gb135) (o := .cells #[.int .i64 x136000_1, .int .i64 x136001_1, .int .i64 x136002_1, .int .i64 x136003_1, .int .i64 x136004_1, .int .u64 x136005_1, .int .u64 x136006_1, .int .u64 x136007_1] 24 (0, 0)) (by (with_reducible repeat (first | refine blk_drewN ?_ _ | refine blk_drew ?_ | refine blk_alloc ?_ _)); exact BK135.out)) : gb135 ≠ gb139)); have n7_ := Aside0.mk ((by rw [hg]; exact Nat.ne_of_gt (blk_lt (g := gb135) (o := .cells #[.int .i64 x136000_1, .int .i64 x136001_1, .int .i64 x136002_1, .int .i64 x136003_1, .int .i64 x136004_1, .int .u64 x136005_1, .int .u64 x136006_1, .int .u64 x136007_1] 24 (0, 0)) (by (with_reducible repeat (first | refine blk_drewN ?_ _ | refine blk_drew ?_ | refine blk_alloc ?_ _)); exact BK135.out)) : gb139 ≠ gb135)); have n8_ := Aside0.mk ((by rw [hg]; exact Nat.ne_of_lt (blk_lt (g := gb137) (o := .cells #[.int .i64 x138000_1, .int .i64 x138001_1, .int .i64 x138002_1, .int .i64 x138003_1, .int .i64 x138004_1, .int .u64 x138005_1, .int .u64 x138006_1, .int .u64 x138007_1] 24 (0, 0)) (by (with_reducible repeat (first | refine blk_drewN ?_ _ | refine blk_drew ?_ | refine blk_alloc ?_ _)); exact BK137.out)) : gb137 ≠ gb139)); have n9_ := Aside0.mk ((by rw [hg]; exact Nat.ne_of_gt (blk_lt (g := gb137) (o := .cells #[.int .i64 x138000_1, .int .i64 x138001_1, .int .i64 x138002_1, .int .i64 x138003_1, .int .i64 x138004_1, .int .u64 x138005_1, .int .u64 x138006_1, .int .u64 x138007_1] 24 (0, 0)) (by (with_reducible repeat (first | refine blk_drewN ?_ _ | refine blk_drew ?_ | refine blk_alloc ?_ _)); exact BK137.out)) : gb139 ≠ gb137)); clear BK135; clear BK137; clear HB; have BK135 := n0_; have BK137 := n1_; have HB := n2_; have BK139 := n3_; have GW139 := n4_; have GE139 := n5_; have NB135_139 := n6_; have NB139_135 := n7_; have NB137_139 := n8_; have NB139_137 := n9_; clear n0_ n1_ n2_ n3_ n4_ n5_ n6_ n7_ n8_ n9_; clear hb hbox hg; have hnb38 := NB139_135.out; have hnc38 := NB135_139.out; have hnb39 := NB139_137.out; have hnc39 := NB137_139.out; have hcz40_0 : w37.cell? ⟨gb139, 0, none⟩ = some (.int .i64 0) := (blk_cell BK139.out 0).trans rfl; have hcz40_1 : w37.cell? ⟨gb139, 1, none⟩ = some (.int .i64 0) := (blk_cell BK139.out 1).trans rfl; have hcz40_2 : w37.cell? ⟨gb139, 2, none⟩ = some (.int .i64 0) := (blk_cell BK139.out 2).trans rfl; have hcz40_3 : w37.cell? ⟨gb139, 3, none⟩ = some (.int .i64 0) := (blk_cell BK139.out 3).trans rfl; have hcz40_4 : w37.cell? ⟨gb139, 4, none⟩ = some (.int .i64 0) := (blk_cell BK139.out 4).trans rfl; have hcz40_5 : w37.cell? ⟨gb139, 5, none⟩ = some (.int .u64 0) := (blk_cell BK139.out 5).trans rfl; have hcz40_6 : w37.cell? ⟨gb139, 6, none⟩ = some (.int .u64 0) := (blk_cell BK139.out 6).trans rfl; have hcz40_7 : w37.cell? ⟨gb139, 7, none⟩ = some (.int .u64 0) := (blk_cell BK139.out 7).trans rfl; have hfz40_0 := blk_frozen BK139.out 0; have hfz40_1 := blk_frozen BK139.out 1; have hfz40_2 := blk_frozen BK139.out 2; have hfz40_3 := blk_frozen BK139.out 3; have hfz40_4 := blk_frozen BK139.out 4; have hfz40_5 := blk_frozen BK139.out 5; have hfz40_6 := blk_frozen BK139.out 6; have hfz40_7 := blk_frozen BK139.out 7; have hnb41 := NB137_135.out; have hnc41 := NB135_137.out; have hcz42_0 : w37.cell? ⟨gb137, 0, none⟩ = some (.int .i64 x138000_1) := (blk_cell BK137.out 0).trans rfl; have hcz42_1 : w37.cell? ⟨gb137, 1, none⟩ = some (.int .i64 x138001_1) := (blk_cell BK137.out 1).trans rfl; have hcz42_2 : w37.cell? ⟨gb137, 2, none⟩ = some (.int .i64 x138002_1) := (blk_cell BK137.out 2).trans rfl; have hcz42_3 : w37.cell? ⟨gb137, 3, none⟩ = some (.int .i64 x138003_1) := (blk_cell BK137.out 3).trans rfl; have hcz42_4 : w37.cell? ⟨gb137, 4, none⟩ = some (.int .i64 x138004_1) := (blk_cell BK137.out 4).trans rfl; have hcz42_5 : w37.cell? ⟨gb137, 5, none⟩ = some (.int .u64 x138005_1) := (blk_cell BK137.out 5).trans rfl; have hcz42_6 : w37.cell? ⟨gb137, 6, none⟩ = some (.int .u64 x138006_1) := (blk_cell BK137.out 6).trans rfl; have hcz42_7 : w37.cell? ⟨gb137, 7, none⟩ = some (.int .u64 x138007_1) := (blk_cell BK137.out 7).trans rfl; have hfz42_0 := blk_frozen BK137.out 0; have hfz42_1 := blk_frozen BK137.out 1; have hfz42_2 := blk_frozen BK137.out 2; have hfz42_3 := blk_frozen BK137.out 3; have hfz42_4 := blk_frozen BK137.out 4; have hfz42_5 := blk_frozen BK137.out 5; have hfz42_6 := blk_frozen BK137.out 6; have hfz42_7 := blk_frozen BK137.out 7; have hcz43_0 : w37.cell? ⟨gb135, 0, none⟩ = some (.int .i64 x136000_1) := (blk_cell BK135.out 0).trans rfl; have hcz43_1 : w37.cell? ⟨gb135, 1, none⟩ = some (.int .i64 x136001_1) := (blk_cell BK135.out 1).trans rfl; have hcz43_2 : w37.cell? ⟨gb135, 2, none⟩ = some (.int .i64 x136002_1) := (blk_cell BK135.out 2).trans rfl; have hcz43_3 : w37.cell? ⟨gb135, 3, none⟩ = some (.int .i64 x136003_1) := (blk_cell BK135.out 3).trans rfl; have hcz43_4 : w37.cell? ⟨gb135, 4, none⟩ = some (.int .i64 x136004_1) := (blk_cell BK135.out 4).trans rfl; have hcz43_5 : w37.cell? ⟨gb135, 5, none⟩ = some (.int .u64 x136005_1) := (blk_cell BK135.out 5).trans rfl; have hcz43_6 : w37.cell? ⟨gb135, 6, none⟩ = some (.int .u64 x136006_1) := (blk_cell BK135.out 6).trans rfl; have hcz43_7 : w37.cell? ⟨gb135, 7, none⟩ = some (.int .u64 x136007_1) := (blk_cell BK135.out 7).trans rfl; have hfz43_0 := blk_frozen BK135.out 0; have hfz43_1 := blk_frozen BK135.out 1; have hfz43_2 := blk_frozen BK135.out 2; have hfz43_3 := blk_frozen BK135.out 3; have hfz43_4 := blk_frozen BK135.out 4; have hfz43_5 := blk_frozen BK135.out 5; have hfz43_6 := blk_frozen BK135.out 6; have hfz43_7 := blk_frozen BK135.out 7))
                refine bodyPost_ret (results_ct rfl _ _ gb135 24 #[.int .i64 0, .int .i64 0, .int .i64 0, .int .i64 0, .int .i64 0, .int .u64 0, .int .u64 0, .int .u64 0] (0, 0) _ rfl (by (with_reducible repeat (first | refine blk_drewN ?_ _ | refine blk_drew ?_ | refine blk_alloc ?_ _)); refine blk_put (cs := #[.int .i64 0, .int .i64 0, .int .i64 0, .int .i64 0, .int .i64 0, .int .u64 0, .int .u64 0, .int .u64 x136007_1]) ?_ 7 _ rfl; (with_reducible repeat (first | refine blk_drewN ?_ _ | refine blk_drew ?_ | refine blk_alloc ?_ _)); refine blk_put (cs := #[.int .i64 0, .int .i64 0, .int .i64 0, .int .i64 0, .int .i64 0, .int .u64 0, .int .u64 x136006_1, .int .u64 x136007_1]) ?_ 6 _ rfl; (with_reducible repeat (first | refine blk_drewN ?_ _ | refine blk_drew ?_ | refine blk_alloc ?_ _)); refine blk_put (cs := #[.int .i64 0, .int .i64 0, .int .i64 0, .int .i64 0, .int .i64 0, .int .u64 x136005_1, .int .u64 x136006_1, .int .u64 x136007_1]) ?_ 5 _ rfl; (with_reducible repeat (first | refine blk_drewN ?_ _ | refine blk_drew ?_ | refine blk_alloc ?_ _)); refine blk_put (cs := #[.int .i64 0, .int .i64 0, .int .i64 0, .int .i64 0, .int .i64 x136004_1, .int .u64 x136005_1, .int .u64 x136006_1, .int .u64 x136007_1]) ?_ 4 _ rfl; (with_reducible repeat (first | refine blk_drewN ?_ _ | refine blk_drew ?_ | refine blk_alloc ?_ _)); refine blk_put (cs := #[.int .i64 0, .int .i64 0, .int .i64 0, .int .i64 x136003_1, .int .i64 x136004_1, .int .u64 x136005_1, .int .u64 x136006_1, .int .u64 x136007_1]) ?_ 3 _ rfl; (with_reducible repeat (first | refine blk_drewN ?_ _ | refine blk_drew ?_ | refine blk_alloc ?_ _)); refine blk_put (cs := #[.int .i64 0, .int .i64 0, .int .i64 x136002_1, .int .i64 x136003_1, .int .i64 x136004_1, .int .u64 x136005_1, .int .u64 x136006_1, .int .u64 x136007_1]) ?_ 2 _ rfl; (with_reducible repeat (first | refine blk_drewN ?_ _ | refine blk_drew ?_ | refine blk_alloc ?_ _)); refine blk_put (cs := #[.int .i64 0, .int .i64 x136001_1, .int .i64 x136002_1, .int .i64 x136003_1, .int .i64 x136004_1, .int .u64 x136005_1, .int .u64 x136006_1, .int .u64 x136007_1]) ?_ 1 _ rfl; (with_reducible repeat (first | refine blk_drewN ?_ _ | refine blk_drew ?_ | refine blk_alloc ?_ _)); refine blk_put (cs := #[.int .i64 x136000_1, .int .i64 x136001_1, .int .i64 x136002_1, .int .i64 x136003_1, .int .i64 x136004_1, .int .u64 x136005_1, .int .u64 x136006_1, .int .u64 x136007_1]) ?_ 0 _ rfl; (with_reducible repeat (first | refine blk_drewN ?_ _ | refine blk_drew ?_ | refine blk_alloc ?_ _)); refine blk_far ?_ NB135_139.out _; (with_reducible repeat (first | refine blk_drewN ?_ _ | refine blk_drew ?_ | refine blk_alloc ?_ _)); refine blk_far ?_ NB135_139.out _; (with_reducible repeat (first | refine blk_drewN ?_ _ | refine blk_drew ?_ | refine blk_alloc ?_ _)); refine blk_far ?_ NB135_139.out _; (with_reducible repeat (first | refine blk_drewN ?_ _ | refine blk_drew ?_ | refine blk_alloc ?_ _)); refine blk_far ?_ NB135_139.out _; (with_reducible repeat (first | refine blk_drewN ?_ _ | refine blk_drew ?_ | refine blk_alloc ?_ _)); refine blk_far ?_ NB135_139.out _; (with_reducible repeat (first | refine blk_drewN ?_ _ | refine blk_drew ?_ | refine blk_alloc ?_ _)); refine blk_far ?_ NB135_139.out _; (with_reducible repeat (first | refine blk_drewN ?_ _ | refine blk_drew ?_ | refine blk_alloc ?_ _)); refine blk_far ?_ NB135_139.out _; (with_reducible repeat (first | refine blk_drewN ?_ _ | refine blk_drew ?_ | refine blk_alloc ?_ _)); refine blk_far ?_ NB135_139.out _; (with_reducible repeat (first | refine blk_drewN ?_ _ | refine blk_drew ?_ | refine blk_alloc ?_ _)); exact BK135.out) Try.underlying24 rfl (by kernel_rfl)) rfl ?_
                exact ⟨by first | rfl | (simp [errW_none, errW_some] <;> rfl) | (simp [*, errW_none, errW_some] <;> rfl), by repeat (first | (with_reducible first | exact HB.out | apply below_alloc | apply pw_below_drewN | apply below_drew1 | refine below_set ?_ GE135.out | refine below_set ?_ GE137.out | refine below_set ?_ GE139.out) | exact HB.out)⟩
            · rw [if_neg c11] at H
              exact absurd H (by simp)
          · rw [if_neg c10] at H
            have c10b0 : decide (x5_1 < (l0.length : Int)) = false := decide_eq_false c10
            clear c10
            simp only [Option.some.injEq, Prod.mk.injEq] at H
            obtain ⟨rfl, rfl, rfl, rfl, rfl, rfl, rfl, rfl, rfl⟩ := H
            have hnb44 := NB137_135.out
            have hnc44 := NB135_137.out
            have hcz45_0 : wr.cell? ⟨gb137, 0, none⟩ = some (.int .i64 x138000_1) := (blk_cell BK137.out 0).trans rfl
            have hcz45_1 : wr.cell? ⟨gb137, 1, none⟩ = some (.int .i64 x138001_1) := (blk_cell BK137.out 1).trans rfl
            have hcz45_2 : wr.cell? ⟨gb137, 2, none⟩ = some (.int .i64 x138002_1) := (blk_cell BK137.out 2).trans rfl
            have hcz45_3 : wr.cell? ⟨gb137, 3, none⟩ = some (.int .i64 x138003_1) := (blk_cell BK137.out 3).trans rfl
            have hcz45_4 : wr.cell? ⟨gb137, 4, none⟩ = some (.int .i64 x138004_1) := (blk_cell BK137.out 4).trans rfl
            have hcz45_5 : wr.cell? ⟨gb137, 5, none⟩ = some (.int .u64 x138005_1) := (blk_cell BK137.out 5).trans rfl
            have hcz45_6 : wr.cell? ⟨gb137, 6, none⟩ = some (.int .u64 x138006_1) := (blk_cell BK137.out 6).trans rfl
            have hcz45_7 : wr.cell? ⟨gb137, 7, none⟩ = some (.int .u64 x138007_1) := (blk_cell BK137.out 7).trans rfl
            have hfz45_0 := blk_frozen BK137.out 0
            have hfz45_1 := blk_frozen BK137.out 1
            have hfz45_2 := blk_frozen BK137.out 2
            have hfz45_3 := blk_frozen BK137.out 3
            have hfz45_4 := blk_frozen BK137.out 4
            have hfz45_5 := blk_frozen BK137.out 5
            have hfz45_6 := blk_frozen BK137.out 6
            have hfz45_7 := blk_frozen BK137.out 7
            have hcz46_0 : wr.cell? ⟨gb135, 0, none⟩ = some (.int .i64 x136000_1) := (blk_cell BK135.out 0).trans rfl
            have hcz46_1 : wr.cell? ⟨gb135, 1, none⟩ = some (.int .i64 x136001_1) := (blk_cell BK135.out 1).trans rfl
            have hcz46_2 : wr.cell? ⟨gb135, 2, none⟩ = some (.int .i64 x136002_1) := (blk_cell BK135.out 2).trans rfl
            have hcz46_3 : wr.cell? ⟨gb135, 3, none⟩ = some (.int .i64 x136003_1) := (blk_cell BK135.out 3).trans rfl
            have hcz46_4 : wr.cell? ⟨gb135, 4, none⟩ = some (.int .i64 x136004_1) := (blk_cell BK135.out 4).trans rfl
            have hcz46_5 : wr.cell? ⟨gb135, 5, none⟩ = some (.int .u64 x136005_1) := (blk_cell BK135.out 5).trans rfl
            have hcz46_6 : wr.cell? ⟨gb135, 6, none⟩ = some (.int .u64 x136006_1) := (blk_cell BK135.out 6).trans rfl
            have hcz46_7 : wr.cell? ⟨gb135, 7, none⟩ = some (.int .u64 x136007_1) := (blk_cell BK135.out 7).trans rfl
            have hfz46_0 := blk_frozen BK135.out 0
            have hfz46_1 := blk_frozen BK135.out 1
            have hfz46_2 := blk_frozen BK135.out 2
            have hfz46_3 := blk_frozen BK135.out 3
            have hfz46_4 := blk_frozen BK135.out 4
            have hfz46_5 := blk_frozen BK135.out 5
            have hfz46_6 := blk_frozen BK135.out 6
            have hfz46_7 := blk_frozen BK135.out 7
            go_wp2
            refine bodyPost_ret (results_ct rfl _ _ gb135 24 #[.int .i64 x138000_1, .int .i64 x138001_1, .int .i64 x138002_1, .int .i64 x138003_1, .int .i64 x138004_1, .int .u64 x138005_1, .int .u64 x138006_1, .int .u64 x138007_1] (0, 0) _ rfl (by (with_reducible repeat (first | refine blk_drewN ?_ _ | refine blk_drew ?_ | refine blk_alloc ?_ _)); refine blk_put (cs := #[.int .i64 x138000_1, .int .i64 x138001_1, .int .i64 x138002_1, .int .i64 x138003_1, .int .i64 x138004_1, .int .u64 x138005_1, .int .u64 x138006_1, .int .u64 x136007_1]) ?_ 7 _ rfl; (with_reducible repeat (first | refine blk_drewN ?_ _ | refine blk_drew ?_ | refine blk_alloc ?_ _)); refine blk_put (cs := #[.int .i64 x138000_1, .int .i64 x138001_1, .int .i64 x138002_1, .int .i64 x138003_1, .int .i64 x138004_1, .int .u64 x138005_1, .int .u64 x136006_1, .int .u64 x136007_1]) ?_ 6 _ rfl; (with_reducible repeat (first | refine blk_drewN ?_ _ | refine blk_drew ?_ | refine blk_alloc ?_ _)); refine blk_put (cs := #[.int .i64 x138000_1, .int .i64 x138001_1, .int .i64 x138002_1, .int .i64 x138003_1, .int .i64 x138004_1, .int .u64 x136005_1, .int .u64 x136006_1, .int .u64 x136007_1]) ?_ 5 _ rfl; (with_reducible repeat (first | refine blk_drewN ?_ _ | refine blk_drew ?_ | refine blk_alloc ?_ _)); refine blk_put (cs := #[.int .i64 x138000_1, .int .i64 x138001_1, .int .i64 x138002_1, .int .i64 x138003_1, .int .i64 x136004_1, .int .u64 x136005_1, .int .u64 x136006_1, .int .u64 x136007_1]) ?_ 4 _ rfl; (with_reducible repeat (first | refine blk_drewN ?_ _ | refine blk_drew ?_ | refine blk_alloc ?_ _)); refine blk_put (cs := #[.int .i64 x138000_1, .int .i64 x138001_1, .int .i64 x138002_1, .int .i64 x136003_1, .int .i64 x136004_1, .int .u64 x136005_1, .int .u64 x136006_1, .int .u64 x136007_1]) ?_ 3 _ rfl; (with_reducible repeat (first | refine blk_drewN ?_ _ | refine blk_drew ?_ | refine blk_alloc ?_ _)); refine blk_put (cs := #[.int .i64 x138000_1, .int .i64 x138001_1, .int .i64 x136002_1, .int .i64 x136003_1, .int .i64 x136004_1, .int .u64 x136005_1, .int .u64 x136006_1, .int .u64 x136007_1]) ?_ 2 _ rfl; (with_reducible repeat (first | refine blk_drewN ?_ _ | refine blk_drew ?_ | refine blk_alloc ?_ _)); refine blk_put (cs := #[.int .i64 x138000_1, .int .i64 x136001_1, .int .i64 x136002_1, .int .i64 x136003_1, .int .i64 x136004_1, .int .u64 x136005_1, .int .u64 x136006_1, .int .u64 x136007_1]) ?_ 1 _ rfl; (with_reducible repeat (first | refine blk_drewN ?_ _ | refine blk_drew ?_ | refine blk_alloc ?_ _)); refine blk_put (cs := #[.int .i64 x136000_1, .int .i64 x136001_1, .int .i64 x136002_1, .int .i64 x136003_1, .int .i64 x136004_1, .int .u64 x136005_1, .int .u64 x136006_1, .int .u64 x136007_1]) ?_ 0 _ rfl; (with_reducible repeat (first | refine blk_drewN ?_ _ | refine blk_drew ?_ | refine blk_alloc ?_ _)); exact BK135.out) Try.underlying24 rfl (by kernel_rfl)) rfl ?_
            exact ⟨by first | rfl | (simp [errW_none, errW_some] <;> rfl) | (simp [*, errW_none, errW_some] <;> rfl), by repeat (first | (with_reducible first | exact HB.out | apply below_alloc | apply pw_below_drewN | apply below_drew1 | refine below_set ?_ GE135.out | refine below_set ?_ GE137.out) | exact HB.out)⟩
    · rw [if_neg c5] at H
      exact absurd H (by simp)

end Go.Proofs.Ytkcdpnigcbcalaa.PA
