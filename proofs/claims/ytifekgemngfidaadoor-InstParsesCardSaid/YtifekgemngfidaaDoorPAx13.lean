-- Printed for this claim by wip/tools/xprint.py over the kit's print; the contracts marked BY HAND are this session's own.
import Derived.Test.YtifekgemngfidaaDoorPAx0
import Derived.Test.YtifekgemngfidaaDoorPAx9
import Derived.Test.YtifekgemngfidaaDoorPAx12
namespace Go.Proofs.YtifekgemngfidaaDoor.PA
open Go.RowKit Go.Proofs.YtifekgemngfidaaDoorW.PrintWords Go.Proofs.YtifekgemngfidaaDoorW.PrintLast Go.Proofs.YtifekgemngfidaaDoorW.PrintMore
attribute [local go_sem] max2_int min2_int max_two min_two max_three min_three max_four min_four   -- for this text's walks alone
set_option linter.unusedVariables false
set_option linter.unusedSimpArgs false

/-! ### haulierref05_Parse: function 11 -/
mutual
def haulierref05_Parse.j0 : Nat → List (List Int) → Bool → Int → Int → Int → Option (Int × Int × Int × (List (S34)) × Int)
  | 0, _, _, _, _, _ => none
  | k + 1, x5, x29, x265000, x265001, x265002 => if x29 = true then (some (x265000, x265001, x265002, ([] : List (S34)), 2)) else (if 0 < (x5.length : Int) then (if 0 < ((rd_L3 x5 0).length : Int) then (if 1 < ((rd_L3 x5 0).length : Int) then (if 2 < ((rd_L3 x5 0).length : Int) then (haulierref05_Parse.l0 k x5 1 x265000 x265001 x265002 (rd (rd_L3 x5 0) 0) (rd (rd_L3 x5 0) 1) (rd (rd_L3 x5 0) 2) ([] : List (S34))) else (none)) else (none)) else (none)) else (none))
def haulierref05_Parse.l0 : Nat → List (List Int) → Int → Int → Int → Int → Int → Int → Int → List (S34) → Option (Int × Int × Int × (List (S34)) × Int)
  | 0, _, _, _, _, _, _, _, _, _ => none
  | k + 1, x5, x8, x265000, x265001, x265002, x277000, x277001, x277002, x277003 => if x8 < (x5.length : Int) then (if 0 ≤ x8 then (if ((rd_L3 x5 x8).length : Int) = 6 then (if 0 < ((rd_L3 x5 x8).length : Int) then (if 1 < ((rd_L3 x5 x8).length : Int) then (if 2 < ((rd_L3 x5 x8).length : Int) then (if 3 < ((rd_L3 x5 x8).length : Int) then (if 4 < ((rd_L3 x5 x8).length : Int) then (if 5 < ((rd_L3 x5 x8).length : Int) then (if x277003.length < 2932031007402 then (haulierref05_Parse.l0 k x5 (wrap64 (x8 + 1)) x265000 x265001 x265002 x277000 x277001 x277002 (x277003 ++ [(⟨rd (rd_L3 x5 x8) 0, rd (rd_L3 x5 x8) 1, rd (rd_L3 x5 x8) 2, rd (rd_L3 x5 x8) 3, rd (rd_L3 x5 x8) 4, rd (rd_L3 x5 x8) 5⟩ : S34)])) else (none)) else (none)) else (none)) else (none)) else (none)) else (none)) else (none)) else (some (x265000, x265001, x265002, ([] : List (S34)), 2))) else (none)) else ((haulierref05_May.f k x277000 x277001 x277002 x277003).bind fun t293 => (if t293 = true then (some (x277000, x277001, x277002, x277003, 0)) else (some (x265000, x265001, x265002, ([] : List (S34)), 1))))
end
def haulierref05_Parse.f (k : Nat) (l0 : List Int) : Option (Int × Int × Int × (List (S34)) × Int) := (haulierref04_Lines.f k l0).bind fun bt265 => (if bt265.2 = 0 then (if (bt265.1.length : Int) = 0 then (haulierref05_Parse.j0 k bt265.1 true 0 0 0) else (if 0 < (bt265.1.length : Int) then (haulierref05_Parse.j0 k bt265.1 (((rd_L3 bt265.1 0).length : Int) != 3) 0 0 0) else (none))) else (some (0, 0, 0, ([] : List (S34)), bt265.2)))
theorem haulierref05_Parse.mono_l : ∀ k, (∀ y0 y1 y2 y3 y4, LeO (haulierref05_Parse.j0 k y0 y1 y2 y3 y4) (haulierref05_Parse.j0 (k + 1) y0 y1 y2 y3 y4)) ∧ (∀ y0 y1 y2 y3 y4 y5 y6 y7 y8, LeO (haulierref05_Parse.l0 k y0 y1 y2 y3 y4 y5 y6 y7 y8) (haulierref05_Parse.l0 (k + 1) y0 y1 y2 y3 y4 y5 y6 y7 y8))
  | 0 => ⟨fun _ _ _ _ _ r h => by simp [haulierref05_Parse.j0] at h, fun _ _ _ _ _ _ _ _ _ r h => by simp [haulierref05_Parse.l0] at h⟩
  | k + 1 => by
    obtain ⟨ih0, ih1⟩ := haulierref05_Parse.mono_l k
    refine ⟨?_, ?_⟩
    · intro y0 y1 y2 y3 y4
      unfold haulierref05_Parse.j0
      repeat' first
      | (with_reducible exact ih0 _ _ _ _ _)
      | (with_reducible exact ih1 _ _ _ _ _ _ _ _ _)
      | (with_reducible exact haulierref04_Lines.mono _ _)
      | (with_reducible exact haulierref05_May.mono _ _ _ _ _)
      | (with_reducible exact LeO.refl _)
      | (with_reducible exact LeO.none _)
      | (with_reducible refine LeO.ite ?_ ?_)
      | (with_reducible refine LeO.bind ?_ (fun _ => ?_))
      | exact ih0 _ _ _ _ _
      | exact ih1 _ _ _ _ _ _ _ _ _
      | exact haulierref04_Lines.mono _ _
      | exact haulierref05_May.mono _ _ _ _ _
      | exact LeO.none _
      | refine LeO.ite ?_ ?_
      | refine LeO.bind ?_ (fun _ => ?_)
    · intro y0 y1 y2 y3 y4 y5 y6 y7 y8
      unfold haulierref05_Parse.l0
      repeat' first
      | (with_reducible exact ih0 _ _ _ _ _)
      | (with_reducible exact ih1 _ _ _ _ _ _ _ _ _)
      | (with_reducible exact haulierref04_Lines.mono _ _)
      | (with_reducible exact haulierref05_May.mono _ _ _ _ _)
      | (with_reducible exact LeO.refl _)
      | (with_reducible exact LeO.none _)
      | (with_reducible refine LeO.ite ?_ ?_)
      | (with_reducible refine LeO.bind ?_ (fun _ => ?_))
      | exact ih0 _ _ _ _ _
      | exact ih1 _ _ _ _ _ _ _ _ _
      | exact haulierref04_Lines.mono _ _
      | exact haulierref05_May.mono _ _ _ _ _
      | exact LeO.none _
      | refine LeO.ite ?_ ?_
      | refine LeO.bind ?_ (fun _ => ?_)
theorem haulierref05_Parse.mono : ∀ a0 k, LeO (haulierref05_Parse.f k a0) (haulierref05_Parse.f (k + 1) a0) := by
  intro a0 k
  obtain ⟨ih0, ih1⟩ := haulierref05_Parse.mono_l k
  unfold haulierref05_Parse.f
  repeat' first
      | (with_reducible exact ih0 _ _ _ _ _)
      | (with_reducible exact ih1 _ _ _ _ _ _ _ _ _)
      | (with_reducible exact haulierref04_Lines.mono _ _)
      | (with_reducible exact haulierref05_May.mono _ _ _ _ _)
      | (with_reducible exact LeO.refl _)
      | (with_reducible exact LeO.none _)
      | (with_reducible refine LeO.ite ?_ ?_)
      | (with_reducible refine LeO.bind ?_ (fun _ => ?_))
      | exact ih0 _ _ _ _ _
      | exact ih1 _ _ _ _ _ _ _ _ _
      | exact haulierref04_Lines.mono _ _
      | exact haulierref05_May.mono _ _ _ _ _
      | exact LeO.none _
      | refine LeO.ite ?_ ?_
      | refine LeO.bind ?_ (fun _ => ?_)
def haulierref05_Parse.T7 : Bool × List (List Nat × List Nat) := (true, [([], []), ([0], [0]), ([1], [1]), ([2], [2]), ([3], [3]), ([], []), ([5], [5]), ([6], [6]), ([7], [7]), ([8], [8]), ([], []), ([10], [10]), ([11], [11]), ([12], [12]), ([13], [13]), ([4, 9, 14], [4, 9, 14]), ([], []), ([16, 15, 0, 1, 2, 3, 4, 5, 6, 7, 8, 9, 10, 11, 12, 13, 14, 15, 16], [15, 16])])
def haulierref05_Parse.B7 : List Nat := [0, 1, 3, 7, 15, 0, 32, 96, 224, 480, 0, 1024, 3072, 7168, 15360, 32767, 0, 131071]
theorem haulierref05_Parse.tab7 : rtab .any (opsOf Tryd.f11 7) = haulierref05_Parse.T7 := by kernel_rfl
theorem haulierref05_Parse.bits7 : waitsOk haulierref05_Parse.T7.2 haulierref05_Parse.B7 = true := by kernel_rfl
def haulierref05_Parse.T13 : Bool × List (List Nat × List Nat) := (true, [([], []), ([0], [0]), ([], []), ([], []), ([2, 3], [2, 3]), ([4], [4]), ([5], [5]), ([6], [6]), ([], []), ([], []), ([8, 9], [8, 9]), ([10], [10]), ([11], [11]), ([12], [12]), ([], []), ([], []), ([14, 15], [14, 15]), ([16], [16]), ([17], [17]), ([18], [18]), ([], []), ([], []), ([20, 21], [20, 21]), ([22], [22]), ([23], [23]), ([24], [24]), ([], []), ([], []), ([26, 27], [26, 27]), ([28], [28]), ([29], [29]), ([30], [30]), ([], []), ([], []), ([32, 33], [32, 33]), ([34], [34]), ([35], [35]), ([36], [36]), ([7, 13, 19, 25, 31, 37], [7, 13, 19, 25, 31, 37]), ([38], [38]), ([1, 39], [1, 39]), ([0, 1, 2, 3, 4, 5, 6, 7, 8, 9, 10, 11, 12, 13, 14, 15, 16, 17, 18, 19, 20, 21, 22, 23, 24, 25, 26, 27, 28, 29, 30, 31, 32, 33, 34, 35, 36, 37, 38, 39, 40], []), ([41, 40, 40, 0, 1, 2, 3, 4, 5, 6, 7, 8, 9, 10, 11, 12, 13, 14, 15, 16, 17, 18, 19, 20, 21, 22, 23, 24, 25, 26, 27, 28, 29, 30, 31, 32, 33, 34, 35, 36, 37, 38, 39, 40], [40, 41])])
def haulierref05_Parse.B13 : List Nat := [0, 1, 0, 0, 12, 28, 60, 124, 0, 0, 768, 1792, 3840, 7936, 0, 0, 49152, 114688, 245760, 507904, 0, 0, 3145728, 7340032, 15728640, 32505856, 0, 0, 201326592, 469762048, 1006632960, 2080374784, 0, 0, 12884901888, 30064771072, 64424509440, 133143986176, 274877906940, 549755813884, 1099511627775, 2199023255551, 4398046511103]
theorem haulierref05_Parse.tab13 : rtab .any (opsOf Tryd.f11 13) = haulierref05_Parse.T13 := by kernel_rfl
theorem haulierref05_Parse.bits13 : waitsOk haulierref05_Parse.T13.2 haulierref05_Parse.B13 = true := by kernel_rfl
set_option maxHeartbeats 8000000 in
set_option maxRecDepth 100000 in
theorem haulierref05_Parse.calls (k : Nat) (A0 : Option Addr) (c0 : Nat) (l0 : List Int) (r1 : Int) (r2 : Int) (r3 : Int) (r4 : List (S34)) (r5 : Int) (w : World) (hr0 : Kd.C (Kd.int .u8) w A0 l0.length l0) (hc0 : l0.length ≤ c0) (h : haulierref05_Parse.f k l0 = some (r1, r2, r3, r4, r5)) :
  Calls Tryd.prog 11 #[.slice A0 l0.length c0] w fun e w' => ∃ v3_ : Value, e = .returned (.tuple #[.agg #[.int .i64 r1, .int .i64 r2, .int .i64 r3, v3_], .int .i64 r5]) ∧ Kd.R k34 34 w' w.heap.size (fun _ => True) v3_ r4 ∧ Below w.heap.size w w' := by
 have hu26 := Tryd.underlying26
 have hu34 := Tryd.underlying34
 have HR0 := zqi hr0
 have HC0 := zqi hc0
 clear hr0 hc0
 have HB := zqi (Below.refl w.heap.size w)
 have H : ((haulierref04_Lines.f k l0).bind fun bt265 => (if bt265.2 = 0 then (if (bt265.1.length : Int) = 0 then (haulierref05_Parse.j0 k bt265.1 true 0 0 0) else (if 0 < (bt265.1.length : Int) then (haulierref05_Parse.j0 k bt265.1 (((rd_L3 bt265.1 0).length : Int) != 3) 0 0 0) else (none))) else (some (0, 0, 0, ([] : List (S34)), bt265.2)))) = some (r1, r2, r3, r4, r5) := h
 clear h
 replace H := Option.bind_eq_some_iff.mp H
 obtain ⟨⟨t265, t266⟩, A20, H⟩ := H
 replace H : (if t266 = 0 then (if (t265.length : Int) = 0 then (haulierref05_Parse.j0 k t265 true 0 0 0) else (if 0 < (t265.length : Int) then (haulierref05_Parse.j0 k t265 (((rd_L3 t265 0).length : Int) != 3) 0 0 0) else (none))) else (some (0, 0, 0, ([] : List (S34)), t266))) = some (r1, r2, r3, r4, r5) := H
 have A2 := zqi A20
 clear A20
 by_cases c3 : t266 = 0
 ·
  rw [if_pos c3] at H
  have c3b0 : (t266 == 0) = true := beq_iff_eq.mpr c3
  have c3b1 : (t266 != 0) = false := bne_eq_false_iff_eq.mpr c3
  clear c3
  have HC4 := zqi H
  clear H
  go_enter Tryd.func11, Tryd.ntmps11
  go_upto_region 5 with (first | ((with_reducible refine gate_dst (N := 2) rfl ?_); (try (refine gate_guard (by rfl) ?_; dsimp only)); refine box_event ?hg (N := 2) ?hd (cs := #[.int .i64 0, .int .i64 0, .int .i64 0, .slice none 0 0]) (t := 26) ?hr ?_; (case hd => rfl); (case hg => rfl); (case hr => first | (go_simp; done) | (go_simp; rfl)); intro gb263 hg w5 hbox hb; have n0_ := zqi (below_step (by repeat (first | (with_reducible first | exact HB.out | apply zqg | apply zqf | apply zqh) | exact HB.out)) hb); have n1_ := zqi (hbox); have n2_ := zqi ((by rw [hg]; exact (below_size (by repeat (first | (with_reducible first | exact HB.out | apply zqg | apply zqf | apply zqh) | exact HB.out))) : w.heap.size ≤ gb263)); have n3_ := zqi ((by rw [hg]; exact (below_size (by repeat (first | (with_reducible first | exact HB.out | apply zqg | apply zqf | apply zqh) | exact HB.out))) : w.heap.size ≤ gb263)); clear HB; have HB := n0_; have BK263 := n1_; have GW263 := n2_; have GE263 := n3_; clear n0_ n1_ n2_ n3_; clear hb hbox hg) | ((with_reducible refine gate_dst (N := 4) rfl ?_); (try (refine gate_guard (by rfl) ?_; dsimp only)); refine box_event ?hg (N := 4) ?hd (cs := #[.int .i64 0, .int .i64 0, .int .i64 0, .slice none 0 0]) (t := 26) ?hr ?_; (case hd => rfl); (case hg => rfl); (case hr => first | (go_simp; done) | (go_simp; rfl)); intro gb264 hg w6 hbox hb; have n0_ := zqi (blk_below (g := gb263) (o := .cells #[.int .i64 0, .int .i64 0, .int .i64 0, .slice none 0 0] 26 (0, 0)) (by (with_reducible repeat (first | apply zqa | apply zqb | apply zqc)); exact BK263.out) hb); have n1_ := zqi (below_step (by repeat (first | (with_reducible first | exact HB.out | apply zqg | apply zqf | apply zqh | refine below_set ?_ GE263.out) | exact HB.out)) hb); have n2_ := zqi (hbox); have n3_ := zqi ((by rw [hg]; exact (below_size (by repeat (first | (with_reducible first | exact HB.out | apply zqg | apply zqf | apply zqh | refine below_set ?_ GE263.out) | exact HB.out))) : w.heap.size ≤ gb264)); have n4_ := zqi ((by rw [hg]; exact (below_size (by repeat (first | (with_reducible first | exact HB.out | apply zqg | apply zqf | apply zqh | refine below_set ?_ GE263.out) | exact HB.out))) : w.heap.size ≤ gb264)); have n5_ := zqi ((by rw [hg]; exact Nat.ne_of_lt (blk_lt (g := gb263) (o := .cells #[.int .i64 0, .int .i64 0, .int .i64 0, .slice none 0 0] 26 (0, 0)) (by (with_reducible repeat (first | apply zqa | apply zqb | apply zqc)); exact BK263.out)) : gb263 ≠ gb264)); have n6_ := zqi ((by rw [hg]; exact Nat.ne_of_gt (blk_lt (g := gb263) (o := .cells #[.int .i64 0, .int .i64 0, .int .i64 0, .slice none 0 0] 26 (0, 0)) (by (with_reducible repeat (first | apply zqa | apply zqb | apply zqc)); exact BK263.out)) : gb264 ≠ gb263)); clear BK263; clear HB; have BK263 := n0_; have HB := n1_; have BK264 := n2_; have GW264 := n3_; have GE264 := n4_; have NB263_264 := n5_; have NB264_263 := n6_; clear n0_ n1_ n2_ n3_ n4_ n5_ n6_; clear hb hbox hg; have hnb7 := NB264_263.out; have hnc7 := NB263_264.out; have hcz8_0 : w6.cell? ⟨gb264, 0, none⟩ = some (.int .i64 0) := (zqe BK264.out 0).trans rfl; have hcz8_1 : w6.cell? ⟨gb264, 1, none⟩ = some (.int .i64 0) := (zqe BK264.out 1).trans rfl; have hcz8_2 : w6.cell? ⟨gb264, 2, none⟩ = some (.int .i64 0) := (zqe BK264.out 2).trans rfl; have hcz8_3 : w6.cell? ⟨gb264, 3, none⟩ = some (.slice none 0 0) := (zqe BK264.out 3).trans rfl; have hfz8_0 := zqd BK264.out 0; have hfz8_1 := zqd BK264.out 1; have hfz8_2 := zqd BK264.out 2; have hfz8_3 := zqd BK264.out 3) | ((with_reducible refine gate_callee (f := 23) rfl ?_); refine goesL_ (some 13) rfl rfl Tryd.func23 (by kernel_rfl) rfl #[.slice A0 l0.length c0] rfl (by (try simp only [List.map_toArray, List.map_cons, List.map_nil]); first | done | rfl | (simp only [List.length_drop, List.length_take]; rfl)) ?_; (with_reducible refine (haulierref04_Lines.calls k _ _ l0 t265 t266 _ ?side1 ?side2 A2.out).mono ?_); (case side1 => exact Kd.C_below HR0.out (by repeat (first | (with_reducible first | exact HB.out | apply zqg | apply zqf | apply zqh | refine below_set ?_ GE263.out | refine below_set ?_ GE264.out) | exact HB.out))); (case side2 => exact HC0.out); rintro e w9 ⟨v267, rfl, ho0, hb⟩; refine ⟨_, rfl, ?_⟩; have n0_ := zqi (Kd.S_lower ho0 (below_size (by repeat (first | (with_reducible first | exact HB.out | apply zqg | apply zqf | apply zqh | refine below_set ?_ GE263.out | refine below_set ?_ GE264.out) | exact HB.out)))); have n1_ := zqi (blk_below (g := gb263) (o := .cells #[.int .i64 0, .int .i64 0, .int .i64 0, .slice none 0 0] 26 (0, 0)) (by (with_reducible repeat (first | apply zqa | apply zqb | apply zqc)); refine blk_far ?_ NB263_264.out _; (with_reducible repeat (first | apply zqa | apply zqb | apply zqc)); refine blk_far ?_ NB263_264.out _; (with_reducible repeat (first | apply zqa | apply zqb | apply zqc)); refine blk_far ?_ NB263_264.out _; (with_reducible repeat (first | apply zqa | apply zqb | apply zqc)); refine blk_far ?_ NB263_264.out _; (with_reducible repeat (first | apply zqa | apply zqb | apply zqc)); exact BK263.out) hb); have n2_ := zqi (blk_below (g := gb264) (o := .cells #[.int .i64 0, .int .i64 0, .int .i64 0, .slice none 0 0] 26 (0, 0)) (by (with_reducible repeat (first | apply zqa | apply zqb | apply zqc)); refine blk_put (cs := #[.int .i64 0, .int .i64 0, .int .i64 0, .slice none 0 0]) ?_ 3 _ rfl; (with_reducible repeat (first | apply zqa | apply zqb | apply zqc)); refine blk_put (cs := #[.int .i64 0, .int .i64 0, .int .i64 0, .slice none 0 0]) ?_ 2 _ rfl; (with_reducible repeat (first | apply zqa | apply zqb | apply zqc)); refine blk_put (cs := #[.int .i64 0, .int .i64 0, .int .i64 0, .slice none 0 0]) ?_ 1 _ rfl; (with_reducible repeat (first | apply zqa | apply zqb | apply zqc)); refine blk_put (cs := #[.int .i64 0, .int .i64 0, .int .i64 0, .slice none 0 0]) ?_ 0 _ rfl; (with_reducible repeat (first | apply zqa | apply zqb | apply zqc)); exact BK264.out) hb); have n3_ := zqi (below_step (by repeat (first | (with_reducible first | exact HB.out | apply zqg | apply zqf | apply zqh | refine below_set ?_ GE263.out | refine below_set ?_ GE264.out) | exact HB.out)) hb); clear BK263; clear BK264; clear HB; have HO268 := n0_; have BK263 := n1_; have BK264 := n2_; have HB := n3_; clear n0_ n1_ n2_ n3_; (try clear hb); (try clear hb2); (try clear hk); (try clear hi); (try clear ho0)))
  (try simp only [Act.put, List.setIfInBounds_toArray, List.set_cons_zero, List.set_cons_succ])
  go_cut [29] (fun v29 wc => ∃ (kq : Nat) (x29_3 : Bool), v29 = .bool x29_3 ∧ Aside0 (haulierref05_Parse.j0 kq t265 x29_3 0 0 0 = some (r1, r2, r3, r4, r5)) ∧ Aside0 (kq ≤ k) ∧ Aside0 (Kd.S (Kd.slice 3 (Kd.int .i64)) 43 wc w.heap.size (fun _ => True) v267 t265) ∧ Aside0 (wc.heap[gb263]? = some (.cells #[.int .i64 0, .int .i64 0, .int .i64 0, (.slice none 0 0)] 26 (0, 0))) ∧ Aside0 (wc.heap[gb264]? = some (.cells #[.int .i64 0, .int .i64 0, .int .i64 0, (.slice none 0 0)] 26 (0, 0))) ∧ Aside0 (Below w.heap.size w wc))
  case first =>
   have H := HC4.out
   clear HC4
   by_cases c10 : (t265.length : Int) = 0
   ·
    rw [if_pos c10] at H
    have c10b0 : ((t265.length : Int) == 0) = true := beq_iff_eq.mpr c10
    have c10b1 : ((t265.length : Int) != 0) = false := bne_eq_false_iff_eq.mpr c10
    clear c10
    (first | rw [c10b0] | (simp only [i64_w, i32_w]; rw [c10b0]) | skip)
    have H' := zqi H
    clear H
    obtain ⟨Ao11, co11, eo11⟩ := Kd.S_slice HO268.out
    subst eo11
    go_wp2
    go_meet
    case rel => exact ⟨_, (true), (by first | rfl | (simp; done) | (simp [*]; done)), H', ⟨by first | omega | exact Nat.le_refl _⟩, ⟨by (with_reducible repeat (first | apply Kd.S_alloc | apply Kd.S_drewN | apply Kd.S_drew)); exact HO268.out⟩, ⟨by (with_reducible repeat (first | apply zqa | apply zqb | apply zqc)); exact BK263.out⟩, ⟨by (with_reducible repeat (first | apply zqa | apply zqb | apply zqc)); exact BK264.out⟩, ⟨by repeat (first | (with_reducible first | exact HB.out | apply zqg | apply zqf | apply zqh | refine below_set ?_ GE263.out | refine below_set ?_ GE264.out) | exact HB.out)⟩⟩
   ·
    rw [if_neg c10] at H
    have c10b0 : ((t265.length : Int) == 0) = false := beq_eq_false_iff_ne.mpr c10
    have c10b1 : ((t265.length : Int) != 0) = true := bne_iff_ne.mpr c10
    have c10b2 : ¬ (t265 = []) := fun h_ => c10 (by rw [h_]; rfl)
    (first | rw [c10b0] | (simp only [i64_w, i32_w]; rw [c10b0]) | skip)
    by_cases c12 : 0 < (t265.length : Int)
    ·
     rw [if_pos c12] at H
     have c12b0 : decide (0 < (t265.length : Int)) = true := decide_eq_true c12
     have c12b1 : decide (0 < t265.length) = true := decide_eq_true (by omega)
     clear c12
     have H' := zqi H
     clear H
     obtain ⟨Ao13, co13, eo13⟩ := Kd.S_slice HO268.out
     subst eo13
     have p269 : 0 ≤ (0 : Int) := (by omega)
     have q269 : 0 < (t265.length : Int) := of_decide_eq_true (by first | (with_reducible assumption) | assumption)
     obtain ⟨ad269, A269_0, c269_0, e269, hx269_0, hl269_0, hi269_0⟩ := at_L3 (Kd.S_reads' HO268.out).2.2 0 p269 q269
     cases e269
     obtain ⟨ce269, hce269, hMe269, hcc269⟩ := Kd.S_get HO268.out [] 0 p269 (by first | exact q269 | exact of_decide_eq_true (by first | (with_reducible assumption) | assumption) | (have e_ := (Kd.S_reads' HO268.out).1; omega))
     obtain ⟨ve269_0, rfl, ge269_0⟩ := hMe269
     have hv269_0 := hcc269 0 _ rfl
     rw [Nat.add_zero, show ((Kd.slice 3 (Kd.int .i64))).sz = 1 from rfl, Nat.mul_one] at hv269_0
     replace hv269_0 := Option.some.inj (hv269_0.symm.trans hx269_0)
     rw [hv269_0] at ge269_0
     have HL269_0 := zqi (show Kd.R (Kd.int .i64) 3 _ _ _ _ (rd_L3 t265 0) from ge269_0)
     clear hv269_0 ge269_0
     clear hcc269 hce269
     have qi269 : (0 < t265.length) = True := eq_true (by omega)
     (try rw [show ((0 : Int)).toNat = 0 from rfl] at hx269_0)
     (try rw [Addr.add_zero'] at hx269_0)
     have HR269_0 := zqi hi269_0
     have HC269_0 := zqi hl269_0
     clear hi269_0 hl269_0
     replace p269 := eq_true p269
     replace q269 := eq_true q269
     go_wp2
     go_meet
     case rel => exact ⟨_, ((((rd_L3 t265 0).length : Int) != 3)), (by first | rfl | (simp; done) | (simp [*]; done)), H', ⟨by first | omega | exact Nat.le_refl _⟩, ⟨by (with_reducible repeat (first | apply Kd.S_alloc | apply Kd.S_drewN | apply Kd.S_drew)); exact HO268.out⟩, ⟨by (with_reducible repeat (first | apply zqa | apply zqb | apply zqc)); exact BK263.out⟩, ⟨by (with_reducible repeat (first | apply zqa | apply zqb | apply zqc)); exact BK264.out⟩, ⟨by repeat (first | (with_reducible first | exact HB.out | apply zqg | apply zqf | apply zqh | refine below_set ?_ GE263.out | refine below_set ?_ GE264.out) | exact HB.out)⟩⟩
    ·
     rw [if_neg c12] at H
     exact absurd H (by simp)
  case rest =>
   clear HC4
   try clear c1
   try clear c2
   try clear p2
   try clear q2
   try clear hx2
   try clear qi2
   try clear c3
   try clear c3b0
   try clear c3b1
   try clear c7
   try clear c10
   try clear c10b0
   try clear c10b1
   try clear c10b2
   try clear c11
   try clear c12
   try clear c12b0
   try clear c12b1
   try clear hcz8_0
   try clear hcz8_1
   try clear hcz8_2
   try clear hcz8_3
   try clear hfz8_0
   try clear hfz8_1
   try clear hfz8_2
   try clear hfz8_3
   try clear hx269_0
   try clear p269
   try clear q269
   obtain ⟨kq, x29_3, rfl, HA, HJ3, HO_5, BK263, BK264, HB⟩ := hcut
   cases kq with
   | zero => exact absurd HA.out (by simp [haulierref05_Parse.j0])
   | succ kj3 =>
    have H := HA.out
    clear HA
    simp only [haulierref05_Parse.j0] at H
    by_cases c14 : x29_3 = true
    ·
     subst c14
     have H1 : (some (0, 0, 0, ([] : List (S34)), 2)) = some (r1, r2, r3, r4, r5) := by rw [if_pos rfl] at H; exact H
     clear H
     have H := H1
     clear H1
     simp only [Option.some.injEq, Prod.mk.injEq] at H
     obtain ⟨rfl, rfl, rfl, rfl, rfl⟩ := H
     have hnb15 := NB264_263.out
     have hnc15 := NB263_264.out
     have hcz16_0 : wc.cell? ⟨gb264, 0, none⟩ = some (.int .i64 0) := (zqe BK264.out 0).trans rfl
     have hcz16_1 : wc.cell? ⟨gb264, 1, none⟩ = some (.int .i64 0) := (zqe BK264.out 1).trans rfl
     have hcz16_2 : wc.cell? ⟨gb264, 2, none⟩ = some (.int .i64 0) := (zqe BK264.out 2).trans rfl
     have hcz16_3 : wc.cell? ⟨gb264, 3, none⟩ = some (.slice none 0 0) := (zqe BK264.out 3).trans rfl
     have hfz16_0 := zqd BK264.out 0
     have hfz16_1 := zqd BK264.out 1
     have hfz16_2 := zqd BK264.out 2
     have hfz16_3 := zqd BK264.out 3
     have hcz17_0 : wc.cell? ⟨gb263, 0, none⟩ = some (.int .i64 0) := (zqe BK263.out 0).trans rfl
     have hcz17_1 : wc.cell? ⟨gb263, 1, none⟩ = some (.int .i64 0) := (zqe BK263.out 1).trans rfl
     have hcz17_2 : wc.cell? ⟨gb263, 2, none⟩ = some (.int .i64 0) := (zqe BK263.out 2).trans rfl
     have hcz17_3 : wc.cell? ⟨gb263, 3, none⟩ = some (.slice none 0 0) := (zqe BK263.out 3).trans rfl
     have hfz17_0 := zqd BK263.out 0
     have hfz17_1 := zqd BK263.out 1
     have hfz17_2 := zqd BK263.out 2
     have hfz17_3 := zqd BK263.out 3
     go_wp2
     refine bodyPost_ret (results_ct rfl _ _ gb263 26 #[.int .i64 0, .int .i64 0, .int .i64 0, .slice none 0 0] (0, 0) _ rfl (by (with_reducible repeat (first | apply zqa | apply zqb | apply zqc)); refine blk_put (cs := #[.int .i64 0, .int .i64 0, .int .i64 0, .slice none 0 0]) ?_ 3 _ rfl; (with_reducible repeat (first | apply zqa | apply zqb | apply zqc)); refine blk_put (cs := #[.int .i64 0, .int .i64 0, .int .i64 0, .slice none 0 0]) ?_ 2 _ rfl; (with_reducible repeat (first | apply zqa | apply zqb | apply zqc)); refine blk_put (cs := #[.int .i64 0, .int .i64 0, .int .i64 0, .slice none 0 0]) ?_ 1 _ rfl; (with_reducible repeat (first | apply zqa | apply zqb | apply zqc)); refine blk_put (cs := #[.int .i64 0, .int .i64 0, .int .i64 0, .slice none 0 0]) ?_ 0 _ rfl; (with_reducible repeat (first | apply zqa | apply zqb | apply zqc)); exact BK263.out) Tryd.underlying26 rfl (by kernel_rfl)) rfl ?_
     exact ⟨_, by first | rfl | (simp [errW_none, errW_some] <;> rfl) | (simp [*, errW_none, errW_some] <;> rfl), by first | exact Kd.R_nil _ _ _ _ _ | exact Kd.N_nil _ _ _ _ _ | exact Kd.V_nil _ _ _ _ _ | exact Kd.Q_nil _ _ _ _ _ | exact Kd.S_nil _ _ _ _ _, by repeat (first | (with_reducible first | exact HB.out | apply zqg | apply zqf | apply zqh | refine below_set ?_ GE263.out | refine below_set ?_ GE264.out) | exact HB.out)⟩
    ·
     replace c14 := Bool.eq_false_iff.mpr c14
     subst c14
     have H1 : (if 0 < (t265.length : Int) then (if 0 < ((rd_L3 t265 0).length : Int) then (if 1 < ((rd_L3 t265 0).length : Int) then (if 2 < ((rd_L3 t265 0).length : Int) then (haulierref05_Parse.l0 kj3 t265 1 0 0 0 (rd (rd_L3 t265 0) 0) (rd (rd_L3 t265 0) 1) (rd (rd_L3 t265 0) 2) ([] : List (S34))) else (none)) else (none)) else (none)) else (none)) = some (r1, r2, r3, r4, r5) := by rw [if_neg (show ¬ (false = true) by decide)] at H; exact H
     clear H
     have H := H1
     clear H1
     by_cases c18 : 0 < (t265.length : Int)
     ·
      rw [if_pos c18] at H
      have c18b0 : decide (0 < (t265.length : Int)) = true := decide_eq_true c18
      have c18b1 : decide (0 < t265.length) = true := decide_eq_true (by omega)
      clear c18
      by_cases c19 : 0 < ((rd_L3 t265 0).length : Int)
      ·
       rw [if_pos c19] at H
       have c19b0 : decide (0 < ((rd_L3 t265 0).length : Int)) = true := decide_eq_true c19
       have c19b1 : decide (0 < (rd_L3 t265 0).length) = true := decide_eq_true (by omega)
       clear c19
       by_cases c20 : 1 < ((rd_L3 t265 0).length : Int)
       ·
        rw [if_pos c20] at H
        have c20b0 : decide (1 < ((rd_L3 t265 0).length : Int)) = true := decide_eq_true c20
        have c20b1 : decide (1 < (rd_L3 t265 0).length) = true := decide_eq_true (by omega)
        clear c20
        by_cases c21 : 2 < ((rd_L3 t265 0).length : Int)
        ·
         rw [if_pos c21] at H
         have c21b0 : decide (2 < ((rd_L3 t265 0).length : Int)) = true := decide_eq_true c21
         have c21b1 : decide (2 < (rd_L3 t265 0).length) = true := decide_eq_true (by omega)
         clear c21
         have H' := zqi H
         clear H
         try go_wp2
         have n0_ := zqi (Kd.S_drew HO_5.out)
         have n1_ := zqi (zqb BK263.out)
         have n2_ := zqi (zqb BK264.out)
         have n3_ := zqi (zqh HB.out)
         clear HO_5
         clear BK263
         clear BK264
         clear HB
         have HO_5 := n0_
         have BK263 := n1_
         have BK264 := n2_
         have HB := n3_
         clear n0_ n1_ n2_ n3_
         obtain ⟨Ao23, co23, eo23⟩ := Kd.S_slice HO_5.out
         (first | subst eo23 | (injection eo23 with f1_ f2_ f3_; have f4_ := f1_.symm; have f5_ := f3_.symm; clear f1_ f2_ f3_; subst f4_; subst f5_))
         have p270 : 0 ≤ (0 : Int) := (by omega)
         have q270 : 0 < (t265.length : Int) := of_decide_eq_true (by first | (with_reducible assumption) | assumption)
         obtain ⟨ad270, A270_0, c270_0, e270, hx270_0, hl270_0, hi270_0⟩ := at_L3 (Kd.S_reads' HO_5.out).2.2 0 p270 q270
         cases e270
         obtain ⟨ce270, hce270, hMe270, hcc270⟩ := Kd.S_get HO_5.out [] 0 p270 (by first | exact q270 | exact of_decide_eq_true (by first | (with_reducible assumption) | assumption) | (have e_ := (Kd.S_reads' HO_5.out).1; omega))
         obtain ⟨ve270_0, rfl, ge270_0⟩ := hMe270
         have hv270_0 := hcc270 0 _ rfl
         rw [Nat.add_zero, show ((Kd.slice 3 (Kd.int .i64))).sz = 1 from rfl, Nat.mul_one] at hv270_0
         replace hv270_0 := Option.some.inj (hv270_0.symm.trans hx270_0)
         rw [hv270_0] at ge270_0
         have HL270_0 := zqi (show Kd.R (Kd.int .i64) 3 _ _ _ _ (rd_L3 t265 0) from ge270_0)
         clear hv270_0 ge270_0
         clear hcc270 hce270
         have qi270 : (0 < t265.length) = True := eq_true (by omega)
         (try rw [show ((0 : Int)).toNat = 0 from rfl] at hx270_0)
         (try rw [Addr.add_zero'] at hx270_0)
         have HR270_0 := zqi hi270_0
         have HC270_0 := zqi hl270_0
         clear hi270_0 hl270_0
         replace p270 := eq_true p270
         replace q270 := eq_true q270
         have p271 : 0 ≤ (0 : Int) := (by omega)
         have q271 : 0 < ((rd_L3 t265 0).length : Int) := of_decide_eq_true (by first | (with_reducible assumption) | assumption)
         obtain ⟨ad271, e271, hx271_0⟩ := Kd.at_int (by repeat (first | (with_reducible exact HR270_0.out) | (with_reducible refine Kd.C_alloc ?_ _) | (with_reducible refine Kd.C_drewN ?_ _) | (with_reducible refine Kd.C_drew ?_) | exact HR270_0.out)) 0 p271 q271
         cases e271
         have qi271 : (0 < (rd_L3 t265 0).length) = True := eq_true (by omega)
         (try rw [show ((0 : Int)).toNat = 0 from rfl] at hx271_0)
         (try rw [Addr.add_zero'] at hx271_0)
         replace p271 := eq_true p271
         replace q271 := eq_true q271
         have p272 : 0 ≤ (0 : Int) := (by omega)
         have q272 : 0 < (t265.length : Int) := of_decide_eq_true (by first | (with_reducible assumption) | assumption)
         obtain ⟨ad272, A272_0, c272_0, e272, hx272_0, hl272_0, hi272_0⟩ := at_L3 (Kd.S_reads' HO_5.out).2.2 0 p272 q272
         obtain rfl : ad270 = ad272 := (by injection e272)
         obtain ⟨ce272, hce272, hMe272, hcc272⟩ := Kd.S_get HO_5.out [] 0 p272 (by first | exact q272 | exact of_decide_eq_true (by first | (with_reducible assumption) | assumption) | (have e_ := (Kd.S_reads' HO_5.out).1; omega))
         obtain ⟨ve272_0, rfl, ge272_0⟩ := hMe272
         have hv272_0 := hcc272 0 _ rfl
         rw [Nat.add_zero, show ((Kd.slice 3 (Kd.int .i64))).sz = 1 from rfl, Nat.mul_one] at hv272_0
         replace hv272_0 := Option.some.inj (hv272_0.symm.trans hx272_0)
         rw [hv272_0] at ge272_0
         have HL272_0 := zqi (show Kd.R (Kd.int .i64) 3 _ _ _ _ (rd_L3 t265 0) from ge272_0)
         clear hv272_0 ge272_0
         clear hcc272 hce272
         have qi272 : (0 < t265.length) = True := eq_true (by omega)
         (try rw [show ((0 : Int)).toNat = 0 from rfl] at hx272_0)
         (try rw [Addr.add_zero'] at hx272_0)
         have HR272_0 := zqi hi272_0
         have HC272_0 := zqi hl272_0
         clear hi272_0 hl272_0
         replace p272 := eq_true p272
         replace q272 := eq_true q272
         have ea_ := Option.some.inj (hx270_0.symm.trans hx272_0)
         injection ea_ with ea_ en_ ec_
         subst ea_
         subst ec_
         clear en_
         have p273 : 0 ≤ (1 : Int) := (by omega)
         have q273 : 1 < ((rd_L3 t265 0).length : Int) := of_decide_eq_true (by first | (with_reducible assumption) | assumption)
         obtain ⟨ad273, e273, hx273_0⟩ := Kd.at_int (by repeat (first | (with_reducible exact HR272_0.out) | (with_reducible refine Kd.C_alloc ?_ _) | (with_reducible refine Kd.C_drewN ?_ _) | (with_reducible refine Kd.C_drew ?_) | exact HR272_0.out)) 1 p273 q273
         cases e273
         (try simp only [show (1 : Int).toNat = 1 from rfl, Nat.reduceMul, Nat.reduceEqDiff, Go.Addr.add, ↓reduceIte] at hx273_0)
         have qi273 : (1 < (rd_L3 t265 0).length) = True := eq_true (by omega)
         (try rw [show ((1 : Int)).toNat = 1 from rfl] at hx273_0)
         replace p273 := eq_true p273
         replace q273 := eq_true q273
         have p274 : 0 ≤ (0 : Int) := (by omega)
         have q274 : 0 < (t265.length : Int) := of_decide_eq_true (by first | (with_reducible assumption) | assumption)
         obtain ⟨ad274, A274_0, c274_0, e274, hx274_0, hl274_0, hi274_0⟩ := at_L3 (Kd.S_reads' HO_5.out).2.2 0 p274 q274
         obtain rfl : ad270 = ad274 := (by injection e274)
         obtain ⟨ce274, hce274, hMe274, hcc274⟩ := Kd.S_get HO_5.out [] 0 p274 (by first | exact q274 | exact of_decide_eq_true (by first | (with_reducible assumption) | assumption) | (have e_ := (Kd.S_reads' HO_5.out).1; omega))
         obtain ⟨ve274_0, rfl, ge274_0⟩ := hMe274
         have hv274_0 := hcc274 0 _ rfl
         rw [Nat.add_zero, show ((Kd.slice 3 (Kd.int .i64))).sz = 1 from rfl, Nat.mul_one] at hv274_0
         replace hv274_0 := Option.some.inj (hv274_0.symm.trans hx274_0)
         rw [hv274_0] at ge274_0
         have HL274_0 := zqi (show Kd.R (Kd.int .i64) 3 _ _ _ _ (rd_L3 t265 0) from ge274_0)
         clear hv274_0 ge274_0
         clear hcc274 hce274
         have qi274 : (0 < t265.length) = True := eq_true (by omega)
         (try rw [show ((0 : Int)).toNat = 0 from rfl] at hx274_0)
         (try rw [Addr.add_zero'] at hx274_0)
         have HR274_0 := zqi hi274_0
         have HC274_0 := zqi hl274_0
         clear hi274_0 hl274_0
         replace p274 := eq_true p274
         replace q274 := eq_true q274
         have ea_ := Option.some.inj (hx270_0.symm.trans hx274_0)
         injection ea_ with ea_ en_ ec_
         subst ea_
         subst ec_
         clear en_
         have p275 : 0 ≤ (2 : Int) := (by omega)
         have q275 : 2 < ((rd_L3 t265 0).length : Int) := of_decide_eq_true (by first | (with_reducible assumption) | assumption)
         obtain ⟨ad275, e275, hx275_0⟩ := Kd.at_int (by repeat (first | (with_reducible exact HR274_0.out) | (with_reducible refine Kd.C_alloc ?_ _) | (with_reducible refine Kd.C_drewN ?_ _) | (with_reducible refine Kd.C_drew ?_) | exact HR274_0.out)) 2 p275 q275
         cases e275
         (try simp only [show (2 : Int).toNat = 2 from rfl, Nat.reduceMul, Nat.reduceEqDiff, Go.Addr.add, ↓reduceIte] at hx275_0)
         have qi275 : (2 < (rd_L3 t265 0).length) = True := eq_true (by omega)
         (try rw [show ((2 : Int)).toNat = 2 from rfl] at hx275_0)
         replace p275 := eq_true p275
         replace q275 := eq_true q275
         refine start_ (n := 18) (S := fun w' => w'.cell? ad270 = some (.slice (some ad271) (rd_L3 t265 0).length c270_0) ∧ w'.cell? ad271 = some (.int .i64 (rd (rd_L3 t265 0) 0)) ∧ w'.cell? ad270 = some (.slice (some ad271) (rd_L3 t265 0).length c270_0) ∧ w'.cell? ⟨ad271.block, ad271.off + 1, none⟩ = some (.int .i64 (rd (rd_L3 t265 0) 1)) ∧ w'.cell? ad270 = some (.slice (some ad271) (rd_L3 t265 0).length c270_0) ∧ w'.cell? ⟨ad271.block, ad271.off + 2, none⟩ = some (.int .i64 (rd (rd_L3 t265 0) 2))) (ds := []) #[false, false, false, false, false, false, false, false, false, false, false, false, false, false, false, false, false, false] (by kernel_rfl) rfl rfl ⟨hx270_0, hx271_0, hx272_0, hx273_0, hx274_0, hx275_0⟩ (fun hHeld => ?_); refine with_tabW haulierref05_Parse.tab7 haulierref05_Parse.bits7 (fun HT_ HW_ => ?_)
         generalize wc.drew = w22 at HO_5 BK263 BK264 HB HL270_0 HL272_0 HL274_0 HR270_0 HR272_0 HR274_0 hx270_0 hx271_0 hx272_0 hx273_0 hx274_0 hx275_0 hHeld ⊢
         refine pure_ (i := 0) (N := some 31) (v := ?_) (a' := ?_) #[true, false, false, false, false, false, false, false, false, false, false, false, false, false, false, false, false, false] rfl rfl (any_of HT_.out (by kernel_rfl)) (fun _ _ _ h => h) (Or.inl ⟨by rfl, ?_⟩) ?_ ?_
         rotate_left
         ·
          intro w'
          go_simp
          with_reducible rfl
         rotate_left
         ·
          simp only [Act.put, List.setIfInBounds_toArray, List.set_cons_zero, List.set_cons_succ, i64_w, i32_w]
          rfl
         refine pure_ (i := 1) (N := some 32) (v := ?_) (a' := ?_) #[true, true, false, false, false, false, false, false, false, false, false, false, false, false, false, false, false, false] rfl rfl (any_of HT_.out (by kernel_rfl)) (fun _ _ _ h => h) (Or.inl ⟨by rfl, ?_⟩) ?_ ?_
         rotate_left
         ·
          intro w'
          go_simp
          with_reducible rfl
         rotate_left
         ·
          simp only [Act.put, List.setIfInBounds_toArray, List.set_cons_zero, List.set_cons_succ, i64_w, i32_w]
          rfl
         refine pure_ (i := 5) (N := some 36) (v := ?_) (a' := ?_) #[true, true, false, false, false, true, false, false, false, false, false, false, false, false, false, false, false, false] rfl rfl (any_of HT_.out (by kernel_rfl)) (fun _ _ _ h => h) (Or.inl ⟨by rfl, ?_⟩) ?_ ?_
         rotate_left
         ·
          intro w'
          go_simp
          with_reducible rfl
         rotate_left
         ·
          simp only [Act.put, List.setIfInBounds_toArray, List.set_cons_zero, List.set_cons_succ, i64_w, i32_w]
          rfl
         refine pure_ (i := 6) (N := some 37) (v := ?_) (a' := ?_) #[true, true, false, false, false, true, true, false, false, false, false, false, false, false, false, false, false, false] rfl rfl (any_of HT_.out (by kernel_rfl)) (fun _ _ _ h => h) (Or.inl ⟨by rfl, ?_⟩) ?_ ?_
         rotate_left
         ·
          intro w'
          go_simp
          with_reducible rfl
         rotate_left
         ·
          simp only [Act.put, List.setIfInBounds_toArray, List.set_cons_zero, List.set_cons_succ, i64_w, i32_w]
          rfl
         refine pure_ (i := 10) (N := some 41) (v := ?_) (a' := ?_) #[true, true, false, false, false, true, true, false, false, false, true, false, false, false, false, false, false, false] rfl rfl (any_of HT_.out (by kernel_rfl)) (fun _ _ _ h => h) (Or.inl ⟨by rfl, ?_⟩) ?_ ?_
         rotate_left
         ·
          intro w'
          go_simp
          with_reducible rfl
         rotate_left
         ·
          simp only [Act.put, List.setIfInBounds_toArray, List.set_cons_zero, List.set_cons_succ, i64_w, i32_w]
          rfl
         refine pure_ (i := 11) (N := some 42) (v := ?_) (a' := ?_) #[true, true, false, false, false, true, true, false, false, false, true, true, false, false, false, false, false, false] rfl rfl (any_of HT_.out (by kernel_rfl)) (fun _ _ _ h => h) (Or.inl ⟨by rfl, ?_⟩) ?_ ?_
         rotate_left
         ·
          intro w'
          go_simp
          with_reducible rfl
         rotate_left
         ·
          simp only [Act.put, List.setIfInBounds_toArray, List.set_cons_zero, List.set_cons_succ, i64_w, i32_w]
          rfl
         refine take_ (i := 2) (N := some 33) (v := ?_) (a' := ?_) #[true, true, true, false, false, true, true, false, false, false, true, true, false, false, false, false, false, false] rfl rfl (take_ofW HT_.out HW_.out (by kernel_rfl)) (fun _ _ _ h => h) (Or.inl ⟨by rfl, ?_⟩) hHeld ?_ ?_
         rotate_left
         ·
          rintro w' ⟨s0, s1, s2, s3, s4, s5⟩
          go_simp
          with_reducible rfl
         rotate_left
         ·
          simp only [Act.put, List.setIfInBounds_toArray, List.set_cons_zero, List.set_cons_succ, i64_w, i32_w]
          rfl
         refine pure_ (i := 3) (N := some 34) (v := ?_) (a' := ?_) #[true, true, true, true, false, true, true, false, false, false, true, true, false, false, false, false, false, false] rfl rfl (any_of HT_.out (by kernel_rfl)) (fun _ _ _ h => h) (Or.inl ⟨by rfl, ?_⟩) ?_ ?_
         rotate_left
         ·
          intro w'
          go_simp
          with_reducible rfl
         rotate_left
         ·
          simp only [Act.put, List.setIfInBounds_toArray, List.set_cons_zero, List.set_cons_succ, i64_w, i32_w]
          rfl
         refine take_ (i := 4) (N := some 35) (v := ?_) (a' := ?_) #[true, true, true, true, true, true, true, false, false, false, true, true, false, false, false, false, false, false] rfl rfl (take_ofW HT_.out HW_.out (by kernel_rfl)) (fun _ _ _ h => h) (Or.inl ⟨by rfl, ?_⟩) hHeld ?_ ?_
         rotate_left
         ·
          rintro w' ⟨s0, s1, s2, s3, s4, s5⟩
          go_simp
          with_reducible rfl
         rotate_left
         ·
          simp only [Act.put, List.setIfInBounds_toArray, List.set_cons_zero, List.set_cons_succ, i64_w, i32_w]
          rfl
         refine take_ (i := 7) (N := some 38) (v := ?_) (a' := ?_) #[true, true, true, true, true, true, true, true, false, false, true, true, false, false, false, false, false, false] rfl rfl (take_ofW HT_.out HW_.out (by kernel_rfl)) (fun _ _ _ h => h) (Or.inl ⟨by rfl, ?_⟩) hHeld ?_ ?_
         rotate_left
         ·
          rintro w' ⟨s0, s1, s2, s3, s4, s5⟩
          go_simp
          with_reducible rfl
         rotate_left
         ·
          simp only [Act.put, List.setIfInBounds_toArray, List.set_cons_zero, List.set_cons_succ, i64_w, i32_w]
          rfl
         refine pure_ (i := 8) (N := some 39) (v := ?_) (a' := ?_) #[true, true, true, true, true, true, true, true, true, false, true, true, false, false, false, false, false, false] rfl rfl (any_of HT_.out (by kernel_rfl)) (fun _ _ _ h => h) (Or.inl ⟨by rfl, ?_⟩) ?_ ?_
         rotate_left
         ·
          intro w'
          go_simp
          with_reducible rfl
         rotate_left
         ·
          simp only [Act.put, List.setIfInBounds_toArray, List.set_cons_zero, List.set_cons_succ, i64_w, i32_w]
          rfl
         refine take_ (i := 9) (N := some 40) (v := ?_) (a' := ?_) #[true, true, true, true, true, true, true, true, true, true, true, true, false, false, false, false, false, false] rfl rfl (take_ofW HT_.out HW_.out (by kernel_rfl)) (fun _ _ _ h => h) (Or.inl ⟨by rfl, ?_⟩) hHeld ?_ ?_
         rotate_left
         ·
          rintro w' ⟨s0, s1, s2, s3, s4, s5⟩
          go_simp
          with_reducible rfl
         rotate_left
         ·
          simp only [Act.put, List.setIfInBounds_toArray, List.set_cons_zero, List.set_cons_succ, i64_w, i32_w]
          rfl
         refine take_ (i := 12) (N := some 43) (v := ?_) (a' := ?_) #[true, true, true, true, true, true, true, true, true, true, true, true, true, false, false, false, false, false] rfl rfl (take_ofW HT_.out HW_.out (by kernel_rfl)) (fun _ _ _ h => h) (Or.inl ⟨by rfl, ?_⟩) hHeld ?_ ?_
         rotate_left
         ·
          rintro w' ⟨s0, s1, s2, s3, s4, s5⟩
          go_simp
          with_reducible rfl
         rotate_left
         ·
          simp only [Act.put, List.setIfInBounds_toArray, List.set_cons_zero, List.set_cons_succ, i64_w, i32_w]
          rfl
         refine pure_ (i := 13) (N := some 44) (v := ?_) (a' := ?_) #[true, true, true, true, true, true, true, true, true, true, true, true, true, true, false, false, false, false] rfl rfl (any_of HT_.out (by kernel_rfl)) (fun _ _ _ h => h) (Or.inl ⟨by rfl, ?_⟩) ?_ ?_
         rotate_left
         ·
          intro w'
          go_simp
          with_reducible rfl
         rotate_left
         ·
          simp only [Act.put, List.setIfInBounds_toArray, List.set_cons_zero, List.set_cons_succ, i64_w, i32_w]
          rfl
         refine take_ (i := 14) (N := some 45) (v := ?_) (a' := ?_) #[true, true, true, true, true, true, true, true, true, true, true, true, true, true, true, false, false, false] rfl rfl (take_ofW HT_.out HW_.out (by kernel_rfl)) (fun _ _ _ h => h) (Or.inl ⟨by rfl, ?_⟩) hHeld ?_ ?_
         rotate_left
         ·
          rintro w' ⟨s0, s1, s2, s3, s4, s5⟩
          go_simp
          with_reducible rfl
         rotate_left
         ·
          simp only [Act.put, List.setIfInBounds_toArray, List.set_cons_zero, List.set_cons_succ, i64_w, i32_w]
          rfl
         refine pure_ (i := 15) (N := some 46) (v := ?_) (a' := ?_) #[true, true, true, true, true, true, true, true, true, true, true, true, true, true, true, true, false, false] rfl rfl (any_of HT_.out (by kernel_rfl)) (fun _ _ _ h => h) (Or.inl ⟨by rfl, ?_⟩) ?_ ?_
         rotate_left
         ·
          intro w'
          go_simp
          with_reducible rfl
         rotate_left
         ·
          simp only [Act.put, List.setIfInBounds_toArray, List.set_cons_zero, List.set_cons_succ, i64_w, i32_w]
          rfl
         refine one_ (i := 16) (N := some 7) #[true, true, true, true, true, true, true, true, true, true, true, true, true, true, true, true, true, false] rfl rfl (one_of HT_.out (by kernel_rfl)) (by decide) (fun K hK => ?_)
         refine box_step ?hg (N := 7) ?hd (cs := #[.int .i64 0, .int .i64 0, .int .i64 0, .slice none 0 0]) (t := 26) ?hr ?_; (case hd => rfl); (case hg => rfl); (case hr => first | (go_simp; done) | (go_simp; rfl))
         intro gb276 hg w24 hbox hb
         have HS0_ := (hb.cell (World.block_lt_of_cell? _ _ (hHeld.1))).trans (hHeld.1)
         have HS1_ := (hb.cell (World.block_lt_of_cell? _ _ (hHeld.2.1))).trans (hHeld.2.1)
         have HS2_ := (hb.cell (World.block_lt_of_cell? _ _ (hHeld.2.2.1))).trans (hHeld.2.2.1)
         have HS3_ := (hb.cell (World.block_lt_of_cell? _ _ (hHeld.2.2.2.1))).trans (hHeld.2.2.2.1)
         have HS4_ := (hb.cell (World.block_lt_of_cell? _ _ (hHeld.2.2.2.2.1))).trans (hHeld.2.2.2.2.1)
         have HS5_ := (hb.cell (World.block_lt_of_cell? _ _ (hHeld.2.2.2.2.2))).trans (hHeld.2.2.2.2.2)
         have n0_ := zqi (Kd.S_below (by (with_reducible repeat (first | apply Kd.S_alloc | apply Kd.S_drewN | apply Kd.S_drew)); exact HO_5.out) hb)
         have n1_ := zqi (Kd.R_below (by (with_reducible repeat (first | apply Kd.R_alloc | apply Kd.R_drewN | apply Kd.R_drew)); exact HL270_0.out) hb)
         have n2_ := zqi (Kd.R_below (by (with_reducible repeat (first | apply Kd.R_alloc | apply Kd.R_drewN | apply Kd.R_drew)); exact HL272_0.out) hb)
         have n3_ := zqi (Kd.R_below (by (with_reducible repeat (first | apply Kd.R_alloc | apply Kd.R_drewN | apply Kd.R_drew)); exact HL274_0.out) hb)
         have n4_ := zqi (blk_below (g := gb263) (o := .cells #[.int .i64 0, .int .i64 0, .int .i64 0, .slice none 0 0] 26 (0, 0)) (by (with_reducible repeat (first | apply zqa | apply zqb | apply zqc)); exact BK263.out) hb)
         have n5_ := zqi (blk_below (g := gb264) (o := .cells #[.int .i64 0, .int .i64 0, .int .i64 0, .slice none 0 0] 26 (0, 0)) (by (with_reducible repeat (first | apply zqa | apply zqb | apply zqc)); exact BK264.out) hb)
         have n6_ := zqi (Kd.C_below (by repeat (first | (with_reducible exact HR270_0.out) | (with_reducible refine Kd.C_alloc ?_ _) | (with_reducible refine Kd.C_drewN ?_ _) | (with_reducible refine Kd.C_drew ?_) | exact HR270_0.out)) hb)
         have n7_ := zqi (Kd.C_below (by repeat (first | (with_reducible exact HR272_0.out) | (with_reducible refine Kd.C_alloc ?_ _) | (with_reducible refine Kd.C_drewN ?_ _) | (with_reducible refine Kd.C_drew ?_) | exact HR272_0.out)) hb)
         have n8_ := zqi (Kd.C_below (by repeat (first | (with_reducible exact HR274_0.out) | (with_reducible refine Kd.C_alloc ?_ _) | (with_reducible refine Kd.C_drewN ?_ _) | (with_reducible refine Kd.C_drew ?_) | exact HR274_0.out)) hb)
         have n9_ := zqi (below_step (by repeat (first | (with_reducible first | exact HB.out | apply zqg | apply zqf | apply zqh | refine below_set ?_ GE263.out | refine below_set ?_ GE264.out) | exact HB.out)) hb)
         have n10_ := zqi (hbox)
         have n11_ := zqi ((by rw [hg]; exact (below_size (by repeat (first | (with_reducible first | exact HB.out | apply zqg | apply zqf | apply zqh | refine below_set ?_ GE263.out | refine below_set ?_ GE264.out) | exact HB.out))) : w.heap.size ≤ gb276))
         have n12_ := zqi ((by rw [hg]; exact (below_size (by repeat (first | (with_reducible first | exact HB.out | apply zqg | apply zqf | apply zqh | refine below_set ?_ GE263.out | refine below_set ?_ GE264.out) | exact HB.out))) : w.heap.size ≤ gb276))
         have n13_ := zqi ((by rw [hg]; exact Nat.ne_of_lt (blk_lt (g := gb263) (o := .cells #[.int .i64 0, .int .i64 0, .int .i64 0, .slice none 0 0] 26 (0, 0)) (by (with_reducible repeat (first | apply zqa | apply zqb | apply zqc)); exact BK263.out)) : gb263 ≠ gb276))
         have n14_ := zqi ((by rw [hg]; exact Nat.ne_of_gt (blk_lt (g := gb263) (o := .cells #[.int .i64 0, .int .i64 0, .int .i64 0, .slice none 0 0] 26 (0, 0)) (by (with_reducible repeat (first | apply zqa | apply zqb | apply zqc)); exact BK263.out)) : gb276 ≠ gb263))
         have n15_ := zqi ((by rw [hg]; exact Nat.ne_of_lt (blk_lt (g := gb264) (o := .cells #[.int .i64 0, .int .i64 0, .int .i64 0, .slice none 0 0] 26 (0, 0)) (by (with_reducible repeat (first | apply zqa | apply zqb | apply zqc)); exact BK264.out)) : gb264 ≠ gb276))
         have n16_ := zqi ((by rw [hg]; exact Nat.ne_of_gt (blk_lt (g := gb264) (o := .cells #[.int .i64 0, .int .i64 0, .int .i64 0, .slice none 0 0] 26 (0, 0)) (by (with_reducible repeat (first | apply zqa | apply zqb | apply zqc)); exact BK264.out)) : gb276 ≠ gb264))
         clear HO_5
         clear HL270_0
         clear HL272_0
         clear HL274_0
         clear BK263
         clear BK264
         clear HR270_0
         clear HR272_0
         clear HR274_0
         clear HB
         have HO_5 := n0_
         have HL270_0 := n1_
         have HL272_0 := n2_
         have HL274_0 := n3_
         have BK263 := n4_
         have BK264 := n5_
         have HR270_0 := n6_
         have HR272_0 := n7_
         have HR274_0 := n8_
         have HB := n9_
         have BK276 := n10_
         have GW276 := n11_
         have GE276 := n12_
         have NB263_276 := n13_
         have NB276_263 := n14_
         have NB264_276 := n15_
         have NB276_264 := n16_
         clear n0_ n1_ n2_ n3_ n4_ n5_ n6_ n7_ n8_ n9_ n10_ n11_ n12_ n13_ n14_ n15_ n16_
         clear hb hbox hg
         refine hK.out _ _ ⟨HS0_, HS1_, HS2_, HS3_, HS4_, HS5_⟩ (fun hHeld => ?_)
         clear hK K
         refine norm_ (a' := ?_) ?_ ?_
         rotate_left
         ·
          show Act.put _ (some 7) _ = _
          simp only [Act.put, List.setIfInBounds_toArray, List.set_cons_zero, List.set_cons_succ, i64_w, i32_w]
          rfl
         refine one_ (i := 17) (N := none) #[true, true, true, true, true, true, true, true, true, true, true, true, true, true, true, true, true, true] rfl rfl (one_of HT_.out (by kernel_rfl)) (by decide) (fun K hK => ?_)
         have hs25 : w24.cell? ⟨gb276, 0, none⟩ = some (.int .i64 0) := (zqe BK276.out 0).trans rfl
         have hfs25 := zqd BK276.out 0
         have hns25_0 := NB263_276.out
         have hns25_1 := NB264_276.out
         have hms25_0 := NB276_263.out
         have hms25_1 := NB276_264.out
         have hs26 : w24.cell? ⟨gb276, 1, none⟩ = some (.int .i64 0) := (zqe BK276.out 1).trans rfl
         have hfs26 := zqd BK276.out 1
         have hns26_0 := NB263_276.out
         have hns26_1 := NB264_276.out
         have hms26_0 := NB276_263.out
         have hms26_1 := NB276_264.out
         have hs27 : w24.cell? ⟨gb276, 2, none⟩ = some (.int .i64 0) := (zqe BK276.out 2).trans rfl
         have hfs27 := zqd BK276.out 2
         have hns27_0 := NB263_276.out
         have hns27_1 := NB264_276.out
         have hms27_0 := NB276_263.out
         have hms27_1 := NB276_264.out
         have hs28 : w24.cell? ⟨gb276, 3, none⟩ = some (.slice none 0 0) := (zqe BK276.out 3).trans rfl
         have hfs28 := zqd BK276.out 3
         have hns28_0 := NB263_276.out
         have hns28_1 := NB264_276.out
         have hms28_0 := NB276_263.out
         have hms28_1 := NB276_264.out
         refine skip_ (w1 := ?_) (by rfl) rfl ?_ ?_
         rotate_left
         ·
          go_simp
          rfl
         refine hK.out _ _ ⟨((cell_far (p := ⟨gb276, _, none⟩) (by first | exact Kd.own_blk (Kd.S_ne HO_5.out BK276.out (by decide)) | (rw [add_block]; exact Kd.own_blk (Kd.S_ne HO_5.out BK276.out (by decide))) | (show (Addr.add _ _).block ≠ _; rw [add_block]; exact Kd.own_blk (Kd.S_ne HO_5.out BK276.out (by decide))) | (dsimp only; exact Kd.own_blk (Kd.S_ne HO_5.out BK276.out (by decide)))) _).trans (((cell_far (p := ⟨gb276, _, none⟩) (by first | exact Kd.own_blk (Kd.S_ne HO_5.out BK276.out (by decide)) | (rw [add_block]; exact Kd.own_blk (Kd.S_ne HO_5.out BK276.out (by decide))) | (show (Addr.add _ _).block ≠ _; rw [add_block]; exact Kd.own_blk (Kd.S_ne HO_5.out BK276.out (by decide))) | (dsimp only; exact Kd.own_blk (Kd.S_ne HO_5.out BK276.out (by decide)))) _).trans (((cell_far (p := ⟨gb276, _, none⟩) (by first | exact Kd.own_blk (Kd.S_ne HO_5.out BK276.out (by decide)) | (rw [add_block]; exact Kd.own_blk (Kd.S_ne HO_5.out BK276.out (by decide))) | (show (Addr.add _ _).block ≠ _; rw [add_block]; exact Kd.own_blk (Kd.S_ne HO_5.out BK276.out (by decide))) | (dsimp only; exact Kd.own_blk (Kd.S_ne HO_5.out BK276.out (by decide)))) _).trans (((cell_far (p := ⟨gb276, _, none⟩) (by first | exact Kd.own_blk (Kd.S_ne HO_5.out BK276.out (by decide)) | (rw [add_block]; exact Kd.own_blk (Kd.S_ne HO_5.out BK276.out (by decide))) | (show (Addr.add _ _).block ≠ _; rw [add_block]; exact Kd.own_blk (Kd.S_ne HO_5.out BK276.out (by decide))) | (dsimp only; exact Kd.own_blk (Kd.S_ne HO_5.out BK276.out (by decide)))) _).trans (hHeld.1)))))))), ((cell_far (p := ⟨gb276, _, none⟩) (by first | exact Kd.own_blk (Kd.R_ne HL270_0.out BK276.out (by decide)) | (rw [add_block]; exact Kd.own_blk (Kd.R_ne HL270_0.out BK276.out (by decide))) | (show (Addr.add _ _).block ≠ _; rw [add_block]; exact Kd.own_blk (Kd.R_ne HL270_0.out BK276.out (by decide))) | (dsimp only; exact Kd.own_blk (Kd.R_ne HL270_0.out BK276.out (by decide)))) _).trans (((cell_far (p := ⟨gb276, _, none⟩) (by first | exact Kd.own_blk (Kd.R_ne HL270_0.out BK276.out (by decide)) | (rw [add_block]; exact Kd.own_blk (Kd.R_ne HL270_0.out BK276.out (by decide))) | (show (Addr.add _ _).block ≠ _; rw [add_block]; exact Kd.own_blk (Kd.R_ne HL270_0.out BK276.out (by decide))) | (dsimp only; exact Kd.own_blk (Kd.R_ne HL270_0.out BK276.out (by decide)))) _).trans (((cell_far (p := ⟨gb276, _, none⟩) (by first | exact Kd.own_blk (Kd.R_ne HL270_0.out BK276.out (by decide)) | (rw [add_block]; exact Kd.own_blk (Kd.R_ne HL270_0.out BK276.out (by decide))) | (show (Addr.add _ _).block ≠ _; rw [add_block]; exact Kd.own_blk (Kd.R_ne HL270_0.out BK276.out (by decide))) | (dsimp only; exact Kd.own_blk (Kd.R_ne HL270_0.out BK276.out (by decide)))) _).trans (((cell_far (p := ⟨gb276, _, none⟩) (by first | exact Kd.own_blk (Kd.R_ne HL270_0.out BK276.out (by decide)) | (rw [add_block]; exact Kd.own_blk (Kd.R_ne HL270_0.out BK276.out (by decide))) | (show (Addr.add _ _).block ≠ _; rw [add_block]; exact Kd.own_blk (Kd.R_ne HL270_0.out BK276.out (by decide))) | (dsimp only; exact Kd.own_blk (Kd.R_ne HL270_0.out BK276.out (by decide)))) _).trans (hHeld.2.1)))))))), ((cell_far (p := ⟨gb276, _, none⟩) (by first | exact Kd.own_blk (Kd.S_ne HO_5.out BK276.out (by decide)) | (rw [add_block]; exact Kd.own_blk (Kd.S_ne HO_5.out BK276.out (by decide))) | (show (Addr.add _ _).block ≠ _; rw [add_block]; exact Kd.own_blk (Kd.S_ne HO_5.out BK276.out (by decide))) | (dsimp only; exact Kd.own_blk (Kd.S_ne HO_5.out BK276.out (by decide)))) _).trans (((cell_far (p := ⟨gb276, _, none⟩) (by first | exact Kd.own_blk (Kd.S_ne HO_5.out BK276.out (by decide)) | (rw [add_block]; exact Kd.own_blk (Kd.S_ne HO_5.out BK276.out (by decide))) | (show (Addr.add _ _).block ≠ _; rw [add_block]; exact Kd.own_blk (Kd.S_ne HO_5.out BK276.out (by decide))) | (dsimp only; exact Kd.own_blk (Kd.S_ne HO_5.out BK276.out (by decide)))) _).trans (((cell_far (p := ⟨gb276, _, none⟩) (by first | exact Kd.own_blk (Kd.S_ne HO_5.out BK276.out (by decide)) | (rw [add_block]; exact Kd.own_blk (Kd.S_ne HO_5.out BK276.out (by decide))) | (show (Addr.add _ _).block ≠ _; rw [add_block]; exact Kd.own_blk (Kd.S_ne HO_5.out BK276.out (by decide))) | (dsimp only; exact Kd.own_blk (Kd.S_ne HO_5.out BK276.out (by decide)))) _).trans (((cell_far (p := ⟨gb276, _, none⟩) (by first | exact Kd.own_blk (Kd.S_ne HO_5.out BK276.out (by decide)) | (rw [add_block]; exact Kd.own_blk (Kd.S_ne HO_5.out BK276.out (by decide))) | (show (Addr.add _ _).block ≠ _; rw [add_block]; exact Kd.own_blk (Kd.S_ne HO_5.out BK276.out (by decide))) | (dsimp only; exact Kd.own_blk (Kd.S_ne HO_5.out BK276.out (by decide)))) _).trans (hHeld.2.2.1)))))))), ((cell_far (p := ⟨gb276, _, none⟩) (by first | exact Kd.own_blk (Kd.R_ne HL272_0.out BK276.out (by decide)) | (rw [add_block]; exact Kd.own_blk (Kd.R_ne HL272_0.out BK276.out (by decide))) | (show (Addr.add _ _).block ≠ _; rw [add_block]; exact Kd.own_blk (Kd.R_ne HL272_0.out BK276.out (by decide))) | (dsimp only; exact Kd.own_blk (Kd.R_ne HL272_0.out BK276.out (by decide)))) _).trans (((cell_far (p := ⟨gb276, _, none⟩) (by first | exact Kd.own_blk (Kd.R_ne HL272_0.out BK276.out (by decide)) | (rw [add_block]; exact Kd.own_blk (Kd.R_ne HL272_0.out BK276.out (by decide))) | (show (Addr.add _ _).block ≠ _; rw [add_block]; exact Kd.own_blk (Kd.R_ne HL272_0.out BK276.out (by decide))) | (dsimp only; exact Kd.own_blk (Kd.R_ne HL272_0.out BK276.out (by decide)))) _).trans (((cell_far (p := ⟨gb276, _, none⟩) (by first | exact Kd.own_blk (Kd.R_ne HL272_0.out BK276.out (by decide)) | (rw [add_block]; exact Kd.own_blk (Kd.R_ne HL272_0.out BK276.out (by decide))) | (show (Addr.add _ _).block ≠ _; rw [add_block]; exact Kd.own_blk (Kd.R_ne HL272_0.out BK276.out (by decide))) | (dsimp only; exact Kd.own_blk (Kd.R_ne HL272_0.out BK276.out (by decide)))) _).trans (((cell_far (p := ⟨gb276, _, none⟩) (by first | exact Kd.own_blk (Kd.R_ne HL272_0.out BK276.out (by decide)) | (rw [add_block]; exact Kd.own_blk (Kd.R_ne HL272_0.out BK276.out (by decide))) | (show (Addr.add _ _).block ≠ _; rw [add_block]; exact Kd.own_blk (Kd.R_ne HL272_0.out BK276.out (by decide))) | (dsimp only; exact Kd.own_blk (Kd.R_ne HL272_0.out BK276.out (by decide)))) _).trans (hHeld.2.2.2.1)))))))), ((cell_far (p := ⟨gb276, _, none⟩) (by first | exact Kd.own_blk (Kd.S_ne HO_5.out BK276.out (by decide)) | (rw [add_block]; exact Kd.own_blk (Kd.S_ne HO_5.out BK276.out (by decide))) | (show (Addr.add _ _).block ≠ _; rw [add_block]; exact Kd.own_blk (Kd.S_ne HO_5.out BK276.out (by decide))) | (dsimp only; exact Kd.own_blk (Kd.S_ne HO_5.out BK276.out (by decide)))) _).trans (((cell_far (p := ⟨gb276, _, none⟩) (by first | exact Kd.own_blk (Kd.S_ne HO_5.out BK276.out (by decide)) | (rw [add_block]; exact Kd.own_blk (Kd.S_ne HO_5.out BK276.out (by decide))) | (show (Addr.add _ _).block ≠ _; rw [add_block]; exact Kd.own_blk (Kd.S_ne HO_5.out BK276.out (by decide))) | (dsimp only; exact Kd.own_blk (Kd.S_ne HO_5.out BK276.out (by decide)))) _).trans (((cell_far (p := ⟨gb276, _, none⟩) (by first | exact Kd.own_blk (Kd.S_ne HO_5.out BK276.out (by decide)) | (rw [add_block]; exact Kd.own_blk (Kd.S_ne HO_5.out BK276.out (by decide))) | (show (Addr.add _ _).block ≠ _; rw [add_block]; exact Kd.own_blk (Kd.S_ne HO_5.out BK276.out (by decide))) | (dsimp only; exact Kd.own_blk (Kd.S_ne HO_5.out BK276.out (by decide)))) _).trans (((cell_far (p := ⟨gb276, _, none⟩) (by first | exact Kd.own_blk (Kd.S_ne HO_5.out BK276.out (by decide)) | (rw [add_block]; exact Kd.own_blk (Kd.S_ne HO_5.out BK276.out (by decide))) | (show (Addr.add _ _).block ≠ _; rw [add_block]; exact Kd.own_blk (Kd.S_ne HO_5.out BK276.out (by decide))) | (dsimp only; exact Kd.own_blk (Kd.S_ne HO_5.out BK276.out (by decide)))) _).trans (hHeld.2.2.2.2.1)))))))), ((cell_far (p := ⟨gb276, _, none⟩) (by first | exact Kd.own_blk (Kd.R_ne HL274_0.out BK276.out (by decide)) | (rw [add_block]; exact Kd.own_blk (Kd.R_ne HL274_0.out BK276.out (by decide))) | (show (Addr.add _ _).block ≠ _; rw [add_block]; exact Kd.own_blk (Kd.R_ne HL274_0.out BK276.out (by decide))) | (dsimp only; exact Kd.own_blk (Kd.R_ne HL274_0.out BK276.out (by decide)))) _).trans (((cell_far (p := ⟨gb276, _, none⟩) (by first | exact Kd.own_blk (Kd.R_ne HL274_0.out BK276.out (by decide)) | (rw [add_block]; exact Kd.own_blk (Kd.R_ne HL274_0.out BK276.out (by decide))) | (show (Addr.add _ _).block ≠ _; rw [add_block]; exact Kd.own_blk (Kd.R_ne HL274_0.out BK276.out (by decide))) | (dsimp only; exact Kd.own_blk (Kd.R_ne HL274_0.out BK276.out (by decide)))) _).trans (((cell_far (p := ⟨gb276, _, none⟩) (by first | exact Kd.own_blk (Kd.R_ne HL274_0.out BK276.out (by decide)) | (rw [add_block]; exact Kd.own_blk (Kd.R_ne HL274_0.out BK276.out (by decide))) | (show (Addr.add _ _).block ≠ _; rw [add_block]; exact Kd.own_blk (Kd.R_ne HL274_0.out BK276.out (by decide))) | (dsimp only; exact Kd.own_blk (Kd.R_ne HL274_0.out BK276.out (by decide)))) _).trans (((cell_far (p := ⟨gb276, _, none⟩) (by first | exact Kd.own_blk (Kd.R_ne HL274_0.out BK276.out (by decide)) | (rw [add_block]; exact Kd.own_blk (Kd.R_ne HL274_0.out BK276.out (by decide))) | (show (Addr.add _ _).block ≠ _; rw [add_block]; exact Kd.own_blk (Kd.R_ne HL274_0.out BK276.out (by decide))) | (dsimp only; exact Kd.own_blk (Kd.R_ne HL274_0.out BK276.out (by decide)))) _).trans (hHeld.2.2.2.2.2))))))))⟩ (fun hHeld => ?_)
         clear hK K
         refine done_ (done_of HT_.out (by kernel_rfl)) ?_
         try go_wp2
         go_loopg [8] kj3 (fun kq v8 w' => ∃ (x8_2 : Int) (x264000_2 : Int) (x264001_2 : Int) (x264002_2 : Int) (x277003_2 : List (S34)) (u277003 : Value), v8 = .int .i64 x8_2 ∧ Aside0 (haulierref05_Parse.l0 kq t265 x8_2 0 0 0 (rd (rd_L3 t265 0) 0) (rd (rd_L3 t265 0) 1) (rd (rd_L3 t265 0) 2) x277003_2 = some (r1, r2, r3, r4, r5)) ∧ Aside0 (kq ≤ kj3) ∧ Aside0 (Kd.S (Kd.slice 3 (Kd.int .i64)) 43 w' w.heap.size (fun _ => True) (.slice (some ad270) t265.length co23) t265) ∧ Aside0 (Kd.R k34 34 w' w.heap.size (fun _ => True) u277003 x277003_2) ∧ Aside0 (w'.heap[gb263]? = some (.cells #[.int .i64 x264000_2, .int .i64 x264001_2, .int .i64 x264002_2, (.slice none 0 0)] 26 (0, 0))) ∧ Aside0 (w'.heap[gb264]? = some (.cells #[.int .i64 0, .int .i64 0, .int .i64 0, (.slice none 0 0)] 26 (0, 0))) ∧ Aside0 (w'.heap[gb276]? = some (.cells #[.int .i64 (rd (rd_L3 t265 0) 0), .int .i64 (rd (rd_L3 t265 0) 1), .int .i64 (rd (rd_L3 t265 0) 2), u277003] 26 (0, 0))) ∧ Aside0 (Below w.heap.size w w'))
         case atStart => exact ⟨(1), (0), (0), (0), (([] : List (S34))), (.slice none 0 0), (by first | rfl | (simp; done) | (simp [*]; done)), H', ⟨Nat.le_refl _⟩, ⟨by (with_reducible repeat (first | apply Kd.S_alloc | apply Kd.S_drewN | apply Kd.S_drew)); exact Kd.S_mono (Kd.S_far (p := ⟨gb276, 3, none⟩) (Kd.S_far (p := ⟨gb276, 2, none⟩) (Kd.S_far (p := ⟨gb276, 1, none⟩) (Kd.S_far (p := ⟨gb276, 0, none⟩) (Kd.S_types HO_5.out BK276.out (by decide)) (fun _ hk => hk.2) (.int .i64 (rd (rd_L3 t265 0) 0))) (fun _ hk => hk.2) (.int .i64 (rd (rd_L3 t265 0) 1))) (fun _ hk => hk.2) (.int .i64 (rd (rd_L3 t265 0) 2))) (fun _ hk => hk.2) (.slice none 0 0)) (fun _ hk => trivial)⟩, ⟨by first | exact Kd.R_nil _ _ _ _ _ | exact Kd.N_nil _ _ _ _ _ | exact Kd.V_nil _ _ _ _ _ | exact Kd.Q_nil _ _ _ _ _ | exact Kd.S_nil _ _ _ _ _⟩, ⟨by (with_reducible repeat (first | apply zqa | apply zqb | apply zqc)); refine blk_far ?_ NB263_276.out _; (with_reducible repeat (first | apply zqa | apply zqb | apply zqc)); refine blk_far ?_ NB263_276.out _; (with_reducible repeat (first | apply zqa | apply zqb | apply zqc)); refine blk_far ?_ NB263_276.out _; (with_reducible repeat (first | apply zqa | apply zqb | apply zqc)); refine blk_far ?_ NB263_276.out _; (with_reducible repeat (first | apply zqa | apply zqb | apply zqc)); exact BK263.out⟩, ⟨by (with_reducible repeat (first | apply zqa | apply zqb | apply zqc)); refine blk_far ?_ NB264_276.out _; (with_reducible repeat (first | apply zqa | apply zqb | apply zqc)); refine blk_far ?_ NB264_276.out _; (with_reducible repeat (first | apply zqa | apply zqb | apply zqc)); refine blk_far ?_ NB264_276.out _; (with_reducible repeat (first | apply zqa | apply zqb | apply zqc)); refine blk_far ?_ NB264_276.out _; (with_reducible repeat (first | apply zqa | apply zqb | apply zqc)); exact BK264.out⟩, ⟨by (with_reducible repeat (first | apply zqa | apply zqb | apply zqc)); refine blk_put (cs := #[.int .i64 (rd (rd_L3 t265 0) 0), .int .i64 (rd (rd_L3 t265 0) 1), .int .i64 (rd (rd_L3 t265 0) 2), .slice none 0 0]) ?_ 3 _ rfl; (with_reducible repeat (first | apply zqa | apply zqb | apply zqc)); refine blk_put (cs := #[.int .i64 (rd (rd_L3 t265 0) 0), .int .i64 (rd (rd_L3 t265 0) 1), .int .i64 0, .slice none 0 0]) ?_ 2 _ rfl; (with_reducible repeat (first | apply zqa | apply zqb | apply zqc)); refine blk_put (cs := #[.int .i64 (rd (rd_L3 t265 0) 0), .int .i64 0, .int .i64 0, .slice none 0 0]) ?_ 1 _ rfl; (with_reducible repeat (first | apply zqa | apply zqb | apply zqc)); refine blk_put (cs := #[.int .i64 0, .int .i64 0, .int .i64 0, .slice none 0 0]) ?_ 0 _ rfl; (with_reducible repeat (first | apply zqa | apply zqb | apply zqc)); exact BK276.out⟩, ⟨by repeat (first | (with_reducible first | exact HB.out | apply zqg | apply zqf | apply zqh | refine below_set ?_ GE263.out | refine below_set ?_ GE264.out | refine below_set ?_ GE276.out) | exact HB.out)⟩⟩
         case round =>
          clear H'
          try clear c1
          try clear c2
          try clear p2
          try clear q2
          try clear hx2
          try clear qi2
          try clear c3
          try clear c3b0
          try clear c3b1
          try clear c7
          try clear c10
          try clear c10b0
          try clear c10b1
          try clear c10b2
          try clear c11
          try clear c12
          try clear c12b0
          try clear c12b1
          try clear c14
          try clear c15
          try clear c18
          try clear c18b0
          try clear c18b1
          try clear c19
          try clear c19b0
          try clear c19b1
          try clear c20
          try clear c20b0
          try clear c20b1
          try clear c21
          try clear c21b0
          try clear c21b1
          try clear c23
          try clear c26
          try clear p26
          try clear q26
          try clear hx26
          try clear qi26
          try clear c27
          try clear p27
          try clear q27
          try clear hx27
          try clear qi27
          try clear hcz16_0
          try clear hcz16_1
          try clear hcz16_2
          try clear hcz16_3
          try clear hcz17_0
          try clear hcz17_1
          try clear hcz17_2
          try clear hcz17_3
          try clear hcz8_0
          try clear hcz8_1
          try clear hcz8_2
          try clear hcz8_3
          try clear hfz16_0
          try clear hfz16_1
          try clear hfz16_2
          try clear hfz16_3
          try clear hfz17_0
          try clear hfz17_1
          try clear hfz17_2
          try clear hfz17_3
          try clear hfz8_0
          try clear hfz8_1
          try clear hfz8_2
          try clear hfz8_3
          try clear hx269_0
          try clear hx270_0
          try clear hx271_0
          try clear hx272_0
          try clear hx273_0
          try clear hx274_0
          try clear hx275_0
          try clear p2
          try clear p269
          try clear p270
          try clear p271
          try clear p272
          try clear p273
          try clear p274
          try clear p275
          try clear q2
          try clear q269
          try clear q270
          try clear q271
          try clear q272
          try clear q273
          try clear q274
          try clear q275
          obtain ⟨x8_2, x264000_2, x264001_2, x264002_2, x277003_2, u277003, rfl, HA, HK2, HO_5, HO_277003, BK263, BK264, BK276, HB⟩ := hrel
          cases gk with
          | zero => exact absurd HA.out (by simp [haulierref05_Parse.l0])
          | succ k2 =>
           have H := HA.out
           clear HA
           simp only [haulierref05_Parse.l0] at H
           by_cases c29 : x8_2 < (t265.length : Int)
           ·
            rw [if_pos c29] at H
            have c29b0 : decide (x8_2 < (t265.length : Int)) = true := decide_eq_true c29
            clear c29
            by_cases c30 : 0 ≤ x8_2
            ·
             rw [if_pos c30] at H
             have c30b0 : decide (0 ≤ x8_2) = true := decide_eq_true c30
             clear c30
             by_cases c31 : ((rd_L3 t265 x8_2).length : Int) = 6
             ·
              rw [if_pos c31] at H
              have c31b0 : (((rd_L3 t265 x8_2).length : Int) == 6) = true := beq_iff_eq.mpr c31
              have c31b1 : (((rd_L3 t265 x8_2).length : Int) != 6) = false := bne_eq_false_iff_eq.mpr c31
              clear c31
              by_cases c32 : 0 < ((rd_L3 t265 x8_2).length : Int)
              ·
               rw [if_pos c32] at H
               have c32b0 : decide (0 < ((rd_L3 t265 x8_2).length : Int)) = true := decide_eq_true c32
               have c32b1 : decide (0 < (rd_L3 t265 x8_2).length) = true := decide_eq_true (by omega)
               clear c32
               by_cases c33 : 1 < ((rd_L3 t265 x8_2).length : Int)
               ·
                rw [if_pos c33] at H
                have c33b0 : decide (1 < ((rd_L3 t265 x8_2).length : Int)) = true := decide_eq_true c33
                have c33b1 : decide (1 < (rd_L3 t265 x8_2).length) = true := decide_eq_true (by omega)
                clear c33
                by_cases c34 : 2 < ((rd_L3 t265 x8_2).length : Int)
                ·
                 rw [if_pos c34] at H
                 have c34b0 : decide (2 < ((rd_L3 t265 x8_2).length : Int)) = true := decide_eq_true c34
                 have c34b1 : decide (2 < (rd_L3 t265 x8_2).length) = true := decide_eq_true (by omega)
                 clear c34
                 by_cases c35 : 3 < ((rd_L3 t265 x8_2).length : Int)
                 ·
                  rw [if_pos c35] at H
                  have c35b0 : decide (3 < ((rd_L3 t265 x8_2).length : Int)) = true := decide_eq_true c35
                  have c35b1 : decide (3 < (rd_L3 t265 x8_2).length) = true := decide_eq_true (by omega)
                  clear c35
                  by_cases c36 : 4 < ((rd_L3 t265 x8_2).length : Int)
                  ·
                   rw [if_pos c36] at H
                   have c36b0 : decide (4 < ((rd_L3 t265 x8_2).length : Int)) = true := decide_eq_true c36
                   have c36b1 : decide (4 < (rd_L3 t265 x8_2).length) = true := decide_eq_true (by omega)
                   clear c36
                   by_cases c37 : 5 < ((rd_L3 t265 x8_2).length : Int)
                   ·
                    rw [if_pos c37] at H
                    have c37b0 : decide (5 < ((rd_L3 t265 x8_2).length : Int)) = true := decide_eq_true c37
                    have c37b1 : decide (5 < (rd_L3 t265 x8_2).length) = true := decide_eq_true (by omega)
                    clear c37
                    by_cases c38 : x277003_2.length < 2932031007402
                    ·
                     rw [if_pos c38] at H
                     have LMc38 := zqi c38
                     clear c38
                     obtain ⟨y290, hy290⟩ : ∃ y_ : List (S34), y_ = (x277003_2 ++ [(⟨rd (rd_L3 t265 x8_2) 0, rd (rd_L3 t265 x8_2) 1, rd (rd_L3 t265 x8_2) 2, rd (rd_L3 t265 x8_2) 3, rd (rd_L3 t265 x8_2) 4, rd (rd_L3 t265 x8_2) 5⟩ : S34)]) := ⟨_, rfl⟩
                     replace H : (haulierref05_Parse.l0 k2 t265 (wrap64 (x8_2 + 1)) 0 0 0 (rd (rd_L3 t265 0) 0) (rd (rd_L3 t265 0) 1) (rd (rd_L3 t265 0) 2) y290) = some (r1, r2, r3, r4, r5) := by first | (rw [hy290]; with_reducible exact H) | (have H2_ := (Option.bind_some _ _).symm.trans H; rw [hy290]; with_reducible exact H2_) | (have H2_ := (Option.bind_some _ _).symm.trans H; with_reducible exact H2_) | with_reducible exact H | (rw [hy290]; exact H) | exact H
                     have Ny290 := zqi hy290
                     clear hy290
                     have H' := zqi H
                     clear H
                     have p277 : 0 ≤ (x8_2 : Int) := of_decide_eq_true (by first | (with_reducible assumption) | assumption)
                     have q277 : x8_2 < (t265.length : Int) := of_decide_eq_true (by first | (with_reducible assumption) | assumption)
                     obtain ⟨ad277, A277_0, c277_0, e277, hx277_0, hl277_0, hi277_0⟩ := at_L3 (Kd.S_reads' HO_5.out).2.2 x8_2 p277 q277
                     obtain rfl : ad270 = ad277 := (by injection e277)
                     obtain ⟨ce277, hce277, hMe277, hcc277⟩ := Kd.S_get HO_5.out [] x8_2 p277 (by first | exact q277 | exact of_decide_eq_true (by first | (with_reducible assumption) | assumption) | (have e_ := (Kd.S_reads' HO_5.out).1; omega))
                     obtain ⟨ve277_0, rfl, ge277_0⟩ := hMe277
                     have hv277_0 := hcc277 0 _ rfl
                     rw [Nat.add_zero, show ((Kd.slice 3 (Kd.int .i64))).sz = 1 from rfl, Nat.mul_one] at hv277_0
                     replace hv277_0 := Option.some.inj (hv277_0.symm.trans hx277_0)
                     rw [hv277_0] at ge277_0
                     have HL277_0 := zqi (show Kd.R (Kd.int .i64) 3 _ _ _ _ (rd_L3 t265 x8_2) from ge277_0)
                     clear hv277_0 ge277_0
                     clear hcc277 hce277
                     have HR277_0 := zqi hi277_0
                     have HC277_0 := zqi hl277_0
                     clear hi277_0 hl277_0
                     replace p277 := eq_true p277
                     replace q277 := eq_true q277
                     try go_wp2
                     have n0_ := zqi (Kd.S_drew HO_5.out)
                     have n1_ := zqi (Kd.R_drew HO_277003.out)
                     have n2_ := zqi (Kd.R_drew HL277_0.out)
                     have n3_ := zqi (zqb BK263.out)
                     have n4_ := zqi (zqb BK264.out)
                     have n5_ := zqi (zqb BK276.out)
                     have n6_ := zqi (Kd.C_drew HR277_0.out)
                     have n7_ := zqi (zqh HB.out)
                     clear HO_5
                     clear HO_277003
                     clear HL277_0
                     clear BK263
                     clear BK264
                     clear BK276
                     clear HR277_0
                     clear HB
                     have HO_5 := n0_
                     have HO_277003 := n1_
                     have HL277_0 := n2_
                     have BK263 := n3_
                     have BK264 := n4_
                     have BK276 := n5_
                     have HR277_0 := n6_
                     have HB := n7_
                     clear n0_ n1_ n2_ n3_ n4_ n5_ n6_ n7_
                     have p278 : 0 ≤ (x8_2 : Int) := of_decide_eq_true (by first | (with_reducible assumption) | assumption)
                     have q278 : x8_2 < (t265.length : Int) := of_decide_eq_true (by first | (with_reducible assumption) | assumption)
                     obtain ⟨ad278, A278_0, c278_0, e278, hx278_0, hl278_0, hi278_0⟩ := at_L3 (Kd.S_reads' HO_5.out).2.2 x8_2 p278 q278
                     obtain rfl : ad270 = ad278 := (by injection e278)
                     obtain ⟨ce278, hce278, hMe278, hcc278⟩ := Kd.S_get HO_5.out [] x8_2 p278 (by first | exact q278 | exact of_decide_eq_true (by first | (with_reducible assumption) | assumption) | (have e_ := (Kd.S_reads' HO_5.out).1; omega))
                     obtain ⟨ve278_0, rfl, ge278_0⟩ := hMe278
                     have hv278_0 := hcc278 0 _ rfl
                     rw [Nat.add_zero, show ((Kd.slice 3 (Kd.int .i64))).sz = 1 from rfl, Nat.mul_one] at hv278_0
                     replace hv278_0 := Option.some.inj (hv278_0.symm.trans hx278_0)
                     rw [hv278_0] at ge278_0
                     have HL278_0 := zqi (show Kd.R (Kd.int .i64) 3 _ _ _ _ (rd_L3 t265 x8_2) from ge278_0)
                     clear hv278_0 ge278_0
                     clear hcc278 hce278
                     have HR278_0 := zqi hi278_0
                     have HC278_0 := zqi hl278_0
                     clear hi278_0 hl278_0
                     replace p278 := eq_true p278
                     replace q278 := eq_true q278
                     have p279 : 0 ≤ (0 : Int) := (by omega)
                     have q279 : 0 < ((rd_L3 t265 x8_2).length : Int) := of_decide_eq_true (by first | (with_reducible assumption) | assumption)
                     obtain ⟨ad279, e279, hx279_0⟩ := Kd.at_int (by repeat (first | (with_reducible exact HR278_0.out) | (with_reducible refine Kd.C_alloc ?_ _) | (with_reducible refine Kd.C_drewN ?_ _) | (with_reducible refine Kd.C_drew ?_) | exact HR278_0.out)) 0 p279 q279
                     cases e279
                     have qi279 : (0 < (rd_L3 t265 x8_2).length) = True := eq_true (by omega)
                     (try rw [show ((0 : Int)).toNat = 0 from rfl] at hx279_0)
                     (try rw [Addr.add_zero'] at hx279_0)
                     replace p279 := eq_true p279
                     replace q279 := eq_true q279
                     have p280 : 0 ≤ (x8_2 : Int) := of_decide_eq_true (by first | (with_reducible assumption) | assumption)
                     have q280 : x8_2 < (t265.length : Int) := of_decide_eq_true (by first | (with_reducible assumption) | assumption)
                     obtain ⟨ad280, A280_0, c280_0, e280, hx280_0, hl280_0, hi280_0⟩ := at_L3 (Kd.S_reads' HO_5.out).2.2 x8_2 p280 q280
                     obtain rfl : ad270 = ad280 := (by injection e280)
                     obtain ⟨ce280, hce280, hMe280, hcc280⟩ := Kd.S_get HO_5.out [] x8_2 p280 (by first | exact q280 | exact of_decide_eq_true (by first | (with_reducible assumption) | assumption) | (have e_ := (Kd.S_reads' HO_5.out).1; omega))
                     obtain ⟨ve280_0, rfl, ge280_0⟩ := hMe280
                     have hv280_0 := hcc280 0 _ rfl
                     rw [Nat.add_zero, show ((Kd.slice 3 (Kd.int .i64))).sz = 1 from rfl, Nat.mul_one] at hv280_0
                     replace hv280_0 := Option.some.inj (hv280_0.symm.trans hx280_0)
                     rw [hv280_0] at ge280_0
                     have HL280_0 := zqi (show Kd.R (Kd.int .i64) 3 _ _ _ _ (rd_L3 t265 x8_2) from ge280_0)
                     clear hv280_0 ge280_0
                     clear hcc280 hce280
                     have HR280_0 := zqi hi280_0
                     have HC280_0 := zqi hl280_0
                     clear hi280_0 hl280_0
                     replace p280 := eq_true p280
                     replace q280 := eq_true q280
                     have ea_ := Option.some.inj (hx278_0.symm.trans hx280_0)
                     injection ea_ with ea_ en_ ec_
                     subst ea_
                     subst ec_
                     clear en_
                     have p281 : 0 ≤ (1 : Int) := (by omega)
                     have q281 : 1 < ((rd_L3 t265 x8_2).length : Int) := of_decide_eq_true (by first | (with_reducible assumption) | assumption)
                     obtain ⟨ad281, e281, hx281_0⟩ := Kd.at_int (by repeat (first | (with_reducible exact HR280_0.out) | (with_reducible refine Kd.C_alloc ?_ _) | (with_reducible refine Kd.C_drewN ?_ _) | (with_reducible refine Kd.C_drew ?_) | exact HR280_0.out)) 1 p281 q281
                     cases e281
                     (try simp only [show (1 : Int).toNat = 1 from rfl, Nat.reduceMul, Nat.reduceEqDiff, Go.Addr.add, ↓reduceIte] at hx281_0)
                     have qi281 : (1 < (rd_L3 t265 x8_2).length) = True := eq_true (by omega)
                     (try rw [show ((1 : Int)).toNat = 1 from rfl] at hx281_0)
                     replace p281 := eq_true p281
                     replace q281 := eq_true q281
                     have p282 : 0 ≤ (x8_2 : Int) := of_decide_eq_true (by first | (with_reducible assumption) | assumption)
                     have q282 : x8_2 < (t265.length : Int) := of_decide_eq_true (by first | (with_reducible assumption) | assumption)
                     obtain ⟨ad282, A282_0, c282_0, e282, hx282_0, hl282_0, hi282_0⟩ := at_L3 (Kd.S_reads' HO_5.out).2.2 x8_2 p282 q282
                     obtain rfl : ad270 = ad282 := (by injection e282)
                     obtain ⟨ce282, hce282, hMe282, hcc282⟩ := Kd.S_get HO_5.out [] x8_2 p282 (by first | exact q282 | exact of_decide_eq_true (by first | (with_reducible assumption) | assumption) | (have e_ := (Kd.S_reads' HO_5.out).1; omega))
                     obtain ⟨ve282_0, rfl, ge282_0⟩ := hMe282
                     have hv282_0 := hcc282 0 _ rfl
                     rw [Nat.add_zero, show ((Kd.slice 3 (Kd.int .i64))).sz = 1 from rfl, Nat.mul_one] at hv282_0
                     replace hv282_0 := Option.some.inj (hv282_0.symm.trans hx282_0)
                     rw [hv282_0] at ge282_0
                     have HL282_0 := zqi (show Kd.R (Kd.int .i64) 3 _ _ _ _ (rd_L3 t265 x8_2) from ge282_0)
                     clear hv282_0 ge282_0
                     clear hcc282 hce282
                     have HR282_0 := zqi hi282_0
                     have HC282_0 := zqi hl282_0
                     clear hi282_0 hl282_0
                     replace p282 := eq_true p282
                     replace q282 := eq_true q282
                     have ea_ := Option.some.inj (hx278_0.symm.trans hx282_0)
                     injection ea_ with ea_ en_ ec_
                     subst ea_
                     subst ec_
                     clear en_
                     have p283 : 0 ≤ (2 : Int) := (by omega)
                     have q283 : 2 < ((rd_L3 t265 x8_2).length : Int) := of_decide_eq_true (by first | (with_reducible assumption) | assumption)
                     obtain ⟨ad283, e283, hx283_0⟩ := Kd.at_int (by repeat (first | (with_reducible exact HR282_0.out) | (with_reducible refine Kd.C_alloc ?_ _) | (with_reducible refine Kd.C_drewN ?_ _) | (with_reducible refine Kd.C_drew ?_) | exact HR282_0.out)) 2 p283 q283
                     cases e283
                     (try simp only [show (2 : Int).toNat = 2 from rfl, Nat.reduceMul, Nat.reduceEqDiff, Go.Addr.add, ↓reduceIte] at hx283_0)
                     have qi283 : (2 < (rd_L3 t265 x8_2).length) = True := eq_true (by omega)
                     (try rw [show ((2 : Int)).toNat = 2 from rfl] at hx283_0)
                     replace p283 := eq_true p283
                     replace q283 := eq_true q283
                     have p284 : 0 ≤ (x8_2 : Int) := of_decide_eq_true (by first | (with_reducible assumption) | assumption)
                     have q284 : x8_2 < (t265.length : Int) := of_decide_eq_true (by first | (with_reducible assumption) | assumption)
                     obtain ⟨ad284, A284_0, c284_0, e284, hx284_0, hl284_0, hi284_0⟩ := at_L3 (Kd.S_reads' HO_5.out).2.2 x8_2 p284 q284
                     obtain rfl : ad270 = ad284 := (by injection e284)
                     obtain ⟨ce284, hce284, hMe284, hcc284⟩ := Kd.S_get HO_5.out [] x8_2 p284 (by first | exact q284 | exact of_decide_eq_true (by first | (with_reducible assumption) | assumption) | (have e_ := (Kd.S_reads' HO_5.out).1; omega))
                     obtain ⟨ve284_0, rfl, ge284_0⟩ := hMe284
                     have hv284_0 := hcc284 0 _ rfl
                     rw [Nat.add_zero, show ((Kd.slice 3 (Kd.int .i64))).sz = 1 from rfl, Nat.mul_one] at hv284_0
                     replace hv284_0 := Option.some.inj (hv284_0.symm.trans hx284_0)
                     rw [hv284_0] at ge284_0
                     have HL284_0 := zqi (show Kd.R (Kd.int .i64) 3 _ _ _ _ (rd_L3 t265 x8_2) from ge284_0)
                     clear hv284_0 ge284_0
                     clear hcc284 hce284
                     have HR284_0 := zqi hi284_0
                     have HC284_0 := zqi hl284_0
                     clear hi284_0 hl284_0
                     replace p284 := eq_true p284
                     replace q284 := eq_true q284
                     have ea_ := Option.some.inj (hx278_0.symm.trans hx284_0)
                     injection ea_ with ea_ en_ ec_
                     subst ea_
                     subst ec_
                     clear en_
                     have p285 : 0 ≤ (3 : Int) := (by omega)
                     have q285 : 3 < ((rd_L3 t265 x8_2).length : Int) := of_decide_eq_true (by first | (with_reducible assumption) | assumption)
                     obtain ⟨ad285, e285, hx285_0⟩ := Kd.at_int (by repeat (first | (with_reducible exact HR284_0.out) | (with_reducible refine Kd.C_alloc ?_ _) | (with_reducible refine Kd.C_drewN ?_ _) | (with_reducible refine Kd.C_drew ?_) | exact HR284_0.out)) 3 p285 q285
                     cases e285
                     (try simp only [show (3 : Int).toNat = 3 from rfl, Nat.reduceMul, Nat.reduceEqDiff, Go.Addr.add, ↓reduceIte] at hx285_0)
                     have qi285 : (3 < (rd_L3 t265 x8_2).length) = True := eq_true (by omega)
                     (try rw [show ((3 : Int)).toNat = 3 from rfl] at hx285_0)
                     replace p285 := eq_true p285
                     replace q285 := eq_true q285
                     have p286 : 0 ≤ (x8_2 : Int) := of_decide_eq_true (by first | (with_reducible assumption) | assumption)
                     have q286 : x8_2 < (t265.length : Int) := of_decide_eq_true (by first | (with_reducible assumption) | assumption)
                     obtain ⟨ad286, A286_0, c286_0, e286, hx286_0, hl286_0, hi286_0⟩ := at_L3 (Kd.S_reads' HO_5.out).2.2 x8_2 p286 q286
                     obtain rfl : ad270 = ad286 := (by injection e286)
                     obtain ⟨ce286, hce286, hMe286, hcc286⟩ := Kd.S_get HO_5.out [] x8_2 p286 (by first | exact q286 | exact of_decide_eq_true (by first | (with_reducible assumption) | assumption) | (have e_ := (Kd.S_reads' HO_5.out).1; omega))
                     obtain ⟨ve286_0, rfl, ge286_0⟩ := hMe286
                     have hv286_0 := hcc286 0 _ rfl
                     rw [Nat.add_zero, show ((Kd.slice 3 (Kd.int .i64))).sz = 1 from rfl, Nat.mul_one] at hv286_0
                     replace hv286_0 := Option.some.inj (hv286_0.symm.trans hx286_0)
                     rw [hv286_0] at ge286_0
                     have HL286_0 := zqi (show Kd.R (Kd.int .i64) 3 _ _ _ _ (rd_L3 t265 x8_2) from ge286_0)
                     clear hv286_0 ge286_0
                     clear hcc286 hce286
                     have HR286_0 := zqi hi286_0
                     have HC286_0 := zqi hl286_0
                     clear hi286_0 hl286_0
                     replace p286 := eq_true p286
                     replace q286 := eq_true q286
                     have ea_ := Option.some.inj (hx278_0.symm.trans hx286_0)
                     injection ea_ with ea_ en_ ec_
                     subst ea_
                     subst ec_
                     clear en_
                     have p287 : 0 ≤ (4 : Int) := (by omega)
                     have q287 : 4 < ((rd_L3 t265 x8_2).length : Int) := of_decide_eq_true (by first | (with_reducible assumption) | assumption)
                     obtain ⟨ad287, e287, hx287_0⟩ := Kd.at_int (by repeat (first | (with_reducible exact HR286_0.out) | (with_reducible refine Kd.C_alloc ?_ _) | (with_reducible refine Kd.C_drewN ?_ _) | (with_reducible refine Kd.C_drew ?_) | exact HR286_0.out)) 4 p287 q287
                     cases e287
                     (try simp only [show (4 : Int).toNat = 4 from rfl, Nat.reduceMul, Nat.reduceEqDiff, Go.Addr.add, ↓reduceIte] at hx287_0)
                     have qi287 : (4 < (rd_L3 t265 x8_2).length) = True := eq_true (by omega)
                     (try rw [show ((4 : Int)).toNat = 4 from rfl] at hx287_0)
                     replace p287 := eq_true p287
                     replace q287 := eq_true q287
                     have p288 : 0 ≤ (x8_2 : Int) := of_decide_eq_true (by first | (with_reducible assumption) | assumption)
                     have q288 : x8_2 < (t265.length : Int) := of_decide_eq_true (by first | (with_reducible assumption) | assumption)
                     obtain ⟨ad288, A288_0, c288_0, e288, hx288_0, hl288_0, hi288_0⟩ := at_L3 (Kd.S_reads' HO_5.out).2.2 x8_2 p288 q288
                     obtain rfl : ad270 = ad288 := (by injection e288)
                     obtain ⟨ce288, hce288, hMe288, hcc288⟩ := Kd.S_get HO_5.out [] x8_2 p288 (by first | exact q288 | exact of_decide_eq_true (by first | (with_reducible assumption) | assumption) | (have e_ := (Kd.S_reads' HO_5.out).1; omega))
                     obtain ⟨ve288_0, rfl, ge288_0⟩ := hMe288
                     have hv288_0 := hcc288 0 _ rfl
                     rw [Nat.add_zero, show ((Kd.slice 3 (Kd.int .i64))).sz = 1 from rfl, Nat.mul_one] at hv288_0
                     replace hv288_0 := Option.some.inj (hv288_0.symm.trans hx288_0)
                     rw [hv288_0] at ge288_0
                     have HL288_0 := zqi (show Kd.R (Kd.int .i64) 3 _ _ _ _ (rd_L3 t265 x8_2) from ge288_0)
                     clear hv288_0 ge288_0
                     clear hcc288 hce288
                     have HR288_0 := zqi hi288_0
                     have HC288_0 := zqi hl288_0
                     clear hi288_0 hl288_0
                     replace p288 := eq_true p288
                     replace q288 := eq_true q288
                     have ea_ := Option.some.inj (hx278_0.symm.trans hx288_0)
                     injection ea_ with ea_ en_ ec_
                     subst ea_
                     subst ec_
                     clear en_
                     have p289 : 0 ≤ (5 : Int) := (by omega)
                     have q289 : 5 < ((rd_L3 t265 x8_2).length : Int) := of_decide_eq_true (by first | (with_reducible assumption) | assumption)
                     obtain ⟨ad289, e289, hx289_0⟩ := Kd.at_int (by repeat (first | (with_reducible exact HR288_0.out) | (with_reducible refine Kd.C_alloc ?_ _) | (with_reducible refine Kd.C_drewN ?_ _) | (with_reducible refine Kd.C_drew ?_) | exact HR288_0.out)) 5 p289 q289
                     cases e289
                     (try simp only [show (5 : Int).toNat = 5 from rfl, Nat.reduceMul, Nat.reduceEqDiff, Go.Addr.add, ↓reduceIte] at hx289_0)
                     have qi289 : (5 < (rd_L3 t265 x8_2).length) = True := eq_true (by omega)
                     (try rw [show ((5 : Int)).toNat = 5 from rfl] at hx289_0)
                     replace p289 := eq_true p289
                     replace q289 := eq_true q289
                     refine start_ (n := 43) (S := fun w' => w'.cell? ⟨gb276, 0, none⟩ = some (.int .i64 (rd (rd_L3 t265 0) 0)) ∧ w'.cell? ⟨gb276, 1, none⟩ = some (.int .i64 (rd (rd_L3 t265 0) 1)) ∧ w'.cell? ⟨gb276, 2, none⟩ = some (.int .i64 (rd (rd_L3 t265 0) 2)) ∧ w'.cell? ⟨gb276, 3, none⟩ = some (u277003) ∧ w'.cell? (ad270.add (x8_2).toNat) = some (.slice (some ad279) (rd_L3 t265 x8_2).length c278_0) ∧ w'.cell? ad279 = some (.int .i64 (rd (rd_L3 t265 x8_2) 0)) ∧ w'.cell? (ad270.add (x8_2).toNat) = some (.slice (some ad279) (rd_L3 t265 x8_2).length c278_0) ∧ w'.cell? ⟨ad279.block, ad279.off + 1, none⟩ = some (.int .i64 (rd (rd_L3 t265 x8_2) 1)) ∧ w'.cell? (ad270.add (x8_2).toNat) = some (.slice (some ad279) (rd_L3 t265 x8_2).length c278_0) ∧ w'.cell? ⟨ad279.block, ad279.off + 2, none⟩ = some (.int .i64 (rd (rd_L3 t265 x8_2) 2)) ∧ w'.cell? (ad270.add (x8_2).toNat) = some (.slice (some ad279) (rd_L3 t265 x8_2).length c278_0) ∧ w'.cell? ⟨ad279.block, ad279.off + 3, none⟩ = some (.int .i64 (rd (rd_L3 t265 x8_2) 3)) ∧ w'.cell? (ad270.add (x8_2).toNat) = some (.slice (some ad279) (rd_L3 t265 x8_2).length c278_0) ∧ w'.cell? ⟨ad279.block, ad279.off + 4, none⟩ = some (.int .i64 (rd (rd_L3 t265 x8_2) 4)) ∧ w'.cell? (ad270.add (x8_2).toNat) = some (.slice (some ad279) (rd_L3 t265 x8_2).length c278_0) ∧ w'.cell? ⟨ad279.block, ad279.off + 5, none⟩ = some (.int .i64 (rd (rd_L3 t265 x8_2) 5))) (ds := [40, 42]) #[false, false, false, false, false, false, false, false, false, false, false, false, false, false, false, false, false, false, false, false, false, false, false, false, false, false, false, false, false, false, false, false, false, false, false, false, false, false, false, false, false, false, false] (by kernel_rfl) rfl rfl ⟨(zqe BK276.out 0).trans rfl, (zqe BK276.out 1).trans rfl, (zqe BK276.out 2).trans rfl, (zqe BK276.out 3).trans rfl, hx278_0, hx279_0, hx280_0, hx281_0, hx282_0, hx283_0, hx284_0, hx285_0, hx286_0, hx287_0, hx288_0, hx289_0⟩ (fun hHeld => ?_); refine with_tabW haulierref05_Parse.tab13 haulierref05_Parse.bits13 (fun HT_ HW_ => ?_)
                     generalize wr.drew = w39 at HO_5 HO_277003 HL277_0 BK263 BK264 BK276 HR277_0 HB HL278_0 HL280_0 HL282_0 HL284_0 HL286_0 HL288_0 HR278_0 HR280_0 HR282_0 HR284_0 HR286_0 HR288_0 hx278_0 hx279_0 hx280_0 hx281_0 hx282_0 hx283_0 hx284_0 hx285_0 hx286_0 hx287_0 hx288_0 hx289_0 hHeld ⊢
                     refine pure_ (i := 0) (N := some 60) (v := ?_) (a' := ?_) #[true, false, false, false, false, false, false, false, false, false, false, false, false, false, false, false, false, false, false, false, false, false, false, false, false, false, false, false, false, false, false, false, false, false, false, false, false, false, false, false, false, false, false] rfl rfl (any_of HT_.out (by kernel_rfl)) (fun _ _ _ h => h) (Or.inl ⟨by rfl, ?_⟩) ?_ ?_
                     rotate_left
                     ·
                      intro w'
                      go_simp
                      with_reducible rfl
                     rotate_left
                     ·
                      simp only [Act.put, List.setIfInBounds_toArray, List.set_cons_zero, List.set_cons_succ, i64_w, i32_w]
                      rfl
                     refine pure_ (i := 2) (N := some 62) (v := ?_) (a' := ?_) #[true, false, true, false, false, false, false, false, false, false, false, false, false, false, false, false, false, false, false, false, false, false, false, false, false, false, false, false, false, false, false, false, false, false, false, false, false, false, false, false, false, false, false] rfl rfl (any_of HT_.out (by kernel_rfl)) (fun _ _ _ h => h) (Or.inl ⟨by rfl, ?_⟩) ?_ ?_
                     rotate_left
                     ·
                      intro w'
                      go_simp
                      with_reducible rfl
                     rotate_left
                     ·
                      simp only [Act.put, List.setIfInBounds_toArray, List.set_cons_zero, List.set_cons_succ, i64_w, i32_w]
                      rfl
                     refine pure_ (i := 3) (N := some 63) (v := ?_) (a' := ?_) #[true, false, true, true, false, false, false, false, false, false, false, false, false, false, false, false, false, false, false, false, false, false, false, false, false, false, false, false, false, false, false, false, false, false, false, false, false, false, false, false, false, false, false] rfl rfl (any_of HT_.out (by kernel_rfl)) (fun _ _ _ h => h) (Or.inl ⟨by rfl, ?_⟩) ?_ ?_
                     rotate_left
                     ·
                      intro w'
                      go_simp
                      with_reducible rfl
                     rotate_left
                     ·
                      simp only [Act.put, List.setIfInBounds_toArray, List.set_cons_zero, List.set_cons_succ, i64_w, i32_w]
                      rfl
                     refine pure_ (i := 4) (N := some 64) (v := ?_) (a' := ?_) #[true, false, true, true, true, false, false, false, false, false, false, false, false, false, false, false, false, false, false, false, false, false, false, false, false, false, false, false, false, false, false, false, false, false, false, false, false, false, false, false, false, false, false] rfl rfl (any_of HT_.out (by kernel_rfl)) (fun _ _ _ h => h) (Or.inl ⟨by rfl, ?_⟩) ?_ ?_
                     rotate_left
                     ·
                      intro w'
                      go_simp
                      with_reducible rfl
                     rotate_left
                     ·
                      simp only [Act.put, List.setIfInBounds_toArray, List.set_cons_zero, List.set_cons_succ, i64_w, i32_w]
                      rfl
                     refine pure_ (i := 8) (N := some 68) (v := ?_) (a' := ?_) #[true, false, true, true, true, false, false, false, true, false, false, false, false, false, false, false, false, false, false, false, false, false, false, false, false, false, false, false, false, false, false, false, false, false, false, false, false, false, false, false, false, false, false] rfl rfl (any_of HT_.out (by kernel_rfl)) (fun _ _ _ h => h) (Or.inl ⟨by rfl, ?_⟩) ?_ ?_
                     rotate_left
                     ·
                      intro w'
                      go_simp
                      with_reducible rfl
                     rotate_left
                     ·
                      simp only [Act.put, List.setIfInBounds_toArray, List.set_cons_zero, List.set_cons_succ, i64_w, i32_w]
                      rfl
                     refine pure_ (i := 9) (N := some 69) (v := ?_) (a' := ?_) #[true, false, true, true, true, false, false, false, true, true, false, false, false, false, false, false, false, false, false, false, false, false, false, false, false, false, false, false, false, false, false, false, false, false, false, false, false, false, false, false, false, false, false] rfl rfl (any_of HT_.out (by kernel_rfl)) (fun _ _ _ h => h) (Or.inl ⟨by rfl, ?_⟩) ?_ ?_
                     rotate_left
                     ·
                      intro w'
                      go_simp
                      with_reducible rfl
                     rotate_left
                     ·
                      simp only [Act.put, List.setIfInBounds_toArray, List.set_cons_zero, List.set_cons_succ, i64_w, i32_w]
                      rfl
                     refine pure_ (i := 10) (N := some 70) (v := ?_) (a' := ?_) #[true, false, true, true, true, false, false, false, true, true, true, false, false, false, false, false, false, false, false, false, false, false, false, false, false, false, false, false, false, false, false, false, false, false, false, false, false, false, false, false, false, false, false] rfl rfl (any_of HT_.out (by kernel_rfl)) (fun _ _ _ h => h) (Or.inl ⟨by rfl, ?_⟩) ?_ ?_
                     rotate_left
                     ·
                      intro w'
                      go_simp
                      with_reducible rfl
                     rotate_left
                     ·
                      simp only [Act.put, List.setIfInBounds_toArray, List.set_cons_zero, List.set_cons_succ, i64_w, i32_w]
                      rfl
                     refine pure_ (i := 14) (N := some 74) (v := ?_) (a' := ?_) #[true, false, true, true, true, false, false, false, true, true, true, false, false, false, true, false, false, false, false, false, false, false, false, false, false, false, false, false, false, false, false, false, false, false, false, false, false, false, false, false, false, false, false] rfl rfl (any_of HT_.out (by kernel_rfl)) (fun _ _ _ h => h) (Or.inl ⟨by rfl, ?_⟩) ?_ ?_
                     rotate_left
                     ·
                      intro w'
                      go_simp
                      with_reducible rfl
                     rotate_left
                     ·
                      simp only [Act.put, List.setIfInBounds_toArray, List.set_cons_zero, List.set_cons_succ, i64_w, i32_w]
                      rfl
                     refine pure_ (i := 15) (N := some 75) (v := ?_) (a' := ?_) #[true, false, true, true, true, false, false, false, true, true, true, false, false, false, true, true, false, false, false, false, false, false, false, false, false, false, false, false, false, false, false, false, false, false, false, false, false, false, false, false, false, false, false] rfl rfl (any_of HT_.out (by kernel_rfl)) (fun _ _ _ h => h) (Or.inl ⟨by rfl, ?_⟩) ?_ ?_
                     rotate_left
                     ·
                      intro w'
                      go_simp
                      with_reducible rfl
                     rotate_left
                     ·
                      simp only [Act.put, List.setIfInBounds_toArray, List.set_cons_zero, List.set_cons_succ, i64_w, i32_w]
                      rfl
                     refine pure_ (i := 16) (N := some 76) (v := ?_) (a' := ?_) #[true, false, true, true, true, false, false, false, true, true, true, false, false, false, true, true, true, false, false, false, false, false, false, false, false, false, false, false, false, false, false, false, false, false, false, false, false, false, false, false, false, false, false] rfl rfl (any_of HT_.out (by kernel_rfl)) (fun _ _ _ h => h) (Or.inl ⟨by rfl, ?_⟩) ?_ ?_
                     rotate_left
                     ·
                      intro w'
                      go_simp
                      with_reducible rfl
                     rotate_left
                     ·
                      simp only [Act.put, List.setIfInBounds_toArray, List.set_cons_zero, List.set_cons_succ, i64_w, i32_w]
                      rfl
                     refine pure_ (i := 20) (N := some 80) (v := ?_) (a' := ?_) #[true, false, true, true, true, false, false, false, true, true, true, false, false, false, true, true, true, false, false, false, true, false, false, false, false, false, false, false, false, false, false, false, false, false, false, false, false, false, false, false, false, false, false] rfl rfl (any_of HT_.out (by kernel_rfl)) (fun _ _ _ h => h) (Or.inl ⟨by rfl, ?_⟩) ?_ ?_
                     rotate_left
                     ·
                      intro w'
                      go_simp
                      with_reducible rfl
                     rotate_left
                     ·
                      simp only [Act.put, List.setIfInBounds_toArray, List.set_cons_zero, List.set_cons_succ, i64_w, i32_w]
                      rfl
                     refine pure_ (i := 21) (N := some 81) (v := ?_) (a' := ?_) #[true, false, true, true, true, false, false, false, true, true, true, false, false, false, true, true, true, false, false, false, true, true, false, false, false, false, false, false, false, false, false, false, false, false, false, false, false, false, false, false, false, false, false] rfl rfl (any_of HT_.out (by kernel_rfl)) (fun _ _ _ h => h) (Or.inl ⟨by rfl, ?_⟩) ?_ ?_
                     rotate_left
                     ·
                      intro w'
                      go_simp
                      with_reducible rfl
                     rotate_left
                     ·
                      simp only [Act.put, List.setIfInBounds_toArray, List.set_cons_zero, List.set_cons_succ, i64_w, i32_w]
                      rfl
                     refine pure_ (i := 22) (N := some 82) (v := ?_) (a' := ?_) #[true, false, true, true, true, false, false, false, true, true, true, false, false, false, true, true, true, false, false, false, true, true, true, false, false, false, false, false, false, false, false, false, false, false, false, false, false, false, false, false, false, false, false] rfl rfl (any_of HT_.out (by kernel_rfl)) (fun _ _ _ h => h) (Or.inl ⟨by rfl, ?_⟩) ?_ ?_
                     rotate_left
                     ·
                      intro w'
                      go_simp
                      with_reducible rfl
                     rotate_left
                     ·
                      simp only [Act.put, List.setIfInBounds_toArray, List.set_cons_zero, List.set_cons_succ, i64_w, i32_w]
                      rfl
                     refine pure_ (i := 26) (N := some 86) (v := ?_) (a' := ?_) #[true, false, true, true, true, false, false, false, true, true, true, false, false, false, true, true, true, false, false, false, true, true, true, false, false, false, true, false, false, false, false, false, false, false, false, false, false, false, false, false, false, false, false] rfl rfl (any_of HT_.out (by kernel_rfl)) (fun _ _ _ h => h) (Or.inl ⟨by rfl, ?_⟩) ?_ ?_
                     rotate_left
                     ·
                      intro w'
                      go_simp
                      with_reducible rfl
                     rotate_left
                     ·
                      simp only [Act.put, List.setIfInBounds_toArray, List.set_cons_zero, List.set_cons_succ, i64_w, i32_w]
                      rfl
                     refine pure_ (i := 27) (N := some 87) (v := ?_) (a' := ?_) #[true, false, true, true, true, false, false, false, true, true, true, false, false, false, true, true, true, false, false, false, true, true, true, false, false, false, true, true, false, false, false, false, false, false, false, false, false, false, false, false, false, false, false] rfl rfl (any_of HT_.out (by kernel_rfl)) (fun _ _ _ h => h) (Or.inl ⟨by rfl, ?_⟩) ?_ ?_
                     rotate_left
                     ·
                      intro w'
                      go_simp
                      with_reducible rfl
                     rotate_left
                     ·
                      simp only [Act.put, List.setIfInBounds_toArray, List.set_cons_zero, List.set_cons_succ, i64_w, i32_w]
                      rfl
                     refine pure_ (i := 28) (N := some 88) (v := ?_) (a' := ?_) #[true, false, true, true, true, false, false, false, true, true, true, false, false, false, true, true, true, false, false, false, true, true, true, false, false, false, true, true, true, false, false, false, false, false, false, false, false, false, false, false, false, false, false] rfl rfl (any_of HT_.out (by kernel_rfl)) (fun _ _ _ h => h) (Or.inl ⟨by rfl, ?_⟩) ?_ ?_
                     rotate_left
                     ·
                      intro w'
                      go_simp
                      with_reducible rfl
                     rotate_left
                     ·
                      simp only [Act.put, List.setIfInBounds_toArray, List.set_cons_zero, List.set_cons_succ, i64_w, i32_w]
                      rfl
                     refine pure_ (i := 32) (N := some 92) (v := ?_) (a' := ?_) #[true, false, true, true, true, false, false, false, true, true, true, false, false, false, true, true, true, false, false, false, true, true, true, false, false, false, true, true, true, false, false, false, true, false, false, false, false, false, false, false, false, false, false] rfl rfl (any_of HT_.out (by kernel_rfl)) (fun _ _ _ h => h) (Or.inl ⟨by rfl, ?_⟩) ?_ ?_
                     rotate_left
                     ·
                      intro w'
                      go_simp
                      with_reducible rfl
                     rotate_left
                     ·
                      simp only [Act.put, List.setIfInBounds_toArray, List.set_cons_zero, List.set_cons_succ, i64_w, i32_w]
                      rfl
                     refine pure_ (i := 33) (N := some 93) (v := ?_) (a' := ?_) #[true, false, true, true, true, false, false, false, true, true, true, false, false, false, true, true, true, false, false, false, true, true, true, false, false, false, true, true, true, false, false, false, true, true, false, false, false, false, false, false, false, false, false] rfl rfl (any_of HT_.out (by kernel_rfl)) (fun _ _ _ h => h) (Or.inl ⟨by rfl, ?_⟩) ?_ ?_
                     rotate_left
                     ·
                      intro w'
                      go_simp
                      with_reducible rfl
                     rotate_left
                     ·
                      simp only [Act.put, List.setIfInBounds_toArray, List.set_cons_zero, List.set_cons_succ, i64_w, i32_w]
                      rfl
                     refine pure_ (i := 34) (N := some 94) (v := ?_) (a' := ?_) #[true, false, true, true, true, false, false, false, true, true, true, false, false, false, true, true, true, false, false, false, true, true, true, false, false, false, true, true, true, false, false, false, true, true, true, false, false, false, false, false, false, false, false] rfl rfl (any_of HT_.out (by kernel_rfl)) (fun _ _ _ h => h) (Or.inl ⟨by rfl, ?_⟩) ?_ ?_
                     rotate_left
                     ·
                      intro w'
                      go_simp
                      with_reducible rfl
                     rotate_left
                     ·
                      simp only [Act.put, List.setIfInBounds_toArray, List.set_cons_zero, List.set_cons_succ, i64_w, i32_w]
                      rfl
                     refine take_ (i := 1) (N := some 61) (v := ?_) (a' := ?_) #[true, true, true, true, true, false, false, false, true, true, true, false, false, false, true, true, true, false, false, false, true, true, true, false, false, false, true, true, true, false, false, false, true, true, true, false, false, false, false, false, false, false, false] rfl rfl (take_ofW HT_.out HW_.out (by kernel_rfl)) (fun _ _ _ h => h) (Or.inl ⟨by rfl, ?_⟩) hHeld ?_ ?_
                     rotate_left
                     ·
                      rintro w' ⟨s0, s1, s2, s3, s4, s5, s6, s7, s8, s9, s10, s11, s12, s13, s14, s15⟩
                      go_simp
                      with_reducible rfl
                     rotate_left
                     ·
                      simp only [Act.put, List.setIfInBounds_toArray, List.set_cons_zero, List.set_cons_succ, i64_w, i32_w]
                      rfl
                     refine take_ (i := 5) (N := some 65) (v := ?_) (a' := ?_) #[true, true, true, true, true, true, false, false, true, true, true, false, false, false, true, true, true, false, false, false, true, true, true, false, false, false, true, true, true, false, false, false, true, true, true, false, false, false, false, false, false, false, false] rfl rfl (take_ofW HT_.out HW_.out (by kernel_rfl)) (fun _ _ _ h => h) (Or.inl ⟨by rfl, ?_⟩) hHeld ?_ ?_
                     rotate_left
                     ·
                      rintro w' ⟨s0, s1, s2, s3, s4, s5, s6, s7, s8, s9, s10, s11, s12, s13, s14, s15⟩
                      go_simp
                      with_reducible rfl
                     rotate_left
                     ·
                      simp only [Act.put, List.setIfInBounds_toArray, List.set_cons_zero, List.set_cons_succ, i64_w, i32_w]
                      rfl
                     refine pure_ (i := 6) (N := some 66) (v := ?_) (a' := ?_) #[true, true, true, true, true, true, true, false, true, true, true, false, false, false, true, true, true, false, false, false, true, true, true, false, false, false, true, true, true, false, false, false, true, true, true, false, false, false, false, false, false, false, false] rfl rfl (any_of HT_.out (by kernel_rfl)) (fun _ _ _ h => h) (Or.inl ⟨by rfl, ?_⟩) ?_ ?_
                     rotate_left
                     ·
                      intro w'
                      go_simp
                      with_reducible rfl
                     rotate_left
                     ·
                      simp only [Act.put, List.setIfInBounds_toArray, List.set_cons_zero, List.set_cons_succ, i64_w, i32_w]
                      rfl
                     refine take_ (i := 7) (N := some 67) (v := ?_) (a' := ?_) #[true, true, true, true, true, true, true, true, true, true, true, false, false, false, true, true, true, false, false, false, true, true, true, false, false, false, true, true, true, false, false, false, true, true, true, false, false, false, false, false, false, false, false] rfl rfl (take_ofW HT_.out HW_.out (by kernel_rfl)) (fun _ _ _ h => h) (Or.inl ⟨by rfl, ?_⟩) hHeld ?_ ?_
                     rotate_left
                     ·
                      rintro w' ⟨s0, s1, s2, s3, s4, s5, s6, s7, s8, s9, s10, s11, s12, s13, s14, s15⟩
                      go_simp
                      with_reducible rfl
                     rotate_left
                     ·
                      simp only [Act.put, List.setIfInBounds_toArray, List.set_cons_zero, List.set_cons_succ, i64_w, i32_w]
                      rfl
                     refine take_ (i := 11) (N := some 71) (v := ?_) (a' := ?_) #[true, true, true, true, true, true, true, true, true, true, true, true, false, false, true, true, true, false, false, false, true, true, true, false, false, false, true, true, true, false, false, false, true, true, true, false, false, false, false, false, false, false, false] rfl rfl (take_ofW HT_.out HW_.out (by kernel_rfl)) (fun _ _ _ h => h) (Or.inl ⟨by rfl, ?_⟩) hHeld ?_ ?_
                     rotate_left
                     ·
                      rintro w' ⟨s0, s1, s2, s3, s4, s5, s6, s7, s8, s9, s10, s11, s12, s13, s14, s15⟩
                      go_simp
                      with_reducible rfl
                     rotate_left
                     ·
                      simp only [Act.put, List.setIfInBounds_toArray, List.set_cons_zero, List.set_cons_succ, i64_w, i32_w]
                      rfl
                     refine pure_ (i := 12) (N := some 72) (v := ?_) (a' := ?_) #[true, true, true, true, true, true, true, true, true, true, true, true, true, false, true, true, true, false, false, false, true, true, true, false, false, false, true, true, true, false, false, false, true, true, true, false, false, false, false, false, false, false, false] rfl rfl (any_of HT_.out (by kernel_rfl)) (fun _ _ _ h => h) (Or.inl ⟨by rfl, ?_⟩) ?_ ?_
                     rotate_left
                     ·
                      intro w'
                      go_simp
                      with_reducible rfl
                     rotate_left
                     ·
                      simp only [Act.put, List.setIfInBounds_toArray, List.set_cons_zero, List.set_cons_succ, i64_w, i32_w]
                      rfl
                     refine take_ (i := 13) (N := some 73) (v := ?_) (a' := ?_) #[true, true, true, true, true, true, true, true, true, true, true, true, true, true, true, true, true, false, false, false, true, true, true, false, false, false, true, true, true, false, false, false, true, true, true, false, false, false, false, false, false, false, false] rfl rfl (take_ofW HT_.out HW_.out (by kernel_rfl)) (fun _ _ _ h => h) (Or.inl ⟨by rfl, ?_⟩) hHeld ?_ ?_
                     rotate_left
                     ·
                      rintro w' ⟨s0, s1, s2, s3, s4, s5, s6, s7, s8, s9, s10, s11, s12, s13, s14, s15⟩
                      go_simp
                      with_reducible rfl
                     rotate_left
                     ·
                      simp only [Act.put, List.setIfInBounds_toArray, List.set_cons_zero, List.set_cons_succ, i64_w, i32_w]
                      rfl
                     refine take_ (i := 17) (N := some 77) (v := ?_) (a' := ?_) #[true, true, true, true, true, true, true, true, true, true, true, true, true, true, true, true, true, true, false, false, true, true, true, false, false, false, true, true, true, false, false, false, true, true, true, false, false, false, false, false, false, false, false] rfl rfl (take_ofW HT_.out HW_.out (by kernel_rfl)) (fun _ _ _ h => h) (Or.inl ⟨by rfl, ?_⟩) hHeld ?_ ?_
                     rotate_left
                     ·
                      rintro w' ⟨s0, s1, s2, s3, s4, s5, s6, s7, s8, s9, s10, s11, s12, s13, s14, s15⟩
                      go_simp
                      with_reducible rfl
                     rotate_left
                     ·
                      simp only [Act.put, List.setIfInBounds_toArray, List.set_cons_zero, List.set_cons_succ, i64_w, i32_w]
                      rfl
                     refine pure_ (i := 18) (N := some 78) (v := ?_) (a' := ?_) #[true, true, true, true, true, true, true, true, true, true, true, true, true, true, true, true, true, true, true, false, true, true, true, false, false, false, true, true, true, false, false, false, true, true, true, false, false, false, false, false, false, false, false] rfl rfl (any_of HT_.out (by kernel_rfl)) (fun _ _ _ h => h) (Or.inl ⟨by rfl, ?_⟩) ?_ ?_
                     rotate_left
                     ·
                      intro w'
                      go_simp
                      with_reducible rfl
                     rotate_left
                     ·
                      simp only [Act.put, List.setIfInBounds_toArray, List.set_cons_zero, List.set_cons_succ, i64_w, i32_w]
                      rfl
                     refine take_ (i := 19) (N := some 79) (v := ?_) (a' := ?_) #[true, true, true, true, true, true, true, true, true, true, true, true, true, true, true, true, true, true, true, true, true, true, true, false, false, false, true, true, true, false, false, false, true, true, true, false, false, false, false, false, false, false, false] rfl rfl (take_ofW HT_.out HW_.out (by kernel_rfl)) (fun _ _ _ h => h) (Or.inl ⟨by rfl, ?_⟩) hHeld ?_ ?_
                     rotate_left
                     ·
                      rintro w' ⟨s0, s1, s2, s3, s4, s5, s6, s7, s8, s9, s10, s11, s12, s13, s14, s15⟩
                      go_simp
                      with_reducible rfl
                     rotate_left
                     ·
                      simp only [Act.put, List.setIfInBounds_toArray, List.set_cons_zero, List.set_cons_succ, i64_w, i32_w]
                      rfl
                     refine take_ (i := 23) (N := some 83) (v := ?_) (a' := ?_) #[true, true, true, true, true, true, true, true, true, true, true, true, true, true, true, true, true, true, true, true, true, true, true, true, false, false, true, true, true, false, false, false, true, true, true, false, false, false, false, false, false, false, false] rfl rfl (take_ofW HT_.out HW_.out (by kernel_rfl)) (fun _ _ _ h => h) (Or.inl ⟨by rfl, ?_⟩) hHeld ?_ ?_
                     rotate_left
                     ·
                      rintro w' ⟨s0, s1, s2, s3, s4, s5, s6, s7, s8, s9, s10, s11, s12, s13, s14, s15⟩
                      go_simp
                      with_reducible rfl
                     rotate_left
                     ·
                      simp only [Act.put, List.setIfInBounds_toArray, List.set_cons_zero, List.set_cons_succ, i64_w, i32_w]
                      rfl
                     refine pure_ (i := 24) (N := some 84) (v := ?_) (a' := ?_) #[true, true, true, true, true, true, true, true, true, true, true, true, true, true, true, true, true, true, true, true, true, true, true, true, true, false, true, true, true, false, false, false, true, true, true, false, false, false, false, false, false, false, false] rfl rfl (any_of HT_.out (by kernel_rfl)) (fun _ _ _ h => h) (Or.inl ⟨by rfl, ?_⟩) ?_ ?_
                     rotate_left
                     ·
                      intro w'
                      go_simp
                      with_reducible rfl
                     rotate_left
                     ·
                      simp only [Act.put, List.setIfInBounds_toArray, List.set_cons_zero, List.set_cons_succ, i64_w, i32_w]
                      rfl
                     refine take_ (i := 25) (N := some 85) (v := ?_) (a' := ?_) #[true, true, true, true, true, true, true, true, true, true, true, true, true, true, true, true, true, true, true, true, true, true, true, true, true, true, true, true, true, false, false, false, true, true, true, false, false, false, false, false, false, false, false] rfl rfl (take_ofW HT_.out HW_.out (by kernel_rfl)) (fun _ _ _ h => h) (Or.inl ⟨by rfl, ?_⟩) hHeld ?_ ?_
                     rotate_left
                     ·
                      rintro w' ⟨s0, s1, s2, s3, s4, s5, s6, s7, s8, s9, s10, s11, s12, s13, s14, s15⟩
                      go_simp
                      with_reducible rfl
                     rotate_left
                     ·
                      simp only [Act.put, List.setIfInBounds_toArray, List.set_cons_zero, List.set_cons_succ, i64_w, i32_w]
                      rfl
                     refine take_ (i := 29) (N := some 89) (v := ?_) (a' := ?_) #[true, true, true, true, true, true, true, true, true, true, true, true, true, true, true, true, true, true, true, true, true, true, true, true, true, true, true, true, true, true, false, false, true, true, true, false, false, false, false, false, false, false, false] rfl rfl (take_ofW HT_.out HW_.out (by kernel_rfl)) (fun _ _ _ h => h) (Or.inl ⟨by rfl, ?_⟩) hHeld ?_ ?_
                     rotate_left
                     ·
                      rintro w' ⟨s0, s1, s2, s3, s4, s5, s6, s7, s8, s9, s10, s11, s12, s13, s14, s15⟩
                      go_simp
                      with_reducible rfl
                     rotate_left
                     ·
                      simp only [Act.put, List.setIfInBounds_toArray, List.set_cons_zero, List.set_cons_succ, i64_w, i32_w]
                      rfl
                     refine pure_ (i := 30) (N := some 90) (v := ?_) (a' := ?_) #[true, true, true, true, true, true, true, true, true, true, true, true, true, true, true, true, true, true, true, true, true, true, true, true, true, true, true, true, true, true, true, false, true, true, true, false, false, false, false, false, false, false, false] rfl rfl (any_of HT_.out (by kernel_rfl)) (fun _ _ _ h => h) (Or.inl ⟨by rfl, ?_⟩) ?_ ?_
                     rotate_left
                     ·
                      intro w'
                      go_simp
                      with_reducible rfl
                     rotate_left
                     ·
                      simp only [Act.put, List.setIfInBounds_toArray, List.set_cons_zero, List.set_cons_succ, i64_w, i32_w]
                      rfl
                     refine take_ (i := 31) (N := some 91) (v := ?_) (a' := ?_) #[true, true, true, true, true, true, true, true, true, true, true, true, true, true, true, true, true, true, true, true, true, true, true, true, true, true, true, true, true, true, true, true, true, true, true, false, false, false, false, false, false, false, false] rfl rfl (take_ofW HT_.out HW_.out (by kernel_rfl)) (fun _ _ _ h => h) (Or.inl ⟨by rfl, ?_⟩) hHeld ?_ ?_
                     rotate_left
                     ·
                      rintro w' ⟨s0, s1, s2, s3, s4, s5, s6, s7, s8, s9, s10, s11, s12, s13, s14, s15⟩
                      go_simp
                      with_reducible rfl
                     rotate_left
                     ·
                      simp only [Act.put, List.setIfInBounds_toArray, List.set_cons_zero, List.set_cons_succ, i64_w, i32_w]
                      rfl
                     refine take_ (i := 35) (N := some 95) (v := ?_) (a' := ?_) #[true, true, true, true, true, true, true, true, true, true, true, true, true, true, true, true, true, true, true, true, true, true, true, true, true, true, true, true, true, true, true, true, true, true, true, true, false, false, false, false, false, false, false] rfl rfl (take_ofW HT_.out HW_.out (by kernel_rfl)) (fun _ _ _ h => h) (Or.inl ⟨by rfl, ?_⟩) hHeld ?_ ?_
                     rotate_left
                     ·
                      rintro w' ⟨s0, s1, s2, s3, s4, s5, s6, s7, s8, s9, s10, s11, s12, s13, s14, s15⟩
                      go_simp
                      with_reducible rfl
                     rotate_left
                     ·
                      simp only [Act.put, List.setIfInBounds_toArray, List.set_cons_zero, List.set_cons_succ, i64_w, i32_w]
                      rfl
                     refine pure_ (i := 36) (N := some 96) (v := ?_) (a' := ?_) #[true, true, true, true, true, true, true, true, true, true, true, true, true, true, true, true, true, true, true, true, true, true, true, true, true, true, true, true, true, true, true, true, true, true, true, true, true, false, false, false, false, false, false] rfl rfl (any_of HT_.out (by kernel_rfl)) (fun _ _ _ h => h) (Or.inl ⟨by rfl, ?_⟩) ?_ ?_
                     rotate_left
                     ·
                      intro w'
                      go_simp
                      with_reducible rfl
                     rotate_left
                     ·
                      simp only [Act.put, List.setIfInBounds_toArray, List.set_cons_zero, List.set_cons_succ, i64_w, i32_w]
                      rfl
                     refine take_ (i := 37) (N := some 97) (v := ?_) (a' := ?_) #[true, true, true, true, true, true, true, true, true, true, true, true, true, true, true, true, true, true, true, true, true, true, true, true, true, true, true, true, true, true, true, true, true, true, true, true, true, true, false, false, false, false, false] rfl rfl (take_ofW HT_.out HW_.out (by kernel_rfl)) (fun _ _ _ h => h) (Or.inl ⟨by rfl, ?_⟩) hHeld ?_ ?_
                     rotate_left
                     ·
                      rintro w' ⟨s0, s1, s2, s3, s4, s5, s6, s7, s8, s9, s10, s11, s12, s13, s14, s15⟩
                      go_simp
                      with_reducible rfl
                     rotate_left
                     ·
                      simp only [Act.put, List.setIfInBounds_toArray, List.set_cons_zero, List.set_cons_succ, i64_w, i32_w]
                      rfl
                     refine pure_ (i := 38) (N := some 98) (v := ?_) (a' := ?_) #[true, true, true, true, true, true, true, true, true, true, true, true, true, true, true, true, true, true, true, true, true, true, true, true, true, true, true, true, true, true, true, true, true, true, true, true, true, true, true, false, false, false, false] rfl rfl (any_of HT_.out (by kernel_rfl)) (fun _ _ _ h => h) (Or.inl ⟨by rfl, ?_⟩) ?_ ?_
                     rotate_left
                     ·
                      intro w'
                      go_simp
                      with_reducible rfl
                     rotate_left
                     ·
                      simp only [Act.put, List.setIfInBounds_toArray, List.set_cons_zero, List.set_cons_succ, i64_w, i32_w]
                      rfl
                     refine one_ (i := 39) (N := some 99) #[true, true, true, true, true, true, true, true, true, true, true, true, true, true, true, true, true, true, true, true, true, true, true, true, true, true, true, true, true, true, true, true, true, true, true, true, true, true, true, true, false, false, false] rfl rfl (one_of HT_.out (by kernel_rfl)) (by decide) (fun K hK => ?_)
                     refine value_ (w1 := ?_) (v := ?_) (by rfl) rfl ?_ ?_
                     rotate_left 2
                     ·
                      go_simp
                      constructor
                      ·
                       rfl
                      ·
                       rfl
                     refine hK.out _ _ ⟨(zqe (zqc BK276.out _) 0).trans rfl, (zqe (zqc BK276.out _) 1).trans rfl, (zqe (zqc BK276.out _) 2).trans rfl, (zqe (zqc BK276.out _) 3).trans rfl, (World.cell?_alloc_lt _ _ _ (World.block_lt_of_cell? _ _ (hHeld.2.2.2.2.1))).trans (hHeld.2.2.2.2.1), (World.cell?_alloc_lt _ _ _ (World.block_lt_of_cell? _ _ (hHeld.2.2.2.2.2.1))).trans (hHeld.2.2.2.2.2.1), (World.cell?_alloc_lt _ _ _ (World.block_lt_of_cell? _ _ (hHeld.2.2.2.2.2.2.1))).trans (hHeld.2.2.2.2.2.2.1), (World.cell?_alloc_lt _ _ _ (World.block_lt_of_cell? _ _ (hHeld.2.2.2.2.2.2.2.1))).trans (hHeld.2.2.2.2.2.2.2.1), (World.cell?_alloc_lt _ _ _ (World.block_lt_of_cell? _ _ (hHeld.2.2.2.2.2.2.2.2.1))).trans (hHeld.2.2.2.2.2.2.2.2.1), (World.cell?_alloc_lt _ _ _ (World.block_lt_of_cell? _ _ (hHeld.2.2.2.2.2.2.2.2.2.1))).trans (hHeld.2.2.2.2.2.2.2.2.2.1), (World.cell?_alloc_lt _ _ _ (World.block_lt_of_cell? _ _ (hHeld.2.2.2.2.2.2.2.2.2.2.1))).trans (hHeld.2.2.2.2.2.2.2.2.2.2.1), (World.cell?_alloc_lt _ _ _ (World.block_lt_of_cell? _ _ (hHeld.2.2.2.2.2.2.2.2.2.2.2.1))).trans (hHeld.2.2.2.2.2.2.2.2.2.2.2.1), (World.cell?_alloc_lt _ _ _ (World.block_lt_of_cell? _ _ (hHeld.2.2.2.2.2.2.2.2.2.2.2.2.1))).trans (hHeld.2.2.2.2.2.2.2.2.2.2.2.2.1), (World.cell?_alloc_lt _ _ _ (World.block_lt_of_cell? _ _ (hHeld.2.2.2.2.2.2.2.2.2.2.2.2.2.1))).trans (hHeld.2.2.2.2.2.2.2.2.2.2.2.2.2.1), (World.cell?_alloc_lt _ _ _ (World.block_lt_of_cell? _ _ (hHeld.2.2.2.2.2.2.2.2.2.2.2.2.2.2.1))).trans (hHeld.2.2.2.2.2.2.2.2.2.2.2.2.2.2.1), (World.cell?_alloc_lt _ _ _ (World.block_lt_of_cell? _ _ (hHeld.2.2.2.2.2.2.2.2.2.2.2.2.2.2.2))).trans (hHeld.2.2.2.2.2.2.2.2.2.2.2.2.2.2.2)⟩ (fun hHeld => ?_)
                     clear hK K
                     refine norm_ (a' := ?_) ?_ ?_
                     rotate_left
                     ·
                      show Act.put _ (some 99) _ = _
                      simp only [Act.put, List.setIfInBounds_toArray, List.set_cons_zero, List.set_cons_succ, i64_w, i32_w]
                      rfl
                     refine last_ (i := 40) (N := some 100) #[true, true, true, true, true, true, true, true, true, true, true, true, true, true, true, true, true, true, true, true, true, true, true, true, true, true, true, true, true, true, true, true, true, true, true, true, true, true, true, true, true, false, false] rfl rfl (one_of HT_.out (by kernel_rfl)) (by decide) (fun K hK => ?_)
                     refine Kd.R_append_step k34 (w0 := w) w.heap.size (by rfl) (.tmp 61) (.tmp 99) 24 34 (.agg #[(.int .i64 0), (.int .i64 0), (.int .i64 0), (.int .i64 0), (.int .i64 0), (.int .i64 0)]) 48 rfl Tryd.underlying24 info34 rfl (by decide) (by omega) u277003 x277003_2 (⟨rd (rd_L3 t265 x8_2) 0, rd (rd_L3 t265 x8_2) 1, rd (rd_L3 t265 x8_2) 2, rd (rd_L3 t265 x8_2) 3, rd (rd_L3 t265 x8_2) 4, rd (rd_L3 t265 x8_2) 5⟩ : S34) [.int .i64 (rd (rd_L3 t265 x8_2) 0), .int .i64 (rd (rd_L3 t265 x8_2) 1), .int .i64 (rd (rd_L3 t265 x8_2) 2), .int .i64 (rd (rd_L3 t265 x8_2) 3), .int .i64 (rd (rd_L3 t265 x8_2) 4), .int .i64 (rd (rd_L3 t265 x8_2) 5)] (fun _ => True) (fun _ => False) rfl rfl ?aP (fun _ hk => hk.elim) ?aF ?aO ?aB ?aS ?aL ?_
                     (case aP => exact k34_mkM _ _ _ (⟨rd (rd_L3 t265 x8_2) 0, rd (rd_L3 t265 x8_2) 1, rd (rd_L3 t265 x8_2) 2, rd (rd_L3 t265 x8_2) 3, rd (rd_L3 t265 x8_2) 4, rd (rd_L3 t265 x8_2) 5⟩ : S34))
                     (case aB => exact (by repeat (first | (with_reducible first | exact HB.out | apply zqg | apply zqf | apply zqh | refine below_set ?_ GE263.out | refine below_set ?_ GE264.out | refine below_set ?_ GE276.out) | exact HB.out)))
                     (case aF => exact (fun _ _ => trivial))
                     (case aO => exact (by (with_reducible repeat (first | apply Kd.R_alloc | apply Kd.R_drewN | apply Kd.R_drew)); exact HO_277003.out))
                     (case aS => exact (below_size (by repeat (first | (with_reducible first | exact HB.out | apply zqg | apply zqf | apply zqh | refine below_set ?_ GE263.out | refine below_set ?_ GE264.out | refine below_set ?_ GE276.out) | exact HB.out))))
                     (case aL => have := LMc38.out; omega)
                     intro v291 w40 ho hb hg hat
                     rw [← Ny290.out] at ho
                     have n0_ := zqi (Kd.S_over' (by (with_reducible repeat (first | apply Kd.S_alloc | apply Kd.S_drewN | apply Kd.S_drew)); exact HO_5.out) (Kd.R_typed (by (with_reducible repeat (first | apply Kd.R_alloc | apply Kd.R_drewN | apply Kd.R_drew)); exact HO_277003.out)) (by decide) hg)
                     have n1_ := zqi (blk_grown (g := gb263) (o := .cells #[.int .i64 x264000_2, .int .i64 x264001_2, .int .i64 x264002_2, .slice none 0 0] 26 (0, 0)) (by (with_reducible repeat (first | apply zqa | apply zqb | apply zqc)); exact BK263.out) hg (Kd.R_ne HO_277003.out BK263.out (by decide)))
                     have n2_ := zqi (blk_grown (g := gb264) (o := .cells #[.int .i64 0, .int .i64 0, .int .i64 0, .slice none 0 0] 26 (0, 0)) (by (with_reducible repeat (first | apply zqa | apply zqb | apply zqc)); exact BK264.out) hg (Kd.R_ne HO_277003.out BK264.out (by decide)))
                     have n3_ := zqi (blk_grown (g := gb276) (o := .cells #[.int .i64 (rd (rd_L3 t265 0) 0), .int .i64 (rd (rd_L3 t265 0) 1), .int .i64 (rd (rd_L3 t265 0) 2), u277003] 26 (0, 0)) (by (with_reducible repeat (first | apply zqa | apply zqb | apply zqc)); exact BK276.out) hg (Kd.R_ne HO_277003.out BK276.out (by decide)))
                     have n4_ := zqi (Kd.R_over' (by (with_reducible repeat (first | apply Kd.R_alloc | apply Kd.R_drewN | apply Kd.R_drew)); exact HL277_0.out) (Kd.R_typed (by (with_reducible repeat (first | apply Kd.R_alloc | apply Kd.R_drewN | apply Kd.R_drew)); exact HO_277003.out)) (by decide) hg)
                     have n5_ := zqi (Kd.R_over' (by (with_reducible repeat (first | apply Kd.R_alloc | apply Kd.R_drewN | apply Kd.R_drew)); exact HL278_0.out) (Kd.R_typed (by (with_reducible repeat (first | apply Kd.R_alloc | apply Kd.R_drewN | apply Kd.R_drew)); exact HO_277003.out)) (by decide) hg)
                     have n6_ := zqi (Kd.R_over' (by (with_reducible repeat (first | apply Kd.R_alloc | apply Kd.R_drewN | apply Kd.R_drew)); exact HL280_0.out) (Kd.R_typed (by (with_reducible repeat (first | apply Kd.R_alloc | apply Kd.R_drewN | apply Kd.R_drew)); exact HO_277003.out)) (by decide) hg)
                     have n7_ := zqi (Kd.R_over' (by (with_reducible repeat (first | apply Kd.R_alloc | apply Kd.R_drewN | apply Kd.R_drew)); exact HL282_0.out) (Kd.R_typed (by (with_reducible repeat (first | apply Kd.R_alloc | apply Kd.R_drewN | apply Kd.R_drew)); exact HO_277003.out)) (by decide) hg)
                     have n8_ := zqi (Kd.R_over' (by (with_reducible repeat (first | apply Kd.R_alloc | apply Kd.R_drewN | apply Kd.R_drew)); exact HL284_0.out) (Kd.R_typed (by (with_reducible repeat (first | apply Kd.R_alloc | apply Kd.R_drewN | apply Kd.R_drew)); exact HO_277003.out)) (by decide) hg)
                     have n9_ := zqi (Kd.R_over' (by (with_reducible repeat (first | apply Kd.R_alloc | apply Kd.R_drewN | apply Kd.R_drew)); exact HL286_0.out) (Kd.R_typed (by (with_reducible repeat (first | apply Kd.R_alloc | apply Kd.R_drewN | apply Kd.R_drew)); exact HO_277003.out)) (by decide) hg)
                     have n10_ := zqi (Kd.R_over' (by (with_reducible repeat (first | apply Kd.R_alloc | apply Kd.R_drewN | apply Kd.R_drew)); exact HL288_0.out) (Kd.R_typed (by (with_reducible repeat (first | apply Kd.R_alloc | apply Kd.R_drewN | apply Kd.R_drew)); exact HO_277003.out)) (by decide) hg)
                     have n11_ := zqi (hb)
                     have n12_ := zqi (ho)
                     clear HO_5
                     clear BK263
                     clear BK264
                     clear BK276
                     clear HL277_0
                     clear HL278_0
                     clear HL280_0
                     clear HL282_0
                     clear HL284_0
                     clear HL286_0
                     clear HL288_0
                     clear HB
                     clear HO_277003
                     have HO_5 := n0_
                     have BK263 := n1_
                     have BK264 := n2_
                     have BK276 := n3_
                     have HL277_0 := n4_
                     have HL278_0 := n5_
                     have HL280_0 := n6_
                     have HL282_0 := n7_
                     have HL284_0 := n8_
                     have HL286_0 := n9_
                     have HL288_0 := n10_
                     have HB := n11_
                     have HO292 := n12_
                     clear n0_ n1_ n2_ n3_ n4_ n5_ n6_ n7_ n8_ n9_ n10_ n11_ n12_
                     clear ho hb hg hat
                     obtain ⟨Ao41, co41, eo41⟩ := Kd.R_slice HO292.out
                     (first | subst eo41 | (injection eo41 with f1_ f2_ f3_; have f4_ := f1_.symm; have f5_ := f3_.symm; clear f1_ f2_ f3_; subst f4_; subst f5_))
                     refine hK.out _ _ ?_
                     clear hK K
                     refine norm_ (a' := ?_) ?_ ?_
                     rotate_left
                     ·
                      show Act.put _ (some 100) _ = _
                      simp only [Act.put, List.setIfInBounds_toArray, List.set_cons_zero, List.set_cons_succ, i64_w, i32_w]
                      rfl
                     refine pure_ (i := 41) (N := some 101) (v := ?_) (a' := ?_) #[true, true, true, true, true, true, true, true, true, true, true, true, true, true, true, true, true, true, true, true, true, true, true, true, true, true, true, true, true, true, true, true, true, true, true, true, true, true, true, true, true, true, false] rfl rfl (any_of HT_.out (by kernel_rfl)) (fun _ _ _ h => h) (Or.inl ⟨by rfl, ?_⟩) ?_ ?_
                     rotate_left
                     ·
                      intro w'
                      go_simp
                      with_reducible rfl
                     rotate_left
                     ·
                      simp only [Act.put, List.setIfInBounds_toArray, List.set_cons_zero, List.set_cons_succ, i64_w, i32_w]
                      rfl
                     refine last_ (i := 42) (N := none) #[true, true, true, true, true, true, true, true, true, true, true, true, true, true, true, true, true, true, true, true, true, true, true, true, true, true, true, true, true, true, true, true, true, true, true, true, true, true, true, true, true, true, true] rfl rfl (one_of HT_.out (by kernel_rfl)) (by decide) (fun K hK => ?_)
                     have hs42 : w40.cell? ⟨gb276, 3, none⟩ = some (u277003) := (zqe BK276.out 3).trans rfl
                     have hfs42 := zqd BK276.out 3
                     have hns42_0 := NB263_276.out
                     have hns42_1 := NB264_276.out
                     have hms42_0 := NB276_263.out
                     have hms42_1 := NB276_264.out
                     refine skip_ (w1 := ?_) (by rfl) rfl ?_ ?_
                     rotate_left
                     ·
                      go_simp
                      rfl
                     refine hK.out _ _ ?_
                     clear hK K
                     refine done_ (done_of HT_.out (by kernel_rfl)) ?_
                     try go_wp2
                     go_roundg k2
                     case measure => have := HJ3.out; have := HK2.out; omega
                     case rel => exact ⟨(wrap64 (x8_2 + 1)), (x264000_2), (x264001_2), (x264002_2), (y290), (.slice Ao41 y290.length co41), (by first | rfl | (simp; done) | (simp [*]; done)), H', ⟨by have := HJ3.out; have := HK2.out; omega⟩, ⟨by (with_reducible repeat (first | apply Kd.S_alloc | apply Kd.S_drewN | apply Kd.S_drew)); exact Kd.S_mono (Kd.S_far (p := ⟨gb276, 3, none⟩) (Kd.S_types HO_5.out BK276.out (by decide)) (fun _ hk => hk.2) (.slice Ao41 y290.length co41)) (fun _ hk => trivial)⟩, ⟨by (with_reducible repeat (first | apply Kd.R_alloc | apply Kd.R_drewN | apply Kd.R_drew)); exact Kd.R_mono (Kd.R_far (p := ⟨gb276, 3, none⟩) (Kd.R_types HO292.out BK276.out (by decide)) (fun _ hk => hk.2) (.slice Ao41 y290.length co41)) (fun _ hk => trivial)⟩, ⟨by (with_reducible repeat (first | apply zqa | apply zqb | apply zqc)); refine blk_far ?_ NB263_276.out _; (with_reducible repeat (first | apply zqa | apply zqb | apply zqc)); exact BK263.out⟩, ⟨by (with_reducible repeat (first | apply zqa | apply zqb | apply zqc)); refine blk_far ?_ NB264_276.out _; (with_reducible repeat (first | apply zqa | apply zqb | apply zqc)); exact BK264.out⟩, ⟨by (with_reducible repeat (first | apply zqa | apply zqb | apply zqc)); refine blk_put (cs := #[.int .i64 (rd (rd_L3 t265 0) 0), .int .i64 (rd (rd_L3 t265 0) 1), .int .i64 (rd (rd_L3 t265 0) 2), u277003]) ?_ 3 _ rfl; (with_reducible repeat (first | apply zqa | apply zqb | apply zqc)); exact BK276.out⟩, ⟨by repeat (first | (with_reducible first | exact HB.out | apply zqg | apply zqf | apply zqh | refine below_set ?_ GE263.out | refine below_set ?_ GE264.out | refine below_set ?_ GE276.out) | exact HB.out)⟩⟩
                    ·
                     rw [if_neg c38] at H
                     exact absurd H (by simp)
                   ·
                    rw [if_neg c37] at H
                    exact absurd H (by simp)
                  ·
                   rw [if_neg c36] at H
                   exact absurd H (by simp)
                 ·
                  rw [if_neg c35] at H
                  exact absurd H (by simp)
                ·
                 rw [if_neg c34] at H
                 exact absurd H (by simp)
               ·
                rw [if_neg c33] at H
                exact absurd H (by simp)
              ·
               rw [if_neg c32] at H
               exact absurd H (by simp)
             ·
              rw [if_neg c31] at H
              have c31b0 : (((rd_L3 t265 x8_2).length : Int) == 6) = false := beq_eq_false_iff_ne.mpr c31
              have c31b1 : (((rd_L3 t265 x8_2).length : Int) != 6) = true := bne_iff_ne.mpr c31
              simp only [Option.some.injEq, Prod.mk.injEq] at H
              obtain ⟨rfl, rfl, rfl, rfl, rfl⟩ := H
              have p277 : 0 ≤ (x8_2 : Int) := of_decide_eq_true (by first | (with_reducible assumption) | assumption)
              have q277 : x8_2 < (t265.length : Int) := of_decide_eq_true (by first | (with_reducible assumption) | assumption)
              obtain ⟨ad277, A277_0, c277_0, e277, hx277_0, hl277_0, hi277_0⟩ := at_L3 (Kd.S_reads' HO_5.out).2.2 x8_2 p277 q277
              obtain rfl : ad270 = ad277 := (by injection e277)
              obtain ⟨ce277, hce277, hMe277, hcc277⟩ := Kd.S_get HO_5.out [] x8_2 p277 (by first | exact q277 | exact of_decide_eq_true (by first | (with_reducible assumption) | assumption) | (have e_ := (Kd.S_reads' HO_5.out).1; omega))
              obtain ⟨ve277_0, rfl, ge277_0⟩ := hMe277
              have hv277_0 := hcc277 0 _ rfl
              rw [Nat.add_zero, show ((Kd.slice 3 (Kd.int .i64))).sz = 1 from rfl, Nat.mul_one] at hv277_0
              replace hv277_0 := Option.some.inj (hv277_0.symm.trans hx277_0)
              rw [hv277_0] at ge277_0
              have HL277_0 := zqi (show Kd.R (Kd.int .i64) 3 _ _ _ _ (rd_L3 t265 x8_2) from ge277_0)
              clear hv277_0 ge277_0
              clear hcc277 hce277
              have HR277_0 := zqi hi277_0
              have HC277_0 := zqi hl277_0
              clear hi277_0 hl277_0
              replace p277 := eq_true p277
              replace q277 := eq_true q277
              have hnb43 := NB264_263.out
              have hnc43 := NB263_264.out
              have hnb44 := NB264_276.out
              have hnc44 := NB276_264.out
              have hcz45_0 : wr.cell? ⟨gb264, 0, none⟩ = some (.int .i64 0) := (zqe BK264.out 0).trans rfl
              have hcz45_1 : wr.cell? ⟨gb264, 1, none⟩ = some (.int .i64 0) := (zqe BK264.out 1).trans rfl
              have hcz45_2 : wr.cell? ⟨gb264, 2, none⟩ = some (.int .i64 0) := (zqe BK264.out 2).trans rfl
              have hcz45_3 : wr.cell? ⟨gb264, 3, none⟩ = some (.slice none 0 0) := (zqe BK264.out 3).trans rfl
              have hfz45_0 := zqd BK264.out 0
              have hfz45_1 := zqd BK264.out 1
              have hfz45_2 := zqd BK264.out 2
              have hfz45_3 := zqd BK264.out 3
              have hnb46 := NB263_276.out
              have hnc46 := NB276_263.out
              have hcz47_0 : wr.cell? ⟨gb263, 0, none⟩ = some (.int .i64 x264000_2) := (zqe BK263.out 0).trans rfl
              have hcz47_1 : wr.cell? ⟨gb263, 1, none⟩ = some (.int .i64 x264001_2) := (zqe BK263.out 1).trans rfl
              have hcz47_2 : wr.cell? ⟨gb263, 2, none⟩ = some (.int .i64 x264002_2) := (zqe BK263.out 2).trans rfl
              have hcz47_3 : wr.cell? ⟨gb263, 3, none⟩ = some (.slice none 0 0) := (zqe BK263.out 3).trans rfl
              have hfz47_0 := zqd BK263.out 0
              have hfz47_1 := zqd BK263.out 1
              have hfz47_2 := zqd BK263.out 2
              have hfz47_3 := zqd BK263.out 3
              go_wp2
              refine bodyPost_ret (results_ct rfl _ _ gb263 26 #[.int .i64 0, .int .i64 0, .int .i64 0, .slice none 0 0] (0, 0) _ rfl (by (with_reducible repeat (first | apply zqa | apply zqb | apply zqc)); refine blk_put (cs := #[.int .i64 0, .int .i64 0, .int .i64 0, .slice none 0 0]) ?_ 3 _ rfl; (with_reducible repeat (first | apply zqa | apply zqb | apply zqc)); refine blk_put (cs := #[.int .i64 0, .int .i64 0, .int .i64 x264002_2, .slice none 0 0]) ?_ 2 _ rfl; (with_reducible repeat (first | apply zqa | apply zqb | apply zqc)); refine blk_put (cs := #[.int .i64 0, .int .i64 x264001_2, .int .i64 x264002_2, .slice none 0 0]) ?_ 1 _ rfl; (with_reducible repeat (first | apply zqa | apply zqb | apply zqc)); refine blk_put (cs := #[.int .i64 x264000_2, .int .i64 x264001_2, .int .i64 x264002_2, .slice none 0 0]) ?_ 0 _ rfl; (with_reducible repeat (first | apply zqa | apply zqb | apply zqc)); exact BK263.out) Tryd.underlying26 rfl (by kernel_rfl)) rfl ?_
              exact ⟨_, by first | rfl | (simp [errW_none, errW_some] <;> rfl) | (simp [*, errW_none, errW_some] <;> rfl), by first | exact Kd.R_nil _ _ _ _ _ | exact Kd.N_nil _ _ _ _ _ | exact Kd.V_nil _ _ _ _ _ | exact Kd.Q_nil _ _ _ _ _ | exact Kd.S_nil _ _ _ _ _, by repeat (first | (with_reducible first | exact HB.out | apply zqg | apply zqf | apply zqh | refine below_set ?_ GE263.out | refine below_set ?_ GE264.out | refine below_set ?_ GE276.out) | exact HB.out)⟩
            ·
             rw [if_neg c30] at H
             exact absurd H (by simp)
           ·
            rw [if_neg c29] at H
            have c29b0 : decide (x8_2 < (t265.length : Int)) = false := decide_eq_false c29
            clear c29
            replace H := Option.bind_eq_some_iff.mp H
            obtain ⟨t293, A480, H⟩ := H
            replace H : (if t293 = true then (some ((rd (rd_L3 t265 0) 0), (rd (rd_L3 t265 0) 1), (rd (rd_L3 t265 0) 2), x277003_2, 0)) else (some (0, 0, 0, ([] : List (S34)), 1))) = some (r1, r2, r3, r4, r5) := H
            have A48 := zqi A480
            clear A480
            by_cases c49 : t293 = true
            ·
             subst c49
             have H1 : (some ((rd (rd_L3 t265 0) 0), (rd (rd_L3 t265 0) 1), (rd (rd_L3 t265 0) 2), x277003_2, 0)) = some (r1, r2, r3, r4, r5) := by rw [if_pos rfl] at H; exact H
             clear H
             have H := H1
             clear H1
             simp only [Option.some.injEq, Prod.mk.injEq] at H
             obtain ⟨rfl, rfl, rfl, rfl, rfl⟩ := H
             have hnb50 := NB276_263.out
             have hnc50 := NB263_276.out
             have hnb51 := NB276_264.out
             have hnc51 := NB264_276.out
             have hcz52_0 : wr.cell? ⟨gb276, 0, none⟩ = some (.int .i64 (rd (rd_L3 t265 0) 0)) := (zqe BK276.out 0).trans rfl
             have hcz52_1 : wr.cell? ⟨gb276, 1, none⟩ = some (.int .i64 (rd (rd_L3 t265 0) 1)) := (zqe BK276.out 1).trans rfl
             have hcz52_2 : wr.cell? ⟨gb276, 2, none⟩ = some (.int .i64 (rd (rd_L3 t265 0) 2)) := (zqe BK276.out 2).trans rfl
             have hcz52_3 : wr.cell? ⟨gb276, 3, none⟩ = some (u277003) := (zqe BK276.out 3).trans rfl
             have hfz52_0 := zqd BK276.out 0
             have hfz52_1 := zqd BK276.out 1
             have hfz52_2 := zqd BK276.out 2
             have hfz52_3 := zqd BK276.out 3
             obtain ⟨Ao53, co53, eo53⟩ := Kd.R_slice HO_277003.out
             subst eo53
             go_wp2_with (first | ((with_reducible refine gate_callee (f := 16) rfl ?_); refine goesL_ (some 103) rfl rfl Tryd.func16 (by kernel_rfl) rfl #[.agg #[.int .i64 (rd (rd_L3 t265 0) 0), .int .i64 (rd (rd_L3 t265 0) 1), .int .i64 (rd (rd_L3 t265 0) 2), .slice Ao53 x277003_2.length co53]] rfl (by (try simp only [List.map_toArray, List.map_cons, List.map_nil]); first | done | rfl | (simp only [List.length_drop, List.length_take]; rfl)) ?_; (with_reducible refine (haulierref05_May.calls k2 (rd (rd_L3 t265 0) 0) (rd (rd_L3 t265 0) 1) (rd (rd_L3 t265 0) 2) _ _ x277003_2 true _ ?side1 ?side2 A48.out).mono ?_); (case side1 => repeat (first | exact (Kd.R_reads' HO_277003.out).2.2 | (with_reducible refine Kd.C_alloc ?_ _) | (with_reducible refine Kd.C_drewN ?_ _) | (with_reducible refine Kd.C_drew ?_))); (case side2 => exact (Kd.R_reads' HO_277003.out).2.1); rintro e w54 ⟨rfl, hb⟩; refine ⟨_, rfl, ?_⟩; have n0_ := zqi (Kd.S_below (by (with_reducible repeat (first | apply Kd.S_alloc | apply Kd.S_drewN | apply Kd.S_drew)); exact HO_5.out) hb); have n1_ := zqi (Kd.R_below (by (with_reducible repeat (first | apply Kd.R_alloc | apply Kd.R_drewN | apply Kd.R_drew)); exact HO_277003.out) hb); have n2_ := zqi (blk_below (g := gb263) (o := .cells #[.int .i64 x264000_2, .int .i64 x264001_2, .int .i64 x264002_2, .slice none 0 0] 26 (0, 0)) (by (with_reducible repeat (first | apply zqa | apply zqb | apply zqc)); exact BK263.out) hb); have n3_ := zqi (blk_below (g := gb264) (o := .cells #[.int .i64 0, .int .i64 0, .int .i64 0, .slice none 0 0] 26 (0, 0)) (by (with_reducible repeat (first | apply zqa | apply zqb | apply zqc)); exact BK264.out) hb); have n4_ := zqi (blk_below (g := gb276) (o := .cells #[.int .i64 (rd (rd_L3 t265 0) 0), .int .i64 (rd (rd_L3 t265 0) 1), .int .i64 (rd (rd_L3 t265 0) 2), .slice Ao53 x277003_2.length co53] 26 (0, 0)) (by (with_reducible repeat (first | apply zqa | apply zqb | apply zqc)); exact BK276.out) hb); have n5_ := zqi (below_step (by repeat (first | (with_reducible first | exact HB.out | apply zqg | apply zqf | apply zqh | refine below_set ?_ GE263.out | refine below_set ?_ GE264.out | refine below_set ?_ GE276.out) | exact HB.out)) hb); clear HO_5; clear HO_277003; clear BK263; clear BK264; clear BK276; clear HB; have HO_5 := n0_; have HO_277003 := n1_; have BK263 := n2_; have BK264 := n3_; have BK276 := n4_; have HB := n5_; clear n0_ n1_ n2_ n3_ n4_ n5_; (try clear hb); (try clear hb2); (try clear hk); (try clear hi); have hcz55_0 : w54.cell? ⟨gb276, 0, none⟩ = some (.int .i64 (rd (rd_L3 t265 0) 0)) := (zqe BK276.out 0).trans rfl; have hcz55_1 : w54.cell? ⟨gb276, 1, none⟩ = some (.int .i64 (rd (rd_L3 t265 0) 1)) := (zqe BK276.out 1).trans rfl; have hcz55_2 : w54.cell? ⟨gb276, 2, none⟩ = some (.int .i64 (rd (rd_L3 t265 0) 2)) := (zqe BK276.out 2).trans rfl; have hcz55_3 : w54.cell? ⟨gb276, 3, none⟩ = some (.slice Ao53 x277003_2.length co53) := (zqe BK276.out 3).trans rfl; have hfz55_0 := zqd BK276.out 0; have hfz55_1 := zqd BK276.out 1; have hfz55_2 := zqd BK276.out 2; have hfz55_3 := zqd BK276.out 3; have hnb56 := NB263_264.out; have hnc56 := NB264_263.out; have hcz57_0 : w54.cell? ⟨gb263, 0, none⟩ = some (.int .i64 x264000_2) := (zqe BK263.out 0).trans rfl; have hcz57_1 : w54.cell? ⟨gb263, 1, none⟩ = some (.int .i64 x264001_2) := (zqe BK263.out 1).trans rfl; have hcz57_2 : w54.cell? ⟨gb263, 2, none⟩ = some (.int .i64 x264002_2) := (zqe BK263.out 2).trans rfl; have hcz57_3 : w54.cell? ⟨gb263, 3, none⟩ = some (.slice none 0 0) := (zqe BK263.out 3).trans rfl; have hfz57_0 := zqd BK263.out 0; have hfz57_1 := zqd BK263.out 1; have hfz57_2 := zqd BK263.out 2; have hfz57_3 := zqd BK263.out 3))
             refine bodyPost_ret (results_ct rfl _ _ gb263 26 #[.int .i64 (rd (rd_L3 t265 0) 0), .int .i64 (rd (rd_L3 t265 0) 1), .int .i64 (rd (rd_L3 t265 0) 2), .slice Ao53 x277003_2.length co53] (0, 0) _ rfl (by (with_reducible repeat (first | apply zqa | apply zqb | apply zqc)); refine blk_put (cs := #[.int .i64 (rd (rd_L3 t265 0) 0), .int .i64 (rd (rd_L3 t265 0) 1), .int .i64 (rd (rd_L3 t265 0) 2), .slice none 0 0]) ?_ 3 _ rfl; (with_reducible repeat (first | apply zqa | apply zqb | apply zqc)); refine blk_put (cs := #[.int .i64 (rd (rd_L3 t265 0) 0), .int .i64 (rd (rd_L3 t265 0) 1), .int .i64 x264002_2, .slice none 0 0]) ?_ 2 _ rfl; (with_reducible repeat (first | apply zqa | apply zqb | apply zqc)); refine blk_put (cs := #[.int .i64 (rd (rd_L3 t265 0) 0), .int .i64 x264001_2, .int .i64 x264002_2, .slice none 0 0]) ?_ 1 _ rfl; (with_reducible repeat (first | apply zqa | apply zqb | apply zqc)); refine blk_put (cs := #[.int .i64 x264000_2, .int .i64 x264001_2, .int .i64 x264002_2, .slice none 0 0]) ?_ 0 _ rfl; (with_reducible repeat (first | apply zqa | apply zqb | apply zqc)); exact BK263.out) Tryd.underlying26 rfl (by kernel_rfl)) rfl ?_
             exact ⟨_, by first | rfl | (simp [errW_none, errW_some] <;> rfl) | (simp [*, errW_none, errW_some] <;> rfl), by (with_reducible repeat (first | apply Kd.R_alloc | apply Kd.R_drewN | apply Kd.R_drew)); exact Kd.R_mono (Kd.R_far (p := ⟨gb263, 3, none⟩) (Kd.R_far (p := ⟨gb263, 2, none⟩) (Kd.R_far (p := ⟨gb263, 1, none⟩) (Kd.R_far (p := ⟨gb263, 0, none⟩) (Kd.R_types HO_277003.out BK263.out (by decide)) (fun _ hk => hk.2) (.int .i64 (rd (rd_L3 t265 0) 0))) (fun _ hk => hk.2) (.int .i64 (rd (rd_L3 t265 0) 1))) (fun _ hk => hk.2) (.int .i64 (rd (rd_L3 t265 0) 2))) (fun _ hk => hk.2) (.slice Ao53 x277003_2.length co53)) (fun _ hk => trivial), by repeat (first | (with_reducible first | exact HB.out | apply zqg | apply zqf | apply zqh | refine below_set ?_ GE263.out | refine below_set ?_ GE264.out | refine below_set ?_ GE276.out) | exact HB.out)⟩
            ·
             replace c49 := Bool.eq_false_iff.mpr c49
             subst c49
             have H1 : (some (0, 0, 0, ([] : List (S34)), 1)) = some (r1, r2, r3, r4, r5) := by rw [if_neg (show ¬ (false = true) by decide)] at H; exact H
             clear H
             have H := H1
             clear H1
             simp only [Option.some.injEq, Prod.mk.injEq] at H
             obtain ⟨rfl, rfl, rfl, rfl, rfl⟩ := H
             have hnb58 := NB276_263.out
             have hnc58 := NB263_276.out
             have hnb59 := NB276_264.out
             have hnc59 := NB264_276.out
             have hcz60_0 : wr.cell? ⟨gb276, 0, none⟩ = some (.int .i64 (rd (rd_L3 t265 0) 0)) := (zqe BK276.out 0).trans rfl
             have hcz60_1 : wr.cell? ⟨gb276, 1, none⟩ = some (.int .i64 (rd (rd_L3 t265 0) 1)) := (zqe BK276.out 1).trans rfl
             have hcz60_2 : wr.cell? ⟨gb276, 2, none⟩ = some (.int .i64 (rd (rd_L3 t265 0) 2)) := (zqe BK276.out 2).trans rfl
             have hcz60_3 : wr.cell? ⟨gb276, 3, none⟩ = some (u277003) := (zqe BK276.out 3).trans rfl
             have hfz60_0 := zqd BK276.out 0
             have hfz60_1 := zqd BK276.out 1
             have hfz60_2 := zqd BK276.out 2
             have hfz60_3 := zqd BK276.out 3
             obtain ⟨Ao61, co61, eo61⟩ := Kd.R_slice HO_277003.out
             subst eo61
             go_wp2_with (first | ((with_reducible refine gate_callee (f := 16) rfl ?_); refine goesL_ (some 103) rfl rfl Tryd.func16 (by kernel_rfl) rfl #[.agg #[.int .i64 (rd (rd_L3 t265 0) 0), .int .i64 (rd (rd_L3 t265 0) 1), .int .i64 (rd (rd_L3 t265 0) 2), .slice Ao61 x277003_2.length co61]] rfl (by (try simp only [List.map_toArray, List.map_cons, List.map_nil]); first | done | rfl | (simp only [List.length_drop, List.length_take]; rfl)) ?_; (with_reducible refine (haulierref05_May.calls k2 (rd (rd_L3 t265 0) 0) (rd (rd_L3 t265 0) 1) (rd (rd_L3 t265 0) 2) _ _ x277003_2 false _ ?side1 ?side2 A48.out).mono ?_); (case side1 => repeat (first | exact (Kd.R_reads' HO_277003.out).2.2 | (with_reducible refine Kd.C_alloc ?_ _) | (with_reducible refine Kd.C_drewN ?_ _) | (with_reducible refine Kd.C_drew ?_))); (case side2 => exact (Kd.R_reads' HO_277003.out).2.1); rintro e w62 ⟨rfl, hb⟩; refine ⟨_, rfl, ?_⟩; have n0_ := zqi (Kd.S_below (by (with_reducible repeat (first | apply Kd.S_alloc | apply Kd.S_drewN | apply Kd.S_drew)); exact HO_5.out) hb); have n1_ := zqi (Kd.R_below (by (with_reducible repeat (first | apply Kd.R_alloc | apply Kd.R_drewN | apply Kd.R_drew)); exact HO_277003.out) hb); have n2_ := zqi (blk_below (g := gb263) (o := .cells #[.int .i64 x264000_2, .int .i64 x264001_2, .int .i64 x264002_2, .slice none 0 0] 26 (0, 0)) (by (with_reducible repeat (first | apply zqa | apply zqb | apply zqc)); exact BK263.out) hb); have n3_ := zqi (blk_below (g := gb264) (o := .cells #[.int .i64 0, .int .i64 0, .int .i64 0, .slice none 0 0] 26 (0, 0)) (by (with_reducible repeat (first | apply zqa | apply zqb | apply zqc)); exact BK264.out) hb); have n4_ := zqi (blk_below (g := gb276) (o := .cells #[.int .i64 (rd (rd_L3 t265 0) 0), .int .i64 (rd (rd_L3 t265 0) 1), .int .i64 (rd (rd_L3 t265 0) 2), .slice Ao61 x277003_2.length co61] 26 (0, 0)) (by (with_reducible repeat (first | apply zqa | apply zqb | apply zqc)); exact BK276.out) hb); have n5_ := zqi (below_step (by repeat (first | (with_reducible first | exact HB.out | apply zqg | apply zqf | apply zqh | refine below_set ?_ GE263.out | refine below_set ?_ GE264.out | refine below_set ?_ GE276.out) | exact HB.out)) hb); clear HO_5; clear HO_277003; clear BK263; clear BK264; clear BK276; clear HB; have HO_5 := n0_; have HO_277003 := n1_; have BK263 := n2_; have BK264 := n3_; have BK276 := n4_; have HB := n5_; clear n0_ n1_ n2_ n3_ n4_ n5_; (try clear hb); (try clear hb2); (try clear hk); (try clear hi); have hnb63 := NB264_263.out; have hnc63 := NB263_264.out; have hcz64_0 : w62.cell? ⟨gb264, 0, none⟩ = some (.int .i64 0) := (zqe BK264.out 0).trans rfl; have hcz64_1 : w62.cell? ⟨gb264, 1, none⟩ = some (.int .i64 0) := (zqe BK264.out 1).trans rfl; have hcz64_2 : w62.cell? ⟨gb264, 2, none⟩ = some (.int .i64 0) := (zqe BK264.out 2).trans rfl; have hcz64_3 : w62.cell? ⟨gb264, 3, none⟩ = some (.slice none 0 0) := (zqe BK264.out 3).trans rfl; have hfz64_0 := zqd BK264.out 0; have hfz64_1 := zqd BK264.out 1; have hfz64_2 := zqd BK264.out 2; have hfz64_3 := zqd BK264.out 3; have hcz65_0 : w62.cell? ⟨gb263, 0, none⟩ = some (.int .i64 x264000_2) := (zqe BK263.out 0).trans rfl; have hcz65_1 : w62.cell? ⟨gb263, 1, none⟩ = some (.int .i64 x264001_2) := (zqe BK263.out 1).trans rfl; have hcz65_2 : w62.cell? ⟨gb263, 2, none⟩ = some (.int .i64 x264002_2) := (zqe BK263.out 2).trans rfl; have hcz65_3 : w62.cell? ⟨gb263, 3, none⟩ = some (.slice none 0 0) := (zqe BK263.out 3).trans rfl; have hfz65_0 := zqd BK263.out 0; have hfz65_1 := zqd BK263.out 1; have hfz65_2 := zqd BK263.out 2; have hfz65_3 := zqd BK263.out 3))
             refine bodyPost_ret (results_ct rfl _ _ gb263 26 #[.int .i64 0, .int .i64 0, .int .i64 0, .slice none 0 0] (0, 0) _ rfl (by (with_reducible repeat (first | apply zqa | apply zqb | apply zqc)); refine blk_put (cs := #[.int .i64 0, .int .i64 0, .int .i64 0, .slice none 0 0]) ?_ 3 _ rfl; (with_reducible repeat (first | apply zqa | apply zqb | apply zqc)); refine blk_put (cs := #[.int .i64 0, .int .i64 0, .int .i64 x264002_2, .slice none 0 0]) ?_ 2 _ rfl; (with_reducible repeat (first | apply zqa | apply zqb | apply zqc)); refine blk_put (cs := #[.int .i64 0, .int .i64 x264001_2, .int .i64 x264002_2, .slice none 0 0]) ?_ 1 _ rfl; (with_reducible repeat (first | apply zqa | apply zqb | apply zqc)); refine blk_put (cs := #[.int .i64 x264000_2, .int .i64 x264001_2, .int .i64 x264002_2, .slice none 0 0]) ?_ 0 _ rfl; (with_reducible repeat (first | apply zqa | apply zqb | apply zqc)); exact BK263.out) Tryd.underlying26 rfl (by kernel_rfl)) rfl ?_
             exact ⟨_, by first | rfl | (simp [errW_none, errW_some] <;> rfl) | (simp [*, errW_none, errW_some] <;> rfl), by first | exact Kd.R_nil _ _ _ _ _ | exact Kd.N_nil _ _ _ _ _ | exact Kd.V_nil _ _ _ _ _ | exact Kd.Q_nil _ _ _ _ _ | exact Kd.S_nil _ _ _ _ _, by repeat (first | (with_reducible first | exact HB.out | apply zqg | apply zqf | apply zqh | refine below_set ?_ GE263.out | refine below_set ?_ GE264.out | refine below_set ?_ GE276.out) | exact HB.out)⟩
        ·
         rw [if_neg c21] at H
         exact absurd H (by simp)
       ·
        rw [if_neg c20] at H
        exact absurd H (by simp)
      ·
       rw [if_neg c19] at H
       exact absurd H (by simp)
     ·
      rw [if_neg c18] at H
      exact absurd H (by simp)
 ·
  rw [if_neg c3] at H
  have c3b0 : (t266 == 0) = false := beq_eq_false_iff_ne.mpr c3
  have c3b1 : (t266 != 0) = true := bne_iff_ne.mpr c3
  simp only [Option.some.injEq, Prod.mk.injEq] at H
  obtain ⟨rfl, rfl, rfl, rfl, rfl⟩ := H
  go_enter Tryd.func11, Tryd.ntmps11
  go_wp2_with (first | ((with_reducible refine gate_dst (N := 2) rfl ?_); (try (refine gate_guard (by rfl) ?_; dsimp only)); refine box_event ?hg (N := 2) ?hd (cs := #[.int .i64 0, .int .i64 0, .int .i64 0, .slice none 0 0]) (t := 26) ?hr ?_; (case hd => rfl); (case hg => rfl); (case hr => first | (go_simp; done) | (go_simp; rfl)); intro gb263 hg w66 hbox hb; have n0_ := zqi (below_step (by repeat (first | (with_reducible first | exact HB.out | apply zqg | apply zqf | apply zqh) | exact HB.out)) hb); have n1_ := zqi (hbox); have n2_ := zqi ((by rw [hg]; exact (below_size (by repeat (first | (with_reducible first | exact HB.out | apply zqg | apply zqf | apply zqh) | exact HB.out))) : w.heap.size ≤ gb263)); have n3_ := zqi ((by rw [hg]; exact (below_size (by repeat (first | (with_reducible first | exact HB.out | apply zqg | apply zqf | apply zqh) | exact HB.out))) : w.heap.size ≤ gb263)); clear HB; have HB := n0_; have BK263 := n1_; have GW263 := n2_; have GE263 := n3_; clear n0_ n1_ n2_ n3_; clear hb hbox hg) | ((with_reducible refine gate_dst (N := 4) rfl ?_); (try (refine gate_guard (by rfl) ?_; dsimp only)); refine box_event ?hg (N := 4) ?hd (cs := #[.int .i64 0, .int .i64 0, .int .i64 0, .slice none 0 0]) (t := 26) ?hr ?_; (case hd => rfl); (case hg => rfl); (case hr => first | (go_simp; done) | (go_simp; rfl)); intro gb264 hg w67 hbox hb; have n0_ := zqi (blk_below (g := gb263) (o := .cells #[.int .i64 0, .int .i64 0, .int .i64 0, .slice none 0 0] 26 (0, 0)) (by (with_reducible repeat (first | apply zqa | apply zqb | apply zqc)); exact BK263.out) hb); have n1_ := zqi (below_step (by repeat (first | (with_reducible first | exact HB.out | apply zqg | apply zqf | apply zqh | refine below_set ?_ GE263.out) | exact HB.out)) hb); have n2_ := zqi (hbox); have n3_ := zqi ((by rw [hg]; exact (below_size (by repeat (first | (with_reducible first | exact HB.out | apply zqg | apply zqf | apply zqh | refine below_set ?_ GE263.out) | exact HB.out))) : w.heap.size ≤ gb264)); have n4_ := zqi ((by rw [hg]; exact (below_size (by repeat (first | (with_reducible first | exact HB.out | apply zqg | apply zqf | apply zqh | refine below_set ?_ GE263.out) | exact HB.out))) : w.heap.size ≤ gb264)); have n5_ := zqi ((by rw [hg]; exact Nat.ne_of_lt (blk_lt (g := gb263) (o := .cells #[.int .i64 0, .int .i64 0, .int .i64 0, .slice none 0 0] 26 (0, 0)) (by (with_reducible repeat (first | apply zqa | apply zqb | apply zqc)); exact BK263.out)) : gb263 ≠ gb264)); have n6_ := zqi ((by rw [hg]; exact Nat.ne_of_gt (blk_lt (g := gb263) (o := .cells #[.int .i64 0, .int .i64 0, .int .i64 0, .slice none 0 0] 26 (0, 0)) (by (with_reducible repeat (first | apply zqa | apply zqb | apply zqc)); exact BK263.out)) : gb264 ≠ gb263)); clear BK263; clear HB; have BK263 := n0_; have HB := n1_; have BK264 := n2_; have GW264 := n3_; have GE264 := n4_; have NB263_264 := n5_; have NB264_263 := n6_; clear n0_ n1_ n2_ n3_ n4_ n5_ n6_; clear hb hbox hg; have hnb68 := NB264_263.out; have hnc68 := NB263_264.out; have hcz69_0 : w67.cell? ⟨gb264, 0, none⟩ = some (.int .i64 0) := (zqe BK264.out 0).trans rfl; have hcz69_1 : w67.cell? ⟨gb264, 1, none⟩ = some (.int .i64 0) := (zqe BK264.out 1).trans rfl; have hcz69_2 : w67.cell? ⟨gb264, 2, none⟩ = some (.int .i64 0) := (zqe BK264.out 2).trans rfl; have hcz69_3 : w67.cell? ⟨gb264, 3, none⟩ = some (.slice none 0 0) := (zqe BK264.out 3).trans rfl; have hfz69_0 := zqd BK264.out 0; have hfz69_1 := zqd BK264.out 1; have hfz69_2 := zqd BK264.out 2; have hfz69_3 := zqd BK264.out 3) | ((with_reducible refine gate_callee (f := 23) rfl ?_); refine goesL_ (some 13) rfl rfl Tryd.func23 (by kernel_rfl) rfl #[.slice A0 l0.length c0] rfl (by (try simp only [List.map_toArray, List.map_cons, List.map_nil]); first | done | rfl | (simp only [List.length_drop, List.length_take]; rfl)) ?_; (with_reducible refine (haulierref04_Lines.calls k _ _ l0 t265 t266 _ ?side1 ?side2 A2.out).mono ?_); (case side1 => exact Kd.C_below HR0.out (by repeat (first | (with_reducible first | exact HB.out | apply zqg | apply zqf | apply zqh | refine below_set ?_ GE263.out | refine below_set ?_ GE264.out) | exact HB.out))); (case side2 => exact HC0.out); rintro e w70 ⟨v267, rfl, ho0, hb⟩; refine ⟨_, rfl, ?_⟩; have n0_ := zqi (Kd.S_lower ho0 (below_size (by repeat (first | (with_reducible first | exact HB.out | apply zqg | apply zqf | apply zqh | refine below_set ?_ GE263.out | refine below_set ?_ GE264.out) | exact HB.out)))); have n1_ := zqi (blk_below (g := gb263) (o := .cells #[.int .i64 0, .int .i64 0, .int .i64 0, .slice none 0 0] 26 (0, 0)) (by (with_reducible repeat (first | apply zqa | apply zqb | apply zqc)); refine blk_far ?_ NB263_264.out _; (with_reducible repeat (first | apply zqa | apply zqb | apply zqc)); refine blk_far ?_ NB263_264.out _; (with_reducible repeat (first | apply zqa | apply zqb | apply zqc)); refine blk_far ?_ NB263_264.out _; (with_reducible repeat (first | apply zqa | apply zqb | apply zqc)); refine blk_far ?_ NB263_264.out _; (with_reducible repeat (first | apply zqa | apply zqb | apply zqc)); exact BK263.out) hb); have n2_ := zqi (blk_below (g := gb264) (o := .cells #[.int .i64 0, .int .i64 0, .int .i64 0, .slice none 0 0] 26 (0, 0)) (by (with_reducible repeat (first | apply zqa | apply zqb | apply zqc)); refine blk_put (cs := #[.int .i64 0, .int .i64 0, .int .i64 0, .slice none 0 0]) ?_ 3 _ rfl; (with_reducible repeat (first | apply zqa | apply zqb | apply zqc)); refine blk_put (cs := #[.int .i64 0, .int .i64 0, .int .i64 0, .slice none 0 0]) ?_ 2 _ rfl; (with_reducible repeat (first | apply zqa | apply zqb | apply zqc)); refine blk_put (cs := #[.int .i64 0, .int .i64 0, .int .i64 0, .slice none 0 0]) ?_ 1 _ rfl; (with_reducible repeat (first | apply zqa | apply zqb | apply zqc)); refine blk_put (cs := #[.int .i64 0, .int .i64 0, .int .i64 0, .slice none 0 0]) ?_ 0 _ rfl; (with_reducible repeat (first | apply zqa | apply zqb | apply zqc)); exact BK264.out) hb); have n3_ := zqi (below_step (by repeat (first | (with_reducible first | exact HB.out | apply zqg | apply zqf | apply zqh | refine below_set ?_ GE263.out | refine below_set ?_ GE264.out) | exact HB.out)) hb); clear BK263; clear BK264; clear HB; have HO268 := n0_; have BK263 := n1_; have BK264 := n2_; have HB := n3_; clear n0_ n1_ n2_ n3_; (try clear hb); (try clear hb2); (try clear hk); (try clear hi); (try clear ho0); have hcz71_0 : w70.cell? ⟨gb264, 0, none⟩ = some (.int .i64 0) := (zqe BK264.out 0).trans rfl; have hcz71_1 : w70.cell? ⟨gb264, 1, none⟩ = some (.int .i64 0) := (zqe BK264.out 1).trans rfl; have hcz71_2 : w70.cell? ⟨gb264, 2, none⟩ = some (.int .i64 0) := (zqe BK264.out 2).trans rfl; have hcz71_3 : w70.cell? ⟨gb264, 3, none⟩ = some (.slice none 0 0) := (zqe BK264.out 3).trans rfl; have hfz71_0 := zqd BK264.out 0; have hfz71_1 := zqd BK264.out 1; have hfz71_2 := zqd BK264.out 2; have hfz71_3 := zqd BK264.out 3; have hcz72_0 : w70.cell? ⟨gb263, 0, none⟩ = some (.int .i64 0) := (zqe BK263.out 0).trans rfl; have hcz72_1 : w70.cell? ⟨gb263, 1, none⟩ = some (.int .i64 0) := (zqe BK263.out 1).trans rfl; have hcz72_2 : w70.cell? ⟨gb263, 2, none⟩ = some (.int .i64 0) := (zqe BK263.out 2).trans rfl; have hcz72_3 : w70.cell? ⟨gb263, 3, none⟩ = some (.slice none 0 0) := (zqe BK263.out 3).trans rfl; have hfz72_0 := zqd BK263.out 0; have hfz72_1 := zqd BK263.out 1; have hfz72_2 := zqd BK263.out 2; have hfz72_3 := zqd BK263.out 3))
  refine bodyPost_ret (results_ct rfl _ _ gb263 26 #[.int .i64 0, .int .i64 0, .int .i64 0, .slice none 0 0] (0, 0) _ rfl (by (with_reducible repeat (first | apply zqa | apply zqb | apply zqc)); refine blk_put (cs := #[.int .i64 0, .int .i64 0, .int .i64 0, .slice none 0 0]) ?_ 3 _ rfl; (with_reducible repeat (first | apply zqa | apply zqb | apply zqc)); refine blk_put (cs := #[.int .i64 0, .int .i64 0, .int .i64 0, .slice none 0 0]) ?_ 2 _ rfl; (with_reducible repeat (first | apply zqa | apply zqb | apply zqc)); refine blk_put (cs := #[.int .i64 0, .int .i64 0, .int .i64 0, .slice none 0 0]) ?_ 1 _ rfl; (with_reducible repeat (first | apply zqa | apply zqb | apply zqc)); refine blk_put (cs := #[.int .i64 0, .int .i64 0, .int .i64 0, .slice none 0 0]) ?_ 0 _ rfl; (with_reducible repeat (first | apply zqa | apply zqb | apply zqc)); exact BK263.out) Tryd.underlying26 rfl (by kernel_rfl)) rfl ?_
  exact ⟨_, by first | rfl | (simp [errW_none, errW_some] <;> rfl) | (simp [*, errW_none, errW_some] <;> rfl), by first | exact Kd.R_nil _ _ _ _ _ | exact Kd.N_nil _ _ _ _ _ | exact Kd.V_nil _ _ _ _ _ | exact Kd.Q_nil _ _ _ _ _ | exact Kd.S_nil _ _ _ _ _, by repeat (first | (with_reducible first | exact HB.out | apply zqg | apply zqf | apply zqh | refine below_set ?_ GE263.out | refine below_set ?_ GE264.out) | exact HB.out)⟩

end Go.Proofs.YtifekgemngfidaaDoor.PA
