-- Printed for this claim by wip/tools/xprint.py over the kit's print; the contracts marked BY HAND are this session's own.
import Derived.Test.YtifekgemngfidaaDoorPAx0
import Derived.Test.YtifekgemngfidaaDoorPAx3
import Derived.Test.YtifekgemngfidaaDoorPAx8
namespace Go.Proofs.YtifekgemngfidaaDoor.PA
open Go.RowKit Go.Proofs.YtifekgemngfidaaDoorW.PrintWords Go.Proofs.YtifekgemngfidaaDoorW.PrintLast Go.Proofs.YtifekgemngfidaaDoorW.PrintMore
attribute [local go_sem] max2_int min2_int max_two min_two max_three min_three max_four min_four   -- for this text's walks alone
set_option linter.unusedVariables false
set_option linter.unusedSimpArgs false

/-! ### haulierlaw05_InstBounds: function 4 -/
def haulierlaw05_InstBounds.j0 : Nat → Int → Bool → Bool → Int → Int → Int → List (S34) → Option (Bool)
  | 0, _, _, _, _, _, _, _ => none
  | k + 1, x1, x5, x41, x317000, x317001, x317002, x317003 => if x41 = true then (some x5) else (if 0 ≤ (wrap64 ((x317003.length : Int) - 1)) then (if (wrap64 ((x317003.length : Int) - 1)) ≤ (x317003.length : Int) then (if ([] : List (S34)).length + x317003.length < 2932031007402 then ((some (([] : List (S34)) ++ x317003 : List (S34))).bind fun y327 => (if 0 ≤ x1 then (if x1 < (y327.length : Int) then ((some (([] : List (S34)) ++ x317003 : List (S34))).bind fun y333 => (if x1 < (y333.length : Int) then ((inst_May.f k x317000 x317001 x317002 (x317003.take ((wrap64 ((x317003.length : Int) - 1)) : Int).toNat)).bind fun t338 => (if t338 = true then (none) else ((inst_May.f k (wrap64 (x317000 + 1)) x317001 x317002 x317003).bind fun t339 => (if t339 = true then (none) else ((inst_May.f k x317000 0 x317002 x317003).bind fun t340 => (if t340 = true then (none) else ((inst_May.f k x317000 x317001 x317002 (y327.set (x1 : Int).toNat (⟨(rd_T34 y327 x1).f0, (rd_T34 y327 x1).f1, wrap64 (((rd_T34 y327 x1).f2) + 1), (rd_T34 y327 x1).f3, (rd_T34 y327 x1).f4, (rd_T34 y327 x1).f5⟩ : S34))).bind fun t341 => (if t341 = true then (none) else ((inst_May.f k x317000 x317001 x317002 (y333.set (x1 : Int).toNat (⟨(rd_T34 y333 x1).f0, (rd_T34 y333 x1).f1, (rd_T34 y333 x1).f2, (rd_T34 y333 x1).f3, wrap64 (((rd_T34 y333 x1).f3) - 1), (rd_T34 y333 x1).f5⟩ : S34))).bind fun t342 => (some (!t342))))))))))) else (none))) else (none)) else (none))) else (none)) else (none)) else (none))
def haulierlaw05_InstBounds.f (k : Nat) (a0_0 : Int) (a0_1 : Int) (a0_2 : Int) (l0_3 : List (S34)) (a1 : Int) : Option (Bool) := (haulierlaw05_awake.f k).bind fun t317 => (if t317 = true then (if (l0_3.length : Int) > 33 then (haulierlaw05_InstBounds.j0 k a1 t317 true a0_0 a0_1 a0_2 l0_3) else ((inst_May.f k a0_0 a0_1 a0_2 l0_3).bind fun t318 => (if t318 = true then (if (l0_3.length : Int) = 0 then (haulierlaw05_InstBounds.j0 k a1 t317 true a0_0 a0_1 a0_2 l0_3) else (if a1 < 1 then (haulierlaw05_InstBounds.j0 k a1 t317 true a0_0 a0_1 a0_2 l0_3) else (haulierlaw05_InstBounds.j0 k a1 t317 (decide (a1 ≥ (l0_3.length : Int))) a0_0 a0_1 a0_2 l0_3))) else (haulierlaw05_InstBounds.j0 k a1 t317 true a0_0 a0_1 a0_2 l0_3)))) else (haulierlaw05_InstBounds.j0 k a1 t317 true a0_0 a0_1 a0_2 l0_3))
theorem haulierlaw05_InstBounds.mono_l : ∀ k, (∀ y0 y1 y2 y3 y4 y5 y6, LeO (haulierlaw05_InstBounds.j0 k y0 y1 y2 y3 y4 y5 y6) (haulierlaw05_InstBounds.j0 (k + 1) y0 y1 y2 y3 y4 y5 y6))
  | 0 => fun _ _ _ _ _ _ _ r h => by simp [haulierlaw05_InstBounds.j0] at h
  | k + 1 => by
    have ih0 := haulierlaw05_InstBounds.mono_l k
    · intro y0 y1 y2 y3 y4 y5 y6
      unfold haulierlaw05_InstBounds.j0
      repeat' first
      | (with_reducible exact ih0 _ _ _ _ _ _ _)
      | (with_reducible exact haulierlaw05_awake.mono _)
      | (with_reducible exact inst_May.mono _ _ _ _ _)
      | (with_reducible exact LeO.refl _)
      | (with_reducible exact LeO.none _)
      | (with_reducible refine LeO.ite ?_ ?_)
      | (with_reducible refine LeO.bind ?_ (fun _ => ?_))
      | exact ih0 _ _ _ _ _ _ _
      | exact haulierlaw05_awake.mono _
      | exact inst_May.mono _ _ _ _ _
      | exact LeO.none _
      | refine LeO.ite ?_ ?_
      | refine LeO.bind ?_ (fun _ => ?_)
theorem haulierlaw05_InstBounds.mono : ∀ a0 a1 a2 a3 a4 k, LeO (haulierlaw05_InstBounds.f k a0 a1 a2 a3 a4) (haulierlaw05_InstBounds.f (k + 1) a0 a1 a2 a3 a4) := by
  intro a0 a1 a2 a3 a4 k
  have ih0 := haulierlaw05_InstBounds.mono_l k
  unfold haulierlaw05_InstBounds.f
  repeat' first
      | (with_reducible exact ih0 _ _ _ _ _ _ _)
      | (with_reducible exact haulierlaw05_awake.mono _)
      | (with_reducible exact inst_May.mono _ _ _ _ _)
      | (with_reducible exact LeO.refl _)
      | (with_reducible exact LeO.none _)
      | (with_reducible refine LeO.ite ?_ ?_)
      | (with_reducible refine LeO.bind ?_ (fun _ => ?_))
      | exact ih0 _ _ _ _ _ _ _
      | exact haulierlaw05_awake.mono _
      | exact inst_May.mono _ _ _ _ _
      | exact LeO.none _
      | refine LeO.ite ?_ ?_
      | refine LeO.bind ?_ (fun _ => ?_)
def haulierlaw05_InstBounds.T12 : Bool × List (List Nat × List Nat) := (true, [([], []), ([0], [0]), ([], []), ([], []), ([3], [3]), ([], []), ([4, 5], [4, 5]), ([6], [6]), ([7], [7]), ([8], [8]), ([1, 2, 0, 1, 2, 3, 4, 5, 6, 7, 8, 9], [1, 2]), ([10, 0, 1, 2, 3, 4, 5, 6, 7, 8, 9], [10]), ([11, 9, 0, 1, 2, 3, 4, 5, 6, 7, 8, 9], [9, 11])])
def haulierlaw05_InstBounds.B12 : List Nat := [0, 1, 0, 0, 8, 0, 56, 120, 248, 504, 1023, 2047, 4095]
theorem haulierlaw05_InstBounds.tab12 : rtab .any (opsOf Tryd.f4 12) = haulierlaw05_InstBounds.T12 := by kernel_rfl
theorem haulierlaw05_InstBounds.bits12 : waitsOk haulierlaw05_InstBounds.T12.2 haulierlaw05_InstBounds.B12 = true := by kernel_rfl
def haulierlaw05_InstBounds.T15 : Bool × List (List Nat × List Nat) := (true, [([], []), ([0], [0]), ([], []), ([], []), ([3], [3]), ([], []), ([4, 5], [4, 5]), ([6], [6]), ([7], [7]), ([8], [8]), ([1, 2, 0, 1, 2, 3, 4, 5, 6, 7, 8, 9], [1, 2]), ([10, 0, 1, 2, 3, 4, 5, 6, 7, 8, 9], [10]), ([11, 9, 0, 1, 2, 3, 4, 5, 6, 7, 8, 9], [9, 11])])
def haulierlaw05_InstBounds.B15 : List Nat := [0, 1, 0, 0, 8, 0, 56, 120, 248, 504, 1023, 2047, 4095]
theorem haulierlaw05_InstBounds.tab15 : rtab .any (opsOf Tryd.f4 15) = haulierlaw05_InstBounds.T15 := by kernel_rfl
theorem haulierlaw05_InstBounds.bits15 : waitsOk haulierlaw05_InstBounds.T15.2 haulierlaw05_InstBounds.B15 = true := by kernel_rfl
theorem zq68_1 {w : World} {g : Nat} {o : Obj} (h : w.heap[g]? = some o) (n : Nat) : (w.drewN n).heap[g]? = some o := h
theorem zq68_2 {w : World} {g : Nat} {o : Obj} (h : w.heap[g]? = some o) : w.drew.heap[g]? = some o := h
theorem zq68_3 {w : World} {g : Nat} {o : Obj} (h : w.heap[g]? = some o) (o' : Obj) : (w.alloc o').heap[g]? = some o := blk_alloc h o'
theorem zq68_4 {w : World} {g : Nat} {t : TypeId} {cs : Array Value} (h : w.heap[g]? = some (.cells cs t (0, 0))) (i : Nat) : w.frozen? ⟨g, i, none⟩ = false := blk_frozen h i
theorem zq68_5 {w : World} {g : Nat} {t : TypeId} {cs : Array Value} (h : w.heap[g]? = some (.cells cs t (0, 0))) (i : Nat) : w.cell? ⟨g, i, none⟩ = cs[i]? := blk_cell h i
theorem zq68_6 {B : Nat} {w W : World} (h : Below B w W) (n : Nat) : Below B w (W.drewN n) := pw_below_drewN h n
theorem zq68_7 {w W : World} (h : Below w.heap.size w W) (o : Obj) : Below w.heap.size w (W.alloc o) := below_alloc h o
theorem zq68_8 {base : Nat} {w W : World} (h : Below base w W) : Below base w W.drew := below_drew1 h
theorem zq68_9 {p : Prop} (h : p) : Aside0 p := ⟨h⟩
theorem zq68_10 {w : World} {n m : Nat} : (w.drewN n).drewN m = w.drewN (n + m) := World.drewN_drewN _ _ _
set_option maxHeartbeats 8000000 in
set_option maxRecDepth 100000 in
theorem haulierlaw05_InstBounds.calls (k : Nat) (a0_0 : Int) (a0_1 : Int) (a0_2 : Int) (A0_3 : Option Addr) (c0_3 : Nat) (l0_3 : List (S34)) (a1 : Int) (r : Bool) (w : World) (hr0_3 : Kd.C k34 w A0_3 l0_3.length l0_3) (hc0_3 : l0_3.length ≤ c0_3) (h : haulierlaw05_InstBounds.f k a0_0 a0_1 a0_2 l0_3 a1 = some r) (hT : Go.Proofs.YtifekgemngfidaaDoor.Scan.NumTab w) :
  Calls Tryd.prog 4 #[.agg #[.int .i64 a0_0, .int .i64 a0_1, .int .i64 a0_2, .slice A0_3 l0_3.length c0_3], .int .i64 a1] w fun e w' => e = .returned (.bool r) ∧ Below w.heap.size w w' := by
 have HT := zq68_9 hT
 clear hT
 have hu26 := Tryd.underlying26
 have HR0_3 := zq68_9 hr0_3
 have HC0_3 := zq68_9 hc0_3
 clear hr0_3 hc0_3
 have HB := zq68_9 (Below.refl w.heap.size w)
 have H : ((haulierlaw05_awake.f k).bind fun t317 => (if t317 = true then (if (l0_3.length : Int) > 33 then (haulierlaw05_InstBounds.j0 k a1 t317 true a0_0 a0_1 a0_2 l0_3) else ((inst_May.f k a0_0 a0_1 a0_2 l0_3).bind fun t318 => (if t318 = true then (if (l0_3.length : Int) = 0 then (haulierlaw05_InstBounds.j0 k a1 t317 true a0_0 a0_1 a0_2 l0_3) else (if a1 < 1 then (haulierlaw05_InstBounds.j0 k a1 t317 true a0_0 a0_1 a0_2 l0_3) else (haulierlaw05_InstBounds.j0 k a1 t317 (decide (a1 ≥ (l0_3.length : Int))) a0_0 a0_1 a0_2 l0_3))) else (haulierlaw05_InstBounds.j0 k a1 t317 true a0_0 a0_1 a0_2 l0_3)))) else (haulierlaw05_InstBounds.j0 k a1 t317 true a0_0 a0_1 a0_2 l0_3))) = some r := h
 clear h
 replace H := Option.bind_eq_some_iff.mp H
 obtain ⟨t317, A30, H⟩ := H
 replace H : (if t317 = true then (if (l0_3.length : Int) > 33 then (haulierlaw05_InstBounds.j0 k a1 t317 true a0_0 a0_1 a0_2 l0_3) else ((inst_May.f k a0_0 a0_1 a0_2 l0_3).bind fun t318 => (if t318 = true then (if (l0_3.length : Int) = 0 then (haulierlaw05_InstBounds.j0 k a1 t317 true a0_0 a0_1 a0_2 l0_3) else (if a1 < 1 then (haulierlaw05_InstBounds.j0 k a1 t317 true a0_0 a0_1 a0_2 l0_3) else (haulierlaw05_InstBounds.j0 k a1 t317 (decide (a1 ≥ (l0_3.length : Int))) a0_0 a0_1 a0_2 l0_3))) else (haulierlaw05_InstBounds.j0 k a1 t317 true a0_0 a0_1 a0_2 l0_3)))) else (haulierlaw05_InstBounds.j0 k a1 t317 true a0_0 a0_1 a0_2 l0_3)) = some r := H
 have A3 := zq68_9 A30
 clear A30
 have HC4 := zq68_9 H
 clear H
 go_enter Tryd.func4, Tryd.ntmps4
 go_upto_region 2 with (first | ((with_reducible refine gate_dst (N := 2) rfl ?_); (try (refine gate_guard (by rfl) ?_; dsimp only)); refine box_event ?hg (N := 2) ?hd (cs := #[.int .i64 a0_0, .int .i64 a0_1, .int .i64 a0_2, .slice A0_3 l0_3.length c0_3]) (t := 26) ?hr ?_; (case hd => rfl); (case hg => rfl); (case hr => first | (go_simp; done) | (go_simp; rfl)); intro gb316 hg w5 hbox hb; have n0_ := zq68_9 (below_step (by repeat (first | (with_reducible first | exact HB.out | apply zq68_7 | apply zq68_6 | apply zq68_8) | exact HB.out)) hb); have n1_ := zq68_9 (hbox); have n2_ := zq68_9 ((by rw [hg]; exact (below_size (by repeat (first | (with_reducible first | exact HB.out | apply zq68_7 | apply zq68_6 | apply zq68_8) | exact HB.out))) : w.heap.size ≤ gb316)); have n3_ := zq68_9 ((by rw [hg]; exact (below_size (by repeat (first | (with_reducible first | exact HB.out | apply zq68_7 | apply zq68_6 | apply zq68_8) | exact HB.out))) : w.heap.size ≤ gb316)); clear HB; have HB := n0_; have BK316 := n1_; have GW316 := n2_; have GE316 := n3_; clear n0_ n1_ n2_ n3_; clear hb hbox hg) | ((with_reducible refine gate_callee (f := 9) rfl ?_); refine goesL_ (some 11) rfl rfl Tryd.func9 (by kernel_rfl) rfl #[] rfl (by (try simp only [List.map_toArray, List.map_cons, List.map_nil]); first | done | rfl | (simp only [List.length_drop, List.length_take]; rfl)) ?_; (with_reducible refine (haulierlaw05_awake.calls k  t317 _ A3.out ?tab).mono ?_); (case tab => exact HT.out.on (by repeat (first | (with_reducible first | exact HB.out | apply zq68_7 | apply zq68_6 | apply zq68_8 | refine below_set ?_ GE316.out | refine below_set ?_ GE319.out | refine below_set ?_ GE324.out | refine below_set ?_ GE325.out | refine below_set ?_ GE326.out | refine below_set ?_ GE332.out) | exact HB.out))); rintro e w6 ⟨rfl, hb⟩; refine ⟨_, rfl, ?_⟩; have n0_ := zq68_9 (blk_below (g := gb316) (o := .cells #[.int .i64 a0_0, .int .i64 a0_1, .int .i64 a0_2, .slice A0_3 l0_3.length c0_3] 26 (0, 0)) (by (with_reducible repeat (first | apply zq68_1 | apply zq68_2 | apply zq68_3)); exact BK316.out) hb); have n1_ := zq68_9 (below_step (by repeat (first | (with_reducible first | exact HB.out | apply zq68_7 | apply zq68_6 | apply zq68_8 | refine below_set ?_ GE316.out) | exact HB.out)) hb); clear BK316; clear HB; have BK316 := n0_; have HB := n1_; clear n0_ n1_; (try clear hb); (try clear hb2); (try clear hk); (try clear hi)))
 (try simp only [Act.put, List.setIfInBounds_toArray, List.set_cons_zero, List.set_cons_succ])
 go_cut [41] (fun v41 wc => ∃ (kq : Nat) (x41_3 : Bool), v41 = .bool x41_3 ∧ Aside0 (haulierlaw05_InstBounds.j0 kq a1 t317 x41_3 a0_0 a0_1 a0_2 l0_3 = some r) ∧ Aside0 (kq ≤ k) ∧ Aside0 (wc.heap[gb316]? = some (.cells #[.int .i64 a0_0, .int .i64 a0_1, .int .i64 a0_2, (.slice A0_3 l0_3.length c0_3)] 26 (0, 0))) ∧ Aside0 (Below w.heap.size w wc))
 case first =>
  have H := HC4.out
  clear HC4
  by_cases c7 : t317 = true
  ·
   subst c7
   have H1 : (if (l0_3.length : Int) > 33 then (haulierlaw05_InstBounds.j0 k a1 true true a0_0 a0_1 a0_2 l0_3) else ((inst_May.f k a0_0 a0_1 a0_2 l0_3).bind fun t318 => (if t318 = true then (if (l0_3.length : Int) = 0 then (haulierlaw05_InstBounds.j0 k a1 true true a0_0 a0_1 a0_2 l0_3) else (if a1 < 1 then (haulierlaw05_InstBounds.j0 k a1 true true a0_0 a0_1 a0_2 l0_3) else (haulierlaw05_InstBounds.j0 k a1 true (decide (a1 ≥ (l0_3.length : Int))) a0_0 a0_1 a0_2 l0_3))) else (haulierlaw05_InstBounds.j0 k a1 true true a0_0 a0_1 a0_2 l0_3)))) = some r := by rw [if_pos rfl] at H; exact H
   clear H
   have H := H1
   clear H1
   by_cases c8 : (l0_3.length : Int) > 33
   ·
    rw [if_pos c8] at H
    have c8b0 : decide (33 < (l0_3.length : Int)) = true := decide_eq_true c8
    have c8b1 : decide (33 < l0_3.length) = true := decide_eq_true (by omega)
    clear c8
    (first | rw [c8b0] | (simp only [i64_w, i32_w]; rw [c8b0]) | skip)
    have H' := zq68_9 H
    clear H
    have hcz9_0 : w6.cell? ⟨gb316, 0, none⟩ = some (.int .i64 a0_0) := (zq68_5 BK316.out 0).trans rfl
    have hcz9_1 : w6.cell? ⟨gb316, 1, none⟩ = some (.int .i64 a0_1) := (zq68_5 BK316.out 1).trans rfl
    have hcz9_2 : w6.cell? ⟨gb316, 2, none⟩ = some (.int .i64 a0_2) := (zq68_5 BK316.out 2).trans rfl
    have hcz9_3 : w6.cell? ⟨gb316, 3, none⟩ = some (.slice A0_3 l0_3.length c0_3) := (zq68_5 BK316.out 3).trans rfl
    have hfz9_0 := zq68_4 BK316.out 0
    have hfz9_1 := zq68_4 BK316.out 1
    have hfz9_2 := zq68_4 BK316.out 2
    have hfz9_3 := zq68_4 BK316.out 3
    go_wp2
    go_meet
    case rel => exact ⟨_, (true), (by first | rfl | (simp; done) | (simp [*]; done)), H', ⟨by first | omega | exact Nat.le_refl _⟩, ⟨by (with_reducible repeat (first | apply zq68_1 | apply zq68_2 | apply zq68_3)); exact BK316.out⟩, ⟨by repeat (first | (with_reducible first | exact HB.out | apply zq68_7 | apply zq68_6 | apply zq68_8 | refine below_set ?_ GE316.out) | exact HB.out)⟩⟩
   ·
    rw [if_neg c8] at H
    have c8b0 : decide (33 < (l0_3.length : Int)) = false := decide_eq_false c8
    have c8b1 : decide (33 < l0_3.length) = false := decide_eq_false (by omega)
    clear c8
    (first | rw [c8b0] | (simp only [i64_w, i32_w]; rw [c8b0]) | skip)
    replace H := Option.bind_eq_some_iff.mp H
    obtain ⟨t318, A100, H⟩ := H
    replace H : (if t318 = true then (if (l0_3.length : Int) = 0 then (haulierlaw05_InstBounds.j0 k a1 true true a0_0 a0_1 a0_2 l0_3) else (if a1 < 1 then (haulierlaw05_InstBounds.j0 k a1 true true a0_0 a0_1 a0_2 l0_3) else (haulierlaw05_InstBounds.j0 k a1 true (decide (a1 ≥ (l0_3.length : Int))) a0_0 a0_1 a0_2 l0_3))) else (haulierlaw05_InstBounds.j0 k a1 true true a0_0 a0_1 a0_2 l0_3)) = some r := H
    have A10 := zq68_9 A100
    clear A100
    by_cases c11 : t318 = true
    ·
     subst c11
     have H1 : (if (l0_3.length : Int) = 0 then (haulierlaw05_InstBounds.j0 k a1 true true a0_0 a0_1 a0_2 l0_3) else (if a1 < 1 then (haulierlaw05_InstBounds.j0 k a1 true true a0_0 a0_1 a0_2 l0_3) else (haulierlaw05_InstBounds.j0 k a1 true (decide (a1 ≥ (l0_3.length : Int))) a0_0 a0_1 a0_2 l0_3))) = some r := by rw [if_pos rfl] at H; exact H
     clear H
     have H := H1
     clear H1
     by_cases c12 : (l0_3.length : Int) = 0
     ·
      rw [if_pos c12] at H
      have c12b0 : ((l0_3.length : Int) == 0) = true := beq_iff_eq.mpr c12
      have c12b1 : ((l0_3.length : Int) != 0) = false := bne_eq_false_iff_eq.mpr c12
      clear c12
      have H' := zq68_9 H
      clear H
      have hcz13_0 : w6.cell? ⟨gb316, 0, none⟩ = some (.int .i64 a0_0) := (zq68_5 BK316.out 0).trans rfl
      have hcz13_1 : w6.cell? ⟨gb316, 1, none⟩ = some (.int .i64 a0_1) := (zq68_5 BK316.out 1).trans rfl
      have hcz13_2 : w6.cell? ⟨gb316, 2, none⟩ = some (.int .i64 a0_2) := (zq68_5 BK316.out 2).trans rfl
      have hcz13_3 : w6.cell? ⟨gb316, 3, none⟩ = some (.slice A0_3 l0_3.length c0_3) := (zq68_5 BK316.out 3).trans rfl
      have hfz13_0 := zq68_4 BK316.out 0
      have hfz13_1 := zq68_4 BK316.out 1
      have hfz13_2 := zq68_4 BK316.out 2
      have hfz13_3 := zq68_4 BK316.out 3
      go_wp2_with (first | (go_at_call 13; (with_reducible refine (inst_May.calls k a0_0 a0_1 a0_2 _ _ l0_3 true _ ?side1 ?side2 A10.out).mono ?_); (case side1 => repeat (first | exact (Kd.C_below HR0_3.out HB.out) | (with_reducible refine Kd.C_alloc ?_ _) | (with_reducible refine Kd.C_drewN ?_ _) | (with_reducible refine Kd.C_drew ?_))); (case side2 => exact HC0_3.out); rintro e w14 ⟨rfl, hb⟩; have n0_ := zq68_9 (blk_below (g := gb316) (o := .cells #[.int .i64 a0_0, .int .i64 a0_1, .int .i64 a0_2, .slice A0_3 l0_3.length c0_3] 26 (0, 0)) (by (with_reducible repeat (first | apply zq68_1 | apply zq68_2 | apply zq68_3)); exact BK316.out) hb); have n1_ := zq68_9 (below_step (by repeat (first | (with_reducible first | exact HB.out | apply zq68_7 | apply zq68_6 | apply zq68_8 | refine below_set ?_ GE316.out) | exact HB.out)) hb); clear BK316; clear HB; have BK316 := n0_; have HB := n1_; clear n0_ n1_; (try clear hb); (try clear hb2); (try clear hk); (try clear hi); have hcz15_0 : w14.cell? ⟨gb316, 0, none⟩ = some (.int .i64 a0_0) := (zq68_5 BK316.out 0).trans rfl; have hcz15_1 : w14.cell? ⟨gb316, 1, none⟩ = some (.int .i64 a0_1) := (zq68_5 BK316.out 1).trans rfl; have hcz15_2 : w14.cell? ⟨gb316, 2, none⟩ = some (.int .i64 a0_2) := (zq68_5 BK316.out 2).trans rfl; have hcz15_3 : w14.cell? ⟨gb316, 3, none⟩ = some (.slice A0_3 l0_3.length c0_3) := (zq68_5 BK316.out 3).trans rfl; have hfz15_0 := zq68_4 BK316.out 0; have hfz15_1 := zq68_4 BK316.out 1; have hfz15_2 := zq68_4 BK316.out 2; have hfz15_3 := zq68_4 BK316.out 3))
      go_meet
      case rel => exact ⟨_, (true), (by first | rfl | (simp; done) | (simp [*]; done)), H', ⟨by first | omega | exact Nat.le_refl _⟩, ⟨by (with_reducible repeat (first | apply zq68_1 | apply zq68_2 | apply zq68_3)); exact BK316.out⟩, ⟨by repeat (first | (with_reducible first | exact HB.out | apply zq68_7 | apply zq68_6 | apply zq68_8 | refine below_set ?_ GE316.out) | exact HB.out)⟩⟩
     ·
      rw [if_neg c12] at H
      have c12b0 : ((l0_3.length : Int) == 0) = false := beq_eq_false_iff_ne.mpr c12
      have c12b1 : ((l0_3.length : Int) != 0) = true := bne_iff_ne.mpr c12
      have c12b2 : ¬ (l0_3 = []) := fun h_ => c12 (by rw [h_]; rfl)
      by_cases c16 : a1 < 1
      ·
       rw [if_pos c16] at H
       have c16b0 : decide (a1 < 1) = true := decide_eq_true c16
       clear c16
       have H' := zq68_9 H
       clear H
       have hcz17_0 : w6.cell? ⟨gb316, 0, none⟩ = some (.int .i64 a0_0) := (zq68_5 BK316.out 0).trans rfl
       have hcz17_1 : w6.cell? ⟨gb316, 1, none⟩ = some (.int .i64 a0_1) := (zq68_5 BK316.out 1).trans rfl
       have hcz17_2 : w6.cell? ⟨gb316, 2, none⟩ = some (.int .i64 a0_2) := (zq68_5 BK316.out 2).trans rfl
       have hcz17_3 : w6.cell? ⟨gb316, 3, none⟩ = some (.slice A0_3 l0_3.length c0_3) := (zq68_5 BK316.out 3).trans rfl
       have hfz17_0 := zq68_4 BK316.out 0
       have hfz17_1 := zq68_4 BK316.out 1
       have hfz17_2 := zq68_4 BK316.out 2
       have hfz17_3 := zq68_4 BK316.out 3
       go_wp2_with (first | (go_at_call 13; (with_reducible refine (inst_May.calls k a0_0 a0_1 a0_2 _ _ l0_3 true _ ?side1 ?side2 A10.out).mono ?_); (case side1 => repeat (first | exact (Kd.C_below HR0_3.out HB.out) | (with_reducible refine Kd.C_alloc ?_ _) | (with_reducible refine Kd.C_drewN ?_ _) | (with_reducible refine Kd.C_drew ?_))); (case side2 => exact HC0_3.out); rintro e w18 ⟨rfl, hb⟩; have n0_ := zq68_9 (blk_below (g := gb316) (o := .cells #[.int .i64 a0_0, .int .i64 a0_1, .int .i64 a0_2, .slice A0_3 l0_3.length c0_3] 26 (0, 0)) (by (with_reducible repeat (first | apply zq68_1 | apply zq68_2 | apply zq68_3)); exact BK316.out) hb); have n1_ := zq68_9 (below_step (by repeat (first | (with_reducible first | exact HB.out | apply zq68_7 | apply zq68_6 | apply zq68_8 | refine below_set ?_ GE316.out) | exact HB.out)) hb); clear BK316; clear HB; have BK316 := n0_; have HB := n1_; clear n0_ n1_; (try clear hb); (try clear hb2); (try clear hk); (try clear hi); have hcz19_0 : w18.cell? ⟨gb316, 0, none⟩ = some (.int .i64 a0_0) := (zq68_5 BK316.out 0).trans rfl; have hcz19_1 : w18.cell? ⟨gb316, 1, none⟩ = some (.int .i64 a0_1) := (zq68_5 BK316.out 1).trans rfl; have hcz19_2 : w18.cell? ⟨gb316, 2, none⟩ = some (.int .i64 a0_2) := (zq68_5 BK316.out 2).trans rfl; have hcz19_3 : w18.cell? ⟨gb316, 3, none⟩ = some (.slice A0_3 l0_3.length c0_3) := (zq68_5 BK316.out 3).trans rfl; have hfz19_0 := zq68_4 BK316.out 0; have hfz19_1 := zq68_4 BK316.out 1; have hfz19_2 := zq68_4 BK316.out 2; have hfz19_3 := zq68_4 BK316.out 3))
       go_meet
       case rel => exact ⟨_, (true), (by first | rfl | (simp; done) | (simp [*]; done)), H', ⟨by first | omega | exact Nat.le_refl _⟩, ⟨by (with_reducible repeat (first | apply zq68_1 | apply zq68_2 | apply zq68_3)); exact BK316.out⟩, ⟨by repeat (first | (with_reducible first | exact HB.out | apply zq68_7 | apply zq68_6 | apply zq68_8 | refine below_set ?_ GE316.out) | exact HB.out)⟩⟩
      ·
       rw [if_neg c16] at H
       have c16b0 : decide (a1 < 1) = false := decide_eq_false c16
       clear c16
       have H' := zq68_9 H
       clear H
       have hcz20_0 : w6.cell? ⟨gb316, 0, none⟩ = some (.int .i64 a0_0) := (zq68_5 BK316.out 0).trans rfl
       have hcz20_1 : w6.cell? ⟨gb316, 1, none⟩ = some (.int .i64 a0_1) := (zq68_5 BK316.out 1).trans rfl
       have hcz20_2 : w6.cell? ⟨gb316, 2, none⟩ = some (.int .i64 a0_2) := (zq68_5 BK316.out 2).trans rfl
       have hcz20_3 : w6.cell? ⟨gb316, 3, none⟩ = some (.slice A0_3 l0_3.length c0_3) := (zq68_5 BK316.out 3).trans rfl
       have hfz20_0 := zq68_4 BK316.out 0
       have hfz20_1 := zq68_4 BK316.out 1
       have hfz20_2 := zq68_4 BK316.out 2
       have hfz20_3 := zq68_4 BK316.out 3
       go_wp2_with (first | (go_at_call 13; (with_reducible refine (inst_May.calls k a0_0 a0_1 a0_2 _ _ l0_3 true _ ?side1 ?side2 A10.out).mono ?_); (case side1 => repeat (first | exact (Kd.C_below HR0_3.out HB.out) | (with_reducible refine Kd.C_alloc ?_ _) | (with_reducible refine Kd.C_drewN ?_ _) | (with_reducible refine Kd.C_drew ?_))); (case side2 => exact HC0_3.out); rintro e w21 ⟨rfl, hb⟩; have n0_ := zq68_9 (blk_below (g := gb316) (o := .cells #[.int .i64 a0_0, .int .i64 a0_1, .int .i64 a0_2, .slice A0_3 l0_3.length c0_3] 26 (0, 0)) (by (with_reducible repeat (first | apply zq68_1 | apply zq68_2 | apply zq68_3)); exact BK316.out) hb); have n1_ := zq68_9 (below_step (by repeat (first | (with_reducible first | exact HB.out | apply zq68_7 | apply zq68_6 | apply zq68_8 | refine below_set ?_ GE316.out) | exact HB.out)) hb); clear BK316; clear HB; have BK316 := n0_; have HB := n1_; clear n0_ n1_; (try clear hb); (try clear hb2); (try clear hk); (try clear hi); have hcz22_0 : w21.cell? ⟨gb316, 0, none⟩ = some (.int .i64 a0_0) := (zq68_5 BK316.out 0).trans rfl; have hcz22_1 : w21.cell? ⟨gb316, 1, none⟩ = some (.int .i64 a0_1) := (zq68_5 BK316.out 1).trans rfl; have hcz22_2 : w21.cell? ⟨gb316, 2, none⟩ = some (.int .i64 a0_2) := (zq68_5 BK316.out 2).trans rfl; have hcz22_3 : w21.cell? ⟨gb316, 3, none⟩ = some (.slice A0_3 l0_3.length c0_3) := (zq68_5 BK316.out 3).trans rfl; have hfz22_0 := zq68_4 BK316.out 0; have hfz22_1 := zq68_4 BK316.out 1; have hfz22_2 := zq68_4 BK316.out 2; have hfz22_3 := zq68_4 BK316.out 3))
       go_meet
       case rel => exact ⟨_, (decide (a1 ≥ (l0_3.length : Int))), (by first | rfl | (simp; done) | (simp [*]; done)), H', ⟨by first | omega | exact Nat.le_refl _⟩, ⟨by (with_reducible repeat (first | apply zq68_1 | apply zq68_2 | apply zq68_3)); exact BK316.out⟩, ⟨by repeat (first | (with_reducible first | exact HB.out | apply zq68_7 | apply zq68_6 | apply zq68_8 | refine below_set ?_ GE316.out) | exact HB.out)⟩⟩
    ·
     replace c11 := Bool.eq_false_iff.mpr c11
     subst c11
     have H1 : (haulierlaw05_InstBounds.j0 k a1 true true a0_0 a0_1 a0_2 l0_3) = some r := by rw [if_neg (show ¬ (false = true) by decide)] at H; exact H
     clear H
     have H := H1
     clear H1
     have H' := zq68_9 H
     clear H
     have hcz23_0 : w6.cell? ⟨gb316, 0, none⟩ = some (.int .i64 a0_0) := (zq68_5 BK316.out 0).trans rfl
     have hcz23_1 : w6.cell? ⟨gb316, 1, none⟩ = some (.int .i64 a0_1) := (zq68_5 BK316.out 1).trans rfl
     have hcz23_2 : w6.cell? ⟨gb316, 2, none⟩ = some (.int .i64 a0_2) := (zq68_5 BK316.out 2).trans rfl
     have hcz23_3 : w6.cell? ⟨gb316, 3, none⟩ = some (.slice A0_3 l0_3.length c0_3) := (zq68_5 BK316.out 3).trans rfl
     have hfz23_0 := zq68_4 BK316.out 0
     have hfz23_1 := zq68_4 BK316.out 1
     have hfz23_2 := zq68_4 BK316.out 2
     have hfz23_3 := zq68_4 BK316.out 3
     go_wp2_with (first | (go_at_call 13; (with_reducible refine (inst_May.calls k a0_0 a0_1 a0_2 _ _ l0_3 false _ ?side1 ?side2 A10.out).mono ?_); (case side1 => repeat (first | exact (Kd.C_below HR0_3.out HB.out) | (with_reducible refine Kd.C_alloc ?_ _) | (with_reducible refine Kd.C_drewN ?_ _) | (with_reducible refine Kd.C_drew ?_))); (case side2 => exact HC0_3.out); rintro e w24 ⟨rfl, hb⟩; have n0_ := zq68_9 (blk_below (g := gb316) (o := .cells #[.int .i64 a0_0, .int .i64 a0_1, .int .i64 a0_2, .slice A0_3 l0_3.length c0_3] 26 (0, 0)) (by (with_reducible repeat (first | apply zq68_1 | apply zq68_2 | apply zq68_3)); exact BK316.out) hb); have n1_ := zq68_9 (below_step (by repeat (first | (with_reducible first | exact HB.out | apply zq68_7 | apply zq68_6 | apply zq68_8 | refine below_set ?_ GE316.out) | exact HB.out)) hb); clear BK316; clear HB; have BK316 := n0_; have HB := n1_; clear n0_ n1_; (try clear hb); (try clear hb2); (try clear hk); (try clear hi)))
     go_meet
     case rel => exact ⟨_, (true), (by first | rfl | (simp; done) | (simp [*]; done)), H', ⟨by first | omega | exact Nat.le_refl _⟩, ⟨by (with_reducible repeat (first | apply zq68_1 | apply zq68_2 | apply zq68_3)); exact BK316.out⟩, ⟨by repeat (first | (with_reducible first | exact HB.out | apply zq68_7 | apply zq68_6 | apply zq68_8 | refine below_set ?_ GE316.out) | exact HB.out)⟩⟩
  ·
   replace c7 := Bool.eq_false_iff.mpr c7
   subst c7
   have H1 : (haulierlaw05_InstBounds.j0 k a1 false true a0_0 a0_1 a0_2 l0_3) = some r := by rw [if_neg (show ¬ (false = true) by decide)] at H; exact H
   clear H
   have H := H1
   clear H1
   have H' := zq68_9 H
   clear H
   go_wp2
   go_meet
   case rel => exact ⟨_, (true), (by first | rfl | (simp; done) | (simp [*]; done)), H', ⟨by first | omega | exact Nat.le_refl _⟩, ⟨by (with_reducible repeat (first | apply zq68_1 | apply zq68_2 | apply zq68_3)); exact BK316.out⟩, ⟨by repeat (first | (with_reducible first | exact HB.out | apply zq68_7 | apply zq68_6 | apply zq68_8 | refine below_set ?_ GE316.out) | exact HB.out)⟩⟩
 case rest =>
  clear HC4
  try clear c1
  try clear p2
  try clear c4
  try clear c7
  try clear c8
  try clear c8b0
  try clear c8b1
  try clear c9
  try clear c11
  try clear c12
  try clear c12b0
  try clear c12b1
  try clear c12b2
  try clear c16
  try clear c16b0
  try clear hcz13_0
  try clear hcz13_1
  try clear hcz13_2
  try clear hcz13_3
  try clear hcz15_0
  try clear hcz15_1
  try clear hcz15_2
  try clear hcz15_3
  try clear hcz17_0
  try clear hcz17_1
  try clear hcz17_2
  try clear hcz17_3
  try clear hcz19_0
  try clear hcz19_1
  try clear hcz19_2
  try clear hcz19_3
  try clear hcz20_0
  try clear hcz20_1
  try clear hcz20_2
  try clear hcz20_3
  try clear hcz22_0
  try clear hcz22_1
  try clear hcz22_2
  try clear hcz22_3
  try clear hcz23_0
  try clear hcz23_1
  try clear hcz23_2
  try clear hcz23_3
  try clear hcz9_0
  try clear hcz9_1
  try clear hcz9_2
  try clear hcz9_3
  try clear hfz13_0
  try clear hfz13_1
  try clear hfz13_2
  try clear hfz13_3
  try clear hfz15_0
  try clear hfz15_1
  try clear hfz15_2
  try clear hfz15_3
  try clear hfz17_0
  try clear hfz17_1
  try clear hfz17_2
  try clear hfz17_3
  try clear hfz19_0
  try clear hfz19_1
  try clear hfz19_2
  try clear hfz19_3
  try clear hfz20_0
  try clear hfz20_1
  try clear hfz20_2
  try clear hfz20_3
  try clear hfz22_0
  try clear hfz22_1
  try clear hfz22_2
  try clear hfz22_3
  try clear hfz23_0
  try clear hfz23_1
  try clear hfz23_2
  try clear hfz23_3
  try clear hfz9_0
  try clear hfz9_1
  try clear hfz9_2
  try clear hfz9_3
  obtain ⟨kq, x41_3, rfl, HA, HJ3, BK316, HB⟩ := hcut
  cases kq with
  | zero => exact absurd HA.out (by simp [haulierlaw05_InstBounds.j0])
  | succ kj3 =>
   have H := HA.out
   clear HA
   simp only [haulierlaw05_InstBounds.j0] at H
   by_cases c25 : x41_3 = true
   ·
    subst c25
    have H1 : (some t317) = some r := by rw [if_pos rfl] at H; exact H
    clear H
    have H := H1
    clear H1
    obtain rfl := Option.some.inj H
    go_wp2
    go_ret
    exact ⟨by first | rfl | (simp [errW_none, errW_some] <;> rfl) | (simp [*, errW_none, errW_some] <;> rfl), by repeat (first | (with_reducible first | exact HB.out | apply zq68_7 | apply zq68_6 | apply zq68_8 | refine below_set ?_ GE316.out) | exact HB.out)⟩
   ·
    replace c25 := Bool.eq_false_iff.mpr c25
    subst c25
    have H1 : (if 0 ≤ (wrap64 ((l0_3.length : Int) - 1)) then (if (wrap64 ((l0_3.length : Int) - 1)) ≤ (l0_3.length : Int) then (if ([] : List (S34)).length + l0_3.length < 2932031007402 then ((some (([] : List (S34)) ++ l0_3 : List (S34))).bind fun y327 => (if 0 ≤ a1 then (if a1 < (y327.length : Int) then ((some (([] : List (S34)) ++ l0_3 : List (S34))).bind fun y333 => (if a1 < (y333.length : Int) then ((inst_May.f kj3 a0_0 a0_1 a0_2 (l0_3.take ((wrap64 ((l0_3.length : Int) - 1)) : Int).toNat)).bind fun t338 => (if t338 = true then (none) else ((inst_May.f kj3 (wrap64 (a0_0 + 1)) a0_1 a0_2 l0_3).bind fun t339 => (if t339 = true then (none) else ((inst_May.f kj3 a0_0 0 a0_2 l0_3).bind fun t340 => (if t340 = true then (none) else ((inst_May.f kj3 a0_0 a0_1 a0_2 (y327.set (a1 : Int).toNat (⟨(rd_T34 y327 a1).f0, (rd_T34 y327 a1).f1, wrap64 (((rd_T34 y327 a1).f2) + 1), (rd_T34 y327 a1).f3, (rd_T34 y327 a1).f4, (rd_T34 y327 a1).f5⟩ : S34))).bind fun t341 => (if t341 = true then (none) else ((inst_May.f kj3 a0_0 a0_1 a0_2 (y333.set (a1 : Int).toNat (⟨(rd_T34 y333 a1).f0, (rd_T34 y333 a1).f1, (rd_T34 y333 a1).f2, (rd_T34 y333 a1).f3, wrap64 (((rd_T34 y333 a1).f3) - 1), (rd_T34 y333 a1).f5⟩ : S34))).bind fun t342 => (some (!t342))))))))))) else (none))) else (none)) else (none))) else (none)) else (none)) else (none)) = some r := by rw [if_neg (show ¬ (false = true) by decide)] at H; exact H
    clear H
    have H := H1
    clear H1
    obtain ⟨ji26, hji26⟩ : ∃ j_ : Int, (wrap64 ((l0_3.length : Int) - 1)) = j_ := ⟨_, rfl⟩
    replace H : (if 0 ≤ (ji26) then (if (ji26) ≤ (l0_3.length : Int) then (if ([] : List (S34)).length + l0_3.length < 2932031007402 then ((some (([] : List (S34)) ++ l0_3 : List (S34))).bind fun y327 => (if 0 ≤ a1 then (if a1 < (y327.length : Int) then ((some (([] : List (S34)) ++ l0_3 : List (S34))).bind fun y333 => (if a1 < (y333.length : Int) then ((inst_May.f kj3 a0_0 a0_1 a0_2 (l0_3.take ((ji26) : Int).toNat)).bind fun t338 => (if t338 = true then (none) else ((inst_May.f kj3 (wrap64 (a0_0 + 1)) a0_1 a0_2 l0_3).bind fun t339 => (if t339 = true then (none) else ((inst_May.f kj3 a0_0 0 a0_2 l0_3).bind fun t340 => (if t340 = true then (none) else ((inst_May.f kj3 a0_0 a0_1 a0_2 (y327.set (a1 : Int).toNat (⟨(rd_T34 y327 a1).f0, (rd_T34 y327 a1).f1, wrap64 (((rd_T34 y327 a1).f2) + 1), (rd_T34 y327 a1).f3, (rd_T34 y327 a1).f4, (rd_T34 y327 a1).f5⟩ : S34))).bind fun t341 => (if t341 = true then (none) else ((inst_May.f kj3 a0_0 a0_1 a0_2 (y333.set (a1 : Int).toNat (⟨(rd_T34 y333 a1).f0, (rd_T34 y333 a1).f1, (rd_T34 y333 a1).f2, (rd_T34 y333 a1).f3, wrap64 (((rd_T34 y333 a1).f3) - 1), (rd_T34 y333 a1).f5⟩ : S34))).bind fun t342 => (some (!t342))))))))))) else (none))) else (none)) else (none))) else (none)) else (none)) else (none)) = some r := by first | (rw [hji26] at H; exact H) | (simp only [hji26] at H ⊢; exact H)
    have hji26w : (IntKind.i64.wrap ((l0_3.length : Int) - 1)) = ji26 := (i64_w _).trans hji26
    by_cases c27 : 0 ≤ (ji26)
    ·
     rw [if_pos c27] at H
     have c27b0 := eq_true c27
     have c27b1 : decide (0 ≤ (ji26)) = true := decide_eq_true c27
     clear c27
     by_cases c28 : (ji26) ≤ (l0_3.length : Int)
     ·
      rw [if_pos c28] at H
      have c28b0 := eq_true c28
      have c28b1 : decide ((ji26) ≤ (l0_3.length : Int)) = true := decide_eq_true c28
      clear c28
      obtain ⟨y320, hy320⟩ : ∃ y_ : List (S34), y_ = (l0_3.take ((ji26) : Int).toNat) := ⟨_, rfl⟩
      replace H : (if ([] : List (S34)).length + l0_3.length < 2932031007402 then ((some (([] : List (S34)) ++ l0_3 : List (S34))).bind fun y327 => (if 0 ≤ a1 then (if a1 < (y327.length : Int) then ((some (([] : List (S34)) ++ l0_3 : List (S34))).bind fun y333 => (if a1 < (y333.length : Int) then ((inst_May.f kj3 a0_0 a0_1 a0_2 y320).bind fun t338 => (if t338 = true then (none) else ((inst_May.f kj3 (wrap64 (a0_0 + 1)) a0_1 a0_2 l0_3).bind fun t339 => (if t339 = true then (none) else ((inst_May.f kj3 a0_0 0 a0_2 l0_3).bind fun t340 => (if t340 = true then (none) else ((inst_May.f kj3 a0_0 a0_1 a0_2 (y327.set (a1 : Int).toNat (⟨(rd_T34 y327 a1).f0, (rd_T34 y327 a1).f1, wrap64 (((rd_T34 y327 a1).f2) + 1), (rd_T34 y327 a1).f3, (rd_T34 y327 a1).f4, (rd_T34 y327 a1).f5⟩ : S34))).bind fun t341 => (if t341 = true then (none) else ((inst_May.f kj3 a0_0 a0_1 a0_2 (y333.set (a1 : Int).toNat (⟨(rd_T34 y333 a1).f0, (rd_T34 y333 a1).f1, (rd_T34 y333 a1).f2, (rd_T34 y333 a1).f3, wrap64 (((rd_T34 y333 a1).f3) - 1), (rd_T34 y333 a1).f5⟩ : S34))).bind fun t342 => (some (!t342))))))))))) else (none))) else (none)) else (none))) else (none)) = some r := by first | (rw [hy320]; with_reducible exact H) | (have H2_ := (Option.bind_some _ _).symm.trans H; rw [hy320]; with_reducible exact H2_) | (have H2_ := (Option.bind_some _ _).symm.trans H; with_reducible exact H2_) | with_reducible exact H | (rw [hy320]; exact H) | exact H
      have Ny320 := zq68_9 hy320
      clear hy320
      by_cases c29 : ([] : List (S34)).length + l0_3.length < 2932031007402
      ·
       rw [if_pos c29] at H
       have LMc29 := zq68_9 c29
       clear c29
       obtain ⟨y327, hy327⟩ : ∃ y_ : List (S34), y_ = (([] : List (S34)) ++ l0_3) := ⟨_, rfl⟩
       replace H : (if 0 ≤ a1 then (if a1 < (y327.length : Int) then ((some (([] : List (S34)) ++ l0_3 : List (S34))).bind fun y333 => (if a1 < (y333.length : Int) then ((inst_May.f kj3 a0_0 a0_1 a0_2 y320).bind fun t338 => (if t338 = true then (none) else ((inst_May.f kj3 (wrap64 (a0_0 + 1)) a0_1 a0_2 l0_3).bind fun t339 => (if t339 = true then (none) else ((inst_May.f kj3 a0_0 0 a0_2 l0_3).bind fun t340 => (if t340 = true then (none) else ((inst_May.f kj3 a0_0 a0_1 a0_2 (y327.set (a1 : Int).toNat (⟨(rd_T34 y327 a1).f0, (rd_T34 y327 a1).f1, wrap64 (((rd_T34 y327 a1).f2) + 1), (rd_T34 y327 a1).f3, (rd_T34 y327 a1).f4, (rd_T34 y327 a1).f5⟩ : S34))).bind fun t341 => (if t341 = true then (none) else ((inst_May.f kj3 a0_0 a0_1 a0_2 (y333.set (a1 : Int).toNat (⟨(rd_T34 y333 a1).f0, (rd_T34 y333 a1).f1, (rd_T34 y333 a1).f2, (rd_T34 y333 a1).f3, wrap64 (((rd_T34 y333 a1).f3) - 1), (rd_T34 y333 a1).f5⟩ : S34))).bind fun t342 => (some (!t342))))))))))) else (none))) else (none)) else (none)) = some r := by first | (rw [hy327]; with_reducible exact H) | (have H2_ := (Option.bind_some _ _).symm.trans H; rw [hy327]; with_reducible exact H2_) | (have H2_ := (Option.bind_some _ _).symm.trans H; with_reducible exact H2_) | with_reducible exact H | (rw [hy327]; exact H) | exact H
       have Ny327 := zq68_9 hy327
       clear hy327
       by_cases c30 : 0 ≤ a1
       ·
        rw [if_pos c30] at H
        have c30b0 : decide (0 ≤ a1) = true := decide_eq_true c30
        clear c30
        by_cases c31 : a1 < (y327.length : Int)
        ·
         rw [if_pos c31] at H
         have c31b0 : decide (a1 < (y327.length : Int)) = true := decide_eq_true c31
         clear c31
         obtain ⟨y331, hy331⟩ : ∃ y_ : List (S34), y_ = (y327.set (a1 : Int).toNat (⟨(rd_T34 y327 a1).f0, (rd_T34 y327 a1).f1, wrap64 (((rd_T34 y327 a1).f2) + 1), (rd_T34 y327 a1).f3, (rd_T34 y327 a1).f4, (rd_T34 y327 a1).f5⟩ : S34)) := ⟨_, rfl⟩
         replace H : ((some (([] : List (S34)) ++ l0_3 : List (S34))).bind fun y333 => (if a1 < (y333.length : Int) then ((inst_May.f kj3 a0_0 a0_1 a0_2 y320).bind fun t338 => (if t338 = true then (none) else ((inst_May.f kj3 (wrap64 (a0_0 + 1)) a0_1 a0_2 l0_3).bind fun t339 => (if t339 = true then (none) else ((inst_May.f kj3 a0_0 0 a0_2 l0_3).bind fun t340 => (if t340 = true then (none) else ((inst_May.f kj3 a0_0 a0_1 a0_2 y331).bind fun t341 => (if t341 = true then (none) else ((inst_May.f kj3 a0_0 a0_1 a0_2 (y333.set (a1 : Int).toNat (⟨(rd_T34 y333 a1).f0, (rd_T34 y333 a1).f1, (rd_T34 y333 a1).f2, (rd_T34 y333 a1).f3, wrap64 (((rd_T34 y333 a1).f3) - 1), (rd_T34 y333 a1).f5⟩ : S34))).bind fun t342 => (some (!t342))))))))))) else (none))) = some r := by first | (rw [hy331]; with_reducible exact H) | (have H2_ := (Option.bind_some _ _).symm.trans H; rw [hy331]; with_reducible exact H2_) | (have H2_ := (Option.bind_some _ _).symm.trans H; with_reducible exact H2_) | with_reducible exact H | (rw [hy331]; exact H) | exact H
         have Ny331 := zq68_9 hy331
         clear hy331
         obtain ⟨y333, hy333⟩ : ∃ y_ : List (S34), y_ = (([] : List (S34)) ++ l0_3) := ⟨_, rfl⟩
         replace H : (if a1 < (y333.length : Int) then ((inst_May.f kj3 a0_0 a0_1 a0_2 y320).bind fun t338 => (if t338 = true then (none) else ((inst_May.f kj3 (wrap64 (a0_0 + 1)) a0_1 a0_2 l0_3).bind fun t339 => (if t339 = true then (none) else ((inst_May.f kj3 a0_0 0 a0_2 l0_3).bind fun t340 => (if t340 = true then (none) else ((inst_May.f kj3 a0_0 a0_1 a0_2 y331).bind fun t341 => (if t341 = true then (none) else ((inst_May.f kj3 a0_0 a0_1 a0_2 (y333.set (a1 : Int).toNat (⟨(rd_T34 y333 a1).f0, (rd_T34 y333 a1).f1, (rd_T34 y333 a1).f2, (rd_T34 y333 a1).f3, wrap64 (((rd_T34 y333 a1).f3) - 1), (rd_T34 y333 a1).f5⟩ : S34))).bind fun t342 => (some (!t342))))))))))) else (none)) = some r := by first | (rw [hy333]; with_reducible exact H) | (have H2_ := (Option.bind_some _ _).symm.trans H; rw [hy333]; with_reducible exact H2_) | (have H2_ := (Option.bind_some _ _).symm.trans H; with_reducible exact H2_) | with_reducible exact H | (rw [hy333]; exact H) | exact H
         have Ny333 := zq68_9 hy333
         clear hy333
         by_cases c33 : a1 < (y333.length : Int)
         ·
          rw [if_pos c33] at H
          have c33b0 : decide (a1 < (y333.length : Int)) = true := decide_eq_true c33
          clear c33
          obtain ⟨y337, hy337⟩ : ∃ y_ : List (S34), y_ = (y333.set (a1 : Int).toNat (⟨(rd_T34 y333 a1).f0, (rd_T34 y333 a1).f1, (rd_T34 y333 a1).f2, (rd_T34 y333 a1).f3, wrap64 (((rd_T34 y333 a1).f3) - 1), (rd_T34 y333 a1).f5⟩ : S34)) := ⟨_, rfl⟩
          replace H : ((inst_May.f kj3 a0_0 a0_1 a0_2 y320).bind fun t338 => (if t338 = true then (none) else ((inst_May.f kj3 (wrap64 (a0_0 + 1)) a0_1 a0_2 l0_3).bind fun t339 => (if t339 = true then (none) else ((inst_May.f kj3 a0_0 0 a0_2 l0_3).bind fun t340 => (if t340 = true then (none) else ((inst_May.f kj3 a0_0 a0_1 a0_2 y331).bind fun t341 => (if t341 = true then (none) else ((inst_May.f kj3 a0_0 a0_1 a0_2 y337).bind fun t342 => (some (!t342))))))))))) = some r := by first | (rw [hy337]; with_reducible exact H) | (have H2_ := (Option.bind_some _ _).symm.trans H; rw [hy337]; with_reducible exact H2_) | (have H2_ := (Option.bind_some _ _).symm.trans H; with_reducible exact H2_) | with_reducible exact H | (rw [hy337]; exact H) | exact H
          have Ny337 := zq68_9 hy337
          clear hy337
          replace H := Option.bind_eq_some_iff.mp H
          obtain ⟨t338, A350, H⟩ := H
          replace H : (if t338 = true then (none) else ((inst_May.f kj3 (wrap64 (a0_0 + 1)) a0_1 a0_2 l0_3).bind fun t339 => (if t339 = true then (none) else ((inst_May.f kj3 a0_0 0 a0_2 l0_3).bind fun t340 => (if t340 = true then (none) else ((inst_May.f kj3 a0_0 a0_1 a0_2 y331).bind fun t341 => (if t341 = true then (none) else ((inst_May.f kj3 a0_0 a0_1 a0_2 y337).bind fun t342 => (some (!t342)))))))))) = some r := H
          have A35 := zq68_9 A350
          clear A350
          by_cases c36 : t338 = true
          ·
           subst c36
           have H1 : (none) = some r := by rw [if_pos rfl] at H; exact H
           clear H
           have H := H1
           clear H1
           exact absurd H (by simp)
          ·
           replace c36 := Bool.eq_false_iff.mpr c36
           subst c36
           have H1 : ((inst_May.f kj3 (wrap64 (a0_0 + 1)) a0_1 a0_2 l0_3).bind fun t339 => (if t339 = true then (none) else ((inst_May.f kj3 a0_0 0 a0_2 l0_3).bind fun t340 => (if t340 = true then (none) else ((inst_May.f kj3 a0_0 a0_1 a0_2 y331).bind fun t341 => (if t341 = true then (none) else ((inst_May.f kj3 a0_0 a0_1 a0_2 y337).bind fun t342 => (some (!t342))))))))) = some r := by rw [if_neg (show ¬ (false = true) by decide)] at H; exact H
           clear H
           have H := H1
           clear H1
           replace H := Option.bind_eq_some_iff.mp H
           obtain ⟨t339, A370, H⟩ := H
           replace H : (if t339 = true then (none) else ((inst_May.f kj3 a0_0 0 a0_2 l0_3).bind fun t340 => (if t340 = true then (none) else ((inst_May.f kj3 a0_0 a0_1 a0_2 y331).bind fun t341 => (if t341 = true then (none) else ((inst_May.f kj3 a0_0 a0_1 a0_2 y337).bind fun t342 => (some (!t342)))))))) = some r := H
           have A37 := zq68_9 A370
           clear A370
           by_cases c38 : t339 = true
           ·
            subst c38
            have H1 : (none) = some r := by rw [if_pos rfl] at H; exact H
            clear H
            have H := H1
            clear H1
            exact absurd H (by simp)
           ·
            replace c38 := Bool.eq_false_iff.mpr c38
            subst c38
            have H1 : ((inst_May.f kj3 a0_0 0 a0_2 l0_3).bind fun t340 => (if t340 = true then (none) else ((inst_May.f kj3 a0_0 a0_1 a0_2 y331).bind fun t341 => (if t341 = true then (none) else ((inst_May.f kj3 a0_0 a0_1 a0_2 y337).bind fun t342 => (some (!t342))))))) = some r := by rw [if_neg (show ¬ (false = true) by decide)] at H; exact H
            clear H
            have H := H1
            clear H1
            replace H := Option.bind_eq_some_iff.mp H
            obtain ⟨t340, A390, H⟩ := H
            replace H : (if t340 = true then (none) else ((inst_May.f kj3 a0_0 a0_1 a0_2 y331).bind fun t341 => (if t341 = true then (none) else ((inst_May.f kj3 a0_0 a0_1 a0_2 y337).bind fun t342 => (some (!t342)))))) = some r := H
            have A39 := zq68_9 A390
            clear A390
            by_cases c40 : t340 = true
            ·
             subst c40
             have H1 : (none) = some r := by rw [if_pos rfl] at H; exact H
             clear H
             have H := H1
             clear H1
             exact absurd H (by simp)
            ·
             replace c40 := Bool.eq_false_iff.mpr c40
             subst c40
             have H1 : ((inst_May.f kj3 a0_0 a0_1 a0_2 y331).bind fun t341 => (if t341 = true then (none) else ((inst_May.f kj3 a0_0 a0_1 a0_2 y337).bind fun t342 => (some (!t342))))) = some r := by rw [if_neg (show ¬ (false = true) by decide)] at H; exact H
             clear H
             have H := H1
             clear H1
             replace H := Option.bind_eq_some_iff.mp H
             obtain ⟨t341, A410, H⟩ := H
             replace H : (if t341 = true then (none) else ((inst_May.f kj3 a0_0 a0_1 a0_2 y337).bind fun t342 => (some (!t342)))) = some r := H
             have A41 := zq68_9 A410
             clear A410
             by_cases c42 : t341 = true
             ·
              subst c42
              have H1 : (none) = some r := by rw [if_pos rfl] at H; exact H
              clear H
              have H := H1
              clear H1
              exact absurd H (by simp)
             ·
              replace c42 := Bool.eq_false_iff.mpr c42
              subst c42
              have H1 : ((inst_May.f kj3 a0_0 a0_1 a0_2 y337).bind fun t342 => (some (!t342))) = some r := by rw [if_neg (show ¬ (false = true) by decide)] at H; exact H
              clear H
              have H := H1
              clear H1
              replace H := Option.bind_eq_some_iff.mp H
              obtain ⟨t342, A430, H⟩ := H
              replace H : (some (!t342)) = some r := H
              have A43 := zq68_9 A430
              clear A430
              obtain rfl := Option.some.inj H
              have hcz44_0 : wc.cell? ⟨gb316, 0, none⟩ = some (.int .i64 a0_0) := (zq68_5 BK316.out 0).trans rfl
              have hcz44_1 : wc.cell? ⟨gb316, 1, none⟩ = some (.int .i64 a0_1) := (zq68_5 BK316.out 1).trans rfl
              have hcz44_2 : wc.cell? ⟨gb316, 2, none⟩ = some (.int .i64 a0_2) := (zq68_5 BK316.out 2).trans rfl
              have hcz44_3 : wc.cell? ⟨gb316, 3, none⟩ = some (.slice A0_3 l0_3.length c0_3) := (zq68_5 BK316.out 3).trans rfl
              have hfz44_0 := zq68_4 BK316.out 0
              have hfz44_1 := zq68_4 BK316.out 1
              have hfz44_2 := zq68_4 BK316.out 2
              have hfz44_3 := zq68_4 BK316.out 3
              try go_wp2_with (first | ((with_reducible refine gate_dst (N := 6) rfl ?_); (try (refine gate_guard (by rfl) ?_; dsimp only)); refine box_event ?hg (N := 6) ?hd (cs := #[.int .i64 0, .int .i64 0, .int .i64 0, .slice none 0 0]) (t := 26) ?hr ?_; (case hd => rfl); (case hg => rfl); (case hr => first | (go_simp; done) | (go_simp; rfl)); intro gb319 hg w45 hbox hb; have n0_ := zq68_9 (blk_below (g := gb316) (o := .cells #[.int .i64 a0_0, .int .i64 a0_1, .int .i64 a0_2, .slice A0_3 l0_3.length c0_3] 26 (0, 0)) (by (with_reducible repeat (first | apply zq68_1 | apply zq68_2 | apply zq68_3)); exact BK316.out) hb); have n1_ := zq68_9 (below_step (by repeat (first | (with_reducible first | exact HB.out | apply zq68_7 | apply zq68_6 | apply zq68_8 | refine below_set ?_ GE316.out) | exact HB.out)) hb); have n2_ := zq68_9 (hbox); have n3_ := zq68_9 ((by rw [hg]; exact (below_size (by repeat (first | (with_reducible first | exact HB.out | apply zq68_7 | apply zq68_6 | apply zq68_8 | refine below_set ?_ GE316.out) | exact HB.out))) : w.heap.size ≤ gb319)); have n4_ := zq68_9 ((by rw [hg]; exact (below_size (by repeat (first | (with_reducible first | exact HB.out | apply zq68_7 | apply zq68_6 | apply zq68_8 | refine below_set ?_ GE316.out) | exact HB.out))) : w.heap.size ≤ gb319)); have n5_ := zq68_9 ((by rw [hg]; exact Nat.ne_of_lt (blk_lt (g := gb316) (o := .cells #[.int .i64 a0_0, .int .i64 a0_1, .int .i64 a0_2, .slice A0_3 l0_3.length c0_3] 26 (0, 0)) (by (with_reducible repeat (first | apply zq68_1 | apply zq68_2 | apply zq68_3)); exact BK316.out)) : gb316 ≠ gb319)); have n6_ := zq68_9 ((by rw [hg]; exact Nat.ne_of_gt (blk_lt (g := gb316) (o := .cells #[.int .i64 a0_0, .int .i64 a0_1, .int .i64 a0_2, .slice A0_3 l0_3.length c0_3] 26 (0, 0)) (by (with_reducible repeat (first | apply zq68_1 | apply zq68_2 | apply zq68_3)); exact BK316.out)) : gb319 ≠ gb316)); clear BK316; clear HB; have BK316 := n0_; have HB := n1_; have BK319 := n2_; have GW319 := n3_; have GE319 := n4_; have NB316_319 := n5_; have NB319_316 := n6_; clear n0_ n1_ n2_ n3_ n4_ n5_ n6_; clear hb hbox hg; have hnb46 := NB319_316.out; have hnc46 := NB316_319.out; have hcz47_0 : w45.cell? ⟨gb319, 0, none⟩ = some (.int .i64 0) := (zq68_5 BK319.out 0).trans rfl; have hcz47_1 : w45.cell? ⟨gb319, 1, none⟩ = some (.int .i64 0) := (zq68_5 BK319.out 1).trans rfl; have hcz47_2 : w45.cell? ⟨gb319, 2, none⟩ = some (.int .i64 0) := (zq68_5 BK319.out 2).trans rfl; have hcz47_3 : w45.cell? ⟨gb319, 3, none⟩ = some (.slice none 0 0) := (zq68_5 BK319.out 3).trans rfl; have hfz47_0 := zq68_4 BK319.out 0; have hfz47_1 := zq68_4 BK319.out 1; have hfz47_2 := zq68_4 BK319.out 2; have hfz47_3 := zq68_4 BK319.out 3) | ((with_reducible refine gate_store (t := 26) (p := 6) rfl ?_); refine store_event (t := 26) (p := 6) (v := ?vo_w48) (w1 := ((((w45.setCell ⟨gb319, 0, none⟩ (.int .i64 a0_0)).setCell ⟨gb319, 1, none⟩ (.int .i64 a0_1)).setCell ⟨gb319, 2, none⟩ (.int .i64 a0_2)).setCell ⟨gb319, 3, none⟩ (.slice A0_3 l0_3.length c0_3))) ?hg ?ho ?hn ?hr ?_; (case ho => rfl); (case hg => rfl); (case hn => rfl); (case hr => first | (go_simp; done) | (go_simp; rfl)); intro w48 hw; have n0_ : Aside0 (w48.heap[gb316]? = some (.cells #[.int .i64 a0_0, .int .i64 a0_1, .int .i64 a0_2, .slice A0_3 l0_3.length c0_3] 26 (0, 0))) := ⟨(by rw [hw]; exact (by (with_reducible repeat (first | apply zq68_1 | apply zq68_2 | apply zq68_3)); refine blk_far ?_ NB316_319.out _; (with_reducible repeat (first | apply zq68_1 | apply zq68_2 | apply zq68_3)); refine blk_far ?_ NB316_319.out _; (with_reducible repeat (first | apply zq68_1 | apply zq68_2 | apply zq68_3)); refine blk_far ?_ NB316_319.out _; (with_reducible repeat (first | apply zq68_1 | apply zq68_2 | apply zq68_3)); refine blk_far ?_ NB316_319.out _; (with_reducible repeat (first | apply zq68_1 | apply zq68_2 | apply zq68_3)); exact BK316.out))⟩; have n1_ : Aside0 (w48.heap[gb319]? = some (.cells #[.int .i64 a0_0, .int .i64 a0_1, .int .i64 a0_2, .slice A0_3 l0_3.length c0_3] 26 (0, 0))) := ⟨(by rw [hw]; exact (by (with_reducible repeat (first | apply zq68_1 | apply zq68_2 | apply zq68_3)); refine blk_put (cs := #[.int .i64 a0_0, .int .i64 a0_1, .int .i64 a0_2, .slice none 0 0]) ?_ 3 _ rfl; (with_reducible repeat (first | apply zq68_1 | apply zq68_2 | apply zq68_3)); refine blk_put (cs := #[.int .i64 a0_0, .int .i64 a0_1, .int .i64 0, .slice none 0 0]) ?_ 2 _ rfl; (with_reducible repeat (first | apply zq68_1 | apply zq68_2 | apply zq68_3)); refine blk_put (cs := #[.int .i64 a0_0, .int .i64 0, .int .i64 0, .slice none 0 0]) ?_ 1 _ rfl; (with_reducible repeat (first | apply zq68_1 | apply zq68_2 | apply zq68_3)); refine blk_put (cs := #[.int .i64 0, .int .i64 0, .int .i64 0, .slice none 0 0]) ?_ 0 _ rfl; (with_reducible repeat (first | apply zq68_1 | apply zq68_2 | apply zq68_3)); exact BK319.out))⟩; have n2_ : Aside0 (Below w.heap.size w w48) := ⟨(by rw [hw]; exact (by repeat (first | (with_reducible first | exact HB.out | apply zq68_7 | apply zq68_6 | apply zq68_8 | refine below_set ?_ GE316.out | refine below_set ?_ GE319.out) | exact HB.out)))⟩; clear hw; clear BK316; clear BK319; clear HB; have BK316 := n0_; have BK319 := n1_; have HB := n2_; clear n0_ n1_ n2_; have hcz49_0 : w48.cell? ⟨gb316, 0, none⟩ = some (.int .i64 a0_0) := (zq68_5 BK316.out 0).trans rfl; have hcz49_1 : w48.cell? ⟨gb316, 1, none⟩ = some (.int .i64 a0_1) := (zq68_5 BK316.out 1).trans rfl; have hcz49_2 : w48.cell? ⟨gb316, 2, none⟩ = some (.int .i64 a0_2) := (zq68_5 BK316.out 2).trans rfl; have hcz49_3 : w48.cell? ⟨gb316, 3, none⟩ = some (.slice A0_3 l0_3.length c0_3) := (zq68_5 BK316.out 3).trans rfl; have hfz49_0 := zq68_4 BK316.out 0; have hfz49_1 := zq68_4 BK316.out 1; have hfz49_2 := zq68_4 BK316.out 2; have hfz49_3 := zq68_4 BK316.out 3; have q50 : ((ji26) : Int) ≤ ((l0_3.length : Int) : Int) := of_decide_eq_true (by first | (with_reducible assumption) | assumption); obtain ⟨i050, hi050, _, hsz50, _⟩ := info_parts info34; have hroom50 : l0_3.length ≤ c0_3 := HC0_3.out; have hC50 : Kd.C k34 _ A0_3 l0_3.length l0_3 := HR0_3.out; have hcut50 := cut_to (P := Tryd.prog) 24 34 .i64 Tryd.underlying24 hi050 A0_3 l0_3.length c0_3 (ji26) (of_decide_eq_true (by first | (with_reducible assumption) | assumption)) q50 hroom50; have hr50 := Kd.C_take (m := ((ji26) : Int).toNat) hC50 (by omega); have hy50 : y320.length = ((ji26) : Int).toNat := (by rw [Ny320.out, List.length_take]; omega); rw [← Ny320.out] at hr50; rw [← hy50] at hcut50; have HR323 := zq68_9 hr50; have HC323 := zq68_9 (show y320.length ≤ c0_3 from by omega); clear hr50 hC50 hroom50 hi050 hsz50; have KY50 := zq68_9 hy50; clear hy50; replace q50 := eq_true q50; have hcz51_0 : w48.cell? ⟨gb319, 0, none⟩ = some (.int .i64 a0_0) := (zq68_5 BK319.out 0).trans rfl; have hcz51_1 : w48.cell? ⟨gb319, 1, none⟩ = some (.int .i64 a0_1) := (zq68_5 BK319.out 1).trans rfl; have hcz51_2 : w48.cell? ⟨gb319, 2, none⟩ = some (.int .i64 a0_2) := (zq68_5 BK319.out 2).trans rfl; have hcz51_3 : w48.cell? ⟨gb319, 3, none⟩ = some (.slice A0_3 l0_3.length c0_3) := (zq68_5 BK319.out 3).trans rfl; have hfz51_0 := zq68_4 BK319.out 0; have hfz51_1 := zq68_4 BK319.out 1; have hfz51_2 := zq68_4 BK319.out 2; have hfz51_3 := zq68_4 BK319.out 3) | ((with_reducible refine gate_dst (N := 7) rfl ?_); (try (refine gate_guard (by rfl) ?_; dsimp only)); refine box_event ?hg (N := 7) ?hd (cs := #[.int .i64 0, .int .i64 0, .int .i64 0, .slice none 0 0]) (t := 26) ?hr ?_; (case hd => rfl); (case hg => rfl); (case hr => first | (go_simp; done) | (go_simp; rfl)); intro gb324 hg w52 hbox hb; have n0_ := zq68_9 (blk_below (g := gb316) (o := .cells #[.int .i64 a0_0, .int .i64 a0_1, .int .i64 a0_2, .slice A0_3 l0_3.length c0_3] 26 (0, 0)) (by (with_reducible repeat (first | apply zq68_1 | apply zq68_2 | apply zq68_3)); refine blk_far ?_ NB316_319.out _; (with_reducible repeat (first | apply zq68_1 | apply zq68_2 | apply zq68_3)); exact BK316.out) hb); have n1_ := zq68_9 (blk_below (g := gb319) (o := .cells #[.int .i64 a0_0, .int .i64 a0_1, .int .i64 a0_2, .slice A0_3 y320.length c0_3] 26 (0, 0)) (by (with_reducible repeat (first | apply zq68_1 | apply zq68_2 | apply zq68_3)); refine blk_put (cs := #[.int .i64 a0_0, .int .i64 a0_1, .int .i64 a0_2, .slice A0_3 l0_3.length c0_3]) ?_ 3 _ rfl; (with_reducible repeat (first | apply zq68_1 | apply zq68_2 | apply zq68_3)); exact BK319.out) hb); have n2_ := zq68_9 (below_step (by repeat (first | (with_reducible first | exact HB.out | apply zq68_7 | apply zq68_6 | apply zq68_8 | refine below_set ?_ GE316.out | refine below_set ?_ GE319.out) | exact HB.out)) hb); have n3_ := zq68_9 (hbox); have n4_ := zq68_9 ((by rw [hg]; exact (below_size (by repeat (first | (with_reducible first | exact HB.out | apply zq68_7 | apply zq68_6 | apply zq68_8 | refine below_set ?_ GE316.out | refine below_set ?_ GE319.out) | exact HB.out))) : w.heap.size ≤ gb324)); have n5_ := zq68_9 ((by rw [hg]; exact (below_size (by repeat (first | (with_reducible first | exact HB.out | apply zq68_7 | apply zq68_6 | apply zq68_8 | refine below_set ?_ GE316.out | refine below_set ?_ GE319.out) | exact HB.out))) : w.heap.size ≤ gb324)); have n6_ := zq68_9 ((by rw [hg]; exact Nat.ne_of_lt (blk_lt (g := gb316) (o := .cells #[.int .i64 a0_0, .int .i64 a0_1, .int .i64 a0_2, .slice A0_3 l0_3.length c0_3] 26 (0, 0)) (by (with_reducible repeat (first | apply zq68_1 | apply zq68_2 | apply zq68_3)); refine blk_far ?_ NB316_319.out _; (with_reducible repeat (first | apply zq68_1 | apply zq68_2 | apply zq68_3)); exact BK316.out)) : gb316 ≠ gb324)); have n7_ := zq68_9 ((by rw [hg]; exact Nat.ne_of_gt (blk_lt (g := gb316) (o := .cells #[.int .i64 a0_0, .int .i64 a0_1, .int .i64 a0_2, .slice A0_3 l0_3.length c0_3] 26 (0, 0)) (by (with_reducible repeat (first | apply zq68_1 | apply zq68_2 | apply zq68_3)); refine blk_far ?_ NB316_319.out _; (with_reducible repeat (first | apply zq68_1 | apply zq68_2 | apply zq68_3)); exact BK316.out)) : gb324 ≠ gb316)); have n8_ := zq68_9 ((by rw [hg]; exact Nat.ne_of_lt (blk_lt (g := gb319) (o := .cells #[.int .i64 a0_0, .int .i64 a0_1, .int .i64 a0_2, .slice A0_3 y320.length c0_3] 26 (0, 0)) (by (with_reducible repeat (first | apply zq68_1 | apply zq68_2 | apply zq68_3)); refine blk_put (cs := #[.int .i64 a0_0, .int .i64 a0_1, .int .i64 a0_2, .slice A0_3 l0_3.length c0_3]) ?_ 3 _ rfl; (with_reducible repeat (first | apply zq68_1 | apply zq68_2 | apply zq68_3)); exact BK319.out)) : gb319 ≠ gb324)); have n9_ := zq68_9 ((by rw [hg]; exact Nat.ne_of_gt (blk_lt (g := gb319) (o := .cells #[.int .i64 a0_0, .int .i64 a0_1, .int .i64 a0_2, .slice A0_3 y320.length c0_3] 26 (0, 0)) (by (with_reducible repeat (first | apply zq68_1 | apply zq68_2 | apply zq68_3)); refine blk_put (cs := #[.int .i64 a0_0, .int .i64 a0_1, .int .i64 a0_2, .slice A0_3 l0_3.length c0_3]) ?_ 3 _ rfl; (with_reducible repeat (first | apply zq68_1 | apply zq68_2 | apply zq68_3)); exact BK319.out)) : gb324 ≠ gb319)); clear BK316; clear BK319; clear HB; have BK316 := n0_; have BK319 := n1_; have HB := n2_; have BK324 := n3_; have GW324 := n4_; have GE324 := n5_; have NB316_324 := n6_; have NB324_316 := n7_; have NB319_324 := n8_; have NB324_319 := n9_; clear n0_ n1_ n2_ n3_ n4_ n5_ n6_ n7_ n8_ n9_; clear hb hbox hg; have hnb53 := NB324_316.out; have hnc53 := NB316_324.out; have hnb54 := NB324_319.out; have hnc54 := NB319_324.out; have hcz55_0 : w52.cell? ⟨gb324, 0, none⟩ = some (.int .i64 0) := (zq68_5 BK324.out 0).trans rfl; have hcz55_1 : w52.cell? ⟨gb324, 1, none⟩ = some (.int .i64 0) := (zq68_5 BK324.out 1).trans rfl; have hcz55_2 : w52.cell? ⟨gb324, 2, none⟩ = some (.int .i64 0) := (zq68_5 BK324.out 2).trans rfl; have hcz55_3 : w52.cell? ⟨gb324, 3, none⟩ = some (.slice none 0 0) := (zq68_5 BK324.out 3).trans rfl; have hfz55_0 := zq68_4 BK324.out 0; have hfz55_1 := zq68_4 BK324.out 1; have hfz55_2 := zq68_4 BK324.out 2; have hfz55_3 := zq68_4 BK324.out 3; have hcz56_0 : w52.cell? ⟨gb316, 0, none⟩ = some (.int .i64 a0_0) := (zq68_5 BK316.out 0).trans rfl; have hcz56_1 : w52.cell? ⟨gb316, 1, none⟩ = some (.int .i64 a0_1) := (zq68_5 BK316.out 1).trans rfl; have hcz56_2 : w52.cell? ⟨gb316, 2, none⟩ = some (.int .i64 a0_2) := (zq68_5 BK316.out 2).trans rfl; have hcz56_3 : w52.cell? ⟨gb316, 3, none⟩ = some (.slice A0_3 l0_3.length c0_3) := (zq68_5 BK316.out 3).trans rfl; have hfz56_0 := zq68_4 BK316.out 0; have hfz56_1 := zq68_4 BK316.out 1; have hfz56_2 := zq68_4 BK316.out 2; have hfz56_3 := zq68_4 BK316.out 3) | ((with_reducible refine gate_dst (N := 8) rfl ?_); (try (refine gate_guard (by rfl) ?_; dsimp only)); refine box_event ?hg (N := 8) ?hd (cs := #[.int .i64 0, .int .i64 0, .int .i64 0, .slice none 0 0]) (t := 26) ?hr ?_; (case hd => rfl); (case hg => rfl); (case hr => first | (go_simp; done) | (go_simp; rfl)); intro gb325 hg w57 hbox hb; have n0_ := zq68_9 (blk_below (g := gb316) (o := .cells #[.int .i64 a0_0, .int .i64 a0_1, .int .i64 a0_2, .slice A0_3 l0_3.length c0_3] 26 (0, 0)) (by (with_reducible repeat (first | apply zq68_1 | apply zq68_2 | apply zq68_3)); refine blk_far ?_ NB316_324.out _; (with_reducible repeat (first | apply zq68_1 | apply zq68_2 | apply zq68_3)); refine blk_far ?_ NB316_324.out _; (with_reducible repeat (first | apply zq68_1 | apply zq68_2 | apply zq68_3)); refine blk_far ?_ NB316_324.out _; (with_reducible repeat (first | apply zq68_1 | apply zq68_2 | apply zq68_3)); refine blk_far ?_ NB316_324.out _; (with_reducible repeat (first | apply zq68_1 | apply zq68_2 | apply zq68_3)); refine blk_far ?_ NB316_324.out _; (with_reducible repeat (first | apply zq68_1 | apply zq68_2 | apply zq68_3)); exact BK316.out) hb); have n1_ := zq68_9 (blk_below (g := gb319) (o := .cells #[.int .i64 a0_0, .int .i64 a0_1, .int .i64 a0_2, .slice A0_3 y320.length c0_3] 26 (0, 0)) (by (with_reducible repeat (first | apply zq68_1 | apply zq68_2 | apply zq68_3)); refine blk_far ?_ NB319_324.out _; (with_reducible repeat (first | apply zq68_1 | apply zq68_2 | apply zq68_3)); refine blk_far ?_ NB319_324.out _; (with_reducible repeat (first | apply zq68_1 | apply zq68_2 | apply zq68_3)); refine blk_far ?_ NB319_324.out _; (with_reducible repeat (first | apply zq68_1 | apply zq68_2 | apply zq68_3)); refine blk_far ?_ NB319_324.out _; (with_reducible repeat (first | apply zq68_1 | apply zq68_2 | apply zq68_3)); refine blk_far ?_ NB319_324.out _; (with_reducible repeat (first | apply zq68_1 | apply zq68_2 | apply zq68_3)); exact BK319.out) hb); have n2_ := zq68_9 (blk_below (g := gb324) (o := .cells #[.int .i64 (wrap64 (a0_0 + 1)), .int .i64 a0_1, .int .i64 a0_2, .slice A0_3 l0_3.length c0_3] 26 (0, 0)) (by (with_reducible repeat (first | apply zq68_1 | apply zq68_2 | apply zq68_3)); refine blk_put (cs := #[.int .i64 a0_0, .int .i64 a0_1, .int .i64 a0_2, .slice A0_3 l0_3.length c0_3]) ?_ 0 _ rfl; (with_reducible repeat (first | apply zq68_1 | apply zq68_2 | apply zq68_3)); refine blk_put (cs := #[.int .i64 a0_0, .int .i64 a0_1, .int .i64 a0_2, .slice none 0 0]) ?_ 3 _ rfl; (with_reducible repeat (first | apply zq68_1 | apply zq68_2 | apply zq68_3)); refine blk_put (cs := #[.int .i64 a0_0, .int .i64 a0_1, .int .i64 0, .slice none 0 0]) ?_ 2 _ rfl; (with_reducible repeat (first | apply zq68_1 | apply zq68_2 | apply zq68_3)); refine blk_put (cs := #[.int .i64 a0_0, .int .i64 0, .int .i64 0, .slice none 0 0]) ?_ 1 _ rfl; (with_reducible repeat (first | apply zq68_1 | apply zq68_2 | apply zq68_3)); refine blk_put (cs := #[.int .i64 0, .int .i64 0, .int .i64 0, .slice none 0 0]) ?_ 0 _ rfl; (with_reducible repeat (first | apply zq68_1 | apply zq68_2 | apply zq68_3)); exact BK324.out) hb); have n3_ := zq68_9 (below_step (by repeat (first | (with_reducible first | exact HB.out | apply zq68_7 | apply zq68_6 | apply zq68_8 | refine below_set ?_ GE316.out | refine below_set ?_ GE319.out | refine below_set ?_ GE324.out) | exact HB.out)) hb); have n4_ := zq68_9 (hbox); have n5_ := zq68_9 ((by rw [hg]; exact (below_size (by repeat (first | (with_reducible first | exact HB.out | apply zq68_7 | apply zq68_6 | apply zq68_8 | refine below_set ?_ GE316.out | refine below_set ?_ GE319.out | refine below_set ?_ GE324.out) | exact HB.out))) : w.heap.size ≤ gb325)); have n6_ := zq68_9 ((by rw [hg]; exact (below_size (by repeat (first | (with_reducible first | exact HB.out | apply zq68_7 | apply zq68_6 | apply zq68_8 | refine below_set ?_ GE316.out | refine below_set ?_ GE319.out | refine below_set ?_ GE324.out) | exact HB.out))) : w.heap.size ≤ gb325)); have n7_ := zq68_9 ((by rw [hg]; exact Nat.ne_of_lt (blk_lt (g := gb316) (o := .cells #[.int .i64 a0_0, .int .i64 a0_1, .int .i64 a0_2, .slice A0_3 l0_3.length c0_3] 26 (0, 0)) (by (with_reducible repeat (first | apply zq68_1 | apply zq68_2 | apply zq68_3)); refine blk_far ?_ NB316_324.out _; (with_reducible repeat (first | apply zq68_1 | apply zq68_2 | apply zq68_3)); refine blk_far ?_ NB316_324.out _; (with_reducible repeat (first | apply zq68_1 | apply zq68_2 | apply zq68_3)); refine blk_far ?_ NB316_324.out _; (with_reducible repeat (first | apply zq68_1 | apply zq68_2 | apply zq68_3)); refine blk_far ?_ NB316_324.out _; (with_reducible repeat (first | apply zq68_1 | apply zq68_2 | apply zq68_3)); refine blk_far ?_ NB316_324.out _; (with_reducible repeat (first | apply zq68_1 | apply zq68_2 | apply zq68_3)); exact BK316.out)) : gb316 ≠ gb325)); have n8_ := zq68_9 ((by rw [hg]; exact Nat.ne_of_gt (blk_lt (g := gb316) (o := .cells #[.int .i64 a0_0, .int .i64 a0_1, .int .i64 a0_2, .slice A0_3 l0_3.length c0_3] 26 (0, 0)) (by (with_reducible repeat (first | apply zq68_1 | apply zq68_2 | apply zq68_3)); refine blk_far ?_ NB316_324.out _; (with_reducible repeat (first | apply zq68_1 | apply zq68_2 | apply zq68_3)); refine blk_far ?_ NB316_324.out _; (with_reducible repeat (first | apply zq68_1 | apply zq68_2 | apply zq68_3)); refine blk_far ?_ NB316_324.out _; (with_reducible repeat (first | apply zq68_1 | apply zq68_2 | apply zq68_3)); refine blk_far ?_ NB316_324.out _; (with_reducible repeat (first | apply zq68_1 | apply zq68_2 | apply zq68_3)); refine blk_far ?_ NB316_324.out _; (with_reducible repeat (first | apply zq68_1 | apply zq68_2 | apply zq68_3)); exact BK316.out)) : gb325 ≠ gb316)); have n9_ := zq68_9 ((by rw [hg]; exact Nat.ne_of_lt (blk_lt (g := gb319) (o := .cells #[.int .i64 a0_0, .int .i64 a0_1, .int .i64 a0_2, .slice A0_3 y320.length c0_3] 26 (0, 0)) (by (with_reducible repeat (first | apply zq68_1 | apply zq68_2 | apply zq68_3)); refine blk_far ?_ NB319_324.out _; (with_reducible repeat (first | apply zq68_1 | apply zq68_2 | apply zq68_3)); refine blk_far ?_ NB319_324.out _; (with_reducible repeat (first | apply zq68_1 | apply zq68_2 | apply zq68_3)); refine blk_far ?_ NB319_324.out _; (with_reducible repeat (first | apply zq68_1 | apply zq68_2 | apply zq68_3)); refine blk_far ?_ NB319_324.out _; (with_reducible repeat (first | apply zq68_1 | apply zq68_2 | apply zq68_3)); refine blk_far ?_ NB319_324.out _; (with_reducible repeat (first | apply zq68_1 | apply zq68_2 | apply zq68_3)); exact BK319.out)) : gb319 ≠ gb325)); have n10_ := zq68_9 ((by rw [hg]; exact Nat.ne_of_gt (blk_lt (g := gb319) (o := .cells #[.int .i64 a0_0, .int .i64 a0_1, .int .i64 a0_2, .slice A0_3 y320.length c0_3] 26 (0, 0)) (by (with_reducible repeat (first | apply zq68_1 | apply zq68_2 | apply zq68_3)); refine blk_far ?_ NB319_324.out _; (with_reducible repeat (first | apply zq68_1 | apply zq68_2 | apply zq68_3)); refine blk_far ?_ NB319_324.out _; (with_reducible repeat (first | apply zq68_1 | apply zq68_2 | apply zq68_3)); refine blk_far ?_ NB319_324.out _; (with_reducible repeat (first | apply zq68_1 | apply zq68_2 | apply zq68_3)); refine blk_far ?_ NB319_324.out _; (with_reducible repeat (first | apply zq68_1 | apply zq68_2 | apply zq68_3)); refine blk_far ?_ NB319_324.out _; (with_reducible repeat (first | apply zq68_1 | apply zq68_2 | apply zq68_3)); exact BK319.out)) : gb325 ≠ gb319)); have n11_ := zq68_9 ((by rw [hg]; exact Nat.ne_of_lt (blk_lt (g := gb324) (o := .cells #[.int .i64 (wrap64 (a0_0 + 1)), .int .i64 a0_1, .int .i64 a0_2, .slice A0_3 l0_3.length c0_3] 26 (0, 0)) (by (with_reducible repeat (first | apply zq68_1 | apply zq68_2 | apply zq68_3)); refine blk_put (cs := #[.int .i64 a0_0, .int .i64 a0_1, .int .i64 a0_2, .slice A0_3 l0_3.length c0_3]) ?_ 0 _ rfl; (with_reducible repeat (first | apply zq68_1 | apply zq68_2 | apply zq68_3)); refine blk_put (cs := #[.int .i64 a0_0, .int .i64 a0_1, .int .i64 a0_2, .slice none 0 0]) ?_ 3 _ rfl; (with_reducible repeat (first | apply zq68_1 | apply zq68_2 | apply zq68_3)); refine blk_put (cs := #[.int .i64 a0_0, .int .i64 a0_1, .int .i64 0, .slice none 0 0]) ?_ 2 _ rfl; (with_reducible repeat (first | apply zq68_1 | apply zq68_2 | apply zq68_3)); refine blk_put (cs := #[.int .i64 a0_0, .int .i64 0, .int .i64 0, .slice none 0 0]) ?_ 1 _ rfl; (with_reducible repeat (first | apply zq68_1 | apply zq68_2 | apply zq68_3)); refine blk_put (cs := #[.int .i64 0, .int .i64 0, .int .i64 0, .slice none 0 0]) ?_ 0 _ rfl; (with_reducible repeat (first | apply zq68_1 | apply zq68_2 | apply zq68_3)); exact BK324.out)) : gb324 ≠ gb325)); have n12_ := zq68_9 ((by rw [hg]; exact Nat.ne_of_gt (blk_lt (g := gb324) (o := .cells #[.int .i64 (wrap64 (a0_0 + 1)), .int .i64 a0_1, .int .i64 a0_2, .slice A0_3 l0_3.length c0_3] 26 (0, 0)) (by (with_reducible repeat (first | apply zq68_1 | apply zq68_2 | apply zq68_3)); refine blk_put (cs := #[.int .i64 a0_0, .int .i64 a0_1, .int .i64 a0_2, .slice A0_3 l0_3.length c0_3]) ?_ 0 _ rfl; (with_reducible repeat (first | apply zq68_1 | apply zq68_2 | apply zq68_3)); refine blk_put (cs := #[.int .i64 a0_0, .int .i64 a0_1, .int .i64 a0_2, .slice none 0 0]) ?_ 3 _ rfl; (with_reducible repeat (first | apply zq68_1 | apply zq68_2 | apply zq68_3)); refine blk_put (cs := #[.int .i64 a0_0, .int .i64 a0_1, .int .i64 0, .slice none 0 0]) ?_ 2 _ rfl; (with_reducible repeat (first | apply zq68_1 | apply zq68_2 | apply zq68_3)); refine blk_put (cs := #[.int .i64 a0_0, .int .i64 0, .int .i64 0, .slice none 0 0]) ?_ 1 _ rfl; (with_reducible repeat (first | apply zq68_1 | apply zq68_2 | apply zq68_3)); refine blk_put (cs := #[.int .i64 0, .int .i64 0, .int .i64 0, .slice none 0 0]) ?_ 0 _ rfl; (with_reducible repeat (first | apply zq68_1 | apply zq68_2 | apply zq68_3)); exact BK324.out)) : gb325 ≠ gb324)); clear BK316; clear BK319; clear BK324; clear HB; have BK316 := n0_; have BK319 := n1_; have BK324 := n2_; have HB := n3_; have BK325 := n4_; have GW325 := n5_; have GE325 := n6_; have NB316_325 := n7_; have NB325_316 := n8_; have NB319_325 := n9_; have NB325_319 := n10_; have NB324_325 := n11_; have NB325_324 := n12_; clear n0_ n1_ n2_ n3_ n4_ n5_ n6_ n7_ n8_ n9_ n10_ n11_ n12_; clear hb hbox hg; have hnb58 := NB325_316.out; have hnc58 := NB316_325.out; have hnb59 := NB325_319.out; have hnc59 := NB319_325.out; have hnb60 := NB325_324.out; have hnc60 := NB324_325.out; have hcz61_0 : w57.cell? ⟨gb325, 0, none⟩ = some (.int .i64 0) := (zq68_5 BK325.out 0).trans rfl; have hcz61_1 : w57.cell? ⟨gb325, 1, none⟩ = some (.int .i64 0) := (zq68_5 BK325.out 1).trans rfl; have hcz61_2 : w57.cell? ⟨gb325, 2, none⟩ = some (.int .i64 0) := (zq68_5 BK325.out 2).trans rfl; have hcz61_3 : w57.cell? ⟨gb325, 3, none⟩ = some (.slice none 0 0) := (zq68_5 BK325.out 3).trans rfl; have hfz61_0 := zq68_4 BK325.out 0; have hfz61_1 := zq68_4 BK325.out 1; have hfz61_2 := zq68_4 BK325.out 2; have hfz61_3 := zq68_4 BK325.out 3; have hcz62_0 : w57.cell? ⟨gb316, 0, none⟩ = some (.int .i64 a0_0) := (zq68_5 BK316.out 0).trans rfl; have hcz62_1 : w57.cell? ⟨gb316, 1, none⟩ = some (.int .i64 a0_1) := (zq68_5 BK316.out 1).trans rfl; have hcz62_2 : w57.cell? ⟨gb316, 2, none⟩ = some (.int .i64 a0_2) := (zq68_5 BK316.out 2).trans rfl; have hcz62_3 : w57.cell? ⟨gb316, 3, none⟩ = some (.slice A0_3 l0_3.length c0_3) := (zq68_5 BK316.out 3).trans rfl; have hfz62_0 := zq68_4 BK316.out 0; have hfz62_1 := zq68_4 BK316.out 1; have hfz62_2 := zq68_4 BK316.out 2; have hfz62_3 := zq68_4 BK316.out 3) | ((with_reducible refine gate_dst (N := 9) rfl ?_); (try (refine gate_guard (by rfl) ?_; dsimp only)); refine box_event ?hg (N := 9) ?hd (cs := #[.int .i64 0, .int .i64 0, .int .i64 0, .slice none 0 0]) (t := 26) ?hr ?_; (case hd => rfl); (case hg => rfl); (case hr => first | (go_simp; done) | (go_simp; rfl)); intro gb326 hg w63 hbox hb; have n0_ := zq68_9 (blk_below (g := gb316) (o := .cells #[.int .i64 a0_0, .int .i64 a0_1, .int .i64 a0_2, .slice A0_3 l0_3.length c0_3] 26 (0, 0)) (by (with_reducible repeat (first | apply zq68_1 | apply zq68_2 | apply zq68_3)); refine blk_far ?_ NB316_325.out _; (with_reducible repeat (first | apply zq68_1 | apply zq68_2 | apply zq68_3)); refine blk_far ?_ NB316_325.out _; (with_reducible repeat (first | apply zq68_1 | apply zq68_2 | apply zq68_3)); refine blk_far ?_ NB316_325.out _; (with_reducible repeat (first | apply zq68_1 | apply zq68_2 | apply zq68_3)); refine blk_far ?_ NB316_325.out _; (with_reducible repeat (first | apply zq68_1 | apply zq68_2 | apply zq68_3)); refine blk_far ?_ NB316_325.out _; (with_reducible repeat (first | apply zq68_1 | apply zq68_2 | apply zq68_3)); exact BK316.out) hb); have n1_ := zq68_9 (blk_below (g := gb319) (o := .cells #[.int .i64 a0_0, .int .i64 a0_1, .int .i64 a0_2, .slice A0_3 y320.length c0_3] 26 (0, 0)) (by (with_reducible repeat (first | apply zq68_1 | apply zq68_2 | apply zq68_3)); refine blk_far ?_ NB319_325.out _; (with_reducible repeat (first | apply zq68_1 | apply zq68_2 | apply zq68_3)); refine blk_far ?_ NB319_325.out _; (with_reducible repeat (first | apply zq68_1 | apply zq68_2 | apply zq68_3)); refine blk_far ?_ NB319_325.out _; (with_reducible repeat (first | apply zq68_1 | apply zq68_2 | apply zq68_3)); refine blk_far ?_ NB319_325.out _; (with_reducible repeat (first | apply zq68_1 | apply zq68_2 | apply zq68_3)); refine blk_far ?_ NB319_325.out _; (with_reducible repeat (first | apply zq68_1 | apply zq68_2 | apply zq68_3)); exact BK319.out) hb); have n2_ := zq68_9 (blk_below (g := gb324) (o := .cells #[.int .i64 (wrap64 (a0_0 + 1)), .int .i64 a0_1, .int .i64 a0_2, .slice A0_3 l0_3.length c0_3] 26 (0, 0)) (by (with_reducible repeat (first | apply zq68_1 | apply zq68_2 | apply zq68_3)); refine blk_far ?_ NB324_325.out _; (with_reducible repeat (first | apply zq68_1 | apply zq68_2 | apply zq68_3)); refine blk_far ?_ NB324_325.out _; (with_reducible repeat (first | apply zq68_1 | apply zq68_2 | apply zq68_3)); refine blk_far ?_ NB324_325.out _; (with_reducible repeat (first | apply zq68_1 | apply zq68_2 | apply zq68_3)); refine blk_far ?_ NB324_325.out _; (with_reducible repeat (first | apply zq68_1 | apply zq68_2 | apply zq68_3)); refine blk_far ?_ NB324_325.out _; (with_reducible repeat (first | apply zq68_1 | apply zq68_2 | apply zq68_3)); exact BK324.out) hb); have n3_ := zq68_9 (blk_below (g := gb325) (o := .cells #[.int .i64 a0_0, .int .i64 0, .int .i64 a0_2, .slice A0_3 l0_3.length c0_3] 26 (0, 0)) (by (with_reducible repeat (first | apply zq68_1 | apply zq68_2 | apply zq68_3)); refine blk_put (cs := #[.int .i64 a0_0, .int .i64 a0_1, .int .i64 a0_2, .slice A0_3 l0_3.length c0_3]) ?_ 1 _ rfl; (with_reducible repeat (first | apply zq68_1 | apply zq68_2 | apply zq68_3)); refine blk_put (cs := #[.int .i64 a0_0, .int .i64 a0_1, .int .i64 a0_2, .slice none 0 0]) ?_ 3 _ rfl; (with_reducible repeat (first | apply zq68_1 | apply zq68_2 | apply zq68_3)); refine blk_put (cs := #[.int .i64 a0_0, .int .i64 a0_1, .int .i64 0, .slice none 0 0]) ?_ 2 _ rfl; (with_reducible repeat (first | apply zq68_1 | apply zq68_2 | apply zq68_3)); refine blk_put (cs := #[.int .i64 a0_0, .int .i64 0, .int .i64 0, .slice none 0 0]) ?_ 1 _ rfl; (with_reducible repeat (first | apply zq68_1 | apply zq68_2 | apply zq68_3)); refine blk_put (cs := #[.int .i64 0, .int .i64 0, .int .i64 0, .slice none 0 0]) ?_ 0 _ rfl; (with_reducible repeat (first | apply zq68_1 | apply zq68_2 | apply zq68_3)); exact BK325.out) hb); have n4_ := zq68_9 (below_step (by repeat (first | (with_reducible first | exact HB.out | apply zq68_7 | apply zq68_6 | apply zq68_8 | refine below_set ?_ GE316.out | refine below_set ?_ GE319.out | refine below_set ?_ GE324.out | refine below_set ?_ GE325.out) | exact HB.out)) hb); have n5_ := zq68_9 (hbox); have n6_ := zq68_9 ((by rw [hg]; exact (below_size (by repeat (first | (with_reducible first | exact HB.out | apply zq68_7 | apply zq68_6 | apply zq68_8 | refine below_set ?_ GE316.out | refine below_set ?_ GE319.out | refine below_set ?_ GE324.out | refine below_set ?_ GE325.out) | exact HB.out))) : w.heap.size ≤ gb326)); have n7_ := zq68_9 ((by rw [hg]; exact (below_size (by repeat (first | (with_reducible first | exact HB.out | apply zq68_7 | apply zq68_6 | apply zq68_8 | refine below_set ?_ GE316.out | refine below_set ?_ GE319.out | refine below_set ?_ GE324.out | refine below_set ?_ GE325.out) | exact HB.out))) : w.heap.size ≤ gb326)); have n8_ := zq68_9 ((by rw [hg]; exact Nat.ne_of_lt (blk_lt (g := gb316) (o := .cells #[.int .i64 a0_0, .int .i64 a0_1, .int .i64 a0_2, .slice A0_3 l0_3.length c0_3] 26 (0, 0)) (by (with_reducible repeat (first | apply zq68_1 | apply zq68_2 | apply zq68_3)); refine blk_far ?_ NB316_325.out _; (with_reducible repeat (first | apply zq68_1 | apply zq68_2 | apply zq68_3)); refine blk_far ?_ NB316_325.out _; (with_reducible repeat (first | apply zq68_1 | apply zq68_2 | apply zq68_3)); refine blk_far ?_ NB316_325.out _; (with_reducible repeat (first | apply zq68_1 | apply zq68_2 | apply zq68_3)); refine blk_far ?_ NB316_325.out _; (with_reducible repeat (first | apply zq68_1 | apply zq68_2 | apply zq68_3)); refine blk_far ?_ NB316_325.out _; (with_reducible repeat (first | apply zq68_1 | apply zq68_2 | apply zq68_3)); exact BK316.out)) : gb316 ≠ gb326)); have n9_ := zq68_9 ((by rw [hg]; exact Nat.ne_of_gt (blk_lt (g := gb316) (o := .cells #[.int .i64 a0_0, .int .i64 a0_1, .int .i64 a0_2, .slice A0_3 l0_3.length c0_3] 26 (0, 0)) (by (with_reducible repeat (first | apply zq68_1 | apply zq68_2 | apply zq68_3)); refine blk_far ?_ NB316_325.out _; (with_reducible repeat (first | apply zq68_1 | apply zq68_2 | apply zq68_3)); refine blk_far ?_ NB316_325.out _; (with_reducible repeat (first | apply zq68_1 | apply zq68_2 | apply zq68_3)); refine blk_far ?_ NB316_325.out _; (with_reducible repeat (first | apply zq68_1 | apply zq68_2 | apply zq68_3)); refine blk_far ?_ NB316_325.out _; (with_reducible repeat (first | apply zq68_1 | apply zq68_2 | apply zq68_3)); refine blk_far ?_ NB316_325.out _; (with_reducible repeat (first | apply zq68_1 | apply zq68_2 | apply zq68_3)); exact BK316.out)) : gb326 ≠ gb316)); have n10_ := zq68_9 ((by rw [hg]; exact Nat.ne_of_lt (blk_lt (g := gb319) (o := .cells #[.int .i64 a0_0, .int .i64 a0_1, .int .i64 a0_2, .slice A0_3 y320.length c0_3] 26 (0, 0)) (by (with_reducible repeat (first | apply zq68_1 | apply zq68_2 | apply zq68_3)); refine blk_far ?_ NB319_325.out _; (with_reducible repeat (first | apply zq68_1 | apply zq68_2 | apply zq68_3)); refine blk_far ?_ NB319_325.out _; (with_reducible repeat (first | apply zq68_1 | apply zq68_2 | apply zq68_3)); refine blk_far ?_ NB319_325.out _; (with_reducible repeat (first | apply zq68_1 | apply zq68_2 | apply zq68_3)); refine blk_far ?_ NB319_325.out _; (with_reducible repeat (first | apply zq68_1 | apply zq68_2 | apply zq68_3)); refine blk_far ?_ NB319_325.out _; (with_reducible repeat (first | apply zq68_1 | apply zq68_2 | apply zq68_3)); exact BK319.out)) : gb319 ≠ gb326)); have n11_ := zq68_9 ((by rw [hg]; exact Nat.ne_of_gt (blk_lt (g := gb319) (o := .cells #[.int .i64 a0_0, .int .i64 a0_1, .int .i64 a0_2, .slice A0_3 y320.length c0_3] 26 (0, 0)) (by (with_reducible repeat (first | apply zq68_1 | apply zq68_2 | apply zq68_3)); refine blk_far ?_ NB319_325.out _; (with_reducible repeat (first | apply zq68_1 | apply zq68_2 | apply zq68_3)); refine blk_far ?_ NB319_325.out _; (with_reducible repeat (first | apply zq68_1 | apply zq68_2 | apply zq68_3)); refine blk_far ?_ NB319_325.out _; (with_reducible repeat (first | apply zq68_1 | apply zq68_2 | apply zq68_3)); refine blk_far ?_ NB319_325.out _; (with_reducible repeat (first | apply zq68_1 | apply zq68_2 | apply zq68_3)); refine blk_far ?_ NB319_325.out _; (with_reducible repeat (first | apply zq68_1 | apply zq68_2 | apply zq68_3)); exact BK319.out)) : gb326 ≠ gb319)); have n12_ := zq68_9 ((by rw [hg]; exact Nat.ne_of_lt (blk_lt (g := gb324) (o := .cells #[.int .i64 (wrap64 (a0_0 + 1)), .int .i64 a0_1, .int .i64 a0_2, .slice A0_3 l0_3.length c0_3] 26 (0, 0)) (by (with_reducible repeat (first | apply zq68_1 | apply zq68_2 | apply zq68_3)); refine blk_far ?_ NB324_325.out _; (with_reducible repeat (first | apply zq68_1 | apply zq68_2 | apply zq68_3)); refine blk_far ?_ NB324_325.out _; (with_reducible repeat (first | apply zq68_1 | apply zq68_2 | apply zq68_3)); refine blk_far ?_ NB324_325.out _; (with_reducible repeat (first | apply zq68_1 | apply zq68_2 | apply zq68_3)); refine blk_far ?_ NB324_325.out _; (with_reducible repeat (first | apply zq68_1 | apply zq68_2 | apply zq68_3)); refine blk_far ?_ NB324_325.out _; (with_reducible repeat (first | apply zq68_1 | apply zq68_2 | apply zq68_3)); exact BK324.out)) : gb324 ≠ gb326)); have n13_ := zq68_9 ((by rw [hg]; exact Nat.ne_of_gt (blk_lt (g := gb324) (o := .cells #[.int .i64 (wrap64 (a0_0 + 1)), .int .i64 a0_1, .int .i64 a0_2, .slice A0_3 l0_3.length c0_3] 26 (0, 0)) (by (with_reducible repeat (first | apply zq68_1 | apply zq68_2 | apply zq68_3)); refine blk_far ?_ NB324_325.out _; (with_reducible repeat (first | apply zq68_1 | apply zq68_2 | apply zq68_3)); refine blk_far ?_ NB324_325.out _; (with_reducible repeat (first | apply zq68_1 | apply zq68_2 | apply zq68_3)); refine blk_far ?_ NB324_325.out _; (with_reducible repeat (first | apply zq68_1 | apply zq68_2 | apply zq68_3)); refine blk_far ?_ NB324_325.out _; (with_reducible repeat (first | apply zq68_1 | apply zq68_2 | apply zq68_3)); refine blk_far ?_ NB324_325.out _; (with_reducible repeat (first | apply zq68_1 | apply zq68_2 | apply zq68_3)); exact BK324.out)) : gb326 ≠ gb324)); have n14_ := zq68_9 ((by rw [hg]; exact Nat.ne_of_lt (blk_lt (g := gb325) (o := .cells #[.int .i64 a0_0, .int .i64 0, .int .i64 a0_2, .slice A0_3 l0_3.length c0_3] 26 (0, 0)) (by (with_reducible repeat (first | apply zq68_1 | apply zq68_2 | apply zq68_3)); refine blk_put (cs := #[.int .i64 a0_0, .int .i64 a0_1, .int .i64 a0_2, .slice A0_3 l0_3.length c0_3]) ?_ 1 _ rfl; (with_reducible repeat (first | apply zq68_1 | apply zq68_2 | apply zq68_3)); refine blk_put (cs := #[.int .i64 a0_0, .int .i64 a0_1, .int .i64 a0_2, .slice none 0 0]) ?_ 3 _ rfl; (with_reducible repeat (first | apply zq68_1 | apply zq68_2 | apply zq68_3)); refine blk_put (cs := #[.int .i64 a0_0, .int .i64 a0_1, .int .i64 0, .slice none 0 0]) ?_ 2 _ rfl; (with_reducible repeat (first | apply zq68_1 | apply zq68_2 | apply zq68_3)); refine blk_put (cs := #[.int .i64 a0_0, .int .i64 0, .int .i64 0, .slice none 0 0]) ?_ 1 _ rfl; (with_reducible repeat (first | apply zq68_1 | apply zq68_2 | apply zq68_3)); refine blk_put (cs := #[.int .i64 0, .int .i64 0, .int .i64 0, .slice none 0 0]) ?_ 0 _ rfl; (with_reducible repeat (first | apply zq68_1 | apply zq68_2 | apply zq68_3)); exact BK325.out)) : gb325 ≠ gb326)); have n15_ := zq68_9 ((by rw [hg]; exact Nat.ne_of_gt (blk_lt (g := gb325) (o := .cells #[.int .i64 a0_0, .int .i64 0, .int .i64 a0_2, .slice A0_3 l0_3.length c0_3] 26 (0, 0)) (by (with_reducible repeat (first | apply zq68_1 | apply zq68_2 | apply zq68_3)); refine blk_put (cs := #[.int .i64 a0_0, .int .i64 a0_1, .int .i64 a0_2, .slice A0_3 l0_3.length c0_3]) ?_ 1 _ rfl; (with_reducible repeat (first | apply zq68_1 | apply zq68_2 | apply zq68_3)); refine blk_put (cs := #[.int .i64 a0_0, .int .i64 a0_1, .int .i64 a0_2, .slice none 0 0]) ?_ 3 _ rfl; (with_reducible repeat (first | apply zq68_1 | apply zq68_2 | apply zq68_3)); refine blk_put (cs := #[.int .i64 a0_0, .int .i64 a0_1, .int .i64 0, .slice none 0 0]) ?_ 2 _ rfl; (with_reducible repeat (first | apply zq68_1 | apply zq68_2 | apply zq68_3)); refine blk_put (cs := #[.int .i64 a0_0, .int .i64 0, .int .i64 0, .slice none 0 0]) ?_ 1 _ rfl; (with_reducible repeat (first | apply zq68_1 | apply zq68_2 | apply zq68_3)); refine blk_put (cs := #[.int .i64 0, .int .i64 0, .int .i64 0, .slice none 0 0]) ?_ 0 _ rfl; (with_reducible repeat (first | apply zq68_1 | apply zq68_2 | apply zq68_3)); exact BK325.out)) : gb326 ≠ gb325)); clear BK316; clear BK319; clear BK324; clear BK325; clear HB; have BK316 := n0_; have BK319 := n1_; have BK324 := n2_; have BK325 := n3_; have HB := n4_; have BK326 := n5_; have GW326 := n6_; have GE326 := n7_; have NB316_326 := n8_; have NB326_316 := n9_; have NB319_326 := n10_; have NB326_319 := n11_; have NB324_326 := n12_; have NB326_324 := n13_; have NB325_326 := n14_; have NB326_325 := n15_; clear n0_ n1_ n2_ n3_ n4_ n5_ n6_ n7_ n8_ n9_ n10_ n11_ n12_ n13_ n14_ n15_; clear hb hbox hg; have hnb64 := NB326_316.out; have hnc64 := NB316_326.out; have hnb65 := NB326_319.out; have hnc65 := NB319_326.out; have hnb66 := NB326_324.out; have hnc66 := NB324_326.out; have hnb67 := NB326_325.out; have hnc67 := NB325_326.out; have hcz68_0 : w63.cell? ⟨gb326, 0, none⟩ = some (.int .i64 0) := (zq68_5 BK326.out 0).trans rfl; have hcz68_1 : w63.cell? ⟨gb326, 1, none⟩ = some (.int .i64 0) := (zq68_5 BK326.out 1).trans rfl; have hcz68_2 : w63.cell? ⟨gb326, 2, none⟩ = some (.int .i64 0) := (zq68_5 BK326.out 2).trans rfl; have hcz68_3 : w63.cell? ⟨gb326, 3, none⟩ = some (.slice none 0 0) := (zq68_5 BK326.out 3).trans rfl; have hfz68_0 := zq68_4 BK326.out 0; have hfz68_1 := zq68_4 BK326.out 1; have hfz68_2 := zq68_4 BK326.out 2; have hfz68_3 := zq68_4 BK326.out 3; have hcz69_0 : w63.cell? ⟨gb316, 0, none⟩ = some (.int .i64 a0_0) := (zq68_5 BK316.out 0).trans rfl; have hcz69_1 : w63.cell? ⟨gb316, 1, none⟩ = some (.int .i64 a0_1) := (zq68_5 BK316.out 1).trans rfl; have hcz69_2 : w63.cell? ⟨gb316, 2, none⟩ = some (.int .i64 a0_2) := (zq68_5 BK316.out 2).trans rfl; have hcz69_3 : w63.cell? ⟨gb316, 3, none⟩ = some (.slice A0_3 l0_3.length c0_3) := (zq68_5 BK316.out 3).trans rfl; have hfz69_0 := zq68_4 BK316.out 0; have hfz69_1 := zq68_4 BK316.out 1; have hfz69_2 := zq68_4 BK316.out 2; have hfz69_3 := zq68_4 BK316.out 3) | ((with_reducible refine gate_builtin (b := .append) (xs := #[.const (.slice none 0 0), .tmp 61]) rfl ?_); (try (refine gate_guard (by rfl) ?_; dsimp only)); at_builtin; refine Kd.R_append_rows k34 (w0 := w) w.heap.size rfl (.const (.slice none 0 0)) (.tmp 61) 24 34 (.agg #[(.int .i64 0), (.int .i64 0), (.int .i64 0), (.int .i64 0), (.int .i64 0), (.int .i64 0)]) 48 rfl Tryd.underlying24 info34 rfl (by decide) (by omega) (.slice none 0 0) ([] : List (S34)) l0_3 _ _ _ (fun _ => True) (fun _ => False) rfl rfl ?aO ?aR (fun _ _ h => h) (fun _ h => h.elim) ?aF ?aB ?aS ?aL ?_; (case aR => exact Kd.C_below HR0_3.out (by repeat (first | (with_reducible first | exact HB.out | apply zq68_7 | apply zq68_6 | apply zq68_8 | refine below_set ?_ GE316.out | refine below_set ?_ GE319.out | refine below_set ?_ GE324.out | refine below_set ?_ GE325.out | refine below_set ?_ GE326.out) | exact HB.out))); (case aB => exact (by repeat (first | (with_reducible first | exact HB.out | apply zq68_7 | apply zq68_6 | apply zq68_8 | refine below_set ?_ GE316.out | refine below_set ?_ GE319.out | refine below_set ?_ GE324.out | refine below_set ?_ GE325.out | refine below_set ?_ GE326.out) | exact HB.out))); (case aF => exact (fun _ _ => trivial)); (case aO => exact ((Kd.R_nil _ _ _ _ (fun _ => True)))); (case aS => exact (below_size (by repeat (first | (with_reducible first | exact HB.out | apply zq68_7 | apply zq68_6 | apply zq68_8 | refine below_set ?_ GE316.out | refine below_set ?_ GE319.out | refine below_set ?_ GE324.out | refine below_set ?_ GE325.out | refine below_set ?_ GE326.out) | exact HB.out)))); (case aL => have := LMc29.out; omega); intro v328 w70 ho hb hg hat; rw [← Ny327.out] at ho; have n0_ := zq68_9 (blk_grown (g := gb316) (o := .cells #[.int .i64 a0_0, .int .i64 a0_1, .int .i64 a0_2, .slice A0_3 l0_3.length c0_3] 26 (0, 0)) (by (with_reducible repeat (first | apply zq68_1 | apply zq68_2 | apply zq68_3)); refine blk_far ?_ NB316_326.out _; (with_reducible repeat (first | apply zq68_1 | apply zq68_2 | apply zq68_3)); refine blk_far ?_ NB316_326.out _; (with_reducible repeat (first | apply zq68_1 | apply zq68_2 | apply zq68_3)); refine blk_far ?_ NB316_326.out _; (with_reducible repeat (first | apply zq68_1 | apply zq68_2 | apply zq68_3)); refine blk_far ?_ NB316_326.out _; (with_reducible repeat (first | apply zq68_1 | apply zq68_2 | apply zq68_3)); exact BK316.out) hg (by simp [Value.ownBlock])); have n1_ := zq68_9 (blk_grown (g := gb319) (o := .cells #[.int .i64 a0_0, .int .i64 a0_1, .int .i64 a0_2, .slice A0_3 y320.length c0_3] 26 (0, 0)) (by (with_reducible repeat (first | apply zq68_1 | apply zq68_2 | apply zq68_3)); refine blk_far ?_ NB319_326.out _; (with_reducible repeat (first | apply zq68_1 | apply zq68_2 | apply zq68_3)); refine blk_far ?_ NB319_326.out _; (with_reducible repeat (first | apply zq68_1 | apply zq68_2 | apply zq68_3)); refine blk_far ?_ NB319_326.out _; (with_reducible repeat (first | apply zq68_1 | apply zq68_2 | apply zq68_3)); refine blk_far ?_ NB319_326.out _; (with_reducible repeat (first | apply zq68_1 | apply zq68_2 | apply zq68_3)); exact BK319.out) hg (by simp [Value.ownBlock])); have n2_ := zq68_9 (blk_grown (g := gb324) (o := .cells #[.int .i64 (wrap64 (a0_0 + 1)), .int .i64 a0_1, .int .i64 a0_2, .slice A0_3 l0_3.length c0_3] 26 (0, 0)) (by (with_reducible repeat (first | apply zq68_1 | apply zq68_2 | apply zq68_3)); refine blk_far ?_ NB324_326.out _; (with_reducible repeat (first | apply zq68_1 | apply zq68_2 | apply zq68_3)); refine blk_far ?_ NB324_326.out _; (with_reducible repeat (first | apply zq68_1 | apply zq68_2 | apply zq68_3)); refine blk_far ?_ NB324_326.out _; (with_reducible repeat (first | apply zq68_1 | apply zq68_2 | apply zq68_3)); refine blk_far ?_ NB324_326.out _; (with_reducible repeat (first | apply zq68_1 | apply zq68_2 | apply zq68_3)); exact BK324.out) hg (by simp [Value.ownBlock])); have n3_ := zq68_9 (blk_grown (g := gb325) (o := .cells #[.int .i64 a0_0, .int .i64 0, .int .i64 a0_2, .slice A0_3 l0_3.length c0_3] 26 (0, 0)) (by (with_reducible repeat (first | apply zq68_1 | apply zq68_2 | apply zq68_3)); refine blk_far ?_ NB325_326.out _; (with_reducible repeat (first | apply zq68_1 | apply zq68_2 | apply zq68_3)); refine blk_far ?_ NB325_326.out _; (with_reducible repeat (first | apply zq68_1 | apply zq68_2 | apply zq68_3)); refine blk_far ?_ NB325_326.out _; (with_reducible repeat (first | apply zq68_1 | apply zq68_2 | apply zq68_3)); refine blk_far ?_ NB325_326.out _; (with_reducible repeat (first | apply zq68_1 | apply zq68_2 | apply zq68_3)); exact BK325.out) hg (by simp [Value.ownBlock])); have n4_ := zq68_9 (blk_grown (g := gb326) (o := .cells #[.int .i64 a0_0, .int .i64 a0_1, .int .i64 a0_2, .slice A0_3 l0_3.length c0_3] 26 (0, 0)) (by (with_reducible repeat (first | apply zq68_1 | apply zq68_2 | apply zq68_3)); refine blk_put (cs := #[.int .i64 a0_0, .int .i64 a0_1, .int .i64 a0_2, .slice none 0 0]) ?_ 3 _ rfl; (with_reducible repeat (first | apply zq68_1 | apply zq68_2 | apply zq68_3)); refine blk_put (cs := #[.int .i64 a0_0, .int .i64 a0_1, .int .i64 0, .slice none 0 0]) ?_ 2 _ rfl; (with_reducible repeat (first | apply zq68_1 | apply zq68_2 | apply zq68_3)); refine blk_put (cs := #[.int .i64 a0_0, .int .i64 0, .int .i64 0, .slice none 0 0]) ?_ 1 _ rfl; (with_reducible repeat (first | apply zq68_1 | apply zq68_2 | apply zq68_3)); refine blk_put (cs := #[.int .i64 0, .int .i64 0, .int .i64 0, .slice none 0 0]) ?_ 0 _ rfl; (with_reducible repeat (first | apply zq68_1 | apply zq68_2 | apply zq68_3)); exact BK326.out) hg (by simp [Value.ownBlock])); have n5_ := zq68_9 (hb); have n6_ := zq68_9 (ho); clear BK316; clear BK319; clear BK324; clear BK325; clear BK326; clear HB; have BK316 := n0_; have BK319 := n1_; have BK324 := n2_; have BK325 := n3_; have BK326 := n4_; have HB := n5_; have HO329 := n6_; clear n0_ n1_ n2_ n3_ n4_ n5_ n6_; clear ho hb hg hat; obtain ⟨Ao71, co71, eo71⟩ := Kd.R_slice HO329.out; subst eo71; have hcz72_0 : w70.cell? ⟨gb326, 0, none⟩ = some (.int .i64 a0_0) := (zq68_5 BK326.out 0).trans rfl; have hcz72_1 : w70.cell? ⟨gb326, 1, none⟩ = some (.int .i64 a0_1) := (zq68_5 BK326.out 1).trans rfl; have hcz72_2 : w70.cell? ⟨gb326, 2, none⟩ = some (.int .i64 a0_2) := (zq68_5 BK326.out 2).trans rfl; have hcz72_3 : w70.cell? ⟨gb326, 3, none⟩ = some (.slice A0_3 l0_3.length c0_3) := (zq68_5 BK326.out 3).trans rfl; have hfz72_0 := zq68_4 BK326.out 0; have hfz72_1 := zq68_4 BK326.out 1; have hfz72_2 := zq68_4 BK326.out 2; have hfz72_3 := zq68_4 BK326.out 3))
              have n0_ : Aside0 (Kd.R k34 34 (w70.setCell ⟨gb326, 3, none⟩ (.slice Ao71 y327.length co71)) w.heap.size (fun _ => True) (.slice Ao71 y327.length co71) y327) := ⟨by (with_reducible repeat (first | apply Kd.R_alloc | apply Kd.R_drewN | apply Kd.R_drew)); exact Kd.R_mono (Kd.R_far (p := ⟨gb326, 3, none⟩) (Kd.R_types HO329.out BK326.out (by decide)) (fun _ hk => hk.2) (.slice Ao71 y327.length co71)) (fun _ hk => trivial)⟩
              have n1_ : Aside0 ((w70.setCell ⟨gb326, 3, none⟩ (.slice Ao71 y327.length co71)).heap[gb316]? = some (.cells #[.int .i64 a0_0, .int .i64 a0_1, .int .i64 a0_2, .slice A0_3 l0_3.length c0_3] 26 (0, 0))) := ⟨by (with_reducible repeat (first | apply zq68_1 | apply zq68_2 | apply zq68_3)); refine blk_far ?_ NB316_326.out _; (with_reducible repeat (first | apply zq68_1 | apply zq68_2 | apply zq68_3)); exact BK316.out⟩
              have n2_ : Aside0 ((w70.setCell ⟨gb326, 3, none⟩ (.slice Ao71 y327.length co71)).heap[gb319]? = some (.cells #[.int .i64 a0_0, .int .i64 a0_1, .int .i64 a0_2, .slice A0_3 y320.length c0_3] 26 (0, 0))) := ⟨by (with_reducible repeat (first | apply zq68_1 | apply zq68_2 | apply zq68_3)); refine blk_far ?_ NB319_326.out _; (with_reducible repeat (first | apply zq68_1 | apply zq68_2 | apply zq68_3)); exact BK319.out⟩
              have n3_ : Aside0 ((w70.setCell ⟨gb326, 3, none⟩ (.slice Ao71 y327.length co71)).heap[gb324]? = some (.cells #[.int .i64 (wrap64 (a0_0 + 1)), .int .i64 a0_1, .int .i64 a0_2, .slice A0_3 l0_3.length c0_3] 26 (0, 0))) := ⟨by (with_reducible repeat (first | apply zq68_1 | apply zq68_2 | apply zq68_3)); refine blk_far ?_ NB324_326.out _; (with_reducible repeat (first | apply zq68_1 | apply zq68_2 | apply zq68_3)); exact BK324.out⟩
              have n4_ : Aside0 ((w70.setCell ⟨gb326, 3, none⟩ (.slice Ao71 y327.length co71)).heap[gb325]? = some (.cells #[.int .i64 a0_0, .int .i64 0, .int .i64 a0_2, .slice A0_3 l0_3.length c0_3] 26 (0, 0))) := ⟨by (with_reducible repeat (first | apply zq68_1 | apply zq68_2 | apply zq68_3)); refine blk_far ?_ NB325_326.out _; (with_reducible repeat (first | apply zq68_1 | apply zq68_2 | apply zq68_3)); exact BK325.out⟩
              have n5_ : Aside0 ((w70.setCell ⟨gb326, 3, none⟩ (.slice Ao71 y327.length co71)).heap[gb326]? = some (.cells #[.int .i64 a0_0, .int .i64 a0_1, .int .i64 a0_2, .slice Ao71 y327.length co71] 26 (0, 0))) := ⟨by (with_reducible repeat (first | apply zq68_1 | apply zq68_2 | apply zq68_3)); refine blk_put (cs := #[.int .i64 a0_0, .int .i64 a0_1, .int .i64 a0_2, .slice A0_3 l0_3.length c0_3]) ?_ 3 _ rfl; (with_reducible repeat (first | apply zq68_1 | apply zq68_2 | apply zq68_3)); exact BK326.out⟩
              have n6_ : Aside0 (Below w.heap.size w (w70.setCell ⟨gb326, 3, none⟩ (.slice Ao71 y327.length co71))) := ⟨by repeat (first | (with_reducible first | exact HB.out | apply zq68_7 | apply zq68_6 | apply zq68_8 | refine below_set ?_ GE316.out | refine below_set ?_ GE319.out | refine below_set ?_ GE324.out | refine below_set ?_ GE325.out | refine below_set ?_ GE326.out) | exact HB.out)⟩
              (try clear HO329)
              (try clear BK316)
              (try clear BK319)
              (try clear BK324)
              (try clear BK325)
              (try clear BK326)
              (try clear HB)
              generalize (w70.setCell ⟨gb326, 3, none⟩ (.slice Ao71 y327.length co71)) = w73 at n0_ n1_ n2_ n3_ n4_ n5_ n6_ ⊢
              have HO329 := n0_
              have BK316 := n1_
              have BK319 := n2_
              have BK324 := n3_
              have BK325 := n4_
              have BK326 := n5_
              have HB := n6_
              clear n0_ n1_ n2_ n3_ n4_ n5_ n6_
              have n0_ := zq68_9 (Kd.R_drew HO329.out)
              have n1_ := zq68_9 (zq68_2 BK316.out)
              have n2_ := zq68_9 (zq68_2 BK319.out)
              have n3_ := zq68_9 (zq68_2 BK324.out)
              have n4_ := zq68_9 (zq68_2 BK325.out)
              have n5_ := zq68_9 (zq68_2 BK326.out)
              have n6_ := zq68_9 (zq68_8 HB.out)
              clear HO329
              clear BK316
              clear BK319
              clear BK324
              clear BK325
              clear BK326
              clear HB
              have HO329 := n0_
              have BK316 := n1_
              have BK319 := n2_
              have BK324 := n3_
              have BK325 := n4_
              have BK326 := n5_
              have HB := n6_
              clear n0_ n1_ n2_ n3_ n4_ n5_ n6_
              have p330 : 0 ≤ (a1 : Int) := of_decide_eq_true (by first | (with_reducible assumption) | assumption)
              have q330 : a1 < (y327.length : Int) := of_decide_eq_true (by first | (with_reducible assumption) | assumption)
              obtain ⟨ad330, e330, hx330_0, hx330_1, hx330_2, hx330_3, hx330_4, hx330_5⟩ := at_T34 (Kd.R_reads' HO329.out).2.2 a1 p330 q330
              cases e330
              replace p330 := eq_true p330
              replace q330 := eq_true q330
              have p32 : 0 ≤ (a1 : Int) := of_decide_eq_true (by first | (with_reducible assumption) | assumption)
              have q32 : (a1 : Int) < ((y327.length : Int) : Int) := of_decide_eq_true (by first | (with_reducible assumption) | assumption)
              obtain ⟨go32, co32, eo32, gb32, gl32, cl32, HG32⟩ := Kd.R_form HO329.out (by omega)
              (first | cases eo32 | (injection eo32 with ea_ en_ ec_; (first | subst ea_ | (injection ea_ with ea_; subst ea_)); subst ec_; clear en_))
              have GB32 := zq68_9 gb32
              have GG32 := zq68_9 HG32
              clear gb32 gl32 HG32
              (first | simp only [add_plain] at hx330_0 | skip)
              (first | simp only [add_plain] at hx330_1 | skip)
              (first | simp only [add_plain] at hx330_2 | skip)
              (first | simp only [add_plain] at hx330_3 | skip)
              (first | simp only [add_plain] at hx330_4 | skip)
              (first | simp only [add_plain] at hx330_5 | skip)
              obtain ⟨ce32, hcl32, hM32, hcc32, hfr32⟩ := Kd.R_elem HO329.out z34 (a1 : Int) p32 q32
              obtain rfl := k34_openM hM32
              have hx32_0 : World.cell? _ ⟨go32, (a1 : Int).toNat * 6, none⟩ = some (.int .i64 ((rd_T34 y327 a1).f0)) := hcc32 0 _ rfl
              have hx32_1 : World.cell? _ ⟨go32, (a1 : Int).toNat * 6 + 1, none⟩ = some (.int .i64 ((rd_T34 y327 a1).f1)) := hcc32 1 _ rfl
              have hx32_2 : World.cell? _ ⟨go32, (a1 : Int).toNat * 6 + 2, none⟩ = some (.int .i64 ((rd_T34 y327 a1).f2)) := hcc32 2 _ rfl
              have hx32_3 : World.cell? _ ⟨go32, (a1 : Int).toNat * 6 + 3, none⟩ = some (.int .i64 ((rd_T34 y327 a1).f3)) := hcc32 3 _ rfl
              have hx32_4 : World.cell? _ ⟨go32, (a1 : Int).toNat * 6 + 4, none⟩ = some (.int .i64 ((rd_T34 y327 a1).f4)) := hcc32 4 _ rfl
              have hx32_5 : World.cell? _ ⟨go32, (a1 : Int).toNat * 6 + 5, none⟩ = some (.int .i64 ((rd_T34 y327 a1).f5)) := hcc32 5 _ rfl
              have hf32_0 : World.frozen? _ ⟨go32, (a1 : Int).toNat * 6, none⟩ = false := hfr32 0
              have hf32_1 : World.frozen? _ ⟨go32, (a1 : Int).toNat * 6 + 1, none⟩ = false := hfr32 1
              have hf32_2 : World.frozen? _ ⟨go32, (a1 : Int).toNat * 6 + 2, none⟩ = false := hfr32 2
              have hf32_3 : World.frozen? _ ⟨go32, (a1 : Int).toNat * 6 + 3, none⟩ = false := hfr32 3
              have hf32_4 : World.frozen? _ ⟨go32, (a1 : Int).toNat * 6 + 4, none⟩ = false := hfr32 4
              have hf32_5 : World.frozen? _ ⟨go32, (a1 : Int).toNat * 6 + 5, none⟩ = false := hfr32 5
              clear hcl32 hcc32 hfr32 hM32
              replace p32 := eq_true p32
              replace q32 := eq_true q32
              obtain ⟨ce75, hcl75, hM75, hcc75, hfr75⟩ := Kd.R_elem HO329.out z34 (a1 : Int) (of_decide_eq_true (by first | (with_reducible assumption) | assumption)) (by have h_ : (a1 : Int) < ((y327.length : Int) : Int) := of_decide_eq_true (by first | (with_reducible assumption) | assumption); first | exact h_ | (have e_ := (Kd.R_reads' HO329.out).1; omega) | simpa using h_)
              obtain rfl := k34_openM hM75
              have HP75 := (Kd.R_seg HO329.out (a1 : Int) (of_decide_eq_true (by first | (with_reducible assumption) | assumption)) (by have h_ : (a1 : Int) < ((y327.length : Int) : Int) := of_decide_eq_true (by first | (with_reducible assumption) | assumption); first | exact h_ | (have e_ := (Kd.R_reads' HO329.out).1; omega) | simpa using h_) (seg := [.int .i64 (wrap64 (((rd_T34 y327 a1).f2) + 1))]) (j := 2) hcl75 hcc75 (show 3 ≤ 6 from by decide) (x' := (⟨(rd_T34 y327 a1).f0, (rd_T34 y327 a1).f1, wrap64 (((rd_T34 y327 a1).f2) + 1), (rd_T34 y327 a1).f3, (rd_T34 y327 a1).f4, (rd_T34 y327 a1).f5⟩ : S34)) (k34_mkM _ _ _ (⟨(rd_T34 y327 a1).f0, (rd_T34 y327 a1).f1, wrap64 (((rd_T34 y327 a1).f2) + 1), (rd_T34 y327 a1).f3, (rd_T34 y327 a1).f4, (rd_T34 y327 a1).f5⟩ : S34) ) (fun _ hk => hk)).1
              rw [← Ny331.out] at HP75
              have HQ75 := zq68_9 HP75
              clear hcl75 hcc75 hfr75 hM75 HP75
              refine start_ (n := 13) (S := fun w' => w'.cell? ⟨gb326, 0, none⟩ = some (.int .i64 a0_0) ∧ w'.cell? ⟨gb326, 1, none⟩ = some (.int .i64 a0_1) ∧ w'.cell? ⟨gb326, 2, none⟩ = some (.int .i64 a0_2) ∧ w'.cell? ⟨gb326, 3, none⟩ = some (.slice (some ⟨go32, 0, none⟩) y327.length co71) ∧ w'.cell? ⟨go32, ((a1).toNat * 6), none⟩ = some (.int .i64 ((rd_T34 y327 a1).f0)) ∧ w'.cell? ⟨go32, ((a1).toNat * 6) + 1, none⟩ = some (.int .i64 ((rd_T34 y327 a1).f1)) ∧ w'.cell? ⟨go32, ((a1).toNat * 6) + 2, none⟩ = some (.int .i64 ((rd_T34 y327 a1).f2)) ∧ w'.cell? ⟨go32, ((a1).toNat * 6) + 3, none⟩ = some (.int .i64 ((rd_T34 y327 a1).f3)) ∧ w'.cell? ⟨go32, ((a1).toNat * 6) + 4, none⟩ = some (.int .i64 ((rd_T34 y327 a1).f4)) ∧ w'.cell? ⟨go32, ((a1).toNat * 6) + 5, none⟩ = some (.int .i64 ((rd_T34 y327 a1).f5))) (ds := [12]) #[false, false, false, false, false, false, false, false, false, false, false, false, false] (by kernel_rfl) rfl rfl ⟨(zq68_5 BK326.out 0).trans rfl, (zq68_5 BK326.out 1).trans rfl, (zq68_5 BK326.out 2).trans rfl, (zq68_5 BK326.out 3).trans rfl, hx330_0, hx330_1, hx330_2, hx330_3, hx330_4, hx330_5⟩ (fun hHeld => ?_); refine with_tabW haulierlaw05_InstBounds.tab12 haulierlaw05_InstBounds.bits12 (fun HT_ HW_ => ?_)
              generalize w73.drew = w74 at HO329 BK316 BK319 BK324 BK325 BK326 HB GG32 HQ75 hf32_0 hf32_1 hf32_2 hf32_3 hf32_4 hf32_5 hx32_0 hx32_1 hx32_2 hx32_3 hx32_4 hx32_5 hx330_0 hx330_1 hx330_2 hx330_3 hx330_4 hx330_5 hHeld ⊢
              refine pure_ (i := 0) (N := some 64) (v := ?_) (a' := ?_) #[true, false, false, false, false, false, false, false, false, false, false, false, false] rfl rfl (any_of HT_.out (by kernel_rfl)) (fun _ _ _ h => h) (Or.inl ⟨by rfl, ?_⟩) ?_ ?_
              rotate_left
              ·
               intro w'
               go_simp
               with_reducible rfl
              rotate_left
              ·
               simp only [Act.put, List.setIfInBounds_toArray, List.set_cons_zero, List.set_cons_succ, i64_w, i32_w]
               rfl
              refine pure_ (i := 2) (N := some 66) (v := ?_) (a' := ?_) #[true, false, true, false, false, false, false, false, false, false, false, false, false] rfl rfl (any_of HT_.out (by kernel_rfl)) (fun _ _ _ h => h) (Or.inl ⟨by rfl, ?_⟩) ?_ ?_
              rotate_left
              ·
               intro w'
               go_simp
               with_reducible rfl
              rotate_left
              ·
               simp only [Act.put, List.setIfInBounds_toArray, List.set_cons_zero, List.set_cons_succ, i64_w, i32_w]
               rfl
              refine pure_ (i := 3) (N := some 67) (v := ?_) (a' := ?_) #[true, false, true, true, false, false, false, false, false, false, false, false, false] rfl rfl (any_of HT_.out (by kernel_rfl)) (fun _ _ _ h => h) (Or.inl ⟨by rfl, ?_⟩) ?_ ?_
              rotate_left
              ·
               intro w'
               go_simp
               with_reducible rfl
              rotate_left
              ·
               simp only [Act.put, List.setIfInBounds_toArray, List.set_cons_zero, List.set_cons_succ, i64_w, i32_w]
               rfl
              refine pure_ (i := 5) (N := some 69) (v := ?_) (a' := ?_) #[true, false, true, true, false, true, false, false, false, false, false, false, false] rfl rfl (any_of HT_.out (by kernel_rfl)) (fun _ _ _ h => h) (Or.inl ⟨by rfl, ?_⟩) ?_ ?_
              rotate_left
              ·
               intro w'
               go_simp
               with_reducible rfl
              rotate_left
              ·
               simp only [Act.put, List.setIfInBounds_toArray, List.set_cons_zero, List.set_cons_succ, i64_w, i32_w]
               rfl
              refine take_ (i := 1) (N := some 65) (v := ?_) (a' := ?_) #[true, true, true, true, false, true, false, false, false, false, false, false, false] rfl rfl (take_ofW HT_.out HW_.out (by kernel_rfl)) (fun _ _ _ h => h) (Or.inl ⟨by rfl, ?_⟩) hHeld ?_ ?_
              rotate_left
              ·
               rintro w' ⟨s0, s1, s2, s3, s4, s5, s6, s7, s8, s9⟩
               go_simp
               with_reducible rfl
              rotate_left
              ·
               simp only [Act.put, List.setIfInBounds_toArray, List.set_cons_zero, List.set_cons_succ, i64_w, i32_w]
               rfl
              refine take_ (i := 4) (N := some 68) (v := ?_) (a' := ?_) #[true, true, true, true, true, true, false, false, false, false, false, false, false] rfl rfl (take_ofW HT_.out HW_.out (by kernel_rfl)) (fun _ _ _ h => h) (Or.inl ⟨by rfl, ?_⟩) hHeld ?_ ?_
              rotate_left
              ·
               rintro w' ⟨s0, s1, s2, s3, s4, s5, s6, s7, s8, s9⟩
               go_simp
               with_reducible rfl
              rotate_left
              ·
               simp only [Act.put, List.setIfInBounds_toArray, List.set_cons_zero, List.set_cons_succ, i64_w, i32_w]
               rfl
              refine pure_ (i := 6) (N := some 70) (v := ?_) (a' := ?_) #[true, true, true, true, true, true, true, false, false, false, false, false, false] rfl rfl (any_of HT_.out (by kernel_rfl)) (fun _ _ _ h => h) (Or.inl ⟨by rfl, ?_⟩) ?_ ?_
              rotate_left
              ·
               intro w'
               go_simp
               with_reducible rfl
              rotate_left
              ·
               simp only [Act.put, List.setIfInBounds_toArray, List.set_cons_zero, List.set_cons_succ, i64_w, i32_w]
               rfl
              refine pure_ (i := 7) (N := some 71) (v := ?_) (a' := ?_) #[true, true, true, true, true, true, true, true, false, false, false, false, false] rfl rfl (any_of HT_.out (by kernel_rfl)) (fun _ _ _ h => h) (Or.inl ⟨by rfl, ?_⟩) ?_ ?_
              rotate_left
              ·
               intro w'
               go_simp
               with_reducible rfl
              rotate_left
              ·
               simp only [Act.put, List.setIfInBounds_toArray, List.set_cons_zero, List.set_cons_succ, i64_w, i32_w]
               rfl
              refine take_ (i := 8) (N := some 72) (v := ?_) (a' := ?_) #[true, true, true, true, true, true, true, true, true, false, false, false, false] rfl rfl (take_ofW HT_.out HW_.out (by kernel_rfl)) (fun _ _ _ h => h) (Or.inl ⟨by rfl, ?_⟩) hHeld ?_ ?_
              rotate_left
              ·
               rintro w' ⟨s0, s1, s2, s3, s4, s5, s6, s7, s8, s9⟩
               go_simp
               with_reducible rfl
              rotate_left
              ·
               simp only [Act.put, List.setIfInBounds_toArray, List.set_cons_zero, List.set_cons_succ, i64_w, i32_w]
               rfl
              refine pure_ (i := 9) (N := some 73) (v := ?_) (a' := ?_) #[true, true, true, true, true, true, true, true, true, true, false, false, false] rfl rfl (any_of HT_.out (by kernel_rfl)) (fun _ _ _ h => h) (Or.inl ⟨by rfl, ?_⟩) ?_ ?_
              rotate_left
              ·
               intro w'
               go_simp
               with_reducible rfl
              rotate_left
              ·
               simp only [Act.put, List.setIfInBounds_toArray, List.set_cons_zero, List.set_cons_succ, i64_w, i32_w]
               rfl
              refine pure_ (i := 10) (N := some 74) (v := ?_) (a' := ?_) #[true, true, true, true, true, true, true, true, true, true, true, false, false] rfl rfl (any_of HT_.out (by kernel_rfl)) (fun _ _ _ h => h) (Or.inl ⟨by rfl, ?_⟩) ?_ ?_
              rotate_left
              ·
               intro w'
               go_simp
               with_reducible rfl
              rotate_left
              ·
               simp only [Act.put, List.setIfInBounds_toArray, List.set_cons_zero, List.set_cons_succ, i64_w, i32_w]
               rfl
              refine pure_ (i := 11) (N := some 75) (v := ?_) (a' := ?_) #[true, true, true, true, true, true, true, true, true, true, true, true, false] rfl rfl (any_of HT_.out (by kernel_rfl)) (fun _ _ _ h => h) (Or.inl ⟨by rfl, ?_⟩) ?_ ?_
              rotate_left
              ·
               intro w'
               go_simp
               with_reducible rfl
              rotate_left
              ·
               simp only [Act.put, List.setIfInBounds_toArray, List.set_cons_zero, List.set_cons_succ, i64_w, i32_w]
               rfl
              refine last_ (i := 12) (N := none) #[true, true, true, true, true, true, true, true, true, true, true, true, true] rfl rfl (one_of HT_.out (by kernel_rfl)) (by decide) (fun K hK => ?_)
              refine skip_ (w1 := ?_) (by rfl) rfl ?_ ?_
              rotate_left
              ·
               go_simp
               rfl
              refine hK.out _ _ ?_
              clear hK K
              refine done_ (done_of HT_.out (by kernel_rfl)) ?_
              have n0_ : Aside0 (Kd.R k34 34 (w74.setCell ⟨go32, (a1 : Int).toNat * 6 + 2, none⟩ (.int .i64 (wrap64 (((rd_T34 y327 a1).f2) + 1)))) w.heap.size (fun _ => True) (.slice (some ⟨go32, 0, none⟩) y327.length co71) y331) := ⟨by (with_reducible repeat (first | apply Kd.R_alloc | apply Kd.R_drewN | apply Kd.R_drew)); exact HQ75.out⟩
              have n1_ : Aside0 ((w74.setCell ⟨go32, (a1 : Int).toNat * 6 + 2, none⟩ (.int .i64 (wrap64 (((rd_T34 y327 a1).f2) + 1)))).heap[gb316]? = some (.cells #[.int .i64 a0_0, .int .i64 a0_1, .int .i64 a0_2, .slice A0_3 l0_3.length c0_3] 26 (0, 0))) := ⟨by (with_reducible repeat (first | apply zq68_1 | apply zq68_2 | apply zq68_3)); refine blk_far ?_ (by have h_ := Kd.R_ne HO329.out BK316.out (by decide); intro e_; exact h_ (by rw [e_]; rfl)) _; (with_reducible repeat (first | apply zq68_1 | apply zq68_2 | apply zq68_3)); exact BK316.out⟩
              have n2_ : Aside0 ((w74.setCell ⟨go32, (a1 : Int).toNat * 6 + 2, none⟩ (.int .i64 (wrap64 (((rd_T34 y327 a1).f2) + 1)))).heap[gb319]? = some (.cells #[.int .i64 a0_0, .int .i64 a0_1, .int .i64 a0_2, .slice A0_3 y320.length c0_3] 26 (0, 0))) := ⟨by (with_reducible repeat (first | apply zq68_1 | apply zq68_2 | apply zq68_3)); refine blk_far ?_ (by have h_ := Kd.R_ne HO329.out BK319.out (by decide); intro e_; exact h_ (by rw [e_]; rfl)) _; (with_reducible repeat (first | apply zq68_1 | apply zq68_2 | apply zq68_3)); exact BK319.out⟩
              have n3_ : Aside0 ((w74.setCell ⟨go32, (a1 : Int).toNat * 6 + 2, none⟩ (.int .i64 (wrap64 (((rd_T34 y327 a1).f2) + 1)))).heap[gb324]? = some (.cells #[.int .i64 (wrap64 (a0_0 + 1)), .int .i64 a0_1, .int .i64 a0_2, .slice A0_3 l0_3.length c0_3] 26 (0, 0))) := ⟨by (with_reducible repeat (first | apply zq68_1 | apply zq68_2 | apply zq68_3)); refine blk_far ?_ (by have h_ := Kd.R_ne HO329.out BK324.out (by decide); intro e_; exact h_ (by rw [e_]; rfl)) _; (with_reducible repeat (first | apply zq68_1 | apply zq68_2 | apply zq68_3)); exact BK324.out⟩
              have n4_ : Aside0 ((w74.setCell ⟨go32, (a1 : Int).toNat * 6 + 2, none⟩ (.int .i64 (wrap64 (((rd_T34 y327 a1).f2) + 1)))).heap[gb325]? = some (.cells #[.int .i64 a0_0, .int .i64 0, .int .i64 a0_2, .slice A0_3 l0_3.length c0_3] 26 (0, 0))) := ⟨by (with_reducible repeat (first | apply zq68_1 | apply zq68_2 | apply zq68_3)); refine blk_far ?_ (by have h_ := Kd.R_ne HO329.out BK325.out (by decide); intro e_; exact h_ (by rw [e_]; rfl)) _; (with_reducible repeat (first | apply zq68_1 | apply zq68_2 | apply zq68_3)); exact BK325.out⟩
              have n5_ : Aside0 ((w74.setCell ⟨go32, (a1 : Int).toNat * 6 + 2, none⟩ (.int .i64 (wrap64 (((rd_T34 y327 a1).f2) + 1)))).heap[gb326]? = some (.cells #[.int .i64 a0_0, .int .i64 a0_1, .int .i64 a0_2, .slice (some ⟨go32, 0, none⟩) y327.length co71] 26 (0, 0))) := ⟨by (with_reducible repeat (first | apply zq68_1 | apply zq68_2 | apply zq68_3)); refine blk_far ?_ (by have h_ := Kd.R_ne HO329.out BK326.out (by decide); intro e_; exact h_ (by rw [e_]; rfl)) _; (with_reducible repeat (first | apply zq68_1 | apply zq68_2 | apply zq68_3)); exact BK326.out⟩
              have n6_ : Aside0 (Below w.heap.size w (w74.setCell ⟨go32, (a1 : Int).toNat * 6 + 2, none⟩ (.int .i64 (wrap64 (((rd_T34 y327 a1).f2) + 1))))) := ⟨by repeat (first | (with_reducible first | exact HB.out | apply zq68_7 | apply zq68_6 | apply zq68_8 | refine below_set ?_ GB32.out | refine below_set ?_ GE316.out | refine below_set ?_ GE319.out | refine below_set ?_ GE324.out | refine below_set ?_ GE325.out | refine below_set ?_ GE326.out) | exact HB.out)⟩
              (try clear HO329)
              (try clear BK316)
              (try clear BK319)
              (try clear BK324)
              (try clear BK325)
              (try clear BK326)
              (try clear HB)
              generalize (w74.setCell ⟨go32, (a1 : Int).toNat * 6 + 2, none⟩ (.int .i64 (wrap64 (((rd_T34 y327 a1).f2) + 1)))) = w76 at n0_ n1_ n2_ n3_ n4_ n5_ n6_ ⊢
              have HO329 := n0_
              have BK316 := n1_
              have BK319 := n2_
              have BK324 := n3_
              have BK325 := n4_
              have BK326 := n5_
              have HB := n6_
              clear n0_ n1_ n2_ n3_ n4_ n5_ n6_
              have hcz77_0 : w76.cell? ⟨gb316, 0, none⟩ = some (.int .i64 a0_0) := (zq68_5 BK316.out 0).trans rfl
              have hcz77_1 : w76.cell? ⟨gb316, 1, none⟩ = some (.int .i64 a0_1) := (zq68_5 BK316.out 1).trans rfl
              have hcz77_2 : w76.cell? ⟨gb316, 2, none⟩ = some (.int .i64 a0_2) := (zq68_5 BK316.out 2).trans rfl
              have hcz77_3 : w76.cell? ⟨gb316, 3, none⟩ = some (.slice A0_3 l0_3.length c0_3) := (zq68_5 BK316.out 3).trans rfl
              have hfz77_0 := zq68_4 BK316.out 0
              have hfz77_1 := zq68_4 BK316.out 1
              have hfz77_2 := zq68_4 BK316.out 2
              have hfz77_3 := zq68_4 BK316.out 3
              try go_wp2_with (first | ((with_reducible refine gate_dst (N := 10) rfl ?_); (try (refine gate_guard (by rfl) ?_; dsimp only)); refine box_event ?hg (N := 10) ?hd (cs := #[.int .i64 0, .int .i64 0, .int .i64 0, .slice none 0 0]) (t := 26) ?hr ?_; (case hd => rfl); (case hg => rfl); (case hr => first | (go_simp; done) | (go_simp; rfl)); intro gb332 hg w78 hbox hb; have n0_ := zq68_9 (Kd.R_below (by (with_reducible repeat (first | apply Kd.R_alloc | apply Kd.R_drewN | apply Kd.R_drew)); exact HO329.out) hb); have n1_ := zq68_9 (blk_below (g := gb316) (o := .cells #[.int .i64 a0_0, .int .i64 a0_1, .int .i64 a0_2, .slice A0_3 l0_3.length c0_3] 26 (0, 0)) (by (with_reducible repeat (first | apply zq68_1 | apply zq68_2 | apply zq68_3)); exact BK316.out) hb); have n2_ := zq68_9 (blk_below (g := gb319) (o := .cells #[.int .i64 a0_0, .int .i64 a0_1, .int .i64 a0_2, .slice A0_3 y320.length c0_3] 26 (0, 0)) (by (with_reducible repeat (first | apply zq68_1 | apply zq68_2 | apply zq68_3)); exact BK319.out) hb); have n3_ := zq68_9 (blk_below (g := gb324) (o := .cells #[.int .i64 (wrap64 (a0_0 + 1)), .int .i64 a0_1, .int .i64 a0_2, .slice A0_3 l0_3.length c0_3] 26 (0, 0)) (by (with_reducible repeat (first | apply zq68_1 | apply zq68_2 | apply zq68_3)); exact BK324.out) hb); have n4_ := zq68_9 (blk_below (g := gb325) (o := .cells #[.int .i64 a0_0, .int .i64 0, .int .i64 a0_2, .slice A0_3 l0_3.length c0_3] 26 (0, 0)) (by (with_reducible repeat (first | apply zq68_1 | apply zq68_2 | apply zq68_3)); exact BK325.out) hb); have n5_ := zq68_9 (blk_below (g := gb326) (o := .cells #[.int .i64 a0_0, .int .i64 a0_1, .int .i64 a0_2, .slice (some ⟨go32, 0, none⟩) y327.length co71] 26 (0, 0)) (by (with_reducible repeat (first | apply zq68_1 | apply zq68_2 | apply zq68_3)); exact BK326.out) hb); have n6_ := zq68_9 (below_step (by repeat (first | (with_reducible first | exact HB.out | apply zq68_7 | apply zq68_6 | apply zq68_8 | refine below_set ?_ GE316.out | refine below_set ?_ GE319.out | refine below_set ?_ GE324.out | refine below_set ?_ GE325.out | refine below_set ?_ GE326.out) | exact HB.out)) hb); have n7_ := zq68_9 (hbox); have n8_ := zq68_9 ((by rw [hg]; exact (below_size (by repeat (first | (with_reducible first | exact HB.out | apply zq68_7 | apply zq68_6 | apply zq68_8 | refine below_set ?_ GE316.out | refine below_set ?_ GE319.out | refine below_set ?_ GE324.out | refine below_set ?_ GE325.out | refine below_set ?_ GE326.out) | exact HB.out))) : w.heap.size ≤ gb332)); have n9_ := zq68_9 ((by rw [hg]; exact (below_size (by repeat (first | (with_reducible first | exact HB.out | apply zq68_7 | apply zq68_6 | apply zq68_8 | refine below_set ?_ GE316.out | refine below_set ?_ GE319.out | refine below_set ?_ GE324.out | refine below_set ?_ GE325.out | refine below_set ?_ GE326.out) | exact HB.out))) : w.heap.size ≤ gb332)); have n10_ := zq68_9 ((by rw [hg]; exact Nat.ne_of_lt (blk_lt (g := gb316) (o := .cells #[.int .i64 a0_0, .int .i64 a0_1, .int .i64 a0_2, .slice A0_3 l0_3.length c0_3] 26 (0, 0)) (by (with_reducible repeat (first | apply zq68_1 | apply zq68_2 | apply zq68_3)); exact BK316.out)) : gb316 ≠ gb332)); have n11_ := zq68_9 ((by rw [hg]; exact Nat.ne_of_gt (blk_lt (g := gb316) (o := .cells #[.int .i64 a0_0, .int .i64 a0_1, .int .i64 a0_2, .slice A0_3 l0_3.length c0_3] 26 (0, 0)) (by (with_reducible repeat (first | apply zq68_1 | apply zq68_2 | apply zq68_3)); exact BK316.out)) : gb332 ≠ gb316)); have n12_ := zq68_9 ((by rw [hg]; exact Nat.ne_of_lt (blk_lt (g := gb319) (o := .cells #[.int .i64 a0_0, .int .i64 a0_1, .int .i64 a0_2, .slice A0_3 y320.length c0_3] 26 (0, 0)) (by (with_reducible repeat (first | apply zq68_1 | apply zq68_2 | apply zq68_3)); exact BK319.out)) : gb319 ≠ gb332)); have n13_ := zq68_9 ((by rw [hg]; exact Nat.ne_of_gt (blk_lt (g := gb319) (o := .cells #[.int .i64 a0_0, .int .i64 a0_1, .int .i64 a0_2, .slice A0_3 y320.length c0_3] 26 (0, 0)) (by (with_reducible repeat (first | apply zq68_1 | apply zq68_2 | apply zq68_3)); exact BK319.out)) : gb332 ≠ gb319)); have n14_ := zq68_9 ((by rw [hg]; exact Nat.ne_of_lt (blk_lt (g := gb324) (o := .cells #[.int .i64 (wrap64 (a0_0 + 1)), .int .i64 a0_1, .int .i64 a0_2, .slice A0_3 l0_3.length c0_3] 26 (0, 0)) (by (with_reducible repeat (first | apply zq68_1 | apply zq68_2 | apply zq68_3)); exact BK324.out)) : gb324 ≠ gb332)); have n15_ := zq68_9 ((by rw [hg]; exact Nat.ne_of_gt (blk_lt (g := gb324) (o := .cells #[.int .i64 (wrap64 (a0_0 + 1)), .int .i64 a0_1, .int .i64 a0_2, .slice A0_3 l0_3.length c0_3] 26 (0, 0)) (by (with_reducible repeat (first | apply zq68_1 | apply zq68_2 | apply zq68_3)); exact BK324.out)) : gb332 ≠ gb324)); have n16_ := zq68_9 ((by rw [hg]; exact Nat.ne_of_lt (blk_lt (g := gb325) (o := .cells #[.int .i64 a0_0, .int .i64 0, .int .i64 a0_2, .slice A0_3 l0_3.length c0_3] 26 (0, 0)) (by (with_reducible repeat (first | apply zq68_1 | apply zq68_2 | apply zq68_3)); exact BK325.out)) : gb325 ≠ gb332)); have n17_ := zq68_9 ((by rw [hg]; exact Nat.ne_of_gt (blk_lt (g := gb325) (o := .cells #[.int .i64 a0_0, .int .i64 0, .int .i64 a0_2, .slice A0_3 l0_3.length c0_3] 26 (0, 0)) (by (with_reducible repeat (first | apply zq68_1 | apply zq68_2 | apply zq68_3)); exact BK325.out)) : gb332 ≠ gb325)); have n18_ := zq68_9 ((by rw [hg]; exact Nat.ne_of_lt (blk_lt (g := gb326) (o := .cells #[.int .i64 a0_0, .int .i64 a0_1, .int .i64 a0_2, .slice (some ⟨go32, 0, none⟩) y327.length co71] 26 (0, 0)) (by (with_reducible repeat (first | apply zq68_1 | apply zq68_2 | apply zq68_3)); exact BK326.out)) : gb326 ≠ gb332)); have n19_ := zq68_9 ((by rw [hg]; exact Nat.ne_of_gt (blk_lt (g := gb326) (o := .cells #[.int .i64 a0_0, .int .i64 a0_1, .int .i64 a0_2, .slice (some ⟨go32, 0, none⟩) y327.length co71] 26 (0, 0)) (by (with_reducible repeat (first | apply zq68_1 | apply zq68_2 | apply zq68_3)); exact BK326.out)) : gb332 ≠ gb326)); clear HO329; clear BK316; clear BK319; clear BK324; clear BK325; clear BK326; clear HB; have HO329 := n0_; have BK316 := n1_; have BK319 := n2_; have BK324 := n3_; have BK325 := n4_; have BK326 := n5_; have HB := n6_; have BK332 := n7_; have GW332 := n8_; have GE332 := n9_; have NB316_332 := n10_; have NB332_316 := n11_; have NB319_332 := n12_; have NB332_319 := n13_; have NB324_332 := n14_; have NB332_324 := n15_; have NB325_332 := n16_; have NB332_325 := n17_; have NB326_332 := n18_; have NB332_326 := n19_; clear n0_ n1_ n2_ n3_ n4_ n5_ n6_ n7_ n8_ n9_ n10_ n11_ n12_ n13_ n14_ n15_ n16_ n17_ n18_ n19_; clear hb hbox hg; have hnb79 := NB332_316.out; have hnc79 := NB316_332.out; have hnb80 := NB332_319.out; have hnc80 := NB319_332.out; have hnb81 := NB332_324.out; have hnc81 := NB324_332.out; have hnb82 := NB332_325.out; have hnc82 := NB325_332.out; have hnb83 := NB332_326.out; have hnc83 := NB326_332.out; have hcz84_0 : w78.cell? ⟨gb332, 0, none⟩ = some (.int .i64 0) := (zq68_5 BK332.out 0).trans rfl; have hcz84_1 : w78.cell? ⟨gb332, 1, none⟩ = some (.int .i64 0) := (zq68_5 BK332.out 1).trans rfl; have hcz84_2 : w78.cell? ⟨gb332, 2, none⟩ = some (.int .i64 0) := (zq68_5 BK332.out 2).trans rfl; have hcz84_3 : w78.cell? ⟨gb332, 3, none⟩ = some (.slice none 0 0) := (zq68_5 BK332.out 3).trans rfl; have hfz84_0 := zq68_4 BK332.out 0; have hfz84_1 := zq68_4 BK332.out 1; have hfz84_2 := zq68_4 BK332.out 2; have hfz84_3 := zq68_4 BK332.out 3; have hcz85_0 : w78.cell? ⟨gb316, 0, none⟩ = some (.int .i64 a0_0) := (zq68_5 BK316.out 0).trans rfl; have hcz85_1 : w78.cell? ⟨gb316, 1, none⟩ = some (.int .i64 a0_1) := (zq68_5 BK316.out 1).trans rfl; have hcz85_2 : w78.cell? ⟨gb316, 2, none⟩ = some (.int .i64 a0_2) := (zq68_5 BK316.out 2).trans rfl; have hcz85_3 : w78.cell? ⟨gb316, 3, none⟩ = some (.slice A0_3 l0_3.length c0_3) := (zq68_5 BK316.out 3).trans rfl; have hfz85_0 := zq68_4 BK316.out 0; have hfz85_1 := zq68_4 BK316.out 1; have hfz85_2 := zq68_4 BK316.out 2; have hfz85_3 := zq68_4 BK316.out 3) | ((with_reducible refine gate_builtin (b := .append) (xs := #[.const (.slice none 0 0), .tmp 78]) rfl ?_); (try (refine gate_guard (by rfl) ?_; dsimp only)); at_builtin; refine Kd.R_append_rows k34 (w0 := w) w.heap.size rfl (.const (.slice none 0 0)) (.tmp 78) 24 34 (.agg #[(.int .i64 0), (.int .i64 0), (.int .i64 0), (.int .i64 0), (.int .i64 0), (.int .i64 0)]) 48 rfl Tryd.underlying24 info34 rfl (by decide) (by omega) (.slice none 0 0) ([] : List (S34)) l0_3 _ _ _ (fun k_ => some k_ ≠ (.slice (some ⟨go32, 0, none⟩) y327.length co71 : Value).ownBlock) (fun _ => False) rfl rfl ?aO ?aR (fun _ _ h => h) (fun _ h => h.elim) ?aF ?aB ?aS ?aL ?_; (case aR => exact Kd.C_below HR0_3.out (by repeat (first | (with_reducible first | exact HB.out | apply zq68_7 | apply zq68_6 | apply zq68_8 | refine below_set ?_ GE316.out | refine below_set ?_ GE319.out | refine below_set ?_ GE324.out | refine below_set ?_ GE325.out | refine below_set ?_ GE326.out | refine below_set ?_ GE332.out) | exact HB.out))); (case aB => exact (by repeat (first | (with_reducible first | exact HB.out | apply zq68_7 | apply zq68_6 | apply zq68_8 | refine below_set ?_ GE316.out | refine below_set ?_ GE319.out | refine below_set ?_ GE324.out | refine below_set ?_ GE325.out | refine below_set ?_ GE326.out | refine below_set ?_ GE332.out) | exact HB.out))); (case aF => exact (fun k_ hk => Kd.fresh' (Kd.R_lt (by (with_reducible repeat (first | apply Kd.R_alloc | apply Kd.R_drewN | apply Kd.R_drew)); exact (Kd.R_mono (Kd.R_far (p := ⟨gb332, 3, none⟩) (Kd.R_far (p := ⟨gb332, 2, none⟩) (Kd.R_far (p := ⟨gb332, 1, none⟩) (Kd.R_far (p := ⟨gb332, 0, none⟩) (Kd.R_types HO329.out BK332.out (by decide)) (fun _ hk => hk.2) (.int .i64 a0_0)) (fun _ hk => hk.2) (.int .i64 a0_1)) (fun _ hk => hk.2) (.int .i64 a0_2)) (fun _ hk => hk.2) (.slice A0_3 l0_3.length c0_3)) (fun _ h_ => h_.1)))) k_ hk)); (case aO => exact ((Kd.R_nil _ _ _ _ (fun k_ => some k_ ≠ (.slice (some ⟨go32, 0, none⟩) y327.length co71 : Value).ownBlock)))); (case aS => exact (below_size (by repeat (first | (with_reducible first | exact HB.out | apply zq68_7 | apply zq68_6 | apply zq68_8 | refine below_set ?_ GE316.out | refine below_set ?_ GE319.out | refine below_set ?_ GE324.out | refine below_set ?_ GE325.out | refine below_set ?_ GE326.out | refine below_set ?_ GE332.out) | exact HB.out)))); (case aL => have := LMc29.out; omega); intro v334 w86 ho hb hg hat; rw [← Ny333.out] at ho; have n0_ := zq68_9 (blk_grown (g := gb316) (o := .cells #[.int .i64 a0_0, .int .i64 a0_1, .int .i64 a0_2, .slice A0_3 l0_3.length c0_3] 26 (0, 0)) (by (with_reducible repeat (first | apply zq68_1 | apply zq68_2 | apply zq68_3)); refine blk_far ?_ NB316_332.out _; (with_reducible repeat (first | apply zq68_1 | apply zq68_2 | apply zq68_3)); refine blk_far ?_ NB316_332.out _; (with_reducible repeat (first | apply zq68_1 | apply zq68_2 | apply zq68_3)); refine blk_far ?_ NB316_332.out _; (with_reducible repeat (first | apply zq68_1 | apply zq68_2 | apply zq68_3)); refine blk_far ?_ NB316_332.out _; (with_reducible repeat (first | apply zq68_1 | apply zq68_2 | apply zq68_3)); exact BK316.out) hg (by simp [Value.ownBlock])); have n1_ := zq68_9 (blk_grown (g := gb319) (o := .cells #[.int .i64 a0_0, .int .i64 a0_1, .int .i64 a0_2, .slice A0_3 y320.length c0_3] 26 (0, 0)) (by (with_reducible repeat (first | apply zq68_1 | apply zq68_2 | apply zq68_3)); refine blk_far ?_ NB319_332.out _; (with_reducible repeat (first | apply zq68_1 | apply zq68_2 | apply zq68_3)); refine blk_far ?_ NB319_332.out _; (with_reducible repeat (first | apply zq68_1 | apply zq68_2 | apply zq68_3)); refine blk_far ?_ NB319_332.out _; (with_reducible repeat (first | apply zq68_1 | apply zq68_2 | apply zq68_3)); refine blk_far ?_ NB319_332.out _; (with_reducible repeat (first | apply zq68_1 | apply zq68_2 | apply zq68_3)); exact BK319.out) hg (by simp [Value.ownBlock])); have n2_ := zq68_9 (blk_grown (g := gb324) (o := .cells #[.int .i64 (wrap64 (a0_0 + 1)), .int .i64 a0_1, .int .i64 a0_2, .slice A0_3 l0_3.length c0_3] 26 (0, 0)) (by (with_reducible repeat (first | apply zq68_1 | apply zq68_2 | apply zq68_3)); refine blk_far ?_ NB324_332.out _; (with_reducible repeat (first | apply zq68_1 | apply zq68_2 | apply zq68_3)); refine blk_far ?_ NB324_332.out _; (with_reducible repeat (first | apply zq68_1 | apply zq68_2 | apply zq68_3)); refine blk_far ?_ NB324_332.out _; (with_reducible repeat (first | apply zq68_1 | apply zq68_2 | apply zq68_3)); refine blk_far ?_ NB324_332.out _; (with_reducible repeat (first | apply zq68_1 | apply zq68_2 | apply zq68_3)); exact BK324.out) hg (by simp [Value.ownBlock])); have n3_ := zq68_9 (blk_grown (g := gb325) (o := .cells #[.int .i64 a0_0, .int .i64 0, .int .i64 a0_2, .slice A0_3 l0_3.length c0_3] 26 (0, 0)) (by (with_reducible repeat (first | apply zq68_1 | apply zq68_2 | apply zq68_3)); refine blk_far ?_ NB325_332.out _; (with_reducible repeat (first | apply zq68_1 | apply zq68_2 | apply zq68_3)); refine blk_far ?_ NB325_332.out _; (with_reducible repeat (first | apply zq68_1 | apply zq68_2 | apply zq68_3)); refine blk_far ?_ NB325_332.out _; (with_reducible repeat (first | apply zq68_1 | apply zq68_2 | apply zq68_3)); refine blk_far ?_ NB325_332.out _; (with_reducible repeat (first | apply zq68_1 | apply zq68_2 | apply zq68_3)); exact BK325.out) hg (by simp [Value.ownBlock])); have n4_ := zq68_9 (blk_grown (g := gb326) (o := .cells #[.int .i64 a0_0, .int .i64 a0_1, .int .i64 a0_2, .slice (some ⟨go32, 0, none⟩) y327.length co71] 26 (0, 0)) (by (with_reducible repeat (first | apply zq68_1 | apply zq68_2 | apply zq68_3)); refine blk_far ?_ NB326_332.out _; (with_reducible repeat (first | apply zq68_1 | apply zq68_2 | apply zq68_3)); refine blk_far ?_ NB326_332.out _; (with_reducible repeat (first | apply zq68_1 | apply zq68_2 | apply zq68_3)); refine blk_far ?_ NB326_332.out _; (with_reducible repeat (first | apply zq68_1 | apply zq68_2 | apply zq68_3)); refine blk_far ?_ NB326_332.out _; (with_reducible repeat (first | apply zq68_1 | apply zq68_2 | apply zq68_3)); exact BK326.out) hg (by simp [Value.ownBlock])); have n5_ := zq68_9 (Kd.R_after (Kd.R_apart_nil (by (with_reducible repeat (first | apply Kd.R_alloc | apply Kd.R_drewN | apply Kd.R_drew)); exact (Kd.R_mono (Kd.R_far (p := ⟨gb332, 3, none⟩) (Kd.R_far (p := ⟨gb332, 2, none⟩) (Kd.R_far (p := ⟨gb332, 1, none⟩) (Kd.R_far (p := ⟨gb332, 0, none⟩) (Kd.R_types HO329.out BK332.out (by decide)) (fun _ hk => hk.2) (.int .i64 a0_0)) (fun _ hk => hk.2) (.int .i64 a0_1)) (fun _ hk => hk.2) (.int .i64 a0_2)) (fun _ hk => hk.2) (.slice A0_3 l0_3.length c0_3)) (fun _ h_ => h_.1)))) hg hat); have n6_ := zq68_9 (blk_grown (g := gb332) (o := .cells #[.int .i64 a0_0, .int .i64 a0_1, .int .i64 a0_2, .slice A0_3 l0_3.length c0_3] 26 (0, 0)) (by (with_reducible repeat (first | apply zq68_1 | apply zq68_2 | apply zq68_3)); refine blk_put (cs := #[.int .i64 a0_0, .int .i64 a0_1, .int .i64 a0_2, .slice none 0 0]) ?_ 3 _ rfl; (with_reducible repeat (first | apply zq68_1 | apply zq68_2 | apply zq68_3)); refine blk_put (cs := #[.int .i64 a0_0, .int .i64 a0_1, .int .i64 0, .slice none 0 0]) ?_ 2 _ rfl; (with_reducible repeat (first | apply zq68_1 | apply zq68_2 | apply zq68_3)); refine blk_put (cs := #[.int .i64 a0_0, .int .i64 0, .int .i64 0, .slice none 0 0]) ?_ 1 _ rfl; (with_reducible repeat (first | apply zq68_1 | apply zq68_2 | apply zq68_3)); refine blk_put (cs := #[.int .i64 0, .int .i64 0, .int .i64 0, .slice none 0 0]) ?_ 0 _ rfl; (with_reducible repeat (first | apply zq68_1 | apply zq68_2 | apply zq68_3)); exact BK332.out) hg (by simp [Value.ownBlock])); have n7_ := zq68_9 (hb); have n8_ := zq68_9 (ho); clear BK316; clear BK319; clear BK324; clear BK325; clear BK326; clear HO329; clear BK332; clear HB; have BK316 := n0_; have BK319 := n1_; have BK324 := n2_; have BK325 := n3_; have BK326 := n4_; have HO329 := n5_; have BK332 := n6_; have HB := n7_; have HO335 := n8_; clear n0_ n1_ n2_ n3_ n4_ n5_ n6_ n7_ n8_; clear ho hb hg hat; obtain ⟨Ao87, co87, eo87⟩ := Kd.R_slice HO335.out; subst eo87; have hcz88_0 : w86.cell? ⟨gb332, 0, none⟩ = some (.int .i64 a0_0) := (zq68_5 BK332.out 0).trans rfl; have hcz88_1 : w86.cell? ⟨gb332, 1, none⟩ = some (.int .i64 a0_1) := (zq68_5 BK332.out 1).trans rfl; have hcz88_2 : w86.cell? ⟨gb332, 2, none⟩ = some (.int .i64 a0_2) := (zq68_5 BK332.out 2).trans rfl; have hcz88_3 : w86.cell? ⟨gb332, 3, none⟩ = some (.slice A0_3 l0_3.length c0_3) := (zq68_5 BK332.out 3).trans rfl; have hfz88_0 := zq68_4 BK332.out 0; have hfz88_1 := zq68_4 BK332.out 1; have hfz88_2 := zq68_4 BK332.out 2; have hfz88_3 := zq68_4 BK332.out 3))
              have n0_ : Aside0 (Kd.R k34 34 (w86.setCell ⟨gb332, 3, none⟩ (.slice Ao87 y333.length co87)) w.heap.size (fun k_ => some k_ ≠ (.slice Ao87 y333.length co87 : Value).ownBlock) (.slice (some ⟨go32, 0, none⟩) y327.length co71) y331) := ⟨by (with_reducible repeat (first | apply Kd.R_alloc | apply Kd.R_drewN | apply Kd.R_drew)); exact Kd.R_mono (Kd.R_far (p := ⟨gb332, 3, none⟩) (Kd.R_types HO329.out BK332.out (by decide)) (fun _ hk => hk.2) (.slice Ao87 y333.length co87)) (fun _ hk => hk.1.2)⟩
              have n1_ : Aside0 (Kd.R k34 34 (w86.setCell ⟨gb332, 3, none⟩ (.slice Ao87 y333.length co87)) w.heap.size (fun k_ => some k_ ≠ (.slice (some ⟨go32, 0, none⟩) y327.length co71 : Value).ownBlock) (.slice Ao87 y333.length co87) y333) := ⟨by (with_reducible repeat (first | apply Kd.R_alloc | apply Kd.R_drewN | apply Kd.R_drew)); exact Kd.R_mono (Kd.R_far (p := ⟨gb332, 3, none⟩) (Kd.R_types HO335.out BK332.out (by decide)) (fun _ hk => hk.2) (.slice Ao87 y333.length co87)) (fun _ hk => hk.1)⟩
              have n2_ : Aside0 ((w86.setCell ⟨gb332, 3, none⟩ (.slice Ao87 y333.length co87)).heap[gb316]? = some (.cells #[.int .i64 a0_0, .int .i64 a0_1, .int .i64 a0_2, .slice A0_3 l0_3.length c0_3] 26 (0, 0))) := ⟨by (with_reducible repeat (first | apply zq68_1 | apply zq68_2 | apply zq68_3)); refine blk_far ?_ NB316_332.out _; (with_reducible repeat (first | apply zq68_1 | apply zq68_2 | apply zq68_3)); exact BK316.out⟩
              have n3_ : Aside0 ((w86.setCell ⟨gb332, 3, none⟩ (.slice Ao87 y333.length co87)).heap[gb319]? = some (.cells #[.int .i64 a0_0, .int .i64 a0_1, .int .i64 a0_2, .slice A0_3 y320.length c0_3] 26 (0, 0))) := ⟨by (with_reducible repeat (first | apply zq68_1 | apply zq68_2 | apply zq68_3)); refine blk_far ?_ NB319_332.out _; (with_reducible repeat (first | apply zq68_1 | apply zq68_2 | apply zq68_3)); exact BK319.out⟩
              have n4_ : Aside0 ((w86.setCell ⟨gb332, 3, none⟩ (.slice Ao87 y333.length co87)).heap[gb324]? = some (.cells #[.int .i64 (wrap64 (a0_0 + 1)), .int .i64 a0_1, .int .i64 a0_2, .slice A0_3 l0_3.length c0_3] 26 (0, 0))) := ⟨by (with_reducible repeat (first | apply zq68_1 | apply zq68_2 | apply zq68_3)); refine blk_far ?_ NB324_332.out _; (with_reducible repeat (first | apply zq68_1 | apply zq68_2 | apply zq68_3)); exact BK324.out⟩
              have n5_ : Aside0 ((w86.setCell ⟨gb332, 3, none⟩ (.slice Ao87 y333.length co87)).heap[gb325]? = some (.cells #[.int .i64 a0_0, .int .i64 0, .int .i64 a0_2, .slice A0_3 l0_3.length c0_3] 26 (0, 0))) := ⟨by (with_reducible repeat (first | apply zq68_1 | apply zq68_2 | apply zq68_3)); refine blk_far ?_ NB325_332.out _; (with_reducible repeat (first | apply zq68_1 | apply zq68_2 | apply zq68_3)); exact BK325.out⟩
              have n6_ : Aside0 ((w86.setCell ⟨gb332, 3, none⟩ (.slice Ao87 y333.length co87)).heap[gb326]? = some (.cells #[.int .i64 a0_0, .int .i64 a0_1, .int .i64 a0_2, .slice (some ⟨go32, 0, none⟩) y327.length co71] 26 (0, 0))) := ⟨by (with_reducible repeat (first | apply zq68_1 | apply zq68_2 | apply zq68_3)); refine blk_far ?_ NB326_332.out _; (with_reducible repeat (first | apply zq68_1 | apply zq68_2 | apply zq68_3)); exact BK326.out⟩
              have n7_ : Aside0 ((w86.setCell ⟨gb332, 3, none⟩ (.slice Ao87 y333.length co87)).heap[gb332]? = some (.cells #[.int .i64 a0_0, .int .i64 a0_1, .int .i64 a0_2, .slice Ao87 y333.length co87] 26 (0, 0))) := ⟨by (with_reducible repeat (first | apply zq68_1 | apply zq68_2 | apply zq68_3)); refine blk_put (cs := #[.int .i64 a0_0, .int .i64 a0_1, .int .i64 a0_2, .slice A0_3 l0_3.length c0_3]) ?_ 3 _ rfl; (with_reducible repeat (first | apply zq68_1 | apply zq68_2 | apply zq68_3)); exact BK332.out⟩
              have n8_ : Aside0 (Below w.heap.size w (w86.setCell ⟨gb332, 3, none⟩ (.slice Ao87 y333.length co87))) := ⟨by repeat (first | (with_reducible first | exact HB.out | apply zq68_7 | apply zq68_6 | apply zq68_8 | refine below_set ?_ GE316.out | refine below_set ?_ GE319.out | refine below_set ?_ GE324.out | refine below_set ?_ GE325.out | refine below_set ?_ GE326.out | refine below_set ?_ GE332.out) | exact HB.out)⟩
              (try clear HO329)
              (try clear HO335)
              (try clear BK316)
              (try clear BK319)
              (try clear BK324)
              (try clear BK325)
              (try clear BK326)
              (try clear BK332)
              (try clear HB)
              generalize (w86.setCell ⟨gb332, 3, none⟩ (.slice Ao87 y333.length co87)) = w89 at n0_ n1_ n2_ n3_ n4_ n5_ n6_ n7_ n8_ ⊢
              have HO329 := n0_
              have HO335 := n1_
              have BK316 := n2_
              have BK319 := n3_
              have BK324 := n4_
              have BK325 := n5_
              have BK326 := n6_
              have BK332 := n7_
              have HB := n8_
              clear n0_ n1_ n2_ n3_ n4_ n5_ n6_ n7_ n8_
              have n0_ := zq68_9 (Kd.R_drew HO329.out)
              have n1_ := zq68_9 (Kd.R_drew HO335.out)
              have n2_ := zq68_9 (zq68_2 BK316.out)
              have n3_ := zq68_9 (zq68_2 BK319.out)
              have n4_ := zq68_9 (zq68_2 BK324.out)
              have n5_ := zq68_9 (zq68_2 BK325.out)
              have n6_ := zq68_9 (zq68_2 BK326.out)
              have n7_ := zq68_9 (zq68_2 BK332.out)
              have n8_ := zq68_9 (zq68_8 HB.out)
              clear HO329
              clear HO335
              clear BK316
              clear BK319
              clear BK324
              clear BK325
              clear BK326
              clear BK332
              clear HB
              have HO329 := n0_
              have HO335 := n1_
              have BK316 := n2_
              have BK319 := n3_
              have BK324 := n4_
              have BK325 := n5_
              have BK326 := n6_
              have BK332 := n7_
              have HB := n8_
              clear n0_ n1_ n2_ n3_ n4_ n5_ n6_ n7_ n8_
              have p336 : 0 ≤ (a1 : Int) := of_decide_eq_true (by first | (with_reducible assumption) | assumption)
              have q336 : a1 < (y333.length : Int) := of_decide_eq_true (by first | (with_reducible assumption) | assumption)
              obtain ⟨ad336, e336, hx336_0, hx336_1, hx336_2, hx336_3, hx336_4, hx336_5⟩ := at_T34 (Kd.R_reads' HO335.out).2.2 a1 p336 q336
              cases e336
              replace p336 := eq_true p336
              replace q336 := eq_true q336
              have p34 : 0 ≤ (a1 : Int) := of_decide_eq_true (by first | (with_reducible assumption) | assumption)
              have q34 : (a1 : Int) < ((y333.length : Int) : Int) := of_decide_eq_true (by first | (with_reducible assumption) | assumption)
              obtain ⟨go34, co34, eo34, gb34, gl34, cl34, HG34⟩ := Kd.R_form HO335.out (by omega)
              (first | cases eo34 | (injection eo34 with ea_ en_ ec_; (first | subst ea_ | (injection ea_ with ea_; subst ea_)); subst ec_; clear en_))
              have GB34 := zq68_9 gb34
              have GG34 := zq68_9 HG34
              clear gb34 gl34 HG34
              (first | simp only [add_plain] at hx336_0 | skip)
              (first | simp only [add_plain] at hx336_1 | skip)
              (first | simp only [add_plain] at hx336_2 | skip)
              (first | simp only [add_plain] at hx336_3 | skip)
              (first | simp only [add_plain] at hx336_4 | skip)
              (first | simp only [add_plain] at hx336_5 | skip)
              obtain ⟨ce34, hcl34, hM34, hcc34, hfr34⟩ := Kd.R_elem HO335.out z34 (a1 : Int) p34 q34
              obtain rfl := k34_openM hM34
              have hx34_0 : World.cell? _ ⟨go34, (a1 : Int).toNat * 6, none⟩ = some (.int .i64 ((rd_T34 y333 a1).f0)) := hcc34 0 _ rfl
              have hx34_1 : World.cell? _ ⟨go34, (a1 : Int).toNat * 6 + 1, none⟩ = some (.int .i64 ((rd_T34 y333 a1).f1)) := hcc34 1 _ rfl
              have hx34_2 : World.cell? _ ⟨go34, (a1 : Int).toNat * 6 + 2, none⟩ = some (.int .i64 ((rd_T34 y333 a1).f2)) := hcc34 2 _ rfl
              have hx34_3 : World.cell? _ ⟨go34, (a1 : Int).toNat * 6 + 3, none⟩ = some (.int .i64 ((rd_T34 y333 a1).f3)) := hcc34 3 _ rfl
              have hx34_4 : World.cell? _ ⟨go34, (a1 : Int).toNat * 6 + 4, none⟩ = some (.int .i64 ((rd_T34 y333 a1).f4)) := hcc34 4 _ rfl
              have hx34_5 : World.cell? _ ⟨go34, (a1 : Int).toNat * 6 + 5, none⟩ = some (.int .i64 ((rd_T34 y333 a1).f5)) := hcc34 5 _ rfl
              have hf34_0 : World.frozen? _ ⟨go34, (a1 : Int).toNat * 6, none⟩ = false := hfr34 0
              have hf34_1 : World.frozen? _ ⟨go34, (a1 : Int).toNat * 6 + 1, none⟩ = false := hfr34 1
              have hf34_2 : World.frozen? _ ⟨go34, (a1 : Int).toNat * 6 + 2, none⟩ = false := hfr34 2
              have hf34_3 : World.frozen? _ ⟨go34, (a1 : Int).toNat * 6 + 3, none⟩ = false := hfr34 3
              have hf34_4 : World.frozen? _ ⟨go34, (a1 : Int).toNat * 6 + 4, none⟩ = false := hfr34 4
              have hf34_5 : World.frozen? _ ⟨go34, (a1 : Int).toNat * 6 + 5, none⟩ = false := hfr34 5
              clear hcl34 hcc34 hfr34 hM34
              replace p34 := eq_true p34
              replace q34 := eq_true q34
              obtain ⟨ce91, hcl91, hM91, hcc91, hfr91⟩ := Kd.R_elem HO335.out z34 (a1 : Int) (of_decide_eq_true (by first | (with_reducible assumption) | assumption)) (by have h_ : (a1 : Int) < ((y333.length : Int) : Int) := of_decide_eq_true (by first | (with_reducible assumption) | assumption); first | exact h_ | (have e_ := (Kd.R_reads' HO335.out).1; omega) | simpa using h_)
              obtain rfl := k34_openM hM91
              have HP91 := (Kd.R_seg HO335.out (a1 : Int) (of_decide_eq_true (by first | (with_reducible assumption) | assumption)) (by have h_ : (a1 : Int) < ((y333.length : Int) : Int) := of_decide_eq_true (by first | (with_reducible assumption) | assumption); first | exact h_ | (have e_ := (Kd.R_reads' HO335.out).1; omega) | simpa using h_) (seg := [.int .i64 (wrap64 (((rd_T34 y333 a1).f3) - 1))]) (j := 4) hcl91 hcc91 (show 5 ≤ 6 from by decide) (x' := (⟨(rd_T34 y333 a1).f0, (rd_T34 y333 a1).f1, (rd_T34 y333 a1).f2, (rd_T34 y333 a1).f3, wrap64 (((rd_T34 y333 a1).f3) - 1), (rd_T34 y333 a1).f5⟩ : S34)) (k34_mkM _ _ _ (⟨(rd_T34 y333 a1).f0, (rd_T34 y333 a1).f1, (rd_T34 y333 a1).f2, (rd_T34 y333 a1).f3, wrap64 (((rd_T34 y333 a1).f3) - 1), (rd_T34 y333 a1).f5⟩ : S34) ) (fun _ hk => hk)).1
              rw [← Ny337.out] at HP91
              have HQ91 := zq68_9 HP91
              clear hcl91 hcc91 hfr91 hM91 HP91
              refine start_ (n := 13) (S := fun w' => w'.cell? ⟨gb332, 0, none⟩ = some (.int .i64 a0_0) ∧ w'.cell? ⟨gb332, 1, none⟩ = some (.int .i64 a0_1) ∧ w'.cell? ⟨gb332, 2, none⟩ = some (.int .i64 a0_2) ∧ w'.cell? ⟨gb332, 3, none⟩ = some (.slice (some ⟨go34, 0, none⟩) y333.length co87) ∧ w'.cell? ⟨go34, ((a1).toNat * 6), none⟩ = some (.int .i64 ((rd_T34 y333 a1).f0)) ∧ w'.cell? ⟨go34, ((a1).toNat * 6) + 1, none⟩ = some (.int .i64 ((rd_T34 y333 a1).f1)) ∧ w'.cell? ⟨go34, ((a1).toNat * 6) + 2, none⟩ = some (.int .i64 ((rd_T34 y333 a1).f2)) ∧ w'.cell? ⟨go34, ((a1).toNat * 6) + 3, none⟩ = some (.int .i64 ((rd_T34 y333 a1).f3)) ∧ w'.cell? ⟨go34, ((a1).toNat * 6) + 4, none⟩ = some (.int .i64 ((rd_T34 y333 a1).f4)) ∧ w'.cell? ⟨go34, ((a1).toNat * 6) + 5, none⟩ = some (.int .i64 ((rd_T34 y333 a1).f5))) (ds := [12]) #[false, false, false, false, false, false, false, false, false, false, false, false, false] (by kernel_rfl) rfl rfl ⟨(zq68_5 BK332.out 0).trans rfl, (zq68_5 BK332.out 1).trans rfl, (zq68_5 BK332.out 2).trans rfl, (zq68_5 BK332.out 3).trans rfl, hx336_0, hx336_1, hx336_2, hx336_3, hx336_4, hx336_5⟩ (fun hHeld => ?_); refine with_tabW haulierlaw05_InstBounds.tab15 haulierlaw05_InstBounds.bits15 (fun HT_ HW_ => ?_)
              generalize w89.drew = w90 at HO329 HO335 BK316 BK319 BK324 BK325 BK326 BK332 HB GG34 HQ91 hf34_0 hf34_1 hf34_2 hf34_3 hf34_4 hf34_5 hx336_0 hx336_1 hx336_2 hx336_3 hx336_4 hx336_5 hx34_0 hx34_1 hx34_2 hx34_3 hx34_4 hx34_5 hHeld ⊢
              refine pure_ (i := 0) (N := some 81) (v := ?_) (a' := ?_) #[true, false, false, false, false, false, false, false, false, false, false, false, false] rfl rfl (any_of HT_.out (by kernel_rfl)) (fun _ _ _ h => h) (Or.inl ⟨by rfl, ?_⟩) ?_ ?_
              rotate_left
              ·
               intro w'
               go_simp
               with_reducible rfl
              rotate_left
              ·
               simp only [Act.put, List.setIfInBounds_toArray, List.set_cons_zero, List.set_cons_succ, i64_w, i32_w]
               rfl
              refine pure_ (i := 2) (N := some 83) (v := ?_) (a' := ?_) #[true, false, true, false, false, false, false, false, false, false, false, false, false] rfl rfl (any_of HT_.out (by kernel_rfl)) (fun _ _ _ h => h) (Or.inl ⟨by rfl, ?_⟩) ?_ ?_
              rotate_left
              ·
               intro w'
               go_simp
               with_reducible rfl
              rotate_left
              ·
               simp only [Act.put, List.setIfInBounds_toArray, List.set_cons_zero, List.set_cons_succ, i64_w, i32_w]
               rfl
              refine pure_ (i := 3) (N := some 84) (v := ?_) (a' := ?_) #[true, false, true, true, false, false, false, false, false, false, false, false, false] rfl rfl (any_of HT_.out (by kernel_rfl)) (fun _ _ _ h => h) (Or.inl ⟨by rfl, ?_⟩) ?_ ?_
              rotate_left
              ·
               intro w'
               go_simp
               with_reducible rfl
              rotate_left
              ·
               simp only [Act.put, List.setIfInBounds_toArray, List.set_cons_zero, List.set_cons_succ, i64_w, i32_w]
               rfl
              refine pure_ (i := 5) (N := some 86) (v := ?_) (a' := ?_) #[true, false, true, true, false, true, false, false, false, false, false, false, false] rfl rfl (any_of HT_.out (by kernel_rfl)) (fun _ _ _ h => h) (Or.inl ⟨by rfl, ?_⟩) ?_ ?_
              rotate_left
              ·
               intro w'
               go_simp
               with_reducible rfl
              rotate_left
              ·
               simp only [Act.put, List.setIfInBounds_toArray, List.set_cons_zero, List.set_cons_succ, i64_w, i32_w]
               rfl
              refine take_ (i := 1) (N := some 82) (v := ?_) (a' := ?_) #[true, true, true, true, false, true, false, false, false, false, false, false, false] rfl rfl (take_ofW HT_.out HW_.out (by kernel_rfl)) (fun _ _ _ h => h) (Or.inl ⟨by rfl, ?_⟩) hHeld ?_ ?_
              rotate_left
              ·
               rintro w' ⟨s0, s1, s2, s3, s4, s5, s6, s7, s8, s9⟩
               go_simp
               with_reducible rfl
              rotate_left
              ·
               simp only [Act.put, List.setIfInBounds_toArray, List.set_cons_zero, List.set_cons_succ, i64_w, i32_w]
               rfl
              refine take_ (i := 4) (N := some 85) (v := ?_) (a' := ?_) #[true, true, true, true, true, true, false, false, false, false, false, false, false] rfl rfl (take_ofW HT_.out HW_.out (by kernel_rfl)) (fun _ _ _ h => h) (Or.inl ⟨by rfl, ?_⟩) hHeld ?_ ?_
              rotate_left
              ·
               rintro w' ⟨s0, s1, s2, s3, s4, s5, s6, s7, s8, s9⟩
               go_simp
               with_reducible rfl
              rotate_left
              ·
               simp only [Act.put, List.setIfInBounds_toArray, List.set_cons_zero, List.set_cons_succ, i64_w, i32_w]
               rfl
              refine pure_ (i := 6) (N := some 87) (v := ?_) (a' := ?_) #[true, true, true, true, true, true, true, false, false, false, false, false, false] rfl rfl (any_of HT_.out (by kernel_rfl)) (fun _ _ _ h => h) (Or.inl ⟨by rfl, ?_⟩) ?_ ?_
              rotate_left
              ·
               intro w'
               go_simp
               with_reducible rfl
              rotate_left
              ·
               simp only [Act.put, List.setIfInBounds_toArray, List.set_cons_zero, List.set_cons_succ, i64_w, i32_w]
               rfl
              refine pure_ (i := 7) (N := some 88) (v := ?_) (a' := ?_) #[true, true, true, true, true, true, true, true, false, false, false, false, false] rfl rfl (any_of HT_.out (by kernel_rfl)) (fun _ _ _ h => h) (Or.inl ⟨by rfl, ?_⟩) ?_ ?_
              rotate_left
              ·
               intro w'
               go_simp
               with_reducible rfl
              rotate_left
              ·
               simp only [Act.put, List.setIfInBounds_toArray, List.set_cons_zero, List.set_cons_succ, i64_w, i32_w]
               rfl
              refine take_ (i := 8) (N := some 89) (v := ?_) (a' := ?_) #[true, true, true, true, true, true, true, true, true, false, false, false, false] rfl rfl (take_ofW HT_.out HW_.out (by kernel_rfl)) (fun _ _ _ h => h) (Or.inl ⟨by rfl, ?_⟩) hHeld ?_ ?_
              rotate_left
              ·
               rintro w' ⟨s0, s1, s2, s3, s4, s5, s6, s7, s8, s9⟩
               go_simp
               with_reducible rfl
              rotate_left
              ·
               simp only [Act.put, List.setIfInBounds_toArray, List.set_cons_zero, List.set_cons_succ, i64_w, i32_w]
               rfl
              refine pure_ (i := 9) (N := some 90) (v := ?_) (a' := ?_) #[true, true, true, true, true, true, true, true, true, true, false, false, false] rfl rfl (any_of HT_.out (by kernel_rfl)) (fun _ _ _ h => h) (Or.inl ⟨by rfl, ?_⟩) ?_ ?_
              rotate_left
              ·
               intro w'
               go_simp
               with_reducible rfl
              rotate_left
              ·
               simp only [Act.put, List.setIfInBounds_toArray, List.set_cons_zero, List.set_cons_succ, i64_w, i32_w]
               rfl
              refine pure_ (i := 10) (N := some 91) (v := ?_) (a' := ?_) #[true, true, true, true, true, true, true, true, true, true, true, false, false] rfl rfl (any_of HT_.out (by kernel_rfl)) (fun _ _ _ h => h) (Or.inl ⟨by rfl, ?_⟩) ?_ ?_
              rotate_left
              ·
               intro w'
               go_simp
               with_reducible rfl
              rotate_left
              ·
               simp only [Act.put, List.setIfInBounds_toArray, List.set_cons_zero, List.set_cons_succ, i64_w, i32_w]
               rfl
              refine pure_ (i := 11) (N := some 92) (v := ?_) (a' := ?_) #[true, true, true, true, true, true, true, true, true, true, true, true, false] rfl rfl (any_of HT_.out (by kernel_rfl)) (fun _ _ _ h => h) (Or.inl ⟨by rfl, ?_⟩) ?_ ?_
              rotate_left
              ·
               intro w'
               go_simp
               with_reducible rfl
              rotate_left
              ·
               simp only [Act.put, List.setIfInBounds_toArray, List.set_cons_zero, List.set_cons_succ, i64_w, i32_w]
               rfl
              refine last_ (i := 12) (N := none) #[true, true, true, true, true, true, true, true, true, true, true, true, true] rfl rfl (one_of HT_.out (by kernel_rfl)) (by decide) (fun K hK => ?_)
              refine skip_ (w1 := ?_) (by rfl) rfl ?_ ?_
              rotate_left
              ·
               go_simp
               rfl
              refine hK.out _ _ ?_
              clear hK K
              refine done_ (done_of HT_.out (by kernel_rfl)) ?_
              have hcz92_0 : w90.cell? ⟨gb319, 0, none⟩ = some (.int .i64 a0_0) := (zq68_5 BK319.out 0).trans rfl
              have hcz92_1 : w90.cell? ⟨gb319, 1, none⟩ = some (.int .i64 a0_1) := (zq68_5 BK319.out 1).trans rfl
              have hcz92_2 : w90.cell? ⟨gb319, 2, none⟩ = some (.int .i64 a0_2) := (zq68_5 BK319.out 2).trans rfl
              have hcz92_3 : w90.cell? ⟨gb319, 3, none⟩ = some (.slice A0_3 y320.length c0_3) := (zq68_5 BK319.out 3).trans rfl
              have hfz92_0 := zq68_4 BK319.out 0
              have hfz92_1 := zq68_4 BK319.out 1
              have hfz92_2 := zq68_4 BK319.out 2
              have hfz92_3 := zq68_4 BK319.out 3
              try go_wp2_with (first | ((with_reducible refine gate_callee (f := 13) rfl ?_); refine goesL_ (some 94) rfl rfl Tryd.func13 (by kernel_rfl) rfl #[.agg #[.int .i64 a0_0, .int .i64 a0_1, .int .i64 a0_2, .slice A0_3 y320.length c0_3]] rfl (by (try simp only [List.map_toArray, List.map_cons, List.map_nil]); first | done | rfl | (simp only [List.length_drop, List.length_take]; rfl)) ?_; (with_reducible refine (inst_May.calls kj3 a0_0 a0_1 a0_2 _ _ y320 false _ ?side1 ?side2 A35.out).mono ?_); (case side1 => exact Kd.C_below HR323.out (by repeat (first | (with_reducible first | exact HB.out | apply zq68_7 | apply zq68_6 | apply zq68_8 | refine below_set ?_ GB34.out | refine below_set ?_ GE316.out | refine below_set ?_ GE319.out | refine below_set ?_ GE324.out | refine below_set ?_ GE325.out | refine below_set ?_ GE326.out | refine below_set ?_ GE332.out) | exact HB.out))); (case side2 => exact HC323.out); rintro e w93 ⟨rfl, hb⟩; refine ⟨_, rfl, ?_⟩; have n0_ := zq68_9 (Kd.R_below (by (with_reducible repeat (first | apply Kd.R_alloc | apply Kd.R_drewN | apply Kd.R_drew)); exact (Kd.R_mono (Kd.R_far (p := ⟨go34, (a1 : Int).toNat * 6 + 4, none⟩) (Kd.R_mono HO329.out (fun k_ hk => (⟨hk, fun e_ => hk (by rw [e_]; rfl)⟩ : _ ∧ k_ ≠ go34))) (fun _ hk => hk.2) (.int .i64 (wrap64 (((rd_T34 y333 a1).f3) - 1)))) (fun _ h_ => h_.1))) hb); have n1_ := zq68_9 (Kd.R_below (by (with_reducible repeat (first | apply Kd.R_alloc | apply Kd.R_drewN | apply Kd.R_drew)); exact HQ91.out) hb); have n2_ := zq68_9 (blk_below (g := gb316) (o := .cells #[.int .i64 a0_0, .int .i64 a0_1, .int .i64 a0_2, .slice A0_3 l0_3.length c0_3] 26 (0, 0)) (by (with_reducible repeat (first | apply zq68_1 | apply zq68_2 | apply zq68_3)); refine blk_far ?_ (by have h_ := Kd.R_ne HO335.out BK316.out (by decide); intro e_; exact h_ (by rw [e_]; rfl)) _; (with_reducible repeat (first | apply zq68_1 | apply zq68_2 | apply zq68_3)); exact BK316.out) hb); have n3_ := zq68_9 (blk_below (g := gb319) (o := .cells #[.int .i64 a0_0, .int .i64 a0_1, .int .i64 a0_2, .slice A0_3 y320.length c0_3] 26 (0, 0)) (by (with_reducible repeat (first | apply zq68_1 | apply zq68_2 | apply zq68_3)); refine blk_far ?_ (by have h_ := Kd.R_ne HO335.out BK319.out (by decide); intro e_; exact h_ (by rw [e_]; rfl)) _; (with_reducible repeat (first | apply zq68_1 | apply zq68_2 | apply zq68_3)); exact BK319.out) hb); have n4_ := zq68_9 (blk_below (g := gb324) (o := .cells #[.int .i64 (wrap64 (a0_0 + 1)), .int .i64 a0_1, .int .i64 a0_2, .slice A0_3 l0_3.length c0_3] 26 (0, 0)) (by (with_reducible repeat (first | apply zq68_1 | apply zq68_2 | apply zq68_3)); refine blk_far ?_ (by have h_ := Kd.R_ne HO335.out BK324.out (by decide); intro e_; exact h_ (by rw [e_]; rfl)) _; (with_reducible repeat (first | apply zq68_1 | apply zq68_2 | apply zq68_3)); exact BK324.out) hb); have n5_ := zq68_9 (blk_below (g := gb325) (o := .cells #[.int .i64 a0_0, .int .i64 0, .int .i64 a0_2, .slice A0_3 l0_3.length c0_3] 26 (0, 0)) (by (with_reducible repeat (first | apply zq68_1 | apply zq68_2 | apply zq68_3)); refine blk_far ?_ (by have h_ := Kd.R_ne HO335.out BK325.out (by decide); intro e_; exact h_ (by rw [e_]; rfl)) _; (with_reducible repeat (first | apply zq68_1 | apply zq68_2 | apply zq68_3)); exact BK325.out) hb); have n6_ := zq68_9 (blk_below (g := gb326) (o := .cells #[.int .i64 a0_0, .int .i64 a0_1, .int .i64 a0_2, .slice (some ⟨go32, 0, none⟩) y327.length co71] 26 (0, 0)) (by (with_reducible repeat (first | apply zq68_1 | apply zq68_2 | apply zq68_3)); refine blk_far ?_ (by have h_ := Kd.R_ne HO335.out BK326.out (by decide); intro e_; exact h_ (by rw [e_]; rfl)) _; (with_reducible repeat (first | apply zq68_1 | apply zq68_2 | apply zq68_3)); exact BK326.out) hb); have n7_ := zq68_9 (blk_below (g := gb332) (o := .cells #[.int .i64 a0_0, .int .i64 a0_1, .int .i64 a0_2, .slice (some ⟨go34, 0, none⟩) y333.length co87] 26 (0, 0)) (by (with_reducible repeat (first | apply zq68_1 | apply zq68_2 | apply zq68_3)); refine blk_far ?_ (by have h_ := Kd.R_ne HO335.out BK332.out (by decide); intro e_; exact h_ (by rw [e_]; rfl)) _; (with_reducible repeat (first | apply zq68_1 | apply zq68_2 | apply zq68_3)); exact BK332.out) hb); have n8_ := zq68_9 (below_step (by repeat (first | (with_reducible first | exact HB.out | apply zq68_7 | apply zq68_6 | apply zq68_8 | refine below_set ?_ GB34.out | refine below_set ?_ GE316.out | refine below_set ?_ GE319.out | refine below_set ?_ GE324.out | refine below_set ?_ GE325.out | refine below_set ?_ GE326.out | refine below_set ?_ GE332.out) | exact HB.out)) hb); clear HO329; clear HO335; clear BK316; clear BK319; clear BK324; clear BK325; clear BK326; clear BK332; clear HB; have HO329 := n0_; have HO335 := n1_; have BK316 := n2_; have BK319 := n3_; have BK324 := n4_; have BK325 := n5_; have BK326 := n6_; have BK332 := n7_; have HB := n8_; clear n0_ n1_ n2_ n3_ n4_ n5_ n6_ n7_ n8_; (try clear hb); (try clear hb2); (try clear hk); (try clear hi); have hcz94_0 : w93.cell? ⟨gb324, 0, none⟩ = some (.int .i64 (wrap64 (a0_0 + 1))) := (zq68_5 BK324.out 0).trans rfl; have hcz94_1 : w93.cell? ⟨gb324, 1, none⟩ = some (.int .i64 a0_1) := (zq68_5 BK324.out 1).trans rfl; have hcz94_2 : w93.cell? ⟨gb324, 2, none⟩ = some (.int .i64 a0_2) := (zq68_5 BK324.out 2).trans rfl; have hcz94_3 : w93.cell? ⟨gb324, 3, none⟩ = some (.slice A0_3 l0_3.length c0_3) := (zq68_5 BK324.out 3).trans rfl; have hfz94_0 := zq68_4 BK324.out 0; have hfz94_1 := zq68_4 BK324.out 1; have hfz94_2 := zq68_4 BK324.out 2; have hfz94_3 := zq68_4 BK324.out 3) | (go_at_call 13; (with_reducible refine (inst_May.calls kj3 (wrap64 (a0_0 + 1)) a0_1 a0_2 _ _ l0_3 false _ ?side1 ?side2 A37.out).mono ?_); (case side1 => repeat (first | exact (Kd.C_below HR0_3.out HB.out) | (with_reducible refine Kd.C_alloc ?_ _) | (with_reducible refine Kd.C_drewN ?_ _) | (with_reducible refine Kd.C_drew ?_))); (case side2 => exact HC0_3.out); rintro e w95 ⟨rfl, hb⟩; have n0_ := zq68_9 (Kd.R_below (by (with_reducible repeat (first | apply Kd.R_alloc | apply Kd.R_drewN | apply Kd.R_drew)); exact HO329.out) hb); have n1_ := zq68_9 (Kd.R_below (by (with_reducible repeat (first | apply Kd.R_alloc | apply Kd.R_drewN | apply Kd.R_drew)); exact HO335.out) hb); have n2_ := zq68_9 (blk_below (g := gb316) (o := .cells #[.int .i64 a0_0, .int .i64 a0_1, .int .i64 a0_2, .slice A0_3 l0_3.length c0_3] 26 (0, 0)) (by (with_reducible repeat (first | apply zq68_1 | apply zq68_2 | apply zq68_3)); exact BK316.out) hb); have n3_ := zq68_9 (blk_below (g := gb319) (o := .cells #[.int .i64 a0_0, .int .i64 a0_1, .int .i64 a0_2, .slice A0_3 y320.length c0_3] 26 (0, 0)) (by (with_reducible repeat (first | apply zq68_1 | apply zq68_2 | apply zq68_3)); exact BK319.out) hb); have n4_ := zq68_9 (blk_below (g := gb324) (o := .cells #[.int .i64 (wrap64 (a0_0 + 1)), .int .i64 a0_1, .int .i64 a0_2, .slice A0_3 l0_3.length c0_3] 26 (0, 0)) (by (with_reducible repeat (first | apply zq68_1 | apply zq68_2 | apply zq68_3)); exact BK324.out) hb); have n5_ := zq68_9 (blk_below (g := gb325) (o := .cells #[.int .i64 a0_0, .int .i64 0, .int .i64 a0_2, .slice A0_3 l0_3.length c0_3] 26 (0, 0)) (by (with_reducible repeat (first | apply zq68_1 | apply zq68_2 | apply zq68_3)); exact BK325.out) hb); have n6_ := zq68_9 (blk_below (g := gb326) (o := .cells #[.int .i64 a0_0, .int .i64 a0_1, .int .i64 a0_2, .slice (some ⟨go32, 0, none⟩) y327.length co71] 26 (0, 0)) (by (with_reducible repeat (first | apply zq68_1 | apply zq68_2 | apply zq68_3)); exact BK326.out) hb); have n7_ := zq68_9 (blk_below (g := gb332) (o := .cells #[.int .i64 a0_0, .int .i64 a0_1, .int .i64 a0_2, .slice (some ⟨go34, 0, none⟩) y333.length co87] 26 (0, 0)) (by (with_reducible repeat (first | apply zq68_1 | apply zq68_2 | apply zq68_3)); exact BK332.out) hb); have n8_ := zq68_9 (below_step (by repeat (first | (with_reducible first | exact HB.out | apply zq68_7 | apply zq68_6 | apply zq68_8 | refine below_set ?_ GE316.out | refine below_set ?_ GE319.out | refine below_set ?_ GE324.out | refine below_set ?_ GE325.out | refine below_set ?_ GE326.out | refine below_set ?_ GE332.out) | exact HB.out)) hb); clear HO329; clear HO335; clear BK316; clear BK319; clear BK324; clear BK325; clear BK326; clear BK332; clear HB; have HO329 := n0_; have HO335 := n1_; have BK316 := n2_; have BK319 := n3_; have BK324 := n4_; have BK325 := n5_; have BK326 := n6_; have BK332 := n7_; have HB := n8_; clear n0_ n1_ n2_ n3_ n4_ n5_ n6_ n7_ n8_; (try clear hb); (try clear hb2); (try clear hk); (try clear hi); have hcz96_0 : w95.cell? ⟨gb325, 0, none⟩ = some (.int .i64 a0_0) := (zq68_5 BK325.out 0).trans rfl; have hcz96_1 : w95.cell? ⟨gb325, 1, none⟩ = some (.int .i64 0) := (zq68_5 BK325.out 1).trans rfl; have hcz96_2 : w95.cell? ⟨gb325, 2, none⟩ = some (.int .i64 a0_2) := (zq68_5 BK325.out 2).trans rfl; have hcz96_3 : w95.cell? ⟨gb325, 3, none⟩ = some (.slice A0_3 l0_3.length c0_3) := (zq68_5 BK325.out 3).trans rfl; have hfz96_0 := zq68_4 BK325.out 0; have hfz96_1 := zq68_4 BK325.out 1; have hfz96_2 := zq68_4 BK325.out 2; have hfz96_3 := zq68_4 BK325.out 3) | (go_at_call 13; (with_reducible refine (inst_May.calls kj3 a0_0 0 a0_2 _ _ l0_3 false _ ?side1 ?side2 A39.out).mono ?_); (case side1 => repeat (first | exact (Kd.C_below HR0_3.out HB.out) | (with_reducible refine Kd.C_alloc ?_ _) | (with_reducible refine Kd.C_drewN ?_ _) | (with_reducible refine Kd.C_drew ?_))); (case side2 => exact HC0_3.out); rintro e w97 ⟨rfl, hb⟩; have n0_ := zq68_9 (Kd.R_below (by (with_reducible repeat (first | apply Kd.R_alloc | apply Kd.R_drewN | apply Kd.R_drew)); exact HO329.out) hb); have n1_ := zq68_9 (Kd.R_below (by (with_reducible repeat (first | apply Kd.R_alloc | apply Kd.R_drewN | apply Kd.R_drew)); exact HO335.out) hb); have n2_ := zq68_9 (blk_below (g := gb316) (o := .cells #[.int .i64 a0_0, .int .i64 a0_1, .int .i64 a0_2, .slice A0_3 l0_3.length c0_3] 26 (0, 0)) (by (with_reducible repeat (first | apply zq68_1 | apply zq68_2 | apply zq68_3)); exact BK316.out) hb); have n3_ := zq68_9 (blk_below (g := gb319) (o := .cells #[.int .i64 a0_0, .int .i64 a0_1, .int .i64 a0_2, .slice A0_3 y320.length c0_3] 26 (0, 0)) (by (with_reducible repeat (first | apply zq68_1 | apply zq68_2 | apply zq68_3)); exact BK319.out) hb); have n4_ := zq68_9 (blk_below (g := gb324) (o := .cells #[.int .i64 (wrap64 (a0_0 + 1)), .int .i64 a0_1, .int .i64 a0_2, .slice A0_3 l0_3.length c0_3] 26 (0, 0)) (by (with_reducible repeat (first | apply zq68_1 | apply zq68_2 | apply zq68_3)); exact BK324.out) hb); have n5_ := zq68_9 (blk_below (g := gb325) (o := .cells #[.int .i64 a0_0, .int .i64 0, .int .i64 a0_2, .slice A0_3 l0_3.length c0_3] 26 (0, 0)) (by (with_reducible repeat (first | apply zq68_1 | apply zq68_2 | apply zq68_3)); exact BK325.out) hb); have n6_ := zq68_9 (blk_below (g := gb326) (o := .cells #[.int .i64 a0_0, .int .i64 a0_1, .int .i64 a0_2, .slice (some ⟨go32, 0, none⟩) y327.length co71] 26 (0, 0)) (by (with_reducible repeat (first | apply zq68_1 | apply zq68_2 | apply zq68_3)); exact BK326.out) hb); have n7_ := zq68_9 (blk_below (g := gb332) (o := .cells #[.int .i64 a0_0, .int .i64 a0_1, .int .i64 a0_2, .slice (some ⟨go34, 0, none⟩) y333.length co87] 26 (0, 0)) (by (with_reducible repeat (first | apply zq68_1 | apply zq68_2 | apply zq68_3)); exact BK332.out) hb); have n8_ := zq68_9 (below_step (by repeat (first | (with_reducible first | exact HB.out | apply zq68_7 | apply zq68_6 | apply zq68_8 | refine below_set ?_ GE316.out | refine below_set ?_ GE319.out | refine below_set ?_ GE324.out | refine below_set ?_ GE325.out | refine below_set ?_ GE326.out | refine below_set ?_ GE332.out) | exact HB.out)) hb); clear HO329; clear HO335; clear BK316; clear BK319; clear BK324; clear BK325; clear BK326; clear BK332; clear HB; have HO329 := n0_; have HO335 := n1_; have BK316 := n2_; have BK319 := n3_; have BK324 := n4_; have BK325 := n5_; have BK326 := n6_; have BK332 := n7_; have HB := n8_; clear n0_ n1_ n2_ n3_ n4_ n5_ n6_ n7_ n8_; (try clear hb); (try clear hb2); (try clear hk); (try clear hi); have hcz98_0 : w97.cell? ⟨gb326, 0, none⟩ = some (.int .i64 a0_0) := (zq68_5 BK326.out 0).trans rfl; have hcz98_1 : w97.cell? ⟨gb326, 1, none⟩ = some (.int .i64 a0_1) := (zq68_5 BK326.out 1).trans rfl; have hcz98_2 : w97.cell? ⟨gb326, 2, none⟩ = some (.int .i64 a0_2) := (zq68_5 BK326.out 2).trans rfl; have hcz98_3 : w97.cell? ⟨gb326, 3, none⟩ = some (.slice (some ⟨go32, 0, none⟩) y327.length co71) := (zq68_5 BK326.out 3).trans rfl; have hfz98_0 := zq68_4 BK326.out 0; have hfz98_1 := zq68_4 BK326.out 1; have hfz98_2 := zq68_4 BK326.out 2; have hfz98_3 := zq68_4 BK326.out 3) | (go_at_call 13; refine calls_of_args (args' := #[.agg #[.int .i64 a0_0, .int .i64 a0_1, .int .i64 a0_2, .slice (some ⟨go32, 0, none⟩) y331.length co71]]) (by first | (rw [show y331.length = y327.length from (Kd.R_reads' HO329.out).1.symm] <;> rfl) | rfl) ?_; (with_reducible refine (inst_May.calls kj3 a0_0 a0_1 a0_2 _ _ y331 false _ ?side1 ?side2 A41.out).mono ?_); (case side1 => repeat (first | exact (Kd.R_reads' HO329.out).2.2 | (with_reducible refine Kd.C_alloc ?_ _) | (with_reducible refine Kd.C_drewN ?_ _) | (with_reducible refine Kd.C_drew ?_))); (case side2 => rw [show y331.length = y327.length from (Kd.R_reads' HO329.out).1.symm]; exact (Kd.R_reads' HO329.out).2.1); rintro e w99 ⟨rfl, hb⟩; have n0_ := zq68_9 (Kd.R_below (by (with_reducible repeat (first | apply Kd.R_alloc | apply Kd.R_drewN | apply Kd.R_drew)); exact HO329.out) hb); have n1_ := zq68_9 (Kd.R_below (by (with_reducible repeat (first | apply Kd.R_alloc | apply Kd.R_drewN | apply Kd.R_drew)); exact HO335.out) hb); have n2_ := zq68_9 (blk_below (g := gb316) (o := .cells #[.int .i64 a0_0, .int .i64 a0_1, .int .i64 a0_2, .slice A0_3 l0_3.length c0_3] 26 (0, 0)) (by (with_reducible repeat (first | apply zq68_1 | apply zq68_2 | apply zq68_3)); exact BK316.out) hb); have n3_ := zq68_9 (blk_below (g := gb319) (o := .cells #[.int .i64 a0_0, .int .i64 a0_1, .int .i64 a0_2, .slice A0_3 y320.length c0_3] 26 (0, 0)) (by (with_reducible repeat (first | apply zq68_1 | apply zq68_2 | apply zq68_3)); exact BK319.out) hb); have n4_ := zq68_9 (blk_below (g := gb324) (o := .cells #[.int .i64 (wrap64 (a0_0 + 1)), .int .i64 a0_1, .int .i64 a0_2, .slice A0_3 l0_3.length c0_3] 26 (0, 0)) (by (with_reducible repeat (first | apply zq68_1 | apply zq68_2 | apply zq68_3)); exact BK324.out) hb); have n5_ := zq68_9 (blk_below (g := gb325) (o := .cells #[.int .i64 a0_0, .int .i64 0, .int .i64 a0_2, .slice A0_3 l0_3.length c0_3] 26 (0, 0)) (by (with_reducible repeat (first | apply zq68_1 | apply zq68_2 | apply zq68_3)); exact BK325.out) hb); have n6_ := zq68_9 (blk_below (g := gb326) (o := .cells #[.int .i64 a0_0, .int .i64 a0_1, .int .i64 a0_2, .slice (some ⟨go32, 0, none⟩) y327.length co71] 26 (0, 0)) (by (with_reducible repeat (first | apply zq68_1 | apply zq68_2 | apply zq68_3)); exact BK326.out) hb); have n7_ := zq68_9 (blk_below (g := gb332) (o := .cells #[.int .i64 a0_0, .int .i64 a0_1, .int .i64 a0_2, .slice (some ⟨go34, 0, none⟩) y333.length co87] 26 (0, 0)) (by (with_reducible repeat (first | apply zq68_1 | apply zq68_2 | apply zq68_3)); exact BK332.out) hb); have n8_ := zq68_9 (below_step (by repeat (first | (with_reducible first | exact HB.out | apply zq68_7 | apply zq68_6 | apply zq68_8 | refine below_set ?_ GE316.out | refine below_set ?_ GE319.out | refine below_set ?_ GE324.out | refine below_set ?_ GE325.out | refine below_set ?_ GE326.out | refine below_set ?_ GE332.out) | exact HB.out)) hb); clear HO329; clear HO335; clear BK316; clear BK319; clear BK324; clear BK325; clear BK326; clear BK332; clear HB; have HO329 := n0_; have HO335 := n1_; have BK316 := n2_; have BK319 := n3_; have BK324 := n4_; have BK325 := n5_; have BK326 := n6_; have BK332 := n7_; have HB := n8_; clear n0_ n1_ n2_ n3_ n4_ n5_ n6_ n7_ n8_; (try clear hb); (try clear hb2); (try clear hk); (try clear hi); have hcz100_0 : w99.cell? ⟨gb332, 0, none⟩ = some (.int .i64 a0_0) := (zq68_5 BK332.out 0).trans rfl; have hcz100_1 : w99.cell? ⟨gb332, 1, none⟩ = some (.int .i64 a0_1) := (zq68_5 BK332.out 1).trans rfl; have hcz100_2 : w99.cell? ⟨gb332, 2, none⟩ = some (.int .i64 a0_2) := (zq68_5 BK332.out 2).trans rfl; have hcz100_3 : w99.cell? ⟨gb332, 3, none⟩ = some (.slice (some ⟨go34, 0, none⟩) y333.length co87) := (zq68_5 BK332.out 3).trans rfl; have hfz100_0 := zq68_4 BK332.out 0; have hfz100_1 := zq68_4 BK332.out 1; have hfz100_2 := zq68_4 BK332.out 2; have hfz100_3 := zq68_4 BK332.out 3) | (go_at_call 13; refine calls_of_args (args' := #[.agg #[.int .i64 a0_0, .int .i64 a0_1, .int .i64 a0_2, .slice (some ⟨go34, 0, none⟩) y337.length co87]]) (by first | (rw [show y337.length = y333.length from (Kd.R_reads' HO335.out).1.symm] <;> rfl) | rfl) ?_; (with_reducible refine (inst_May.calls kj3 a0_0 a0_1 a0_2 _ _ y337 t342 _ ?side1 ?side2 A43.out).mono ?_); (case side1 => repeat (first | exact (Kd.R_reads' HO335.out).2.2 | (with_reducible refine Kd.C_alloc ?_ _) | (with_reducible refine Kd.C_drewN ?_ _) | (with_reducible refine Kd.C_drew ?_))); (case side2 => rw [show y337.length = y333.length from (Kd.R_reads' HO335.out).1.symm]; exact (Kd.R_reads' HO335.out).2.1); rintro e w101 ⟨rfl, hb⟩; have n0_ := zq68_9 (Kd.R_below (by (with_reducible repeat (first | apply Kd.R_alloc | apply Kd.R_drewN | apply Kd.R_drew)); exact HO329.out) hb); have n1_ := zq68_9 (Kd.R_below (by (with_reducible repeat (first | apply Kd.R_alloc | apply Kd.R_drewN | apply Kd.R_drew)); exact HO335.out) hb); have n2_ := zq68_9 (blk_below (g := gb316) (o := .cells #[.int .i64 a0_0, .int .i64 a0_1, .int .i64 a0_2, .slice A0_3 l0_3.length c0_3] 26 (0, 0)) (by (with_reducible repeat (first | apply zq68_1 | apply zq68_2 | apply zq68_3)); exact BK316.out) hb); have n3_ := zq68_9 (blk_below (g := gb319) (o := .cells #[.int .i64 a0_0, .int .i64 a0_1, .int .i64 a0_2, .slice A0_3 y320.length c0_3] 26 (0, 0)) (by (with_reducible repeat (first | apply zq68_1 | apply zq68_2 | apply zq68_3)); exact BK319.out) hb); have n4_ := zq68_9 (blk_below (g := gb324) (o := .cells #[.int .i64 (wrap64 (a0_0 + 1)), .int .i64 a0_1, .int .i64 a0_2, .slice A0_3 l0_3.length c0_3] 26 (0, 0)) (by (with_reducible repeat (first | apply zq68_1 | apply zq68_2 | apply zq68_3)); exact BK324.out) hb); have n5_ := zq68_9 (blk_below (g := gb325) (o := .cells #[.int .i64 a0_0, .int .i64 0, .int .i64 a0_2, .slice A0_3 l0_3.length c0_3] 26 (0, 0)) (by (with_reducible repeat (first | apply zq68_1 | apply zq68_2 | apply zq68_3)); exact BK325.out) hb); have n6_ := zq68_9 (blk_below (g := gb326) (o := .cells #[.int .i64 a0_0, .int .i64 a0_1, .int .i64 a0_2, .slice (some ⟨go32, 0, none⟩) y327.length co71] 26 (0, 0)) (by (with_reducible repeat (first | apply zq68_1 | apply zq68_2 | apply zq68_3)); exact BK326.out) hb); have n7_ := zq68_9 (blk_below (g := gb332) (o := .cells #[.int .i64 a0_0, .int .i64 a0_1, .int .i64 a0_2, .slice (some ⟨go34, 0, none⟩) y333.length co87] 26 (0, 0)) (by (with_reducible repeat (first | apply zq68_1 | apply zq68_2 | apply zq68_3)); exact BK332.out) hb); have n8_ := zq68_9 (below_step (by repeat (first | (with_reducible first | exact HB.out | apply zq68_7 | apply zq68_6 | apply zq68_8 | refine below_set ?_ GE316.out | refine below_set ?_ GE319.out | refine below_set ?_ GE324.out | refine below_set ?_ GE325.out | refine below_set ?_ GE326.out | refine below_set ?_ GE332.out) | exact HB.out)) hb); clear HO329; clear HO335; clear BK316; clear BK319; clear BK324; clear BK325; clear BK326; clear BK332; clear HB; have HO329 := n0_; have HO335 := n1_; have BK316 := n2_; have BK319 := n3_; have BK324 := n4_; have BK325 := n5_; have BK326 := n6_; have BK332 := n7_; have HB := n8_; clear n0_ n1_ n2_ n3_ n4_ n5_ n6_ n7_ n8_; (try clear hb); (try clear hb2); (try clear hk); (try clear hi)))
              go_ret
              exact ⟨by first | rfl | (simp [errW_none, errW_some] <;> rfl) | (simp only [← hji26]; first | rfl | (simp [errW_none, errW_some] <;> rfl)) | (simp [*, errW_none, errW_some] <;> rfl), by repeat (first | (with_reducible first | exact HB.out | apply zq68_7 | apply zq68_6 | apply zq68_8 | refine below_set ?_ GE316.out | refine below_set ?_ GE319.out | refine below_set ?_ GE324.out | refine below_set ?_ GE325.out | refine below_set ?_ GE326.out | refine below_set ?_ GE332.out) | exact HB.out)⟩
         ·
          rw [if_neg c33] at H
          exact absurd H (by simp)
        ·
         rw [if_neg c31] at H
         exact absurd H (by simp)
       ·
        rw [if_neg c30] at H
        exact absurd H (by simp)
      ·
       rw [if_neg c29] at H
       exact absurd H (by simp)
     ·
      rw [if_neg c28] at H
      exact absurd H (by simp)
    ·
     rw [if_neg c27] at H
     exact absurd H (by simp)

end Go.Proofs.YtifekgemngfidaaDoor.PA
