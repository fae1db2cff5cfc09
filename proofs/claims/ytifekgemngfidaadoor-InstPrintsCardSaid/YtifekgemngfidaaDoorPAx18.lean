-- Printed for this claim by wip/tools/xprint.py over the kit's print; the contracts marked BY HAND are this session's own.
import Derived.Test.YtifekgemngfidaaDoorPAx0
import Derived.Test.YtifekgemngfidaaDoorPAx2
import Derived.Test.YtifekgemngfidaaDoorPAx9
import Derived.Test.YtifekgemngfidaaDoorPAx17
namespace Go.Proofs.YtifekgemngfidaaDoor.PA
open Go.RowKit Go.Proofs.YtifekgemngfidaaDoorW.PrintWords Go.Proofs.YtifekgemngfidaaDoorW.PrintLast Go.Proofs.YtifekgemngfidaaDoorW.PrintMore
attribute [local go_sem] max2_int min2_int max_two min_two max_three min_three max_four min_four   -- for this text's walks alone
set_option linter.unusedVariables false
set_option linter.unusedSimpArgs false

/-! ### haulierref05_Print: function 15 -/
def haulierref05_Print.l0 : Nat → List (List Int) → Int → Int → Int → Int → List (S34) → Option (List Int × Int)
  | 0, _, _, _, _, _, _ => none
  | k + 1, x5, x6, x370000, x370001, x370002, x370003 => if x6 < (x370003.length : Int) then (if 0 ≤ x6 then (if x5.length < 5864062014805 then (haulierref05_Print.l0 k (x5 ++ [(([(rd_T34 x370003 x6).f0, (rd_T34 x370003 x6).f1, (rd_T34 x370003 x6).f2, (rd_T34 x370003 x6).f3, (rd_T34 x370003 x6).f4, (rd_T34 x370003 x6).f5] : List Int))]) (wrap64 (x6 + 1)) x370000 x370001 x370002 x370003) else (none)) else (none)) else ((haulierref04_Print.f k x5).bind fun t385 => (some (t385, 0)))
def haulierref05_Print.f (k : Nat) (a0_0 : Int) (a0_1 : Int) (a0_2 : Int) (l0_3 : List (S34)) : Option (List Int × Int) := (haulierref05_May.f k a0_0 a0_1 a0_2 l0_3).bind fun t370 => (if t370 = true then (haulierref05_Print.l0 k (([(([a0_0, a0_1, a0_2] : List Int))] : List (List Int))) 0 a0_0 a0_1 a0_2 l0_3) else (some (([] : List Int), 1)))
theorem haulierref05_Print.mono_l : ∀ k, (∀ y0 y1 y2 y3 y4 y5, LeO (haulierref05_Print.l0 k y0 y1 y2 y3 y4 y5) (haulierref05_Print.l0 (k + 1) y0 y1 y2 y3 y4 y5))
  | 0 => fun _ _ _ _ _ _ r h => by simp [haulierref05_Print.l0] at h
  | k + 1 => by
    have ih0 := haulierref05_Print.mono_l k
    · intro y0 y1 y2 y3 y4 y5
      unfold haulierref05_Print.l0
      repeat' first
      | (with_reducible exact ih0 _ _ _ _ _ _)
      | (with_reducible exact haulierref04_Print.mono _ _)
      | (with_reducible exact haulierref05_May.mono _ _ _ _ _)
      | (with_reducible exact LeO.refl _)
      | (with_reducible exact LeO.none _)
      | (with_reducible refine LeO.ite ?_ ?_)
      | (with_reducible refine LeO.bind ?_ (fun _ => ?_))
      | exact ih0 _ _ _ _ _ _
      | exact haulierref04_Print.mono _ _
      | exact haulierref05_May.mono _ _ _ _ _
      | exact LeO.none _
      | refine LeO.ite ?_ ?_
      | refine LeO.bind ?_ (fun _ => ?_)
theorem haulierref05_Print.mono : ∀ a0 a1 a2 a3 k, LeO (haulierref05_Print.f k a0 a1 a2 a3) (haulierref05_Print.f (k + 1) a0 a1 a2 a3) := by
  intro a0 a1 a2 a3 k
  have ih0 := haulierref05_Print.mono_l k
  unfold haulierref05_Print.f
  repeat' first
      | (with_reducible exact ih0 _ _ _ _ _ _)
      | (with_reducible exact haulierref04_Print.mono _ _)
      | (with_reducible exact haulierref05_May.mono _ _ _ _ _)
      | (with_reducible exact LeO.refl _)
      | (with_reducible exact LeO.none _)
      | (with_reducible refine LeO.ite ?_ ?_)
      | (with_reducible refine LeO.bind ?_ (fun _ => ?_))
      | exact ih0 _ _ _ _ _ _
      | exact haulierref04_Print.mono _ _
      | exact haulierref05_May.mono _ _ _ _ _
      | exact LeO.none _
      | refine LeO.ite ?_ ?_
      | refine LeO.bind ?_ (fun _ => ?_)
set_option maxHeartbeats 8000000 in
set_option maxRecDepth 100000 in
theorem haulierref05_Print.calls (k : Nat) (a0_0 : Int) (a0_1 : Int) (a0_2 : Int) (A0_3 : Option Addr) (c0_3 : Nat) (l0_3 : List (S34)) (r1 : List Int) (r2 : Int) (w : World) (hr0_3 : Kd.C k34 w A0_3 l0_3.length l0_3) (hc0_3 : l0_3.length ≤ c0_3) (h : haulierref05_Print.f k a0_0 a0_1 a0_2 l0_3 = some (r1, r2)) :
  Calls Tryd.prog 15 #[.agg #[.int .i64 a0_0, .int .i64 a0_1, .int .i64 a0_2, .slice A0_3 l0_3.length c0_3]] w fun e w' => ∃ v0_ : Value, e = .returned (.tuple #[v0_, .int .i64 r2]) ∧ Kd.R (Kd.int .u8) 5 w' w.heap.size (fun _ => True) v0_ r1 ∧ Below w.heap.size w w' := by
 have hu26 := Tryd.underlying26
 have hu34 := Tryd.underlying34
 have HR0_3 := zqi hr0_3
 have HC0_3 := zqi hc0_3
 clear hr0_3 hc0_3
 have HB := zqi (Below.refl w.heap.size w)
 have H : ((haulierref05_May.f k a0_0 a0_1 a0_2 l0_3).bind fun t370 => (if t370 = true then (haulierref05_Print.l0 k (([(([a0_0, a0_1, a0_2] : List Int))] : List (List Int))) 0 a0_0 a0_1 a0_2 l0_3) else (some (([] : List Int), 1)))) = some (r1, r2) := h
 clear h
 replace H := Option.bind_eq_some_iff.mp H
 obtain ⟨t370, A20, H⟩ := H
 replace H : (if t370 = true then (haulierref05_Print.l0 k (([(([a0_0, a0_1, a0_2] : List Int))] : List (List Int))) 0 a0_0 a0_1 a0_2 l0_3) else (some (([] : List Int), 1))) = some (r1, r2) := H
 have A2 := zqi A20
 clear A20
 by_cases c3 : t370 = true
 ·
  subst c3
  have H1 : (haulierref05_Print.l0 k (([(([a0_0, a0_1, a0_2] : List Int))] : List (List Int))) 0 a0_0 a0_1 a0_2 l0_3) = some (r1, r2) := by rw [if_pos rfl] at H; exact H
  clear H
  have H := H1
  clear H1
  obtain ⟨y371, hy371⟩ : ∃ y_ : List Int, y_ = (([a0_0, a0_1, a0_2] : List Int)) := ⟨_, rfl⟩
  replace H : (haulierref05_Print.l0 k (([y371] : List (List Int))) 0 a0_0 a0_1 a0_2 l0_3) = some (r1, r2) := by first | (rw [hy371]; with_reducible exact H) | (have H2_ := (Option.bind_some _ _).symm.trans H; rw [hy371]; with_reducible exact H2_) | (have H2_ := (Option.bind_some _ _).symm.trans H; with_reducible exact H2_) | with_reducible exact H | (rw [hy371]; exact H) | exact H
  have Ny371 := zqi hy371
  clear hy371
  obtain ⟨y374, hy374⟩ : ∃ y_ : List (List Int), y_ = (([y371] : List (List Int))) := ⟨_, rfl⟩
  replace H : (haulierref05_Print.l0 k y374 0 a0_0 a0_1 a0_2 l0_3) = some (r1, r2) := by first | (rw [hy374]; with_reducible exact H) | (have H2_ := (Option.bind_some _ _).symm.trans H; rw [hy374]; with_reducible exact H2_) | (have H2_ := (Option.bind_some _ _).symm.trans H; with_reducible exact H2_) | with_reducible exact H | (rw [hy374]; exact H) | exact H
  have Ny374 := zqi hy374
  clear hy374
  have H' := zqi H
  clear H
  go_enter Tryd.func15, Tryd.ntmps15
  go_wp2_with (first | ((with_reducible refine gate_dst (N := 1) rfl ?_); refine box_event ?hg (N := 1) ?hd (cs := #[.int .i64 a0_0, .int .i64 a0_1, .int .i64 a0_2, .slice A0_3 l0_3.length c0_3]) (t := 26) ?hr ?_; (case hd => rfl); (case hg => rfl); (case hr => first | (go_simp; done) | (go_simp; rfl)); intro gb369 hg w4 hbox hb; have n0_ := zqi (below_step (by repeat (first | (with_reducible first | exact HB.out | apply zqg | apply zqf | apply zqh) | exact HB.out)) hb); have n1_ := zqi (hbox); have n2_ := zqi ((by rw [hg]; exact (below_size (by repeat (first | (with_reducible first | exact HB.out | apply zqg | apply zqf | apply zqh) | exact HB.out))) : w.heap.size ≤ gb369)); have n3_ := zqi ((by rw [hg]; exact (below_size (by repeat (first | (with_reducible first | exact HB.out | apply zqg | apply zqf | apply zqh) | exact HB.out))) : w.heap.size ≤ gb369)); clear HB; have HB := n0_; have BK369 := n1_; have GW369 := n2_; have GE369 := n3_; clear n0_ n1_ n2_ n3_; clear hb hbox hg; have hcz5_0 : w4.cell? ⟨gb369, 0, none⟩ = some (.int .i64 a0_0) := (zqe BK369.out 0).trans rfl; have hcz5_1 : w4.cell? ⟨gb369, 1, none⟩ = some (.int .i64 a0_1) := (zqe BK369.out 1).trans rfl; have hcz5_2 : w4.cell? ⟨gb369, 2, none⟩ = some (.int .i64 a0_2) := (zqe BK369.out 2).trans rfl; have hcz5_3 : w4.cell? ⟨gb369, 3, none⟩ = some (.slice A0_3 l0_3.length c0_3) := (zqe BK369.out 3).trans rfl; have hfz5_0 := zqd BK369.out 0; have hfz5_1 := zqd BK369.out 1; have hfz5_2 := zqd BK369.out 2; have hfz5_3 := zqd BK369.out 3) | ((with_reducible refine gate_callee (f := 16) rfl ?_); refine goesL_ (some 9) rfl rfl Tryd.func16 (by kernel_rfl) rfl #[.agg #[.int .i64 a0_0, .int .i64 a0_1, .int .i64 a0_2, .slice A0_3 l0_3.length c0_3]] rfl (by (try simp only [List.map_toArray, List.map_cons, List.map_nil]); first | done | rfl | (simp only [List.length_drop, List.length_take]; rfl)) ?_; (with_reducible refine (haulierref05_May.calls k a0_0 a0_1 a0_2 _ _ l0_3 true _ ?side1 ?side2 A2.out).mono ?_); (case side1 => repeat (first | exact (Kd.C_below HR0_3.out HB.out) | (with_reducible refine Kd.C_alloc ?_ _) | (with_reducible refine Kd.C_drewN ?_ _) | (with_reducible refine Kd.C_drew ?_))); (case side2 => exact HC0_3.out); rintro e w6 ⟨rfl, hb⟩; refine ⟨_, rfl, ?_⟩; have n0_ := zqi (blk_below (g := gb369) (o := .cells #[.int .i64 a0_0, .int .i64 a0_1, .int .i64 a0_2, .slice A0_3 l0_3.length c0_3] 26 (0, 0)) (by (with_reducible repeat (first | apply zqa | apply zqb | apply zqc)); exact BK369.out) hb); have n1_ := zqi (below_step (by repeat (first | (with_reducible first | exact HB.out | apply zqg | apply zqf | apply zqh | refine below_set ?_ GE369.out) | exact HB.out)) hb); clear BK369; clear HB; have BK369 := n0_; have HB := n1_; clear n0_ n1_; (try clear hb); (try clear hb2); (try clear hk); (try clear hi); have hcz7_0 : w6.cell? ⟨gb369, 0, none⟩ = some (.int .i64 a0_0) := (zqe BK369.out 0).trans rfl; have hcz7_1 : w6.cell? ⟨gb369, 1, none⟩ = some (.int .i64 a0_1) := (zqe BK369.out 1).trans rfl; have hcz7_2 : w6.cell? ⟨gb369, 2, none⟩ = some (.int .i64 a0_2) := (zqe BK369.out 2).trans rfl; have hcz7_3 : w6.cell? ⟨gb369, 3, none⟩ = some (.slice A0_3 l0_3.length c0_3) := (zqe BK369.out 3).trans rfl; have hfz7_0 := zqd BK369.out 0; have hfz7_1 := zqd BK369.out 1; have hfz7_2 := zqd BK369.out 2; have hfz7_3 := zqd BK369.out 3) | ((with_reducible refine gate_dst (N := 18) rfl ?_); refine Kd.R_lit (Kd.int .i64) _ 3 ?hg (N := 18) ?hd (xs := ([a0_0, a0_1, a0_2] : List Int)) (inner := [.int .i64 a0_0, .int .i64 a0_1, .int .i64 a0_2]) (ok := fun _ => True) (okp := fun _ => True) ?hr ?hp (fun _ hk => hk) trivial (Below.refl _ _) (Nat.le_refl _) (by simp) ?_; (case hd => rfl); (case hg => rfl); (case hr => first | (go_simp; done) | (go_simp; rfl)); (case hp => exact (Reps.one (show Kd.M (Kd.int .i64) _ _ _ a0_0 [.int .i64 a0_0] from rfl) (Reps.one (show Kd.M (Kd.int .i64) _ _ _ a0_1 [.int .i64 a0_1] from rfl) (Reps.one (show Kd.M (Kd.int .i64) _ _ _ a0_2 [.int .i64 a0_2] from rfl) (Reps.none _ _))))); intro v372 w8 ho9 hb hg_ hnew_; clear hg_ hnew_; (first | rw [← Ny371.out] at ho9 | (simp only [Int.reduceToNat] at ho9; rw [← Ny371.out] at ho9)); have n0_ := zqi (Kd.R_lower ho9 (below_size (by repeat (first | (with_reducible first | exact HB.out | apply zqg | apply zqf | apply zqh | refine below_set ?_ GE369.out) | exact HB.out)))); have n1_ := zqi (blk_below (g := gb369) (o := .cells #[.int .i64 a0_0, .int .i64 a0_1, .int .i64 a0_2, .slice A0_3 l0_3.length c0_3] 26 (0, 0)) (by (with_reducible repeat (first | apply zqa | apply zqb | apply zqc)); exact BK369.out) hb); have n2_ := zqi (below_step (by repeat (first | (with_reducible first | exact HB.out | apply zqg | apply zqf | apply zqh | refine below_set ?_ GE369.out) | exact HB.out)) hb); clear BK369; clear HB; have HO373 := n0_; have BK369 := n1_; have HB := n2_; clear n0_ n1_ n2_; clear hb ho9; obtain ⟨Ao10, co10, eo10⟩ := Kd.R_slice HO373.out; subst eo10) | ((with_reducible refine gate_dst (N := 19) rfl ?_); refine Kd.N_lit (Kd.slice 3 (Kd.int .i64)) _ 43 ?hg (N' := 19) ?hd (xs := ([y371] : List (List Int))) (inner := [.slice Ao10 y371.length co10]) (ok := (fun k_ => k_ ≠ gb369)) (okp := (fun k_ => k_ ≠ gb369)) ?hr ?hp (fun _ hk => hk) ((show ∀ k_, w8.heap.size ≤ k_ → (fun k_ => k_ ≠ gb369) k_ from fun k_ hk => Kd.freshB (g := gb369) (o := .cells #[.int .i64 a0_0, .int .i64 a0_1, .int .i64 a0_2, .slice A0_3 l0_3.length c0_3] 26 (0, 0)) (by (with_reducible repeat (first | apply zqa | apply zqb | apply zqc)); exact BK369.out) k_ hk) _ (Nat.le_refl _)) (Below.refl _ _) (Nat.le_refl _) (by simp) ?_; (case hd => rfl); (case hg => rfl); (case hr => first | (go_simp; done) | (go_simp; rfl)); (case hp => exact (Reps.one (show Kd.FK (Kd.slice 3 (Kd.int .i64)) _ _ y371 [.slice Ao10 y371.length co10] from (Kd.FK_slice_mk (Kd.R_reads' (Kd.R_mono (ok' := (fun k_ => k_ ≠ gb369)) (Kd.R_types (HO373.out) BK369.out (by decide)) (fun k_ hk => hk.2))).2.1 (Kd.R_F (Kd.R_mono (ok' := (fun k_ => k_ ≠ gb369)) (Kd.R_types (HO373.out) BK369.out (by decide)) (fun k_ hk => hk.2))))) (Reps.none _ _))); intro v375 w11 ho12 hb hg_ hnew_; clear hg_ hnew_; (first | rw [← Ny374.out] at ho12 | (simp only [Int.reduceToNat] at ho12; rw [← Ny374.out] at ho12)); have n0_ := zqi (Kd.N_lower ho12 (below_size (by repeat (first | (with_reducible first | exact HB.out | apply zqg | apply zqf | apply zqh | refine below_set ?_ GE369.out) | exact HB.out)))); have n1_ := zqi (blk_below (g := gb369) (o := .cells #[.int .i64 a0_0, .int .i64 a0_1, .int .i64 a0_2, .slice A0_3 l0_3.length c0_3] 26 (0, 0)) (by (with_reducible repeat (first | apply zqa | apply zqb | apply zqc)); exact BK369.out) hb); have n2_ := zqi (below_step (by repeat (first | (with_reducible first | exact HB.out | apply zqg | apply zqf | apply zqh | refine below_set ?_ GE369.out) | exact HB.out)) hb); clear BK369; clear HB; clear HO373; have HO376 := n0_; have BK369 := n1_; have HB := n2_; clear n0_ n1_ n2_; clear hb ho12))
  go_loopg [5, 6] k (fun kq v5 v6 w' => ∃ (x5_1 : List (List Int)) (x6_1 : Int), v6 = .int .i64 x6_1 ∧ Aside0 (haulierref05_Print.l0 kq x5_1 x6_1 a0_0 a0_1 a0_2 l0_3 = some (r1, r2)) ∧ Aside0 (kq ≤ k) ∧ Aside0 (Kd.N (Kd.slice 3 (Kd.int .i64)) 43 w' w.heap.size (fun k_ => k_ ≠ gb369) v5 x5_1) ∧ Aside0 (w'.heap[gb369]? = some (.cells #[.int .i64 a0_0, .int .i64 a0_1, .int .i64 a0_2, (.slice A0_3 l0_3.length c0_3)] 26 (0, 0))) ∧ Aside0 (Below w.heap.size w w'))
  case atStart => exact ⟨(y374), (0), (by first | rfl | (simp; done) | (simp [*]; done)), H', ⟨Nat.le_refl _⟩, ⟨by (with_reducible repeat (first | apply Kd.N_alloc | apply Kd.N_drewN | apply Kd.N_drew)); exact HO376.out⟩, ⟨by (with_reducible repeat (first | apply zqa | apply zqb | apply zqc)); exact BK369.out⟩, ⟨by repeat (first | (with_reducible first | exact HB.out | apply zqg | apply zqf | apply zqh | refine below_set ?_ GE369.out) | exact HB.out)⟩⟩
  case round =>
   clear H'
   try clear c1
   try clear p2
   try clear c3
   try clear hcz5_0
   try clear hcz5_1
   try clear hcz5_2
   try clear hcz5_3
   try clear hcz7_0
   try clear hcz7_1
   try clear hcz7_2
   try clear hcz7_3
   try clear hfz5_0
   try clear hfz5_1
   try clear hfz5_2
   try clear hfz5_3
   try clear hfz7_0
   try clear hfz7_1
   try clear hfz7_2
   try clear hfz7_3
   obtain ⟨x5_1, x6_1, rfl, HA, HK1, HO_5, BK369, HB⟩ := hrel
   cases gk with
   | zero => exact absurd HA.out (by simp [haulierref05_Print.l0])
   | succ k1 =>
    have H := HA.out
    clear HA
    simp only [haulierref05_Print.l0] at H
    by_cases c13 : x6_1 < (l0_3.length : Int)
    ·
     rw [if_pos c13] at H
     have c13b0 : decide (x6_1 < (l0_3.length : Int)) = true := decide_eq_true c13
     clear c13
     by_cases c14 : 0 ≤ x6_1
     ·
      rw [if_pos c14] at H
      have c14b0 : decide (0 ≤ x6_1) = true := decide_eq_true c14
      clear c14
      obtain ⟨y379, hy379⟩ : ∃ y_ : List Int, y_ = (([(rd_T34 l0_3 x6_1).f0, (rd_T34 l0_3 x6_1).f1, (rd_T34 l0_3 x6_1).f2, (rd_T34 l0_3 x6_1).f3, (rd_T34 l0_3 x6_1).f4, (rd_T34 l0_3 x6_1).f5] : List Int)) := ⟨_, rfl⟩
      replace H : (if x5_1.length < 5864062014805 then (haulierref05_Print.l0 k1 (x5_1 ++ [y379]) (wrap64 (x6_1 + 1)) a0_0 a0_1 a0_2 l0_3) else (none)) = some (r1, r2) := by first | (rw [hy379]; with_reducible exact H) | (have H2_ := (Option.bind_some _ _).symm.trans H; rw [hy379]; with_reducible exact H2_) | (have H2_ := (Option.bind_some _ _).symm.trans H; with_reducible exact H2_) | with_reducible exact H | (rw [hy379]; exact H) | exact H
      have Ny379 := zqi hy379
      clear hy379
      by_cases c15 : x5_1.length < 5864062014805
      ·
       rw [if_pos c15] at H
       have LMc15 := zqi c15
       clear c15
       obtain ⟨y382, hy382⟩ : ∃ y_ : List (List Int), y_ = (x5_1 ++ [y379]) := ⟨_, rfl⟩
       replace H : (haulierref05_Print.l0 k1 y382 (wrap64 (x6_1 + 1)) a0_0 a0_1 a0_2 l0_3) = some (r1, r2) := by first | (rw [hy382]; with_reducible exact H) | (have H2_ := (Option.bind_some _ _).symm.trans H; rw [hy382]; with_reducible exact H2_) | (have H2_ := (Option.bind_some _ _).symm.trans H; with_reducible exact H2_) | with_reducible exact H | (rw [hy382]; exact H) | exact H
       have Ny382 := zqi hy382
       clear hy382
       have H' := zqi H
       clear H
       have hcz16_0 : wr.cell? ⟨gb369, 0, none⟩ = some (.int .i64 a0_0) := (zqe BK369.out 0).trans rfl
       have hcz16_1 : wr.cell? ⟨gb369, 1, none⟩ = some (.int .i64 a0_1) := (zqe BK369.out 1).trans rfl
       have hcz16_2 : wr.cell? ⟨gb369, 2, none⟩ = some (.int .i64 a0_2) := (zqe BK369.out 2).trans rfl
       have hcz16_3 : wr.cell? ⟨gb369, 3, none⟩ = some (.slice A0_3 l0_3.length c0_3) := (zqe BK369.out 3).trans rfl
       have hfz16_0 := zqd BK369.out 0
       have hfz16_1 := zqd BK369.out 1
       have hfz16_2 := zqd BK369.out 2
       have hfz16_3 := zqd BK369.out 3
       have p377 : 0 ≤ (x6_1 : Int) := of_decide_eq_true (by first | (with_reducible assumption) | assumption)
       have q377 : x6_1 < (l0_3.length : Int) := of_decide_eq_true (by first | (with_reducible assumption) | assumption)
       obtain ⟨ad377, e377, hx377_0, hx377_1, hx377_2, hx377_3, hx377_4, hx377_5⟩ := at_T34 HR0_3.out x6_1 p377 q377
       cases e377
       replace hx377_0 := (HB.out.cell (World.block_lt_of_cell? w _ hx377_0)).trans hx377_0
       replace hx377_1 := (HB.out.cell (World.block_lt_of_cell? w _ hx377_1)).trans hx377_1
       replace hx377_2 := (HB.out.cell (World.block_lt_of_cell? w _ hx377_2)).trans hx377_2
       replace hx377_3 := (HB.out.cell (World.block_lt_of_cell? w _ hx377_3)).trans hx377_3
       replace hx377_4 := (HB.out.cell (World.block_lt_of_cell? w _ hx377_4)).trans hx377_4
       replace hx377_5 := (HB.out.cell (World.block_lt_of_cell? w _ hx377_5)).trans hx377_5
       replace p377 := eq_true p377
       replace q377 := eq_true q377
       go_wp2_with (first | ((with_reducible refine gate_dst (N := 7) rfl ?_); refine box_event ?hg (N := 7) ?hd (cs := #[.int .i64 0, .int .i64 0, .int .i64 0, .int .i64 0, .int .i64 0, .int .i64 0]) (t := 34) ?hr ?_; (case hd => rfl); (case hg => rfl); (case hr => first | (go_simp; done) | (go_simp; rfl)); intro gb378 hg w17 hbox hb; have n0_ := zqi (Kd.N_below (Kd.N_elderB (by (with_reducible repeat (first | apply Kd.N_alloc | apply Kd.N_drewN | apply Kd.N_drew)); exact HO_5.out) gb378 (Nat.le_of_eq hg.symm)) hb); have n1_ := zqi (blk_below (g := gb369) (o := .cells #[.int .i64 a0_0, .int .i64 a0_1, .int .i64 a0_2, .slice (some ad377) l0_3.length c0_3] 26 (0, 0)) (by (with_reducible repeat (first | apply zqa | apply zqb | apply zqc)); exact BK369.out) hb); have n2_ := zqi (below_step (by repeat (first | (with_reducible first | exact HB.out | apply zqg | apply zqf | apply zqh | refine below_set ?_ GE369.out) | exact HB.out)) hb); have n3_ := zqi (hbox); have n4_ := zqi ((by rw [hg]; exact (below_size (by repeat (first | (with_reducible first | exact HB.out | apply zqg | apply zqf | apply zqh | refine below_set ?_ GE369.out) | exact HB.out))) : w.heap.size ≤ gb378)); have n5_ := zqi ((by rw [hg]; exact (below_size (by repeat (first | (with_reducible first | exact HB.out | apply zqg | apply zqf | apply zqh | refine below_set ?_ GE369.out) | exact HB.out))) : w.heap.size ≤ gb378)); have n6_ := zqi ((by rw [hg]; exact Nat.ne_of_lt (blk_lt (g := gb369) (o := .cells #[.int .i64 a0_0, .int .i64 a0_1, .int .i64 a0_2, .slice (some ad377) l0_3.length c0_3] 26 (0, 0)) (by (with_reducible repeat (first | apply zqa | apply zqb | apply zqc)); exact BK369.out)) : gb369 ≠ gb378)); have n7_ := zqi ((by rw [hg]; exact Nat.ne_of_gt (blk_lt (g := gb369) (o := .cells #[.int .i64 a0_0, .int .i64 a0_1, .int .i64 a0_2, .slice (some ad377) l0_3.length c0_3] 26 (0, 0)) (by (with_reducible repeat (first | apply zqa | apply zqb | apply zqc)); exact BK369.out)) : gb378 ≠ gb369)); clear HO_5; clear BK369; clear HB; have HO_5 := n0_; have BK369 := n1_; have HB := n2_; have BK378 := n3_; have GW378 := n4_; have GE378 := n5_; have NB369_378 := n6_; have NB378_369 := n7_; clear n0_ n1_ n2_ n3_ n4_ n5_ n6_ n7_; clear hb hbox hg; have hnb18 := NB378_369.out; have hnc18 := NB369_378.out; have hcz19_0 : w17.cell? ⟨gb378, 0, none⟩ = some (.int .i64 0) := (zqe BK378.out 0).trans rfl; have hcz19_1 : w17.cell? ⟨gb378, 1, none⟩ = some (.int .i64 0) := (zqe BK378.out 1).trans rfl; have hcz19_2 : w17.cell? ⟨gb378, 2, none⟩ = some (.int .i64 0) := (zqe BK378.out 2).trans rfl; have hcz19_3 : w17.cell? ⟨gb378, 3, none⟩ = some (.int .i64 0) := (zqe BK378.out 3).trans rfl; have hcz19_4 : w17.cell? ⟨gb378, 4, none⟩ = some (.int .i64 0) := (zqe BK378.out 4).trans rfl; have hcz19_5 : w17.cell? ⟨gb378, 5, none⟩ = some (.int .i64 0) := (zqe BK378.out 5).trans rfl; have hfz19_0 := zqd BK378.out 0; have hfz19_1 := zqd BK378.out 1; have hfz19_2 := zqd BK378.out 2; have hfz19_3 := zqd BK378.out 3; have hfz19_4 := zqd BK378.out 4; have hfz19_5 := zqd BK378.out 5) | ((with_reducible refine gate_dst (N := 45) rfl ?_); refine Kd.R_lit (Kd.int .i64) _ 3 ?hg (N := 45) ?hd (xs := ([(rd_T34 l0_3 x6_1).f0, (rd_T34 l0_3 x6_1).f1, (rd_T34 l0_3 x6_1).f2, (rd_T34 l0_3 x6_1).f3, (rd_T34 l0_3 x6_1).f4, (rd_T34 l0_3 x6_1).f5] : List Int)) (inner := [.int .i64 ((rd_T34 l0_3 x6_1).f0), .int .i64 ((rd_T34 l0_3 x6_1).f1), .int .i64 ((rd_T34 l0_3 x6_1).f2), .int .i64 ((rd_T34 l0_3 x6_1).f3), .int .i64 ((rd_T34 l0_3 x6_1).f4), .int .i64 ((rd_T34 l0_3 x6_1).f5)]) (ok := fun _ => True) (okp := fun _ => True) ?hr ?hp (fun _ hk => hk) trivial (Below.refl _ _) (Nat.le_refl _) (by simp) ?_; (case hd => rfl); (case hg => rfl); (case hr => first | (go_simp; done) | (go_simp; rfl)); (case hp => exact (Reps.one (show Kd.M (Kd.int .i64) _ _ _ ((rd_T34 l0_3 x6_1).f0) [.int .i64 ((rd_T34 l0_3 x6_1).f0)] from rfl) (Reps.one (show Kd.M (Kd.int .i64) _ _ _ ((rd_T34 l0_3 x6_1).f1) [.int .i64 ((rd_T34 l0_3 x6_1).f1)] from rfl) (Reps.one (show Kd.M (Kd.int .i64) _ _ _ ((rd_T34 l0_3 x6_1).f2) [.int .i64 ((rd_T34 l0_3 x6_1).f2)] from rfl) (Reps.one (show Kd.M (Kd.int .i64) _ _ _ ((rd_T34 l0_3 x6_1).f3) [.int .i64 ((rd_T34 l0_3 x6_1).f3)] from rfl) (Reps.one (show Kd.M (Kd.int .i64) _ _ _ ((rd_T34 l0_3 x6_1).f4) [.int .i64 ((rd_T34 l0_3 x6_1).f4)] from rfl) (Reps.one (show Kd.M (Kd.int .i64) _ _ _ ((rd_T34 l0_3 x6_1).f5) [.int .i64 ((rd_T34 l0_3 x6_1).f5)] from rfl) (Reps.none _ _)))))))); intro v380 w20 ho21 hb hg_ hnew_; clear hg_ hnew_; (first | rw [← Ny379.out] at ho21 | (simp only [Int.reduceToNat] at ho21; rw [← Ny379.out] at ho21)); have n0_ := zqi (Kd.N_elder' (by (with_reducible repeat (first | apply Kd.N_alloc | apply Kd.N_drewN | apply Kd.N_drew)); exact (Kd.N_mono (Kd.N_far (p := ⟨gb378, 5, none⟩) (Kd.N_far (p := ⟨gb378, 4, none⟩) (Kd.N_far (p := ⟨gb378, 3, none⟩) (Kd.N_far (p := ⟨gb378, 2, none⟩) (Kd.N_far (p := ⟨gb378, 1, none⟩) (Kd.N_far (p := ⟨gb378, 0, none⟩) (Kd.N_mono HO_5.out (fun k_ hk => (⟨hk, hk.2⟩ : _ ∧ k_ ≠ gb378))) (fun _ hk => hk.2) (.int .i64 ((rd_T34 l0_3 x6_1).f0))) (fun _ hk => hk.2) (.int .i64 ((rd_T34 l0_3 x6_1).f1))) (fun _ hk => hk.2) (.int .i64 ((rd_T34 l0_3 x6_1).f2))) (fun _ hk => hk.2) (.int .i64 ((rd_T34 l0_3 x6_1).f3))) (fun _ hk => hk.2) (.int .i64 ((rd_T34 l0_3 x6_1).f4))) (fun _ hk => hk.2) (.int .i64 ((rd_T34 l0_3 x6_1).f5))) (fun _ h_ => h_.1))) (Kd.R_base ho21) hb); have n1_ := zqi (Kd.R_lower ho21 (below_size (by repeat (first | (with_reducible first | exact HB.out | apply zqg | apply zqf | apply zqh | refine below_set ?_ GE369.out | refine below_set ?_ GE378.out) | exact HB.out)))); have n2_ := zqi (blk_below (g := gb369) (o := .cells #[.int .i64 a0_0, .int .i64 a0_1, .int .i64 a0_2, .slice (some ad377) l0_3.length c0_3] 26 (0, 0)) (by (with_reducible repeat (first | apply zqa | apply zqb | apply zqc)); refine blk_far ?_ NB369_378.out _; (with_reducible repeat (first | apply zqa | apply zqb | apply zqc)); refine blk_far ?_ NB369_378.out _; (with_reducible repeat (first | apply zqa | apply zqb | apply zqc)); refine blk_far ?_ NB369_378.out _; (with_reducible repeat (first | apply zqa | apply zqb | apply zqc)); refine blk_far ?_ NB369_378.out _; (with_reducible repeat (first | apply zqa | apply zqb | apply zqc)); refine blk_far ?_ NB369_378.out _; (with_reducible repeat (first | apply zqa | apply zqb | apply zqc)); refine blk_far ?_ NB369_378.out _; (with_reducible repeat (first | apply zqa | apply zqb | apply zqc)); exact BK369.out) hb); have n3_ := zqi (blk_below (g := gb378) (o := .cells #[.int .i64 ((rd_T34 l0_3 x6_1).f0), .int .i64 ((rd_T34 l0_3 x6_1).f1), .int .i64 ((rd_T34 l0_3 x6_1).f2), .int .i64 ((rd_T34 l0_3 x6_1).f3), .int .i64 ((rd_T34 l0_3 x6_1).f4), .int .i64 ((rd_T34 l0_3 x6_1).f5)] 34 (0, 0)) (by (with_reducible repeat (first | apply zqa | apply zqb | apply zqc)); refine blk_put (cs := #[.int .i64 ((rd_T34 l0_3 x6_1).f0), .int .i64 ((rd_T34 l0_3 x6_1).f1), .int .i64 ((rd_T34 l0_3 x6_1).f2), .int .i64 ((rd_T34 l0_3 x6_1).f3), .int .i64 ((rd_T34 l0_3 x6_1).f4), .int .i64 0]) ?_ 5 _ rfl; (with_reducible repeat (first | apply zqa | apply zqb | apply zqc)); refine blk_put (cs := #[.int .i64 ((rd_T34 l0_3 x6_1).f0), .int .i64 ((rd_T34 l0_3 x6_1).f1), .int .i64 ((rd_T34 l0_3 x6_1).f2), .int .i64 ((rd_T34 l0_3 x6_1).f3), .int .i64 0, .int .i64 0]) ?_ 4 _ rfl; (with_reducible repeat (first | apply zqa | apply zqb | apply zqc)); refine blk_put (cs := #[.int .i64 ((rd_T34 l0_3 x6_1).f0), .int .i64 ((rd_T34 l0_3 x6_1).f1), .int .i64 ((rd_T34 l0_3 x6_1).f2), .int .i64 0, .int .i64 0, .int .i64 0]) ?_ 3 _ rfl; (with_reducible repeat (first | apply zqa | apply zqb | apply zqc)); refine blk_put (cs := #[.int .i64 ((rd_T34 l0_3 x6_1).f0), .int .i64 ((rd_T34 l0_3 x6_1).f1), .int .i64 0, .int .i64 0, .int .i64 0, .int .i64 0]) ?_ 2 _ rfl; (with_reducible repeat (first | apply zqa | apply zqb | apply zqc)); refine blk_put (cs := #[.int .i64 ((rd_T34 l0_3 x6_1).f0), .int .i64 0, .int .i64 0, .int .i64 0, .int .i64 0, .int .i64 0]) ?_ 1 _ rfl; (with_reducible repeat (first | apply zqa | apply zqb | apply zqc)); refine blk_put (cs := #[.int .i64 0, .int .i64 0, .int .i64 0, .int .i64 0, .int .i64 0, .int .i64 0]) ?_ 0 _ rfl; (with_reducible repeat (first | apply zqa | apply zqb | apply zqc)); exact BK378.out) hb); have n4_ := zqi (below_step (by repeat (first | (with_reducible first | exact HB.out | apply zqg | apply zqf | apply zqh | refine below_set ?_ GE369.out | refine below_set ?_ GE378.out) | exact HB.out)) hb); clear HO_5; clear BK369; clear BK378; clear HB; have HO_5 := n0_; have HO381 := n1_; have BK369 := n2_; have BK378 := n3_; have HB := n4_; clear n0_ n1_ n2_ n3_ n4_; clear hb ho21; obtain ⟨Ao23, co23, eo23⟩ := Kd.R_slice HO381.out; subst eo23) | ((with_reducible refine gate_builtin (b := .append) (xs := #[.tmp 32, .tmp 46]) rfl ?_); at_builtin; refine Kd.N_append (Kd.slice 3 (Kd.int .i64)) (w0 := w) w.heap.size rfl (.tmp 32) (.tmp 46) 40 43 (.slice none 0 0) 24 rfl Tryd.underlying40 info43 rfl (by decide) (by omega) u5 x5_1 y379 [.slice Ao23 y379.length co23] (fun k_ => k_ ≠ gb369 ∧ k_ ≠ gb378) (fun k_ => ((fun k_ => k_ ≠ gb369 ∧ k_ ≠ gb378)) k_ ∧ some k_ ≠ (u5 : Value).ownBlock) rfl rfl ?aP (fun _ hk => hk) ?aF ?aO ?aB ?aS ?aL ?_; (case aP => exact (Kd.FK_slice_mk (Kd.R_reads' (Kd.R_mono (ok' := (fun k_ => ((fun k_ => k_ ≠ gb369 ∧ k_ ≠ gb378)) k_ ∧ some k_ ≠ (u5 : Value).ownBlock)) (Kd.R_types (Kd.R_types (Kd.R_apart' (HO381.out) (Kd.N_typed HO_5.out) (by decide)) BK369.out (by decide)) BK378.out (by decide)) (fun k_ hk => ⟨⟨hk.1.2, hk.2⟩, hk.1.1.2⟩))).2.1 (Kd.R_F (Kd.R_mono (ok' := (fun k_ => ((fun k_ => k_ ≠ gb369 ∧ k_ ≠ gb378)) k_ ∧ some k_ ≠ (u5 : Value).ownBlock)) (Kd.R_types (Kd.R_types (Kd.R_apart' (HO381.out) (Kd.N_typed HO_5.out) (by decide)) BK369.out (by decide)) BK378.out (by decide)) (fun k_ hk => ⟨⟨hk.1.2, hk.2⟩, hk.1.1.2⟩))))); (case aB => exact (by repeat (first | (with_reducible first | exact HB.out | apply zqg | apply zqf | apply zqh | refine below_set ?_ GE369.out | refine below_set ?_ GE378.out) | exact HB.out))); (case aF => exact (fun k_ hk => ⟨Kd.freshB (g := gb369) (o := .cells #[.int .i64 a0_0, .int .i64 a0_1, .int .i64 a0_2, .slice (some ad377) l0_3.length c0_3] 26 (0, 0)) (by (with_reducible repeat (first | apply zqa | apply zqb | apply zqc)); exact BK369.out) k_ hk, Kd.freshB (g := gb378) (o := .cells #[.int .i64 ((rd_T34 l0_3 x6_1).f0), .int .i64 ((rd_T34 l0_3 x6_1).f1), .int .i64 ((rd_T34 l0_3 x6_1).f2), .int .i64 ((rd_T34 l0_3 x6_1).f3), .int .i64 ((rd_T34 l0_3 x6_1).f4), .int .i64 ((rd_T34 l0_3 x6_1).f5)] 34 (0, 0)) (by (with_reducible repeat (first | apply zqa | apply zqb | apply zqc)); exact BK378.out) k_ hk⟩)); (case aO => exact (by (with_reducible repeat (first | apply Kd.N_alloc | apply Kd.N_drewN | apply Kd.N_drew)); exact Kd.N_mono HO_5.out (fun _ hk => ⟨hk.1.1, hk.1.2⟩))); (case aS => exact (below_size (by repeat (first | (with_reducible first | exact HB.out | apply zqg | apply zqf | apply zqh | refine below_set ?_ GE369.out | refine below_set ?_ GE378.out) | exact HB.out)))); (case aL => have := LMc15.out; omega); intro v383 w22 ho hb hg hat; rw [← Ny382.out] at ho; have n0_ := zqi (blk_grown (g := gb369) (o := .cells #[.int .i64 a0_0, .int .i64 a0_1, .int .i64 a0_2, .slice (some ad377) l0_3.length c0_3] 26 (0, 0)) (by (with_reducible repeat (first | apply zqa | apply zqb | apply zqc)); exact BK369.out) hg (Kd.N_ne HO_5.out BK369.out (by decide))); have n1_ := zqi (blk_grown (g := gb378) (o := .cells #[.int .i64 ((rd_T34 l0_3 x6_1).f0), .int .i64 ((rd_T34 l0_3 x6_1).f1), .int .i64 ((rd_T34 l0_3 x6_1).f2), .int .i64 ((rd_T34 l0_3 x6_1).f3), .int .i64 ((rd_T34 l0_3 x6_1).f4), .int .i64 ((rd_T34 l0_3 x6_1).f5)] 34 (0, 0)) (by (with_reducible repeat (first | apply zqa | apply zqb | apply zqc)); exact BK378.out) hg (Kd.N_ne HO_5.out BK378.out (by decide))); have n2_ := zqi (hb); have n3_ := zqi (ho); clear BK369; clear BK378; clear HB; clear HO_5; clear HO381; have BK369 := n0_; have BK378 := n1_; have HB := n2_; have HO384 := n3_; clear n0_ n1_ n2_ n3_; clear ho hb hg hat))
       go_roundg k1
       case measure => have := HK1.out; omega
       case rel => exact ⟨(y382), (wrap64 (x6_1 + 1)), (by first | rfl | (simp; done) | (simp [*]; done)), H', ⟨by have := HK1.out; omega⟩, ⟨by (with_reducible repeat (first | apply Kd.N_alloc | apply Kd.N_drewN | apply Kd.N_drew)); exact Kd.N_mono HO384.out (fun _ hk => hk.1)⟩, ⟨by (with_reducible repeat (first | apply zqa | apply zqb | apply zqc)); exact BK369.out⟩, ⟨by repeat (first | (with_reducible first | exact HB.out | apply zqg | apply zqf | apply zqh | refine below_set ?_ GE369.out | refine below_set ?_ GE378.out) | exact HB.out)⟩⟩
      ·
       rw [if_neg c15] at H
       exact absurd H (by simp)
     ·
      rw [if_neg c14] at H
      exact absurd H (by simp)
    ·
     rw [if_neg c13] at H
     have c13b0 : decide (x6_1 < (l0_3.length : Int)) = false := decide_eq_false c13
     clear c13
     replace H := Option.bind_eq_some_iff.mp H
     obtain ⟨t385, A240, H⟩ := H
     replace H : (some (t385, 0)) = some (r1, r2) := H
     have A24 := zqi A240
     clear A240
     simp only [Option.some.injEq, Prod.mk.injEq] at H
     obtain ⟨rfl, rfl⟩ := H
     have hcz25_0 : wr.cell? ⟨gb369, 0, none⟩ = some (.int .i64 a0_0) := (zqe BK369.out 0).trans rfl
     have hcz25_1 : wr.cell? ⟨gb369, 1, none⟩ = some (.int .i64 a0_1) := (zqe BK369.out 1).trans rfl
     have hcz25_2 : wr.cell? ⟨gb369, 2, none⟩ = some (.int .i64 a0_2) := (zqe BK369.out 2).trans rfl
     have hcz25_3 : wr.cell? ⟨gb369, 3, none⟩ = some (.slice A0_3 l0_3.length c0_3) := (zqe BK369.out 3).trans rfl
     have hfz25_0 := zqd BK369.out 0
     have hfz25_1 := zqd BK369.out 1
     have hfz25_2 := zqd BK369.out 2
     have hfz25_3 := zqd BK369.out 3
     obtain ⟨Ao26, co26, eo26⟩ := Kd.N_slice HO_5.out
     subst eo26
     go_wp2_with (first | ((with_reducible refine gate_callee (f := 27) rfl ?_); refine goesL_ (some 49) rfl rfl Tryd.func27 (by kernel_rfl) rfl #[.slice Ao26 x5_1.length co26] rfl (by (try simp only [List.map_toArray, List.map_cons, List.map_nil]); first | done | rfl | (simp only [List.length_drop, List.length_take]; rfl)) ?_; (with_reducible refine (haulierref04_Print.calls k1 _ _ x5_1 t385 _ ?side1 ?side2 A24.out).mono ?_); (case side1 => repeat (first | exact (Kd.N_reads' HO_5.out).2.2 | (with_reducible refine Kd.C_alloc ?_ _) | (with_reducible refine Kd.C_drewN ?_ _) | (with_reducible refine Kd.C_drew ?_))); (case side2 => exact (Kd.N_reads' HO_5.out).2.1); rintro e w27 ⟨v386, rfl, ho0, hb⟩; refine ⟨_, rfl, ?_⟩; have n0_ := zqi (Kd.N_elder' (by (with_reducible repeat (first | apply Kd.N_alloc | apply Kd.N_drewN | apply Kd.N_drew)); exact HO_5.out) (Kd.R_base ho0) hb); have n1_ := zqi (Kd.R_lower ho0 (below_size (by repeat (first | (with_reducible first | exact HB.out | apply zqg | apply zqf | apply zqh | refine below_set ?_ GE369.out) | exact HB.out)))); have n2_ := zqi (blk_below (g := gb369) (o := .cells #[.int .i64 a0_0, .int .i64 a0_1, .int .i64 a0_2, .slice A0_3 l0_3.length c0_3] 26 (0, 0)) (by (with_reducible repeat (first | apply zqa | apply zqb | apply zqc)); exact BK369.out) hb); have n3_ := zqi (below_step (by repeat (first | (with_reducible first | exact HB.out | apply zqg | apply zqf | apply zqh | refine below_set ?_ GE369.out) | exact HB.out)) hb); clear HO_5; clear BK369; clear HB; have HO_5 := n0_; have HO387 := n1_; have BK369 := n2_; have HB := n3_; clear n0_ n1_ n2_ n3_; (try clear hb); (try clear hb2); (try clear hk); (try clear hi); (try clear ho0)))
     go_ret2
     exact ⟨_, by first | rfl | (simp [errW_none, errW_some] <;> rfl) | (simp [*, errW_none, errW_some] <;> rfl), by (with_reducible repeat (first | apply Kd.R_alloc | apply Kd.R_drewN | apply Kd.R_drew)); exact HO387.out, by repeat (first | (with_reducible first | exact HB.out | apply zqg | apply zqf | apply zqh | refine below_set ?_ GE369.out) | exact HB.out)⟩
 ·
  replace c3 := Bool.eq_false_iff.mpr c3
  subst c3
  have H1 : (some (([] : List Int), 1)) = some (r1, r2) := by rw [if_neg (show ¬ (false = true) by decide)] at H; exact H
  clear H
  have H := H1
  clear H1
  simp only [Option.some.injEq, Prod.mk.injEq] at H
  obtain ⟨rfl, rfl⟩ := H
  go_enter Tryd.func15, Tryd.ntmps15
  go_wp2_with (first | ((with_reducible refine gate_dst (N := 1) rfl ?_); refine box_event ?hg (N := 1) ?hd (cs := #[.int .i64 a0_0, .int .i64 a0_1, .int .i64 a0_2, .slice A0_3 l0_3.length c0_3]) (t := 26) ?hr ?_; (case hd => rfl); (case hg => rfl); (case hr => first | (go_simp; done) | (go_simp; rfl)); intro gb369 hg w28 hbox hb; have n0_ := zqi (below_step (by repeat (first | (with_reducible first | exact HB.out | apply zqg | apply zqf | apply zqh) | exact HB.out)) hb); have n1_ := zqi (hbox); have n2_ := zqi ((by rw [hg]; exact (below_size (by repeat (first | (with_reducible first | exact HB.out | apply zqg | apply zqf | apply zqh) | exact HB.out))) : w.heap.size ≤ gb369)); have n3_ := zqi ((by rw [hg]; exact (below_size (by repeat (first | (with_reducible first | exact HB.out | apply zqg | apply zqf | apply zqh) | exact HB.out))) : w.heap.size ≤ gb369)); clear HB; have HB := n0_; have BK369 := n1_; have GW369 := n2_; have GE369 := n3_; clear n0_ n1_ n2_ n3_; clear hb hbox hg; have hcz29_0 : w28.cell? ⟨gb369, 0, none⟩ = some (.int .i64 a0_0) := (zqe BK369.out 0).trans rfl; have hcz29_1 : w28.cell? ⟨gb369, 1, none⟩ = some (.int .i64 a0_1) := (zqe BK369.out 1).trans rfl; have hcz29_2 : w28.cell? ⟨gb369, 2, none⟩ = some (.int .i64 a0_2) := (zqe BK369.out 2).trans rfl; have hcz29_3 : w28.cell? ⟨gb369, 3, none⟩ = some (.slice A0_3 l0_3.length c0_3) := (zqe BK369.out 3).trans rfl; have hfz29_0 := zqd BK369.out 0; have hfz29_1 := zqd BK369.out 1; have hfz29_2 := zqd BK369.out 2; have hfz29_3 := zqd BK369.out 3) | ((with_reducible refine gate_callee (f := 16) rfl ?_); refine goesL_ (some 9) rfl rfl Tryd.func16 (by kernel_rfl) rfl #[.agg #[.int .i64 a0_0, .int .i64 a0_1, .int .i64 a0_2, .slice A0_3 l0_3.length c0_3]] rfl (by (try simp only [List.map_toArray, List.map_cons, List.map_nil]); first | done | rfl | (simp only [List.length_drop, List.length_take]; rfl)) ?_; (with_reducible refine (haulierref05_May.calls k a0_0 a0_1 a0_2 _ _ l0_3 false _ ?side1 ?side2 A2.out).mono ?_); (case side1 => repeat (first | exact (Kd.C_below HR0_3.out HB.out) | (with_reducible refine Kd.C_alloc ?_ _) | (with_reducible refine Kd.C_drewN ?_ _) | (with_reducible refine Kd.C_drew ?_))); (case side2 => exact HC0_3.out); rintro e w30 ⟨rfl, hb⟩; refine ⟨_, rfl, ?_⟩; have n0_ := zqi (blk_below (g := gb369) (o := .cells #[.int .i64 a0_0, .int .i64 a0_1, .int .i64 a0_2, .slice A0_3 l0_3.length c0_3] 26 (0, 0)) (by (with_reducible repeat (first | apply zqa | apply zqb | apply zqc)); exact BK369.out) hb); have n1_ := zqi (below_step (by repeat (first | (with_reducible first | exact HB.out | apply zqg | apply zqf | apply zqh | refine below_set ?_ GE369.out) | exact HB.out)) hb); clear BK369; clear HB; have BK369 := n0_; have HB := n1_; clear n0_ n1_; (try clear hb); (try clear hb2); (try clear hk); (try clear hi)))
  go_ret2
  exact ⟨_, by first | rfl | (simp [errW_none, errW_some] <;> rfl) | (simp [*, errW_none, errW_some] <;> rfl), by first | exact Kd.R_nil _ _ _ _ _ | exact Kd.N_nil _ _ _ _ _ | exact Kd.V_nil _ _ _ _ _ | exact Kd.Q_nil _ _ _ _ _ | exact Kd.S_nil _ _ _ _ _, by repeat (first | (with_reducible first | exact HB.out | apply zqg | apply zqf | apply zqh | refine below_set ?_ GE369.out) | exact HB.out)⟩

/-! ### inst_Same: function 17, BY HAND -/
def inst_Same.f (k : Nat) (a0_0 a0_1 a0_2 : Int) (l0_3 : List S34) (a1_0 a1_1 a1_2 : Int) (l1_3 : List S34) : Option Bool := if (a0_0 == a1_0 && (a0_1 == a1_1 && a0_2 == a1_2)) = true then api_Stop.f k l0_3 l1_3 else some false
theorem inst_Same.mono : ∀ (a0_0 a0_1 a0_2 : Int) (l0_3 : List S34) (a1_0 a1_1 a1_2 : Int) (l1_3 : List S34) (k : Nat), LeO (inst_Same.f k a0_0 a0_1 a0_2 l0_3 a1_0 a1_1 a1_2 l1_3) (inst_Same.f (k + 1) a0_0 a0_1 a0_2 l0_3 a1_0 a1_1 a1_2 l1_3) := by
  intro a0_0 a0_1 a0_2 l0_3 a1_0 a1_1 a1_2 l1_3 k
  unfold inst_Same.f
  exact LeO.ite (api_Stop.mono _ _ _) (LeO.refl _)
theorem hidS {p : Prop} (h : p) : Hid p := h
theorem eqArr3 (d : Nat) (w : World) (x0 x1 x2 y0 y1 y2 : Int) : (Op.equalIn (d + 2) 52 (.agg #[.int .i64 x0, .int .i64 x1, .int .i64 x2]) (.agg #[.int .i64 y0, .int .i64 y1, .int .i64 y2])).run Tryd.prog w = .ok (x0 == y0 && (x1 == y1 && x2 == y2)) w := by
  obtain ⟨i0, hi, _, _, _⟩ := info_parts info3
  rw [run_equalIn_array (P := Tryd.prog) (w := w) (d + 1) _ _ Tryd.underlying52 hi, show Tryd.prog.cellsOf 3 = 1 by kernel_rfl, show List.range 3 = [0, 1, 2] from rfl]
  simp only [Op.eqItems]
  go_simp
  cases h0 : (x0 == y0) <;> cases h1 : (x1 == y1) <;> cases h2 : (x2 == y2) <;> go_simp <;> simp_all
theorem goesV_ {P : Program} {ops : Array Oper} {Q : Exit → Act → World → Prop} {oi : Oper} {N : Option Tmp} {a : Act} {w : World} {K : Act → World → Prop} {f : FuncId} {fn : Func} {x : Operand} {as_ : Array Operand} {ts : Array TypeId} (hf : P.funcs[f]? = some fn) (hname : (fn.name == "runtime.NumGoroutine") = false) (hb : fn.body.isSome = true) (args : Array Value)
    (hw : Region.wanted oi (yielded ops a.tmps) = true) (hN : oi.dst = N) (hop : oi.op = .call { callee := .value x, args := as_, argTypes := ts }) (hx : a.eval x = .func (.func f) #[] #[]) (hargs : as_.map a.eval = args)
    (h : Calls P f args w fun e w' => ∃ v, e = .returned v ∧ K (a.put N v) w') : if Region.wanted oi (yielded ops a.tmps) = true then Oper.wp P oi a w K Q else K (a.put N undef) w := by
  refine call_ f args hw hN ?_ h
  have he := enters_ hf hname hb args w
  unfold execOp
  simp [hop, resolve, Deferred.ofValue, invoke, hx, hargs, he]
set_option maxHeartbeats 1000000 in
theorem head_same (a0 a1 a2 : Int) (A : Option Addr) (n c : Nat) (w : World) : Calls Tryd.prog 30 #[.agg #[.int .i64 a0, .int .i64 a1, .int .i64 a2, .slice A n c]] w fun e w' => e = .returned (.agg #[.int .i64 a0, .int .i64 a1, .int .i64 a2]) ∧ Below w.heap.size w w' := by
  go_enter Tryd.func30, Tryd.ntmps30
  go_wp2
  refine bodyPost_ret (v := .agg #[.int .i64 a0, .int .i64 a1, .int .i64 a2]) ?_ rfl ⟨rfl, ?_⟩
  · (simp only [results, Tryd.results30]; go_simp)
  · exact below_alloc (below_alloc (Below.refl _ _) _) _
/-- Both arguments lie in their boxes. -/
abbrev SameS (w : World) (a0 a1 a2 : Int) (A : Option Addr) (n c : Nat) (b0 b1 b2 : Int) (B : Option Addr) (m d : Nat) (w' : World) : Prop := Below w.heap.size w w' ∧ w'.heap[w.heap.size]? = some (.cells #[.int .i64 a0, .int .i64 a1, .int .i64 a2, .slice A n c] 26 (0, 0)) ∧ w'.heap[w.heap.size + 1]? = some (.cells #[.int .i64 b0, .int .i64 b1, .int .i64 b2, .slice B m d] 26 (0, 0))
attribute [local go_sem high] eqArr3
set_option maxHeartbeats 8000000 in
set_option maxRecDepth 100000 in
theorem inst_Same.calls (k : Nat) (a0_0 : Int) (a0_1 : Int) (a0_2 : Int) (A0_3 : Option Addr) (c0_3 : Nat) (l0_3 : List S34) (a1_0 : Int) (a1_1 : Int) (a1_2 : Int) (A1_3 : Option Addr) (c1_3 : Nat) (l1_3 : List S34) (r : Bool) (w : World) (hr0_3 : Kd.C k34 w A0_3 l0_3.length l0_3) (hc0_3 : l0_3.length ≤ c0_3) (hr1_3 : Kd.C k34 w A1_3 l1_3.length l1_3) (hc1_3 : l1_3.length ≤ c1_3) (h : inst_Same.f k a0_0 a0_1 a0_2 l0_3 a1_0 a1_1 a1_2 l1_3 = some r) :
    Calls Tryd.prog 17 #[.agg #[.int .i64 a0_0, .int .i64 a0_1, .int .i64 a0_2, .slice A0_3 l0_3.length c0_3], .agg #[.int .i64 a1_0, .int .i64 a1_1, .int .i64 a1_2, .slice A1_3 l1_3.length c1_3]] w fun e w' => e = .returned (.bool r) ∧ Below w.heap.size w w' := by
  unfold inst_Same.f at h
  have HX := hidS hr0_3
  have HCX := hidS hc0_3
  have HY := hidS hr1_3
  have HCY := hidS hc1_3
  clear hr0_3 hc0_3 hr1_3 hc1_3
  cases hq : (a0_0 == a1_0 && (a0_1 == a1_1 && a0_2 == a1_2)) with
  | true =>
    rw [hq, if_pos rfl] at h
    have HE := hidS h
    clear h
    go_enter Tryd.func17, Tryd.ntmps17
    go_wp2
    refine start_ (n := 15) (S := SameS w a0_0 a0_1 a0_2 A0_3 l0_3.length c0_3 a1_0 a1_1 a1_2 A1_3 l1_3.length c1_3) (ds := []) #[false, false, false, false, false, false, false, false, false, false, false, false, false, false, false] (by kernel_rfl) rfl rfl ?S0 (fun hHeld => ?_)
    case S0 => exact ⟨by simpa using below_drew1 (below_alloc (below_alloc (Below.refl w.heap.size w) _) _), by show ((w.heap.push _).push _)[w.heap.size]? = _; simp [Array.getElem?_push], by show ((w.heap.push _).push _)[w.heap.size + 1]? = _; rw [Array.getElem?_push]; simp⟩
    generalize World.drew _ = w0 at hHeld ⊢
    refine pure_ (i := 0) (N := some 6) (v := ?_) (a' := ?_) #[true, false, false, false, false, false, false, false, false, false, false, false, false, false, false] rfl rfl (by kernel_rfl) (fun _ _ _ h => h) (Or.inl ⟨by rfl, ?_⟩) ?_ ?_
    rotate_left
    · intro w'
      go_simp
      with_reducible rfl
    rotate_left
    · simp only [Act.put, List.setIfInBounds_toArray, List.set_cons_zero, List.set_cons_succ, i64_w, i32_w]
      rfl
    refine pure_ (i := 3) (N := some 9) (v := ?_) (a' := ?_) #[true, false, false, true, false, false, false, false, false, false, false, false, false, false, false] rfl rfl (by kernel_rfl) (fun _ _ _ h => h) (Or.inl ⟨by rfl, ?_⟩) ?_ ?_
    rotate_left
    · intro w'
      go_simp
      with_reducible rfl
    rotate_left
    · simp only [Act.put, List.setIfInBounds_toArray, List.set_cons_zero, List.set_cons_succ, i64_w, i32_w]
      rfl
    refine take_ (i := 1) (N := some 7) (v := ?_) (a' := ?_) #[true, true, false, true, false, false, false, false, false, false, false, false, false, false, false] rfl rfl (by kernel_rfl) (fun _ _ _ h => h) (Or.inl ⟨by rfl, ?_⟩) hHeld ?_ ?_
    rotate_left
    · rintro w' ⟨hB_, hx_, hy_⟩
      have x0 := (blk_cell hx_ 0)
      have x1 := (blk_cell hx_ 1)
      have x2 := (blk_cell hx_ 2)
      have x3 := (blk_cell hx_ 3)
      simp only [List.getElem?_toArray, List.getElem?_cons_zero, List.getElem?_cons_succ] at x0 x1 x2 x3
      go_simp
      with_reducible rfl
    rotate_left
    · simp only [Act.put, List.setIfInBounds_toArray, List.set_cons_zero, List.set_cons_succ, i64_w, i32_w]
      rfl
    refine take_ (i := 4) (N := some 10) (v := ?_) (a' := ?_) #[true, true, false, true, true, false, false, false, false, false, false, false, false, false, false] rfl rfl (by kernel_rfl) (fun _ _ _ h => h) (Or.inl ⟨by rfl, ?_⟩) hHeld ?_ ?_
    rotate_left
    · rintro w' ⟨hB_, hx_, hy_⟩
      have y0 := (blk_cell hy_ 0)
      have y1 := (blk_cell hy_ 1)
      have y2 := (blk_cell hy_ 2)
      have y3 := (blk_cell hy_ 3)
      simp only [List.getElem?_toArray, List.getElem?_cons_zero, List.getElem?_cons_succ] at y0 y1 y2 y3
      go_simp
      with_reducible rfl
    rotate_left
    · simp only [Act.put, List.setIfInBounds_toArray, List.set_cons_zero, List.set_cons_succ, i64_w, i32_w]
      rfl
    refine one_ (i := 2) (N := some 8) #[true, true, true, true, true, false, false, false, false, false, false, false, false, false, false] rfl rfl (by kernel_rfl) (by decide) (fun K hK => ?_)
    refine goesV_ Tryd.func30 (by kernel_rfl) rfl #[.agg #[.int .i64 a0_0, .int .i64 a0_1, .int .i64 a0_2, .slice A0_3 l0_3.length c0_3]] (by rfl) rfl rfl (by rfl) (by (try simp only [List.map_toArray, List.map_cons, List.map_nil]); first | done | rfl) ?_
    with_reducible refine (head_same a0_0 a0_1 a0_2 A0_3 l0_3.length c0_3 _).mono ?_
    rintro e w1 ⟨rfl, hb⟩
    refine ⟨_, rfl, ?_⟩
    have hS_ := hHeld
    have hS2_ : SameS w a0_0 a0_1 a0_2 A0_3 l0_3.length c0_3 a1_0 a1_1 a1_2 A1_3 l1_3.length c1_3 w1 := ⟨hS_.1.trans (hb.mono hS_.1.size), (hb.block _ (blk_lt hS_.2.1)).trans hS_.2.1, (hb.block _ (blk_lt hS_.2.2)).trans hS_.2.2⟩
    clear hS_ hb hHeld
    refine hK.out _ _ hS2_ (fun hHeld => ?_)
    clear hK K hS2_
    refine norm_ (a' := ?_) ?_ ?_
    rotate_left
    · show Act.put _ (some 8) _ = _
      simp only [Act.put, List.setIfInBounds_toArray, List.set_cons_zero, List.set_cons_succ, i64_w, i32_w]
      rfl
    refine one_ (i := 5) (N := some 11) #[true, true, true, true, true, true, false, false, false, false, false, false, false, false, false] rfl rfl (by kernel_rfl) (by decide) (fun K hK => ?_)
    refine goesV_ Tryd.func30 (by kernel_rfl) rfl #[.agg #[.int .i64 a1_0, .int .i64 a1_1, .int .i64 a1_2, .slice A1_3 l1_3.length c1_3]] (by rfl) rfl rfl (by rfl) (by (try simp only [List.map_toArray, List.map_cons, List.map_nil]); first | done | rfl) ?_
    with_reducible refine (head_same a1_0 a1_1 a1_2 A1_3 l1_3.length c1_3 _).mono ?_
    rintro e w1 ⟨rfl, hb⟩
    refine ⟨_, rfl, ?_⟩
    have hS_ := hHeld
    have hS2_ : SameS w a0_0 a0_1 a0_2 A0_3 l0_3.length c0_3 a1_0 a1_1 a1_2 A1_3 l1_3.length c1_3 w1 := ⟨hS_.1.trans (hb.mono hS_.1.size), (hb.block _ (blk_lt hS_.2.1)).trans hS_.2.1, (hb.block _ (blk_lt hS_.2.2)).trans hS_.2.2⟩
    clear hS_ hb hHeld
    refine hK.out _ _ hS2_ (fun hHeld => ?_)
    clear hK K hS2_
    refine norm_ (a' := ?_) ?_ ?_
    rotate_left
    · show Act.put _ (some 11) _ = _
      simp only [Act.put, List.setIfInBounds_toArray, List.set_cons_zero, List.set_cons_succ, i64_w, i32_w]
      rfl
    refine pure_ (i := 6) (N := some 12) (v := ?_) (a' := ?_) #[true, true, true, true, true, true, true, false, false, false, false, false, false, false, false] rfl rfl (by kernel_rfl) (fun _ _ _ h => h) (Or.inl ⟨by rfl, ?_⟩) ?_ ?_
    rotate_left
    · intro w'
      go_simp
      with_reducible rfl
    rotate_left
    · simp only [Act.put, List.setIfInBounds_toArray, List.set_cons_zero, List.set_cons_succ, i64_w, i32_w]
      rfl
    refine pure_ (i := 7) (N := some 13) (v := ?_) (a' := ?_) #[true, true, true, true, true, true, true, true, false, false, false, false, false, false, false] rfl rfl (by kernel_rfl) (fun _ _ _ h => h) (Or.inl ⟨by rfl, ?_⟩) ?_ ?_
    rotate_left
    · intro w'
      go_simp
      with_reducible rfl
    rotate_left
    · simp only [Act.put, List.setIfInBounds_toArray, List.set_cons_zero, List.set_cons_succ, i64_w, i32_w]
      rfl
    refine pure_ (i := 8) (N := some 14) (v := ?_) (a' := ?_) #[true, true, true, true, true, true, true, true, true, false, false, false, false, false, false] rfl rfl (by kernel_rfl) (fun _ _ _ h => h) (Or.inl ⟨by rfl, ?_⟩) ?_ ?_
    rotate_left
    · intro w'
      go_simp
      with_reducible rfl
    rotate_left
    · simp only [Act.put, List.setIfInBounds_toArray, List.set_cons_zero, List.set_cons_succ, i64_w, i32_w]
      rfl
    refine pure_ (i := 10) (N := some 16) (v := ?_) (a' := ?_) #[true, true, true, true, true, true, true, true, true, false, true, false, false, false, false] rfl rfl (by kernel_rfl) (fun _ _ _ h => h) (Or.inl ⟨by rfl, ?_⟩) ?_ ?_
    rotate_left
    · intro w'
      go_simp
      with_reducible rfl
    rotate_left
    · simp only [Act.put, List.setIfInBounds_toArray, List.set_cons_zero, List.set_cons_succ, i64_w, i32_w]
      rfl
    refine take_ (i := 9) (N := some 15) (v := ?_) (a' := ?_) #[true, true, true, true, true, true, true, true, true, true, true, false, false, false, false] rfl rfl (by kernel_rfl) (fun _ _ _ h => h) (Or.inl ⟨by rfl, ?_⟩) hHeld ?_ ?_
    rotate_left
    · rintro w' ⟨hB_, hx_, hy_⟩
      have x0 := (blk_cell hx_ 0)
      have x1 := (blk_cell hx_ 1)
      have x2 := (blk_cell hx_ 2)
      have x3 := (blk_cell hx_ 3)
      simp only [List.getElem?_toArray, List.getElem?_cons_zero, List.getElem?_cons_succ] at x0 x1 x2 x3
      go_simp
      with_reducible rfl
    rotate_left
    · simp only [Act.put, List.setIfInBounds_toArray, List.set_cons_zero, List.set_cons_succ, i64_w, i32_w]
      rfl
    refine take_ (i := 11) (N := some 17) (v := ?_) (a' := ?_) #[true, true, true, true, true, true, true, true, true, true, true, true, false, false, false] rfl rfl (by kernel_rfl) (fun _ _ _ h => h) (Or.inl ⟨by rfl, ?_⟩) hHeld ?_ ?_
    rotate_left
    · rintro w' ⟨hB_, hx_, hy_⟩
      have y0 := (blk_cell hy_ 0)
      have y1 := (blk_cell hy_ 1)
      have y2 := (blk_cell hy_ 2)
      have y3 := (blk_cell hy_ 3)
      simp only [List.getElem?_toArray, List.getElem?_cons_zero, List.getElem?_cons_succ] at y0 y1 y2 y3
      go_simp
      with_reducible rfl
    rotate_left
    · simp only [Act.put, List.setIfInBounds_toArray, List.set_cons_zero, List.set_cons_succ, i64_w, i32_w]
      rfl
    refine one_ (i := 12) (N := some 18) #[true, true, true, true, true, true, true, true, true, true, true, true, true, false, false] rfl rfl (by kernel_rfl) (by decide) (fun K hK => ?_)
    refine goes_ Tryd.func31 (by kernel_rfl) rfl #[.slice A0_3 l0_3.length c0_3, .slice A1_3 l1_3.length c1_3] (by rfl) rfl rfl (by (try simp only [List.map_toArray, List.map_cons, List.map_nil]); first | done | rfl) ?_
    with_reducible refine (api_Stop.calls k _ _ l0_3 _ _ l1_3 r _ (Kd.C_below HX.out hHeld.1) HCX.out (Kd.C_below HY.out hHeld.1) HCY.out HE.out).mono ?_
    rintro e w1 ⟨rfl, hq_⟩
    refine ⟨_, rfl, ?_⟩
    obtain ⟨nd, rfl⟩ := hq_
    have hS_ := hHeld
    have hS2_ : SameS w a0_0 a0_1 a0_2 A0_3 l0_3.length c0_3 a1_0 a1_1 a1_2 A1_3 l1_3.length c1_3 _ := ⟨pw_below_drewN hS_.1 nd, hS_.2.1, hS_.2.2⟩
    clear hS_ hHeld
    refine hK.out _ _ hS2_ (fun hHeld => ?_)
    clear hK K hS2_
    refine norm_ (a' := ?_) ?_ ?_
    rotate_left
    · show Act.put _ (some 18) _ = _
      simp only [Act.put, List.setIfInBounds_toArray, List.set_cons_zero, List.set_cons_succ, i64_w, i32_w]
      rfl
    refine pure_ (i := 13) (N := some 19) (v := ?_) (a' := ?_) #[true, true, true, true, true, true, true, true, true, true, true, true, true, true, false] rfl rfl (by kernel_rfl) (fun _ _ _ h => h) (Or.inl ⟨by rfl, ?_⟩) ?_ ?_
    rotate_left
    · intro w'
      go_simp
      with_reducible rfl
    rotate_left
    · simp only [Act.put, List.setIfInBounds_toArray, List.set_cons_zero, List.set_cons_succ, i64_w, i32_w]
      rfl
    refine pure_ (i := 14) (N := some 4) (v := ?_) (a' := ?_) #[true, true, true, true, true, true, true, true, true, true, true, true, true, true, true] rfl rfl (by kernel_rfl) (fun _ _ _ h => h) (Or.inl ⟨by rfl, ?_⟩) ?_ ?_
    rotate_left
    · intro w'
      go_simp
      with_reducible rfl
    rotate_left
    · simp only [Act.put, List.setIfInBounds_toArray, List.set_cons_zero, List.set_cons_succ, i64_w, i32_w]
      rfl
    refine done_ (by kernel_rfl) ?_
    go_wp2
    go_ret
    exact ⟨rfl, hHeld.1⟩
  | false =>
    rw [hq, if_neg (by decide)] at h
    obtain rfl := Option.some.inj h
    clear h
    go_enter Tryd.func17, Tryd.ntmps17
    go_wp2
    refine start_ (n := 15) (S := SameS w a0_0 a0_1 a0_2 A0_3 l0_3.length c0_3 a1_0 a1_1 a1_2 A1_3 l1_3.length c1_3) (ds := []) #[false, false, false, false, false, false, false, false, false, false, false, false, false, false, false] (by kernel_rfl) rfl rfl ?S0 (fun hHeld => ?_)
    case S0 => exact ⟨by simpa using below_drew1 (below_alloc (below_alloc (Below.refl w.heap.size w) _) _), by show ((w.heap.push _).push _)[w.heap.size]? = _; simp [Array.getElem?_push], by show ((w.heap.push _).push _)[w.heap.size + 1]? = _; rw [Array.getElem?_push]; simp⟩
    generalize World.drew _ = w0 at hHeld ⊢
    refine pure_ (i := 0) (N := some 6) (v := ?_) (a' := ?_) #[true, false, false, false, false, false, false, false, false, false, false, false, false, false, false] rfl rfl (by kernel_rfl) (fun _ _ _ h => h) (Or.inl ⟨by rfl, ?_⟩) ?_ ?_
    rotate_left
    · intro w'
      go_simp
      with_reducible rfl
    rotate_left
    · simp only [Act.put, List.setIfInBounds_toArray, List.set_cons_zero, List.set_cons_succ, i64_w, i32_w]
      rfl
    refine pure_ (i := 3) (N := some 9) (v := ?_) (a' := ?_) #[true, false, false, true, false, false, false, false, false, false, false, false, false, false, false] rfl rfl (by kernel_rfl) (fun _ _ _ h => h) (Or.inl ⟨by rfl, ?_⟩) ?_ ?_
    rotate_left
    · intro w'
      go_simp
      with_reducible rfl
    rotate_left
    · simp only [Act.put, List.setIfInBounds_toArray, List.set_cons_zero, List.set_cons_succ, i64_w, i32_w]
      rfl
    refine take_ (i := 1) (N := some 7) (v := ?_) (a' := ?_) #[true, true, false, true, false, false, false, false, false, false, false, false, false, false, false] rfl rfl (by kernel_rfl) (fun _ _ _ h => h) (Or.inl ⟨by rfl, ?_⟩) hHeld ?_ ?_
    rotate_left
    · rintro w' ⟨hB_, hx_, hy_⟩
      have x0 := (blk_cell hx_ 0)
      have x1 := (blk_cell hx_ 1)
      have x2 := (blk_cell hx_ 2)
      have x3 := (blk_cell hx_ 3)
      simp only [List.getElem?_toArray, List.getElem?_cons_zero, List.getElem?_cons_succ] at x0 x1 x2 x3
      go_simp
      with_reducible rfl
    rotate_left
    · simp only [Act.put, List.setIfInBounds_toArray, List.set_cons_zero, List.set_cons_succ, i64_w, i32_w]
      rfl
    refine take_ (i := 4) (N := some 10) (v := ?_) (a' := ?_) #[true, true, false, true, true, false, false, false, false, false, false, false, false, false, false] rfl rfl (by kernel_rfl) (fun _ _ _ h => h) (Or.inl ⟨by rfl, ?_⟩) hHeld ?_ ?_
    rotate_left
    · rintro w' ⟨hB_, hx_, hy_⟩
      have y0 := (blk_cell hy_ 0)
      have y1 := (blk_cell hy_ 1)
      have y2 := (blk_cell hy_ 2)
      have y3 := (blk_cell hy_ 3)
      simp only [List.getElem?_toArray, List.getElem?_cons_zero, List.getElem?_cons_succ] at y0 y1 y2 y3
      go_simp
      with_reducible rfl
    rotate_left
    · simp only [Act.put, List.setIfInBounds_toArray, List.set_cons_zero, List.set_cons_succ, i64_w, i32_w]
      rfl
    refine one_ (i := 2) (N := some 8) #[true, true, true, true, true, false, false, false, false, false, false, false, false, false, false] rfl rfl (by kernel_rfl) (by decide) (fun K hK => ?_)
    refine goesV_ Tryd.func30 (by kernel_rfl) rfl #[.agg #[.int .i64 a0_0, .int .i64 a0_1, .int .i64 a0_2, .slice A0_3 l0_3.length c0_3]] (by rfl) rfl rfl (by rfl) (by (try simp only [List.map_toArray, List.map_cons, List.map_nil]); first | done | rfl) ?_
    with_reducible refine (head_same a0_0 a0_1 a0_2 A0_3 l0_3.length c0_3 _).mono ?_
    rintro e w1 ⟨rfl, hb⟩
    refine ⟨_, rfl, ?_⟩
    have hS_ := hHeld
    have hS2_ : SameS w a0_0 a0_1 a0_2 A0_3 l0_3.length c0_3 a1_0 a1_1 a1_2 A1_3 l1_3.length c1_3 w1 := ⟨hS_.1.trans (hb.mono hS_.1.size), (hb.block _ (blk_lt hS_.2.1)).trans hS_.2.1, (hb.block _ (blk_lt hS_.2.2)).trans hS_.2.2⟩
    clear hS_ hb hHeld
    refine hK.out _ _ hS2_ (fun hHeld => ?_)
    clear hK K hS2_
    refine norm_ (a' := ?_) ?_ ?_
    rotate_left
    · show Act.put _ (some 8) _ = _
      simp only [Act.put, List.setIfInBounds_toArray, List.set_cons_zero, List.set_cons_succ, i64_w, i32_w]
      rfl
    refine one_ (i := 5) (N := some 11) #[true, true, true, true, true, true, false, false, false, false, false, false, false, false, false] rfl rfl (by kernel_rfl) (by decide) (fun K hK => ?_)
    refine goesV_ Tryd.func30 (by kernel_rfl) rfl #[.agg #[.int .i64 a1_0, .int .i64 a1_1, .int .i64 a1_2, .slice A1_3 l1_3.length c1_3]] (by rfl) rfl rfl (by rfl) (by (try simp only [List.map_toArray, List.map_cons, List.map_nil]); first | done | rfl) ?_
    with_reducible refine (head_same a1_0 a1_1 a1_2 A1_3 l1_3.length c1_3 _).mono ?_
    rintro e w1 ⟨rfl, hb⟩
    refine ⟨_, rfl, ?_⟩
    have hS_ := hHeld
    have hS2_ : SameS w a0_0 a0_1 a0_2 A0_3 l0_3.length c0_3 a1_0 a1_1 a1_2 A1_3 l1_3.length c1_3 w1 := ⟨hS_.1.trans (hb.mono hS_.1.size), (hb.block _ (blk_lt hS_.2.1)).trans hS_.2.1, (hb.block _ (blk_lt hS_.2.2)).trans hS_.2.2⟩
    clear hS_ hb hHeld
    refine hK.out _ _ hS2_ (fun hHeld => ?_)
    clear hK K hS2_
    refine norm_ (a' := ?_) ?_ ?_
    rotate_left
    · show Act.put _ (some 11) _ = _
      simp only [Act.put, List.setIfInBounds_toArray, List.set_cons_zero, List.set_cons_succ, i64_w, i32_w]
      rfl
    refine pure_ (i := 6) (N := some 12) (v := ?_) (a' := ?_) #[true, true, true, true, true, true, true, false, false, false, false, false, false, false, false] rfl rfl (by kernel_rfl) (fun _ _ _ h => h) (Or.inl ⟨by rfl, ?_⟩) ?_ ?_
    rotate_left
    · intro w'
      go_simp
      with_reducible rfl
    rotate_left
    · simp only [Act.put, List.setIfInBounds_toArray, List.set_cons_zero, List.set_cons_succ, i64_w, i32_w]
      rfl
    refine pure_ (i := 7) (N := some 13) (v := ?_) (a' := ?_) #[true, true, true, true, true, true, true, true, false, false, false, false, false, false, false] rfl rfl (by kernel_rfl) (fun _ _ _ h => h) (Or.inl ⟨by rfl, ?_⟩) ?_ ?_
    rotate_left
    · intro w'
      go_simp
      with_reducible rfl
    rotate_left
    · simp only [Act.put, List.setIfInBounds_toArray, List.set_cons_zero, List.set_cons_succ, i64_w, i32_w]
      rfl
    refine pure_ (i := 8) (N := some 14) (v := undef) (a' := ?_) #[true, true, true, true, true, true, true, true, true, false, false, false, false, false, false] rfl rfl (by kernel_rfl) (fun _ _ _ h => h) (Or.inr ⟨by rfl, rfl⟩) ?_ ?_
    rotate_left
    · simp only [Act.put, List.setIfInBounds_toArray, List.set_cons_zero, List.set_cons_succ, i64_w, i32_w]
      rfl
    refine pure_ (i := 10) (N := some 16) (v := undef) (a' := ?_) #[true, true, true, true, true, true, true, true, true, false, true, false, false, false, false] rfl rfl (by kernel_rfl) (fun _ _ _ h => h) (Or.inr ⟨by rfl, rfl⟩) ?_ ?_
    rotate_left
    · simp only [Act.put, List.setIfInBounds_toArray, List.set_cons_zero, List.set_cons_succ, i64_w, i32_w]
      rfl
    refine pure_ (i := 9) (N := some 15) (v := undef) (a' := ?_) #[true, true, true, true, true, true, true, true, true, true, true, false, false, false, false] rfl rfl (by kernel_rfl) (fun _ _ _ h => h) (Or.inr ⟨by rfl, rfl⟩) ?_ ?_
    rotate_left
    · simp only [Act.put, List.setIfInBounds_toArray, List.set_cons_zero, List.set_cons_succ, i64_w, i32_w]
      rfl
    refine pure_ (i := 11) (N := some 17) (v := undef) (a' := ?_) #[true, true, true, true, true, true, true, true, true, true, true, true, false, false, false] rfl rfl (by kernel_rfl) (fun _ _ _ h => h) (Or.inr ⟨by rfl, rfl⟩) ?_ ?_
    rotate_left
    · simp only [Act.put, List.setIfInBounds_toArray, List.set_cons_zero, List.set_cons_succ, i64_w, i32_w]
      rfl
    refine pure_ (i := 12) (N := some 18) (v := undef) (a' := ?_) #[true, true, true, true, true, true, true, true, true, true, true, true, true, false, false] rfl rfl (by kernel_rfl) (fun _ _ _ h => h) (Or.inr ⟨by rfl, rfl⟩) ?_ ?_
    rotate_left
    · simp only [Act.put, List.setIfInBounds_toArray, List.set_cons_zero, List.set_cons_succ, i64_w, i32_w]
      rfl
    refine pure_ (i := 13) (N := some 19) (v := ?_) (a' := ?_) #[true, true, true, true, true, true, true, true, true, true, true, true, true, true, false] rfl rfl (by kernel_rfl) (fun _ _ _ h => h) (Or.inl ⟨by rfl, ?_⟩) ?_ ?_
    rotate_left
    · intro w'
      go_simp
      with_reducible rfl
    rotate_left
    · simp only [Act.put, List.setIfInBounds_toArray, List.set_cons_zero, List.set_cons_succ, i64_w, i32_w]
      rfl
    refine pure_ (i := 14) (N := some 4) (v := ?_) (a' := ?_) #[true, true, true, true, true, true, true, true, true, true, true, true, true, true, true] rfl rfl (by kernel_rfl) (fun _ _ _ h => h) (Or.inl ⟨by rfl, ?_⟩) ?_ ?_
    rotate_left
    · intro w'
      go_simp
      with_reducible rfl
    rotate_left
    · simp only [Act.put, List.setIfInBounds_toArray, List.set_cons_zero, List.set_cons_succ, i64_w, i32_w]
      rfl
    refine done_ (by kernel_rfl) ?_
    go_wp2
    go_ret
    exact ⟨rfl, hHeld.1⟩

end Go.Proofs.YtifekgemngfidaaDoor.PA
