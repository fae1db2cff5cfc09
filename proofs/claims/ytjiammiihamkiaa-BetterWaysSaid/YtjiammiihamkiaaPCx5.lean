-- Printed for this claim by wip/tools/xprint.py over the kit's print; the contracts marked BY HAND are this session's own.
import Derived.Test.YtjiammiihamkiaaPCx0
import Derived.Test.YtjiammiihamkiaaPCx2
import Derived.Test.YtjiammiihamkiaaPCx4
namespace Go.Proofs.Ytjiammiihamkiaa.PC
open Go.RowKit Go.Proofs.YtjiammiihamkiaaW.PrintWords Go.Proofs.YtjiammiihamkiaaW.PrintLast Go.Proofs.YtjiammiihamkiaaW.PrintMore
attribute [local go_sem] max2_int min2_int max_two min_two max_three min_three max_four min_four   -- for this text's walks alone
set_option linter.unusedVariables false
set_option linter.unusedSimpArgs false

/-! ### set_Without: function 70 -/
def set_Without.f (a0 : Int) (a1 : Int) : Option (Int) := (set_bit.f a1).bind fun t123 => (some (Go.bits .andNot .u64 a0 t123))
set_option maxHeartbeats 8000000 in
set_option maxRecDepth 100000 in
theorem set_Without.calls (a0 : Int) (a1 : Int) (r : Int) (w : World) (h : set_Without.f a0 a1 = some r) :
    Calls Try.prog 70 #[.int .u64 a0, .int .i64 a1] w fun e w' => e = .returned (.int .u64 r) ∧ Drawn0 w w' := by
  have H : ((set_bit.f a1).bind fun t123 => (some (Go.bits .andNot .u64 a0 t123))) = some r := h
  clear h
  replace H := Option.bind_eq_some_iff.mp H
  obtain ⟨t123, A30, H⟩ := H
  replace H : (some (Go.bits .andNot .u64 a0 t123)) = some r := H
  have A3 := Aside0.mk A30
  clear A30
  obtain rfl := Option.some.inj H
  go_enter Try.func70, Try.ntmps70
  go_wp2_with (first | ((with_reducible refine gate_callee (f := 72) rfl ?_); refine goesL_ (some 7) rfl rfl Try.func72 (by kernel_rfl) rfl #[.int .i64 a1] rfl (by (try simp only [List.map_toArray, List.map_cons, List.map_nil]); first | done | rfl | (simp only [List.length_drop, List.length_take]; rfl)) ?_; (with_reducible refine (set_bit.calls a1 t123 _ A3.out).mono ?_); rintro e w' ⟨rfl, ⟨nd, rfl⟩⟩; refine ⟨_, rfl, ?_⟩))
  go_ret
  exact ⟨by first | rfl | (simp; done) | (simp [*]; done), by repeat (first | exact Drawn0.refl _ | apply Drawn0.step)⟩

/-! ### state_here_bring: function 52 -/
def state_here_bring.j0 : Nat → Int → Bool → Int → Int → Int → List (S23) → Int → Int → Int → Int → Int → Int → Int → Int → Option (Int × Int × Int × Int × Int × Int × Int × Int × Bool)
  | 0, _, _, _, _, _, _, _, _, _, _, _, _, _, _ => none
  | k + 1, x1, x23, x125000, x125001, x125002, x125003, x125004, x125005, x125006, x125007, x125008, x125009, x125010, x125011 => if x23 = true then (some (x125004, x125005, x125006, x125007, x125008, x125009, x125010, x125011, false)) else ((state_here_visit.f k x125000 x125001 x125002 x125003 x125004 x125005 x125006 x125007 x125008 x125009 x125010 x125011 x1).bind fun bt127 => (if bt127.2.2.2.2.2.2.2.2 = true then ((set_Without.f bt127.2.2.2.2.2.2.2.1 (wrap64 (x1 - x125000))).bind fun t137 => (some (bt127.1, bt127.2.1, bt127.2.2.1, bt127.2.2.2.1, bt127.2.2.2.2.1, bt127.2.2.2.2.2.1, bt127.2.2.2.2.2.2.1, t137, bt127.2.2.2.2.2.2.2.2))) else (some (bt127.1, bt127.2.1, bt127.2.2.1, bt127.2.2.2.1, bt127.2.2.2.2.1, bt127.2.2.2.2.2.1, bt127.2.2.2.2.2.2.1, bt127.2.2.2.2.2.2.2.1, bt127.2.2.2.2.2.2.2.2))))
def state_here_bring.f (k : Nat) (a0_0 : Int) (a0_1 : Int) (a0_2 : Int) (l0_3 : List (S23)) (a0_4 : Int) (a0_5 : Int) (a0_6 : Int) (a0_7 : Int) (a0_8 : Int) (a0_9 : Int) (a0_10 : Int) (a0_11 : Int) (a1 : Int) : Option (Int × Int × Int × Int × Int × Int × Int × Int × Bool) := if a0_4 = 0 then (state_here_bring.j0 k a1 true a0_0 a0_1 a0_2 l0_3 a0_4 a0_5 a0_6 a0_7 a0_8 a0_9 a0_10 a0_11) else ((set_Has.f a0_10 (wrap64 (a1 - a0_0))).bind fun t126 => (state_here_bring.j0 k a1 (!t126) a0_0 a0_1 a0_2 l0_3 a0_4 a0_5 a0_6 a0_7 a0_8 a0_9 a0_10 a0_11))
theorem state_here_bring.mono_l : ∀ k, (∀ y0 y1 y2 y3 y4 y5 y6 y7 y8 y9 y10 y11 y12 y13, LeO (state_here_bring.j0 k y0 y1 y2 y3 y4 y5 y6 y7 y8 y9 y10 y11 y12 y13) (state_here_bring.j0 (k + 1) y0 y1 y2 y3 y4 y5 y6 y7 y8 y9 y10 y11 y12 y13))
  | 0 => fun _ _ _ _ _ _ _ _ _ _ _ _ _ _ r h => by simp [state_here_bring.j0] at h
  | k + 1 => by
    have ih0 := state_here_bring.mono_l k
    · intro y0 y1 y2 y3 y4 y5 y6 y7 y8 y9 y10 y11 y12 y13
      unfold state_here_bring.j0
      repeat' first
      | (with_reducible exact ih0 _ _ _ _ _ _ _ _ _ _ _ _ _ _)
      | (with_reducible exact state_here_visit.mono _ _ _ _ _ _ _ _ _ _ _ _ _ _)
      | (with_reducible exact LeO.refl _)
      | (with_reducible exact LeO.none _)
      | (with_reducible refine LeO.ite ?_ ?_)
      | (with_reducible refine LeO.bind ?_ (fun _ => ?_))
      | exact ih0 _ _ _ _ _ _ _ _ _ _ _ _ _ _
      | exact state_here_visit.mono _ _ _ _ _ _ _ _ _ _ _ _ _ _
      | exact LeO.none _
      | refine LeO.ite ?_ ?_
      | refine LeO.bind ?_ (fun _ => ?_)
theorem state_here_bring.mono : ∀ a0 a1 a2 a3 a4 a5 a6 a7 a8 a9 a10 a11 a12 k, LeO (state_here_bring.f k a0 a1 a2 a3 a4 a5 a6 a7 a8 a9 a10 a11 a12) (state_here_bring.f (k + 1) a0 a1 a2 a3 a4 a5 a6 a7 a8 a9 a10 a11 a12) := by
  intro a0 a1 a2 a3 a4 a5 a6 a7 a8 a9 a10 a11 a12 k
  have ih0 := state_here_bring.mono_l k
  unfold state_here_bring.f
  repeat' first
      | (with_reducible exact ih0 _ _ _ _ _ _ _ _ _ _ _ _ _ _)
      | (with_reducible exact state_here_visit.mono _ _ _ _ _ _ _ _ _ _ _ _ _ _)
      | (with_reducible exact LeO.refl _)
      | (with_reducible exact LeO.none _)
      | (with_reducible refine LeO.ite ?_ ?_)
      | (with_reducible refine LeO.bind ?_ (fun _ => ?_))
      | exact ih0 _ _ _ _ _ _ _ _ _ _ _ _ _ _
      | exact state_here_visit.mono _ _ _ _ _ _ _ _ _ _ _ _ _ _
      | exact LeO.none _
      | refine LeO.ite ?_ ?_
      | refine LeO.bind ?_ (fun _ => ?_)
set_option maxHeartbeats 16000000 in
set_option maxRecDepth 100000 in
theorem state_here_bring.calls (k : Nat) (a0_0 : Int) (a0_1 : Int) (a0_2 : Int) (A0_3 : Option Addr) (c0_3 : Nat) (l0_3 : List (S23)) (a0_4 : Int) (a0_5 : Int) (a0_6 : Int) (a0_7 : Int) (a0_8 : Int) (a0_9 : Int) (a0_10 : Int) (a0_11 : Int) (a1 : Int) (r1 : Int) (r2 : Int) (r3 : Int) (r4 : Int) (r5 : Int) (r6 : Int) (r7 : Int) (r8 : Int) (r9 : Bool) (w : World) (hr0_3 : Kd.C k23 w A0_3 l0_3.length l0_3) (hc0_3 : l0_3.length ≤ c0_3) (h : state_here_bring.f k a0_0 a0_1 a0_2 l0_3 a0_4 a0_5 a0_6 a0_7 a0_8 a0_9 a0_10 a0_11 a1 = some (r1, r2, r3, r4, r5, r6, r7, r8, r9)) :
  Calls Try.prog 52 #[.agg #[.int .i64 a0_0, .int .i64 a0_1, .int .i64 a0_2, .slice A0_3 l0_3.length c0_3, .int .i64 a0_4, .int .i64 a0_5, .int .i64 a0_6, .int .i64 a0_7, .int .i64 a0_8, .int .u64 a0_9, .int .u64 a0_10, .int .u64 a0_11], .int .i64 a1] w fun e w' => e = .returned (.tuple #[.agg #[.int .i64 r1, .int .i64 r2, .int .i64 r3, .int .i64 r4, .int .i64 r5, .int .u64 r6, .int .u64 r7, .int .u64 r8], .bool r9]) ∧ Below w.heap.size w w' := by
 have hu69 := Try.underlying69
 have hu40 := Try.underlying40
 have HR0_3 := zqi hr0_3
 have HC0_3 := zqi hc0_3
 clear hr0_3 hc0_3
 have HB := zqi (Below.refl w.heap.size w)
 have H : (if a0_4 = 0 then (state_here_bring.j0 k a1 true a0_0 a0_1 a0_2 l0_3 a0_4 a0_5 a0_6 a0_7 a0_8 a0_9 a0_10 a0_11) else ((set_Has.f a0_10 (wrap64 (a1 - a0_0))).bind fun t126 => (state_here_bring.j0 k a1 (!t126) a0_0 a0_1 a0_2 l0_3 a0_4 a0_5 a0_6 a0_7 a0_8 a0_9 a0_10 a0_11))) = some (r1, r2, r3, r4, r5, r6, r7, r8, r9) := h
 clear h
 have HC3 := zqi H
 clear H
 go_enter Try.func52, Try.ntmps52
 go_upto_region 1 with (first | ((with_reducible refine gate_dst (N := 2) rfl ?_); refine box_event ?hg (N := 2) ?hd (cs := #[.int .i64 a0_0, .int .i64 a0_1, .int .i64 a0_2, .slice A0_3 l0_3.length c0_3, .int .i64 a0_4, .int .i64 a0_5, .int .i64 a0_6, .int .i64 a0_7, .int .i64 a0_8, .int .u64 a0_9, .int .u64 a0_10, .int .u64 a0_11]) (t := 69) ?hr ?_; (case hd => rfl); (case hg => rfl); (case hr => first | (go_simp; done) | (go_simp; rfl)); intro gb124 hg w4 hbox hb; have n0_ := zqi (below_step (zqn HB.out) hb); have n1_ := zqi (hbox); have n2_ := zqi (zqo hg HB.out); have n3_ := zqi (zqo hg HB.out); clear HB; have HB := n0_; have BK124 := n1_; have GW124 := n2_; have GE124 := n3_; clear n0_ n1_ n2_ n3_; clear hb hbox hg) | ((with_reducible refine gate_dst (N := 4) rfl ?_); refine box_event ?hg (N := 4) ?hd (cs := #[.int .i64 0, .int .i64 0, .int .i64 0, .int .i64 0, .int .i64 0, .int .u64 0, .int .u64 0, .int .u64 0]) (t := 40) ?hr ?_; (case hd => rfl); (case hg => rfl); (case hr => first | (go_simp; done) | (go_simp; rfl)); intro gb125 hg w5 hbox hb; have n0_ := zqi (zqy BK124.out hb); have n1_ := zqi (below_step (zqn HB.out) hb); have n2_ := zqi (hbox); have n3_ := zqi (zqo hg HB.out); have n4_ := zqi (zqo hg HB.out); have n5_ := zqi ((zqq hg BK124.out)); have n6_ := zqi ((zqr hg BK124.out)); clear BK124; clear HB; have BK124 := n0_; have HB := n1_; have BK125 := n2_; have GW125 := n3_; have GE125 := n4_; have NB124_125 := n5_; have NB125_124 := n6_; clear n0_ n1_ n2_ n3_ n4_ n5_ n6_; clear hb hbox hg))
 (try simp only [Act.put, List.setIfInBounds_toArray, List.set_cons_zero, List.set_cons_succ])
 go_cut [23] (fun v23 wc => ∃ (kq : Nat) (x23_2 : Bool), v23 = .bool x23_2 ∧ Aside0 (state_here_bring.j0 kq a1 x23_2 a0_0 a0_1 a0_2 l0_3 a0_4 a0_5 a0_6 a0_7 a0_8 a0_9 a0_10 a0_11 = some (r1, r2, r3, r4, r5, r6, r7, r8, r9)) ∧ Aside0 (kq ≤ k) ∧ Aside0 (wc.heap[gb124]? = some (.cells #[.int .i64 a0_0, .int .i64 a0_1, .int .i64 a0_2, (.slice A0_3 l0_3.length c0_3), .int .i64 a0_4, .int .i64 a0_5, .int .i64 a0_6, .int .i64 a0_7, .int .i64 a0_8, .int .u64 a0_9, .int .u64 a0_10, .int .u64 a0_11] 69 (0, 0))) ∧ Aside0 (wc.heap[gb125]? = some (.cells #[.int .i64 0, .int .i64 0, .int .i64 0, .int .i64 0, .int .i64 0, .int .u64 0, .int .u64 0, .int .u64 0] 40 (0, 0))) ∧ Aside0 (Below w.heap.size w wc))
 case first =>
  have H := HC3.out
  clear HC3
  by_cases c6 : a0_4 = 0
  ·
   rw [if_pos c6] at H
   have c6b0 : (a0_4 == 0) = true := beq_iff_eq.mpr c6
   have c6b1 : (a0_4 != 0) = false := bne_eq_false_iff_eq.mpr c6
   clear c6
   (first | rw [c6b0] | (simp only [i64_w, i32_w]; rw [c6b0]) | skip)
   have H' := zqi H
   clear H
   have hnb7 := NB124_125.out
   have hnc7 := NB125_124.out
   obtain ⟨hcz8_0, hcz8_1, hcz8_2, hcz8_3, hcz8_4, hcz8_5, hcz8_6, hcz8_7, hcz8_8, hcz8_9, hcz8_10, hcz8_11, hfz8_0, hfz8_1, hfz8_2, hfz8_3, hfz8_4, hfz8_5, hfz8_6, hfz8_7, hfz8_8, hfz8_9, hfz8_10, hfz8_11⟩ := zqz12 BK124.out
   go_wp2
   go_meet
   case rel => exact ⟨_, (true), (by first | rfl | (simp; done) | (simp [*]; done)), H', ⟨by first | omega | exact Nat.le_refl _⟩, ⟨by (with_reducible repeat (first | apply zqa | apply zqb | apply zqc)); exact BK124.out⟩, ⟨by (with_reducible repeat (first | apply zqa | apply zqb | apply zqc)); exact BK125.out⟩, ⟨by repeat (first | (with_reducible first | exact HB.out | apply zqg | apply zqf | apply zqh | refine below_set ?_ GE124.out | refine below_set ?_ GE125.out) | exact HB.out)⟩⟩
  ·
   rw [if_neg c6] at H
   have c6b0 : (a0_4 == 0) = false := beq_eq_false_iff_ne.mpr c6
   have c6b1 : (a0_4 != 0) = true := bne_iff_ne.mpr c6
   (first | rw [c6b0] | (simp only [i64_w, i32_w]; rw [c6b0]) | skip)
   replace H := Option.bind_eq_some_iff.mp H
   obtain ⟨t126, A90, H⟩ := H
   replace H : (state_here_bring.j0 k a1 (!t126) a0_0 a0_1 a0_2 l0_3 a0_4 a0_5 a0_6 a0_7 a0_8 a0_9 a0_10 a0_11) = some (r1, r2, r3, r4, r5, r6, r7, r8, r9) := H
   have A9 := zqi A90
   clear A90
   have H' := zqi H
   clear H
   have hnb10 := NB124_125.out
   have hnc10 := NB125_124.out
   obtain ⟨hcz11_0, hcz11_1, hcz11_2, hcz11_3, hcz11_4, hcz11_5, hcz11_6, hcz11_7, hcz11_8, hcz11_9, hcz11_10, hcz11_11, hfz11_0, hfz11_1, hfz11_2, hfz11_3, hfz11_4, hfz11_5, hfz11_6, hfz11_7, hfz11_8, hfz11_9, hfz11_10, hfz11_11⟩ := zqz12 BK124.out
   go_wp2_with (first | (go_at_call 68; (with_reducible refine (set_Has.calls a0_10 (wrap64 (a1 - a0_0)) t126 _ A9.out).mono ?_); rintro e w' ⟨rfl, ⟨nd, rfl⟩⟩))
   go_meet
   case rel => exact ⟨_, (!t126), (by first | rfl | (simp; done) | (simp [*]; done)), H', ⟨by first | omega | exact Nat.le_refl _⟩, ⟨by (with_reducible repeat (first | apply zqa | apply zqb | apply zqc)); exact BK124.out⟩, ⟨by (with_reducible repeat (first | apply zqa | apply zqb | apply zqc)); exact BK125.out⟩, ⟨by repeat (first | (with_reducible first | exact HB.out | apply zqg | apply zqf | apply zqh | refine below_set ?_ GE124.out | refine below_set ?_ GE125.out) | exact HB.out)⟩⟩
 case rest =>
  clear HC3
  try clear c1
  try clear p2
  try clear c5
  try clear c6
  try clear c6b0
  try clear c6b1
  try clear p6
  try clear c7
  try clear c10
  try clear hcz11_0
  try clear hcz11_1
  try clear hcz11_10
  try clear hcz11_11
  try clear hcz11_2
  try clear hcz11_3
  try clear hcz11_4
  try clear hcz11_5
  try clear hcz11_6
  try clear hcz11_7
  try clear hcz11_8
  try clear hcz11_9
  try clear hcz8_0
  try clear hcz8_1
  try clear hcz8_10
  try clear hcz8_11
  try clear hcz8_2
  try clear hcz8_3
  try clear hcz8_4
  try clear hcz8_5
  try clear hcz8_6
  try clear hcz8_7
  try clear hcz8_8
  try clear hcz8_9
  try clear hfz11_0
  try clear hfz11_1
  try clear hfz11_10
  try clear hfz11_11
  try clear hfz11_2
  try clear hfz11_3
  try clear hfz11_4
  try clear hfz11_5
  try clear hfz11_6
  try clear hfz11_7
  try clear hfz11_8
  try clear hfz11_9
  try clear hfz8_0
  try clear hfz8_1
  try clear hfz8_10
  try clear hfz8_11
  try clear hfz8_2
  try clear hfz8_3
  try clear hfz8_4
  try clear hfz8_5
  try clear hfz8_6
  try clear hfz8_7
  try clear hfz8_8
  try clear hfz8_9
  obtain ⟨kq, x23_2, rfl, HA, HJ2, BK124, BK125, HB⟩ := hcut
  cases kq with
  | zero => exact absurd HA.out (by simp [state_here_bring.j0])
  | succ kj2 =>
   have H := HA.out
   clear HA
   simp only [state_here_bring.j0] at H
   by_cases c12 : x23_2 = true
   ·
    subst c12
    have H1 : (some (a0_4, a0_5, a0_6, a0_7, a0_8, a0_9, a0_10, a0_11, false)) = some (r1, r2, r3, r4, r5, r6, r7, r8, r9) := by rw [if_pos rfl] at H; exact H
    clear H
    have H := H1
    clear H1
    simp only [Option.some.injEq, Prod.mk.injEq] at H
    obtain ⟨rfl, rfl, rfl, rfl, rfl, rfl, rfl, rfl, rfl⟩ := H
    have hnb13 := NB124_125.out
    have hnc13 := NB125_124.out
    obtain ⟨hcz14_0, hcz14_1, hcz14_2, hcz14_3, hcz14_4, hcz14_5, hcz14_6, hcz14_7, hcz14_8, hcz14_9, hcz14_10, hcz14_11, hfz14_0, hfz14_1, hfz14_2, hfz14_3, hfz14_4, hfz14_5, hfz14_6, hfz14_7, hfz14_8, hfz14_9, hfz14_10, hfz14_11⟩ := zqz12 BK124.out
    obtain ⟨hcz15_0, hcz15_1, hcz15_2, hcz15_3, hcz15_4, hcz15_5, hcz15_6, hcz15_7, hfz15_0, hfz15_1, hfz15_2, hfz15_3, hfz15_4, hfz15_5, hfz15_6, hfz15_7⟩ := zqz8 BK125.out
    go_wp2
    refine bodyPost_ret (results_ct rfl _ _ gb125 40 #[.int .i64 a0_4, .int .i64 a0_5, .int .i64 a0_6, .int .i64 a0_7, .int .i64 a0_8, .int .u64 a0_9, .int .u64 a0_10, .int .u64 a0_11] (0, 0) _ rfl (by exact zqC (blk_set (blk_set (blk_set (blk_set (blk_set (blk_set (blk_set (blk_set BK125.out 0 _) 1 _) 2 _) 3 _) 4 _) 5 _) 6 _) 7 _) (by simp only [List.setIfInBounds_toArray, List.set_cons_zero, List.set_cons_succ])) Try.underlying40 rfl (by kernel_rfl)) rfl ?_
    exact ⟨by first | rfl | (simp [errW_none, errW_some] <;> rfl) | (simp [*, errW_none, errW_some] <;> rfl), by repeat (first | (with_reducible first | exact HB.out | apply zqg | apply zqf | apply zqh | refine below_set ?_ GE124.out | refine below_set ?_ GE125.out) | exact HB.out)⟩
   ·
    replace c12 := Bool.eq_false_iff.mpr c12
    subst c12
    have H1 : ((state_here_visit.f kj2 a0_0 a0_1 a0_2 l0_3 a0_4 a0_5 a0_6 a0_7 a0_8 a0_9 a0_10 a0_11 a1).bind fun bt127 => (if bt127.2.2.2.2.2.2.2.2 = true then ((set_Without.f bt127.2.2.2.2.2.2.2.1 (wrap64 (a1 - a0_0))).bind fun t137 => (some (bt127.1, bt127.2.1, bt127.2.2.1, bt127.2.2.2.1, bt127.2.2.2.2.1, bt127.2.2.2.2.2.1, bt127.2.2.2.2.2.2.1, t137, bt127.2.2.2.2.2.2.2.2))) else (some (bt127.1, bt127.2.1, bt127.2.2.1, bt127.2.2.2.1, bt127.2.2.2.2.1, bt127.2.2.2.2.2.1, bt127.2.2.2.2.2.2.1, bt127.2.2.2.2.2.2.2.1, bt127.2.2.2.2.2.2.2.2)))) = some (r1, r2, r3, r4, r5, r6, r7, r8, r9) := by rw [if_neg (show ¬ (false = true) by decide)] at H; exact H
    clear H
    have H := H1
    clear H1
    replace H := Option.bind_eq_some_iff.mp H
    obtain ⟨⟨t127, t128, t129, t130, t131, t132, t133, t134, t135⟩, A160, H⟩ := H
    replace H : (if t135 = true then ((set_Without.f t134 (wrap64 (a1 - a0_0))).bind fun t137 => (some (t127, t128, t129, t130, t131, t132, t133, t137, t135))) else (some (t127, t128, t129, t130, t131, t132, t133, t134, t135))) = some (r1, r2, r3, r4, r5, r6, r7, r8, r9) := H
    have A16 := zqi A160
    clear A160
    by_cases c17 : t135 = true
    ·
     subst c17
     have H1 : ((set_Without.f t134 (wrap64 (a1 - a0_0))).bind fun t137 => (some (t127, t128, t129, t130, t131, t132, t133, t137, true))) = some (r1, r2, r3, r4, r5, r6, r7, r8, r9) := by rw [if_pos rfl] at H; exact H
     clear H
     have H := H1
     clear H1
     replace H := Option.bind_eq_some_iff.mp H
     obtain ⟨t137, A180, H⟩ := H
     replace H : (some (t127, t128, t129, t130, t131, t132, t133, t137, true)) = some (r1, r2, r3, r4, r5, r6, r7, r8, r9) := H
     have A18 := zqi A180
     clear A180
     simp only [Option.some.injEq, Prod.mk.injEq] at H
     obtain ⟨rfl, rfl, rfl, rfl, rfl, rfl, rfl, rfl, rfl⟩ := H
     have hnb19 := NB124_125.out
     have hnc19 := NB125_124.out
     obtain ⟨hcz20_0, hcz20_1, hcz20_2, hcz20_3, hcz20_4, hcz20_5, hcz20_6, hcz20_7, hcz20_8, hcz20_9, hcz20_10, hcz20_11, hfz20_0, hfz20_1, hfz20_2, hfz20_3, hfz20_4, hfz20_5, hfz20_6, hfz20_7, hfz20_8, hfz20_9, hfz20_10, hfz20_11⟩ := zqz12 BK124.out
     go_wp2_with (first | ((with_reducible refine zqg1 40 ⟨_, _, rfl⟩ ?_); refine zqv 40 _ _ 0 8 #[.int .i64 t127, .int .i64 t128, .int .i64 t129, .int .i64 t130, .int .i64 t131, .int .u64 t132, .int .u64 t133, .int .u64 t134] (by exact zqm BK136.out) rfl rfl rfl rfl rfl rfl (by rfl) (by kernel_rfl) (by exact Nat.le_of_ble_eq_true rfl) (by rfl) ?_; intro wE hb1_ hbel_ hfar_; have n124_ := zqi ((hfar_ _ NB124_136.out).trans (zqm BK124.out)); have n125_ := zqi ((hfar_ _ NB125_136.out).trans (zqm BK125.out)); have n136_ := zqi (hb1_); have n0_ := zqi (hbel_ _ _ (zqn HB.out) GE136.out); clear hb1_ hbel_ hfar_ HB; clear BK124 BK125 BK136; have HB := n0_; have BK124 := n124_; have BK125 := n125_; have BK136 := n136_; clear n0_ n124_ n125_ n136_; obtain ⟨_, _, _, _, _, _, _, _, _, _, _, _, _, _, _, _⟩ := zqz8 BK136.out; obtain ⟨_, _, _, _, _, _, _, _, _, _, _, _, _, _, _, _, _, _, _, _, _, _, _, _⟩ := zqz12 BK124.out) | ((with_reducible refine zqg1 38 ⟨_, _, rfl⟩ ?_); refine zqv 38 _ _ 7 1 #[.int .i64 t127, .int .i64 t128, .int .i64 t129, .int .i64 t130, .int .i64 t131, .int .u64 t132, .int .u64 t133, .int .u64 t137] (by exact zqm BK136.out) rfl rfl rfl rfl rfl rfl (by rfl) (by kernel_rfl) (by exact Nat.le_of_ble_eq_true rfl) (by rfl) ?_; intro wE hb1_ hbel_ hfar_; have n124_ := zqi ((hfar_ _ NB124_136.out).trans (zqm BK124.out)); have n125_ := zqi ((hfar_ _ NB125_136.out).trans (zqm BK125.out)); have n136_ := zqi (hb1_); have n0_ := zqi (hbel_ _ _ (zqn HB.out) GE136.out); clear hb1_ hbel_ hfar_ HB; clear BK124 BK125 BK136; have HB := n0_; have BK124 := n124_; have BK125 := n125_; have BK136 := n136_; clear n0_ n124_ n125_ n136_; obtain ⟨_, _, _, _, _, _, _, _, _, _, _, _, _, _, _, _⟩ := zqz8 BK136.out; obtain ⟨_, _, _, _, _, _, _, _, _, _, _, _, _, _, _, _, _, _, _, _, _, _, _, _⟩ := zqz12 BK124.out) | ((with_reducible refine zqg1 40 ⟨_, _, rfl⟩ ?_); refine zqv 40 _ _ 0 8 #[.int .i64 t127, .int .i64 t128, .int .i64 t129, .int .i64 t130, .int .i64 t131, .int .u64 t132, .int .u64 t133, .int .u64 t137] (by exact zqm BK125.out) rfl rfl rfl rfl rfl rfl (by rfl) (by kernel_rfl) (by exact Nat.le_of_ble_eq_true rfl) (by rfl) ?_; intro wE hb1_ hbel_ hfar_; have n124_ := zqi ((hfar_ _ NB124_125.out).trans (zqm BK124.out)); have n125_ := zqi (hb1_); have n136_ := zqi ((hfar_ _ NB136_125.out).trans (zqm BK136.out)); have n0_ := zqi (hbel_ _ _ (zqn HB.out) GE125.out); clear hb1_ hbel_ hfar_ HB; clear BK124 BK125 BK136; have HB := n0_; have BK124 := n124_; have BK125 := n125_; have BK136 := n136_; clear n0_ n124_ n125_ n136_) | ((with_reducible refine gate_callee (f := 69) rfl ?_); refine goesL_ (some 29) rfl rfl Try.func69 (by kernel_rfl) rfl #[.agg #[.int .i64 a0_0, .int .i64 a0_1, .int .i64 a0_2, .slice A0_3 l0_3.length c0_3, .int .i64 a0_4, .int .i64 a0_5, .int .i64 a0_6, .int .i64 a0_7, .int .i64 a0_8, .int .u64 a0_9, .int .u64 a0_10, .int .u64 a0_11], .int .i64 a1] rfl (by (try simp only [List.map_toArray, List.map_cons, List.map_nil]); first | done | rfl | (simp only [List.length_drop, List.length_take]; rfl)) ?_; (with_reducible refine (state_here_visit.calls kj2 a0_0 a0_1 a0_2 _ _ l0_3 a0_4 a0_5 a0_6 a0_7 a0_8 a0_9 a0_10 a0_11 a1 t127 t128 t129 t130 t131 t132 t133 t134 true _ ?side1 ?side2 A16.out).mono ?_); (case side1 => repeat (first | exact (Kd.C_below HR0_3.out HB.out) | (with_reducible refine Kd.C_alloc ?_ _) | (with_reducible refine Kd.C_drewN ?_ _) | (with_reducible refine Kd.C_drew ?_))); (case side2 => exact HC0_3.out); rintro e w21 ⟨rfl, hb⟩; refine ⟨_, rfl, ?_⟩; have n0_ := zqi (zqy BK124.out hb); have n1_ := zqi (zqy BK125.out hb); have n2_ := zqi (below_step (zqn HB.out) hb); clear BK124; clear BK125; clear HB; have BK124 := n0_; have BK125 := n1_; have HB := n2_; clear n0_ n1_ n2_; (try clear hb); (try clear hb2); (try clear hk); (try clear hi)) | ((with_reducible refine gate_dst (N := 6) rfl ?_); refine box_event ?hg (N := 6) ?hd (cs := #[.int .i64 0, .int .i64 0, .int .i64 0, .int .i64 0, .int .i64 0, .int .u64 0, .int .u64 0, .int .u64 0]) (t := 40) ?hr ?_; (case hd => rfl); (case hg => rfl); (case hr => first | (go_simp; done) | (go_simp; rfl)); intro gb136 hg w22 hbox hb; have n0_ := zqi (zqy BK124.out hb); have n1_ := zqi (zqy BK125.out hb); have n2_ := zqi (below_step (zqn HB.out) hb); have n3_ := zqi (hbox); have n4_ := zqi (zqo hg HB.out); have n5_ := zqi (zqo hg HB.out); have n6_ := zqi ((zqq hg BK124.out)); have n7_ := zqi ((zqr hg BK124.out)); have n8_ := zqi ((zqq hg BK125.out)); have n9_ := zqi ((zqr hg BK125.out)); clear BK124; clear BK125; clear HB; have BK124 := n0_; have BK125 := n1_; have HB := n2_; have BK136 := n3_; have GW136 := n4_; have GE136 := n5_; have NB124_136 := n6_; have NB136_124 := n7_; have NB125_136 := n8_; have NB136_125 := n9_; clear n0_ n1_ n2_ n3_ n4_ n5_ n6_ n7_ n8_ n9_; clear hb hbox hg; have hnb23 := NB136_124.out; have hnc23 := NB124_136.out; have hnb24 := NB136_125.out; have hnc24 := NB125_136.out; obtain ⟨hcz25_0, hcz25_1, hcz25_2, hcz25_3, hcz25_4, hcz25_5, hcz25_6, hcz25_7, hfz25_0, hfz25_1, hfz25_2, hfz25_3, hfz25_4, hfz25_5, hfz25_6, hfz25_7⟩ := zqz8 BK136.out; obtain ⟨hcz26_0, hcz26_1, hcz26_2, hcz26_3, hcz26_4, hcz26_5, hcz26_6, hcz26_7, hcz26_8, hcz26_9, hcz26_10, hcz26_11, hfz26_0, hfz26_1, hfz26_2, hfz26_3, hfz26_4, hfz26_5, hfz26_6, hfz26_7, hfz26_8, hfz26_9, hfz26_10, hfz26_11⟩ := zqz12 BK124.out) | ((with_reducible refine gate_callee (f := 70) rfl ?_); refine goesL_ (some 40) rfl rfl Try.func70 (by kernel_rfl) rfl #[.int .u64 t134, .int .i64 (wrap64 (a1 - a0_0))] rfl (by (try simp only [List.map_toArray, List.map_cons, List.map_nil]); first | done | rfl | (simp only [List.length_drop, List.length_take]; rfl)) ?_; (with_reducible refine (set_Without.calls t134 (wrap64 (a1 - a0_0)) t137 _ A18.out).mono ?_); rintro e w' ⟨rfl, ⟨nd, rfl⟩⟩; refine ⟨_, rfl, ?_⟩; obtain ⟨hcz27_0, hcz27_1, hcz27_2, hcz27_3, hcz27_4, hcz27_5, hcz27_6, hcz27_7, hfz27_0, hfz27_1, hfz27_2, hfz27_3, hfz27_4, hfz27_5, hfz27_6, hfz27_7⟩ := zqz8 BK125.out))
     refine bodyPost_ret (results_ct rfl _ _ gb125 40 #[.int .i64 t127, .int .i64 t128, .int .i64 t129, .int .i64 t130, .int .i64 t131, .int .u64 t132, .int .u64 t133, .int .u64 t137] (0, 0) _ rfl BK125.out Try.underlying40 rfl (by kernel_rfl)) rfl ?_
     exact ⟨by first | rfl | (simp [errW_none, errW_some] <;> rfl) | (simp [*, errW_none, errW_some] <;> rfl), by repeat (first | (with_reducible first | exact HB.out | apply zqg | apply zqf | apply zqh | refine below_set ?_ GE124.out | refine below_set ?_ GE125.out | refine below_set ?_ GE136.out) | exact HB.out)⟩
    ·
     replace c17 := Bool.eq_false_iff.mpr c17
     subst c17
     have H1 : (some (t127, t128, t129, t130, t131, t132, t133, t134, false)) = some (r1, r2, r3, r4, r5, r6, r7, r8, r9) := by rw [if_neg (show ¬ (false = true) by decide)] at H; exact H
     clear H
     have H := H1
     clear H1
     simp only [Option.some.injEq, Prod.mk.injEq] at H
     obtain ⟨rfl, rfl, rfl, rfl, rfl, rfl, rfl, rfl, rfl⟩ := H
     have hnb28 := NB124_125.out
     have hnc28 := NB125_124.out
     obtain ⟨hcz29_0, hcz29_1, hcz29_2, hcz29_3, hcz29_4, hcz29_5, hcz29_6, hcz29_7, hcz29_8, hcz29_9, hcz29_10, hcz29_11, hfz29_0, hfz29_1, hfz29_2, hfz29_3, hfz29_4, hfz29_5, hfz29_6, hfz29_7, hfz29_8, hfz29_9, hfz29_10, hfz29_11⟩ := zqz12 BK124.out
     go_wp2_with (first | ((with_reducible refine zqg1 40 ⟨_, _, rfl⟩ ?_); refine zqv 40 _ _ 0 8 #[.int .i64 t127, .int .i64 t128, .int .i64 t129, .int .i64 t130, .int .i64 t131, .int .u64 t132, .int .u64 t133, .int .u64 t134] (by exact zqm BK136.out) rfl rfl rfl rfl rfl rfl (by rfl) (by kernel_rfl) (by exact Nat.le_of_ble_eq_true rfl) (by rfl) ?_; intro wE hb1_ hbel_ hfar_; have n124_ := zqi ((hfar_ _ NB124_136.out).trans (zqm BK124.out)); have n125_ := zqi ((hfar_ _ NB125_136.out).trans (zqm BK125.out)); have n136_ := zqi (hb1_); have n0_ := zqi (hbel_ _ _ (zqn HB.out) GE136.out); clear hb1_ hbel_ hfar_ HB; clear BK124 BK125 BK136; have HB := n0_; have BK124 := n124_; have BK125 := n125_; have BK136 := n136_; clear n0_ n124_ n125_ n136_; obtain ⟨_, _, _, _, _, _, _, _, _, _, _, _, _, _, _, _⟩ := zqz8 BK136.out; obtain ⟨_, _, _, _, _, _, _, _, _, _, _, _, _, _, _, _, _, _, _, _, _, _, _, _⟩ := zqz12 BK124.out) | ((with_reducible refine zqg1 40 ⟨_, _, rfl⟩ ?_); refine zqv 40 _ _ 0 8 #[.int .i64 t127, .int .i64 t128, .int .i64 t129, .int .i64 t130, .int .i64 t131, .int .u64 t132, .int .u64 t133, .int .u64 t134] (by exact zqm BK125.out) rfl rfl rfl rfl rfl rfl (by rfl) (by kernel_rfl) (by exact Nat.le_of_ble_eq_true rfl) (by rfl) ?_; intro wE hb1_ hbel_ hfar_; have n124_ := zqi ((hfar_ _ NB124_125.out).trans (zqm BK124.out)); have n125_ := zqi (hb1_); have n136_ := zqi ((hfar_ _ NB136_125.out).trans (zqm BK136.out)); have n0_ := zqi (hbel_ _ _ (zqn HB.out) GE125.out); clear hb1_ hbel_ hfar_ HB; clear BK124 BK125 BK136; have HB := n0_; have BK124 := n124_; have BK125 := n125_; have BK136 := n136_; clear n0_ n124_ n125_ n136_) | ((with_reducible refine gate_callee (f := 69) rfl ?_); refine goesL_ (some 29) rfl rfl Try.func69 (by kernel_rfl) rfl #[.agg #[.int .i64 a0_0, .int .i64 a0_1, .int .i64 a0_2, .slice A0_3 l0_3.length c0_3, .int .i64 a0_4, .int .i64 a0_5, .int .i64 a0_6, .int .i64 a0_7, .int .i64 a0_8, .int .u64 a0_9, .int .u64 a0_10, .int .u64 a0_11], .int .i64 a1] rfl (by (try simp only [List.map_toArray, List.map_cons, List.map_nil]); first | done | rfl | (simp only [List.length_drop, List.length_take]; rfl)) ?_; (with_reducible refine (state_here_visit.calls kj2 a0_0 a0_1 a0_2 _ _ l0_3 a0_4 a0_5 a0_6 a0_7 a0_8 a0_9 a0_10 a0_11 a1 t127 t128 t129 t130 t131 t132 t133 t134 false _ ?side1 ?side2 A16.out).mono ?_); (case side1 => repeat (first | exact (Kd.C_below HR0_3.out HB.out) | (with_reducible refine Kd.C_alloc ?_ _) | (with_reducible refine Kd.C_drewN ?_ _) | (with_reducible refine Kd.C_drew ?_))); (case side2 => exact HC0_3.out); rintro e w30 ⟨rfl, hb⟩; refine ⟨_, rfl, ?_⟩; have n0_ := zqi (zqy BK124.out hb); have n1_ := zqi (zqy BK125.out hb); have n2_ := zqi (below_step (zqn HB.out) hb); clear BK124; clear BK125; clear HB; have BK124 := n0_; have BK125 := n1_; have HB := n2_; clear n0_ n1_ n2_; (try clear hb); (try clear hb2); (try clear hk); (try clear hi)) | ((with_reducible refine gate_dst (N := 6) rfl ?_); refine box_event ?hg (N := 6) ?hd (cs := #[.int .i64 0, .int .i64 0, .int .i64 0, .int .i64 0, .int .i64 0, .int .u64 0, .int .u64 0, .int .u64 0]) (t := 40) ?hr ?_; (case hd => rfl); (case hg => rfl); (case hr => first | (go_simp; done) | (go_simp; rfl)); intro gb136 hg w31 hbox hb; have n0_ := zqi (zqy BK124.out hb); have n1_ := zqi (zqy BK125.out hb); have n2_ := zqi (below_step (zqn HB.out) hb); have n3_ := zqi (hbox); have n4_ := zqi (zqo hg HB.out); have n5_ := zqi (zqo hg HB.out); have n6_ := zqi ((zqq hg BK124.out)); have n7_ := zqi ((zqr hg BK124.out)); have n8_ := zqi ((zqq hg BK125.out)); have n9_ := zqi ((zqr hg BK125.out)); clear BK124; clear BK125; clear HB; have BK124 := n0_; have BK125 := n1_; have HB := n2_; have BK136 := n3_; have GW136 := n4_; have GE136 := n5_; have NB124_136 := n6_; have NB136_124 := n7_; have NB125_136 := n8_; have NB136_125 := n9_; clear n0_ n1_ n2_ n3_ n4_ n5_ n6_ n7_ n8_ n9_; clear hb hbox hg; have hnb32 := NB136_124.out; have hnc32 := NB124_136.out; have hnb33 := NB136_125.out; have hnc33 := NB125_136.out; obtain ⟨hcz34_0, hcz34_1, hcz34_2, hcz34_3, hcz34_4, hcz34_5, hcz34_6, hcz34_7, hfz34_0, hfz34_1, hfz34_2, hfz34_3, hfz34_4, hfz34_5, hfz34_6, hfz34_7⟩ := zqz8 BK136.out; obtain ⟨hcz35_0, hcz35_1, hcz35_2, hcz35_3, hcz35_4, hcz35_5, hcz35_6, hcz35_7, hfz35_0, hfz35_1, hfz35_2, hfz35_3, hfz35_4, hfz35_5, hfz35_6, hfz35_7⟩ := zqz8 BK125.out))
     refine bodyPost_ret (results_ct rfl _ _ gb125 40 #[.int .i64 t127, .int .i64 t128, .int .i64 t129, .int .i64 t130, .int .i64 t131, .int .u64 t132, .int .u64 t133, .int .u64 t134] (0, 0) _ rfl BK125.out Try.underlying40 rfl (by kernel_rfl)) rfl ?_
     exact ⟨by first | rfl | (simp [errW_none, errW_some] <;> rfl) | (simp [*, errW_none, errW_some] <;> rfl), by repeat (first | (with_reducible first | exact HB.out | apply zqg | apply zqf | apply zqh | refine below_set ?_ GE124.out | refine below_set ?_ GE125.out | refine below_set ?_ GE136.out) | exact HB.out)⟩

/-! ### set_Upto: function 55 -/
def set_Upto.l0 : Nat → Int → Int → Int → Option (Int)
  | 0, _, _, _ => none
  | k + 1, x3, x8, x9 => if x9 < x8 then ((set_bit.f (wrap64 (x9 + 1))).bind fun t138 => (set_Upto.l0 k (Go.bits .or .u64 x3 t138) x8 (wrap64 (x9 + 1)))) else (some x3)
def set_Upto.f (k : Nat) (a0 : Int) : Option (Int) := set_Upto.l0 k 0 (mn (mx a0 0) 63) 0
theorem set_Upto.mono_l : ∀ k, (∀ y0 y1 y2, LeO (set_Upto.l0 k y0 y1 y2) (set_Upto.l0 (k + 1) y0 y1 y2))
  | 0 => fun _ _ _ r h => by simp [set_Upto.l0] at h
  | k + 1 => by
    have ih0 := set_Upto.mono_l k
    · intro y0 y1 y2
      unfold set_Upto.l0
      repeat' first
      | (with_reducible exact ih0 _ _ _)
      | (with_reducible exact LeO.refl _)
      | (with_reducible exact LeO.none _)
      | (with_reducible refine LeO.ite ?_ ?_)
      | (with_reducible refine LeO.bind ?_ (fun _ => ?_))
      | exact ih0 _ _ _
      | exact LeO.none _
      | refine LeO.ite ?_ ?_
      | refine LeO.bind ?_ (fun _ => ?_)
theorem set_Upto.mono : ∀ a0 k, LeO (set_Upto.f k a0) (set_Upto.f (k + 1) a0) := by
  intro a0 k
  have ih0 := set_Upto.mono_l k
  unfold set_Upto.f
  repeat' first
      | (with_reducible exact ih0 _ _ _)
      | (with_reducible exact LeO.refl _)
      | (with_reducible exact LeO.none _)
      | (with_reducible refine LeO.ite ?_ ?_)
      | (with_reducible refine LeO.bind ?_ (fun _ => ?_))
      | exact ih0 _ _ _
      | exact LeO.none _
      | refine LeO.ite ?_ ?_
      | refine LeO.bind ?_ (fun _ => ?_)
set_option maxHeartbeats 8000000 in
set_option maxRecDepth 100000 in
theorem set_Upto.calls (k : Nat) (a0 : Int) (r : Int) (w : World) (h : set_Upto.f k a0 = some r) :
    Calls Try.prog 55 #[.int .i64 a0] w fun e w' => e = .returned (.int .u64 r) ∧ Below w.heap.size w w' := by
  have HB := Aside0.mk (Below.refl w.heap.size w)
  have H : (set_Upto.l0 k 0 (mn (mx a0 0) 63) 0) = some r := h
  clear h
  obtain ⟨ji2, hji2⟩ : ∃ j_ : Int, (mx a0 0) = j_ := ⟨_, rfl⟩
  replace H : (set_Upto.l0 k 0 (mn (ji2) 63) 0) = some r := by first | (rw [hji2] at H; exact H) | (simp only [hji2] at H ⊢; exact H)
  (try (have hji2l : 0 ≤ ji2 := by (rw [← hji2]; unfold mx; (repeat' split) <;> omega)))
  (try (have hji2m : 0 ≤ ji2 := by omega))
  have hji2_ : (if a0 < 0 then 0 else a0) = ji2 := hji2
  obtain ⟨ji3, hji3⟩ : ∃ j_ : Int, (mn (ji2) 63) = j_ := ⟨_, rfl⟩
  replace H : (set_Upto.l0 k 0 ji3 0) = some r := by first | (rw [hji3] at H; exact H) | (simp only [hji3] at H ⊢; exact H)
  have hji3_ : (if 63 < (ji2) then 63 else (ji2)) = ji3 := hji3
  have H' := Aside0.mk H
  clear H
  go_enter Try.func55, Try.ntmps55
  go_wp2
  go_loopg [3, 9] k (fun kq v3 v9 w' => ∃ (x3_1 : Int) (x9_1 : Int), v3 = .int .u64 x3_1 ∧ v9 = .int .i64 x9_1 ∧ Aside0 (set_Upto.l0 kq x3_1 ji3 x9_1 = some r) ∧ Aside0 (kq ≤ k) ∧ Aside0 (Below w.heap.size w w'))
  case atStart => exact ⟨(0), (0), (by first | rfl | (simp; done) | (simp [*]; done)), (by first | rfl | (simp; done) | (simp [*]; done)), H', ⟨Nat.le_refl _⟩, ⟨by repeat (first | (with_reducible first | exact HB.out | apply below_alloc | apply pw_below_drewN | apply below_drew1) | exact HB.out)⟩⟩
  case round =>
    clear H'
    try clear p2
    obtain ⟨x3_1, x9_1, rfl, rfl, HA, HK1, HB⟩ := hrel
    cases gk with
    | zero => exact absurd HA.out (by simp [set_Upto.l0])
    | succ k1 =>
      have H := HA.out
      clear HA
      simp only [set_Upto.l0] at H
      by_cases c4 : x9_1 < ji3
      · rw [if_pos c4] at H
        have c4b0 : decide (x9_1 < ji3) = true := decide_eq_true c4
        clear c4
        replace H := Option.bind_eq_some_iff.mp H
        obtain ⟨t138, A50, H⟩ := H
        replace H : (set_Upto.l0 k1 (Go.bits .or .u64 x3_1 t138) ji3 (wrap64 (x9_1 + 1))) = some r := H
        have A5 := Aside0.mk A50
        clear A50
        have H' := Aside0.mk H
        clear H
        go_wp2_with (first | ((with_reducible refine gate_callee (f := 72) rfl ?_); refine goesL_ (some 15) rfl rfl Try.func72 (by kernel_rfl) rfl #[.int .i64 (wrap64 (x9_1 + 1))] rfl (by (try simp only [List.map_toArray, List.map_cons, List.map_nil]); first | done | rfl | (simp only [List.length_drop, List.length_take]; rfl)) ?_; (with_reducible refine (set_bit.calls (wrap64 (x9_1 + 1)) t138 _ A5.out).mono ?_); rintro e w' ⟨rfl, ⟨nd, rfl⟩⟩; refine ⟨_, rfl, ?_⟩))
        go_roundg k1
        case measure => have := HK1.out; omega
        case rel => exact ⟨(Go.bits .or .u64 x3_1 t138), (wrap64 (x9_1 + 1)), (by first | rfl | (simp; done) | (simp [*]; done)), (by first | rfl | (simp; done) | (simp [*]; done)), H', ⟨by have := HK1.out; omega⟩, ⟨by repeat (first | (with_reducible first | exact HB.out | apply below_alloc | apply pw_below_drewN | apply below_drew1) | exact HB.out)⟩⟩
      · rw [if_neg c4] at H
        have c4b0 : decide (x9_1 < ji3) = false := decide_eq_false c4
        clear c4
        obtain rfl := Option.some.inj H
        go_wp2
        go_ret
        exact ⟨by first | rfl | (simp [errW_none, errW_some] <;> rfl) | (simp only [← hji2, ← hji3]; first | rfl | (simp [errW_none, errW_some] <;> rfl)) | (simp [*, errW_none, errW_some] <;> rfl), by repeat (first | (with_reducible first | exact HB.out | apply below_alloc | apply pw_below_drewN | apply below_drew1) | exact HB.out)⟩

/-! ### state_here_all: function 40 -/
def state_here_all.f (k : Nat) (a0_0 : Int) (a0_1 : Int) (a0_2 : Int) (l0_3 : List (S23)) (a0_4 : Int) (a0_5 : Int) (a0_6 : Int) (a0_7 : Int) (a0_8 : Int) (a0_9 : Int) (a0_10 : Int) (a0_11 : Int) (a1 : Int) : Option (Bool) := (set_Upto.f k (wrap64 (2 * a0_0))).bind fun t140 => ((set_Within.f t140 a1).bind fun t141 => (some t141))
theorem state_here_all.mono : ∀ a0 a1 a2 a3 a4 a5 a6 a7 a8 a9 a10 a11 a12 k, LeO (state_here_all.f k a0 a1 a2 a3 a4 a5 a6 a7 a8 a9 a10 a11 a12) (state_here_all.f (k + 1) a0 a1 a2 a3 a4 a5 a6 a7 a8 a9 a10 a11 a12) := by
  intro a0 a1 a2 a3 a4 a5 a6 a7 a8 a9 a10 a11 a12 k
  unfold state_here_all.f
  repeat' first
      | (with_reducible exact set_Upto.mono _ _)
      | (with_reducible exact LeO.refl _)
      | (with_reducible exact LeO.none _)
      | (with_reducible refine LeO.ite ?_ ?_)
      | (with_reducible refine LeO.bind ?_ (fun _ => ?_))
      | exact set_Upto.mono _ _
      | exact LeO.none _
      | refine LeO.ite ?_ ?_
      | refine LeO.bind ?_ (fun _ => ?_)
set_option maxHeartbeats 8000000 in
set_option maxRecDepth 100000 in
theorem state_here_all.calls (k : Nat) (a0_0 : Int) (a0_1 : Int) (a0_2 : Int) (A0_3 : Option Addr) (c0_3 : Nat) (l0_3 : List (S23)) (a0_4 : Int) (a0_5 : Int) (a0_6 : Int) (a0_7 : Int) (a0_8 : Int) (a0_9 : Int) (a0_10 : Int) (a0_11 : Int) (a1 : Int) (r : Bool) (w : World) (hr0_3 : Kd.C k23 w A0_3 l0_3.length l0_3) (hc0_3 : l0_3.length ≤ c0_3) (h : state_here_all.f k a0_0 a0_1 a0_2 l0_3 a0_4 a0_5 a0_6 a0_7 a0_8 a0_9 a0_10 a0_11 a1 = some r) :
    Calls Try.prog 40 #[.agg #[.int .i64 a0_0, .int .i64 a0_1, .int .i64 a0_2, .slice A0_3 l0_3.length c0_3, .int .i64 a0_4, .int .i64 a0_5, .int .i64 a0_6, .int .i64 a0_7, .int .i64 a0_8, .int .u64 a0_9, .int .u64 a0_10, .int .u64 a0_11], .int .u64 a1] w fun e w' => e = .returned (.bool r) ∧ Below w.heap.size w w' := by
  have hu69 := Try.underlying69
  have HR0_3 := Aside0.mk hr0_3
  have HC0_3 := Aside0.mk hc0_3
  clear hr0_3 hc0_3
  have HB := Aside0.mk (Below.refl w.heap.size w)
  have H : ((set_Upto.f k (wrap64 (2 * a0_0))).bind fun t140 => ((set_Within.f t140 a1).bind fun t141 => (some t141))) = some r := h
  clear h
  replace H := Option.bind_eq_some_iff.mp H
  obtain ⟨t140, A30, H⟩ := H
  replace H : ((set_Within.f t140 a1).bind fun t141 => (some t141)) = some r := H
  have A3 := Aside0.mk A30
  clear A30
  replace H := Option.bind_eq_some_iff.mp H
  obtain ⟨t141, A40, H⟩ := H
  replace H : (some t141) = some r := H
  have A4 := Aside0.mk A40
  clear A40
  obtain rfl := Option.some.inj H
  go_enter Try.func40, Try.ntmps40
  go_wp2_with (first | ((with_reducible refine gate_dst (N := 2) rfl ?_); refine box_event ?hg (N := 2) ?hd (cs := #[.int .i64 a0_0, .int .i64 a0_1, .int .i64 a0_2, .slice A0_3 l0_3.length c0_3, .int .i64 a0_4, .int .i64 a0_5, .int .i64 a0_6, .int .i64 a0_7, .int .i64 a0_8, .int .u64 a0_9, .int .u64 a0_10, .int .u64 a0_11]) (t := 69) ?hr ?_; (case hd => rfl); (case hg => rfl); (case hr => first | (go_simp; done) | (go_simp; rfl)); intro gb139 hg w5 hbox hb; have n0_ := Aside0.mk (below_step (by repeat (first | (with_reducible first | exact HB.out | apply below_alloc | apply pw_below_drewN | apply below_drew1) | exact HB.out)) hb); have n1_ := Aside0.mk (hbox); have n2_ := Aside0.mk ((by rw [hg]; exact (below_size (by repeat (first | (with_reducible first | exact HB.out | apply below_alloc | apply pw_below_drewN | apply below_drew1) | exact HB.out))) : w.heap.size ≤ gb139)); have n3_ := Aside0.mk ((by rw [hg]; exact (below_size (by repeat (first | (with_reducible first | exact HB.out | apply below_alloc | apply pw_below_drewN | apply below_drew1) | exact HB.out))) : w.heap.size ≤ gb139)); clear HB; have HB := n0_; have BK139 := n1_; have GW139 := n2_; have GE139 := n3_; clear n0_ n1_ n2_ n3_; clear hb hbox hg; have hcz6_0 : w5.cell? ⟨gb139, 0, none⟩ = some (.int .i64 a0_0) := (blk_cell BK139.out 0).trans rfl; have hcz6_1 : w5.cell? ⟨gb139, 1, none⟩ = some (.int .i64 a0_1) := (blk_cell BK139.out 1).trans rfl; have hcz6_2 : w5.cell? ⟨gb139, 2, none⟩ = some (.int .i64 a0_2) := (blk_cell BK139.out 2).trans rfl; have hcz6_3 : w5.cell? ⟨gb139, 3, none⟩ = some (.slice A0_3 l0_3.length c0_3) := (blk_cell BK139.out 3).trans rfl; have hcz6_4 : w5.cell? ⟨gb139, 4, none⟩ = some (.int .i64 a0_4) := (blk_cell BK139.out 4).trans rfl; have hcz6_5 : w5.cell? ⟨gb139, 5, none⟩ = some (.int .i64 a0_5) := (blk_cell BK139.out 5).trans rfl; have hcz6_6 : w5.cell? ⟨gb139, 6, none⟩ = some (.int .i64 a0_6) := (blk_cell BK139.out 6).trans rfl; have hcz6_7 : w5.cell? ⟨gb139, 7, none⟩ = some (.int .i64 a0_7) := (blk_cell BK139.out 7).trans rfl; have hcz6_8 : w5.cell? ⟨gb139, 8, none⟩ = some (.int .i64 a0_8) := (blk_cell BK139.out 8).trans rfl; have hcz6_9 : w5.cell? ⟨gb139, 9, none⟩ = some (.int .u64 a0_9) := (blk_cell BK139.out 9).trans rfl; have hcz6_10 : w5.cell? ⟨gb139, 10, none⟩ = some (.int .u64 a0_10) := (blk_cell BK139.out 10).trans rfl; have hcz6_11 : w5.cell? ⟨gb139, 11, none⟩ = some (.int .u64 a0_11) := (blk_cell BK139.out 11).trans rfl; have hfz6_0 := blk_frozen BK139.out 0; have hfz6_1 := blk_frozen BK139.out 1; have hfz6_2 := blk_frozen BK139.out 2; have hfz6_3 := blk_frozen BK139.out 3; have hfz6_4 := blk_frozen BK139.out 4; have hfz6_5 := blk_frozen BK139.out 5; have hfz6_6 := blk_frozen BK139.out 6; have hfz6_7 := blk_frozen BK139.out 7; have hfz6_8 := blk_frozen BK139.out 8; have hfz6_9 := blk_frozen BK139.out 9; have hfz6_10 := blk_frozen BK139.out 10; have hfz6_11 := blk_frozen BK139.out 11) | ((with_reducible refine gate_callee (f := 55) rfl ?_); refine goesL_ (some 9) rfl rfl Try.func55 (by kernel_rfl) rfl #[.int .i64 (wrap64 (2 * a0_0))] rfl (by (try simp only [List.map_toArray, List.map_cons, List.map_nil]); first | done | rfl | (simp only [List.length_drop, List.length_take]; rfl)) ?_; (with_reducible refine (set_Upto.calls k (wrap64 (2 * a0_0)) t140 _ A3.out).mono ?_); rintro e w7 ⟨rfl, hb⟩; refine ⟨_, rfl, ?_⟩; have n0_ := Aside0.mk (blk_below (g := gb139) (o := .cells #[.int .i64 a0_0, .int .i64 a0_1, .int .i64 a0_2, .slice A0_3 l0_3.length c0_3, .int .i64 a0_4, .int .i64 a0_5, .int .i64 a0_6, .int .i64 a0_7, .int .i64 a0_8, .int .u64 a0_9, .int .u64 a0_10, .int .u64 a0_11] 69 (0, 0)) (by (with_reducible repeat (first | refine blk_drewN ?_ _ | refine blk_drew ?_ | refine blk_alloc ?_ _)); exact BK139.out) hb); have n1_ := Aside0.mk (below_step (by repeat (first | (with_reducible first | exact HB.out | apply below_alloc | apply pw_below_drewN | apply below_drew1 | refine below_set ?_ GE139.out) | exact HB.out)) hb); clear BK139; clear HB; have BK139 := n0_; have HB := n1_; clear n0_ n1_; (try clear hb); (try clear hb2); (try clear hk); (try clear hi)) | ((with_reducible refine gate_callee (f := 36) rfl ?_); refine goesL_ (some 11) rfl rfl Try.func36 (by kernel_rfl) rfl #[.int .u64 t140, .int .u64 a1] rfl (by (try simp only [List.map_toArray, List.map_cons, List.map_nil]); first | done | rfl | (simp only [List.length_drop, List.length_take]; rfl)) ?_; (with_reducible refine (set_Within.calls t140 a1 t141 _ A4.out).mono ?_); rintro e w' ⟨rfl, ⟨nd, rfl⟩⟩; refine ⟨_, rfl, ?_⟩))
  go_ret
  exact ⟨by first | rfl | (simp [errW_none, errW_some] <;> rfl) | (simp [*, errW_none, errW_some] <;> rfl), by repeat (first | (with_reducible first | exact HB.out | apply below_alloc | apply pw_below_drewN | apply below_drew1 | refine below_set ?_ GE139.out) | exact HB.out)⟩

end Go.Proofs.Ytjiammiihamkiaa.PC
