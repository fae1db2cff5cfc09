-- Printed for this claim by wip/tools/xprint.py over the kit's print; the contracts marked BY HAND are this session's own.
import Derived.Test.YtblpfjocmbppbaaPAx0
import Derived.Test.YtblpfjocmbppbaaPAx4
import Derived.Test.YtblpfjocmbppbaaPAx6
namespace Go.Proofs.Ytblpfjocmbppbaa.PA
open Go.RowKit Go.Proofs.YtblpfjocmbppbaaW.PrintWords Go.Proofs.YtblpfjocmbppbaaW.PrintLast Go.Proofs.YtblpfjocmbppbaaW.PrintMore
attribute [local go_sem] max2_int min2_int max_two min_two max_three min_three max_four min_four   -- for this text's walks alone
set_option linter.unusedVariables false
set_option linter.unusedSimpArgs false

/-! ### haulierlaw09_TourLong: function 5 -/
mutual
def haulierlaw09_TourLong.j0 : Nat → Bool → Bool → List (List Int) → Option (Bool)
  | 0, _, _, _ => none
  | k + 1, x3, x15, x262000 => if x15 = true then (some x3) else (haulierlaw09_TourLong.l0 k 0 0 x262000)
def haulierlaw09_TourLong.l0 : Nat → Int → Int → List (List Int) → Option (Bool)
  | 0, _, _, _ => none
  | k + 1, x5, x6, x262000 => if x6 < (x262000.length : Int) then (if 0 ≤ x6 then (if ((rd_L1 x262000 x6).length : Int) > 0 then (haulierlaw09_TourLong.l0 k (wrap64 ((wrap64 (x5 + ((rd_L1 x262000 x6).length : Int))) + 1)) (wrap64 (x6 + 1)) x262000) else (haulierlaw09_TourLong.l0 k x5 (wrap64 (x6 + 1)) x262000)) else (none)) else (if x5 > 0 then ((tour_Join.f k x262000).bind fun t266 => (some ((t266.length : Int) == (wrap64 (x5 - 1))))) else ((tour_Join.f k x262000).bind fun t269 => (some ((t269.length : Int) == x5))))
end
def haulierlaw09_TourLong.f (k : Nat) (l0_0 : List (List Int)) : Option (Bool) := (haulierlaw09_awake.f k).bind fun t262 => ((haulierlaw08_Few.f k l0_0).bind fun t263 => (if t262 = true then (haulierlaw09_TourLong.j0 k t262 (!t263) l0_0) else (haulierlaw09_TourLong.j0 k t262 true l0_0)))
theorem haulierlaw09_TourLong.mono_l : ∀ k, (∀ y0 y1 y2, LeO (haulierlaw09_TourLong.j0 k y0 y1 y2) (haulierlaw09_TourLong.j0 (k + 1) y0 y1 y2)) ∧ (∀ y0 y1 y2, LeO (haulierlaw09_TourLong.l0 k y0 y1 y2) (haulierlaw09_TourLong.l0 (k + 1) y0 y1 y2))
  | 0 => ⟨fun _ _ _ r h => by simp [haulierlaw09_TourLong.j0] at h, fun _ _ _ r h => by simp [haulierlaw09_TourLong.l0] at h⟩
  | k + 1 => by
    obtain ⟨ih0, ih1⟩ := haulierlaw09_TourLong.mono_l k
    refine ⟨?_, ?_⟩
    · intro y0 y1 y2
      unfold haulierlaw09_TourLong.j0
      repeat' first
      | (with_reducible exact ih0 _ _ _)
      | (with_reducible exact ih1 _ _ _)
      | (with_reducible exact haulierlaw08_Few.mono _ _)
      | (with_reducible exact haulierlaw09_awake.mono _)
      | (with_reducible exact tour_Join.mono _ _)
      | (with_reducible exact LeO.refl _)
      | (with_reducible exact LeO.none _)
      | (with_reducible refine LeO.ite ?_ ?_)
      | (with_reducible refine LeO.bind ?_ (fun _ => ?_))
      | exact ih0 _ _ _
      | exact ih1 _ _ _
      | exact haulierlaw08_Few.mono _ _
      | exact haulierlaw09_awake.mono _
      | exact tour_Join.mono _ _
      | exact LeO.none _
      | refine LeO.ite ?_ ?_
      | refine LeO.bind ?_ (fun _ => ?_)
    · intro y0 y1 y2
      unfold haulierlaw09_TourLong.l0
      repeat' first
      | (with_reducible exact ih0 _ _ _)
      | (with_reducible exact ih1 _ _ _)
      | (with_reducible exact haulierlaw08_Few.mono _ _)
      | (with_reducible exact haulierlaw09_awake.mono _)
      | (with_reducible exact tour_Join.mono _ _)
      | (with_reducible exact LeO.refl _)
      | (with_reducible exact LeO.none _)
      | (with_reducible refine LeO.ite ?_ ?_)
      | (with_reducible refine LeO.bind ?_ (fun _ => ?_))
      | exact ih0 _ _ _
      | exact ih1 _ _ _
      | exact haulierlaw08_Few.mono _ _
      | exact haulierlaw09_awake.mono _
      | exact tour_Join.mono _ _
      | exact LeO.none _
      | refine LeO.ite ?_ ?_
      | refine LeO.bind ?_ (fun _ => ?_)
theorem haulierlaw09_TourLong.mono : ∀ a0 k, LeO (haulierlaw09_TourLong.f k a0) (haulierlaw09_TourLong.f (k + 1) a0) := by
  intro a0 k
  obtain ⟨ih0, ih1⟩ := haulierlaw09_TourLong.mono_l k
  unfold haulierlaw09_TourLong.f
  repeat' first
      | (with_reducible exact ih0 _ _ _)
      | (with_reducible exact ih1 _ _ _)
      | (with_reducible exact haulierlaw08_Few.mono _ _)
      | (with_reducible exact haulierlaw09_awake.mono _)
      | (with_reducible exact tour_Join.mono _ _)
      | (with_reducible exact LeO.refl _)
      | (with_reducible exact LeO.none _)
      | (with_reducible refine LeO.ite ?_ ?_)
      | (with_reducible refine LeO.bind ?_ (fun _ => ?_))
      | exact ih0 _ _ _
      | exact ih1 _ _ _
      | exact haulierlaw08_Few.mono _ _
      | exact haulierlaw09_awake.mono _
      | exact tour_Join.mono _ _
      | exact LeO.none _
      | refine LeO.ite ?_ ?_
      | refine LeO.bind ?_ (fun _ => ?_)
set_option maxHeartbeats 8000000 in
set_option maxRecDepth 100000 in
theorem haulierlaw09_TourLong.calls (k : Nat) (A0_0 : Option Addr) (c0_0 : Nat) (l0_0 : List (List Int)) (r : Bool) (w : World) (hr0_0 : Kd.C (Kd.slice 3 (Kd.int .i64)) w A0_0 l0_0.length l0_0) (hc0_0 : l0_0.length ≤ c0_0) (h : haulierlaw09_TourLong.f k l0_0 = some r) :
    Calls Try.prog 5 #[.agg #[.slice A0_0 l0_0.length c0_0]] w fun e w' => e = .returned (.bool r) ∧ Below w.heap.size w w' := by
  have hu24 := Try.underlying24
  have HR0_0 := Aside0.mk hr0_0
  have HC0_0 := Aside0.mk hc0_0
  clear hr0_0 hc0_0
  have HB := Aside0.mk (Below.refl w.heap.size w)
  have H : ((haulierlaw09_awake.f k).bind fun t262 => ((haulierlaw08_Few.f k l0_0).bind fun t263 => (if t262 = true then (haulierlaw09_TourLong.j0 k t262 (!t263) l0_0) else (haulierlaw09_TourLong.j0 k t262 true l0_0)))) = some r := h
  clear h
  replace H := Option.bind_eq_some_iff.mp H
  obtain ⟨t262, A20, H⟩ := H
  replace H : ((haulierlaw08_Few.f k l0_0).bind fun t263 => (if t262 = true then (haulierlaw09_TourLong.j0 k t262 (!t263) l0_0) else (haulierlaw09_TourLong.j0 k t262 true l0_0))) = some r := H
  have A2 := Aside0.mk A20
  clear A20
  replace H := Option.bind_eq_some_iff.mp H
  obtain ⟨t263, A30, H⟩ := H
  replace H : (if t262 = true then (haulierlaw09_TourLong.j0 k t262 (!t263) l0_0) else (haulierlaw09_TourLong.j0 k t262 true l0_0)) = some r := H
  have A3 := Aside0.mk A30
  clear A30
  have HC4 := Aside0.mk H
  clear H
  go_enter Try.func5, Try.ntmps5
  go_upto_region 3 with (first | ((with_reducible refine gate_dst (N := 1) rfl ?_); refine box_event ?hg (N := 1) ?hd (cs := #[.slice A0_0 l0_0.length c0_0]) (t := 24) ?hr ?_; (case hd => rfl); (case hg => rfl); (case hr => first | (go_simp; done) | (go_simp; rfl)); intro gb261 hg w5 hbox hb; have n0_ := Aside0.mk (below_step (by repeat (first | (with_reducible first | exact HB.out | apply below_alloc | apply pw_below_drewN | apply below_drew1) | exact HB.out)) hb); have n1_ := Aside0.mk (hbox); have n2_ := Aside0.mk ((by rw [hg]; exact (below_size (by repeat (first | (with_reducible first | exact HB.out | apply below_alloc | apply pw_below_drewN | apply below_drew1) | exact HB.out))) : w.heap.size ≤ gb261)); have n3_ := Aside0.mk ((by rw [hg]; exact (below_size (by repeat (first | (with_reducible first | exact HB.out | apply below_alloc | apply pw_below_drewN | apply below_drew1) | exact HB.out))) : w.heap.size ≤ gb261)); clear HB; have HB := n0_; have BK261 := n1_; have GW261 := n2_; have GE261 := n3_; clear n0_ n1_ n2_ n3_; clear hb hbox hg) | ((with_reducible refine gate_callee (f := 6) rfl ?_); refine goesL_ (some 7) rfl rfl Try.func6 (by kernel_rfl) rfl #[] rfl (by (try simp only [List.map_toArray, List.map_cons, List.map_nil]); first | done | rfl | (simp only [List.length_drop, List.length_take]; rfl)) ?_; (with_reducible refine (haulierlaw09_awake.calls k  t262 _ A2.out).mono ?_); rintro e w6 ⟨rfl, hb⟩; refine ⟨_, rfl, ?_⟩; have n0_ := Aside0.mk (blk_below (g := gb261) (o := .cells #[.slice A0_0 l0_0.length c0_0] 24 (0, 0)) (by (with_reducible repeat (first | refine blk_drewN ?_ _ | refine blk_drew ?_ | refine blk_alloc ?_ _)); exact BK261.out) hb); have n1_ := Aside0.mk (below_step (by repeat (first | (with_reducible first | exact HB.out | apply below_alloc | apply pw_below_drewN | apply below_drew1 | refine below_set ?_ GE261.out) | exact HB.out)) hb); clear BK261; clear HB; have BK261 := n0_; have HB := n1_; clear n0_ n1_; (try clear hb); (try clear hb2); (try clear hk); (try clear hi); have hcz7_0 : w6.cell? ⟨gb261, 0, none⟩ = some (.slice A0_0 l0_0.length c0_0) := (blk_cell BK261.out 0).trans rfl; have hfz7_0 := blk_frozen BK261.out 0) | ((with_reducible refine gate_callee (f := 7) rfl ?_); refine goesL_ (some 9) rfl rfl Try.func7 (by kernel_rfl) rfl #[.agg #[.slice A0_0 l0_0.length c0_0]] rfl (by (try simp only [List.map_toArray, List.map_cons, List.map_nil]); first | done | rfl | (simp only [List.length_drop, List.length_take]; rfl)) ?_; (with_reducible refine (haulierlaw08_Few.calls k _ _ l0_0 t263 _ ?side1 ?side2 A3.out).mono ?_); (case side1 => repeat (first | exact (Kd.C_below HR0_0.out HB.out) | (with_reducible refine Kd.C_alloc ?_ _) | (with_reducible refine Kd.C_drewN ?_ _) | (with_reducible refine Kd.C_drew ?_))); (case side2 => exact HC0_0.out); rintro e w8 ⟨rfl, hb⟩; refine ⟨_, rfl, ?_⟩; have n0_ := Aside0.mk (blk_below (g := gb261) (o := .cells #[.slice A0_0 l0_0.length c0_0] 24 (0, 0)) (by (with_reducible repeat (first | refine blk_drewN ?_ _ | refine blk_drew ?_ | refine blk_alloc ?_ _)); exact BK261.out) hb); have n1_ := Aside0.mk (below_step (by repeat (first | (with_reducible first | exact HB.out | apply below_alloc | apply pw_below_drewN | apply below_drew1 | refine below_set ?_ GE261.out) | exact HB.out)) hb); clear BK261; clear HB; have BK261 := n0_; have HB := n1_; clear n0_ n1_; (try clear hb); (try clear hb2); (try clear hk); (try clear hi)))
  (try simp only [Act.put, List.setIfInBounds_toArray, List.set_cons_zero, List.set_cons_succ])
  go_cut [15] (fun v15 wc => ∃ (kq : Nat) (x15_3 : Bool), v15 = .bool x15_3 ∧ Aside0 (haulierlaw09_TourLong.j0 kq t262 x15_3 l0_0 = some r) ∧ Aside0 (kq ≤ k) ∧ Aside0 (wc.heap[gb261]? = some (.cells #[(.slice A0_0 l0_0.length c0_0)] 24 (0, 0))) ∧ Aside0 (Below w.heap.size w wc))
  case first =>
    have H := HC4.out
    clear HC4
    by_cases c9 : t262 = true
    · subst c9
      have H1 : (haulierlaw09_TourLong.j0 k true (!t263) l0_0) = some r := by rw [if_pos rfl] at H; exact H
      clear H
      have H := H1
      clear H1
      have H' := Aside0.mk H
      clear H
      go_wp2
      go_meet
      case rel => exact ⟨_, (!t263), (by first | rfl | (simp; done) | (simp [*]; done)), H', ⟨by first | omega | exact Nat.le_refl _⟩, ⟨by (with_reducible repeat (first | refine blk_drewN ?_ _ | refine blk_drew ?_ | refine blk_alloc ?_ _)); exact BK261.out⟩, ⟨by repeat (first | (with_reducible first | exact HB.out | apply below_alloc | apply pw_below_drewN | apply below_drew1 | refine below_set ?_ GE261.out) | exact HB.out)⟩⟩
    · replace c9 := Bool.eq_false_iff.mpr c9
      subst c9
      have H1 : (haulierlaw09_TourLong.j0 k false true l0_0) = some r := by rw [if_neg (show ¬ (false = true) by decide)] at H; exact H
      clear H
      have H := H1
      clear H1
      have H' := Aside0.mk H
      clear H
      go_wp2
      go_meet
      case rel => exact ⟨_, (true), (by first | rfl | (simp; done) | (simp [*]; done)), H', ⟨by first | omega | exact Nat.le_refl _⟩, ⟨by (with_reducible repeat (first | refine blk_drewN ?_ _ | refine blk_drew ?_ | refine blk_alloc ?_ _)); exact BK261.out⟩, ⟨by repeat (first | (with_reducible first | exact HB.out | apply below_alloc | apply pw_below_drewN | apply below_drew1 | refine below_set ?_ GE261.out) | exact HB.out)⟩⟩
  case rest =>
    clear HC4
    try clear p2
    try clear c5
    try clear c6
    try clear c7
    try clear c9
    try clear hcz7_0
    try clear hfz7_0
    obtain ⟨kq, x15_3, rfl, HA, HJ3, BK261, HB⟩ := hcut
    cases kq with
    | zero => exact absurd HA.out (by simp [haulierlaw09_TourLong.j0])
    | succ kj3 =>
      have H := HA.out
      clear HA
      simp only [haulierlaw09_TourLong.j0] at H
      by_cases c10 : x15_3 = true
      · subst c10
        have H1 : (some t262) = some r := by rw [if_pos rfl] at H; exact H
        clear H
        have H := H1
        clear H1
        obtain rfl := Option.some.inj H
        go_wp2
        go_ret
        exact ⟨by first | rfl | (simp [errW_none, errW_some] <;> rfl) | (simp [*, errW_none, errW_some] <;> rfl), by repeat (first | (with_reducible first | exact HB.out | apply below_alloc | apply pw_below_drewN | apply below_drew1 | refine below_set ?_ GE261.out) | exact HB.out)⟩
      · replace c10 := Bool.eq_false_iff.mpr c10
        subst c10
        have H1 : (haulierlaw09_TourLong.l0 kj3 0 0 l0_0) = some r := by rw [if_neg (show ¬ (false = true) by decide)] at H; exact H
        clear H
        have H := H1
        clear H1
        have H' := Aside0.mk H
        clear H
        go_wp2
        go_loopg [5, 6] kj3 (fun kq v5 v6 w' => ∃ (x5_2 : Int) (x6_2 : Int), v5 = .int .i64 x5_2 ∧ v6 = .int .i64 x6_2 ∧ Aside0 (haulierlaw09_TourLong.l0 kq x5_2 x6_2 l0_0 = some r) ∧ Aside0 (kq ≤ kj3) ∧ Aside0 (w'.heap[gb261]? = some (.cells #[(.slice A0_0 l0_0.length c0_0)] 24 (0, 0))) ∧ Aside0 (Below w.heap.size w w'))
        case atStart => exact ⟨(0), (0), (by first | rfl | (simp; done) | (simp [*]; done)), (by first | rfl | (simp; done) | (simp [*]; done)), H', ⟨Nat.le_refl _⟩, ⟨by (with_reducible repeat (first | refine blk_drewN ?_ _ | refine blk_drew ?_ | refine blk_alloc ?_ _)); exact BK261.out⟩, ⟨by repeat (first | (with_reducible first | exact HB.out | apply below_alloc | apply pw_below_drewN | apply below_drew1 | refine below_set ?_ GE261.out) | exact HB.out)⟩⟩
        case round =>
          clear H'
          try clear c1
          try clear p2
          try clear c5
          try clear c6
          try clear c7
          try clear c9
          try clear c10
          try clear hcz7_0
          try clear hfz7_0
          try clear p2
          obtain ⟨x5_2, x6_2, rfl, rfl, HA, HK2, BK261, HB⟩ := hrel
          cases gk with
          | zero => exact absurd HA.out (by simp [haulierlaw09_TourLong.l0])
          | succ k2 =>
            have H := HA.out
            clear HA
            simp only [haulierlaw09_TourLong.l0] at H
            by_cases c11 : x6_2 < (l0_0.length : Int)
            · rw [if_pos c11] at H
              have c11b0 : decide (x6_2 < (l0_0.length : Int)) = true := decide_eq_true c11
              clear c11
              by_cases c12 : 0 ≤ x6_2
              · rw [if_pos c12] at H
                have c12b0 : decide (0 ≤ x6_2) = true := decide_eq_true c12
                clear c12
                by_cases c13 : ((rd_L1 l0_0 x6_2).length : Int) > 0
                · rw [if_pos c13] at H
                  have c13b0 : decide (0 < ((rd_L1 l0_0 x6_2).length : Int)) = true := decide_eq_true c13
                  have c13b1 : decide (0 < (rd_L1 l0_0 x6_2).length) = true := decide_eq_true (by omega)
                  clear c13
                  have H' := Aside0.mk H
                  clear H
                  have hcz14_0 : wr.cell? ⟨gb261, 0, none⟩ = some (.slice A0_0 l0_0.length c0_0) := (blk_cell BK261.out 0).trans rfl
                  have hfz14_0 := blk_frozen BK261.out 0
                  have p264 : 0 ≤ (x6_2 : Int) := of_decide_eq_true (by first | (with_reducible assumption) | assumption)
                  have q264 : x6_2 < (l0_0.length : Int) := of_decide_eq_true (by first | (with_reducible assumption) | assumption)
                  obtain ⟨ad264, A264_0, c264_0, e264, hx264_0, hl264_0, hi264_0⟩ := at_L1 HR0_0.out x6_2 p264 q264
                  cases e264
                  replace hx264_0 := (HB.out.cell (World.block_lt_of_cell? w _ hx264_0)).trans hx264_0
                  have HR264_0 := Aside0.mk hi264_0
                  have HC264_0 := Aside0.mk hl264_0
                  clear hi264_0 hl264_0
                  replace p264 := eq_true p264
                  replace q264 := eq_true q264
                  have p265 : 0 ≤ (x6_2 : Int) := of_decide_eq_true (by first | (with_reducible assumption) | assumption)
                  have q265 : x6_2 < (l0_0.length : Int) := of_decide_eq_true (by first | (with_reducible assumption) | assumption)
                  obtain ⟨ad265, A265_0, c265_0, e265, hx265_0, hl265_0, hi265_0⟩ := at_L1 HR0_0.out x6_2 p265 q265
                  obtain rfl : ad264 = ad265 := (by injection e265)
                  replace hx265_0 := (HB.out.cell (World.block_lt_of_cell? w _ hx265_0)).trans hx265_0
                  have HR265_0 := Aside0.mk hi265_0
                  have HC265_0 := Aside0.mk hl265_0
                  clear hi265_0 hl265_0
                  replace p265 := eq_true p265
                  replace q265 := eq_true q265
                  have ea_ := Option.some.inj (hx264_0.symm.trans hx265_0)
                  injection ea_ with ea_ en_ ec_
                  subst ea_
                  subst ec_
                  clear en_
                  go_wp2
                  go_roundg k2
                  case measure => have := HJ3.out; have := HK2.out; omega
                  case rel => exact ⟨(wrap64 ((wrap64 (x5_2 + ((rd_L1 l0_0 x6_2).length : Int))) + 1)), (wrap64 (x6_2 + 1)), (by first | rfl | (simp; done) | (simp [*]; done)), (by first | rfl | (simp; done) | (simp [*]; done)), H', ⟨by have := HJ3.out; have := HK2.out; omega⟩, ⟨by (with_reducible repeat (first | refine blk_drewN ?_ _ | refine blk_drew ?_ | refine blk_alloc ?_ _)); exact BK261.out⟩, ⟨by repeat (first | (with_reducible first | exact HB.out | apply below_alloc | apply pw_below_drewN | apply below_drew1 | refine below_set ?_ GE261.out) | exact HB.out)⟩⟩
                · rw [if_neg c13] at H
                  have c13b0 : decide (0 < ((rd_L1 l0_0 x6_2).length : Int)) = false := decide_eq_false c13
                  have c13b1 : decide (0 < (rd_L1 l0_0 x6_2).length) = false := decide_eq_false (by omega)
                  clear c13
                  have H' := Aside0.mk H
                  clear H
                  have hcz15_0 : wr.cell? ⟨gb261, 0, none⟩ = some (.slice A0_0 l0_0.length c0_0) := (blk_cell BK261.out 0).trans rfl
                  have hfz15_0 := blk_frozen BK261.out 0
                  have p264 : 0 ≤ (x6_2 : Int) := of_decide_eq_true (by first | (with_reducible assumption) | assumption)
                  have q264 : x6_2 < (l0_0.length : Int) := of_decide_eq_true (by first | (with_reducible assumption) | assumption)
                  obtain ⟨ad264, A264_0, c264_0, e264, hx264_0, hl264_0, hi264_0⟩ := at_L1 HR0_0.out x6_2 p264 q264
                  cases e264
                  replace hx264_0 := (HB.out.cell (World.block_lt_of_cell? w _ hx264_0)).trans hx264_0
                  have HR264_0 := Aside0.mk hi264_0
                  have HC264_0 := Aside0.mk hl264_0
                  clear hi264_0 hl264_0
                  replace p264 := eq_true p264
                  replace q264 := eq_true q264
                  go_wp2
                  go_roundg k2
                  case measure => have := HJ3.out; have := HK2.out; omega
                  case rel => exact ⟨(x5_2), (wrap64 (x6_2 + 1)), (by first | rfl | (simp; done) | (simp [*]; done)), (by first | rfl | (simp; done) | (simp [*]; done)), H', ⟨by have := HJ3.out; have := HK2.out; omega⟩, ⟨by (with_reducible repeat (first | refine blk_drewN ?_ _ | refine blk_drew ?_ | refine blk_alloc ?_ _)); exact BK261.out⟩, ⟨by repeat (first | (with_reducible first | exact HB.out | apply below_alloc | apply pw_below_drewN | apply below_drew1 | refine below_set ?_ GE261.out) | exact HB.out)⟩⟩
              · rw [if_neg c12] at H
                exact absurd H (by simp)
            · rw [if_neg c11] at H
              have c11b0 : decide (x6_2 < (l0_0.length : Int)) = false := decide_eq_false c11
              clear c11
              by_cases c16 : x5_2 > 0
              · rw [if_pos c16] at H
                have c16b0 : decide (0 < x5_2) = true := decide_eq_true c16
                clear c16
                replace H := Option.bind_eq_some_iff.mp H
                obtain ⟨t266, A170, H⟩ := H
                replace H : (some ((t266.length : Int) == (wrap64 (x5_2 - 1)))) = some r := H
                have A17 := Aside0.mk A170
                clear A170
                obtain rfl := Option.some.inj H
                have hcz18_0 : wr.cell? ⟨gb261, 0, none⟩ = some (.slice A0_0 l0_0.length c0_0) := (blk_cell BK261.out 0).trans rfl
                have hfz18_0 := blk_frozen BK261.out 0
                go_wp2_with (first | ((with_reducible refine gate_callee (f := 9) rfl ?_); refine goesL_ (some 45) rfl rfl Try.func9 (by kernel_rfl) rfl #[.agg #[.slice A0_0 l0_0.length c0_0]] rfl (by (try simp only [List.map_toArray, List.map_cons, List.map_nil]); first | done | rfl | (simp only [List.length_drop, List.length_take]; rfl)) ?_; (with_reducible refine (tour_Join.calls k2 _ _ l0_0 t266 _ ?side1 ?side2 A17.out).mono ?_); (case side1 => repeat (first | exact (Kd.C_below HR0_0.out HB.out) | (with_reducible refine Kd.C_alloc ?_ _) | (with_reducible refine Kd.C_drewN ?_ _) | (with_reducible refine Kd.C_drew ?_))); (case side2 => exact HC0_0.out); rintro e w19 ⟨v267, rfl, ho0, hb⟩; refine ⟨_, rfl, ?_⟩; have n0_ := Aside0.mk (Kd.R_lower ho0 (below_size (by repeat (first | (with_reducible first | exact HB.out | apply below_alloc | apply pw_below_drewN | apply below_drew1 | refine below_set ?_ GE261.out) | exact HB.out)))); have n1_ := Aside0.mk (blk_below (g := gb261) (o := .cells #[.slice A0_0 l0_0.length c0_0] 24 (0, 0)) (by (with_reducible repeat (first | refine blk_drewN ?_ _ | refine blk_drew ?_ | refine blk_alloc ?_ _)); exact BK261.out) hb); have n2_ := Aside0.mk (below_step (by repeat (first | (with_reducible first | exact HB.out | apply below_alloc | apply pw_below_drewN | apply below_drew1 | refine below_set ?_ GE261.out) | exact HB.out)) hb); clear BK261; clear HB; have HO268 := n0_; have BK261 := n1_; have HB := n2_; clear n0_ n1_ n2_; (try clear hb); (try clear hb2); (try clear hk); (try clear hi); (try clear ho0); obtain ⟨Ao20, co20, eo20⟩ := Kd.R_slice HO268.out; subst eo20))
                go_ret
                exact ⟨by first | rfl | (simp [errW_none, errW_some] <;> rfl) | (simp [*, errW_none, errW_some] <;> rfl), by repeat (first | (with_reducible first | exact HB.out | apply below_alloc | apply pw_below_drewN | apply below_drew1 | refine below_set ?_ GE261.out) | exact HB.out)⟩
              · rw [if_neg c16] at H
                have c16b0 : decide (0 < x5_2) = false := decide_eq_false c16
                clear c16
                replace H := Option.bind_eq_some_iff.mp H
                obtain ⟨t269, A210, H⟩ := H
                replace H : (some ((t269.length : Int) == x5_2)) = some r := H
                have A21 := Aside0.mk A210
                clear A210
                obtain rfl := Option.some.inj H
                have hcz22_0 : wr.cell? ⟨gb261, 0, none⟩ = some (.slice A0_0 l0_0.length c0_0) := (blk_cell BK261.out 0).trans rfl
                have hfz22_0 := blk_frozen BK261.out 0
                go_wp2_with (first | ((with_reducible refine gate_callee (f := 9) rfl ?_); refine goesL_ (some 45) rfl rfl Try.func9 (by kernel_rfl) rfl #[.agg #[.slice A0_0 l0_0.length c0_0]] rfl (by (try simp only [List.map_toArray, List.map_cons, List.map_nil]); first | done | rfl | (simp only [List.length_drop, List.length_take]; rfl)) ?_; (with_reducible refine (tour_Join.calls k2 _ _ l0_0 t269 _ ?side1 ?side2 A21.out).mono ?_); (case side1 => repeat (first | exact (Kd.C_below HR0_0.out HB.out) | (with_reducible refine Kd.C_alloc ?_ _) | (with_reducible refine Kd.C_drewN ?_ _) | (with_reducible refine Kd.C_drew ?_))); (case side2 => exact HC0_0.out); rintro e w23 ⟨v270, rfl, ho0, hb⟩; refine ⟨_, rfl, ?_⟩; have n0_ := Aside0.mk (Kd.R_lower ho0 (below_size (by repeat (first | (with_reducible first | exact HB.out | apply below_alloc | apply pw_below_drewN | apply below_drew1 | refine below_set ?_ GE261.out) | exact HB.out)))); have n1_ := Aside0.mk (blk_below (g := gb261) (o := .cells #[.slice A0_0 l0_0.length c0_0] 24 (0, 0)) (by (with_reducible repeat (first | refine blk_drewN ?_ _ | refine blk_drew ?_ | refine blk_alloc ?_ _)); exact BK261.out) hb); have n2_ := Aside0.mk (below_step (by repeat (first | (with_reducible first | exact HB.out | apply below_alloc | apply pw_below_drewN | apply below_drew1 | refine below_set ?_ GE261.out) | exact HB.out)) hb); clear BK261; clear HB; have HO271 := n0_; have BK261 := n1_; have HB := n2_; clear n0_ n1_ n2_; (try clear hb); (try clear hb2); (try clear hk); (try clear hi); (try clear ho0); obtain ⟨Ao24, co24, eo24⟩ := Kd.R_slice HO271.out; subst eo24))
                go_ret
                exact ⟨by first | rfl | (simp [errW_none, errW_some] <;> rfl) | (simp [*, errW_none, errW_some] <;> rfl), by repeat (first | (with_reducible first | exact HB.out | apply below_alloc | apply pw_below_drewN | apply below_drew1 | refine below_set ?_ GE261.out) | exact HB.out)⟩

end Go.Proofs.Ytblpfjocmbppbaa.PA
