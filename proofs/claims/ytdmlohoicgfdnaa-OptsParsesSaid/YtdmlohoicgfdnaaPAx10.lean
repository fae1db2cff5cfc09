-- Printed for this claim by wip/tools/xprint.py over the kit's print; the contracts marked BY HAND are this session's own.
import Derived.Test.YtdmlohoicgfdnaaPAx0
import Derived.Test.YtdmlohoicgfdnaaPAx6
import Derived.Test.YtdmlohoicgfdnaaPAx9
namespace Go.Proofs.Ytdmlohoicgfdnaa.PA
open Go.RowKit Go.Proofs.YtdmlohoicgfdnaaW.PrintWords Go.Proofs.YtdmlohoicgfdnaaW.PrintLast Go.Proofs.YtdmlohoicgfdnaaW.PrintMore
attribute [local go_sem] max2_int min2_int max_two min_two max_three min_three max_four min_four   -- for this text's walks alone
set_option linter.unusedVariables false
set_option linter.unusedSimpArgs false

/-! ### haulierref18_Parse: function 14 -/
def haulierref18_Parse.j0 : Nat → List (List Int) → Bool → Option (Int × Int × Int × Int)
  | 0, _, _ => none
  | k + 1, x4, x26 => if x26 = true then (some (0, 0, 0, 2)) else (if 0 < (x4.length : Int) then (if 0 < ((rd_L2 x4 0).length : Int) then (if 1 < ((rd_L2 x4 0).length : Int) then (if 2 < ((rd_L2 x4 0).length : Int) then ((haulierref18_May.f (rd (rd_L2 x4 0) 0) (rd (rd_L2 x4 0) 1) (rd (rd_L2 x4 0) 2)).bind fun t271 => (if t271 = true then (some (rd (rd_L2 x4 0) 0, rd (rd_L2 x4 0) 1, rd (rd_L2 x4 0) 2, 0)) else (some (0, 0, 0, 1)))) else (none)) else (none)) else (none)) else (none))
def haulierref18_Parse.f (k : Nat) (l0 : List Int) : Option (Int × Int × Int × Int) := (haulierref04_Lines.f k l0).bind fun bt259 => (if bt259.2 = 0 then (if (bt259.1.length : Int) = 1 then (if 0 < (bt259.1.length : Int) then (haulierref18_Parse.j0 k bt259.1 (((rd_L2 bt259.1 0).length : Int) != 3)) else (none)) else (haulierref18_Parse.j0 k bt259.1 true)) else (some (0, 0, 0, bt259.2)))
theorem haulierref18_Parse.mono_l : ∀ k, (∀ y0 y1, LeO (haulierref18_Parse.j0 k y0 y1) (haulierref18_Parse.j0 (k + 1) y0 y1))
  | 0 => fun _ _ r h => by simp [haulierref18_Parse.j0] at h
  | k + 1 => by
    have ih0 := haulierref18_Parse.mono_l k
    · intro y0 y1
      unfold haulierref18_Parse.j0
      repeat' first
      | (with_reducible exact ih0 _ _)
      | (with_reducible exact haulierref04_Lines.mono _ _)
      | (with_reducible exact LeO.refl _)
      | (with_reducible exact LeO.none _)
      | (with_reducible refine LeO.ite ?_ ?_)
      | (with_reducible refine LeO.bind ?_ (fun _ => ?_))
      | exact ih0 _ _
      | exact haulierref04_Lines.mono _ _
      | exact LeO.none _
      | refine LeO.ite ?_ ?_
      | refine LeO.bind ?_ (fun _ => ?_)
theorem haulierref18_Parse.mono : ∀ a0 k, LeO (haulierref18_Parse.f k a0) (haulierref18_Parse.f (k + 1) a0) := by
  intro a0 k
  have ih0 := haulierref18_Parse.mono_l k
  unfold haulierref18_Parse.f
  repeat' first
      | (with_reducible exact ih0 _ _)
      | (with_reducible exact haulierref04_Lines.mono _ _)
      | (with_reducible exact LeO.refl _)
      | (with_reducible exact LeO.none _)
      | (with_reducible refine LeO.ite ?_ ?_)
      | (with_reducible refine LeO.bind ?_ (fun _ => ?_))
      | exact ih0 _ _
      | exact haulierref04_Lines.mono _ _
      | exact LeO.none _
      | refine LeO.ite ?_ ?_
      | refine LeO.bind ?_ (fun _ => ?_)
def haulierref18_Parse.T6 : Bool × List (List Nat × List Nat) := (true, [([], []), ([0], [0]), ([1], [1]), ([2], [2]), ([3], [3]), ([], []), ([5], [5]), ([6], [6]), ([7], [7]), ([8], [8]), ([], []), ([10], [10]), ([11], [11]), ([12], [12]), ([13], [13]), ([4, 9, 14], [4, 9, 14]), ([], []), ([16, 15, 0, 1, 2, 3, 4, 5, 6, 7, 8, 9, 10, 11, 12, 13, 14, 15, 16], [15, 16])])
def haulierref18_Parse.B6 : List Nat := [0, 1, 3, 7, 15, 0, 32, 96, 224, 480, 0, 1024, 3072, 7168, 15360, 32767, 0, 131071]
theorem haulierref18_Parse.tab6 : rtab .any (opsOf Try.f14 6) = haulierref18_Parse.T6 := by kernel_rfl
theorem haulierref18_Parse.bits6 : waitsOk haulierref18_Parse.T6.2 haulierref18_Parse.B6 = true := by kernel_rfl
set_option maxHeartbeats 8000000 in
set_option maxRecDepth 100000 in
theorem haulierref18_Parse.calls (k : Nat) (A0 : Option Addr) (c0 : Nat) (l0 : List Int) (r1 : Int) (r2 : Int) (r3 : Int) (r4 : Int) (w : World) (hr0 : Kd.C (Kd.int .u8) w A0 l0.length l0) (hc0 : l0.length ≤ c0) (h : haulierref18_Parse.f k l0 = some (r1, r2, r3, r4)) :
    Calls Try.prog 14 #[.slice A0 l0.length c0] w fun e w' => e = .returned (.tuple #[.agg #[.int .i64 r1, .int .i64 r2, .int .i64 r3], .int .i64 r4]) ∧ Below w.heap.size w w' := by
  have hu33 := Try.underlying33
  have HR0 := Aside0.mk hr0
  have HC0 := Aside0.mk hc0
  clear hr0 hc0
  have HB := Aside0.mk (Below.refl w.heap.size w)
  have H : ((haulierref04_Lines.f k l0).bind fun bt259 => (if bt259.2 = 0 then (if (bt259.1.length : Int) = 1 then (if 0 < (bt259.1.length : Int) then (haulierref18_Parse.j0 k bt259.1 (((rd_L2 bt259.1 0).length : Int) != 3)) else (none)) else (haulierref18_Parse.j0 k bt259.1 true)) else (some (0, 0, 0, bt259.2)))) = some (r1, r2, r3, r4) := h
  clear h
  replace H := Option.bind_eq_some_iff.mp H
  obtain ⟨⟨t259, t260⟩, A20, H⟩ := H
  replace H : (if t260 = 0 then (if (t259.length : Int) = 1 then (if 0 < (t259.length : Int) then (haulierref18_Parse.j0 k t259 (((rd_L2 t259 0).length : Int) != 3)) else (none)) else (haulierref18_Parse.j0 k t259 true)) else (some (0, 0, 0, t260))) = some (r1, r2, r3, r4) := H
  have A2 := Aside0.mk A20
  clear A20
  by_cases c3 : t260 = 0
  · rw [if_pos c3] at H
    have c3b0 : (t260 == 0) = true := beq_iff_eq.mpr c3
    have c3b1 : (t260 != 0) = false := bne_eq_false_iff_eq.mpr c3
    clear c3
    have HC4 := Aside0.mk H
    clear H
    go_enter Try.func14, Try.ntmps14
    go_upto_region 4 with (first | ((with_reducible refine gate_dst (N := 2) rfl ?_); (try (refine gate_guard (by rfl) ?_; dsimp only)); refine box_event ?hg (N := 2) ?hd (cs := #[.int .i64 0, .int .i64 0, .int .i64 0]) (t := 33) ?hr ?_; (case hd => rfl); (case hg => rfl); (case hr => first | (go_simp; done) | (go_simp; rfl)); intro gb258 hg w5 hbox hb; have n0_ := Aside0.mk (below_step (by repeat (first | (with_reducible first | exact HB.out | apply below_alloc | apply pw_below_drewN | apply below_drew1) | exact HB.out)) hb); have n1_ := Aside0.mk (hbox); have n2_ := Aside0.mk ((by rw [hg]; exact (below_size (by repeat (first | (with_reducible first | exact HB.out | apply below_alloc | apply pw_below_drewN | apply below_drew1) | exact HB.out))) : w.heap.size ≤ gb258)); have n3_ := Aside0.mk ((by rw [hg]; exact (below_size (by repeat (first | (with_reducible first | exact HB.out | apply below_alloc | apply pw_below_drewN | apply below_drew1) | exact HB.out))) : w.heap.size ≤ gb258)); clear HB; have HB := n0_; have BK258 := n1_; have GW258 := n2_; have GE258 := n3_; clear n0_ n1_ n2_ n3_; clear hb hbox hg) | ((with_reducible refine gate_callee (f := 10) rfl ?_); refine goesL_ (some 10) rfl rfl Try.func10 (by kernel_rfl) rfl #[.slice A0 l0.length c0] rfl (by (try simp only [List.map_toArray, List.map_cons, List.map_nil]); first | done | rfl | (simp only [List.length_drop, List.length_take]; rfl)) ?_; (with_reducible refine (haulierref04_Lines.calls k _ _ l0 t259 t260 _ ?side1 ?side2 A2.out).mono ?_); (case side1 => repeat (first | exact (Kd.C_below HR0.out HB.out) | (with_reducible refine Kd.C_alloc ?_ _) | (with_reducible refine Kd.C_drewN ?_ _) | (with_reducible refine Kd.C_drew ?_))); (case side2 => exact HC0.out); rintro e w6 ⟨v261, rfl, ho0, hb⟩; refine ⟨_, rfl, ?_⟩; have n0_ := Aside0.mk (Kd.S_lower ho0 (below_size (by repeat (first | (with_reducible first | exact HB.out | apply below_alloc | apply pw_below_drewN | apply below_drew1 | refine below_set ?_ GE258.out) | exact HB.out)))); have n1_ := Aside0.mk (blk_below (g := gb258) (o := .cells #[.int .i64 0, .int .i64 0, .int .i64 0] 33 (0, 0)) (by (with_reducible repeat (first | refine blk_drewN ?_ _ | refine blk_drew ?_ | refine blk_alloc ?_ _)); exact BK258.out) hb); have n2_ := Aside0.mk (below_step (by repeat (first | (with_reducible first | exact HB.out | apply below_alloc | apply pw_below_drewN | apply below_drew1 | refine below_set ?_ GE258.out) | exact HB.out)) hb); clear BK258; clear HB; have HO262 := n0_; have BK258 := n1_; have HB := n2_; clear n0_ n1_ n2_; (try clear hb); (try clear hb2); (try clear hk); (try clear hi); (try clear ho0)))
    (try simp only [Act.put, List.setIfInBounds_toArray, List.set_cons_zero, List.set_cons_succ])
    go_cut [26] (fun v26 wc => ∃ (kq : Nat) (x26_3 : Bool), v26 = .bool x26_3 ∧ Aside0 (haulierref18_Parse.j0 kq t259 x26_3 = some (r1, r2, r3, r4)) ∧ Aside0 (kq ≤ k) ∧ Aside0 (Kd.S (Kd.slice 3 (Kd.int .i64)) 36 wc w.heap.size (fun _ => True) v261 t259) ∧ Aside0 (wc.heap[gb258]? = some (.cells #[.int .i64 0, .int .i64 0, .int .i64 0] 33 (0, 0))) ∧ Aside0 (Below w.heap.size w wc))
    case first =>
      have H := HC4.out
      clear HC4
      by_cases c7 : (t259.length : Int) = 1
      · rw [if_pos c7] at H
        have c7b0 : ((t259.length : Int) == 1) = true := beq_iff_eq.mpr c7
        have c7b1 : ((t259.length : Int) != 1) = false := bne_eq_false_iff_eq.mpr c7
        clear c7
        (first | rw [c7b0] | (simp only [i64_w, i32_w]; rw [c7b0]) | skip)
        by_cases c8 : 0 < (t259.length : Int)
        · rw [if_pos c8] at H
          have c8b0 : decide (0 < (t259.length : Int)) = true := decide_eq_true c8
          have c8b1 : decide (0 < t259.length) = true := decide_eq_true (by omega)
          clear c8
          have H' := Aside0.mk H
          clear H
          obtain ⟨Ao9, co9, eo9⟩ := Kd.S_slice HO262.out
          subst eo9
          have p263 : 0 ≤ (0 : Int) := (by omega)
          have q263 : 0 < (t259.length : Int) := of_decide_eq_true (by first | (with_reducible assumption) | assumption)
          obtain ⟨ad263, A263_0, c263_0, e263, hx263_0, hl263_0, hi263_0⟩ := at_L2 (Kd.S_reads' HO262.out).2.2 0 p263 q263
          cases e263
          obtain ⟨ce263, hce263, hMe263, hcc263⟩ := Kd.S_get HO262.out [] 0 p263 (by first | exact q263 | exact of_decide_eq_true (by first | (with_reducible assumption) | assumption) | (have e_ := (Kd.S_reads' HO262.out).1; omega))
          obtain ⟨ve263_0, rfl, ge263_0⟩ := hMe263
          have hv263_0 := hcc263 0 _ rfl
          rw [Nat.add_zero, show ((Kd.slice 3 (Kd.int .i64))).sz = 1 from rfl, Nat.mul_one] at hv263_0
          replace hv263_0 := Option.some.inj (hv263_0.symm.trans hx263_0)
          rw [hv263_0] at ge263_0
          have HL263_0 := Aside0.mk (show Kd.R (Kd.int .i64) 3 _ _ _ _ (rd_L2 t259 0) from ge263_0)
          clear hv263_0 ge263_0
          clear hcc263 hce263
          have qi263 : (0 < t259.length) = True := eq_true (by omega)
          (try rw [show ((0 : Int)).toNat = 0 from rfl] at hx263_0)
          (try rw [Addr.add_zero'] at hx263_0)
          have HR263_0 := Aside0.mk hi263_0
          have HC263_0 := Aside0.mk hl263_0
          clear hi263_0 hl263_0
          replace p263 := eq_true p263
          replace q263 := eq_true q263
          go_wp2
          go_meet
          case rel => exact ⟨_, ((((rd_L2 t259 0).length : Int) != 3)), (by first | rfl | (simp; done) | (simp [*]; done)), H', ⟨by first | omega | exact Nat.le_refl _⟩, ⟨by (with_reducible repeat (first | apply Kd.S_alloc | apply Kd.S_drewN | apply Kd.S_drew)); exact HO262.out⟩, ⟨by (with_reducible repeat (first | refine blk_drewN ?_ _ | refine blk_drew ?_ | refine blk_alloc ?_ _)); exact BK258.out⟩, ⟨by repeat (first | (with_reducible first | exact HB.out | apply below_alloc | apply pw_below_drewN | apply below_drew1 | refine below_set ?_ GE258.out) | exact HB.out)⟩⟩
        · rw [if_neg c8] at H
          exact absurd H (by simp)
      · rw [if_neg c7] at H
        have c7b0 : ((t259.length : Int) == 1) = false := beq_eq_false_iff_ne.mpr c7
        have c7b1 : ((t259.length : Int) != 1) = true := bne_iff_ne.mpr c7
        (first | rw [c7b0] | (simp only [i64_w, i32_w]; rw [c7b0]) | skip)
        have H' := Aside0.mk H
        clear H
        obtain ⟨Ao10, co10, eo10⟩ := Kd.S_slice HO262.out
        subst eo10
        go_wp2
        go_meet
        case rel => exact ⟨_, (true), (by first | rfl | (simp; done) | (simp [*]; done)), H', ⟨by first | omega | exact Nat.le_refl _⟩, ⟨by (with_reducible repeat (first | apply Kd.S_alloc | apply Kd.S_drewN | apply Kd.S_drew)); exact HO262.out⟩, ⟨by (with_reducible repeat (first | refine blk_drewN ?_ _ | refine blk_drew ?_ | refine blk_alloc ?_ _)); exact BK258.out⟩, ⟨by repeat (first | (with_reducible first | exact HB.out | apply below_alloc | apply pw_below_drewN | apply below_drew1 | refine below_set ?_ GE258.out) | exact HB.out)⟩⟩
    case rest =>
      clear HC4
      try clear c1
      try clear c2
      try clear p2
      try clear q2
      try clear hx2
      try clear qi2
      try clear c3
      try clear c3b0
      try clear c3b1
      try clear c7
      try clear c7b0
      try clear c7b1
      try clear c8
      try clear c8b0
      try clear c8b1
      try clear c10
      try clear hx263_0
      try clear p263
      try clear q263
      obtain ⟨kq, x26_3, rfl, HA, HJ3, HO_4, BK258, HB⟩ := hcut
      cases kq with
      | zero => exact absurd HA.out (by simp [haulierref18_Parse.j0])
      | succ kj3 =>
        have H := HA.out
        clear HA
        simp only [haulierref18_Parse.j0] at H
        by_cases c11 : x26_3 = true
        · subst c11
          have H1 : (some (0, 0, 0, 2)) = some (r1, r2, r3, r4) := by rw [if_pos rfl] at H; exact H
          clear H
          have H := H1
          clear H1
          simp only [Option.some.injEq, Prod.mk.injEq] at H
          obtain ⟨rfl, rfl, rfl, rfl⟩ := H
          have hcz12_0 : wc.cell? ⟨gb258, 0, none⟩ = some (.int .i64 0) := (blk_cell BK258.out 0).trans rfl
          have hcz12_1 : wc.cell? ⟨gb258, 1, none⟩ = some (.int .i64 0) := (blk_cell BK258.out 1).trans rfl
          have hcz12_2 : wc.cell? ⟨gb258, 2, none⟩ = some (.int .i64 0) := (blk_cell BK258.out 2).trans rfl
          have hfz12_0 := blk_frozen BK258.out 0
          have hfz12_1 := blk_frozen BK258.out 1
          have hfz12_2 := blk_frozen BK258.out 2
          go_wp2
          refine bodyPost_ret (results_ct rfl _ _ gb258 33 #[.int .i64 0, .int .i64 0, .int .i64 0] (0, 0) _ rfl (by (with_reducible repeat (first | refine blk_drewN ?_ _ | refine blk_drew ?_ | refine blk_alloc ?_ _)); refine blk_put (cs := #[.int .i64 0, .int .i64 0, .int .i64 0]) ?_ 2 _ rfl; (with_reducible repeat (first | refine blk_drewN ?_ _ | refine blk_drew ?_ | refine blk_alloc ?_ _)); refine blk_put (cs := #[.int .i64 0, .int .i64 0, .int .i64 0]) ?_ 1 _ rfl; (with_reducible repeat (first | refine blk_drewN ?_ _ | refine blk_drew ?_ | refine blk_alloc ?_ _)); refine blk_put (cs := #[.int .i64 0, .int .i64 0, .int .i64 0]) ?_ 0 _ rfl; (with_reducible repeat (first | refine blk_drewN ?_ _ | refine blk_drew ?_ | refine blk_alloc ?_ _)); exact BK258.out) Try.underlying33 rfl (by kernel_rfl)) rfl ?_
          exact ⟨by first | rfl | (simp [errW_none, errW_some] <;> rfl) | (simp [*, errW_none, errW_some] <;> rfl), by repeat (first | (with_reducible first | exact HB.out | apply below_alloc | apply pw_below_drewN | apply below_drew1 | refine below_set ?_ GE258.out) | exact HB.out)⟩
        · replace c11 := Bool.eq_false_iff.mpr c11
          subst c11
          have H1 : (if 0 < (t259.length : Int) then (if 0 < ((rd_L2 t259 0).length : Int) then (if 1 < ((rd_L2 t259 0).length : Int) then (if 2 < ((rd_L2 t259 0).length : Int) then ((haulierref18_May.f (rd (rd_L2 t259 0) 0) (rd (rd_L2 t259 0) 1) (rd (rd_L2 t259 0) 2)).bind fun t271 => (if t271 = true then (some (rd (rd_L2 t259 0) 0, rd (rd_L2 t259 0) 1, rd (rd_L2 t259 0) 2, 0)) else (some (0, 0, 0, 1)))) else (none)) else (none)) else (none)) else (none)) = some (r1, r2, r3, r4) := by rw [if_neg (show ¬ (false = true) by decide)] at H; exact H
          clear H
          have H := H1
          clear H1
          by_cases c13 : 0 < (t259.length : Int)
          · rw [if_pos c13] at H
            have c13b0 : decide (0 < (t259.length : Int)) = true := decide_eq_true c13
            have c13b1 : decide (0 < t259.length) = true := decide_eq_true (by omega)
            clear c13
            by_cases c14 : 0 < ((rd_L2 t259 0).length : Int)
            · rw [if_pos c14] at H
              have c14b0 : decide (0 < ((rd_L2 t259 0).length : Int)) = true := decide_eq_true c14
              have c14b1 : decide (0 < (rd_L2 t259 0).length) = true := decide_eq_true (by omega)
              clear c14
              by_cases c15 : 1 < ((rd_L2 t259 0).length : Int)
              · rw [if_pos c15] at H
                have c15b0 : decide (1 < ((rd_L2 t259 0).length : Int)) = true := decide_eq_true c15
                have c15b1 : decide (1 < (rd_L2 t259 0).length) = true := decide_eq_true (by omega)
                clear c15
                by_cases c16 : 2 < ((rd_L2 t259 0).length : Int)
                · rw [if_pos c16] at H
                  have c16b0 : decide (2 < ((rd_L2 t259 0).length : Int)) = true := decide_eq_true c16
                  have c16b1 : decide (2 < (rd_L2 t259 0).length) = true := decide_eq_true (by omega)
                  clear c16
                  replace H := Option.bind_eq_some_iff.mp H
                  obtain ⟨t271, A170, H⟩ := H
                  replace H : (if t271 = true then (some (rd (rd_L2 t259 0) 0, rd (rd_L2 t259 0) 1, rd (rd_L2 t259 0) 2, 0)) else (some (0, 0, 0, 1))) = some (r1, r2, r3, r4) := H
                  have A17 := Aside0.mk A170
                  clear A170
                  by_cases c18 : t271 = true
                  · subst c18
                    have H1 : (some (rd (rd_L2 t259 0) 0, rd (rd_L2 t259 0) 1, rd (rd_L2 t259 0) 2, 0)) = some (r1, r2, r3, r4) := by rw [if_pos rfl] at H; exact H
                    clear H
                    have H := H1
                    clear H1
                    simp only [Option.some.injEq, Prod.mk.injEq] at H
                    obtain ⟨rfl, rfl, rfl, rfl⟩ := H
                    try go_wp2
                    have n0_ := Aside0.mk (Kd.S_drew HO_4.out)
                    have n1_ := Aside0.mk (blk_drew BK258.out)
                    have n2_ := Aside0.mk (below_drew1 HB.out)
                    clear HO_4
                    clear BK258
                    clear HB
                    have HO_4 := n0_
                    have BK258 := n1_
                    have HB := n2_
                    clear n0_ n1_ n2_
                    obtain ⟨Ao20, co20, eo20⟩ := Kd.S_slice HO_4.out
                    (first | subst eo20 | (injection eo20 with f1_ f2_ f3_; have f4_ := f1_.symm; have f5_ := f3_.symm; clear f1_ f2_ f3_; subst f4_; subst f5_))
                    have p264 : 0 ≤ (0 : Int) := (by omega)
                    have q264 : 0 < (t259.length : Int) := of_decide_eq_true (by first | (with_reducible assumption) | assumption)
                    obtain ⟨ad264, A264_0, c264_0, e264, hx264_0, hl264_0, hi264_0⟩ := at_L2 (Kd.S_reads' HO_4.out).2.2 0 p264 q264
                    cases e264
                    obtain ⟨ce264, hce264, hMe264, hcc264⟩ := Kd.S_get HO_4.out [] 0 p264 (by first | exact q264 | exact of_decide_eq_true (by first | (with_reducible assumption) | assumption) | (have e_ := (Kd.S_reads' HO_4.out).1; omega))
                    obtain ⟨ve264_0, rfl, ge264_0⟩ := hMe264
                    have hv264_0 := hcc264 0 _ rfl
                    rw [Nat.add_zero, show ((Kd.slice 3 (Kd.int .i64))).sz = 1 from rfl, Nat.mul_one] at hv264_0
                    replace hv264_0 := Option.some.inj (hv264_0.symm.trans hx264_0)
                    rw [hv264_0] at ge264_0
                    have HL264_0 := Aside0.mk (show Kd.R (Kd.int .i64) 3 _ _ _ _ (rd_L2 t259 0) from ge264_0)
                    clear hv264_0 ge264_0
                    clear hcc264 hce264
                    have qi264 : (0 < t259.length) = True := eq_true (by omega)
                    (try rw [show ((0 : Int)).toNat = 0 from rfl] at hx264_0)
                    (try rw [Addr.add_zero'] at hx264_0)
                    have HR264_0 := Aside0.mk hi264_0
                    have HC264_0 := Aside0.mk hl264_0
                    clear hi264_0 hl264_0
                    replace p264 := eq_true p264
                    replace q264 := eq_true q264
                    have p265 : 0 ≤ (0 : Int) := (by omega)
                    have q265 : 0 < ((rd_L2 t259 0).length : Int) := of_decide_eq_true (by first | (with_reducible assumption) | assumption)
                    obtain ⟨ad265, e265, hx265_0⟩ := Kd.at_int (by repeat (first | (with_reducible exact HR264_0.out) | (with_reducible refine Kd.C_alloc ?_ _) | (with_reducible refine Kd.C_drewN ?_ _) | (with_reducible refine Kd.C_drew ?_) | exact HR264_0.out)) 0 p265 q265
                    cases e265
                    have qi265 : (0 < (rd_L2 t259 0).length) = True := eq_true (by omega)
                    (try rw [show ((0 : Int)).toNat = 0 from rfl] at hx265_0)
                    (try rw [Addr.add_zero'] at hx265_0)
                    replace p265 := eq_true p265
                    replace q265 := eq_true q265
                    have p266 : 0 ≤ (0 : Int) := (by omega)
                    have q266 : 0 < (t259.length : Int) := of_decide_eq_true (by first | (with_reducible assumption) | assumption)
                    obtain ⟨ad266, A266_0, c266_0, e266, hx266_0, hl266_0, hi266_0⟩ := at_L2 (Kd.S_reads' HO_4.out).2.2 0 p266 q266
                    obtain rfl : ad264 = ad266 := (by injection e266)
                    obtain ⟨ce266, hce266, hMe266, hcc266⟩ := Kd.S_get HO_4.out [] 0 p266 (by first | exact q266 | exact of_decide_eq_true (by first | (with_reducible assumption) | assumption) | (have e_ := (Kd.S_reads' HO_4.out).1; omega))
                    obtain ⟨ve266_0, rfl, ge266_0⟩ := hMe266
                    have hv266_0 := hcc266 0 _ rfl
                    rw [Nat.add_zero, show ((Kd.slice 3 (Kd.int .i64))).sz = 1 from rfl, Nat.mul_one] at hv266_0
                    replace hv266_0 := Option.some.inj (hv266_0.symm.trans hx266_0)
                    rw [hv266_0] at ge266_0
                    have HL266_0 := Aside0.mk (show Kd.R (Kd.int .i64) 3 _ _ _ _ (rd_L2 t259 0) from ge266_0)
                    clear hv266_0 ge266_0
                    clear hcc266 hce266
                    have qi266 : (0 < t259.length) = True := eq_true (by omega)
                    (try rw [show ((0 : Int)).toNat = 0 from rfl] at hx266_0)
                    (try rw [Addr.add_zero'] at hx266_0)
                    have HR266_0 := Aside0.mk hi266_0
                    have HC266_0 := Aside0.mk hl266_0
                    clear hi266_0 hl266_0
                    replace p266 := eq_true p266
                    replace q266 := eq_true q266
                    have ea_ := Option.some.inj (hx264_0.symm.trans hx266_0)
                    injection ea_ with ea_ en_ ec_
                    subst ea_
                    subst ec_
                    clear en_
                    have p267 : 0 ≤ (1 : Int) := (by omega)
                    have q267 : 1 < ((rd_L2 t259 0).length : Int) := of_decide_eq_true (by first | (with_reducible assumption) | assumption)
                    obtain ⟨ad267, e267, hx267_0⟩ := Kd.at_int (by repeat (first | (with_reducible exact HR266_0.out) | (with_reducible refine Kd.C_alloc ?_ _) | (with_reducible refine Kd.C_drewN ?_ _) | (with_reducible refine Kd.C_drew ?_) | exact HR266_0.out)) 1 p267 q267
                    cases e267
                    (try simp only [show (1 : Int).toNat = 1 from rfl, Nat.reduceMul, Nat.reduceEqDiff, Go.Addr.add, ↓reduceIte] at hx267_0)
                    have qi267 : (1 < (rd_L2 t259 0).length) = True := eq_true (by omega)
                    (try rw [show ((1 : Int)).toNat = 1 from rfl] at hx267_0)
                    replace p267 := eq_true p267
                    replace q267 := eq_true q267
                    have p268 : 0 ≤ (0 : Int) := (by omega)
                    have q268 : 0 < (t259.length : Int) := of_decide_eq_true (by first | (with_reducible assumption) | assumption)
                    obtain ⟨ad268, A268_0, c268_0, e268, hx268_0, hl268_0, hi268_0⟩ := at_L2 (Kd.S_reads' HO_4.out).2.2 0 p268 q268
                    obtain rfl : ad264 = ad268 := (by injection e268)
                    obtain ⟨ce268, hce268, hMe268, hcc268⟩ := Kd.S_get HO_4.out [] 0 p268 (by first | exact q268 | exact of_decide_eq_true (by first | (with_reducible assumption) | assumption) | (have e_ := (Kd.S_reads' HO_4.out).1; omega))
                    obtain ⟨ve268_0, rfl, ge268_0⟩ := hMe268
                    have hv268_0 := hcc268 0 _ rfl
                    rw [Nat.add_zero, show ((Kd.slice 3 (Kd.int .i64))).sz = 1 from rfl, Nat.mul_one] at hv268_0
                    replace hv268_0 := Option.some.inj (hv268_0.symm.trans hx268_0)
                    rw [hv268_0] at ge268_0
                    have HL268_0 := Aside0.mk (show Kd.R (Kd.int .i64) 3 _ _ _ _ (rd_L2 t259 0) from ge268_0)
                    clear hv268_0 ge268_0
                    clear hcc268 hce268
                    have qi268 : (0 < t259.length) = True := eq_true (by omega)
                    (try rw [show ((0 : Int)).toNat = 0 from rfl] at hx268_0)
                    (try rw [Addr.add_zero'] at hx268_0)
                    have HR268_0 := Aside0.mk hi268_0
                    have HC268_0 := Aside0.mk hl268_0
                    clear hi268_0 hl268_0
                    replace p268 := eq_true p268
                    replace q268 := eq_true q268
                    have ea_ := Option.some.inj (hx264_0.symm.trans hx268_0)
                    injection ea_ with ea_ en_ ec_
                    subst ea_
                    subst ec_
                    clear en_
                    have p269 : 0 ≤ (2 : Int) := (by omega)
                    have q269 : 2 < ((rd_L2 t259 0).length : Int) := of_decide_eq_true (by first | (with_reducible assumption) | assumption)
                    obtain ⟨ad269, e269, hx269_0⟩ := Kd.at_int (by repeat (first | (with_reducible exact HR268_0.out) | (with_reducible refine Kd.C_alloc ?_ _) | (with_reducible refine Kd.C_drewN ?_ _) | (with_reducible refine Kd.C_drew ?_) | exact HR268_0.out)) 2 p269 q269
                    cases e269
                    (try simp only [show (2 : Int).toNat = 2 from rfl, Nat.reduceMul, Nat.reduceEqDiff, Go.Addr.add, ↓reduceIte] at hx269_0)
                    have qi269 : (2 < (rd_L2 t259 0).length) = True := eq_true (by omega)
                    (try rw [show ((2 : Int)).toNat = 2 from rfl] at hx269_0)
                    replace p269 := eq_true p269
                    replace q269 := eq_true q269
                    refine start_ (n := 18) (S := fun w' => w'.cell? ad264 = some (.slice (some ad265) (rd_L2 t259 0).length c264_0) ∧ w'.cell? ad265 = some (.int .i64 (rd (rd_L2 t259 0) 0)) ∧ w'.cell? ad264 = some (.slice (some ad265) (rd_L2 t259 0).length c264_0) ∧ w'.cell? ⟨ad265.block, ad265.off + 1, none⟩ = some (.int .i64 (rd (rd_L2 t259 0) 1)) ∧ w'.cell? ad264 = some (.slice (some ad265) (rd_L2 t259 0).length c264_0) ∧ w'.cell? ⟨ad265.block, ad265.off + 2, none⟩ = some (.int .i64 (rd (rd_L2 t259 0) 2))) (ds := []) #[false, false, false, false, false, false, false, false, false, false, false, false, false, false, false, false, false, false] (by kernel_rfl) rfl rfl ⟨hx264_0, hx265_0, hx266_0, hx267_0, hx268_0, hx269_0⟩ (fun hHeld => ?_); refine with_tabW haulierref18_Parse.tab6 haulierref18_Parse.bits6 (fun HT_ HW_ => ?_)
                    generalize wc.drew = w19 at HO_4 BK258 HB HL264_0 HL266_0 HL268_0 HR264_0 HR266_0 HR268_0 hx264_0 hx265_0 hx266_0 hx267_0 hx268_0 hx269_0 hHeld ⊢
                    refine pure_ (i := 0) (N := some 28) (v := ?_) (a' := ?_) #[true, false, false, false, false, false, false, false, false, false, false, false, false, false, false, false, false, false] rfl rfl (any_of HT_.out (by kernel_rfl)) (fun _ _ _ h => h) (Or.inl ⟨by rfl, ?_⟩) ?_ ?_
                    rotate_left
                    · intro w'
                      go_simp
                      with_reducible rfl
                    rotate_left
                    · simp only [Act.put, List.setIfInBounds_toArray, List.set_cons_zero, List.set_cons_succ, i64_w, i32_w]
                      rfl
                    refine pure_ (i := 1) (N := some 29) (v := ?_) (a' := ?_) #[true, true, false, false, false, false, false, false, false, false, false, false, false, false, false, false, false, false] rfl rfl (any_of HT_.out (by kernel_rfl)) (fun _ _ _ h => h) (Or.inl ⟨by rfl, ?_⟩) ?_ ?_
                    rotate_left
                    · intro w'
                      go_simp
                      with_reducible rfl
                    rotate_left
                    · simp only [Act.put, List.setIfInBounds_toArray, List.set_cons_zero, List.set_cons_succ, i64_w, i32_w]
                      rfl
                    refine pure_ (i := 5) (N := some 33) (v := ?_) (a' := ?_) #[true, true, false, false, false, true, false, false, false, false, false, false, false, false, false, false, false, false] rfl rfl (any_of HT_.out (by kernel_rfl)) (fun _ _ _ h => h) (Or.inl ⟨by rfl, ?_⟩) ?_ ?_
                    rotate_left
                    · intro w'
                      go_simp
                      with_reducible rfl
                    rotate_left
                    · simp only [Act.put, List.setIfInBounds_toArray, List.set_cons_zero, List.set_cons_succ, i64_w, i32_w]
                      rfl
                    refine pure_ (i := 6) (N := some 34) (v := ?_) (a' := ?_) #[true, true, false, false, false, true, true, false, false, false, false, false, false, false, false, false, false, false] rfl rfl (any_of HT_.out (by kernel_rfl)) (fun _ _ _ h => h) (Or.inl ⟨by rfl, ?_⟩) ?_ ?_
                    rotate_left
                    · intro w'
                      go_simp
                      with_reducible rfl
                    rotate_left
                    · simp only [Act.put, List.setIfInBounds_toArray, List.set_cons_zero, List.set_cons_succ, i64_w, i32_w]
                      rfl
                    refine pure_ (i := 10) (N := some 38) (v := ?_) (a' := ?_) #[true, true, false, false, false, true, true, false, false, false, true, false, false, false, false, false, false, false] rfl rfl (any_of HT_.out (by kernel_rfl)) (fun _ _ _ h => h) (Or.inl ⟨by rfl, ?_⟩) ?_ ?_
                    rotate_left
                    · intro w'
                      go_simp
                      with_reducible rfl
                    rotate_left
                    · simp only [Act.put, List.setIfInBounds_toArray, List.set_cons_zero, List.set_cons_succ, i64_w, i32_w]
                      rfl
                    refine pure_ (i := 11) (N := some 39) (v := ?_) (a' := ?_) #[true, true, false, false, false, true, true, false, false, false, true, true, false, false, false, false, false, false] rfl rfl (any_of HT_.out (by kernel_rfl)) (fun _ _ _ h => h) (Or.inl ⟨by rfl, ?_⟩) ?_ ?_
                    rotate_left
                    · intro w'
                      go_simp
                      with_reducible rfl
                    rotate_left
                    · simp only [Act.put, List.setIfInBounds_toArray, List.set_cons_zero, List.set_cons_succ, i64_w, i32_w]
                      rfl
                    refine take_ (i := 2) (N := some 30) (v := ?_) (a' := ?_) #[true, true, true, false, false, true, true, false, false, false, true, true, false, false, false, false, false, false] rfl rfl (take_ofW HT_.out HW_.out (by kernel_rfl)) (fun _ _ _ h => h) (Or.inl ⟨by rfl, ?_⟩) hHeld ?_ ?_
                    rotate_left
                    · rintro w' ⟨s0, s1, s2, s3, s4, s5⟩
                      go_simp
                      with_reducible rfl
                    rotate_left
                    · simp only [Act.put, List.setIfInBounds_toArray, List.set_cons_zero, List.set_cons_succ, i64_w, i32_w]
                      rfl
                    refine pure_ (i := 3) (N := some 31) (v := ?_) (a' := ?_) #[true, true, true, true, false, true, true, false, false, false, true, true, false, false, false, false, false, false] rfl rfl (any_of HT_.out (by kernel_rfl)) (fun _ _ _ h => h) (Or.inl ⟨by rfl, ?_⟩) ?_ ?_
                    rotate_left
                    · intro w'
                      go_simp
                      with_reducible rfl
                    rotate_left
                    · simp only [Act.put, List.setIfInBounds_toArray, List.set_cons_zero, List.set_cons_succ, i64_w, i32_w]
                      rfl
                    refine take_ (i := 4) (N := some 32) (v := ?_) (a' := ?_) #[true, true, true, true, true, true, true, false, false, false, true, true, false, false, false, false, false, false] rfl rfl (take_ofW HT_.out HW_.out (by kernel_rfl)) (fun _ _ _ h => h) (Or.inl ⟨by rfl, ?_⟩) hHeld ?_ ?_
                    rotate_left
                    · rintro w' ⟨s0, s1, s2, s3, s4, s5⟩
                      go_simp
                      with_reducible rfl
                    rotate_left
                    · simp only [Act.put, List.setIfInBounds_toArray, List.set_cons_zero, List.set_cons_succ, i64_w, i32_w]
                      rfl
                    refine take_ (i := 7) (N := some 35) (v := ?_) (a' := ?_) #[true, true, true, true, true, true, true, true, false, false, true, true, false, false, false, false, false, false] rfl rfl (take_ofW HT_.out HW_.out (by kernel_rfl)) (fun _ _ _ h => h) (Or.inl ⟨by rfl, ?_⟩) hHeld ?_ ?_
                    rotate_left
                    · rintro w' ⟨s0, s1, s2, s3, s4, s5⟩
                      go_simp
                      with_reducible rfl
                    rotate_left
                    · simp only [Act.put, List.setIfInBounds_toArray, List.set_cons_zero, List.set_cons_succ, i64_w, i32_w]
                      rfl
                    refine pure_ (i := 8) (N := some 36) (v := ?_) (a' := ?_) #[true, true, true, true, true, true, true, true, true, false, true, true, false, false, false, false, false, false] rfl rfl (any_of HT_.out (by kernel_rfl)) (fun _ _ _ h => h) (Or.inl ⟨by rfl, ?_⟩) ?_ ?_
                    rotate_left
                    · intro w'
                      go_simp
                      with_reducible rfl
                    rotate_left
                    · simp only [Act.put, List.setIfInBounds_toArray, List.set_cons_zero, List.set_cons_succ, i64_w, i32_w]
                      rfl
                    refine take_ (i := 9) (N := some 37) (v := ?_) (a' := ?_) #[true, true, true, true, true, true, true, true, true, true, true, true, false, false, false, false, false, false] rfl rfl (take_ofW HT_.out HW_.out (by kernel_rfl)) (fun _ _ _ h => h) (Or.inl ⟨by rfl, ?_⟩) hHeld ?_ ?_
                    rotate_left
                    · rintro w' ⟨s0, s1, s2, s3, s4, s5⟩
                      go_simp
                      with_reducible rfl
                    rotate_left
                    · simp only [Act.put, List.setIfInBounds_toArray, List.set_cons_zero, List.set_cons_succ, i64_w, i32_w]
                      rfl
                    refine take_ (i := 12) (N := some 40) (v := ?_) (a' := ?_) #[true, true, true, true, true, true, true, true, true, true, true, true, true, false, false, false, false, false] rfl rfl (take_ofW HT_.out HW_.out (by kernel_rfl)) (fun _ _ _ h => h) (Or.inl ⟨by rfl, ?_⟩) hHeld ?_ ?_
                    rotate_left
                    · rintro w' ⟨s0, s1, s2, s3, s4, s5⟩
                      go_simp
                      with_reducible rfl
                    rotate_left
                    · simp only [Act.put, List.setIfInBounds_toArray, List.set_cons_zero, List.set_cons_succ, i64_w, i32_w]
                      rfl
                    refine pure_ (i := 13) (N := some 41) (v := ?_) (a' := ?_) #[true, true, true, true, true, true, true, true, true, true, true, true, true, true, false, false, false, false] rfl rfl (any_of HT_.out (by kernel_rfl)) (fun _ _ _ h => h) (Or.inl ⟨by rfl, ?_⟩) ?_ ?_
                    rotate_left
                    · intro w'
                      go_simp
                      with_reducible rfl
                    rotate_left
                    · simp only [Act.put, List.setIfInBounds_toArray, List.set_cons_zero, List.set_cons_succ, i64_w, i32_w]
                      rfl
                    refine take_ (i := 14) (N := some 42) (v := ?_) (a' := ?_) #[true, true, true, true, true, true, true, true, true, true, true, true, true, true, true, false, false, false] rfl rfl (take_ofW HT_.out HW_.out (by kernel_rfl)) (fun _ _ _ h => h) (Or.inl ⟨by rfl, ?_⟩) hHeld ?_ ?_
                    rotate_left
                    · rintro w' ⟨s0, s1, s2, s3, s4, s5⟩
                      go_simp
                      with_reducible rfl
                    rotate_left
                    · simp only [Act.put, List.setIfInBounds_toArray, List.set_cons_zero, List.set_cons_succ, i64_w, i32_w]
                      rfl
                    refine pure_ (i := 15) (N := some 43) (v := ?_) (a' := ?_) #[true, true, true, true, true, true, true, true, true, true, true, true, true, true, true, true, false, false] rfl rfl (any_of HT_.out (by kernel_rfl)) (fun _ _ _ h => h) (Or.inl ⟨by rfl, ?_⟩) ?_ ?_
                    rotate_left
                    · intro w'
                      go_simp
                      with_reducible rfl
                    rotate_left
                    · simp only [Act.put, List.setIfInBounds_toArray, List.set_cons_zero, List.set_cons_succ, i64_w, i32_w]
                      rfl
                    refine one_ (i := 16) (N := some 6) #[true, true, true, true, true, true, true, true, true, true, true, true, true, true, true, true, true, false] rfl rfl (one_of HT_.out (by kernel_rfl)) (by decide) (fun K hK => ?_)
                    refine box_step ?hg (N := 6) ?hd (cs := #[.int .i64 0, .int .i64 0, .int .i64 0]) (t := 33) ?hr ?_; (case hd => rfl); (case hg => rfl); (case hr => first | (go_simp; done) | (go_simp; rfl))
                    intro gb270 hg w21 hbox hb
                    have HS0_ := (hb.cell (World.block_lt_of_cell? _ _ (hHeld.1))).trans (hHeld.1)
                    have HS1_ := (hb.cell (World.block_lt_of_cell? _ _ (hHeld.2.1))).trans (hHeld.2.1)
                    have HS2_ := (hb.cell (World.block_lt_of_cell? _ _ (hHeld.2.2.1))).trans (hHeld.2.2.1)
                    have HS3_ := (hb.cell (World.block_lt_of_cell? _ _ (hHeld.2.2.2.1))).trans (hHeld.2.2.2.1)
                    have HS4_ := (hb.cell (World.block_lt_of_cell? _ _ (hHeld.2.2.2.2.1))).trans (hHeld.2.2.2.2.1)
                    have HS5_ := (hb.cell (World.block_lt_of_cell? _ _ (hHeld.2.2.2.2.2))).trans (hHeld.2.2.2.2.2)
                    have n0_ := Aside0.mk (Kd.S_below (by (with_reducible repeat (first | apply Kd.S_alloc | apply Kd.S_drewN | apply Kd.S_drew)); exact HO_4.out) hb)
                    have n1_ := Aside0.mk (Kd.R_below (by (with_reducible repeat (first | apply Kd.R_alloc | apply Kd.R_drewN | apply Kd.R_drew)); exact HL264_0.out) hb)
                    have n2_ := Aside0.mk (Kd.R_below (by (with_reducible repeat (first | apply Kd.R_alloc | apply Kd.R_drewN | apply Kd.R_drew)); exact HL266_0.out) hb)
                    have n3_ := Aside0.mk (Kd.R_below (by (with_reducible repeat (first | apply Kd.R_alloc | apply Kd.R_drewN | apply Kd.R_drew)); exact HL268_0.out) hb)
                    have n4_ := Aside0.mk (blk_below (g := gb258) (o := .cells #[.int .i64 0, .int .i64 0, .int .i64 0] 33 (0, 0)) (by (with_reducible repeat (first | refine blk_drewN ?_ _ | refine blk_drew ?_ | refine blk_alloc ?_ _)); exact BK258.out) hb)
                    have n5_ := Aside0.mk (Kd.C_below (by repeat (first | (with_reducible exact HR264_0.out) | (with_reducible refine Kd.C_alloc ?_ _) | (with_reducible refine Kd.C_drewN ?_ _) | (with_reducible refine Kd.C_drew ?_) | exact HR264_0.out)) hb)
                    have n6_ := Aside0.mk (Kd.C_below (by repeat (first | (with_reducible exact HR266_0.out) | (with_reducible refine Kd.C_alloc ?_ _) | (with_reducible refine Kd.C_drewN ?_ _) | (with_reducible refine Kd.C_drew ?_) | exact HR266_0.out)) hb)
                    have n7_ := Aside0.mk (Kd.C_below (by repeat (first | (with_reducible exact HR268_0.out) | (with_reducible refine Kd.C_alloc ?_ _) | (with_reducible refine Kd.C_drewN ?_ _) | (with_reducible refine Kd.C_drew ?_) | exact HR268_0.out)) hb)
                    have n8_ := Aside0.mk (below_step (by repeat (first | (with_reducible first | exact HB.out | apply below_alloc | apply pw_below_drewN | apply below_drew1 | refine below_set ?_ GE258.out) | exact HB.out)) hb)
                    have n9_ := Aside0.mk (hbox)
                    have n10_ := Aside0.mk ((by rw [hg]; exact (below_size (by repeat (first | (with_reducible first | exact HB.out | apply below_alloc | apply pw_below_drewN | apply below_drew1 | refine below_set ?_ GE258.out) | exact HB.out))) : w.heap.size ≤ gb270))
                    have n11_ := Aside0.mk ((by rw [hg]; exact (below_size (by repeat (first | (with_reducible first | exact HB.out | apply below_alloc | apply pw_below_drewN | apply below_drew1 | refine below_set ?_ GE258.out) | exact HB.out))) : w.heap.size ≤ gb270))
                    have n12_ := Aside0.mk ((by rw [hg]; exact Nat.ne_of_lt (blk_lt (g := gb258) (o := .cells #[.int .i64 0, .int .i64 0, .int .i64 0] 33 (0, 0)) (by (with_reducible repeat (first | refine blk_drewN ?_ _ | refine blk_drew ?_ | refine blk_alloc ?_ _)); exact BK258.out)) : gb258 ≠ gb270))
                    have n13_ := Aside0.mk ((by rw [hg]; exact Nat.ne_of_gt (blk_lt (g := gb258) (o := .cells #[.int .i64 0, .int .i64 0, .int .i64 0] 33 (0, 0)) (by (with_reducible repeat (first | refine blk_drewN ?_ _ | refine blk_drew ?_ | refine blk_alloc ?_ _)); exact BK258.out)) : gb270 ≠ gb258))
                    clear HO_4
                    clear HL264_0
                    clear HL266_0
                    clear HL268_0
                    clear BK258
                    clear HR264_0
                    clear HR266_0
                    clear HR268_0
                    clear HB
                    have HO_4 := n0_
                    have HL264_0 := n1_
                    have HL266_0 := n2_
                    have HL268_0 := n3_
                    have BK258 := n4_
                    have HR264_0 := n5_
                    have HR266_0 := n6_
                    have HR268_0 := n7_
                    have HB := n8_
                    have BK270 := n9_
                    have GW270 := n10_
                    have GE270 := n11_
                    have NB258_270 := n12_
                    have NB270_258 := n13_
                    clear n0_ n1_ n2_ n3_ n4_ n5_ n6_ n7_ n8_ n9_ n10_ n11_ n12_ n13_
                    clear hb hbox hg
                    refine hK.out _ _ ⟨HS0_, HS1_, HS2_, HS3_, HS4_, HS5_⟩ (fun hHeld => ?_)
                    clear hK K
                    refine norm_ (a' := ?_) ?_ ?_
                    rotate_left
                    · show Act.put _ (some 6) _ = _
                      simp only [Act.put, List.setIfInBounds_toArray, List.set_cons_zero, List.set_cons_succ, i64_w, i32_w]
                      rfl
                    refine one_ (i := 17) (N := none) #[true, true, true, true, true, true, true, true, true, true, true, true, true, true, true, true, true, true] rfl rfl (one_of HT_.out (by kernel_rfl)) (by decide) (fun K hK => ?_)
                    have hs22 : w21.cell? ⟨gb270, 0, none⟩ = some (.int .i64 0) := (blk_cell BK270.out 0).trans rfl
                    have hfs22 := blk_frozen BK270.out 0
                    have hns22_0 := NB258_270.out
                    have hms22_0 := NB270_258.out
                    have hs23 : w21.cell? ⟨gb270, 1, none⟩ = some (.int .i64 0) := (blk_cell BK270.out 1).trans rfl
                    have hfs23 := blk_frozen BK270.out 1
                    have hns23_0 := NB258_270.out
                    have hms23_0 := NB270_258.out
                    have hs24 : w21.cell? ⟨gb270, 2, none⟩ = some (.int .i64 0) := (blk_cell BK270.out 2).trans rfl
                    have hfs24 := blk_frozen BK270.out 2
                    have hns24_0 := NB258_270.out
                    have hms24_0 := NB270_258.out
                    refine skip_ (w1 := ?_) (by rfl) rfl ?_ ?_
                    rotate_left
                    · go_simp
                      rfl
                    refine hK.out _ _ ⟨((cell_far (p := ⟨gb270, _, none⟩) (by first | exact Kd.own_blk (Kd.S_ne HO_4.out BK270.out (by decide)) | (rw [add_block]; exact Kd.own_blk (Kd.S_ne HO_4.out BK270.out (by decide))) | (show (Addr.add _ _).block ≠ _; rw [add_block]; exact Kd.own_blk (Kd.S_ne HO_4.out BK270.out (by decide))) | (dsimp only; exact Kd.own_blk (Kd.S_ne HO_4.out BK270.out (by decide)))) _).trans (((cell_far (p := ⟨gb270, _, none⟩) (by first | exact Kd.own_blk (Kd.S_ne HO_4.out BK270.out (by decide)) | (rw [add_block]; exact Kd.own_blk (Kd.S_ne HO_4.out BK270.out (by decide))) | (show (Addr.add _ _).block ≠ _; rw [add_block]; exact Kd.own_blk (Kd.S_ne HO_4.out BK270.out (by decide))) | (dsimp only; exact Kd.own_blk (Kd.S_ne HO_4.out BK270.out (by decide)))) _).trans (((cell_far (p := ⟨gb270, _, none⟩) (by first | exact Kd.own_blk (Kd.S_ne HO_4.out BK270.out (by decide)) | (rw [add_block]; exact Kd.own_blk (Kd.S_ne HO_4.out BK270.out (by decide))) | (show (Addr.add _ _).block ≠ _; rw [add_block]; exact Kd.own_blk (Kd.S_ne HO_4.out BK270.out (by decide))) | (dsimp only; exact Kd.own_blk (Kd.S_ne HO_4.out BK270.out (by decide)))) _).trans (hHeld.1)))))), ((cell_far (p := ⟨gb270, _, none⟩) (by first | exact Kd.own_blk (Kd.R_ne HL264_0.out BK270.out (by decide)) | (rw [add_block]; exact Kd.own_blk (Kd.R_ne HL264_0.out BK270.out (by decide))) | (show (Addr.add _ _).block ≠ _; rw [add_block]; exact Kd.own_blk (Kd.R_ne HL264_0.out BK270.out (by decide))) | (dsimp only; exact Kd.own_blk (Kd.R_ne HL264_0.out BK270.out (by decide)))) _).trans (((cell_far (p := ⟨gb270, _, none⟩) (by first | exact Kd.own_blk (Kd.R_ne HL264_0.out BK270.out (by decide)) | (rw [add_block]; exact Kd.own_blk (Kd.R_ne HL264_0.out BK270.out (by decide))) | (show (Addr.add _ _).block ≠ _; rw [add_block]; exact Kd.own_blk (Kd.R_ne HL264_0.out BK270.out (by decide))) | (dsimp only; exact Kd.own_blk (Kd.R_ne HL264_0.out BK270.out (by decide)))) _).trans (((cell_far (p := ⟨gb270, _, none⟩) (by first | exact Kd.own_blk (Kd.R_ne HL264_0.out BK270.out (by decide)) | (rw [add_block]; exact Kd.own_blk (Kd.R_ne HL264_0.out BK270.out (by decide))) | (show (Addr.add _ _).block ≠ _; rw [add_block]; exact Kd.own_blk (Kd.R_ne HL264_0.out BK270.out (by decide))) | (dsimp only; exact Kd.own_blk (Kd.R_ne HL264_0.out BK270.out (by decide)))) _).trans (hHeld.2.1)))))), ((cell_far (p := ⟨gb270, _, none⟩) (by first | exact Kd.own_blk (Kd.S_ne HO_4.out BK270.out (by decide)) | (rw [add_block]; exact Kd.own_blk (Kd.S_ne HO_4.out BK270.out (by decide))) | (show (Addr.add _ _).block ≠ _; rw [add_block]; exact Kd.own_blk (Kd.S_ne HO_4.out BK270.out (by decide))) | (dsimp only; exact Kd.own_blk (Kd.S_ne HO_4.out BK270.out (by decide)))) _).trans (((cell_far (p := ⟨gb270, _, none⟩) (by first | exact Kd.own_blk (Kd.S_ne HO_4.out BK270.out (by decide)) | (rw [add_block]; exact Kd.own_blk (Kd.S_ne HO_4.out BK270.out (by decide))) | (show (Addr.add _ _).block ≠ _; rw [add_block]; exact Kd.own_blk (Kd.S_ne HO_4.out BK270.out (by decide))) | (dsimp only; exact Kd.own_blk (Kd.S_ne HO_4.out BK270.out (by decide)))) _).trans (((cell_far (p := ⟨gb270, _, none⟩) (by first | exact Kd.own_blk (Kd.S_ne HO_4.out BK270.out (by decide)) | (rw [add_block]; exact Kd.own_blk (Kd.S_ne HO_4.out BK270.out (by decide))) | (show (Addr.add _ _).block ≠ _; rw [add_block]; exact Kd.own_blk (Kd.S_ne HO_4.out BK270.out (by decide))) | (dsimp only; exact Kd.own_blk (Kd.S_ne HO_4.out BK270.out (by decide)))) _).trans (hHeld.2.2.1)))))), ((cell_far (p := ⟨gb270, _, none⟩) (by first | exact Kd.own_blk (Kd.R_ne HL266_0.out BK270.out (by decide)) | (rw [add_block]; exact Kd.own_blk (Kd.R_ne HL266_0.out BK270.out (by decide))) | (show (Addr.add _ _).block ≠ _; rw [add_block]; exact Kd.own_blk (Kd.R_ne HL266_0.out BK270.out (by decide))) | (dsimp only; exact Kd.own_blk (Kd.R_ne HL266_0.out BK270.out (by decide)))) _).trans (((cell_far (p := ⟨gb270, _, none⟩) (by first | exact Kd.own_blk (Kd.R_ne HL266_0.out BK270.out (by decide)) | (rw [add_block]; exact Kd.own_blk (Kd.R_ne HL266_0.out BK270.out (by decide))) | (show (Addr.add _ _).block ≠ _; rw [add_block]; exact Kd.own_blk (Kd.R_ne HL266_0.out BK270.out (by decide))) | (dsimp only; exact Kd.own_blk (Kd.R_ne HL266_0.out BK270.out (by decide)))) _).trans (((cell_far (p := ⟨gb270, _, none⟩) (by first | exact Kd.own_blk (Kd.R_ne HL266_0.out BK270.out (by decide)) | (rw [add_block]; exact Kd.own_blk (Kd.R_ne HL266_0.out BK270.out (by decide))) | (show (Addr.add _ _).block ≠ _; rw [add_block]; exact Kd.own_blk (Kd.R_ne HL266_0.out BK270.out (by decide))) | (dsimp only; exact Kd.own_blk (Kd.R_ne HL266_0.out BK270.out (by decide)))) _).trans (hHeld.2.2.2.1)))))), ((cell_far (p := ⟨gb270, _, none⟩) (by first | exact Kd.own_blk (Kd.S_ne HO_4.out BK270.out (by decide)) | (rw [add_block]; exact Kd.own_blk (Kd.S_ne HO_4.out BK270.out (by decide))) | (show (Addr.add _ _).block ≠ _; rw [add_block]; exact Kd.own_blk (Kd.S_ne HO_4.out BK270.out (by decide))) | (dsimp only; exact Kd.own_blk (Kd.S_ne HO_4.out BK270.out (by decide)))) _).trans (((cell_far (p := ⟨gb270, _, none⟩) (by first | exact Kd.own_blk (Kd.S_ne HO_4.out BK270.out (by decide)) | (rw [add_block]; exact Kd.own_blk (Kd.S_ne HO_4.out BK270.out (by decide))) | (show (Addr.add _ _).block ≠ _; rw [add_block]; exact Kd.own_blk (Kd.S_ne HO_4.out BK270.out (by decide))) | (dsimp only; exact Kd.own_blk (Kd.S_ne HO_4.out BK270.out (by decide)))) _).trans (((cell_far (p := ⟨gb270, _, none⟩) (by first | exact Kd.own_blk (Kd.S_ne HO_4.out BK270.out (by decide)) | (rw [add_block]; exact Kd.own_blk (Kd.S_ne HO_4.out BK270.out (by decide))) | (show (Addr.add _ _).block ≠ _; rw [add_block]; exact Kd.own_blk (Kd.S_ne HO_4.out BK270.out (by decide))) | (dsimp only; exact Kd.own_blk (Kd.S_ne HO_4.out BK270.out (by decide)))) _).trans (hHeld.2.2.2.2.1)))))), ((cell_far (p := ⟨gb270, _, none⟩) (by first | exact Kd.own_blk (Kd.R_ne HL268_0.out BK270.out (by decide)) | (rw [add_block]; exact Kd.own_blk (Kd.R_ne HL268_0.out BK270.out (by decide))) | (show (Addr.add _ _).block ≠ _; rw [add_block]; exact Kd.own_blk (Kd.R_ne HL268_0.out BK270.out (by decide))) | (dsimp only; exact Kd.own_blk (Kd.R_ne HL268_0.out BK270.out (by decide)))) _).trans (((cell_far (p := ⟨gb270, _, none⟩) (by first | exact Kd.own_blk (Kd.R_ne HL268_0.out BK270.out (by decide)) | (rw [add_block]; exact Kd.own_blk (Kd.R_ne HL268_0.out BK270.out (by decide))) | (show (Addr.add _ _).block ≠ _; rw [add_block]; exact Kd.own_blk (Kd.R_ne HL268_0.out BK270.out (by decide))) | (dsimp only; exact Kd.own_blk (Kd.R_ne HL268_0.out BK270.out (by decide)))) _).trans (((cell_far (p := ⟨gb270, _, none⟩) (by first | exact Kd.own_blk (Kd.R_ne HL268_0.out BK270.out (by decide)) | (rw [add_block]; exact Kd.own_blk (Kd.R_ne HL268_0.out BK270.out (by decide))) | (show (Addr.add _ _).block ≠ _; rw [add_block]; exact Kd.own_blk (Kd.R_ne HL268_0.out BK270.out (by decide))) | (dsimp only; exact Kd.own_blk (Kd.R_ne HL268_0.out BK270.out (by decide)))) _).trans (hHeld.2.2.2.2.2))))))⟩ (fun hHeld => ?_)
                    clear hK K
                    refine done_ (done_of HT_.out (by kernel_rfl)) ?_
                    have hnb25 := NB270_258.out
                    have hnc25 := NB258_270.out
                    have hcz26_0 : w21.cell? ⟨gb270, 0, none⟩ = some (.int .i64 0) := (blk_cell BK270.out 0).trans rfl
                    have hcz26_1 : w21.cell? ⟨gb270, 1, none⟩ = some (.int .i64 0) := (blk_cell BK270.out 1).trans rfl
                    have hcz26_2 : w21.cell? ⟨gb270, 2, none⟩ = some (.int .i64 0) := (blk_cell BK270.out 2).trans rfl
                    have hfz26_0 := blk_frozen BK270.out 0
                    have hfz26_1 := blk_frozen BK270.out 1
                    have hfz26_2 := blk_frozen BK270.out 2
                    try go_wp2_with (first | ((with_reducible refine gate_callee (f := 18) rfl ?_); refine goesL_ (some 45) rfl rfl Try.func18 (by kernel_rfl) rfl #[.agg #[.int .i64 (rd (rd_L2 t259 0) 0), .int .i64 (rd (rd_L2 t259 0) 1), .int .i64 (rd (rd_L2 t259 0) 2)]] rfl (by (try simp only [List.map_toArray, List.map_cons, List.map_nil]); first | done | rfl | (simp only [List.length_drop, List.length_take]; rfl)) ?_; (with_reducible refine (haulierref18_May.calls (rd (rd_L2 t259 0) 0) (rd (rd_L2 t259 0) 1) (rd (rd_L2 t259 0) 2) true _ A17.out).mono ?_); rintro e w27 ⟨rfl, hb⟩; refine ⟨_, rfl, ?_⟩; have n0_ := Aside0.mk (Kd.S_below (by (with_reducible repeat (first | apply Kd.S_alloc | apply Kd.S_drewN | apply Kd.S_drew)); exact (Kd.S_mono (Kd.S_far (p := ⟨gb270, 2, none⟩) (Kd.S_far (p := ⟨gb270, 1, none⟩) (Kd.S_far (p := ⟨gb270, 0, none⟩) (Kd.S_types HO_4.out BK270.out (by decide)) (fun _ hk => hk.2) (.int .i64 (rd (rd_L2 t259 0) 0))) (fun _ hk => hk.2) (.int .i64 (rd (rd_L2 t259 0) 1))) (fun _ hk => hk.2) (.int .i64 (rd (rd_L2 t259 0) 2))) (fun _ h_ => h_.1))) hb); have n1_ := Aside0.mk (Kd.R_below (by (with_reducible repeat (first | apply Kd.R_alloc | apply Kd.R_drewN | apply Kd.R_drew)); exact (Kd.R_mono (Kd.R_far (p := ⟨gb270, 2, none⟩) (Kd.R_far (p := ⟨gb270, 1, none⟩) (Kd.R_far (p := ⟨gb270, 0, none⟩) (Kd.R_types HL264_0.out BK270.out (by decide)) (fun _ hk => hk.2) (.int .i64 (rd (rd_L2 t259 0) 0))) (fun _ hk => hk.2) (.int .i64 (rd (rd_L2 t259 0) 1))) (fun _ hk => hk.2) (.int .i64 (rd (rd_L2 t259 0) 2))) (fun _ h_ => h_.1))) hb); have n2_ := Aside0.mk (Kd.R_below (by (with_reducible repeat (first | apply Kd.R_alloc | apply Kd.R_drewN | apply Kd.R_drew)); exact (Kd.R_mono (Kd.R_far (p := ⟨gb270, 2, none⟩) (Kd.R_far (p := ⟨gb270, 1, none⟩) (Kd.R_far (p := ⟨gb270, 0, none⟩) (Kd.R_types HL266_0.out BK270.out (by decide)) (fun _ hk => hk.2) (.int .i64 (rd (rd_L2 t259 0) 0))) (fun _ hk => hk.2) (.int .i64 (rd (rd_L2 t259 0) 1))) (fun _ hk => hk.2) (.int .i64 (rd (rd_L2 t259 0) 2))) (fun _ h_ => h_.1))) hb); have n3_ := Aside0.mk (Kd.R_below (by (with_reducible repeat (first | apply Kd.R_alloc | apply Kd.R_drewN | apply Kd.R_drew)); exact (Kd.R_mono (Kd.R_far (p := ⟨gb270, 2, none⟩) (Kd.R_far (p := ⟨gb270, 1, none⟩) (Kd.R_far (p := ⟨gb270, 0, none⟩) (Kd.R_types HL268_0.out BK270.out (by decide)) (fun _ hk => hk.2) (.int .i64 (rd (rd_L2 t259 0) 0))) (fun _ hk => hk.2) (.int .i64 (rd (rd_L2 t259 0) 1))) (fun _ hk => hk.2) (.int .i64 (rd (rd_L2 t259 0) 2))) (fun _ h_ => h_.1))) hb); have n4_ := Aside0.mk (blk_below (g := gb258) (o := .cells #[.int .i64 0, .int .i64 0, .int .i64 0] 33 (0, 0)) (by (with_reducible repeat (first | refine blk_drewN ?_ _ | refine blk_drew ?_ | refine blk_alloc ?_ _)); refine blk_far ?_ NB258_270.out _; (with_reducible repeat (first | refine blk_drewN ?_ _ | refine blk_drew ?_ | refine blk_alloc ?_ _)); refine blk_far ?_ NB258_270.out _; (with_reducible repeat (first | refine blk_drewN ?_ _ | refine blk_drew ?_ | refine blk_alloc ?_ _)); refine blk_far ?_ NB258_270.out _; (with_reducible repeat (first | refine blk_drewN ?_ _ | refine blk_drew ?_ | refine blk_alloc ?_ _)); exact BK258.out) hb); have n5_ := Aside0.mk (Kd.C_below ((Kd.R_reads' (by (with_reducible repeat (first | apply Kd.R_alloc | apply Kd.R_drewN | apply Kd.R_drew)); exact (Kd.R_mono (Kd.R_far (p := ⟨gb270, 2, none⟩) (Kd.R_far (p := ⟨gb270, 1, none⟩) (Kd.R_far (p := ⟨gb270, 0, none⟩) (Kd.R_types HL264_0.out BK270.out (by decide)) (fun _ hk => hk.2) (.int .i64 (rd (rd_L2 t259 0) 0))) (fun _ hk => hk.2) (.int .i64 (rd (rd_L2 t259 0) 1))) (fun _ hk => hk.2) (.int .i64 (rd (rd_L2 t259 0) 2))) (fun _ h_ => h_.1)))).2.2) hb); have n6_ := Aside0.mk (Kd.C_below ((Kd.R_reads' (by (with_reducible repeat (first | apply Kd.R_alloc | apply Kd.R_drewN | apply Kd.R_drew)); exact (Kd.R_mono (Kd.R_far (p := ⟨gb270, 2, none⟩) (Kd.R_far (p := ⟨gb270, 1, none⟩) (Kd.R_far (p := ⟨gb270, 0, none⟩) (Kd.R_types HL266_0.out BK270.out (by decide)) (fun _ hk => hk.2) (.int .i64 (rd (rd_L2 t259 0) 0))) (fun _ hk => hk.2) (.int .i64 (rd (rd_L2 t259 0) 1))) (fun _ hk => hk.2) (.int .i64 (rd (rd_L2 t259 0) 2))) (fun _ h_ => h_.1)))).2.2) hb); have n7_ := Aside0.mk (Kd.C_below ((Kd.R_reads' (by (with_reducible repeat (first | apply Kd.R_alloc | apply Kd.R_drewN | apply Kd.R_drew)); exact (Kd.R_mono (Kd.R_far (p := ⟨gb270, 2, none⟩) (Kd.R_far (p := ⟨gb270, 1, none⟩) (Kd.R_far (p := ⟨gb270, 0, none⟩) (Kd.R_types HL268_0.out BK270.out (by decide)) (fun _ hk => hk.2) (.int .i64 (rd (rd_L2 t259 0) 0))) (fun _ hk => hk.2) (.int .i64 (rd (rd_L2 t259 0) 1))) (fun _ hk => hk.2) (.int .i64 (rd (rd_L2 t259 0) 2))) (fun _ h_ => h_.1)))).2.2) hb); have n8_ := Aside0.mk (blk_below (g := gb270) (o := .cells #[.int .i64 (rd (rd_L2 t259 0) 0), .int .i64 (rd (rd_L2 t259 0) 1), .int .i64 (rd (rd_L2 t259 0) 2)] 33 (0, 0)) (by (with_reducible repeat (first | refine blk_drewN ?_ _ | refine blk_drew ?_ | refine blk_alloc ?_ _)); refine blk_put (cs := #[.int .i64 (rd (rd_L2 t259 0) 0), .int .i64 (rd (rd_L2 t259 0) 1), .int .i64 0]) ?_ 2 _ rfl; (with_reducible repeat (first | refine blk_drewN ?_ _ | refine blk_drew ?_ | refine blk_alloc ?_ _)); refine blk_put (cs := #[.int .i64 (rd (rd_L2 t259 0) 0), .int .i64 0, .int .i64 0]) ?_ 1 _ rfl; (with_reducible repeat (first | refine blk_drewN ?_ _ | refine blk_drew ?_ | refine blk_alloc ?_ _)); refine blk_put (cs := #[.int .i64 0, .int .i64 0, .int .i64 0]) ?_ 0 _ rfl; (with_reducible repeat (first | refine blk_drewN ?_ _ | refine blk_drew ?_ | refine blk_alloc ?_ _)); exact BK270.out) hb); have n9_ := Aside0.mk (below_step (by repeat (first | (with_reducible first | exact HB.out | apply below_alloc | apply pw_below_drewN | apply below_drew1 | refine below_set ?_ GE258.out | refine below_set ?_ GE270.out) | exact HB.out)) hb); clear HO_4; clear HL264_0; clear HL266_0; clear HL268_0; clear BK258; clear HR264_0; clear HR266_0; clear HR268_0; clear BK270; clear HB; have HO_4 := n0_; have HL264_0 := n1_; have HL266_0 := n2_; have HL268_0 := n3_; have BK258 := n4_; have HR264_0 := n5_; have HR266_0 := n6_; have HR268_0 := n7_; have BK270 := n8_; have HB := n9_; clear n0_ n1_ n2_ n3_ n4_ n5_ n6_ n7_ n8_ n9_; (try clear hb); (try clear hb2); (try clear hk); (try clear hi); have hcz28_0 : w27.cell? ⟨gb270, 0, none⟩ = some (.int .i64 (rd (rd_L2 t259 0) 0)) := (blk_cell BK270.out 0).trans rfl; have hcz28_1 : w27.cell? ⟨gb270, 1, none⟩ = some (.int .i64 (rd (rd_L2 t259 0) 1)) := (blk_cell BK270.out 1).trans rfl; have hcz28_2 : w27.cell? ⟨gb270, 2, none⟩ = some (.int .i64 (rd (rd_L2 t259 0) 2)) := (blk_cell BK270.out 2).trans rfl; have hfz28_0 := blk_frozen BK270.out 0; have hfz28_1 := blk_frozen BK270.out 1; have hfz28_2 := blk_frozen BK270.out 2; have hcz29_0 : w27.cell? ⟨gb258, 0, none⟩ = some (.int .i64 0) := (blk_cell BK258.out 0).trans rfl; have hcz29_1 : w27.cell? ⟨gb258, 1, none⟩ = some (.int .i64 0) := (blk_cell BK258.out 1).trans rfl; have hcz29_2 : w27.cell? ⟨gb258, 2, none⟩ = some (.int .i64 0) := (blk_cell BK258.out 2).trans rfl; have hfz29_0 := blk_frozen BK258.out 0; have hfz29_1 := blk_frozen BK258.out 1; have hfz29_2 := blk_frozen BK258.out 2))
                    refine bodyPost_ret (results_ct rfl _ _ gb258 33 #[.int .i64 (rd (rd_L2 t259 0) 0), .int .i64 (rd (rd_L2 t259 0) 1), .int .i64 (rd (rd_L2 t259 0) 2)] (0, 0) _ rfl (by (with_reducible repeat (first | refine blk_drewN ?_ _ | refine blk_drew ?_ | refine blk_alloc ?_ _)); refine blk_put (cs := #[.int .i64 (rd (rd_L2 t259 0) 0), .int .i64 (rd (rd_L2 t259 0) 1), .int .i64 0]) ?_ 2 _ rfl; (with_reducible repeat (first | refine blk_drewN ?_ _ | refine blk_drew ?_ | refine blk_alloc ?_ _)); refine blk_put (cs := #[.int .i64 (rd (rd_L2 t259 0) 0), .int .i64 0, .int .i64 0]) ?_ 1 _ rfl; (with_reducible repeat (first | refine blk_drewN ?_ _ | refine blk_drew ?_ | refine blk_alloc ?_ _)); refine blk_put (cs := #[.int .i64 0, .int .i64 0, .int .i64 0]) ?_ 0 _ rfl; (with_reducible repeat (first | refine blk_drewN ?_ _ | refine blk_drew ?_ | refine blk_alloc ?_ _)); exact BK258.out) Try.underlying33 rfl (by kernel_rfl)) rfl ?_
                    exact ⟨by first | rfl | (simp [errW_none, errW_some] <;> rfl) | (simp [*, errW_none, errW_some] <;> rfl), by repeat (first | (with_reducible first | exact HB.out | apply below_alloc | apply pw_below_drewN | apply below_drew1 | refine below_set ?_ GE258.out | refine below_set ?_ GE270.out) | exact HB.out)⟩
                  · replace c18 := Bool.eq_false_iff.mpr c18
                    subst c18
                    have H1 : (some (0, 0, 0, 1)) = some (r1, r2, r3, r4) := by rw [if_neg (show ¬ (false = true) by decide)] at H; exact H
                    clear H
                    have H := H1
                    clear H1
                    simp only [Option.some.injEq, Prod.mk.injEq] at H
                    obtain ⟨rfl, rfl, rfl, rfl⟩ := H
                    try go_wp2
                    have n0_ := Aside0.mk (Kd.S_drew HO_4.out)
                    have n1_ := Aside0.mk (blk_drew BK258.out)
                    have n2_ := Aside0.mk (below_drew1 HB.out)
                    clear HO_4
                    clear BK258
                    clear HB
                    have HO_4 := n0_
                    have BK258 := n1_
                    have HB := n2_
                    clear n0_ n1_ n2_
                    obtain ⟨Ao31, co31, eo31⟩ := Kd.S_slice HO_4.out
                    (first | subst eo31 | (injection eo31 with f1_ f2_ f3_; have f4_ := f1_.symm; have f5_ := f3_.symm; clear f1_ f2_ f3_; subst f4_; subst f5_))
                    have p264 : 0 ≤ (0 : Int) := (by omega)
                    have q264 : 0 < (t259.length : Int) := of_decide_eq_true (by first | (with_reducible assumption) | assumption)
                    obtain ⟨ad264, A264_0, c264_0, e264, hx264_0, hl264_0, hi264_0⟩ := at_L2 (Kd.S_reads' HO_4.out).2.2 0 p264 q264
                    cases e264
                    obtain ⟨ce264, hce264, hMe264, hcc264⟩ := Kd.S_get HO_4.out [] 0 p264 (by first | exact q264 | exact of_decide_eq_true (by first | (with_reducible assumption) | assumption) | (have e_ := (Kd.S_reads' HO_4.out).1; omega))
                    obtain ⟨ve264_0, rfl, ge264_0⟩ := hMe264
                    have hv264_0 := hcc264 0 _ rfl
                    rw [Nat.add_zero, show ((Kd.slice 3 (Kd.int .i64))).sz = 1 from rfl, Nat.mul_one] at hv264_0
                    replace hv264_0 := Option.some.inj (hv264_0.symm.trans hx264_0)
                    rw [hv264_0] at ge264_0
                    have HL264_0 := Aside0.mk (show Kd.R (Kd.int .i64) 3 _ _ _ _ (rd_L2 t259 0) from ge264_0)
                    clear hv264_0 ge264_0
                    clear hcc264 hce264
                    have qi264 : (0 < t259.length) = True := eq_true (by omega)
                    (try rw [show ((0 : Int)).toNat = 0 from rfl] at hx264_0)
                    (try rw [Addr.add_zero'] at hx264_0)
                    have HR264_0 := Aside0.mk hi264_0
                    have HC264_0 := Aside0.mk hl264_0
                    clear hi264_0 hl264_0
                    replace p264 := eq_true p264
                    replace q264 := eq_true q264
                    have p265 : 0 ≤ (0 : Int) := (by omega)
                    have q265 : 0 < ((rd_L2 t259 0).length : Int) := of_decide_eq_true (by first | (with_reducible assumption) | assumption)
                    obtain ⟨ad265, e265, hx265_0⟩ := Kd.at_int (by repeat (first | (with_reducible exact HR264_0.out) | (with_reducible refine Kd.C_alloc ?_ _) | (with_reducible refine Kd.C_drewN ?_ _) | (with_reducible refine Kd.C_drew ?_) | exact HR264_0.out)) 0 p265 q265
                    cases e265
                    have qi265 : (0 < (rd_L2 t259 0).length) = True := eq_true (by omega)
                    (try rw [show ((0 : Int)).toNat = 0 from rfl] at hx265_0)
                    (try rw [Addr.add_zero'] at hx265_0)
                    replace p265 := eq_true p265
                    replace q265 := eq_true q265
                    have p266 : 0 ≤ (0 : Int) := (by omega)
                    have q266 : 0 < (t259.length : Int) := of_decide_eq_true (by first | (with_reducible assumption) | assumption)
                    obtain ⟨ad266, A266_0, c266_0, e266, hx266_0, hl266_0, hi266_0⟩ := at_L2 (Kd.S_reads' HO_4.out).2.2 0 p266 q266
                    obtain rfl : ad264 = ad266 := (by injection e266)
                    obtain ⟨ce266, hce266, hMe266, hcc266⟩ := Kd.S_get HO_4.out [] 0 p266 (by first | exact q266 | exact of_decide_eq_true (by first | (with_reducible assumption) | assumption) | (have e_ := (Kd.S_reads' HO_4.out).1; omega))
                    obtain ⟨ve266_0, rfl, ge266_0⟩ := hMe266
                    have hv266_0 := hcc266 0 _ rfl
                    rw [Nat.add_zero, show ((Kd.slice 3 (Kd.int .i64))).sz = 1 from rfl, Nat.mul_one] at hv266_0
                    replace hv266_0 := Option.some.inj (hv266_0.symm.trans hx266_0)
                    rw [hv266_0] at ge266_0
                    have HL266_0 := Aside0.mk (show Kd.R (Kd.int .i64) 3 _ _ _ _ (rd_L2 t259 0) from ge266_0)
                    clear hv266_0 ge266_0
                    clear hcc266 hce266
                    have qi266 : (0 < t259.length) = True := eq_true (by omega)
                    (try rw [show ((0 : Int)).toNat = 0 from rfl] at hx266_0)
                    (try rw [Addr.add_zero'] at hx266_0)
                    have HR266_0 := Aside0.mk hi266_0
                    have HC266_0 := Aside0.mk hl266_0
                    clear hi266_0 hl266_0
                    replace p266 := eq_true p266
                    replace q266 := eq_true q266
                    have ea_ := Option.some.inj (hx264_0.symm.trans hx266_0)
                    injection ea_ with ea_ en_ ec_
                    subst ea_
                    subst ec_
                    clear en_
                    have p267 : 0 ≤ (1 : Int) := (by omega)
                    have q267 : 1 < ((rd_L2 t259 0).length : Int) := of_decide_eq_true (by first | (with_reducible assumption) | assumption)
                    obtain ⟨ad267, e267, hx267_0⟩ := Kd.at_int (by repeat (first | (with_reducible exact HR266_0.out) | (with_reducible refine Kd.C_alloc ?_ _) | (with_reducible refine Kd.C_drewN ?_ _) | (with_reducible refine Kd.C_drew ?_) | exact HR266_0.out)) 1 p267 q267
                    cases e267
                    (try simp only [show (1 : Int).toNat = 1 from rfl, Nat.reduceMul, Nat.reduceEqDiff, Go.Addr.add, ↓reduceIte] at hx267_0)
                    have qi267 : (1 < (rd_L2 t259 0).length) = True := eq_true (by omega)
                    (try rw [show ((1 : Int)).toNat = 1 from rfl] at hx267_0)
                    replace p267 := eq_true p267
                    replace q267 := eq_true q267
                    have p268 : 0 ≤ (0 : Int) := (by omega)
                    have q268 : 0 < (t259.length : Int) := of_decide_eq_true (by first | (with_reducible assumption) | assumption)
                    obtain ⟨ad268, A268_0, c268_0, e268, hx268_0, hl268_0, hi268_0⟩ := at_L2 (Kd.S_reads' HO_4.out).2.2 0 p268 q268
                    obtain rfl : ad264 = ad268 := (by injection e268)
                    obtain ⟨ce268, hce268, hMe268, hcc268⟩ := Kd.S_get HO_4.out [] 0 p268 (by first | exact q268 | exact of_decide_eq_true (by first | (with_reducible assumption) | assumption) | (have e_ := (Kd.S_reads' HO_4.out).1; omega))
                    obtain ⟨ve268_0, rfl, ge268_0⟩ := hMe268
                    have hv268_0 := hcc268 0 _ rfl
                    rw [Nat.add_zero, show ((Kd.slice 3 (Kd.int .i64))).sz = 1 from rfl, Nat.mul_one] at hv268_0
                    replace hv268_0 := Option.some.inj (hv268_0.symm.trans hx268_0)
                    rw [hv268_0] at ge268_0
                    have HL268_0 := Aside0.mk (show Kd.R (Kd.int .i64) 3 _ _ _ _ (rd_L2 t259 0) from ge268_0)
                    clear hv268_0 ge268_0
                    clear hcc268 hce268
                    have qi268 : (0 < t259.length) = True := eq_true (by omega)
                    (try rw [show ((0 : Int)).toNat = 0 from rfl] at hx268_0)
                    (try rw [Addr.add_zero'] at hx268_0)
                    have HR268_0 := Aside0.mk hi268_0
                    have HC268_0 := Aside0.mk hl268_0
                    clear hi268_0 hl268_0
                    replace p268 := eq_true p268
                    replace q268 := eq_true q268
                    have ea_ := Option.some.inj (hx264_0.symm.trans hx268_0)
                    injection ea_ with ea_ en_ ec_
                    subst ea_
                    subst ec_
                    clear en_
                    have p269 : 0 ≤ (2 : Int) := (by omega)
                    have q269 : 2 < ((rd_L2 t259 0).length : Int) := of_decide_eq_true (by first | (with_reducible assumption) | assumption)
                    obtain ⟨ad269, e269, hx269_0⟩ := Kd.at_int (by repeat (first | (with_reducible exact HR268_0.out) | (with_reducible refine Kd.C_alloc ?_ _) | (with_reducible refine Kd.C_drewN ?_ _) | (with_reducible refine Kd.C_drew ?_) | exact HR268_0.out)) 2 p269 q269
                    cases e269
                    (try simp only [show (2 : Int).toNat = 2 from rfl, Nat.reduceMul, Nat.reduceEqDiff, Go.Addr.add, ↓reduceIte] at hx269_0)
                    have qi269 : (2 < (rd_L2 t259 0).length) = True := eq_true (by omega)
                    (try rw [show ((2 : Int)).toNat = 2 from rfl] at hx269_0)
                    replace p269 := eq_true p269
                    replace q269 := eq_true q269
                    refine start_ (n := 18) (S := fun w' => w'.cell? ad264 = some (.slice (some ad265) (rd_L2 t259 0).length c264_0) ∧ w'.cell? ad265 = some (.int .i64 (rd (rd_L2 t259 0) 0)) ∧ w'.cell? ad264 = some (.slice (some ad265) (rd_L2 t259 0).length c264_0) ∧ w'.cell? ⟨ad265.block, ad265.off + 1, none⟩ = some (.int .i64 (rd (rd_L2 t259 0) 1)) ∧ w'.cell? ad264 = some (.slice (some ad265) (rd_L2 t259 0).length c264_0) ∧ w'.cell? ⟨ad265.block, ad265.off + 2, none⟩ = some (.int .i64 (rd (rd_L2 t259 0) 2))) (ds := []) #[false, false, false, false, false, false, false, false, false, false, false, false, false, false, false, false, false, false] (by kernel_rfl) rfl rfl ⟨hx264_0, hx265_0, hx266_0, hx267_0, hx268_0, hx269_0⟩ (fun hHeld => ?_); refine with_tabW haulierref18_Parse.tab6 haulierref18_Parse.bits6 (fun HT_ HW_ => ?_)
                    generalize wc.drew = w30 at HO_4 BK258 HB HL264_0 HL266_0 HL268_0 HR264_0 HR266_0 HR268_0 hx264_0 hx265_0 hx266_0 hx267_0 hx268_0 hx269_0 hHeld ⊢
                    refine pure_ (i := 0) (N := some 28) (v := ?_) (a' := ?_) #[true, false, false, false, false, false, false, false, false, false, false, false, false, false, false, false, false, false] rfl rfl (any_of HT_.out (by kernel_rfl)) (fun _ _ _ h => h) (Or.inl ⟨by rfl, ?_⟩) ?_ ?_
                    rotate_left
                    · intro w'
                      go_simp
                      with_reducible rfl
                    rotate_left
                    · simp only [Act.put, List.setIfInBounds_toArray, List.set_cons_zero, List.set_cons_succ, i64_w, i32_w]
                      rfl
                    refine pure_ (i := 1) (N := some 29) (v := ?_) (a' := ?_) #[true, true, false, false, false, false, false, false, false, false, false, false, false, false, false, false, false, false] rfl rfl (any_of HT_.out (by kernel_rfl)) (fun _ _ _ h => h) (Or.inl ⟨by rfl, ?_⟩) ?_ ?_
                    rotate_left
                    · intro w'
                      go_simp
                      with_reducible rfl
                    rotate_left
                    · simp only [Act.put, List.setIfInBounds_toArray, List.set_cons_zero, List.set_cons_succ, i64_w, i32_w]
                      rfl
                    refine pure_ (i := 5) (N := some 33) (v := ?_) (a' := ?_) #[true, true, false, false, false, true, false, false, false, false, false, false, false, false, false, false, false, false] rfl rfl (any_of HT_.out (by kernel_rfl)) (fun _ _ _ h => h) (Or.inl ⟨by rfl, ?_⟩) ?_ ?_
                    rotate_left
                    · intro w'
                      go_simp
                      with_reducible rfl
                    rotate_left
                    · simp only [Act.put, List.setIfInBounds_toArray, List.set_cons_zero, List.set_cons_succ, i64_w, i32_w]
                      rfl
                    refine pure_ (i := 6) (N := some 34) (v := ?_) (a' := ?_) #[true, true, false, false, false, true, true, false, false, false, false, false, false, false, false, false, false, false] rfl rfl (any_of HT_.out (by kernel_rfl)) (fun _ _ _ h => h) (Or.inl ⟨by rfl, ?_⟩) ?_ ?_
                    rotate_left
                    · intro w'
                      go_simp
                      with_reducible rfl
                    rotate_left
                    · simp only [Act.put, List.setIfInBounds_toArray, List.set_cons_zero, List.set_cons_succ, i64_w, i32_w]
                      rfl
                    refine pure_ (i := 10) (N := some 38) (v := ?_) (a' := ?_) #[true, true, false, false, false, true, true, false, false, false, true, false, false, false, false, false, false, false] rfl rfl (any_of HT_.out (by kernel_rfl)) (fun _ _ _ h => h) (Or.inl ⟨by rfl, ?_⟩) ?_ ?_
                    rotate_left
                    · intro w'
                      go_simp
                      with_reducible rfl
                    rotate_left
                    · simp only [Act.put, List.setIfInBounds_toArray, List.set_cons_zero, List.set_cons_succ, i64_w, i32_w]
                      rfl
                    refine pure_ (i := 11) (N := some 39) (v := ?_) (a' := ?_) #[true, true, false, false, false, true, true, false, false, false, true, true, false, false, false, false, false, false] rfl rfl (any_of HT_.out (by kernel_rfl)) (fun _ _ _ h => h) (Or.inl ⟨by rfl, ?_⟩) ?_ ?_
                    rotate_left
                    · intro w'
                      go_simp
                      with_reducible rfl
                    rotate_left
                    · simp only [Act.put, List.setIfInBounds_toArray, List.set_cons_zero, List.set_cons_succ, i64_w, i32_w]
                      rfl
                    refine take_ (i := 2) (N := some 30) (v := ?_) (a' := ?_) #[true, true, true, false, false, true, true, false, false, false, true, true, false, false, false, false, false, false] rfl rfl (take_ofW HT_.out HW_.out (by kernel_rfl)) (fun _ _ _ h => h) (Or.inl ⟨by rfl, ?_⟩) hHeld ?_ ?_
                    rotate_left
                    · rintro w' ⟨s0, s1, s2, s3, s4, s5⟩
                      go_simp
                      with_reducible rfl
                    rotate_left
                    · simp only [Act.put, List.setIfInBounds_toArray, List.set_cons_zero, List.set_cons_succ, i64_w, i32_w]
                      rfl
                    refine pure_ (i := 3) (N := some 31) (v := ?_) (a' := ?_) #[true, true, true, true, false, true, true, false, false, false, true, true, false, false, false, false, false, false] rfl rfl (any_of HT_.out (by kernel_rfl)) (fun _ _ _ h => h) (Or.inl ⟨by rfl, ?_⟩) ?_ ?_
                    rotate_left
                    · intro w'
                      go_simp
                      with_reducible rfl
                    rotate_left
                    · simp only [Act.put, List.setIfInBounds_toArray, List.set_cons_zero, List.set_cons_succ, i64_w, i32_w]
                      rfl
                    refine take_ (i := 4) (N := some 32) (v := ?_) (a' := ?_) #[true, true, true, true, true, true, true, false, false, false, true, true, false, false, false, false, false, false] rfl rfl (take_ofW HT_.out HW_.out (by kernel_rfl)) (fun _ _ _ h => h) (Or.inl ⟨by rfl, ?_⟩) hHeld ?_ ?_
                    rotate_left
                    · rintro w' ⟨s0, s1, s2, s3, s4, s5⟩
                      go_simp
                      with_reducible rfl
                    rotate_left
                    · simp only [Act.put, List.setIfInBounds_toArray, List.set_cons_zero, List.set_cons_succ, i64_w, i32_w]
                      rfl
                    refine take_ (i := 7) (N := some 35) (v := ?_) (a' := ?_) #[true, true, true, true, true, true, true, true, false, false, true, true, false, false, false, false, false, false] rfl rfl (take_ofW HT_.out HW_.out (by kernel_rfl)) (fun _ _ _ h => h) (Or.inl ⟨by rfl, ?_⟩) hHeld ?_ ?_
                    rotate_left
                    · rintro w' ⟨s0, s1, s2, s3, s4, s5⟩
                      go_simp
                      with_reducible rfl
                    rotate_left
                    · simp only [Act.put, List.setIfInBounds_toArray, List.set_cons_zero, List.set_cons_succ, i64_w, i32_w]
                      rfl
                    refine pure_ (i := 8) (N := some 36) (v := ?_) (a' := ?_) #[true, true, true, true, true, true, true, true, true, false, true, true, false, false, false, false, false, false] rfl rfl (any_of HT_.out (by kernel_rfl)) (fun _ _ _ h => h) (Or.inl ⟨by rfl, ?_⟩) ?_ ?_
                    rotate_left
                    · intro w'
                      go_simp
                      with_reducible rfl
                    rotate_left
                    · simp only [Act.put, List.setIfInBounds_toArray, List.set_cons_zero, List.set_cons_succ, i64_w, i32_w]
                      rfl
                    refine take_ (i := 9) (N := some 37) (v := ?_) (a' := ?_) #[true, true, true, true, true, true, true, true, true, true, true, true, false, false, false, false, false, false] rfl rfl (take_ofW HT_.out HW_.out (by kernel_rfl)) (fun _ _ _ h => h) (Or.inl ⟨by rfl, ?_⟩) hHeld ?_ ?_
                    rotate_left
                    · rintro w' ⟨s0, s1, s2, s3, s4, s5⟩
                      go_simp
                      with_reducible rfl
                    rotate_left
                    · simp only [Act.put, List.setIfInBounds_toArray, List.set_cons_zero, List.set_cons_succ, i64_w, i32_w]
                      rfl
                    refine take_ (i := 12) (N := some 40) (v := ?_) (a' := ?_) #[true, true, true, true, true, true, true, true, true, true, true, true, true, false, false, false, false, false] rfl rfl (take_ofW HT_.out HW_.out (by kernel_rfl)) (fun _ _ _ h => h) (Or.inl ⟨by rfl, ?_⟩) hHeld ?_ ?_
                    rotate_left
                    · rintro w' ⟨s0, s1, s2, s3, s4, s5⟩
                      go_simp
                      with_reducible rfl
                    rotate_left
                    · simp only [Act.put, List.setIfInBounds_toArray, List.set_cons_zero, List.set_cons_succ, i64_w, i32_w]
                      rfl
                    refine pure_ (i := 13) (N := some 41) (v := ?_) (a' := ?_) #[true, true, true, true, true, true, true, true, true, true, true, true, true, true, false, false, false, false] rfl rfl (any_of HT_.out (by kernel_rfl)) (fun _ _ _ h => h) (Or.inl ⟨by rfl, ?_⟩) ?_ ?_
                    rotate_left
                    · intro w'
                      go_simp
                      with_reducible rfl
                    rotate_left
                    · simp only [Act.put, List.setIfInBounds_toArray, List.set_cons_zero, List.set_cons_succ, i64_w, i32_w]
                      rfl
                    refine take_ (i := 14) (N := some 42) (v := ?_) (a' := ?_) #[true, true, true, true, true, true, true, true, true, true, true, true, true, true, true, false, false, false] rfl rfl (take_ofW HT_.out HW_.out (by kernel_rfl)) (fun _ _ _ h => h) (Or.inl ⟨by rfl, ?_⟩) hHeld ?_ ?_
                    rotate_left
                    · rintro w' ⟨s0, s1, s2, s3, s4, s5⟩
                      go_simp
                      with_reducible rfl
                    rotate_left
                    · simp only [Act.put, List.setIfInBounds_toArray, List.set_cons_zero, List.set_cons_succ, i64_w, i32_w]
                      rfl
                    refine pure_ (i := 15) (N := some 43) (v := ?_) (a' := ?_) #[true, true, true, true, true, true, true, true, true, true, true, true, true, true, true, true, false, false] rfl rfl (any_of HT_.out (by kernel_rfl)) (fun _ _ _ h => h) (Or.inl ⟨by rfl, ?_⟩) ?_ ?_
                    rotate_left
                    · intro w'
                      go_simp
                      with_reducible rfl
                    rotate_left
                    · simp only [Act.put, List.setIfInBounds_toArray, List.set_cons_zero, List.set_cons_succ, i64_w, i32_w]
                      rfl
                    refine one_ (i := 16) (N := some 6) #[true, true, true, true, true, true, true, true, true, true, true, true, true, true, true, true, true, false] rfl rfl (one_of HT_.out (by kernel_rfl)) (by decide) (fun K hK => ?_)
                    refine box_step ?hg (N := 6) ?hd (cs := #[.int .i64 0, .int .i64 0, .int .i64 0]) (t := 33) ?hr ?_; (case hd => rfl); (case hg => rfl); (case hr => first | (go_simp; done) | (go_simp; rfl))
                    intro gb270 hg w32 hbox hb
                    have HS0_ := (hb.cell (World.block_lt_of_cell? _ _ (hHeld.1))).trans (hHeld.1)
                    have HS1_ := (hb.cell (World.block_lt_of_cell? _ _ (hHeld.2.1))).trans (hHeld.2.1)
                    have HS2_ := (hb.cell (World.block_lt_of_cell? _ _ (hHeld.2.2.1))).trans (hHeld.2.2.1)
                    have HS3_ := (hb.cell (World.block_lt_of_cell? _ _ (hHeld.2.2.2.1))).trans (hHeld.2.2.2.1)
                    have HS4_ := (hb.cell (World.block_lt_of_cell? _ _ (hHeld.2.2.2.2.1))).trans (hHeld.2.2.2.2.1)
                    have HS5_ := (hb.cell (World.block_lt_of_cell? _ _ (hHeld.2.2.2.2.2))).trans (hHeld.2.2.2.2.2)
                    have n0_ := Aside0.mk (Kd.S_below (by (with_reducible repeat (first | apply Kd.S_alloc | apply Kd.S_drewN | apply Kd.S_drew)); exact HO_4.out) hb)
                    have n1_ := Aside0.mk (Kd.R_below (by (with_reducible repeat (first | apply Kd.R_alloc | apply Kd.R_drewN | apply Kd.R_drew)); exact HL264_0.out) hb)
                    have n2_ := Aside0.mk (Kd.R_below (by (with_reducible repeat (first | apply Kd.R_alloc | apply Kd.R_drewN | apply Kd.R_drew)); exact HL266_0.out) hb)
                    have n3_ := Aside0.mk (Kd.R_below (by (with_reducible repeat (first | apply Kd.R_alloc | apply Kd.R_drewN | apply Kd.R_drew)); exact HL268_0.out) hb)
                    have n4_ := Aside0.mk (blk_below (g := gb258) (o := .cells #[.int .i64 0, .int .i64 0, .int .i64 0] 33 (0, 0)) (by (with_reducible repeat (first | refine blk_drewN ?_ _ | refine blk_drew ?_ | refine blk_alloc ?_ _)); exact BK258.out) hb)
                    have n5_ := Aside0.mk (Kd.C_below (by repeat (first | (with_reducible exact HR264_0.out) | (with_reducible refine Kd.C_alloc ?_ _) | (with_reducible refine Kd.C_drewN ?_ _) | (with_reducible refine Kd.C_drew ?_) | exact HR264_0.out)) hb)
                    have n6_ := Aside0.mk (Kd.C_below (by repeat (first | (with_reducible exact HR266_0.out) | (with_reducible refine Kd.C_alloc ?_ _) | (with_reducible refine Kd.C_drewN ?_ _) | (with_reducible refine Kd.C_drew ?_) | exact HR266_0.out)) hb)
                    have n7_ := Aside0.mk (Kd.C_below (by repeat (first | (with_reducible exact HR268_0.out) | (with_reducible refine Kd.C_alloc ?_ _) | (with_reducible refine Kd.C_drewN ?_ _) | (with_reducible refine Kd.C_drew ?_) | exact HR268_0.out)) hb)
                    have n8_ := Aside0.mk (below_step (by repeat (first | (with_reducible first | exact HB.out | apply below_alloc | apply pw_below_drewN | apply below_drew1 | refine below_set ?_ GE258.out) | exact HB.out)) hb)
                    have n9_ := Aside0.mk (hbox)
                    have n10_ := Aside0.mk ((by rw [hg]; exact (below_size (by repeat (first | (with_reducible first | exact HB.out | apply below_alloc | apply pw_below_drewN | apply below_drew1 | refine below_set ?_ GE258.out) | exact HB.out))) : w.heap.size ≤ gb270))
                    have n11_ := Aside0.mk ((by rw [hg]; exact (below_size (by repeat (first | (with_reducible first | exact HB.out | apply below_alloc | apply pw_below_drewN | apply below_drew1 | refine below_set ?_ GE258.out) | exact HB.out))) : w.heap.size ≤ gb270))
                    have n12_ := Aside0.mk ((by rw [hg]; exact Nat.ne_of_lt (blk_lt (g := gb258) (o := .cells #[.int .i64 0, .int .i64 0, .int .i64 0] 33 (0, 0)) (by (with_reducible repeat (first | refine blk_drewN ?_ _ | refine blk_drew ?_ | refine blk_alloc ?_ _)); exact BK258.out)) : gb258 ≠ gb270))
                    have n13_ := Aside0.mk ((by rw [hg]; exact Nat.ne_of_gt (blk_lt (g := gb258) (o := .cells #[.int .i64 0, .int .i64 0, .int .i64 0] 33 (0, 0)) (by (with_reducible repeat (first | refine blk_drewN ?_ _ | refine blk_drew ?_ | refine blk_alloc ?_ _)); exact BK258.out)) : gb270 ≠ gb258))
                    clear HO_4
                    clear HL264_0
                    clear HL266_0
                    clear HL268_0
                    clear BK258
                    clear HR264_0
                    clear HR266_0
                    clear HR268_0
                    clear HB
                    have HO_4 := n0_
                    have HL264_0 := n1_
                    have HL266_0 := n2_
                    have HL268_0 := n3_
                    have BK258 := n4_
                    have HR264_0 := n5_
                    have HR266_0 := n6_
                    have HR268_0 := n7_
                    have HB := n8_
                    have BK270 := n9_
                    have GW270 := n10_
                    have GE270 := n11_
                    have NB258_270 := n12_
                    have NB270_258 := n13_
                    clear n0_ n1_ n2_ n3_ n4_ n5_ n6_ n7_ n8_ n9_ n10_ n11_ n12_ n13_
                    clear hb hbox hg
                    refine hK.out _ _ ⟨HS0_, HS1_, HS2_, HS3_, HS4_, HS5_⟩ (fun hHeld => ?_)
                    clear hK K
                    refine norm_ (a' := ?_) ?_ ?_
                    rotate_left
                    · show Act.put _ (some 6) _ = _
                      simp only [Act.put, List.setIfInBounds_toArray, List.set_cons_zero, List.set_cons_succ, i64_w, i32_w]
                      rfl
                    refine one_ (i := 17) (N := none) #[true, true, true, true, true, true, true, true, true, true, true, true, true, true, true, true, true, true] rfl rfl (one_of HT_.out (by kernel_rfl)) (by decide) (fun K hK => ?_)
                    have hs33 : w32.cell? ⟨gb270, 0, none⟩ = some (.int .i64 0) := (blk_cell BK270.out 0).trans rfl
                    have hfs33 := blk_frozen BK270.out 0
                    have hns33_0 := NB258_270.out
                    have hms33_0 := NB270_258.out
                    have hs34 : w32.cell? ⟨gb270, 1, none⟩ = some (.int .i64 0) := (blk_cell BK270.out 1).trans rfl
                    have hfs34 := blk_frozen BK270.out 1
                    have hns34_0 := NB258_270.out
                    have hms34_0 := NB270_258.out
                    have hs35 : w32.cell? ⟨gb270, 2, none⟩ = some (.int .i64 0) := (blk_cell BK270.out 2).trans rfl
                    have hfs35 := blk_frozen BK270.out 2
                    have hns35_0 := NB258_270.out
                    have hms35_0 := NB270_258.out
                    refine skip_ (w1 := ?_) (by rfl) rfl ?_ ?_
                    rotate_left
                    · go_simp
                      rfl
                    refine hK.out _ _ ⟨((cell_far (p := ⟨gb270, _, none⟩) (by first | exact Kd.own_blk (Kd.S_ne HO_4.out BK270.out (by decide)) | (rw [add_block]; exact Kd.own_blk (Kd.S_ne HO_4.out BK270.out (by decide))) | (show (Addr.add _ _).block ≠ _; rw [add_block]; exact Kd.own_blk (Kd.S_ne HO_4.out BK270.out (by decide))) | (dsimp only; exact Kd.own_blk (Kd.S_ne HO_4.out BK270.out (by decide)))) _).trans (((cell_far (p := ⟨gb270, _, none⟩) (by first | exact Kd.own_blk (Kd.S_ne HO_4.out BK270.out (by decide)) | (rw [add_block]; exact Kd.own_blk (Kd.S_ne HO_4.out BK270.out (by decide))) | (show (Addr.add _ _).block ≠ _; rw [add_block]; exact Kd.own_blk (Kd.S_ne HO_4.out BK270.out (by decide))) | (dsimp only; exact Kd.own_blk (Kd.S_ne HO_4.out BK270.out (by decide)))) _).trans (((cell_far (p := ⟨gb270, _, none⟩) (by first | exact Kd.own_blk (Kd.S_ne HO_4.out BK270.out (by decide)) | (rw [add_block]; exact Kd.own_blk (Kd.S_ne HO_4.out BK270.out (by decide))) | (show (Addr.add _ _).block ≠ _; rw [add_block]; exact Kd.own_blk (Kd.S_ne HO_4.out BK270.out (by decide))) | (dsimp only; exact Kd.own_blk (Kd.S_ne HO_4.out BK270.out (by decide)))) _).trans (hHeld.1)))))), ((cell_far (p := ⟨gb270, _, none⟩) (by first | exact Kd.own_blk (Kd.R_ne HL264_0.out BK270.out (by decide)) | (rw [add_block]; exact Kd.own_blk (Kd.R_ne HL264_0.out BK270.out (by decide))) | (show (Addr.add _ _).block ≠ _; rw [add_block]; exact Kd.own_blk (Kd.R_ne HL264_0.out BK270.out (by decide))) | (dsimp only; exact Kd.own_blk (Kd.R_ne HL264_0.out BK270.out (by decide)))) _).trans (((cell_far (p := ⟨gb270, _, none⟩) (by first | exact Kd.own_blk (Kd.R_ne HL264_0.out BK270.out (by decide)) | (rw [add_block]; exact Kd.own_blk (Kd.R_ne HL264_0.out BK270.out (by decide))) | (show (Addr.add _ _).block ≠ _; rw [add_block]; exact Kd.own_blk (Kd.R_ne HL264_0.out BK270.out (by decide))) | (dsimp only; exact Kd.own_blk (Kd.R_ne HL264_0.out BK270.out (by decide)))) _).trans (((cell_far (p := ⟨gb270, _, none⟩) (by first | exact Kd.own_blk (Kd.R_ne HL264_0.out BK270.out (by decide)) | (rw [add_block]; exact Kd.own_blk (Kd.R_ne HL264_0.out BK270.out (by decide))) | (show (Addr.add _ _).block ≠ _; rw [add_block]; exact Kd.own_blk (Kd.R_ne HL264_0.out BK270.out (by decide))) | (dsimp only; exact Kd.own_blk (Kd.R_ne HL264_0.out BK270.out (by decide)))) _).trans (hHeld.2.1)))))), ((cell_far (p := ⟨gb270, _, none⟩) (by first | exact Kd.own_blk (Kd.S_ne HO_4.out BK270.out (by decide)) | (rw [add_block]; exact Kd.own_blk (Kd.S_ne HO_4.out BK270.out (by decide))) | (show (Addr.add _ _).block ≠ _; rw [add_block]; exact Kd.own_blk (Kd.S_ne HO_4.out BK270.out (by decide))) | (dsimp only; exact Kd.own_blk (Kd.S_ne HO_4.out BK270.out (by decide)))) _).trans (((cell_far (p := ⟨gb270, _, none⟩) (by first | exact Kd.own_blk (Kd.S_ne HO_4.out BK270.out (by decide)) | (rw [add_block]; exact Kd.own_blk (Kd.S_ne HO_4.out BK270.out (by decide))) | (show (Addr.add _ _).block ≠ _; rw [add_block]; exact Kd.own_blk (Kd.S_ne HO_4.out BK270.out (by decide))) | (dsimp only; exact Kd.own_blk (Kd.S_ne HO_4.out BK270.out (by decide)))) _).trans (((cell_far (p := ⟨gb270, _, none⟩) (by first | exact Kd.own_blk (Kd.S_ne HO_4.out BK270.out (by decide)) | (rw [add_block]; exact Kd.own_blk (Kd.S_ne HO_4.out BK270.out (by decide))) | (show (Addr.add _ _).block ≠ _; rw [add_block]; exact Kd.own_blk (Kd.S_ne HO_4.out BK270.out (by decide))) | (dsimp only; exact Kd.own_blk (Kd.S_ne HO_4.out BK270.out (by decide)))) _).trans (hHeld.2.2.1)))))), ((cell_far (p := ⟨gb270, _, none⟩) (by first | exact Kd.own_blk (Kd.R_ne HL266_0.out BK270.out (by decide)) | (rw [add_block]; exact Kd.own_blk (Kd.R_ne HL266_0.out BK270.out (by decide))) | (show (Addr.add _ _).block ≠ _; rw [add_block]; exact Kd.own_blk (Kd.R_ne HL266_0.out BK270.out (by decide))) | (dsimp only; exact Kd.own_blk (Kd.R_ne HL266_0.out BK270.out (by decide)))) _).trans (((cell_far (p := ⟨gb270, _, none⟩) (by first | exact Kd.own_blk (Kd.R_ne HL266_0.out BK270.out (by decide)) | (rw [add_block]; exact Kd.own_blk (Kd.R_ne HL266_0.out BK270.out (by decide))) | (show (Addr.add _ _).block ≠ _; rw [add_block]; exact Kd.own_blk (Kd.R_ne HL266_0.out BK270.out (by decide))) | (dsimp only; exact Kd.own_blk (Kd.R_ne HL266_0.out BK270.out (by decide)))) _).trans (((cell_far (p := ⟨gb270, _, none⟩) (by first | exact Kd.own_blk (Kd.R_ne HL266_0.out BK270.out (by decide)) | (rw [add_block]; exact Kd.own_blk (Kd.R_ne HL266_0.out BK270.out (by decide))) | (show (Addr.add _ _).block ≠ _; rw [add_block]; exact Kd.own_blk (Kd.R_ne HL266_0.out BK270.out (by decide))) | (dsimp only; exact Kd.own_blk (Kd.R_ne HL266_0.out BK270.out (by decide)))) _).trans (hHeld.2.2.2.1)))))), ((cell_far (p := ⟨gb270, _, none⟩) (by first | exact Kd.own_blk (Kd.S_ne HO_4.out BK270.out (by decide)) | (rw [add_block]; exact Kd.own_blk (Kd.S_ne HO_4.out BK270.out (by decide))) | (show (Addr.add _ _).block ≠ _; rw [add_block]; exact Kd.own_blk (Kd.S_ne HO_4.out BK270.out (by decide))) | (dsimp only; exact Kd.own_blk (Kd.S_ne HO_4.out BK270.out (by decide)))) _).trans (((cell_far (p := ⟨gb270, _, none⟩) (by first | exact Kd.own_blk (Kd.S_ne HO_4.out BK270.out (by decide)) | (rw [add_block]; exact Kd.own_blk (Kd.S_ne HO_4.out BK270.out (by decide))) | (show (Addr.add _ _).block ≠ _; rw [add_block]; exact Kd.own_blk (Kd.S_ne HO_4.out BK270.out (by decide))) | (dsimp only; exact Kd.own_blk (Kd.S_ne HO_4.out BK270.out (by decide)))) _).trans (((cell_far (p := ⟨gb270, _, none⟩) (by first | exact Kd.own_blk (Kd.S_ne HO_4.out BK270.out (by decide)) | (rw [add_block]; exact Kd.own_blk (Kd.S_ne HO_4.out BK270.out (by decide))) | (show (Addr.add _ _).block ≠ _; rw [add_block]; exact Kd.own_blk (Kd.S_ne HO_4.out BK270.out (by decide))) | (dsimp only; exact Kd.own_blk (Kd.S_ne HO_4.out BK270.out (by decide)))) _).trans (hHeld.2.2.2.2.1)))))), ((cell_far (p := ⟨gb270, _, none⟩) (by first | exact Kd.own_blk (Kd.R_ne HL268_0.out BK270.out (by decide)) | (rw [add_block]; exact Kd.own_blk (Kd.R_ne HL268_0.out BK270.out (by decide))) | (show (Addr.add _ _).block ≠ _; rw [add_block]; exact Kd.own_blk (Kd.R_ne HL268_0.out BK270.out (by decide))) | (dsimp only; exact Kd.own_blk (Kd.R_ne HL268_0.out BK270.out (by decide)))) _).trans (((cell_far (p := ⟨gb270, _, none⟩) (by first | exact Kd.own_blk (Kd.R_ne HL268_0.out BK270.out (by decide)) | (rw [add_block]; exact Kd.own_blk (Kd.R_ne HL268_0.out BK270.out (by decide))) | (show (Addr.add _ _).block ≠ _; rw [add_block]; exact Kd.own_blk (Kd.R_ne HL268_0.out BK270.out (by decide))) | (dsimp only; exact Kd.own_blk (Kd.R_ne HL268_0.out BK270.out (by decide)))) _).trans (((cell_far (p := ⟨gb270, _, none⟩) (by first | exact Kd.own_blk (Kd.R_ne HL268_0.out BK270.out (by decide)) | (rw [add_block]; exact Kd.own_blk (Kd.R_ne HL268_0.out BK270.out (by decide))) | (show (Addr.add _ _).block ≠ _; rw [add_block]; exact Kd.own_blk (Kd.R_ne HL268_0.out BK270.out (by decide))) | (dsimp only; exact Kd.own_blk (Kd.R_ne HL268_0.out BK270.out (by decide)))) _).trans (hHeld.2.2.2.2.2))))))⟩ (fun hHeld => ?_)
                    clear hK K
                    refine done_ (done_of HT_.out (by kernel_rfl)) ?_
                    have hnb36 := NB270_258.out
                    have hnc36 := NB258_270.out
                    have hcz37_0 : w32.cell? ⟨gb270, 0, none⟩ = some (.int .i64 0) := (blk_cell BK270.out 0).trans rfl
                    have hcz37_1 : w32.cell? ⟨gb270, 1, none⟩ = some (.int .i64 0) := (blk_cell BK270.out 1).trans rfl
                    have hcz37_2 : w32.cell? ⟨gb270, 2, none⟩ = some (.int .i64 0) := (blk_cell BK270.out 2).trans rfl
                    have hfz37_0 := blk_frozen BK270.out 0
                    have hfz37_1 := blk_frozen BK270.out 1
                    have hfz37_2 := blk_frozen BK270.out 2
                    try go_wp2_with (first | ((with_reducible refine gate_callee (f := 18) rfl ?_); refine goesL_ (some 45) rfl rfl Try.func18 (by kernel_rfl) rfl #[.agg #[.int .i64 (rd (rd_L2 t259 0) 0), .int .i64 (rd (rd_L2 t259 0) 1), .int .i64 (rd (rd_L2 t259 0) 2)]] rfl (by (try simp only [List.map_toArray, List.map_cons, List.map_nil]); first | done | rfl | (simp only [List.length_drop, List.length_take]; rfl)) ?_; (with_reducible refine (haulierref18_May.calls (rd (rd_L2 t259 0) 0) (rd (rd_L2 t259 0) 1) (rd (rd_L2 t259 0) 2) false _ A17.out).mono ?_); rintro e w38 ⟨rfl, hb⟩; refine ⟨_, rfl, ?_⟩; have n0_ := Aside0.mk (Kd.S_below (by (with_reducible repeat (first | apply Kd.S_alloc | apply Kd.S_drewN | apply Kd.S_drew)); exact (Kd.S_mono (Kd.S_far (p := ⟨gb270, 2, none⟩) (Kd.S_far (p := ⟨gb270, 1, none⟩) (Kd.S_far (p := ⟨gb270, 0, none⟩) (Kd.S_types HO_4.out BK270.out (by decide)) (fun _ hk => hk.2) (.int .i64 (rd (rd_L2 t259 0) 0))) (fun _ hk => hk.2) (.int .i64 (rd (rd_L2 t259 0) 1))) (fun _ hk => hk.2) (.int .i64 (rd (rd_L2 t259 0) 2))) (fun _ h_ => h_.1))) hb); have n1_ := Aside0.mk (Kd.R_below (by (with_reducible repeat (first | apply Kd.R_alloc | apply Kd.R_drewN | apply Kd.R_drew)); exact (Kd.R_mono (Kd.R_far (p := ⟨gb270, 2, none⟩) (Kd.R_far (p := ⟨gb270, 1, none⟩) (Kd.R_far (p := ⟨gb270, 0, none⟩) (Kd.R_types HL264_0.out BK270.out (by decide)) (fun _ hk => hk.2) (.int .i64 (rd (rd_L2 t259 0) 0))) (fun _ hk => hk.2) (.int .i64 (rd (rd_L2 t259 0) 1))) (fun _ hk => hk.2) (.int .i64 (rd (rd_L2 t259 0) 2))) (fun _ h_ => h_.1))) hb); have n2_ := Aside0.mk (Kd.R_below (by (with_reducible repeat (first | apply Kd.R_alloc | apply Kd.R_drewN | apply Kd.R_drew)); exact (Kd.R_mono (Kd.R_far (p := ⟨gb270, 2, none⟩) (Kd.R_far (p := ⟨gb270, 1, none⟩) (Kd.R_far (p := ⟨gb270, 0, none⟩) (Kd.R_types HL266_0.out BK270.out (by decide)) (fun _ hk => hk.2) (.int .i64 (rd (rd_L2 t259 0) 0))) (fun _ hk => hk.2) (.int .i64 (rd (rd_L2 t259 0) 1))) (fun _ hk => hk.2) (.int .i64 (rd (rd_L2 t259 0) 2))) (fun _ h_ => h_.1))) hb); have n3_ := Aside0.mk (Kd.R_below (by (with_reducible repeat (first | apply Kd.R_alloc | apply Kd.R_drewN | apply Kd.R_drew)); exact (Kd.R_mono (Kd.R_far (p := ⟨gb270, 2, none⟩) (Kd.R_far (p := ⟨gb270, 1, none⟩) (Kd.R_far (p := ⟨gb270, 0, none⟩) (Kd.R_types HL268_0.out BK270.out (by decide)) (fun _ hk => hk.2) (.int .i64 (rd (rd_L2 t259 0) 0))) (fun _ hk => hk.2) (.int .i64 (rd (rd_L2 t259 0) 1))) (fun _ hk => hk.2) (.int .i64 (rd (rd_L2 t259 0) 2))) (fun _ h_ => h_.1))) hb); have n4_ := Aside0.mk (blk_below (g := gb258) (o := .cells #[.int .i64 0, .int .i64 0, .int .i64 0] 33 (0, 0)) (by (with_reducible repeat (first | refine blk_drewN ?_ _ | refine blk_drew ?_ | refine blk_alloc ?_ _)); refine blk_far ?_ NB258_270.out _; (with_reducible repeat (first | refine blk_drewN ?_ _ | refine blk_drew ?_ | refine blk_alloc ?_ _)); refine blk_far ?_ NB258_270.out _; (with_reducible repeat (first | refine blk_drewN ?_ _ | refine blk_drew ?_ | refine blk_alloc ?_ _)); refine blk_far ?_ NB258_270.out _; (with_reducible repeat (first | refine blk_drewN ?_ _ | refine blk_drew ?_ | refine blk_alloc ?_ _)); exact BK258.out) hb); have n5_ := Aside0.mk (Kd.C_below ((Kd.R_reads' (by (with_reducible repeat (first | apply Kd.R_alloc | apply Kd.R_drewN | apply Kd.R_drew)); exact (Kd.R_mono (Kd.R_far (p := ⟨gb270, 2, none⟩) (Kd.R_far (p := ⟨gb270, 1, none⟩) (Kd.R_far (p := ⟨gb270, 0, none⟩) (Kd.R_types HL264_0.out BK270.out (by decide)) (fun _ hk => hk.2) (.int .i64 (rd (rd_L2 t259 0) 0))) (fun _ hk => hk.2) (.int .i64 (rd (rd_L2 t259 0) 1))) (fun _ hk => hk.2) (.int .i64 (rd (rd_L2 t259 0) 2))) (fun _ h_ => h_.1)))).2.2) hb); have n6_ := Aside0.mk (Kd.C_below ((Kd.R_reads' (by (with_reducible repeat (first | apply Kd.R_alloc | apply Kd.R_drewN | apply Kd.R_drew)); exact (Kd.R_mono (Kd.R_far (p := ⟨gb270, 2, none⟩) (Kd.R_far (p := ⟨gb270, 1, none⟩) (Kd.R_far (p := ⟨gb270, 0, none⟩) (Kd.R_types HL266_0.out BK270.out (by decide)) (fun _ hk => hk.2) (.int .i64 (rd (rd_L2 t259 0) 0))) (fun _ hk => hk.2) (.int .i64 (rd (rd_L2 t259 0) 1))) (fun _ hk => hk.2) (.int .i64 (rd (rd_L2 t259 0) 2))) (fun _ h_ => h_.1)))).2.2) hb); have n7_ := Aside0.mk (Kd.C_below ((Kd.R_reads' (by (with_reducible repeat (first | apply Kd.R_alloc | apply Kd.R_drewN | apply Kd.R_drew)); exact (Kd.R_mono (Kd.R_far (p := ⟨gb270, 2, none⟩) (Kd.R_far (p := ⟨gb270, 1, none⟩) (Kd.R_far (p := ⟨gb270, 0, none⟩) (Kd.R_types HL268_0.out BK270.out (by decide)) (fun _ hk => hk.2) (.int .i64 (rd (rd_L2 t259 0) 0))) (fun _ hk => hk.2) (.int .i64 (rd (rd_L2 t259 0) 1))) (fun _ hk => hk.2) (.int .i64 (rd (rd_L2 t259 0) 2))) (fun _ h_ => h_.1)))).2.2) hb); have n8_ := Aside0.mk (blk_below (g := gb270) (o := .cells #[.int .i64 (rd (rd_L2 t259 0) 0), .int .i64 (rd (rd_L2 t259 0) 1), .int .i64 (rd (rd_L2 t259 0) 2)] 33 (0, 0)) (by (with_reducible repeat (first | refine blk_drewN ?_ _ | refine blk_drew ?_ | refine blk_alloc ?_ _)); refine blk_put (cs := #[.int .i64 (rd (rd_L2 t259 0) 0), .int .i64 (rd (rd_L2 t259 0) 1), .int .i64 0]) ?_ 2 _ rfl; (with_reducible repeat (first | refine blk_drewN ?_ _ | refine blk_drew ?_ | refine blk_alloc ?_ _)); refine blk_put (cs := #[.int .i64 (rd (rd_L2 t259 0) 0), .int .i64 0, .int .i64 0]) ?_ 1 _ rfl; (with_reducible repeat (first | refine blk_drewN ?_ _ | refine blk_drew ?_ | refine blk_alloc ?_ _)); refine blk_put (cs := #[.int .i64 0, .int .i64 0, .int .i64 0]) ?_ 0 _ rfl; (with_reducible repeat (first | refine blk_drewN ?_ _ | refine blk_drew ?_ | refine blk_alloc ?_ _)); exact BK270.out) hb); have n9_ := Aside0.mk (below_step (by repeat (first | (with_reducible first | exact HB.out | apply below_alloc | apply pw_below_drewN | apply below_drew1 | refine below_set ?_ GE258.out | refine below_set ?_ GE270.out) | exact HB.out)) hb); clear HO_4; clear HL264_0; clear HL266_0; clear HL268_0; clear BK258; clear HR264_0; clear HR266_0; clear HR268_0; clear BK270; clear HB; have HO_4 := n0_; have HL264_0 := n1_; have HL266_0 := n2_; have HL268_0 := n3_; have BK258 := n4_; have HR264_0 := n5_; have HR266_0 := n6_; have HR268_0 := n7_; have BK270 := n8_; have HB := n9_; clear n0_ n1_ n2_ n3_ n4_ n5_ n6_ n7_ n8_ n9_; (try clear hb); (try clear hb2); (try clear hk); (try clear hi); have hcz39_0 : w38.cell? ⟨gb258, 0, none⟩ = some (.int .i64 0) := (blk_cell BK258.out 0).trans rfl; have hcz39_1 : w38.cell? ⟨gb258, 1, none⟩ = some (.int .i64 0) := (blk_cell BK258.out 1).trans rfl; have hcz39_2 : w38.cell? ⟨gb258, 2, none⟩ = some (.int .i64 0) := (blk_cell BK258.out 2).trans rfl; have hfz39_0 := blk_frozen BK258.out 0; have hfz39_1 := blk_frozen BK258.out 1; have hfz39_2 := blk_frozen BK258.out 2))
                    refine bodyPost_ret (results_ct rfl _ _ gb258 33 #[.int .i64 0, .int .i64 0, .int .i64 0] (0, 0) _ rfl (by (with_reducible repeat (first | refine blk_drewN ?_ _ | refine blk_drew ?_ | refine blk_alloc ?_ _)); refine blk_put (cs := #[.int .i64 0, .int .i64 0, .int .i64 0]) ?_ 2 _ rfl; (with_reducible repeat (first | refine blk_drewN ?_ _ | refine blk_drew ?_ | refine blk_alloc ?_ _)); refine blk_put (cs := #[.int .i64 0, .int .i64 0, .int .i64 0]) ?_ 1 _ rfl; (with_reducible repeat (first | refine blk_drewN ?_ _ | refine blk_drew ?_ | refine blk_alloc ?_ _)); refine blk_put (cs := #[.int .i64 0, .int .i64 0, .int .i64 0]) ?_ 0 _ rfl; (with_reducible repeat (first | refine blk_drewN ?_ _ | refine blk_drew ?_ | refine blk_alloc ?_ _)); exact BK258.out) Try.underlying33 rfl (by kernel_rfl)) rfl ?_
                    exact ⟨by first | rfl | (simp [errW_none, errW_some] <;> rfl) | (simp [*, errW_none, errW_some] <;> rfl), by repeat (first | (with_reducible first | exact HB.out | apply below_alloc | apply pw_below_drewN | apply below_drew1 | refine below_set ?_ GE258.out | refine below_set ?_ GE270.out) | exact HB.out)⟩
                · rw [if_neg c16] at H
                  exact absurd H (by simp)
              · rw [if_neg c15] at H
                exact absurd H (by simp)
            · rw [if_neg c14] at H
              exact absurd H (by simp)
          · rw [if_neg c13] at H
            exact absurd H (by simp)
  · rw [if_neg c3] at H
    have c3b0 : (t260 == 0) = false := beq_eq_false_iff_ne.mpr c3
    have c3b1 : (t260 != 0) = true := bne_iff_ne.mpr c3
    simp only [Option.some.injEq, Prod.mk.injEq] at H
    obtain ⟨rfl, rfl, rfl, rfl⟩ := H
    go_enter Try.func14, Try.ntmps14
    go_wp2_with (first | ((with_reducible refine gate_dst (N := 2) rfl ?_); (try (refine gate_guard (by rfl) ?_; dsimp only)); refine box_event ?hg (N := 2) ?hd (cs := #[.int .i64 0, .int .i64 0, .int .i64 0]) (t := 33) ?hr ?_; (case hd => rfl); (case hg => rfl); (case hr => first | (go_simp; done) | (go_simp; rfl)); intro gb258 hg w40 hbox hb; have n0_ := Aside0.mk (below_step (by repeat (first | (with_reducible first | exact HB.out | apply below_alloc | apply pw_below_drewN | apply below_drew1) | exact HB.out)) hb); have n1_ := Aside0.mk (hbox); have n2_ := Aside0.mk ((by rw [hg]; exact (below_size (by repeat (first | (with_reducible first | exact HB.out | apply below_alloc | apply pw_below_drewN | apply below_drew1) | exact HB.out))) : w.heap.size ≤ gb258)); have n3_ := Aside0.mk ((by rw [hg]; exact (below_size (by repeat (first | (with_reducible first | exact HB.out | apply below_alloc | apply pw_below_drewN | apply below_drew1) | exact HB.out))) : w.heap.size ≤ gb258)); clear HB; have HB := n0_; have BK258 := n1_; have GW258 := n2_; have GE258 := n3_; clear n0_ n1_ n2_ n3_; clear hb hbox hg) | ((with_reducible refine gate_callee (f := 10) rfl ?_); refine goesL_ (some 10) rfl rfl Try.func10 (by kernel_rfl) rfl #[.slice A0 l0.length c0] rfl (by (try simp only [List.map_toArray, List.map_cons, List.map_nil]); first | done | rfl | (simp only [List.length_drop, List.length_take]; rfl)) ?_; (with_reducible refine (haulierref04_Lines.calls k _ _ l0 t259 t260 _ ?side1 ?side2 A2.out).mono ?_); (case side1 => repeat (first | exact (Kd.C_below HR0.out HB.out) | (with_reducible refine Kd.C_alloc ?_ _) | (with_reducible refine Kd.C_drewN ?_ _) | (with_reducible refine Kd.C_drew ?_))); (case side2 => exact HC0.out); rintro e w41 ⟨v261, rfl, ho0, hb⟩; refine ⟨_, rfl, ?_⟩; have n0_ := Aside0.mk (Kd.S_lower ho0 (below_size (by repeat (first | (with_reducible first | exact HB.out | apply below_alloc | apply pw_below_drewN | apply below_drew1 | refine below_set ?_ GE258.out) | exact HB.out)))); have n1_ := Aside0.mk (blk_below (g := gb258) (o := .cells #[.int .i64 0, .int .i64 0, .int .i64 0] 33 (0, 0)) (by (with_reducible repeat (first | refine blk_drewN ?_ _ | refine blk_drew ?_ | refine blk_alloc ?_ _)); exact BK258.out) hb); have n2_ := Aside0.mk (below_step (by repeat (first | (with_reducible first | exact HB.out | apply below_alloc | apply pw_below_drewN | apply below_drew1 | refine below_set ?_ GE258.out) | exact HB.out)) hb); clear BK258; clear HB; have HO262 := n0_; have BK258 := n1_; have HB := n2_; clear n0_ n1_ n2_; (try clear hb); (try clear hb2); (try clear hk); (try clear hi); (try clear ho0); have hcz42_0 : w41.cell? ⟨gb258, 0, none⟩ = some (.int .i64 0) := (blk_cell BK258.out 0).trans rfl; have hcz42_1 : w41.cell? ⟨gb258, 1, none⟩ = some (.int .i64 0) := (blk_cell BK258.out 1).trans rfl; have hcz42_2 : w41.cell? ⟨gb258, 2, none⟩ = some (.int .i64 0) := (blk_cell BK258.out 2).trans rfl; have hfz42_0 := blk_frozen BK258.out 0; have hfz42_1 := blk_frozen BK258.out 1; have hfz42_2 := blk_frozen BK258.out 2))
    refine bodyPost_ret (results_ct rfl _ _ gb258 33 #[.int .i64 0, .int .i64 0, .int .i64 0] (0, 0) _ rfl (by (with_reducible repeat (first | refine blk_drewN ?_ _ | refine blk_drew ?_ | refine blk_alloc ?_ _)); refine blk_put (cs := #[.int .i64 0, .int .i64 0, .int .i64 0]) ?_ 2 _ rfl; (with_reducible repeat (first | refine blk_drewN ?_ _ | refine blk_drew ?_ | refine blk_alloc ?_ _)); refine blk_put (cs := #[.int .i64 0, .int .i64 0, .int .i64 0]) ?_ 1 _ rfl; (with_reducible repeat (first | refine blk_drewN ?_ _ | refine blk_drew ?_ | refine blk_alloc ?_ _)); refine blk_put (cs := #[.int .i64 0, .int .i64 0, .int .i64 0]) ?_ 0 _ rfl; (with_reducible repeat (first | refine blk_drewN ?_ _ | refine blk_drew ?_ | refine blk_alloc ?_ _)); exact BK258.out) Try.underlying33 rfl (by kernel_rfl)) rfl ?_
    exact ⟨by first | rfl | (simp [errW_none, errW_some] <;> rfl) | (simp [*, errW_none, errW_some] <;> rfl), by repeat (first | (with_reducible first | exact HB.out | apply below_alloc | apply pw_below_drewN | apply below_drew1 | refine below_set ?_ GE258.out) | exact HB.out)⟩

end Go.Proofs.Ytdmlohoicgfdnaa.PA
