-- Printed for this claim by wip/tools/xprint.py over the kit's print; the contracts marked BY HAND are this session's own.
import Derived.Test.YtifekgemngfidaaDoorPAx0
import Derived.Test.YtifekgemngfidaaDoorPAx3
import Derived.Test.YtifekgemngfidaaDoorPAx6
import Derived.Test.YtifekgemngfidaaDoorPAx7
import Derived.Test.YtifekgemngfidaaDoorPAx8
import Derived.Test.YtifekgemngfidaaDoorPAx18
namespace Go.Proofs.YtifekgemngfidaaDoor.PA
open Go.RowKit Go.Proofs.YtifekgemngfidaaDoorW.PrintWords Go.Proofs.YtifekgemngfidaaDoorW.PrintLast Go.Proofs.YtifekgemngfidaaDoorW.PrintMore
attribute [local go_sem] max2_int min2_int max_two min_two max_three min_three max_four min_four   -- for this text's walks alone
set_option linter.unusedVariables false
set_option linter.unusedSimpArgs false

/-! ### haulierlaw05_InstBack: function 6 -/
def haulierlaw05_InstBack.j0 : Nat → Bool → Bool → Int → Int → Int → List (S34) → Option (Bool)
  | 0, _, _, _, _, _, _ => none
  | k + 1, x3, x16, x404000, x404001, x404002, x404003 => if x16 = true then (some x3) else ((inst_Print.f k x404000 x404001 x404002 x404003).bind fun bt405 => (if bt405.2 = 0 then ((inst_Parse.f k bt405.1).bind fun bt409 => (if bt409.2.2.2.2 = 0 then ((inst_Same.f k x404000 x404001 x404002 x404003 bt409.1 bt409.2.1 bt409.2.2.1 bt409.2.2.2.1).bind fun t417 => (if t417 = true then ((inst_May.f k x404000 x404001 x404002 x404003).bind fun t418 => (some t418)) else (none))) else (none))) else (if (bt405.1.length : Int) = 0 then ((inst_May.f k x404000 x404001 x404002 x404003).bind fun t419 => (some (!t419))) else (none))))
def haulierlaw05_InstBack.f (k : Nat) (a0_0 : Int) (a0_1 : Int) (a0_2 : Int) (l0_3 : List (S34)) : Option (Bool) := (haulierlaw05_awake.f k).bind fun t404 => (if t404 = true then (haulierlaw05_InstBack.j0 k t404 (decide ((l0_3.length : Int) > 100)) a0_0 a0_1 a0_2 l0_3) else (haulierlaw05_InstBack.j0 k t404 true a0_0 a0_1 a0_2 l0_3))
theorem haulierlaw05_InstBack.mono_l : ∀ k, (∀ y0 y1 y2 y3 y4 y5, LeO (haulierlaw05_InstBack.j0 k y0 y1 y2 y3 y4 y5) (haulierlaw05_InstBack.j0 (k + 1) y0 y1 y2 y3 y4 y5))
  | 0 => fun _ _ _ _ _ _ r h => by simp [haulierlaw05_InstBack.j0] at h
  | k + 1 => by
    have ih0 := haulierlaw05_InstBack.mono_l k
    · intro y0 y1 y2 y3 y4 y5
      unfold haulierlaw05_InstBack.j0
      repeat' first
      | (with_reducible exact ih0 _ _ _ _ _ _)
      | (with_reducible exact haulierlaw05_awake.mono _)
      | (with_reducible exact inst_May.mono _ _ _ _ _)
      | (with_reducible exact inst_Parse.mono _ _)
      | (with_reducible exact inst_Print.mono _ _ _ _ _)
      | (with_reducible exact inst_Same.mono _ _ _ _ _ _ _ _ _)
      | (with_reducible exact LeO.refl _)
      | (with_reducible exact LeO.none _)
      | (with_reducible refine LeO.ite ?_ ?_)
      | (with_reducible refine LeO.bind ?_ (fun _ => ?_))
      | exact ih0 _ _ _ _ _ _
      | exact haulierlaw05_awake.mono _
      | exact inst_May.mono _ _ _ _ _
      | exact inst_Parse.mono _ _
      | exact inst_Print.mono _ _ _ _ _
      | exact inst_Same.mono _ _ _ _ _ _ _ _ _
      | exact LeO.none _
      | refine LeO.ite ?_ ?_
      | refine LeO.bind ?_ (fun _ => ?_)
theorem haulierlaw05_InstBack.mono : ∀ a0 a1 a2 a3 k, LeO (haulierlaw05_InstBack.f k a0 a1 a2 a3) (haulierlaw05_InstBack.f (k + 1) a0 a1 a2 a3) := by
  intro a0 a1 a2 a3 k
  have ih0 := haulierlaw05_InstBack.mono_l k
  unfold haulierlaw05_InstBack.f
  repeat' first
      | (with_reducible exact ih0 _ _ _ _ _ _)
      | (with_reducible exact haulierlaw05_awake.mono _)
      | (with_reducible exact inst_May.mono _ _ _ _ _)
      | (with_reducible exact inst_Parse.mono _ _)
      | (with_reducible exact inst_Print.mono _ _ _ _ _)
      | (with_reducible exact inst_Same.mono _ _ _ _ _ _ _ _ _)
      | (with_reducible exact LeO.refl _)
      | (with_reducible exact LeO.none _)
      | (with_reducible refine LeO.ite ?_ ?_)
      | (with_reducible refine LeO.bind ?_ (fun _ => ?_))
      | exact ih0 _ _ _ _ _ _
      | exact haulierlaw05_awake.mono _
      | exact inst_May.mono _ _ _ _ _
      | exact inst_Parse.mono _ _
      | exact inst_Print.mono _ _ _ _ _
      | exact inst_Same.mono _ _ _ _ _ _ _ _ _
      | exact LeO.none _
      | refine LeO.ite ?_ ?_
      | refine LeO.bind ?_ (fun _ => ?_)
set_option maxHeartbeats 8000000 in
set_option maxRecDepth 100000 in
theorem haulierlaw05_InstBack.calls (k : Nat) (a0_0 : Int) (a0_1 : Int) (a0_2 : Int) (A0_3 : Option Addr) (c0_3 : Nat) (l0_3 : List (S34)) (r : Bool) (w : World) (hr0_3 : Kd.C k34 w A0_3 l0_3.length l0_3) (hc0_3 : l0_3.length ≤ c0_3) (h : haulierlaw05_InstBack.f k a0_0 a0_1 a0_2 l0_3 = some r) (hT : Go.Proofs.YtifekgemngfidaaDoor.Scan.NumTab w) :
    Calls Tryd.prog 6 #[.agg #[.int .i64 a0_0, .int .i64 a0_1, .int .i64 a0_2, .slice A0_3 l0_3.length c0_3]] w fun e w' => e = .returned (.bool r) ∧ Below w.heap.size w w' := by
  have HT := Aside0.mk hT
  clear hT
  have hu26 := Tryd.underlying26
  have HR0_3 := Aside0.mk hr0_3
  have HC0_3 := Aside0.mk hc0_3
  clear hr0_3 hc0_3
  have HB := Aside0.mk (Below.refl w.heap.size w)
  have H : ((haulierlaw05_awake.f k).bind fun t404 => (if t404 = true then (haulierlaw05_InstBack.j0 k t404 (decide ((l0_3.length : Int) > 100)) a0_0 a0_1 a0_2 l0_3) else (haulierlaw05_InstBack.j0 k t404 true a0_0 a0_1 a0_2 l0_3))) = some r := h
  clear h
  replace H := Option.bind_eq_some_iff.mp H
  obtain ⟨t404, A20, H⟩ := H
  replace H : (if t404 = true then (haulierlaw05_InstBack.j0 k t404 (decide ((l0_3.length : Int) > 100)) a0_0 a0_1 a0_2 l0_3) else (haulierlaw05_InstBack.j0 k t404 true a0_0 a0_1 a0_2 l0_3)) = some r := H
  have A2 := Aside0.mk A20
  clear A20
  have HC3 := Aside0.mk H
  clear H
  go_enter Tryd.func6, Tryd.ntmps6
  go_upto_region 2 with (first | ((with_reducible refine gate_dst (N := 1) rfl ?_); (try (refine gate_guard (by rfl) ?_; dsimp only)); refine box_event ?hg (N := 1) ?hd (cs := #[.int .i64 a0_0, .int .i64 a0_1, .int .i64 a0_2, .slice A0_3 l0_3.length c0_3]) (t := 26) ?hr ?_; (case hd => rfl); (case hg => rfl); (case hr => first | (go_simp; done) | (go_simp; rfl)); intro gb403 hg w4 hbox hb; have n0_ := Aside0.mk (below_step (by repeat (first | (with_reducible first | exact HB.out | apply below_alloc | apply pw_below_drewN | apply below_drew1) | exact HB.out)) hb); have n1_ := Aside0.mk (hbox); have n2_ := Aside0.mk ((by rw [hg]; exact (below_size (by repeat (first | (with_reducible first | exact HB.out | apply below_alloc | apply pw_below_drewN | apply below_drew1) | exact HB.out))) : w.heap.size ≤ gb403)); have n3_ := Aside0.mk ((by rw [hg]; exact (below_size (by repeat (first | (with_reducible first | exact HB.out | apply below_alloc | apply pw_below_drewN | apply below_drew1) | exact HB.out))) : w.heap.size ≤ gb403)); clear HB; have HB := n0_; have BK403 := n1_; have GW403 := n2_; have GE403 := n3_; clear n0_ n1_ n2_ n3_; clear hb hbox hg) | ((with_reducible refine gate_callee (f := 9) rfl ?_); refine goesL_ (some 8) rfl rfl Tryd.func9 (by kernel_rfl) rfl #[] rfl (by (try simp only [List.map_toArray, List.map_cons, List.map_nil]); first | done | rfl | (simp only [List.length_drop, List.length_take]; rfl)) ?_; (with_reducible refine (haulierlaw05_awake.calls k  t404 _ A2.out ?tab).mono ?_); (case tab => exact HT.out.on (by repeat (first | (with_reducible first | exact HB.out | apply below_alloc | apply pw_below_drewN | apply below_drew1 | refine below_set ?_ GE403.out | refine below_set ?_ GE416.out) | exact HB.out))); rintro e w5 ⟨rfl, hb⟩; refine ⟨_, rfl, ?_⟩; have n0_ := Aside0.mk (blk_below (g := gb403) (o := .cells #[.int .i64 a0_0, .int .i64 a0_1, .int .i64 a0_2, .slice A0_3 l0_3.length c0_3] 26 (0, 0)) (by (with_reducible repeat (first | refine blk_drewN ?_ _ | refine blk_drew ?_ | refine blk_alloc ?_ _)); exact BK403.out) hb); have n1_ := Aside0.mk (below_step (by repeat (first | (with_reducible first | exact HB.out | apply below_alloc | apply pw_below_drewN | apply below_drew1 | refine below_set ?_ GE403.out) | exact HB.out)) hb); clear BK403; clear HB; have BK403 := n0_; have HB := n1_; clear n0_ n1_; (try clear hb); (try clear hb2); (try clear hk); (try clear hi)))
  (try simp only [Act.put, List.setIfInBounds_toArray, List.set_cons_zero, List.set_cons_succ])
  go_cut [16] (fun v16 wc => ∃ (kq : Nat) (x16_2 : Bool), v16 = .bool x16_2 ∧ Aside0 (haulierlaw05_InstBack.j0 kq t404 x16_2 a0_0 a0_1 a0_2 l0_3 = some r) ∧ Aside0 (kq ≤ k) ∧ Aside0 (wc.heap[gb403]? = some (.cells #[.int .i64 a0_0, .int .i64 a0_1, .int .i64 a0_2, (.slice A0_3 l0_3.length c0_3)] 26 (0, 0))) ∧ Aside0 (Below w.heap.size w wc))
  case first =>
    have H := HC3.out
    clear HC3
    by_cases c6 : t404 = true
    · subst c6
      have H1 : (haulierlaw05_InstBack.j0 k true (decide ((l0_3.length : Int) > 100)) a0_0 a0_1 a0_2 l0_3) = some r := by rw [if_pos rfl] at H; exact H
      clear H
      have H := H1
      clear H1
      have H' := Aside0.mk H
      clear H
      have hcz7_0 : w5.cell? ⟨gb403, 0, none⟩ = some (.int .i64 a0_0) := (blk_cell BK403.out 0).trans rfl
      have hcz7_1 : w5.cell? ⟨gb403, 1, none⟩ = some (.int .i64 a0_1) := (blk_cell BK403.out 1).trans rfl
      have hcz7_2 : w5.cell? ⟨gb403, 2, none⟩ = some (.int .i64 a0_2) := (blk_cell BK403.out 2).trans rfl
      have hcz7_3 : w5.cell? ⟨gb403, 3, none⟩ = some (.slice A0_3 l0_3.length c0_3) := (blk_cell BK403.out 3).trans rfl
      have hfz7_0 := blk_frozen BK403.out 0
      have hfz7_1 := blk_frozen BK403.out 1
      have hfz7_2 := blk_frozen BK403.out 2
      have hfz7_3 := blk_frozen BK403.out 3
      go_wp2
      go_meet
      case rel => exact ⟨_, (decide ((l0_3.length : Int) > 100)), (by first | rfl | (simp; done) | (simp [*]; done)), H', ⟨by first | omega | exact Nat.le_refl _⟩, ⟨by (with_reducible repeat (first | refine blk_drewN ?_ _ | refine blk_drew ?_ | refine blk_alloc ?_ _)); exact BK403.out⟩, ⟨by repeat (first | (with_reducible first | exact HB.out | apply below_alloc | apply pw_below_drewN | apply below_drew1 | refine below_set ?_ GE403.out) | exact HB.out)⟩⟩
    · replace c6 := Bool.eq_false_iff.mpr c6
      subst c6
      have H1 : (haulierlaw05_InstBack.j0 k false true a0_0 a0_1 a0_2 l0_3) = some r := by rw [if_neg (show ¬ (false = true) by decide)] at H; exact H
      clear H
      have H := H1
      clear H1
      have H' := Aside0.mk H
      clear H
      go_wp2
      go_meet
      case rel => exact ⟨_, (true), (by first | rfl | (simp; done) | (simp [*]; done)), H', ⟨by first | omega | exact Nat.le_refl _⟩, ⟨by (with_reducible repeat (first | refine blk_drewN ?_ _ | refine blk_drew ?_ | refine blk_alloc ?_ _)); exact BK403.out⟩, ⟨by repeat (first | (with_reducible first | exact HB.out | apply below_alloc | apply pw_below_drewN | apply below_drew1 | refine below_set ?_ GE403.out) | exact HB.out)⟩⟩
  case rest =>
    clear HC3
    try clear p2
    try clear c6
    try clear hcz7_0
    try clear hcz7_1
    try clear hcz7_2
    try clear hcz7_3
    try clear hfz7_0
    try clear hfz7_1
    try clear hfz7_2
    try clear hfz7_3
    obtain ⟨kq, x16_2, rfl, HA, HJ2, BK403, HB⟩ := hcut
    cases kq with
    | zero => exact absurd HA.out (by simp [haulierlaw05_InstBack.j0])
    | succ kj2 =>
      have H := HA.out
      clear HA
      simp only [haulierlaw05_InstBack.j0] at H
      by_cases c8 : x16_2 = true
      · subst c8
        have H1 : (some t404) = some r := by rw [if_pos rfl] at H; exact H
        clear H
        have H := H1
        clear H1
        obtain rfl := Option.some.inj H
        go_wp2
        go_ret
        exact ⟨by first | rfl | (simp [errW_none, errW_some] <;> rfl) | (simp [*, errW_none, errW_some] <;> rfl), by repeat (first | (with_reducible first | exact HB.out | apply below_alloc | apply pw_below_drewN | apply below_drew1 | refine below_set ?_ GE403.out) | exact HB.out)⟩
      · replace c8 := Bool.eq_false_iff.mpr c8
        subst c8
        have H1 : ((inst_Print.f kj2 a0_0 a0_1 a0_2 l0_3).bind fun bt405 => (if bt405.2 = 0 then ((inst_Parse.f kj2 bt405.1).bind fun bt409 => (if bt409.2.2.2.2 = 0 then ((inst_Same.f kj2 a0_0 a0_1 a0_2 l0_3 bt409.1 bt409.2.1 bt409.2.2.1 bt409.2.2.2.1).bind fun t417 => (if t417 = true then ((inst_May.f kj2 a0_0 a0_1 a0_2 l0_3).bind fun t418 => (some t418)) else (none))) else (none))) else (if (bt405.1.length : Int) = 0 then ((inst_May.f kj2 a0_0 a0_1 a0_2 l0_3).bind fun t419 => (some (!t419))) else (none)))) = some r := by rw [if_neg (show ¬ (false = true) by decide)] at H; exact H
        clear H
        have H := H1
        clear H1
        replace H := Option.bind_eq_some_iff.mp H
        obtain ⟨⟨t405, t408⟩, A90, H⟩ := H
        replace H : (if t408 = 0 then ((inst_Parse.f kj2 t405).bind fun bt409 => (if bt409.2.2.2.2 = 0 then ((inst_Same.f kj2 a0_0 a0_1 a0_2 l0_3 bt409.1 bt409.2.1 bt409.2.2.1 bt409.2.2.2.1).bind fun t417 => (if t417 = true then ((inst_May.f kj2 a0_0 a0_1 a0_2 l0_3).bind fun t418 => (some t418)) else (none))) else (none))) else (if (t405.length : Int) = 0 then ((inst_May.f kj2 a0_0 a0_1 a0_2 l0_3).bind fun t419 => (some (!t419))) else (none))) = some r := H
        have A9 := Aside0.mk A90
        clear A90
        by_cases c10 : t408 = 0
        · rw [if_pos c10] at H
          have c10b0 : (t408 == 0) = true := beq_iff_eq.mpr c10
          have c10b1 : (t408 != 0) = false := bne_eq_false_iff_eq.mpr c10
          clear c10
          replace H := Option.bind_eq_some_iff.mp H
          obtain ⟨⟨t409, t410, t411, t412, t415⟩, A110, H⟩ := H
          replace H : (if t415 = 0 then ((inst_Same.f kj2 a0_0 a0_1 a0_2 l0_3 t409 t410 t411 t412).bind fun t417 => (if t417 = true then ((inst_May.f kj2 a0_0 a0_1 a0_2 l0_3).bind fun t418 => (some t418)) else (none))) else (none)) = some r := H
          have A11 := Aside0.mk A110
          clear A110
          by_cases c12 : t415 = 0
          · rw [if_pos c12] at H
            have c12b0 : (t415 == 0) = true := beq_iff_eq.mpr c12
            have c12b1 : (t415 != 0) = false := bne_eq_false_iff_eq.mpr c12
            clear c12
            replace H := Option.bind_eq_some_iff.mp H
            obtain ⟨t417, A130, H⟩ := H
            replace H : (if t417 = true then ((inst_May.f kj2 a0_0 a0_1 a0_2 l0_3).bind fun t418 => (some t418)) else (none)) = some r := H
            have A13 := Aside0.mk A130
            clear A130
            by_cases c14 : t417 = true
            · subst c14
              have H1 : ((inst_May.f kj2 a0_0 a0_1 a0_2 l0_3).bind fun t418 => (some t418)) = some r := by rw [if_pos rfl] at H; exact H
              clear H
              have H := H1
              clear H1
              replace H := Option.bind_eq_some_iff.mp H
              obtain ⟨t418, A150, H⟩ := H
              replace H : (some t418) = some r := H
              have A15 := Aside0.mk A150
              clear A150
              obtain rfl := Option.some.inj H
              have hcz16_0 : wc.cell? ⟨gb403, 0, none⟩ = some (.int .i64 a0_0) := (blk_cell BK403.out 0).trans rfl
              have hcz16_1 : wc.cell? ⟨gb403, 1, none⟩ = some (.int .i64 a0_1) := (blk_cell BK403.out 1).trans rfl
              have hcz16_2 : wc.cell? ⟨gb403, 2, none⟩ = some (.int .i64 a0_2) := (blk_cell BK403.out 2).trans rfl
              have hcz16_3 : wc.cell? ⟨gb403, 3, none⟩ = some (.slice A0_3 l0_3.length c0_3) := (blk_cell BK403.out 3).trans rfl
              have hfz16_0 := blk_frozen BK403.out 0
              have hfz16_1 := blk_frozen BK403.out 1
              have hfz16_2 := blk_frozen BK403.out 2
              have hfz16_3 := blk_frozen BK403.out 3
              go_wp2_with (first | ((with_reducible refine gate_callee (f := 14) rfl ?_); refine goesL_ (some 20) rfl rfl Tryd.func14 (by kernel_rfl) rfl #[.agg #[.int .i64 a0_0, .int .i64 a0_1, .int .i64 a0_2, .slice A0_3 l0_3.length c0_3]] rfl (by (try simp only [List.map_toArray, List.map_cons, List.map_nil]); first | done | rfl | (simp only [List.length_drop, List.length_take]; rfl)) ?_; (with_reducible refine (inst_Print.calls kj2 a0_0 a0_1 a0_2 _ _ l0_3 t405 t408 _ ?side1 ?side2 A9.out ?tab).mono ?_); (case tab => exact HT.out.on (by repeat (first | (with_reducible first | exact HB.out | apply below_alloc | apply pw_below_drewN | apply below_drew1 | refine below_set ?_ GE403.out | refine below_set ?_ GE416.out) | exact HB.out))); (case side1 => repeat (first | exact (Kd.C_below HR0_3.out HB.out) | (with_reducible refine Kd.C_alloc ?_ _) | (with_reducible refine Kd.C_drewN ?_ _) | (with_reducible refine Kd.C_drew ?_))); (case side2 => exact HC0_3.out); rintro e w17 ⟨v406, rfl, ho0, hb⟩; refine ⟨_, rfl, ?_⟩; have n0_ := Aside0.mk (Kd.R_lower ho0 (below_size (by repeat (first | (with_reducible first | exact HB.out | apply below_alloc | apply pw_below_drewN | apply below_drew1 | refine below_set ?_ GE403.out) | exact HB.out)))); have n1_ := Aside0.mk (blk_below (g := gb403) (o := .cells #[.int .i64 a0_0, .int .i64 a0_1, .int .i64 a0_2, .slice A0_3 l0_3.length c0_3] 26 (0, 0)) (by (with_reducible repeat (first | refine blk_drewN ?_ _ | refine blk_drew ?_ | refine blk_alloc ?_ _)); exact BK403.out) hb); have n2_ := Aside0.mk (below_step (by repeat (first | (with_reducible first | exact HB.out | apply below_alloc | apply pw_below_drewN | apply below_drew1 | refine below_set ?_ GE403.out) | exact HB.out)) hb); clear BK403; clear HB; have HO407 := n0_; have BK403 := n1_; have HB := n2_; clear n0_ n1_ n2_; (try clear hb); (try clear hb2); (try clear hk); (try clear hi); (try clear ho0); obtain ⟨Ao18, co18, eo18⟩ := Kd.R_slice HO407.out; subst eo18) | ((with_reducible refine gate_callee (f := 10) rfl ?_); refine goesL_ (some 35) rfl rfl Tryd.func10 (by kernel_rfl) rfl #[.slice Ao18 t405.length co18] rfl (by (try simp only [List.map_toArray, List.map_cons, List.map_nil]); first | done | rfl | (simp only [List.length_drop, List.length_take]; rfl)) ?_; (with_reducible refine (inst_Parse.calls kj2 _ _ t405 t409 t410 t411 t412 t415 _ ?side1 ?side2 A11.out).mono ?_); (case side1 => repeat (first | exact (Kd.R_reads' HO407.out).2.2 | (with_reducible refine Kd.C_alloc ?_ _) | (with_reducible refine Kd.C_drewN ?_ _) | (with_reducible refine Kd.C_drew ?_))); (case side2 => exact (Kd.R_reads' HO407.out).2.1); rintro e w19 ⟨v413, rfl, ho0, hb⟩; refine ⟨_, rfl, ?_⟩; have n0_ := Aside0.mk (Kd.R_below (by (with_reducible repeat (first | apply Kd.R_alloc | apply Kd.R_drewN | apply Kd.R_drew)); exact HO407.out) hb); have n1_ := Aside0.mk (Kd.R_lower ho0 (below_size (by repeat (first | (with_reducible first | exact HB.out | apply below_alloc | apply pw_below_drewN | apply below_drew1 | refine below_set ?_ GE403.out) | exact HB.out)))); have n2_ := Aside0.mk (blk_below (g := gb403) (o := .cells #[.int .i64 a0_0, .int .i64 a0_1, .int .i64 a0_2, .slice A0_3 l0_3.length c0_3] 26 (0, 0)) (by (with_reducible repeat (first | refine blk_drewN ?_ _ | refine blk_drew ?_ | refine blk_alloc ?_ _)); exact BK403.out) hb); have n3_ := Aside0.mk (below_step (by repeat (first | (with_reducible first | exact HB.out | apply below_alloc | apply pw_below_drewN | apply below_drew1 | refine below_set ?_ GE403.out) | exact HB.out)) hb); clear HO407; clear BK403; clear HB; have HO407 := n0_; have HO414 := n1_; have BK403 := n2_; have HB := n3_; clear n0_ n1_ n2_ n3_; (try clear hb); (try clear hb2); (try clear hk); (try clear hi); (try clear ho0)) | ((with_reducible refine gate_dst (N := 6) rfl ?_); (try (refine gate_guard (by rfl) ?_; dsimp only)); refine box_event ?hg (N := 6) ?hd (cs := #[.int .i64 0, .int .i64 0, .int .i64 0, .slice none 0 0]) (t := 26) ?hr ?_; (case hd => rfl); (case hg => rfl); (case hr => first | (go_simp; done) | (go_simp; rfl)); intro gb416 hg w20 hbox hb; have n0_ := Aside0.mk (Kd.R_below (by (with_reducible repeat (first | apply Kd.R_alloc | apply Kd.R_drewN | apply Kd.R_drew)); exact HO407.out) hb); have n1_ := Aside0.mk (Kd.R_below (by (with_reducible repeat (first | apply Kd.R_alloc | apply Kd.R_drewN | apply Kd.R_drew)); exact HO414.out) hb); have n2_ := Aside0.mk (blk_below (g := gb403) (o := .cells #[.int .i64 a0_0, .int .i64 a0_1, .int .i64 a0_2, .slice A0_3 l0_3.length c0_3] 26 (0, 0)) (by (with_reducible repeat (first | refine blk_drewN ?_ _ | refine blk_drew ?_ | refine blk_alloc ?_ _)); exact BK403.out) hb); have n3_ := Aside0.mk (below_step (by repeat (first | (with_reducible first | exact HB.out | apply below_alloc | apply pw_below_drewN | apply below_drew1 | refine below_set ?_ GE403.out) | exact HB.out)) hb); have n4_ := Aside0.mk (hbox); have n5_ := Aside0.mk ((by rw [hg]; exact (below_size (by repeat (first | (with_reducible first | exact HB.out | apply below_alloc | apply pw_below_drewN | apply below_drew1 | refine below_set ?_ GE403.out) | exact HB.out))) : w.heap.size ≤ gb416)); have n6_ := Aside0.mk ((by rw [hg]; exact (below_size (by repeat (first | (with_reducible first | exact HB.out | apply below_alloc | apply pw_below_drewN | apply below_drew1 | refine below_set ?_ GE403.out) | exact HB.out))) : w.heap.size ≤ gb416)); have n7_ := Aside0.mk ((by rw [hg]; exact Nat.ne_of_lt (blk_lt (g := gb403) (o := .cells #[.int .i64 a0_0, .int .i64 a0_1, .int .i64 a0_2, .slice A0_3 l0_3.length c0_3] 26 (0, 0)) (by (with_reducible repeat (first | refine blk_drewN ?_ _ | refine blk_drew ?_ | refine blk_alloc ?_ _)); exact BK403.out)) : gb403 ≠ gb416)); have n8_ := Aside0.mk ((by rw [hg]; exact Nat.ne_of_gt (blk_lt (g := gb403) (o := .cells #[.int .i64 a0_0, .int .i64 a0_1, .int .i64 a0_2, .slice A0_3 l0_3.length c0_3] 26 (0, 0)) (by (with_reducible repeat (first | refine blk_drewN ?_ _ | refine blk_drew ?_ | refine blk_alloc ?_ _)); exact BK403.out)) : gb416 ≠ gb403)); clear HO407; clear HO414; clear BK403; clear HB; have HO407 := n0_; have HO414 := n1_; have BK403 := n2_; have HB := n3_; have BK416 := n4_; have GW416 := n5_; have GE416 := n6_; have NB403_416 := n7_; have NB416_403 := n8_; clear n0_ n1_ n2_ n3_ n4_ n5_ n6_ n7_ n8_; clear hb hbox hg; have hnb21 := NB416_403.out; have hnc21 := NB403_416.out; have hcz22_0 : w20.cell? ⟨gb416, 0, none⟩ = some (.int .i64 0) := (blk_cell BK416.out 0).trans rfl; have hcz22_1 : w20.cell? ⟨gb416, 1, none⟩ = some (.int .i64 0) := (blk_cell BK416.out 1).trans rfl; have hcz22_2 : w20.cell? ⟨gb416, 2, none⟩ = some (.int .i64 0) := (blk_cell BK416.out 2).trans rfl; have hcz22_3 : w20.cell? ⟨gb416, 3, none⟩ = some (.slice none 0 0) := (blk_cell BK416.out 3).trans rfl; have hfz22_0 := blk_frozen BK416.out 0; have hfz22_1 := blk_frozen BK416.out 1; have hfz22_2 := blk_frozen BK416.out 2; have hfz22_3 := blk_frozen BK416.out 3; obtain ⟨Ao23, co23, eo23⟩ := Kd.R_slice HO414.out; subst eo23; have hcz24_0 : w20.cell? ⟨gb403, 0, none⟩ = some (.int .i64 a0_0) := (blk_cell BK403.out 0).trans rfl; have hcz24_1 : w20.cell? ⟨gb403, 1, none⟩ = some (.int .i64 a0_1) := (blk_cell BK403.out 1).trans rfl; have hcz24_2 : w20.cell? ⟨gb403, 2, none⟩ = some (.int .i64 a0_2) := (blk_cell BK403.out 2).trans rfl; have hcz24_3 : w20.cell? ⟨gb403, 3, none⟩ = some (.slice A0_3 l0_3.length c0_3) := (blk_cell BK403.out 3).trans rfl; have hfz24_0 := blk_frozen BK403.out 0; have hfz24_1 := blk_frozen BK403.out 1; have hfz24_2 := blk_frozen BK403.out 2; have hfz24_3 := blk_frozen BK403.out 3) | (go_at_call 17; (with_reducible refine (inst_Same.calls kj2 a0_0 a0_1 a0_2 _ _ l0_3 t409 t410 t411 _ _ t412 true _ ?side1 ?side2 ?side3 ?side4 A13.out).mono ?_); (case side1 => exact Kd.C_below HR0_3.out (by repeat (first | (with_reducible first | exact HB.out | apply below_alloc | apply pw_below_drewN | apply below_drew1 | refine below_set ?_ GE403.out | refine below_set ?_ GE416.out) | exact HB.out))); (case side2 => exact HC0_3.out); (case side3 => refine (Kd.R_reads' (e := 34) (base := w.heap.size) (ok := fun k_ => True) (n := t412.length) (c := co23) ?_).2.2; exact (by (with_reducible repeat (first | apply Kd.R_alloc | apply Kd.R_drewN | apply Kd.R_drew)); exact (Kd.R_mono (Kd.R_far (p := ⟨gb416, 3, none⟩) (Kd.R_far (p := ⟨gb416, 2, none⟩) (Kd.R_far (p := ⟨gb416, 1, none⟩) (Kd.R_far (p := ⟨gb416, 0, none⟩) (Kd.R_types HO414.out BK416.out (by decide)) (fun _ hk => hk.2) (.int .i64 t409)) (fun _ hk => hk.2) (.int .i64 t410)) (fun _ hk => hk.2) (.int .i64 t411)) (fun _ hk => hk.2) (.slice Ao23 t412.length co23)) (fun _ h_ => h_.1)))); (case side4 => exact (Kd.R_reads' HO414.out).2.1); rintro e w25 ⟨rfl, hb⟩; have n0_ := Aside0.mk (Kd.R_below (by (with_reducible repeat (first | apply Kd.R_alloc | apply Kd.R_drewN | apply Kd.R_drew)); exact (Kd.R_mono (Kd.R_far (p := ⟨gb416, 3, none⟩) (Kd.R_far (p := ⟨gb416, 2, none⟩) (Kd.R_far (p := ⟨gb416, 1, none⟩) (Kd.R_far (p := ⟨gb416, 0, none⟩) (Kd.R_types HO407.out BK416.out (by decide)) (fun _ hk => hk.2) (.int .i64 t409)) (fun _ hk => hk.2) (.int .i64 t410)) (fun _ hk => hk.2) (.int .i64 t411)) (fun _ hk => hk.2) (.slice Ao23 t412.length co23)) (fun _ h_ => h_.1))) hb); have n1_ := Aside0.mk (Kd.R_below (by (with_reducible repeat (first | apply Kd.R_alloc | apply Kd.R_drewN | apply Kd.R_drew)); exact (Kd.R_mono (Kd.R_far (p := ⟨gb416, 3, none⟩) (Kd.R_far (p := ⟨gb416, 2, none⟩) (Kd.R_far (p := ⟨gb416, 1, none⟩) (Kd.R_far (p := ⟨gb416, 0, none⟩) (Kd.R_types HO414.out BK416.out (by decide)) (fun _ hk => hk.2) (.int .i64 t409)) (fun _ hk => hk.2) (.int .i64 t410)) (fun _ hk => hk.2) (.int .i64 t411)) (fun _ hk => hk.2) (.slice Ao23 t412.length co23)) (fun _ h_ => h_.1))) hb); have n2_ := Aside0.mk (blk_below (g := gb403) (o := .cells #[.int .i64 a0_0, .int .i64 a0_1, .int .i64 a0_2, .slice A0_3 l0_3.length c0_3] 26 (0, 0)) (by (with_reducible repeat (first | refine blk_drewN ?_ _ | refine blk_drew ?_ | refine blk_alloc ?_ _)); refine blk_far ?_ NB403_416.out _; (with_reducible repeat (first | refine blk_drewN ?_ _ | refine blk_drew ?_ | refine blk_alloc ?_ _)); refine blk_far ?_ NB403_416.out _; (with_reducible repeat (first | refine blk_drewN ?_ _ | refine blk_drew ?_ | refine blk_alloc ?_ _)); refine blk_far ?_ NB403_416.out _; (with_reducible repeat (first | refine blk_drewN ?_ _ | refine blk_drew ?_ | refine blk_alloc ?_ _)); refine blk_far ?_ NB403_416.out _; (with_reducible repeat (first | refine blk_drewN ?_ _ | refine blk_drew ?_ | refine blk_alloc ?_ _)); exact BK403.out) hb); have n3_ := Aside0.mk (blk_below (g := gb416) (o := .cells #[.int .i64 t409, .int .i64 t410, .int .i64 t411, .slice Ao23 t412.length co23] 26 (0, 0)) (by (with_reducible repeat (first | refine blk_drewN ?_ _ | refine blk_drew ?_ | refine blk_alloc ?_ _)); refine blk_put (cs := #[.int .i64 t409, .int .i64 t410, .int .i64 t411, .slice none 0 0]) ?_ 3 _ rfl; (with_reducible repeat (first | refine blk_drewN ?_ _ | refine blk_drew ?_ | refine blk_alloc ?_ _)); refine blk_put (cs := #[.int .i64 t409, .int .i64 t410, .int .i64 0, .slice none 0 0]) ?_ 2 _ rfl; (with_reducible repeat (first | refine blk_drewN ?_ _ | refine blk_drew ?_ | refine blk_alloc ?_ _)); refine blk_put (cs := #[.int .i64 t409, .int .i64 0, .int .i64 0, .slice none 0 0]) ?_ 1 _ rfl; (with_reducible repeat (first | refine blk_drewN ?_ _ | refine blk_drew ?_ | refine blk_alloc ?_ _)); refine blk_put (cs := #[.int .i64 0, .int .i64 0, .int .i64 0, .slice none 0 0]) ?_ 0 _ rfl; (with_reducible repeat (first | refine blk_drewN ?_ _ | refine blk_drew ?_ | refine blk_alloc ?_ _)); exact BK416.out) hb); have n4_ := Aside0.mk (below_step (by repeat (first | (with_reducible first | exact HB.out | apply below_alloc | apply pw_below_drewN | apply below_drew1 | refine below_set ?_ GE403.out | refine below_set ?_ GE416.out) | exact HB.out)) hb); clear HO407; clear HO414; clear BK403; clear BK416; clear HB; have HO407 := n0_; have HO414 := n1_; have BK403 := n2_; have BK416 := n3_; have HB := n4_; clear n0_ n1_ n2_ n3_ n4_; (try clear hb); (try clear hb2); (try clear hk); (try clear hi); have hcz26_0 : w25.cell? ⟨gb403, 0, none⟩ = some (.int .i64 a0_0) := (blk_cell BK403.out 0).trans rfl; have hcz26_1 : w25.cell? ⟨gb403, 1, none⟩ = some (.int .i64 a0_1) := (blk_cell BK403.out 1).trans rfl; have hcz26_2 : w25.cell? ⟨gb403, 2, none⟩ = some (.int .i64 a0_2) := (blk_cell BK403.out 2).trans rfl; have hcz26_3 : w25.cell? ⟨gb403, 3, none⟩ = some (.slice A0_3 l0_3.length c0_3) := (blk_cell BK403.out 3).trans rfl; have hfz26_0 := blk_frozen BK403.out 0; have hfz26_1 := blk_frozen BK403.out 1; have hfz26_2 := blk_frozen BK403.out 2; have hfz26_3 := blk_frozen BK403.out 3) | (go_at_call 13; (with_reducible refine (inst_May.calls kj2 a0_0 a0_1 a0_2 _ _ l0_3 t418 _ ?side1 ?side2 A15.out).mono ?_); (case side1 => repeat (first | exact (Kd.C_below HR0_3.out HB.out) | (with_reducible refine Kd.C_alloc ?_ _) | (with_reducible refine Kd.C_drewN ?_ _) | (with_reducible refine Kd.C_drew ?_))); (case side2 => exact HC0_3.out); rintro e w27 ⟨rfl, hb⟩; have n0_ := Aside0.mk (Kd.R_below (by (with_reducible repeat (first | apply Kd.R_alloc | apply Kd.R_drewN | apply Kd.R_drew)); exact HO407.out) hb); have n1_ := Aside0.mk (Kd.R_below (by (with_reducible repeat (first | apply Kd.R_alloc | apply Kd.R_drewN | apply Kd.R_drew)); exact HO414.out) hb); have n2_ := Aside0.mk (blk_below (g := gb403) (o := .cells #[.int .i64 a0_0, .int .i64 a0_1, .int .i64 a0_2, .slice A0_3 l0_3.length c0_3] 26 (0, 0)) (by (with_reducible repeat (first | refine blk_drewN ?_ _ | refine blk_drew ?_ | refine blk_alloc ?_ _)); exact BK403.out) hb); have n3_ := Aside0.mk (blk_below (g := gb416) (o := .cells #[.int .i64 t409, .int .i64 t410, .int .i64 t411, .slice Ao23 t412.length co23] 26 (0, 0)) (by (with_reducible repeat (first | refine blk_drewN ?_ _ | refine blk_drew ?_ | refine blk_alloc ?_ _)); exact BK416.out) hb); have n4_ := Aside0.mk (below_step (by repeat (first | (with_reducible first | exact HB.out | apply below_alloc | apply pw_below_drewN | apply below_drew1 | refine below_set ?_ GE403.out | refine below_set ?_ GE416.out) | exact HB.out)) hb); clear HO407; clear HO414; clear BK403; clear BK416; clear HB; have HO407 := n0_; have HO414 := n1_; have BK403 := n2_; have BK416 := n3_; have HB := n4_; clear n0_ n1_ n2_ n3_ n4_; (try clear hb); (try clear hb2); (try clear hk); (try clear hi)))
              go_ret
              exact ⟨by first | rfl | (simp [errW_none, errW_some] <;> rfl) | (simp [*, errW_none, errW_some] <;> rfl), by repeat (first | (with_reducible first | exact HB.out | apply below_alloc | apply pw_below_drewN | apply below_drew1 | refine below_set ?_ GE403.out | refine below_set ?_ GE416.out) | exact HB.out)⟩
            · replace c14 := Bool.eq_false_iff.mpr c14
              subst c14
              have H1 : (none) = some r := by rw [if_neg (show ¬ (false = true) by decide)] at H; exact H
              clear H
              have H := H1
              clear H1
              exact absurd H (by simp)
          · rw [if_neg c12] at H
            exact absurd H (by simp)
        · rw [if_neg c10] at H
          have c10b0 : (t408 == 0) = false := beq_eq_false_iff_ne.mpr c10
          have c10b1 : (t408 != 0) = true := bne_iff_ne.mpr c10
          by_cases c28 : (t405.length : Int) = 0
          · rw [if_pos c28] at H
            have c28b0 : ((t405.length : Int) == 0) = true := beq_iff_eq.mpr c28
            have c28b1 : ((t405.length : Int) != 0) = false := bne_eq_false_iff_eq.mpr c28
            clear c28
            replace H := Option.bind_eq_some_iff.mp H
            obtain ⟨t419, A290, H⟩ := H
            replace H : (some (!t419)) = some r := H
            have A29 := Aside0.mk A290
            clear A290
            obtain rfl := Option.some.inj H
            have hcz30_0 : wc.cell? ⟨gb403, 0, none⟩ = some (.int .i64 a0_0) := (blk_cell BK403.out 0).trans rfl
            have hcz30_1 : wc.cell? ⟨gb403, 1, none⟩ = some (.int .i64 a0_1) := (blk_cell BK403.out 1).trans rfl
            have hcz30_2 : wc.cell? ⟨gb403, 2, none⟩ = some (.int .i64 a0_2) := (blk_cell BK403.out 2).trans rfl
            have hcz30_3 : wc.cell? ⟨gb403, 3, none⟩ = some (.slice A0_3 l0_3.length c0_3) := (blk_cell BK403.out 3).trans rfl
            have hfz30_0 := blk_frozen BK403.out 0
            have hfz30_1 := blk_frozen BK403.out 1
            have hfz30_2 := blk_frozen BK403.out 2
            have hfz30_3 := blk_frozen BK403.out 3
            go_wp2_with (first | ((with_reducible refine gate_callee (f := 14) rfl ?_); refine goesL_ (some 20) rfl rfl Tryd.func14 (by kernel_rfl) rfl #[.agg #[.int .i64 a0_0, .int .i64 a0_1, .int .i64 a0_2, .slice A0_3 l0_3.length c0_3]] rfl (by (try simp only [List.map_toArray, List.map_cons, List.map_nil]); first | done | rfl | (simp only [List.length_drop, List.length_take]; rfl)) ?_; (with_reducible refine (inst_Print.calls kj2 a0_0 a0_1 a0_2 _ _ l0_3 t405 t408 _ ?side1 ?side2 A9.out ?tab).mono ?_); (case tab => exact HT.out.on (by repeat (first | (with_reducible first | exact HB.out | apply below_alloc | apply pw_below_drewN | apply below_drew1 | refine below_set ?_ GE403.out | refine below_set ?_ GE416.out) | exact HB.out))); (case side1 => repeat (first | exact (Kd.C_below HR0_3.out HB.out) | (with_reducible refine Kd.C_alloc ?_ _) | (with_reducible refine Kd.C_drewN ?_ _) | (with_reducible refine Kd.C_drew ?_))); (case side2 => exact HC0_3.out); rintro e w31 ⟨v406, rfl, ho0, hb⟩; refine ⟨_, rfl, ?_⟩; have n0_ := Aside0.mk (Kd.R_lower ho0 (below_size (by repeat (first | (with_reducible first | exact HB.out | apply below_alloc | apply pw_below_drewN | apply below_drew1 | refine below_set ?_ GE403.out) | exact HB.out)))); have n1_ := Aside0.mk (blk_below (g := gb403) (o := .cells #[.int .i64 a0_0, .int .i64 a0_1, .int .i64 a0_2, .slice A0_3 l0_3.length c0_3] 26 (0, 0)) (by (with_reducible repeat (first | refine blk_drewN ?_ _ | refine blk_drew ?_ | refine blk_alloc ?_ _)); exact BK403.out) hb); have n2_ := Aside0.mk (below_step (by repeat (first | (with_reducible first | exact HB.out | apply below_alloc | apply pw_below_drewN | apply below_drew1 | refine below_set ?_ GE403.out) | exact HB.out)) hb); clear BK403; clear HB; have HO407 := n0_; have BK403 := n1_; have HB := n2_; clear n0_ n1_ n2_; (try clear hb); (try clear hb2); (try clear hk); (try clear hi); (try clear ho0); obtain ⟨Ao32, co32, eo32⟩ := Kd.R_slice HO407.out; subst eo32; have hcz33_0 : w31.cell? ⟨gb403, 0, none⟩ = some (.int .i64 a0_0) := (blk_cell BK403.out 0).trans rfl; have hcz33_1 : w31.cell? ⟨gb403, 1, none⟩ = some (.int .i64 a0_1) := (blk_cell BK403.out 1).trans rfl; have hcz33_2 : w31.cell? ⟨gb403, 2, none⟩ = some (.int .i64 a0_2) := (blk_cell BK403.out 2).trans rfl; have hcz33_3 : w31.cell? ⟨gb403, 3, none⟩ = some (.slice A0_3 l0_3.length c0_3) := (blk_cell BK403.out 3).trans rfl; have hfz33_0 := blk_frozen BK403.out 0; have hfz33_1 := blk_frozen BK403.out 1; have hfz33_2 := blk_frozen BK403.out 2; have hfz33_3 := blk_frozen BK403.out 3) | (go_at_call 13; (with_reducible refine (inst_May.calls kj2 a0_0 a0_1 a0_2 _ _ l0_3 t419 _ ?side1 ?side2 A29.out).mono ?_); (case side1 => repeat (first | exact (Kd.C_below HR0_3.out HB.out) | (with_reducible refine Kd.C_alloc ?_ _) | (with_reducible refine Kd.C_drewN ?_ _) | (with_reducible refine Kd.C_drew ?_))); (case side2 => exact HC0_3.out); rintro e w34 ⟨rfl, hb⟩; have n0_ := Aside0.mk (Kd.R_below (by (with_reducible repeat (first | apply Kd.R_alloc | apply Kd.R_drewN | apply Kd.R_drew)); exact HO407.out) hb); have n1_ := Aside0.mk (blk_below (g := gb403) (o := .cells #[.int .i64 a0_0, .int .i64 a0_1, .int .i64 a0_2, .slice A0_3 l0_3.length c0_3] 26 (0, 0)) (by (with_reducible repeat (first | refine blk_drewN ?_ _ | refine blk_drew ?_ | refine blk_alloc ?_ _)); exact BK403.out) hb); have n2_ := Aside0.mk (below_step (by repeat (first | (with_reducible first | exact HB.out | apply below_alloc | apply pw_below_drewN | apply below_drew1 | refine below_set ?_ GE403.out) | exact HB.out)) hb); clear HO407; clear BK403; clear HB; have HO407 := n0_; have BK403 := n1_; have HB := n2_; clear n0_ n1_ n2_; (try clear hb); (try clear hb2); (try clear hk); (try clear hi)))
            go_ret
            exact ⟨by first | rfl | (simp [errW_none, errW_some] <;> rfl) | (simp [*, errW_none, errW_some] <;> rfl), by repeat (first | (with_reducible first | exact HB.out | apply below_alloc | apply pw_below_drewN | apply below_drew1 | refine below_set ?_ GE403.out) | exact HB.out)⟩
          · rw [if_neg c28] at H
            exact absurd H (by simp)

/-! ### haulierlaw05_InstAgain: function 7 -/
def haulierlaw05_InstAgain.j0 : Nat → List Int → Bool → Bool → Option (Bool)
  | 0, _, _, _ => none
  | k + 1, x0, x3, x19 => if x19 = true then (some x3) else ((inst_Parse.f k x0).bind fun bt421 => (if bt421.2.2.2.2 = 0 then ((inst_Print.f k bt421.1 bt421.2.1 bt421.2.2.1 bt421.2.2.2.1).bind fun bt429 => ((inst_Parse.f k bt429.1).bind fun bt433 => ((inst_Print.f k bt433.1 bt433.2.1 bt433.2.2.1 bt433.2.2.2.1).bind fun bt441 => ((inst_May.f k bt421.1 bt421.2.1 bt421.2.2.1 bt421.2.2.2.1).bind fun t445 => (if t445 = true then (if bt429.2 = 0 then (if bt433.2.2.2.2 = 0 then (if bt441.2 = 0 then ((inst_Same.f k bt421.1 bt421.2.1 bt421.2.2.1 bt421.2.2.2.1 bt433.1 bt433.2.1 bt433.2.2.1 bt433.2.2.2.1).bind fun t446 => (if t446 = true then (some ((strOfNums bt429.1).toList == (strOfNums bt441.1).toList)) else (none))) else (none)) else (none)) else (none)) else (none)))))) else (if bt421.1 = 0 then (some ((bt421.2.2.2.1.length : Int) == 0)) else (none))))
def haulierlaw05_InstAgain.f (k : Nat) (l0 : List Int) : Option (Bool) := (haulierlaw05_awake.f k).bind fun t420 => (if t420 = true then (haulierlaw05_InstAgain.j0 k l0 t420 (decide ((l0.length : Int) > 6000))) else (haulierlaw05_InstAgain.j0 k l0 t420 true))
theorem haulierlaw05_InstAgain.mono_l : ∀ k, (∀ y0 y1 y2, LeO (haulierlaw05_InstAgain.j0 k y0 y1 y2) (haulierlaw05_InstAgain.j0 (k + 1) y0 y1 y2))
  | 0 => fun _ _ _ r h => by simp [haulierlaw05_InstAgain.j0] at h
  | k + 1 => by
    have ih0 := haulierlaw05_InstAgain.mono_l k
    · intro y0 y1 y2
      unfold haulierlaw05_InstAgain.j0
      repeat' first
      | (with_reducible exact ih0 _ _ _)
      | (with_reducible exact haulierlaw05_awake.mono _)
      | (with_reducible exact inst_May.mono _ _ _ _ _)
      | (with_reducible exact inst_Parse.mono _ _)
      | (with_reducible exact inst_Print.mono _ _ _ _ _)
      | (with_reducible exact inst_Same.mono _ _ _ _ _ _ _ _ _)
      | (with_reducible exact LeO.refl _)
      | (with_reducible exact LeO.none _)
      | (with_reducible refine LeO.ite ?_ ?_)
      | (with_reducible refine LeO.bind ?_ (fun _ => ?_))
      | exact ih0 _ _ _
      | exact haulierlaw05_awake.mono _
      | exact inst_May.mono _ _ _ _ _
      | exact inst_Parse.mono _ _
      | exact inst_Print.mono _ _ _ _ _
      | exact inst_Same.mono _ _ _ _ _ _ _ _ _
      | exact LeO.none _
      | refine LeO.ite ?_ ?_
      | refine LeO.bind ?_ (fun _ => ?_)
theorem haulierlaw05_InstAgain.mono : ∀ a0 k, LeO (haulierlaw05_InstAgain.f k a0) (haulierlaw05_InstAgain.f (k + 1) a0) := by
  intro a0 k
  have ih0 := haulierlaw05_InstAgain.mono_l k
  unfold haulierlaw05_InstAgain.f
  repeat' first
      | (with_reducible exact ih0 _ _ _)
      | (with_reducible exact haulierlaw05_awake.mono _)
      | (with_reducible exact inst_May.mono _ _ _ _ _)
      | (with_reducible exact inst_Parse.mono _ _)
      | (with_reducible exact inst_Print.mono _ _ _ _ _)
      | (with_reducible exact inst_Same.mono _ _ _ _ _ _ _ _ _)
      | (with_reducible exact LeO.refl _)
      | (with_reducible exact LeO.none _)
      | (with_reducible refine LeO.ite ?_ ?_)
      | (with_reducible refine LeO.bind ?_ (fun _ => ?_))
      | exact ih0 _ _ _
      | exact haulierlaw05_awake.mono _
      | exact inst_May.mono _ _ _ _ _
      | exact inst_Parse.mono _ _
      | exact inst_Print.mono _ _ _ _ _
      | exact inst_Same.mono _ _ _ _ _ _ _ _ _
      | exact LeO.none _
      | refine LeO.ite ?_ ?_
      | refine LeO.bind ?_ (fun _ => ?_)
set_option maxHeartbeats 8000000 in
set_option maxRecDepth 100000 in
theorem haulierlaw05_InstAgain.calls (k : Nat) (A0 : Option Addr) (c0 : Nat) (l0 : List Int) (r : Bool) (w : World) (hr0 : Kd.C (Kd.int .u8) w A0 l0.length l0) (hc0 : l0.length ≤ c0) (h : haulierlaw05_InstAgain.f k l0 = some r) (hT : Go.Proofs.YtifekgemngfidaaDoor.Scan.NumTab w) :
    Calls Tryd.prog 7 #[.slice A0 l0.length c0] w fun e w' => e = .returned (.bool r) ∧ Below w.heap.size w w' := by
  have HT := Aside0.mk hT
  clear hT
  have hu26 := Tryd.underlying26
  have HR0 := Aside0.mk hr0
  have HC0 := Aside0.mk hc0
  clear hr0 hc0
  have HB := Aside0.mk (Below.refl w.heap.size w)
  have H : ((haulierlaw05_awake.f k).bind fun t420 => (if t420 = true then (haulierlaw05_InstAgain.j0 k l0 t420 (decide ((l0.length : Int) > 6000))) else (haulierlaw05_InstAgain.j0 k l0 t420 true))) = some r := h
  clear h
  replace H := Option.bind_eq_some_iff.mp H
  obtain ⟨t420, A20, H⟩ := H
  replace H : (if t420 = true then (haulierlaw05_InstAgain.j0 k l0 t420 (decide ((l0.length : Int) > 6000))) else (haulierlaw05_InstAgain.j0 k l0 t420 true)) = some r := H
  have A2 := Aside0.mk A20
  clear A20
  have HC3 := Aside0.mk H
  clear H
  go_enter Tryd.func7, Tryd.ntmps7
  go_upto_region 2 with (first | ((with_reducible refine gate_callee (f := 9) rfl ?_); refine goesL_ (some 12) rfl rfl Tryd.func9 (by kernel_rfl) rfl #[] rfl (by (try simp only [List.map_toArray, List.map_cons, List.map_nil]); first | done | rfl | (simp only [List.length_drop, List.length_take]; rfl)) ?_; (with_reducible refine (haulierlaw05_awake.calls k  t420 _ A2.out ?tab).mono ?_); (case tab => exact HT.out.on (by repeat (first | (with_reducible first | exact HB.out | apply below_alloc | apply pw_below_drewN | apply below_drew1 | refine below_set ?_ GE428.out | refine below_set ?_ GE440.out) | exact HB.out))); rintro e w4 ⟨rfl, hb⟩; refine ⟨_, rfl, ?_⟩; have n0_ := Aside0.mk (below_step (by repeat (first | (with_reducible first | exact HB.out | apply below_alloc | apply pw_below_drewN | apply below_drew1) | exact HB.out)) hb); clear HB; have HB := n0_; clear n0_; (try clear hb); (try clear hb2); (try clear hk); (try clear hi)))
  (try simp only [Act.put, List.setIfInBounds_toArray, List.set_cons_zero, List.set_cons_succ])
  go_cut [19] (fun v19 wc => ∃ (kq : Nat) (x19_2 : Bool), v19 = .bool x19_2 ∧ Aside0 (haulierlaw05_InstAgain.j0 kq l0 t420 x19_2 = some r) ∧ Aside0 (kq ≤ k) ∧ Aside0 (Below w.heap.size w wc))
  case first =>
    have H := HC3.out
    clear HC3
    by_cases c5 : t420 = true
    · subst c5
      have H1 : (haulierlaw05_InstAgain.j0 k l0 true (decide ((l0.length : Int) > 6000))) = some r := by rw [if_pos rfl] at H; exact H
      clear H
      have H := H1
      clear H1
      have H' := Aside0.mk H
      clear H
      go_wp2
      go_meet
      case rel => exact ⟨_, (decide ((l0.length : Int) > 6000)), (by first | rfl | (simp; done) | (simp [*]; done)), H', ⟨by first | omega | exact Nat.le_refl _⟩, ⟨by repeat (first | (with_reducible first | exact HB.out | apply below_alloc | apply pw_below_drewN | apply below_drew1) | exact HB.out)⟩⟩
    · replace c5 := Bool.eq_false_iff.mpr c5
      subst c5
      have H1 : (haulierlaw05_InstAgain.j0 k l0 false true) = some r := by rw [if_neg (show ¬ (false = true) by decide)] at H; exact H
      clear H
      have H := H1
      clear H1
      have H' := Aside0.mk H
      clear H
      go_wp2
      go_meet
      case rel => exact ⟨_, (true), (by first | rfl | (simp; done) | (simp [*]; done)), H', ⟨by first | omega | exact Nat.le_refl _⟩, ⟨by repeat (first | (with_reducible first | exact HB.out | apply below_alloc | apply pw_below_drewN | apply below_drew1) | exact HB.out)⟩⟩
  case rest =>
    clear HC3
    try clear p2
    try clear c5
    obtain ⟨kq, x19_2, rfl, HA, HJ2, HB⟩ := hcut
    cases kq with
    | zero => exact absurd HA.out (by simp [haulierlaw05_InstAgain.j0])
    | succ kj2 =>
      have H := HA.out
      clear HA
      simp only [haulierlaw05_InstAgain.j0] at H
      by_cases c6 : x19_2 = true
      · subst c6
        have H1 : (some t420) = some r := by rw [if_pos rfl] at H; exact H
        clear H
        have H := H1
        clear H1
        obtain rfl := Option.some.inj H
        go_wp2
        go_ret
        exact ⟨by first | rfl | (simp [errW_none, errW_some] <;> rfl) | (simp [*, errW_none, errW_some] <;> rfl), by repeat (first | (with_reducible first | exact HB.out | apply below_alloc | apply pw_below_drewN | apply below_drew1) | exact HB.out)⟩
      · replace c6 := Bool.eq_false_iff.mpr c6
        subst c6
        have H1 : ((inst_Parse.f kj2 l0).bind fun bt421 => (if bt421.2.2.2.2 = 0 then ((inst_Print.f kj2 bt421.1 bt421.2.1 bt421.2.2.1 bt421.2.2.2.1).bind fun bt429 => ((inst_Parse.f kj2 bt429.1).bind fun bt433 => ((inst_Print.f kj2 bt433.1 bt433.2.1 bt433.2.2.1 bt433.2.2.2.1).bind fun bt441 => ((inst_May.f kj2 bt421.1 bt421.2.1 bt421.2.2.1 bt421.2.2.2.1).bind fun t445 => (if t445 = true then (if bt429.2 = 0 then (if bt433.2.2.2.2 = 0 then (if bt441.2 = 0 then ((inst_Same.f kj2 bt421.1 bt421.2.1 bt421.2.2.1 bt421.2.2.2.1 bt433.1 bt433.2.1 bt433.2.2.1 bt433.2.2.2.1).bind fun t446 => (if t446 = true then (some ((strOfNums bt429.1).toList == (strOfNums bt441.1).toList)) else (none))) else (none)) else (none)) else (none)) else (none)))))) else (if bt421.1 = 0 then (some ((bt421.2.2.2.1.length : Int) == 0)) else (none)))) = some r := by rw [if_neg (show ¬ (false = true) by decide)] at H; exact H
        clear H
        have H := H1
        clear H1
        replace H := Option.bind_eq_some_iff.mp H
        obtain ⟨⟨t421, t422, t423, t424, t427⟩, A70, H⟩ := H
        replace H : (if t427 = 0 then ((inst_Print.f kj2 t421 t422 t423 t424).bind fun bt429 => ((inst_Parse.f kj2 bt429.1).bind fun bt433 => ((inst_Print.f kj2 bt433.1 bt433.2.1 bt433.2.2.1 bt433.2.2.2.1).bind fun bt441 => ((inst_May.f kj2 t421 t422 t423 t424).bind fun t445 => (if t445 = true then (if bt429.2 = 0 then (if bt433.2.2.2.2 = 0 then (if bt441.2 = 0 then ((inst_Same.f kj2 t421 t422 t423 t424 bt433.1 bt433.2.1 bt433.2.2.1 bt433.2.2.2.1).bind fun t446 => (if t446 = true then (some ((strOfNums bt429.1).toList == (strOfNums bt441.1).toList)) else (none))) else (none)) else (none)) else (none)) else (none)))))) else (if t421 = 0 then (some ((t424.length : Int) == 0)) else (none))) = some r := H
        have A7 := Aside0.mk A70
        clear A70
        by_cases c8 : t427 = 0
        · rw [if_pos c8] at H
          have c8b0 : (t427 == 0) = true := beq_iff_eq.mpr c8
          have c8b1 : (t427 != 0) = false := bne_eq_false_iff_eq.mpr c8
          clear c8
          replace H := Option.bind_eq_some_iff.mp H
          obtain ⟨⟨t429, t432⟩, A90, H⟩ := H
          replace H : ((inst_Parse.f kj2 t429).bind fun bt433 => ((inst_Print.f kj2 bt433.1 bt433.2.1 bt433.2.2.1 bt433.2.2.2.1).bind fun bt441 => ((inst_May.f kj2 t421 t422 t423 t424).bind fun t445 => (if t445 = true then (if t432 = 0 then (if bt433.2.2.2.2 = 0 then (if bt441.2 = 0 then ((inst_Same.f kj2 t421 t422 t423 t424 bt433.1 bt433.2.1 bt433.2.2.1 bt433.2.2.2.1).bind fun t446 => (if t446 = true then (some ((strOfNums t429).toList == (strOfNums bt441.1).toList)) else (none))) else (none)) else (none)) else (none)) else (none))))) = some r := H
          have A9 := Aside0.mk A90
          clear A90
          replace H := Option.bind_eq_some_iff.mp H
          obtain ⟨⟨t433, t434, t435, t436, t439⟩, A100, H⟩ := H
          replace H : ((inst_Print.f kj2 t433 t434 t435 t436).bind fun bt441 => ((inst_May.f kj2 t421 t422 t423 t424).bind fun t445 => (if t445 = true then (if t432 = 0 then (if t439 = 0 then (if bt441.2 = 0 then ((inst_Same.f kj2 t421 t422 t423 t424 t433 t434 t435 t436).bind fun t446 => (if t446 = true then (some ((strOfNums t429).toList == (strOfNums bt441.1).toList)) else (none))) else (none)) else (none)) else (none)) else (none)))) = some r := H
          have A10 := Aside0.mk A100
          clear A100
          replace H := Option.bind_eq_some_iff.mp H
          obtain ⟨⟨t441, t444⟩, A110, H⟩ := H
          replace H : ((inst_May.f kj2 t421 t422 t423 t424).bind fun t445 => (if t445 = true then (if t432 = 0 then (if t439 = 0 then (if t444 = 0 then ((inst_Same.f kj2 t421 t422 t423 t424 t433 t434 t435 t436).bind fun t446 => (if t446 = true then (some ((strOfNums t429).toList == (strOfNums t441).toList)) else (none))) else (none)) else (none)) else (none)) else (none))) = some r := H
          have A11 := Aside0.mk A110
          clear A110
          replace H := Option.bind_eq_some_iff.mp H
          obtain ⟨t445, A120, H⟩ := H
          replace H : (if t445 = true then (if t432 = 0 then (if t439 = 0 then (if t444 = 0 then ((inst_Same.f kj2 t421 t422 t423 t424 t433 t434 t435 t436).bind fun t446 => (if t446 = true then (some ((strOfNums t429).toList == (strOfNums t441).toList)) else (none))) else (none)) else (none)) else (none)) else (none)) = some r := H
          have A12 := Aside0.mk A120
          clear A120
          by_cases c13 : t445 = true
          · subst c13
            have H1 : (if t432 = 0 then (if t439 = 0 then (if t444 = 0 then ((inst_Same.f kj2 t421 t422 t423 t424 t433 t434 t435 t436).bind fun t446 => (if t446 = true then (some ((strOfNums t429).toList == (strOfNums t441).toList)) else (none))) else (none)) else (none)) else (none)) = some r := by rw [if_pos rfl] at H; exact H
            clear H
            have H := H1
            clear H1
            by_cases c14 : t432 = 0
            · rw [if_pos c14] at H
              have c14b0 : (t432 == 0) = true := beq_iff_eq.mpr c14
              have c14b1 : (t432 != 0) = false := bne_eq_false_iff_eq.mpr c14
              clear c14
              by_cases c15 : t439 = 0
              · rw [if_pos c15] at H
                have c15b0 : (t439 == 0) = true := beq_iff_eq.mpr c15
                have c15b1 : (t439 != 0) = false := bne_eq_false_iff_eq.mpr c15
                clear c15
                by_cases c16 : t444 = 0
                · rw [if_pos c16] at H
                  have c16b0 : (t444 == 0) = true := beq_iff_eq.mpr c16
                  have c16b1 : (t444 != 0) = false := bne_eq_false_iff_eq.mpr c16
                  clear c16
                  replace H := Option.bind_eq_some_iff.mp H
                  obtain ⟨t446, A170, H⟩ := H
                  replace H : (if t446 = true then (some ((strOfNums t429).toList == (strOfNums t441).toList)) else (none)) = some r := H
                  have A17 := Aside0.mk A170
                  clear A170
                  by_cases c18 : t446 = true
                  · subst c18
                    have H1 : (some ((strOfNums t429).toList == (strOfNums t441).toList)) = some r := by rw [if_pos rfl] at H; exact H
                    clear H
                    have H := H1
                    clear H1
                    obtain rfl := Option.some.inj H
                    go_wp2_with (first | ((with_reducible refine gate_callee (f := 10) rfl ?_); refine goesL_ (some 23) rfl rfl Tryd.func10 (by kernel_rfl) rfl #[.slice A0 l0.length c0] rfl (by (try simp only [List.map_toArray, List.map_cons, List.map_nil]); first | done | rfl | (simp only [List.length_drop, List.length_take]; rfl)) ?_; (with_reducible refine (inst_Parse.calls kj2 _ _ l0 t421 t422 t423 t424 t427 _ ?side1 ?side2 A7.out).mono ?_); (case side1 => repeat (first | exact (Kd.C_below HR0.out HB.out) | (with_reducible refine Kd.C_alloc ?_ _) | (with_reducible refine Kd.C_drewN ?_ _) | (with_reducible refine Kd.C_drew ?_))); (case side2 => exact HC0.out); rintro e w19 ⟨v425, rfl, ho0, hb⟩; refine ⟨_, rfl, ?_⟩; have n0_ := Aside0.mk (Kd.R_lower ho0 (below_size (by repeat (first | (with_reducible first | exact HB.out | apply below_alloc | apply pw_below_drewN | apply below_drew1) | exact HB.out)))); have n1_ := Aside0.mk (below_step (by repeat (first | (with_reducible first | exact HB.out | apply below_alloc | apply pw_below_drewN | apply below_drew1) | exact HB.out)) hb); clear HB; have HO426 := n0_; have HB := n1_; clear n0_ n1_; (try clear hb); (try clear hb2); (try clear hk); (try clear hi); (try clear ho0)) | ((with_reducible refine gate_dst (N := 4) rfl ?_); (try (refine gate_guard (by rfl) ?_; dsimp only)); refine box_event ?hg (N := 4) ?hd (cs := #[.int .i64 0, .int .i64 0, .int .i64 0, .slice none 0 0]) (t := 26) ?hr ?_; (case hd => rfl); (case hg => rfl); (case hr => first | (go_simp; done) | (go_simp; rfl)); intro gb428 hg w20 hbox hb; have n0_ := Aside0.mk (Kd.R_below (by (with_reducible repeat (first | apply Kd.R_alloc | apply Kd.R_drewN | apply Kd.R_drew)); exact HO426.out) hb); have n1_ := Aside0.mk (below_step (by repeat (first | (with_reducible first | exact HB.out | apply below_alloc | apply pw_below_drewN | apply below_drew1) | exact HB.out)) hb); have n2_ := Aside0.mk (hbox); have n3_ := Aside0.mk ((by rw [hg]; exact (below_size (by repeat (first | (with_reducible first | exact HB.out | apply below_alloc | apply pw_below_drewN | apply below_drew1) | exact HB.out))) : w.heap.size ≤ gb428)); have n4_ := Aside0.mk ((by rw [hg]; exact (below_size (by repeat (first | (with_reducible first | exact HB.out | apply below_alloc | apply pw_below_drewN | apply below_drew1) | exact HB.out))) : w.heap.size ≤ gb428)); clear HO426; clear HB; have HO426 := n0_; have HB := n1_; have BK428 := n2_; have GW428 := n3_; have GE428 := n4_; clear n0_ n1_ n2_ n3_ n4_; clear hb hbox hg; have hcz21_0 : w20.cell? ⟨gb428, 0, none⟩ = some (.int .i64 0) := (blk_cell BK428.out 0).trans rfl; have hcz21_1 : w20.cell? ⟨gb428, 1, none⟩ = some (.int .i64 0) := (blk_cell BK428.out 1).trans rfl; have hcz21_2 : w20.cell? ⟨gb428, 2, none⟩ = some (.int .i64 0) := (blk_cell BK428.out 2).trans rfl; have hcz21_3 : w20.cell? ⟨gb428, 3, none⟩ = some (.slice none 0 0) := (blk_cell BK428.out 3).trans rfl; have hfz21_0 := blk_frozen BK428.out 0; have hfz21_1 := blk_frozen BK428.out 1; have hfz21_2 := blk_frozen BK428.out 2; have hfz21_3 := blk_frozen BK428.out 3; obtain ⟨Ao22, co22, eo22⟩ := Kd.R_slice HO426.out; subst eo22) | ((with_reducible refine gate_callee (f := 14) rfl ?_); refine goesL_ (some 39) rfl rfl Tryd.func14 (by kernel_rfl) rfl #[.agg #[.int .i64 t421, .int .i64 t422, .int .i64 t423, .slice Ao22 t424.length co22]] rfl (by (try simp only [List.map_toArray, List.map_cons, List.map_nil]); first | done | rfl | (simp only [List.length_drop, List.length_take]; rfl)) ?_; (with_reducible refine (inst_Print.calls kj2 t421 t422 t423 _ _ t424 t429 t432 _ ?side1 ?side2 A9.out ?tab).mono ?_); (case tab => exact HT.out.on (by repeat (first | (with_reducible first | exact HB.out | apply below_alloc | apply pw_below_drewN | apply below_drew1 | refine below_set ?_ GE428.out | refine below_set ?_ GE440.out) | exact HB.out))); (case side1 => refine (Kd.R_reads' (e := 34) (base := w.heap.size) (ok := fun k_ => True) (n := t424.length) (c := co22) ?_).2.2; exact (by (with_reducible repeat (first | apply Kd.R_alloc | apply Kd.R_drewN | apply Kd.R_drew)); exact (Kd.R_mono (Kd.R_far (p := ⟨gb428, 3, none⟩) (Kd.R_far (p := ⟨gb428, 2, none⟩) (Kd.R_far (p := ⟨gb428, 1, none⟩) (Kd.R_far (p := ⟨gb428, 0, none⟩) (Kd.R_types HO426.out BK428.out (by decide)) (fun _ hk => hk.2) (.int .i64 t421)) (fun _ hk => hk.2) (.int .i64 t422)) (fun _ hk => hk.2) (.int .i64 t423)) (fun _ hk => hk.2) (.slice Ao22 t424.length co22)) (fun _ h_ => h_.1)))); (case side2 => exact (Kd.R_reads' HO426.out).2.1); rintro e w23 ⟨v430, rfl, ho0, hb⟩; refine ⟨_, rfl, ?_⟩; have n0_ := Aside0.mk (Kd.R_below (by (with_reducible repeat (first | apply Kd.R_alloc | apply Kd.R_drewN | apply Kd.R_drew)); exact (Kd.R_mono (Kd.R_far (p := ⟨gb428, 3, none⟩) (Kd.R_far (p := ⟨gb428, 2, none⟩) (Kd.R_far (p := ⟨gb428, 1, none⟩) (Kd.R_far (p := ⟨gb428, 0, none⟩) (Kd.R_types HO426.out BK428.out (by decide)) (fun _ hk => hk.2) (.int .i64 t421)) (fun _ hk => hk.2) (.int .i64 t422)) (fun _ hk => hk.2) (.int .i64 t423)) (fun _ hk => hk.2) (.slice Ao22 t424.length co22)) (fun _ h_ => h_.1))) hb); have n1_ := Aside0.mk (Kd.R_lower ho0 (below_size (by repeat (first | (with_reducible first | exact HB.out | apply below_alloc | apply pw_below_drewN | apply below_drew1 | refine below_set ?_ GE428.out) | exact HB.out)))); have n2_ := Aside0.mk (blk_below (g := gb428) (o := .cells #[.int .i64 t421, .int .i64 t422, .int .i64 t423, .slice Ao22 t424.length co22] 26 (0, 0)) (by (with_reducible repeat (first | refine blk_drewN ?_ _ | refine blk_drew ?_ | refine blk_alloc ?_ _)); refine blk_put (cs := #[.int .i64 t421, .int .i64 t422, .int .i64 t423, .slice none 0 0]) ?_ 3 _ rfl; (with_reducible repeat (first | refine blk_drewN ?_ _ | refine blk_drew ?_ | refine blk_alloc ?_ _)); refine blk_put (cs := #[.int .i64 t421, .int .i64 t422, .int .i64 0, .slice none 0 0]) ?_ 2 _ rfl; (with_reducible repeat (first | refine blk_drewN ?_ _ | refine blk_drew ?_ | refine blk_alloc ?_ _)); refine blk_put (cs := #[.int .i64 t421, .int .i64 0, .int .i64 0, .slice none 0 0]) ?_ 1 _ rfl; (with_reducible repeat (first | refine blk_drewN ?_ _ | refine blk_drew ?_ | refine blk_alloc ?_ _)); refine blk_put (cs := #[.int .i64 0, .int .i64 0, .int .i64 0, .slice none 0 0]) ?_ 0 _ rfl; (with_reducible repeat (first | refine blk_drewN ?_ _ | refine blk_drew ?_ | refine blk_alloc ?_ _)); exact BK428.out) hb); have n3_ := Aside0.mk (below_step (by repeat (first | (with_reducible first | exact HB.out | apply below_alloc | apply pw_below_drewN | apply below_drew1 | refine below_set ?_ GE428.out) | exact HB.out)) hb); clear HO426; clear BK428; clear HB; have HO426 := n0_; have HO431 := n1_; have BK428 := n2_; have HB := n3_; clear n0_ n1_ n2_ n3_; (try clear hb); (try clear hb2); (try clear hk); (try clear hi); (try clear ho0); obtain ⟨Ao24, co24, eo24⟩ := Kd.R_slice HO431.out; subst eo24) | ((with_reducible refine gate_callee (f := 10) rfl ?_); refine goesL_ (some 44) rfl rfl Tryd.func10 (by kernel_rfl) rfl #[.slice Ao24 t429.length co24] rfl (by (try simp only [List.map_toArray, List.map_cons, List.map_nil]); first | done | rfl | (simp only [List.length_drop, List.length_take]; rfl)) ?_; (with_reducible refine (inst_Parse.calls kj2 _ _ t429 t433 t434 t435 t436 t439 _ ?side1 ?side2 A10.out).mono ?_); (case side1 => repeat (first | exact (Kd.R_reads' HO431.out).2.2 | (with_reducible refine Kd.C_alloc ?_ _) | (with_reducible refine Kd.C_drewN ?_ _) | (with_reducible refine Kd.C_drew ?_))); (case side2 => exact (Kd.R_reads' HO431.out).2.1); rintro e w25 ⟨v437, rfl, ho0, hb⟩; refine ⟨_, rfl, ?_⟩; have n0_ := Aside0.mk (Kd.R_elder' (by (with_reducible repeat (first | apply Kd.R_alloc | apply Kd.R_drewN | apply Kd.R_drew)); exact HO426.out) (Kd.R_base ho0) hb); have n1_ := Aside0.mk (Kd.R_below (by (with_reducible repeat (first | apply Kd.R_alloc | apply Kd.R_drewN | apply Kd.R_drew)); exact HO431.out) hb); have n2_ := Aside0.mk (Kd.R_lower (Kd.R_new' ho0 (Kd.R_lt (by (with_reducible repeat (first | apply Kd.R_alloc | apply Kd.R_drewN | apply Kd.R_drew)); exact HO426.out))) (below_size (by repeat (first | (with_reducible first | exact HB.out | apply below_alloc | apply pw_below_drewN | apply below_drew1 | refine below_set ?_ GE428.out) | exact HB.out)))); have n3_ := Aside0.mk (blk_below (g := gb428) (o := .cells #[.int .i64 t421, .int .i64 t422, .int .i64 t423, .slice Ao22 t424.length co22] 26 (0, 0)) (by (with_reducible repeat (first | refine blk_drewN ?_ _ | refine blk_drew ?_ | refine blk_alloc ?_ _)); exact BK428.out) hb); have n4_ := Aside0.mk (below_step (by repeat (first | (with_reducible first | exact HB.out | apply below_alloc | apply pw_below_drewN | apply below_drew1 | refine below_set ?_ GE428.out) | exact HB.out)) hb); clear HO426; clear HO431; clear BK428; clear HB; have HO426 := n0_; have HO431 := n1_; have HO438 := n2_; have BK428 := n3_; have HB := n4_; clear n0_ n1_ n2_ n3_ n4_; (try clear hb); (try clear hb2); (try clear hk); (try clear hi); (try clear ho0)) | ((with_reducible refine gate_dst (N := 8) rfl ?_); (try (refine gate_guard (by rfl) ?_; dsimp only)); refine box_event ?hg (N := 8) ?hd (cs := #[.int .i64 0, .int .i64 0, .int .i64 0, .slice none 0 0]) (t := 26) ?hr ?_; (case hd => rfl); (case hg => rfl); (case hr => first | (go_simp; done) | (go_simp; rfl)); intro gb440 hg w26 hbox hb; have n0_ := Aside0.mk (Kd.R_below (by (with_reducible repeat (first | apply Kd.R_alloc | apply Kd.R_drewN | apply Kd.R_drew)); exact HO426.out) hb); have n1_ := Aside0.mk (Kd.R_below (by (with_reducible repeat (first | apply Kd.R_alloc | apply Kd.R_drewN | apply Kd.R_drew)); exact HO431.out) hb); have n2_ := Aside0.mk (Kd.R_below (by (with_reducible repeat (first | apply Kd.R_alloc | apply Kd.R_drewN | apply Kd.R_drew)); exact HO438.out) hb); have n3_ := Aside0.mk (blk_below (g := gb428) (o := .cells #[.int .i64 t421, .int .i64 t422, .int .i64 t423, .slice Ao22 t424.length co22] 26 (0, 0)) (by (with_reducible repeat (first | refine blk_drewN ?_ _ | refine blk_drew ?_ | refine blk_alloc ?_ _)); exact BK428.out) hb); have n4_ := Aside0.mk (below_step (by repeat (first | (with_reducible first | exact HB.out | apply below_alloc | apply pw_below_drewN | apply below_drew1 | refine below_set ?_ GE428.out) | exact HB.out)) hb); have n5_ := Aside0.mk (hbox); have n6_ := Aside0.mk ((by rw [hg]; exact (below_size (by repeat (first | (with_reducible first | exact HB.out | apply below_alloc | apply pw_below_drewN | apply below_drew1 | refine below_set ?_ GE428.out) | exact HB.out))) : w.heap.size ≤ gb440)); have n7_ := Aside0.mk ((by rw [hg]; exact (below_size (by repeat (first | (with_reducible first | exact HB.out | apply below_alloc | apply pw_below_drewN | apply below_drew1 | refine below_set ?_ GE428.out) | exact HB.out))) : w.heap.size ≤ gb440)); have n8_ := Aside0.mk ((by rw [hg]; exact Nat.ne_of_lt (blk_lt (g := gb428) (o := .cells #[.int .i64 t421, .int .i64 t422, .int .i64 t423, .slice Ao22 t424.length co22] 26 (0, 0)) (by (with_reducible repeat (first | refine blk_drewN ?_ _ | refine blk_drew ?_ | refine blk_alloc ?_ _)); exact BK428.out)) : gb428 ≠ gb440)); have n9_ := Aside0.mk ((by rw [hg]; exact Nat.ne_of_gt (blk_lt (g := gb428) (o := .cells #[.int .i64 t421, .int .i64 t422, .int .i64 t423, .slice Ao22 t424.length co22] 26 (0, 0)) (by (with_reducible repeat (first | refine blk_drewN ?_ _ | refine blk_drew ?_ | refine blk_alloc ?_ _)); exact BK428.out)) : gb440 ≠ gb428)); clear HO426; clear HO431; clear HO438; clear BK428; clear HB; have HO426 := n0_; have HO431 := n1_; have HO438 := n2_; have BK428 := n3_; have HB := n4_; have BK440 := n5_; have GW440 := n6_; have GE440 := n7_; have NB428_440 := n8_; have NB440_428 := n9_; clear n0_ n1_ n2_ n3_ n4_ n5_ n6_ n7_ n8_ n9_; clear hb hbox hg; have hnb27 := NB440_428.out; have hnc27 := NB428_440.out; have hcz28_0 : w26.cell? ⟨gb440, 0, none⟩ = some (.int .i64 0) := (blk_cell BK440.out 0).trans rfl; have hcz28_1 : w26.cell? ⟨gb440, 1, none⟩ = some (.int .i64 0) := (blk_cell BK440.out 1).trans rfl; have hcz28_2 : w26.cell? ⟨gb440, 2, none⟩ = some (.int .i64 0) := (blk_cell BK440.out 2).trans rfl; have hcz28_3 : w26.cell? ⟨gb440, 3, none⟩ = some (.slice none 0 0) := (blk_cell BK440.out 3).trans rfl; have hfz28_0 := blk_frozen BK440.out 0; have hfz28_1 := blk_frozen BK440.out 1; have hfz28_2 := blk_frozen BK440.out 2; have hfz28_3 := blk_frozen BK440.out 3; obtain ⟨Ao29, co29, eo29⟩ := Kd.R_slice HO438.out; subst eo29) | ((with_reducible refine gate_callee (f := 14) rfl ?_); refine goesL_ (some 49) rfl rfl Tryd.func14 (by kernel_rfl) rfl #[.agg #[.int .i64 t433, .int .i64 t434, .int .i64 t435, .slice Ao29 t436.length co29]] rfl (by (try simp only [List.map_toArray, List.map_cons, List.map_nil]); first | done | rfl | (simp only [List.length_drop, List.length_take]; rfl)) ?_; (with_reducible refine (inst_Print.calls kj2 t433 t434 t435 _ _ t436 t441 t444 _ ?side1 ?side2 A11.out ?tab).mono ?_); (case tab => exact HT.out.on (by repeat (first | (with_reducible first | exact HB.out | apply below_alloc | apply pw_below_drewN | apply below_drew1 | refine below_set ?_ GE428.out | refine below_set ?_ GE440.out) | exact HB.out))); (case side1 => refine (Kd.R_reads' (e := 34) (base := w.heap.size) (ok := fun k_ => (True ∧ some k_ ≠ (.slice Ao22 t424.length co22 : Value).ownBlock)) (n := t436.length) (c := co29) ?_).2.2; exact (by (with_reducible repeat (first | apply Kd.R_alloc | apply Kd.R_drewN | apply Kd.R_drew)); exact (Kd.R_mono (Kd.R_far (p := ⟨gb440, 3, none⟩) (Kd.R_far (p := ⟨gb440, 2, none⟩) (Kd.R_far (p := ⟨gb440, 1, none⟩) (Kd.R_far (p := ⟨gb440, 0, none⟩) (Kd.R_types HO438.out BK440.out (by decide)) (fun _ hk => hk.2) (.int .i64 t433)) (fun _ hk => hk.2) (.int .i64 t434)) (fun _ hk => hk.2) (.int .i64 t435)) (fun _ hk => hk.2) (.slice Ao29 t436.length co29)) (fun _ h_ => h_.1)))); (case side2 => exact (Kd.R_reads' HO438.out).2.1); rintro e w30 ⟨v442, rfl, ho0, hb⟩; refine ⟨_, rfl, ?_⟩; have n0_ := Aside0.mk (Kd.R_below (by (with_reducible repeat (first | apply Kd.R_alloc | apply Kd.R_drewN | apply Kd.R_drew)); exact (Kd.R_mono (Kd.R_far (p := ⟨gb440, 3, none⟩) (Kd.R_far (p := ⟨gb440, 2, none⟩) (Kd.R_far (p := ⟨gb440, 1, none⟩) (Kd.R_far (p := ⟨gb440, 0, none⟩) (Kd.R_types HO426.out BK440.out (by decide)) (fun _ hk => hk.2) (.int .i64 t433)) (fun _ hk => hk.2) (.int .i64 t434)) (fun _ hk => hk.2) (.int .i64 t435)) (fun _ hk => hk.2) (.slice Ao29 t436.length co29)) (fun _ h_ => h_.1))) hb); have n1_ := Aside0.mk (Kd.R_elder' (by (with_reducible repeat (first | apply Kd.R_alloc | apply Kd.R_drewN | apply Kd.R_drew)); exact (Kd.R_mono (Kd.R_far (p := ⟨gb440, 3, none⟩) (Kd.R_far (p := ⟨gb440, 2, none⟩) (Kd.R_far (p := ⟨gb440, 1, none⟩) (Kd.R_far (p := ⟨gb440, 0, none⟩) (Kd.R_types HO431.out BK440.out (by decide)) (fun _ hk => hk.2) (.int .i64 t433)) (fun _ hk => hk.2) (.int .i64 t434)) (fun _ hk => hk.2) (.int .i64 t435)) (fun _ hk => hk.2) (.slice Ao29 t436.length co29)) (fun _ h_ => h_.1))) (Kd.R_base ho0) hb); have n2_ := Aside0.mk (Kd.R_below (by (with_reducible repeat (first | apply Kd.R_alloc | apply Kd.R_drewN | apply Kd.R_drew)); exact (Kd.R_mono (Kd.R_far (p := ⟨gb440, 3, none⟩) (Kd.R_far (p := ⟨gb440, 2, none⟩) (Kd.R_far (p := ⟨gb440, 1, none⟩) (Kd.R_far (p := ⟨gb440, 0, none⟩) (Kd.R_types HO438.out BK440.out (by decide)) (fun _ hk => hk.2) (.int .i64 t433)) (fun _ hk => hk.2) (.int .i64 t434)) (fun _ hk => hk.2) (.int .i64 t435)) (fun _ hk => hk.2) (.slice Ao29 t436.length co29)) (fun _ h_ => h_.1))) hb); have n3_ := Aside0.mk (Kd.R_lower (Kd.R_new' ho0 (Kd.R_lt (by (with_reducible repeat (first | apply Kd.R_alloc | apply Kd.R_drewN | apply Kd.R_drew)); exact (Kd.R_mono (Kd.R_far (p := ⟨gb440, 3, none⟩) (Kd.R_far (p := ⟨gb440, 2, none⟩) (Kd.R_far (p := ⟨gb440, 1, none⟩) (Kd.R_far (p := ⟨gb440, 0, none⟩) (Kd.R_types HO431.out BK440.out (by decide)) (fun _ hk => hk.2) (.int .i64 t433)) (fun _ hk => hk.2) (.int .i64 t434)) (fun _ hk => hk.2) (.int .i64 t435)) (fun _ hk => hk.2) (.slice Ao29 t436.length co29)) (fun _ h_ => h_.1))))) (below_size (by repeat (first | (with_reducible first | exact HB.out | apply below_alloc | apply pw_below_drewN | apply below_drew1 | refine below_set ?_ GE428.out | refine below_set ?_ GE440.out) | exact HB.out)))); have n4_ := Aside0.mk (blk_below (g := gb428) (o := .cells #[.int .i64 t421, .int .i64 t422, .int .i64 t423, .slice Ao22 t424.length co22] 26 (0, 0)) (by (with_reducible repeat (first | refine blk_drewN ?_ _ | refine blk_drew ?_ | refine blk_alloc ?_ _)); refine blk_far ?_ NB428_440.out _; (with_reducible repeat (first | refine blk_drewN ?_ _ | refine blk_drew ?_ | refine blk_alloc ?_ _)); refine blk_far ?_ NB428_440.out _; (with_reducible repeat (first | refine blk_drewN ?_ _ | refine blk_drew ?_ | refine blk_alloc ?_ _)); refine blk_far ?_ NB428_440.out _; (with_reducible repeat (first | refine blk_drewN ?_ _ | refine blk_drew ?_ | refine blk_alloc ?_ _)); refine blk_far ?_ NB428_440.out _; (with_reducible repeat (first | refine blk_drewN ?_ _ | refine blk_drew ?_ | refine blk_alloc ?_ _)); exact BK428.out) hb); have n5_ := Aside0.mk (blk_below (g := gb440) (o := .cells #[.int .i64 t433, .int .i64 t434, .int .i64 t435, .slice Ao29 t436.length co29] 26 (0, 0)) (by (with_reducible repeat (first | refine blk_drewN ?_ _ | refine blk_drew ?_ | refine blk_alloc ?_ _)); refine blk_put (cs := #[.int .i64 t433, .int .i64 t434, .int .i64 t435, .slice none 0 0]) ?_ 3 _ rfl; (with_reducible repeat (first | refine blk_drewN ?_ _ | refine blk_drew ?_ | refine blk_alloc ?_ _)); refine blk_put (cs := #[.int .i64 t433, .int .i64 t434, .int .i64 0, .slice none 0 0]) ?_ 2 _ rfl; (with_reducible repeat (first | refine blk_drewN ?_ _ | refine blk_drew ?_ | refine blk_alloc ?_ _)); refine blk_put (cs := #[.int .i64 t433, .int .i64 0, .int .i64 0, .slice none 0 0]) ?_ 1 _ rfl; (with_reducible repeat (first | refine blk_drewN ?_ _ | refine blk_drew ?_ | refine blk_alloc ?_ _)); refine blk_put (cs := #[.int .i64 0, .int .i64 0, .int .i64 0, .slice none 0 0]) ?_ 0 _ rfl; (with_reducible repeat (first | refine blk_drewN ?_ _ | refine blk_drew ?_ | refine blk_alloc ?_ _)); exact BK440.out) hb); have n6_ := Aside0.mk (below_step (by repeat (first | (with_reducible first | exact HB.out | apply below_alloc | apply pw_below_drewN | apply below_drew1 | refine below_set ?_ GE428.out | refine below_set ?_ GE440.out) | exact HB.out)) hb); clear HO426; clear HO431; clear HO438; clear BK428; clear BK440; clear HB; have HO426 := n0_; have HO431 := n1_; have HO438 := n2_; have HO443 := n3_; have BK428 := n4_; have BK440 := n5_; have HB := n6_; clear n0_ n1_ n2_ n3_ n4_ n5_ n6_; (try clear hb); (try clear hb2); (try clear hk); (try clear hi); (try clear ho0); have hcz31_0 : w30.cell? ⟨gb428, 0, none⟩ = some (.int .i64 t421) := (blk_cell BK428.out 0).trans rfl; have hcz31_1 : w30.cell? ⟨gb428, 1, none⟩ = some (.int .i64 t422) := (blk_cell BK428.out 1).trans rfl; have hcz31_2 : w30.cell? ⟨gb428, 2, none⟩ = some (.int .i64 t423) := (blk_cell BK428.out 2).trans rfl; have hcz31_3 : w30.cell? ⟨gb428, 3, none⟩ = some (.slice Ao22 t424.length co22) := (blk_cell BK428.out 3).trans rfl; have hfz31_0 := blk_frozen BK428.out 0; have hfz31_1 := blk_frozen BK428.out 1; have hfz31_2 := blk_frozen BK428.out 2; have hfz31_3 := blk_frozen BK428.out 3) | ((with_reducible refine gate_callee (f := 13) rfl ?_); refine goesL_ (some 53) rfl rfl Tryd.func13 (by kernel_rfl) rfl #[.agg #[.int .i64 t421, .int .i64 t422, .int .i64 t423, .slice Ao22 t424.length co22]] rfl (by (try simp only [List.map_toArray, List.map_cons, List.map_nil]); first | done | rfl | (simp only [List.length_drop, List.length_take]; rfl)) ?_; (with_reducible refine (inst_May.calls kj2 t421 t422 t423 _ _ t424 true _ ?side1 ?side2 A12.out).mono ?_); (case side1 => repeat (first | exact (Kd.R_reads' HO426.out).2.2 | (with_reducible refine Kd.C_alloc ?_ _) | (with_reducible refine Kd.C_drewN ?_ _) | (with_reducible refine Kd.C_drew ?_))); (case side2 => exact (Kd.R_reads' HO426.out).2.1); rintro e w32 ⟨rfl, hb⟩; refine ⟨_, rfl, ?_⟩; have n0_ := Aside0.mk (Kd.R_below (by (with_reducible repeat (first | apply Kd.R_alloc | apply Kd.R_drewN | apply Kd.R_drew)); exact HO426.out) hb); have n1_ := Aside0.mk (Kd.R_below (by (with_reducible repeat (first | apply Kd.R_alloc | apply Kd.R_drewN | apply Kd.R_drew)); exact HO431.out) hb); have n2_ := Aside0.mk (Kd.R_below (by (with_reducible repeat (first | apply Kd.R_alloc | apply Kd.R_drewN | apply Kd.R_drew)); exact HO438.out) hb); have n3_ := Aside0.mk (Kd.R_below (by (with_reducible repeat (first | apply Kd.R_alloc | apply Kd.R_drewN | apply Kd.R_drew)); exact HO443.out) hb); have n4_ := Aside0.mk (blk_below (g := gb428) (o := .cells #[.int .i64 t421, .int .i64 t422, .int .i64 t423, .slice Ao22 t424.length co22] 26 (0, 0)) (by (with_reducible repeat (first | refine blk_drewN ?_ _ | refine blk_drew ?_ | refine blk_alloc ?_ _)); exact BK428.out) hb); have n5_ := Aside0.mk (blk_below (g := gb440) (o := .cells #[.int .i64 t433, .int .i64 t434, .int .i64 t435, .slice Ao29 t436.length co29] 26 (0, 0)) (by (with_reducible repeat (first | refine blk_drewN ?_ _ | refine blk_drew ?_ | refine blk_alloc ?_ _)); exact BK440.out) hb); have n6_ := Aside0.mk (below_step (by repeat (first | (with_reducible first | exact HB.out | apply below_alloc | apply pw_below_drewN | apply below_drew1 | refine below_set ?_ GE428.out | refine below_set ?_ GE440.out) | exact HB.out)) hb); clear HO426; clear HO431; clear HO438; clear HO443; clear BK428; clear BK440; clear HB; have HO426 := n0_; have HO431 := n1_; have HO438 := n2_; have HO443 := n3_; have BK428 := n4_; have BK440 := n5_; have HB := n6_; clear n0_ n1_ n2_ n3_ n4_ n5_ n6_; (try clear hb); (try clear hb2); (try clear hk); (try clear hi); have hcz33_0 : w32.cell? ⟨gb428, 0, none⟩ = some (.int .i64 t421) := (blk_cell BK428.out 0).trans rfl; have hcz33_1 : w32.cell? ⟨gb428, 1, none⟩ = some (.int .i64 t422) := (blk_cell BK428.out 1).trans rfl; have hcz33_2 : w32.cell? ⟨gb428, 2, none⟩ = some (.int .i64 t423) := (blk_cell BK428.out 2).trans rfl; have hcz33_3 : w32.cell? ⟨gb428, 3, none⟩ = some (.slice Ao22 t424.length co22) := (blk_cell BK428.out 3).trans rfl; have hfz33_0 := blk_frozen BK428.out 0; have hfz33_1 := blk_frozen BK428.out 1; have hfz33_2 := blk_frozen BK428.out 2; have hfz33_3 := blk_frozen BK428.out 3; have hcz34_0 : w32.cell? ⟨gb440, 0, none⟩ = some (.int .i64 t433) := (blk_cell BK440.out 0).trans rfl; have hcz34_1 : w32.cell? ⟨gb440, 1, none⟩ = some (.int .i64 t434) := (blk_cell BK440.out 1).trans rfl; have hcz34_2 : w32.cell? ⟨gb440, 2, none⟩ = some (.int .i64 t435) := (blk_cell BK440.out 2).trans rfl; have hcz34_3 : w32.cell? ⟨gb440, 3, none⟩ = some (.slice Ao29 t436.length co29) := (blk_cell BK440.out 3).trans rfl; have hfz34_0 := blk_frozen BK440.out 0; have hfz34_1 := blk_frozen BK440.out 1; have hfz34_2 := blk_frozen BK440.out 2; have hfz34_3 := blk_frozen BK440.out 3) | (go_at_call 17; (with_reducible refine (inst_Same.calls kj2 t421 t422 t423 _ _ t424 t433 t434 t435 _ _ t436 true _ ?side1 ?side2 ?side3 ?side4 A17.out).mono ?_); (case side1 => repeat (first | exact (Kd.R_reads' HO426.out).2.2 | (with_reducible refine Kd.C_alloc ?_ _) | (with_reducible refine Kd.C_drewN ?_ _) | (with_reducible refine Kd.C_drew ?_))); (case side2 => exact (Kd.R_reads' HO426.out).2.1); (case side3 => repeat (first | exact (Kd.R_reads' HO438.out).2.2 | (with_reducible refine Kd.C_alloc ?_ _) | (with_reducible refine Kd.C_drewN ?_ _) | (with_reducible refine Kd.C_drew ?_))); (case side4 => exact (Kd.R_reads' HO438.out).2.1); rintro e w35 ⟨rfl, hb⟩; have n0_ := Aside0.mk (Kd.R_below (by (with_reducible repeat (first | apply Kd.R_alloc | apply Kd.R_drewN | apply Kd.R_drew)); exact HO426.out) hb); have n1_ := Aside0.mk (Kd.R_below (by (with_reducible repeat (first | apply Kd.R_alloc | apply Kd.R_drewN | apply Kd.R_drew)); exact HO431.out) hb); have n2_ := Aside0.mk (Kd.R_below (by (with_reducible repeat (first | apply Kd.R_alloc | apply Kd.R_drewN | apply Kd.R_drew)); exact HO438.out) hb); have n3_ := Aside0.mk (Kd.R_below (by (with_reducible repeat (first | apply Kd.R_alloc | apply Kd.R_drewN | apply Kd.R_drew)); exact HO443.out) hb); have n4_ := Aside0.mk (blk_below (g := gb428) (o := .cells #[.int .i64 t421, .int .i64 t422, .int .i64 t423, .slice Ao22 t424.length co22] 26 (0, 0)) (by (with_reducible repeat (first | refine blk_drewN ?_ _ | refine blk_drew ?_ | refine blk_alloc ?_ _)); exact BK428.out) hb); have n5_ := Aside0.mk (blk_below (g := gb440) (o := .cells #[.int .i64 t433, .int .i64 t434, .int .i64 t435, .slice Ao29 t436.length co29] 26 (0, 0)) (by (with_reducible repeat (first | refine blk_drewN ?_ _ | refine blk_drew ?_ | refine blk_alloc ?_ _)); exact BK440.out) hb); have n6_ := Aside0.mk (below_step (by repeat (first | (with_reducible first | exact HB.out | apply below_alloc | apply pw_below_drewN | apply below_drew1 | refine below_set ?_ GE428.out | refine below_set ?_ GE440.out) | exact HB.out)) hb); clear HO426; clear HO431; clear HO438; clear HO443; clear BK428; clear BK440; clear HB; have HO426 := n0_; have HO431 := n1_; have HO438 := n2_; have HO443 := n3_; have BK428 := n4_; have BK440 := n5_; have HB := n6_; clear n0_ n1_ n2_ n3_ n4_ n5_ n6_; (try clear hb); (try clear hb2); (try clear hk); (try clear hi); have hcv36 := own_string (P := Tryd.prog) Tryd.underlying22 Tryd.underlying5 Tryd.underlying9 (Kd.own_of_R HO431.out); have hcv37 := own_string (P := Tryd.prog) Tryd.underlying22 Tryd.underlying5 Tryd.underlying9 (Kd.own_of_R HO443.out)))
                    go_ret
                    exact ⟨by first | rfl | (simp [errW_none, errW_some] <;> rfl) | (simp [*, errW_none, errW_some] <;> rfl), by repeat (first | (with_reducible first | exact HB.out | apply below_alloc | apply pw_below_drewN | apply below_drew1 | refine below_set ?_ GE428.out | refine below_set ?_ GE440.out) | exact HB.out)⟩
                  · replace c18 := Bool.eq_false_iff.mpr c18
                    subst c18
                    have H1 : (none) = some r := by rw [if_neg (show ¬ (false = true) by decide)] at H; exact H
                    clear H
                    have H := H1
                    clear H1
                    exact absurd H (by simp)
                · rw [if_neg c16] at H
                  exact absurd H (by simp)
              · rw [if_neg c15] at H
                exact absurd H (by simp)
            · rw [if_neg c14] at H
              exact absurd H (by simp)
          · replace c13 := Bool.eq_false_iff.mpr c13
            subst c13
            have H1 : (none) = some r := by rw [if_neg (show ¬ (false = true) by decide)] at H; exact H
            clear H
            have H := H1
            clear H1
            exact absurd H (by simp)
        · rw [if_neg c8] at H
          have c8b0 : (t427 == 0) = false := beq_eq_false_iff_ne.mpr c8
          have c8b1 : (t427 != 0) = true := bne_iff_ne.mpr c8
          by_cases c38 : t421 = 0
          · rw [if_pos c38] at H
            have c38b0 : (t421 == 0) = true := beq_iff_eq.mpr c38
            have c38b1 : (t421 != 0) = false := bne_eq_false_iff_eq.mpr c38
            clear c38
            obtain rfl := Option.some.inj H
            go_wp2_with (first | ((with_reducible refine gate_callee (f := 10) rfl ?_); refine goesL_ (some 23) rfl rfl Tryd.func10 (by kernel_rfl) rfl #[.slice A0 l0.length c0] rfl (by (try simp only [List.map_toArray, List.map_cons, List.map_nil]); first | done | rfl | (simp only [List.length_drop, List.length_take]; rfl)) ?_; (with_reducible refine (inst_Parse.calls kj2 _ _ l0 t421 t422 t423 t424 t427 _ ?side1 ?side2 A7.out).mono ?_); (case side1 => repeat (first | exact (Kd.C_below HR0.out HB.out) | (with_reducible refine Kd.C_alloc ?_ _) | (with_reducible refine Kd.C_drewN ?_ _) | (with_reducible refine Kd.C_drew ?_))); (case side2 => exact HC0.out); rintro e w39 ⟨v425, rfl, ho0, hb⟩; refine ⟨_, rfl, ?_⟩; have n0_ := Aside0.mk (Kd.R_lower ho0 (below_size (by repeat (first | (with_reducible first | exact HB.out | apply below_alloc | apply pw_below_drewN | apply below_drew1) | exact HB.out)))); have n1_ := Aside0.mk (below_step (by repeat (first | (with_reducible first | exact HB.out | apply below_alloc | apply pw_below_drewN | apply below_drew1) | exact HB.out)) hb); clear HB; have HO426 := n0_; have HB := n1_; clear n0_ n1_; (try clear hb); (try clear hb2); (try clear hk); (try clear hi); (try clear ho0)) | ((with_reducible refine gate_dst (N := 4) rfl ?_); (try (refine gate_guard (by rfl) ?_; dsimp only)); refine box_event ?hg (N := 4) ?hd (cs := #[.int .i64 0, .int .i64 0, .int .i64 0, .slice none 0 0]) (t := 26) ?hr ?_; (case hd => rfl); (case hg => rfl); (case hr => first | (go_simp; done) | (go_simp; rfl)); intro gb428 hg w40 hbox hb; have n0_ := Aside0.mk (Kd.R_below (by (with_reducible repeat (first | apply Kd.R_alloc | apply Kd.R_drewN | apply Kd.R_drew)); exact HO426.out) hb); have n1_ := Aside0.mk (below_step (by repeat (first | (with_reducible first | exact HB.out | apply below_alloc | apply pw_below_drewN | apply below_drew1) | exact HB.out)) hb); have n2_ := Aside0.mk (hbox); have n3_ := Aside0.mk ((by rw [hg]; exact (below_size (by repeat (first | (with_reducible first | exact HB.out | apply below_alloc | apply pw_below_drewN | apply below_drew1) | exact HB.out))) : w.heap.size ≤ gb428)); have n4_ := Aside0.mk ((by rw [hg]; exact (below_size (by repeat (first | (with_reducible first | exact HB.out | apply below_alloc | apply pw_below_drewN | apply below_drew1) | exact HB.out))) : w.heap.size ≤ gb428)); clear HO426; clear HB; have HO426 := n0_; have HB := n1_; have BK428 := n2_; have GW428 := n3_; have GE428 := n4_; clear n0_ n1_ n2_ n3_ n4_; clear hb hbox hg; have hcz41_0 : w40.cell? ⟨gb428, 0, none⟩ = some (.int .i64 0) := (blk_cell BK428.out 0).trans rfl; have hcz41_1 : w40.cell? ⟨gb428, 1, none⟩ = some (.int .i64 0) := (blk_cell BK428.out 1).trans rfl; have hcz41_2 : w40.cell? ⟨gb428, 2, none⟩ = some (.int .i64 0) := (blk_cell BK428.out 2).trans rfl; have hcz41_3 : w40.cell? ⟨gb428, 3, none⟩ = some (.slice none 0 0) := (blk_cell BK428.out 3).trans rfl; have hfz41_0 := blk_frozen BK428.out 0; have hfz41_1 := blk_frozen BK428.out 1; have hfz41_2 := blk_frozen BK428.out 2; have hfz41_3 := blk_frozen BK428.out 3; obtain ⟨Ao42, co42, eo42⟩ := Kd.R_slice HO426.out; subst eo42))
            go_ret
            exact ⟨by first | rfl | (simp [errW_none, errW_some] <;> rfl) | (simp [*, errW_none, errW_some] <;> rfl), by repeat (first | (with_reducible first | exact HB.out | apply below_alloc | apply pw_below_drewN | apply below_drew1 | refine below_set ?_ GE428.out) | exact HB.out)⟩
          · rw [if_neg c38] at H
            exact absurd H (by simp)

/-- THE ONE PURE STATEMENT of haulierlaw05_InstAgain: yours. -/
def haulierlaw05_InstAgain.Pure : Prop := ∀ (l0 : List Int), l0.length ≤ maxLen → l0.length * 1 ≤ 140737488351232 → (∀ x ∈ l0, (Lit.int .u8 x).wf = true) → ∃ k, haulierlaw05_InstAgain.f k l0 = some true
theorem haulierlaw05_InstAgain.walk (P : haulierlaw05_InstAgain.Pure) (a0 : Option Addr) (len0 cap0 : Nat) (z0 : List Int) (w : World) (w0 : (a0 = none ∧ len0 = 0 ∧ cap0 = 0 ∧ z0 = []) ∨ ∃ x, a0 = some x ∧ len0 ≤ cap0 ∧ cap0 ≤ maxLen ∧ z0.length = cap0 ∧ (∀ i, i < z0.length → w.cell? (x.add i) = some (.int .u8 (z0.getD i 0))) ∧ ∀ n ∈ z0, (Lit.int .u8 n).wf = true) (y0 : len0 * 1 ≤ 140737488351232) (hT : Go.Proofs.YtifekgemngfidaaDoor.Scan.NumTab w) :
    Calls Tryd.prog 7 #[.slice a0 len0 cap0] w fun e w' => e = .returned (.bool true) ∧ Below w.heap.size w w' := by
  obtain ⟨l0, rfl, hr0, hm0, hw0, hc0⟩ := ReadsInt.ofRowC w0
  obtain ⟨k, h⟩ := P l0 hm0 y0 hw0
  refine (haulierlaw05_InstAgain.calls k _ _ l0 true w (Kd.C_of_reads (d := (0 : Int)) (h1 := fun _ => rfl) hr0) hc0 h hT).mono ?_
  rintro e w' ⟨rfl, hd⟩
  exact ⟨rfl, hd⟩

end Go.Proofs.YtifekgemngfidaaDoor.PA
