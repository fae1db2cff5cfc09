-- Printed for this claim by wip/tools/xprint.py over the kit's print; the contracts marked BY HAND are this session's own.
import Derived.Test.YtgnhokepcdopgaaDoorPAx0
import Derived.Test.YtgnhokepcdopgaaDoorPAx1
import Derived.Test.YtgnhokepcdopgaaDoorPAx3
namespace Go.Proofs.YtgnhokepcdopgaaDoor.PA
open Go.RowKit Go.Proofs.YtgnhokepcdopgaaDoorW.PrintWords Go.Proofs.YtgnhokepcdopgaaDoorW.PrintLast Go.Proofs.YtgnhokepcdopgaaDoorW.PrintMore
attribute [local go_sem] max2_int min2_int max_two min_two max_three min_three max_four min_four   -- for this text's walks alone
set_option linter.unusedVariables false
set_option linter.unusedSimpArgs false

/-! ### haulierref02_Shift: function 24 -/
mutual
def haulierref02_Shift.j0 : Nat → Int → Int → Int → Bool → Option (Int)
  | 0, _, _, _, _ => none
  | k + 1, x0, x1, x5, x13 => if x13 = true then (some x5) else ((haulierref02_All.f k x0).bind fun t163 => (haulierref02_Shift.l0 k x1 x5 t163 0))
def haulierref02_Shift.l0 : Nat → Int → Int → List Int → Int → Option (Int)
  | 0, _, _, _, _ => none
  | k + 1, x1, x5, x6, x7 => if x7 < (x6.length : Int) then (if 0 ≤ x7 then ((haulierref02_With.f k x5 (wrap64 ((rd x6 x7) + x1))).bind fun t167 => (haulierref02_Shift.l0 k x1 t167 x6 (wrap64 (x7 + 1)))) else (none)) else (some x5)
end
def haulierref02_Shift.f (k : Nat) (a0 : Int) (a1 : Int) : Option (Int) := if a1 < (-64) then (haulierref02_Shift.j0 k a0 a1 0 true) else (haulierref02_Shift.j0 k a0 a1 0 (decide (a1 > 64)))
theorem haulierref02_Shift.mono_l : ∀ k, (∀ y0 y1 y2 y3, LeO (haulierref02_Shift.j0 k y0 y1 y2 y3) (haulierref02_Shift.j0 (k + 1) y0 y1 y2 y3)) ∧ (∀ y0 y1 y2 y3, LeO (haulierref02_Shift.l0 k y0 y1 y2 y3) (haulierref02_Shift.l0 (k + 1) y0 y1 y2 y3))
  | 0 => ⟨fun _ _ _ _ r h => by simp [haulierref02_Shift.j0] at h, fun _ _ _ _ r h => by simp [haulierref02_Shift.l0] at h⟩
  | k + 1 => by
    obtain ⟨ih0, ih1⟩ := haulierref02_Shift.mono_l k
    refine ⟨?_, ?_⟩
    · intro y0 y1 y2 y3
      unfold haulierref02_Shift.j0
      repeat' first
      | (with_reducible exact ih0 _ _ _ _)
      | (with_reducible exact ih1 _ _ _ _)
      | (with_reducible exact haulierref02_All.mono _ _)
      | (with_reducible exact haulierref02_With.mono _ _ _)
      | (with_reducible exact LeO.refl _)
      | (with_reducible exact LeO.none _)
      | (with_reducible refine LeO.ite ?_ ?_)
      | (with_reducible refine LeO.bind ?_ (fun _ => ?_))
      | exact ih0 _ _ _ _
      | exact ih1 _ _ _ _
      | exact haulierref02_All.mono _ _
      | exact haulierref02_With.mono _ _ _
      | exact LeO.none _
      | refine LeO.ite ?_ ?_
      | refine LeO.bind ?_ (fun _ => ?_)
    · intro y0 y1 y2 y3
      unfold haulierref02_Shift.l0
      repeat' first
      | (with_reducible exact ih0 _ _ _ _)
      | (with_reducible exact ih1 _ _ _ _)
      | (with_reducible exact haulierref02_All.mono _ _)
      | (with_reducible exact haulierref02_With.mono _ _ _)
      | (with_reducible exact LeO.refl _)
      | (with_reducible exact LeO.none _)
      | (with_reducible refine LeO.ite ?_ ?_)
      | (with_reducible refine LeO.bind ?_ (fun _ => ?_))
      | exact ih0 _ _ _ _
      | exact ih1 _ _ _ _
      | exact haulierref02_All.mono _ _
      | exact haulierref02_With.mono _ _ _
      | exact LeO.none _
      | refine LeO.ite ?_ ?_
      | refine LeO.bind ?_ (fun _ => ?_)
theorem haulierref02_Shift.mono : ∀ a0 a1 k, LeO (haulierref02_Shift.f k a0 a1) (haulierref02_Shift.f (k + 1) a0 a1) := by
  intro a0 a1 k
  obtain ⟨ih0, ih1⟩ := haulierref02_Shift.mono_l k
  unfold haulierref02_Shift.f
  repeat' first
      | (with_reducible exact ih0 _ _ _ _)
      | (with_reducible exact ih1 _ _ _ _)
      | (with_reducible exact haulierref02_All.mono _ _)
      | (with_reducible exact haulierref02_With.mono _ _ _)
      | (with_reducible exact LeO.refl _)
      | (with_reducible exact LeO.none _)
      | (with_reducible refine LeO.ite ?_ ?_)
      | (with_reducible refine LeO.bind ?_ (fun _ => ?_))
      | exact ih0 _ _ _ _
      | exact ih1 _ _ _ _
      | exact haulierref02_All.mono _ _
      | exact haulierref02_With.mono _ _ _
      | exact LeO.none _
      | refine LeO.ite ?_ ?_
      | refine LeO.bind ?_ (fun _ => ?_)
set_option maxHeartbeats 8000000 in
set_option maxRecDepth 100000 in
theorem haulierref02_Shift.calls (k : Nat) (a0 : Int) (a1 : Int) (r : Int) (w : World) (h : haulierref02_Shift.f k a0 a1 = some r) :
    Calls Tryd.prog 24 #[.int .u64 a0, .int .i64 a1] w fun e w' => e = .returned (.int .u64 r) ∧ Below w.heap.size w w' := by
  have HB := Aside0.mk (Below.refl w.heap.size w)
  have H : (if a1 < (-64) then (haulierref02_Shift.j0 k a0 a1 0 true) else (haulierref02_Shift.j0 k a0 a1 0 (decide (a1 > 64)))) = some r := h
  clear h
  have HC3 := Aside0.mk H
  clear H
  go_enter Tryd.func24, Tryd.ntmps24
  go_upto_region 2 with (fail)
  go_cut [13] (fun v13 wc => ∃ (kq : Nat) (x13_2 : Bool), v13 = .bool x13_2 ∧ Aside0 (haulierref02_Shift.j0 kq a0 a1 0 x13_2 = some r) ∧ Aside0 (kq ≤ k) ∧ Aside0 (Below w.heap.size w wc))
  case first =>
    have H := HC3.out
    clear HC3
    by_cases c4 : a1 < (-64)
    · rw [if_pos c4] at H
      have c4b0 : decide (a1 < (-64)) = true := decide_eq_true c4
      clear c4
      (first | rw [c4b0] | (simp only [i64_w, i32_w]; rw [c4b0]) | skip)
      have H' := Aside0.mk H
      clear H
      go_wp2
      go_meet
      case rel => exact ⟨_, (true), (by first | rfl | (simp; done) | (simp [*]; done)), H', ⟨by first | omega | exact Nat.le_refl _⟩, ⟨by repeat (first | (with_reducible first | exact HB.out | apply below_alloc | apply pw_below_drewN | apply below_drew1) | exact HB.out)⟩⟩
    · rw [if_neg c4] at H
      have c4b0 : decide (a1 < (-64)) = false := decide_eq_false c4
      clear c4
      (first | rw [c4b0] | (simp only [i64_w, i32_w]; rw [c4b0]) | skip)
      have H' := Aside0.mk H
      clear H
      go_wp2
      go_meet
      case rel => exact ⟨_, (decide (a1 > 64)), (by first | rfl | (simp; done) | (simp [*]; done)), H', ⟨by first | omega | exact Nat.le_refl _⟩, ⟨by repeat (first | (with_reducible first | exact HB.out | apply below_alloc | apply pw_below_drewN | apply below_drew1) | exact HB.out)⟩⟩
  case rest =>
    clear HC3
    try clear c2
    try clear p2
    try clear c4
    try clear c4b0
    obtain ⟨kq, x13_2, rfl, HA, HJ2, HB⟩ := hcut
    cases kq with
    | zero => exact absurd HA.out (by simp [haulierref02_Shift.j0])
    | succ kj2 =>
      have H := HA.out
      clear HA
      simp only [haulierref02_Shift.j0] at H
      by_cases c5 : x13_2 = true
      · subst c5
        have H1 : (some 0) = some r := by rw [if_pos rfl] at H; exact H
        clear H
        have H := H1
        clear H1
        obtain rfl := Option.some.inj H
        go_wp2
        go_ret
        exact ⟨by first | rfl | (simp [errW_none, errW_some] <;> rfl) | (simp [*, errW_none, errW_some] <;> rfl), by repeat (first | (with_reducible first | exact HB.out | apply below_alloc | apply pw_below_drewN | apply below_drew1) | exact HB.out)⟩
      · replace c5 := Bool.eq_false_iff.mpr c5
        subst c5
        have H1 : ((haulierref02_All.f kj2 a0).bind fun t163 => (haulierref02_Shift.l0 kj2 a1 0 t163 0)) = some r := by rw [if_neg (show ¬ (false = true) by decide)] at H; exact H
        clear H
        have H := H1
        clear H1
        replace H := Option.bind_eq_some_iff.mp H
        obtain ⟨t163, A60, H⟩ := H
        replace H : (haulierref02_Shift.l0 kj2 a1 0 t163 0) = some r := H
        have A6 := Aside0.mk A60
        clear A60
        have H' := Aside0.mk H
        clear H
        go_wp2_with (first | ((with_reducible refine gate_callee (f := 26) rfl ?_); refine goesL_ (some 16) rfl rfl Tryd.func26 (by kernel_rfl) rfl #[.int .u64 a0] rfl (by (try simp only [List.map_toArray, List.map_cons, List.map_nil]); first | done | rfl | (simp only [List.length_drop, List.length_take]; rfl)) ?_; (with_reducible refine (haulierref02_All.calls kj2 a0 t163 _ A6.out).mono ?_); rintro e w7 ⟨v164, rfl, ho0, hb⟩; refine ⟨_, rfl, ?_⟩; have n0_ := Aside0.mk (Kd.R_lower ho0 (below_size (by repeat (first | (with_reducible first | exact HB.out | apply below_alloc | apply pw_below_drewN | apply below_drew1) | exact HB.out)))); have n1_ := Aside0.mk (below_step (by repeat (first | (with_reducible first | exact HB.out | apply below_alloc | apply pw_below_drewN | apply below_drew1) | exact HB.out)) hb); clear HB; have HO165 := n0_; have HB := n1_; clear n0_ n1_; (try clear hb); (try clear hb2); (try clear hk); (try clear hi); (try clear ho0)))
        go_loopg [5, 7] kj2 (fun kq v5 v7 w' => ∃ (x5_2 : Int) (x7_2 : Int), v5 = .int .u64 x5_2 ∧ v7 = .int .i64 x7_2 ∧ Aside0 (haulierref02_Shift.l0 kq a1 x5_2 t163 x7_2 = some r) ∧ Aside0 (kq ≤ kj2) ∧ Aside0 (Kd.R (Kd.int .i64) 3 w' w.heap.size (fun _ => True) v164 t163) ∧ Aside0 (Below w.heap.size w w'))
        case atStart => exact ⟨(0), (0), (by first | rfl | (simp; done) | (simp [*]; done)), (by first | rfl | (simp; done) | (simp [*]; done)), H', ⟨Nat.le_refl _⟩, ⟨by (with_reducible repeat (first | apply Kd.R_alloc | apply Kd.R_drewN | apply Kd.R_drew)); exact HO165.out⟩, ⟨by repeat (first | (with_reducible first | exact HB.out | apply below_alloc | apply pw_below_drewN | apply below_drew1) | exact HB.out)⟩⟩
        case round =>
          clear H'
          try clear c2
          try clear p2
          try clear c4
          try clear c4b0
          try clear c5
          try clear p2
          obtain ⟨x5_2, x7_2, rfl, rfl, HA, HK2, HO_6, HB⟩ := hrel
          cases gk with
          | zero => exact absurd HA.out (by simp [haulierref02_Shift.l0])
          | succ k2 =>
            have H := HA.out
            clear HA
            simp only [haulierref02_Shift.l0] at H
            by_cases c8 : x7_2 < (t163.length : Int)
            · rw [if_pos c8] at H
              have c8b0 : decide (x7_2 < (t163.length : Int)) = true := decide_eq_true c8
              clear c8
              by_cases c9 : 0 ≤ x7_2
              · rw [if_pos c9] at H
                have c9b0 : decide (0 ≤ x7_2) = true := decide_eq_true c9
                clear c9
                replace H := Option.bind_eq_some_iff.mp H
                obtain ⟨t167, A100, H⟩ := H
                replace H : (haulierref02_Shift.l0 k2 a1 t167 t163 (wrap64 (x7_2 + 1))) = some r := H
                have A10 := Aside0.mk A100
                clear A100
                have H' := Aside0.mk H
                clear H
                obtain ⟨Ao11, co11, eo11⟩ := Kd.R_slice HO_6.out
                subst eo11
                have p166 : 0 ≤ (x7_2 : Int) := of_decide_eq_true (by first | (with_reducible assumption) | assumption)
                have q166 : x7_2 < (t163.length : Int) := of_decide_eq_true (by first | (with_reducible assumption) | assumption)
                obtain ⟨ad166, e166, hx166_0⟩ := Kd.at_int (Kd.R_reads' HO_6.out).2.2 x7_2 p166 q166
                cases e166
                replace p166 := eq_true p166
                replace q166 := eq_true q166
                go_wp2_with (first | ((with_reducible refine gate_callee (f := 20) rfl ?_); refine goesL_ (some 30) rfl rfl Tryd.func20 (by kernel_rfl) rfl #[.int .u64 x5_2, .int .i64 (wrap64 ((rd t163 x7_2) + a1))] rfl (by (try simp only [List.map_toArray, List.map_cons, List.map_nil]); first | done | rfl | (simp only [List.length_drop, List.length_take]; rfl)) ?_; (with_reducible refine (haulierref02_With.calls k2 x5_2 (wrap64 ((rd t163 x7_2) + a1)) t167 _ A10.out).mono ?_); rintro e w' ⟨rfl, ⟨nd, rfl⟩⟩; refine ⟨_, rfl, ?_⟩))
                go_roundg k2
                case measure => have := HJ2.out; have := HK2.out; omega
                case rel => exact ⟨(t167), (wrap64 (x7_2 + 1)), (by first | rfl | (simp; done) | (simp [*]; done)), (by first | rfl | (simp; done) | (simp [*]; done)), H', ⟨by have := HJ2.out; have := HK2.out; omega⟩, ⟨by (with_reducible repeat (first | apply Kd.R_alloc | apply Kd.R_drewN | apply Kd.R_drew)); exact HO_6.out⟩, ⟨by repeat (first | (with_reducible first | exact HB.out | apply below_alloc | apply pw_below_drewN | apply below_drew1) | exact HB.out)⟩⟩
              · rw [if_neg c9] at H
                exact absurd H (by simp)
            · rw [if_neg c8] at H
              have c8b0 : decide (x7_2 < (t163.length : Int)) = false := decide_eq_false c8
              clear c8
              obtain rfl := Option.some.inj H
              obtain ⟨Ao12, co12, eo12⟩ := Kd.R_slice HO_6.out
              subst eo12
              go_wp2
              go_ret
              exact ⟨by first | rfl | (simp [errW_none, errW_some] <;> rfl) | (simp [*, errW_none, errW_some] <;> rfl), by repeat (first | (with_reducible first | exact HB.out | apply below_alloc | apply pw_below_drewN | apply below_drew1) | exact HB.out)⟩

/-! ### haulierlaw02_SetMakes: function 7 -/
def haulierlaw02_SetMakes.j0 : Nat → Int → Int → List Int → Bool → Bool → Option (Bool)
  | 0, _, _, _, _, _ => none
  | k + 1, x0, x1, x2, x7, x15 => if x15 = true then (some x7) else ((set_Of.f k x2).bind fun t169 => ((haulierref02_Of.f k x2).bind fun t170 => (if t169 = t170 then ((set_With.f x0 x1).bind fun t171 => ((haulierref02_With.f k x0 x1).bind fun t172 => (if t171 = t172 then ((set_Without.f x0 x1).bind fun t173 => ((haulierref02_Without.f k x0 x1).bind fun t174 => (if t173 = t174 then ((set_Upto.f k x1).bind fun t175 => ((haulierref02_Upto.f k x1).bind fun t176 => (if t175 = t176 then ((set_Shift.f x0 x1).bind fun t177 => ((haulierref02_Shift.f k x0 x1).bind fun t178 => (some (t177 == t178)))) else (none)))) else (none)))) else (none)))) else (none))))
def haulierlaw02_SetMakes.f (k : Nat) (a0 : Int) (a1 : Int) (l2 : List Int) : Option (Bool) := (haulierlaw02_awake.f k).bind fun t168 => (if t168 = true then (haulierlaw02_SetMakes.j0 k a0 a1 l2 t168 (decide ((l2.length : Int) > 200))) else (haulierlaw02_SetMakes.j0 k a0 a1 l2 t168 true))
theorem haulierlaw02_SetMakes.mono_l : ∀ k, (∀ y0 y1 y2 y3 y4, LeO (haulierlaw02_SetMakes.j0 k y0 y1 y2 y3 y4) (haulierlaw02_SetMakes.j0 (k + 1) y0 y1 y2 y3 y4))
  | 0 => fun _ _ _ _ _ r h => by simp [haulierlaw02_SetMakes.j0] at h
  | k + 1 => by
    have ih0 := haulierlaw02_SetMakes.mono_l k
    · intro y0 y1 y2 y3 y4
      unfold haulierlaw02_SetMakes.j0
      repeat' first
      | (with_reducible exact ih0 _ _ _ _ _)
      | (with_reducible exact haulierlaw02_awake.mono _)
      | (with_reducible exact haulierref02_Of.mono _ _)
      | (with_reducible exact haulierref02_Shift.mono _ _ _)
      | (with_reducible exact haulierref02_Upto.mono _ _)
      | (with_reducible exact haulierref02_With.mono _ _ _)
      | (with_reducible exact haulierref02_Without.mono _ _ _)
      | (with_reducible exact set_Of.mono _ _)
      | (with_reducible exact set_Upto.mono _ _)
      | (with_reducible exact LeO.refl _)
      | (with_reducible exact LeO.none _)
      | (with_reducible refine LeO.ite ?_ ?_)
      | (with_reducible refine LeO.bind ?_ (fun _ => ?_))
      | exact ih0 _ _ _ _ _
      | exact haulierlaw02_awake.mono _
      | exact haulierref02_Of.mono _ _
      | exact haulierref02_Shift.mono _ _ _
      | exact haulierref02_Upto.mono _ _
      | exact haulierref02_With.mono _ _ _
      | exact haulierref02_Without.mono _ _ _
      | exact set_Of.mono _ _
      | exact set_Upto.mono _ _
      | exact LeO.none _
      | refine LeO.ite ?_ ?_
      | refine LeO.bind ?_ (fun _ => ?_)
theorem haulierlaw02_SetMakes.mono : ∀ a0 a1 a2 k, LeO (haulierlaw02_SetMakes.f k a0 a1 a2) (haulierlaw02_SetMakes.f (k + 1) a0 a1 a2) := by
  intro a0 a1 a2 k
  have ih0 := haulierlaw02_SetMakes.mono_l k
  unfold haulierlaw02_SetMakes.f
  repeat' first
      | (with_reducible exact ih0 _ _ _ _ _)
      | (with_reducible exact haulierlaw02_awake.mono _)
      | (with_reducible exact haulierref02_Of.mono _ _)
      | (with_reducible exact haulierref02_Shift.mono _ _ _)
      | (with_reducible exact haulierref02_Upto.mono _ _)
      | (with_reducible exact haulierref02_With.mono _ _ _)
      | (with_reducible exact haulierref02_Without.mono _ _ _)
      | (with_reducible exact set_Of.mono _ _)
      | (with_reducible exact set_Upto.mono _ _)
      | (with_reducible exact LeO.refl _)
      | (with_reducible exact LeO.none _)
      | (with_reducible refine LeO.ite ?_ ?_)
      | (with_reducible refine LeO.bind ?_ (fun _ => ?_))
      | exact ih0 _ _ _ _ _
      | exact haulierlaw02_awake.mono _
      | exact haulierref02_Of.mono _ _
      | exact haulierref02_Shift.mono _ _ _
      | exact haulierref02_Upto.mono _ _
      | exact haulierref02_With.mono _ _ _
      | exact haulierref02_Without.mono _ _ _
      | exact set_Of.mono _ _
      | exact set_Upto.mono _ _
      | exact LeO.none _
      | refine LeO.ite ?_ ?_
      | refine LeO.bind ?_ (fun _ => ?_)
set_option maxHeartbeats 8000000 in
set_option maxRecDepth 100000 in
theorem haulierlaw02_SetMakes.calls (k : Nat) (a0 : Int) (a1 : Int) (A2 : Option Addr) (c2 : Nat) (l2 : List Int) (r : Bool) (w : World) (hr2 : Kd.C (Kd.int .i64) w A2 l2.length l2) (hc2 : l2.length ≤ c2) (h : haulierlaw02_SetMakes.f k a0 a1 l2 = some r) (hT : Go.Proofs.YtgnhokepcdopgaaDoor.SetWalk.SetTab w) :
    Calls Tryd.prog 7 #[.int .u64 a0, .int .i64 a1, .slice A2 l2.length c2] w fun e w' => e = .returned (.bool r) ∧ Below w.heap.size w w' := by
  have HT := Aside0.mk hT
  clear hT
  have HR2 := Aside0.mk hr2
  have HC2 := Aside0.mk hc2
  clear hr2 hc2
  have HB := Aside0.mk (Below.refl w.heap.size w)
  have H : ((haulierlaw02_awake.f k).bind fun t168 => (if t168 = true then (haulierlaw02_SetMakes.j0 k a0 a1 l2 t168 (decide ((l2.length : Int) > 200))) else (haulierlaw02_SetMakes.j0 k a0 a1 l2 t168 true))) = some r := h
  clear h
  replace H := Option.bind_eq_some_iff.mp H
  obtain ⟨t168, A40, H⟩ := H
  replace H : (if t168 = true then (haulierlaw02_SetMakes.j0 k a0 a1 l2 t168 (decide ((l2.length : Int) > 200))) else (haulierlaw02_SetMakes.j0 k a0 a1 l2 t168 true)) = some r := H
  have A4 := Aside0.mk A40
  clear A40
  have HC5 := Aside0.mk H
  clear H
  go_enter Tryd.func7, Tryd.ntmps7
  go_upto_region 2 with (first | ((with_reducible refine gate_callee (f := 11) rfl ?_); refine goesL_ (some 8) rfl rfl Tryd.func11 (by kernel_rfl) rfl #[] rfl (by (try simp only [List.map_toArray, List.map_cons, List.map_nil]); first | done | rfl | (simp only [List.length_drop, List.length_take]; rfl)) ?_; (with_reducible refine (haulierlaw02_awake.calls k  t168 _ A4.out ?tab).mono ?_); (case tab => exact HT.out.on (by repeat (first | (with_reducible first | exact HB.out | apply below_alloc | apply pw_below_drewN | apply below_drew1) | exact HB.out))); rintro e w6 ⟨rfl, hb⟩; refine ⟨_, rfl, ?_⟩; have n0_ := Aside0.mk (below_step (by repeat (first | (with_reducible first | exact HB.out | apply below_alloc | apply pw_below_drewN | apply below_drew1) | exact HB.out)) hb); clear HB; have HB := n0_; clear n0_; (try clear hb); (try clear hb2); (try clear hk); (try clear hi)))
  (try simp only [Act.put, List.setIfInBounds_toArray, List.set_cons_zero, List.set_cons_succ])
  go_cut [15] (fun v15 wc => ∃ (kq : Nat) (x15_4 : Bool), v15 = .bool x15_4 ∧ Aside0 (haulierlaw02_SetMakes.j0 kq a0 a1 l2 t168 x15_4 = some r) ∧ Aside0 (kq ≤ k) ∧ Aside0 (Below w.heap.size w wc))
  case first =>
    have H := HC5.out
    clear HC5
    by_cases c7 : t168 = true
    · subst c7
      have H1 : (haulierlaw02_SetMakes.j0 k a0 a1 l2 true (decide ((l2.length : Int) > 200))) = some r := by rw [if_pos rfl] at H; exact H
      clear H
      have H := H1
      clear H1
      have H' := Aside0.mk H
      clear H
      go_wp2
      go_meet
      case rel => exact ⟨_, (decide ((l2.length : Int) > 200)), (by first | rfl | (simp; done) | (simp [*]; done)), H', ⟨by first | omega | exact Nat.le_refl _⟩, ⟨by repeat (first | (with_reducible first | exact HB.out | apply below_alloc | apply pw_below_drewN | apply below_drew1) | exact HB.out)⟩⟩
    · replace c7 := Bool.eq_false_iff.mpr c7
      subst c7
      have H1 : (haulierlaw02_SetMakes.j0 k a0 a1 l2 false true) = some r := by rw [if_neg (show ¬ (false = true) by decide)] at H; exact H
      clear H
      have H := H1
      clear H1
      have H' := Aside0.mk H
      clear H
      go_wp2
      go_meet
      case rel => exact ⟨_, (true), (by first | rfl | (simp; done) | (simp [*]; done)), H', ⟨by first | omega | exact Nat.le_refl _⟩, ⟨by repeat (first | (with_reducible first | exact HB.out | apply below_alloc | apply pw_below_drewN | apply below_drew1) | exact HB.out)⟩⟩
  case rest =>
    clear HC5
    try clear c1
    try clear c2
    try clear p2
    try clear c7
    obtain ⟨kq, x15_4, rfl, HA, HJ4, HB⟩ := hcut
    cases kq with
    | zero => exact absurd HA.out (by simp [haulierlaw02_SetMakes.j0])
    | succ kj4 =>
      have H := HA.out
      clear HA
      simp only [haulierlaw02_SetMakes.j0] at H
      by_cases c8 : x15_4 = true
      · subst c8
        have H1 : (some t168) = some r := by rw [if_pos rfl] at H; exact H
        clear H
        have H := H1
        clear H1
        obtain rfl := Option.some.inj H
        go_wp2
        go_ret
        exact ⟨by first | rfl | (simp [errW_none, errW_some] <;> rfl) | (simp [*, errW_none, errW_some] <;> rfl), by repeat (first | (with_reducible first | exact HB.out | apply below_alloc | apply pw_below_drewN | apply below_drew1) | exact HB.out)⟩
      · replace c8 := Bool.eq_false_iff.mpr c8
        subst c8
        have H1 : ((set_Of.f kj4 l2).bind fun t169 => ((haulierref02_Of.f kj4 l2).bind fun t170 => (if t169 = t170 then ((set_With.f a0 a1).bind fun t171 => ((haulierref02_With.f kj4 a0 a1).bind fun t172 => (if t171 = t172 then ((set_Without.f a0 a1).bind fun t173 => ((haulierref02_Without.f kj4 a0 a1).bind fun t174 => (if t173 = t174 then ((set_Upto.f kj4 a1).bind fun t175 => ((haulierref02_Upto.f kj4 a1).bind fun t176 => (if t175 = t176 then ((set_Shift.f a0 a1).bind fun t177 => ((haulierref02_Shift.f kj4 a0 a1).bind fun t178 => (some (t177 == t178)))) else (none)))) else (none)))) else (none)))) else (none)))) = some r := by rw [if_neg (show ¬ (false = true) by decide)] at H; exact H
        clear H
        have H := H1
        clear H1
        replace H := Option.bind_eq_some_iff.mp H
        obtain ⟨t169, A90, H⟩ := H
        replace H : ((haulierref02_Of.f kj4 l2).bind fun t170 => (if t169 = t170 then ((set_With.f a0 a1).bind fun t171 => ((haulierref02_With.f kj4 a0 a1).bind fun t172 => (if t171 = t172 then ((set_Without.f a0 a1).bind fun t173 => ((haulierref02_Without.f kj4 a0 a1).bind fun t174 => (if t173 = t174 then ((set_Upto.f kj4 a1).bind fun t175 => ((haulierref02_Upto.f kj4 a1).bind fun t176 => (if t175 = t176 then ((set_Shift.f a0 a1).bind fun t177 => ((haulierref02_Shift.f kj4 a0 a1).bind fun t178 => (some (t177 == t178)))) else (none)))) else (none)))) else (none)))) else (none))) = some r := H
        have A9 := Aside0.mk A90
        clear A90
        replace H := Option.bind_eq_some_iff.mp H
        obtain ⟨t170, A100, H⟩ := H
        replace H : (if t169 = t170 then ((set_With.f a0 a1).bind fun t171 => ((haulierref02_With.f kj4 a0 a1).bind fun t172 => (if t171 = t172 then ((set_Without.f a0 a1).bind fun t173 => ((haulierref02_Without.f kj4 a0 a1).bind fun t174 => (if t173 = t174 then ((set_Upto.f kj4 a1).bind fun t175 => ((haulierref02_Upto.f kj4 a1).bind fun t176 => (if t175 = t176 then ((set_Shift.f a0 a1).bind fun t177 => ((haulierref02_Shift.f kj4 a0 a1).bind fun t178 => (some (t177 == t178)))) else (none)))) else (none)))) else (none)))) else (none)) = some r := H
        have A10 := Aside0.mk A100
        clear A100
        by_cases c11 : t169 = t170
        · rw [if_pos c11] at H
          have c11b0 : (t169 == t170) = true := beq_iff_eq.mpr c11
          have c11b1 : (t169 != t170) = false := bne_eq_false_iff_eq.mpr c11
          clear c11
          replace H := Option.bind_eq_some_iff.mp H
          obtain ⟨t171, A120, H⟩ := H
          replace H : ((haulierref02_With.f kj4 a0 a1).bind fun t172 => (if t171 = t172 then ((set_Without.f a0 a1).bind fun t173 => ((haulierref02_Without.f kj4 a0 a1).bind fun t174 => (if t173 = t174 then ((set_Upto.f kj4 a1).bind fun t175 => ((haulierref02_Upto.f kj4 a1).bind fun t176 => (if t175 = t176 then ((set_Shift.f a0 a1).bind fun t177 => ((haulierref02_Shift.f kj4 a0 a1).bind fun t178 => (some (t177 == t178)))) else (none)))) else (none)))) else (none))) = some r := H
          have A12 := Aside0.mk A120
          clear A120
          replace H := Option.bind_eq_some_iff.mp H
          obtain ⟨t172, A130, H⟩ := H
          replace H : (if t171 = t172 then ((set_Without.f a0 a1).bind fun t173 => ((haulierref02_Without.f kj4 a0 a1).bind fun t174 => (if t173 = t174 then ((set_Upto.f kj4 a1).bind fun t175 => ((haulierref02_Upto.f kj4 a1).bind fun t176 => (if t175 = t176 then ((set_Shift.f a0 a1).bind fun t177 => ((haulierref02_Shift.f kj4 a0 a1).bind fun t178 => (some (t177 == t178)))) else (none)))) else (none)))) else (none)) = some r := H
          have A13 := Aside0.mk A130
          clear A130
          by_cases c14 : t171 = t172
          · rw [if_pos c14] at H
            have c14b0 : (t171 == t172) = true := beq_iff_eq.mpr c14
            have c14b1 : (t171 != t172) = false := bne_eq_false_iff_eq.mpr c14
            clear c14
            replace H := Option.bind_eq_some_iff.mp H
            obtain ⟨t173, A150, H⟩ := H
            replace H : ((haulierref02_Without.f kj4 a0 a1).bind fun t174 => (if t173 = t174 then ((set_Upto.f kj4 a1).bind fun t175 => ((haulierref02_Upto.f kj4 a1).bind fun t176 => (if t175 = t176 then ((set_Shift.f a0 a1).bind fun t177 => ((haulierref02_Shift.f kj4 a0 a1).bind fun t178 => (some (t177 == t178)))) else (none)))) else (none))) = some r := H
            have A15 := Aside0.mk A150
            clear A150
            replace H := Option.bind_eq_some_iff.mp H
            obtain ⟨t174, A160, H⟩ := H
            replace H : (if t173 = t174 then ((set_Upto.f kj4 a1).bind fun t175 => ((haulierref02_Upto.f kj4 a1).bind fun t176 => (if t175 = t176 then ((set_Shift.f a0 a1).bind fun t177 => ((haulierref02_Shift.f kj4 a0 a1).bind fun t178 => (some (t177 == t178)))) else (none)))) else (none)) = some r := H
            have A16 := Aside0.mk A160
            clear A160
            by_cases c17 : t173 = t174
            · rw [if_pos c17] at H
              have c17b0 : (t173 == t174) = true := beq_iff_eq.mpr c17
              have c17b1 : (t173 != t174) = false := bne_eq_false_iff_eq.mpr c17
              clear c17
              replace H := Option.bind_eq_some_iff.mp H
              obtain ⟨t175, A180, H⟩ := H
              replace H : ((haulierref02_Upto.f kj4 a1).bind fun t176 => (if t175 = t176 then ((set_Shift.f a0 a1).bind fun t177 => ((haulierref02_Shift.f kj4 a0 a1).bind fun t178 => (some (t177 == t178)))) else (none))) = some r := H
              have A18 := Aside0.mk A180
              clear A180
              replace H := Option.bind_eq_some_iff.mp H
              obtain ⟨t176, A190, H⟩ := H
              replace H : (if t175 = t176 then ((set_Shift.f a0 a1).bind fun t177 => ((haulierref02_Shift.f kj4 a0 a1).bind fun t178 => (some (t177 == t178)))) else (none)) = some r := H
              have A19 := Aside0.mk A190
              clear A190
              by_cases c20 : t175 = t176
              · rw [if_pos c20] at H
                have c20b0 : (t175 == t176) = true := beq_iff_eq.mpr c20
                have c20b1 : (t175 != t176) = false := bne_eq_false_iff_eq.mpr c20
                clear c20
                replace H := Option.bind_eq_some_iff.mp H
                obtain ⟨t177, A210, H⟩ := H
                replace H : ((haulierref02_Shift.f kj4 a0 a1).bind fun t178 => (some (t177 == t178))) = some r := H
                have A21 := Aside0.mk A210
                clear A210
                replace H := Option.bind_eq_some_iff.mp H
                obtain ⟨t178, A220, H⟩ := H
                replace H : (some (t177 == t178)) = some r := H
                have A22 := Aside0.mk A220
                clear A220
                obtain rfl := Option.some.inj H
                go_wp2_with (first | ((with_reducible refine gate_callee (f := 17) rfl ?_); refine goesL_ (some 18) rfl rfl Tryd.func17 (by kernel_rfl) rfl #[.slice A2 l2.length c2] rfl (by (try simp only [List.map_toArray, List.map_cons, List.map_nil]); first | done | rfl | (simp only [List.length_drop, List.length_take]; rfl)) ?_; (with_reducible refine (set_Of.calls kj4 _ _ l2 t169 _ ?side1 ?side2 A9.out).mono ?_); (case side1 => repeat (first | exact (Kd.C_below HR2.out HB.out) | (with_reducible refine Kd.C_alloc ?_ _) | (with_reducible refine Kd.C_drewN ?_ _) | (with_reducible refine Kd.C_drew ?_))); (case side2 => exact HC2.out); rintro e w' ⟨rfl, ⟨nd, rfl⟩⟩; refine ⟨_, rfl, ?_⟩) | ((with_reducible refine gate_callee (f := 18) rfl ?_); refine goesL_ (some 20) rfl rfl Tryd.func18 (by kernel_rfl) rfl #[.slice A2 l2.length c2] rfl (by (try simp only [List.map_toArray, List.map_cons, List.map_nil]); first | done | rfl | (simp only [List.length_drop, List.length_take]; rfl)) ?_; (with_reducible refine (haulierref02_Of.calls kj4 _ _ l2 t170 _ ?side1 ?side2 A10.out).mono ?_); (case side1 => repeat (first | exact (Kd.C_below HR2.out (by repeat (first | (with_reducible first | exact HB.out | apply below_alloc | apply pw_below_drewN | apply below_drew1) | exact HB.out))) | (with_reducible refine Kd.C_alloc ?_ _) | (with_reducible refine Kd.C_drewN ?_ _) | (with_reducible refine Kd.C_drew ?_))); (case side2 => exact HC2.out); rintro e w' ⟨rfl, ⟨nd, rfl⟩⟩; refine ⟨_, rfl, ?_⟩) | (go_at_call 19; (with_reducible refine (set_With.calls a0 a1 t171 _ A12.out).mono ?_); rintro e w' ⟨rfl, ⟨nd, rfl⟩⟩) | (go_at_call 20; (with_reducible refine (haulierref02_With.calls kj4 a0 a1 t172 _ A13.out).mono ?_); rintro e w' ⟨rfl, ⟨nd, rfl⟩⟩) | (go_at_call 21; (with_reducible refine (set_Without.calls a0 a1 t173 _ A15.out).mono ?_); rintro e w' ⟨rfl, ⟨nd, rfl⟩⟩) | (go_at_call 22; (with_reducible refine (haulierref02_Without.calls kj4 a0 a1 t174 _ A16.out).mono ?_); rintro e w' ⟨rfl, ⟨nd, rfl⟩⟩) | (go_at_call 14; (with_reducible refine (set_Upto.calls kj4 a1 t175 _ A18.out).mono ?_); rintro e w23 ⟨rfl, hb⟩; have n0_ := Aside0.mk (below_step (by repeat (first | (with_reducible first | exact HB.out | apply below_alloc | apply pw_below_drewN | apply below_drew1) | exact HB.out)) hb); clear HB; have HB := n0_; clear n0_; (try clear hb); (try clear hb2); (try clear hk); (try clear hi)) | (go_at_call 23; (with_reducible refine (haulierref02_Upto.calls kj4 a1 t176 _ A19.out).mono ?_); rintro e w' ⟨rfl, ⟨nd, rfl⟩⟩) | (go_at_call 12; (with_reducible refine (set_Shift.calls a0 a1 t177 _ A21.out ?tab).mono ?_); (case tab => exact HT.out.on (by repeat (first | (with_reducible first | exact HB.out | apply below_alloc | apply pw_below_drewN | apply below_drew1) | exact HB.out))); rintro e w24 ⟨rfl, hb⟩; have n0_ := Aside0.mk (below_step (by repeat (first | (with_reducible first | exact HB.out | apply below_alloc | apply pw_below_drewN | apply below_drew1) | exact HB.out)) hb); clear HB; have HB := n0_; clear n0_; (try clear hb); (try clear hb2); (try clear hk); (try clear hi)) | (go_at_call 24; (with_reducible refine (haulierref02_Shift.calls kj4 a0 a1 t178 _ A22.out).mono ?_); rintro e w25 ⟨rfl, hb⟩; have n0_ := Aside0.mk (below_step (by repeat (first | (with_reducible first | exact HB.out | apply below_alloc | apply pw_below_drewN | apply below_drew1) | exact HB.out)) hb); clear HB; have HB := n0_; clear n0_; (try clear hb); (try clear hb2); (try clear hk); (try clear hi)))
                go_ret
                exact ⟨by first | rfl | (simp [errW_none, errW_some] <;> rfl) | (simp [*, errW_none, errW_some] <;> rfl), by repeat (first | (with_reducible first | exact HB.out | apply below_alloc | apply pw_below_drewN | apply below_drew1) | exact HB.out)⟩
              · rw [if_neg c20] at H
                exact absurd H (by simp)
            · rw [if_neg c17] at H
              exact absurd H (by simp)
          · rw [if_neg c14] at H
            exact absurd H (by simp)
        · rw [if_neg c11] at H
          exact absurd H (by simp)

/-- THE ONE PURE STATEMENT of haulierlaw02_SetMakes: yours. -/
def haulierlaw02_SetMakes.Pure : Prop := ∀ (a0 : Int) (a1 : Int) (l2 : List Int), (Lit.int .u64 a0).wf = true → (Lit.int .i64 a1).wf = true → l2.length ≤ maxLen → l2.length * 8 ≤ 140737488351232 → (∀ x ∈ l2, (Lit.int .i64 x).wf = true) → ∃ k, haulierlaw02_SetMakes.f k a0 a1 l2 = some true
theorem haulierlaw02_SetMakes.walk (P : haulierlaw02_SetMakes.Pure) (a0 : Int) (a1 : Int) (a2 : Option Addr) (len2 cap2 : Nat) (z2 : List Int) (w : World) (w0 : (Lit.int .u64 a0).wf = true) (w1 : (Lit.int .i64 a1).wf = true) (w2 : (a2 = none ∧ len2 = 0 ∧ cap2 = 0 ∧ z2 = []) ∨ ∃ x, a2 = some x ∧ len2 ≤ cap2 ∧ cap2 ≤ maxLen ∧ z2.length = cap2 ∧ (∀ i, i < z2.length → w.cell? (x.add i) = some (.int .i64 (z2.getD i 0))) ∧ ∀ n ∈ z2, (Lit.int .i64 n).wf = true) (y2 : len2 * 8 ≤ 140737488351232) (hT : Go.Proofs.YtgnhokepcdopgaaDoor.SetWalk.SetTab w) :
    Calls Tryd.prog 7 #[.int .u64 a0, .int .i64 a1, .slice a2 len2 cap2] w fun e w' => e = .returned (.bool true) ∧ Below w.heap.size w w' := by
  obtain ⟨l2, rfl, hr2, hm2, hw2, hc2⟩ := ReadsInt.ofRowC w2
  obtain ⟨k, h⟩ := P a0 a1 l2 w0 w1 hm2 y2 hw2
  refine (haulierlaw02_SetMakes.calls k a0 a1 _ _ l2 true w (Kd.C_of_reads (d := (0 : Int)) (h1 := fun _ => rfl) hr2) hc2 h hT).mono ?_
  rintro e w' ⟨rfl, hd⟩
  exact ⟨rfl, hd⟩

end Go.Proofs.YtgnhokepcdopgaaDoor.PA
