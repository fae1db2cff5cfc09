-- Printed for this claim by wip/tools/xprint.py over the kit's print; the contracts marked BY HAND are this session's own.
import Derived.Test.YtgnhokepcdopgaaDoorPAx0
import Derived.Test.YtgnhokepcdopgaaDoorPAx1
namespace Go.Proofs.YtgnhokepcdopgaaDoor.PA
open Go.RowKit Go.Proofs.YtgnhokepcdopgaaDoorW.PrintWords Go.Proofs.YtgnhokepcdopgaaDoorW.PrintLast Go.Proofs.YtgnhokepcdopgaaDoorW.PrintMore
attribute [local go_sem] max2_int min2_int max_two min_two max_three min_three max_four min_four   -- for this text's walks alone
set_option linter.unusedVariables false
set_option linter.unusedSimpArgs false

/-! ### haulierlaw02_SetUpto: function 4 -/
def haulierlaw02_SetUpto.j0 : Nat → Int → Int → Bool → Bool → Option (Bool)
  | 0, _, _, _, _ => none
  | k + 1, x0, x1, x5, x16 => if x16 = true then (some x5) else ((set_Upto.f k x0).bind fun t122 => ((set_Len.f t122).bind fun t123 => (if t123 = x0 then ((set_Upto.f k x0).bind fun t124 => ((set_Has.f t124 x1).bind fun t125 => (if x1 ≥ 1 then (some (t125 == (decide (x1 ≤ x0)))) else (some (t125 == false))))) else (none))))
def haulierlaw02_SetUpto.f (k : Nat) (a0 : Int) (a1 : Int) : Option (Bool) := (haulierlaw02_awake.f k).bind fun t121 => (if t121 = true then (if a0 < 0 then (haulierlaw02_SetUpto.j0 k a0 a1 t121 true) else (haulierlaw02_SetUpto.j0 k a0 a1 t121 (decide (a0 > 63)))) else (haulierlaw02_SetUpto.j0 k a0 a1 t121 true))
theorem haulierlaw02_SetUpto.mono_l : ∀ k, (∀ y0 y1 y2 y3, LeO (haulierlaw02_SetUpto.j0 k y0 y1 y2 y3) (haulierlaw02_SetUpto.j0 (k + 1) y0 y1 y2 y3))
  | 0 => fun _ _ _ _ r h => by simp [haulierlaw02_SetUpto.j0] at h
  | k + 1 => by
    have ih0 := haulierlaw02_SetUpto.mono_l k
    · intro y0 y1 y2 y3
      unfold haulierlaw02_SetUpto.j0
      repeat' first
      | (with_reducible exact ih0 _ _ _ _)
      | (with_reducible exact haulierlaw02_awake.mono _)
      | (with_reducible exact set_Upto.mono _ _)
      | (with_reducible exact LeO.refl _)
      | (with_reducible exact LeO.none _)
      | (with_reducible refine LeO.ite ?_ ?_)
      | (with_reducible refine LeO.bind ?_ (fun _ => ?_))
      | exact ih0 _ _ _ _
      | exact haulierlaw02_awake.mono _
      | exact set_Upto.mono _ _
      | exact LeO.none _
      | refine LeO.ite ?_ ?_
      | refine LeO.bind ?_ (fun _ => ?_)
theorem haulierlaw02_SetUpto.mono : ∀ a0 a1 k, LeO (haulierlaw02_SetUpto.f k a0 a1) (haulierlaw02_SetUpto.f (k + 1) a0 a1) := by
  intro a0 a1 k
  have ih0 := haulierlaw02_SetUpto.mono_l k
  unfold haulierlaw02_SetUpto.f
  repeat' first
      | (with_reducible exact ih0 _ _ _ _)
      | (with_reducible exact haulierlaw02_awake.mono _)
      | (with_reducible exact set_Upto.mono _ _)
      | (with_reducible exact LeO.refl _)
      | (with_reducible exact LeO.none _)
      | (with_reducible refine LeO.ite ?_ ?_)
      | (with_reducible refine LeO.bind ?_ (fun _ => ?_))
      | exact ih0 _ _ _ _
      | exact haulierlaw02_awake.mono _
      | exact set_Upto.mono _ _
      | exact LeO.none _
      | refine LeO.ite ?_ ?_
      | refine LeO.bind ?_ (fun _ => ?_)
set_option maxHeartbeats 8000000 in
set_option maxRecDepth 100000 in
theorem haulierlaw02_SetUpto.calls (k : Nat) (a0 : Int) (a1 : Int) (r : Bool) (w : World) (h : haulierlaw02_SetUpto.f k a0 a1 = some r) (hT : Go.Proofs.YtgnhokepcdopgaaDoor.SetWalk.SetTab w) :
    Calls Tryd.prog 4 #[.int .i64 a0, .int .i64 a1] w fun e w' => e = .returned (.bool r) ∧ Below w.heap.size w w' := by
  have HT := Aside0.mk hT
  clear hT
  have HB := Aside0.mk (Below.refl w.heap.size w)
  have H : ((haulierlaw02_awake.f k).bind fun t121 => (if t121 = true then (if a0 < 0 then (haulierlaw02_SetUpto.j0 k a0 a1 t121 true) else (haulierlaw02_SetUpto.j0 k a0 a1 t121 (decide (a0 > 63)))) else (haulierlaw02_SetUpto.j0 k a0 a1 t121 true))) = some r := h
  clear h
  replace H := Option.bind_eq_some_iff.mp H
  obtain ⟨t121, A30, H⟩ := H
  replace H : (if t121 = true then (if a0 < 0 then (haulierlaw02_SetUpto.j0 k a0 a1 t121 true) else (haulierlaw02_SetUpto.j0 k a0 a1 t121 (decide (a0 > 63)))) else (haulierlaw02_SetUpto.j0 k a0 a1 t121 true)) = some r := H
  have A3 := Aside0.mk A30
  clear A30
  have HC4 := Aside0.mk H
  clear H
  go_enter Tryd.func4, Tryd.ntmps4
  go_upto_region 2 with (first | ((with_reducible refine gate_callee (f := 11) rfl ?_); refine goesL_ (some 6) rfl rfl Tryd.func11 (by kernel_rfl) rfl #[] rfl (by (try simp only [List.map_toArray, List.map_cons, List.map_nil]); first | done | rfl | (simp only [List.length_drop, List.length_take]; rfl)) ?_; (with_reducible refine (haulierlaw02_awake.calls k  t121 _ A3.out ?tab).mono ?_); (case tab => exact HT.out.on (by repeat (first | (with_reducible first | exact HB.out | apply below_alloc | apply pw_below_drewN | apply below_drew1) | exact HB.out))); rintro e w5 ⟨rfl, hb⟩; refine ⟨_, rfl, ?_⟩; have n0_ := Aside0.mk (below_step (by repeat (first | (with_reducible first | exact HB.out | apply below_alloc | apply pw_below_drewN | apply below_drew1) | exact HB.out)) hb); clear HB; have HB := n0_; clear n0_; (try clear hb); (try clear hb2); (try clear hk); (try clear hi)))
  (try simp only [Act.put, List.setIfInBounds_toArray, List.set_cons_zero, List.set_cons_succ])
  go_cut [16] (fun v16 wc => ∃ (kq : Nat) (x16_3 : Bool), v16 = .bool x16_3 ∧ Aside0 (haulierlaw02_SetUpto.j0 kq a0 a1 t121 x16_3 = some r) ∧ Aside0 (kq ≤ k) ∧ Aside0 (Below w.heap.size w wc))
  case first =>
    have H := HC4.out
    clear HC4
    by_cases c6 : t121 = true
    · subst c6
      have H1 : (if a0 < 0 then (haulierlaw02_SetUpto.j0 k a0 a1 true true) else (haulierlaw02_SetUpto.j0 k a0 a1 true (decide (a0 > 63)))) = some r := by rw [if_pos rfl] at H; exact H
      clear H
      have H := H1
      clear H1
      by_cases c7 : a0 < 0
      · rw [if_pos c7] at H
        have c7b0 : decide (a0 < 0) = true := decide_eq_true c7
        clear c7
        (first | rw [c7b0] | (simp only [i64_w, i32_w]; rw [c7b0]) | skip)
        have H' := Aside0.mk H
        clear H
        go_wp2
        go_meet
        case rel => exact ⟨_, (true), (by first | rfl | (simp; done) | (simp [*]; done)), H', ⟨by first | omega | exact Nat.le_refl _⟩, ⟨by repeat (first | (with_reducible first | exact HB.out | apply below_alloc | apply pw_below_drewN | apply below_drew1) | exact HB.out)⟩⟩
      · rw [if_neg c7] at H
        have c7b0 : decide (a0 < 0) = false := decide_eq_false c7
        clear c7
        (first | rw [c7b0] | (simp only [i64_w, i32_w]; rw [c7b0]) | skip)
        have H' := Aside0.mk H
        clear H
        go_wp2
        go_meet
        case rel => exact ⟨_, (decide (a0 > 63)), (by first | rfl | (simp; done) | (simp [*]; done)), H', ⟨by first | omega | exact Nat.le_refl _⟩, ⟨by repeat (first | (with_reducible first | exact HB.out | apply below_alloc | apply pw_below_drewN | apply below_drew1) | exact HB.out)⟩⟩
    · replace c6 := Bool.eq_false_iff.mpr c6
      subst c6
      have H1 : (haulierlaw02_SetUpto.j0 k a0 a1 false true) = some r := by rw [if_neg (show ¬ (false = true) by decide)] at H; exact H
      clear H
      have H := H1
      clear H1
      have H' := Aside0.mk H
      clear H
      go_wp2
      go_meet
      case rel => exact ⟨_, (true), (by first | rfl | (simp; done) | (simp [*]; done)), H', ⟨by first | omega | exact Nat.le_refl _⟩, ⟨by repeat (first | (with_reducible first | exact HB.out | apply below_alloc | apply pw_below_drewN | apply below_drew1) | exact HB.out)⟩⟩
  case rest =>
    clear HC4
    try clear c1
    try clear p2
    try clear c4
    try clear c6
    try clear c7
    try clear c7b0
    obtain ⟨kq, x16_3, rfl, HA, HJ3, HB⟩ := hcut
    cases kq with
    | zero => exact absurd HA.out (by simp [haulierlaw02_SetUpto.j0])
    | succ kj3 =>
      have H := HA.out
      clear HA
      simp only [haulierlaw02_SetUpto.j0] at H
      by_cases c8 : x16_3 = true
      · subst c8
        have H1 : (some t121) = some r := by rw [if_pos rfl] at H; exact H
        clear H
        have H := H1
        clear H1
        obtain rfl := Option.some.inj H
        go_wp2
        go_ret
        exact ⟨by first | rfl | (simp [errW_none, errW_some] <;> rfl) | (simp [*, errW_none, errW_some] <;> rfl), by repeat (first | (with_reducible first | exact HB.out | apply below_alloc | apply pw_below_drewN | apply below_drew1) | exact HB.out)⟩
      · replace c8 := Bool.eq_false_iff.mpr c8
        subst c8
        have H1 : ((set_Upto.f kj3 a0).bind fun t122 => ((set_Len.f t122).bind fun t123 => (if t123 = a0 then ((set_Upto.f kj3 a0).bind fun t124 => ((set_Has.f t124 a1).bind fun t125 => (if a1 ≥ 1 then (some (t125 == (decide (a1 ≤ a0)))) else (some (t125 == false))))) else (none)))) = some r := by rw [if_neg (show ¬ (false = true) by decide)] at H; exact H
        clear H
        have H := H1
        clear H1
        replace H := Option.bind_eq_some_iff.mp H
        obtain ⟨t122, A90, H⟩ := H
        replace H : ((set_Len.f t122).bind fun t123 => (if t123 = a0 then ((set_Upto.f kj3 a0).bind fun t124 => ((set_Has.f t124 a1).bind fun t125 => (if a1 ≥ 1 then (some (t125 == (decide (a1 ≤ a0)))) else (some (t125 == false))))) else (none))) = some r := H
        have A9 := Aside0.mk A90
        clear A90
        replace H := Option.bind_eq_some_iff.mp H
        obtain ⟨t123, A100, H⟩ := H
        replace H : (if t123 = a0 then ((set_Upto.f kj3 a0).bind fun t124 => ((set_Has.f t124 a1).bind fun t125 => (if a1 ≥ 1 then (some (t125 == (decide (a1 ≤ a0)))) else (some (t125 == false))))) else (none)) = some r := H
        have A10 := Aside0.mk A100
        clear A100
        by_cases c11 : t123 = a0
        · rw [if_pos c11] at H
          have c11b0 : (t123 == a0) = true := beq_iff_eq.mpr c11
          have c11b1 : (t123 != a0) = false := bne_eq_false_iff_eq.mpr c11
          clear c11
          replace H := Option.bind_eq_some_iff.mp H
          obtain ⟨t124, A120, H⟩ := H
          replace H : ((set_Has.f t124 a1).bind fun t125 => (if a1 ≥ 1 then (some (t125 == (decide (a1 ≤ a0)))) else (some (t125 == false)))) = some r := H
          have A12 := Aside0.mk A120
          clear A120
          replace H := Option.bind_eq_some_iff.mp H
          obtain ⟨t125, A130, H⟩ := H
          replace H : (if a1 ≥ 1 then (some (t125 == (decide (a1 ≤ a0)))) else (some (t125 == false))) = some r := H
          have A13 := Aside0.mk A130
          clear A130
          by_cases c14 : a1 ≥ 1
          · rw [if_pos c14] at H
            have c14b0 : decide (1 ≤ a1) = true := decide_eq_true c14
            clear c14
            obtain rfl := Option.some.inj H
            go_wp2_with (first | ((with_reducible refine gate_callee (f := 14) rfl ?_); refine goesL_ (some 19) rfl rfl Tryd.func14 (by kernel_rfl) rfl #[.int .i64 a0] rfl (by (try simp only [List.map_toArray, List.map_cons, List.map_nil]); first | done | rfl | (simp only [List.length_drop, List.length_take]; rfl)) ?_; (with_reducible refine (set_Upto.calls kj3 a0 t122 _ A9.out).mono ?_); rintro e w15 ⟨rfl, hb⟩; refine ⟨_, rfl, ?_⟩; have n0_ := Aside0.mk (below_step (by repeat (first | (with_reducible first | exact HB.out | apply below_alloc | apply pw_below_drewN | apply below_drew1) | exact HB.out)) hb); clear HB; have HB := n0_; clear n0_; (try clear hb); (try clear hb2); (try clear hk); (try clear hi)) | ((with_reducible refine gate_callee (f := 13) rfl ?_); refine goesL_ (some 20) rfl rfl Tryd.func13 (by kernel_rfl) rfl #[.int .u64 t122] rfl (by (try simp only [List.map_toArray, List.map_cons, List.map_nil]); first | done | rfl | (simp only [List.length_drop, List.length_take]; rfl)) ?_; (with_reducible refine (set_Len.calls t122 t123 _ A10.out).mono ?_); rintro e w' ⟨rfl, ⟨nd, rfl⟩⟩; refine ⟨_, rfl, ?_⟩) | (go_at_call 14; (with_reducible refine (set_Upto.calls kj3 a0 t124 _ A12.out).mono ?_); rintro e w16 ⟨rfl, hb⟩; have n0_ := Aside0.mk (below_step (by repeat (first | (with_reducible first | exact HB.out | apply below_alloc | apply pw_below_drewN | apply below_drew1) | exact HB.out)) hb); clear HB; have HB := n0_; clear n0_; (try clear hb); (try clear hb2); (try clear hk); (try clear hi)) | (go_at_call 15; (with_reducible refine (set_Has.calls t124 a1 t125 _ A13.out).mono ?_); rintro e w' ⟨rfl, ⟨nd, rfl⟩⟩))
            go_ret
            exact ⟨by first | rfl | (simp [errW_none, errW_some] <;> rfl) | (simp [*, errW_none, errW_some] <;> rfl), by repeat (first | (with_reducible first | exact HB.out | apply below_alloc | apply pw_below_drewN | apply below_drew1) | exact HB.out)⟩
          · rw [if_neg c14] at H
            have c14b0 : decide (1 ≤ a1) = false := decide_eq_false c14
            clear c14
            obtain rfl := Option.some.inj H
            go_wp2_with (first | ((with_reducible refine gate_callee (f := 14) rfl ?_); refine goesL_ (some 19) rfl rfl Tryd.func14 (by kernel_rfl) rfl #[.int .i64 a0] rfl (by (try simp only [List.map_toArray, List.map_cons, List.map_nil]); first | done | rfl | (simp only [List.length_drop, List.length_take]; rfl)) ?_; (with_reducible refine (set_Upto.calls kj3 a0 t122 _ A9.out).mono ?_); rintro e w17 ⟨rfl, hb⟩; refine ⟨_, rfl, ?_⟩; have n0_ := Aside0.mk (below_step (by repeat (first | (with_reducible first | exact HB.out | apply below_alloc | apply pw_below_drewN | apply below_drew1) | exact HB.out)) hb); clear HB; have HB := n0_; clear n0_; (try clear hb); (try clear hb2); (try clear hk); (try clear hi)) | ((with_reducible refine gate_callee (f := 13) rfl ?_); refine goesL_ (some 20) rfl rfl Tryd.func13 (by kernel_rfl) rfl #[.int .u64 t122] rfl (by (try simp only [List.map_toArray, List.map_cons, List.map_nil]); first | done | rfl | (simp only [List.length_drop, List.length_take]; rfl)) ?_; (with_reducible refine (set_Len.calls t122 t123 _ A10.out).mono ?_); rintro e w' ⟨rfl, ⟨nd, rfl⟩⟩; refine ⟨_, rfl, ?_⟩) | (go_at_call 14; (with_reducible refine (set_Upto.calls kj3 a0 t124 _ A12.out).mono ?_); rintro e w18 ⟨rfl, hb⟩; have n0_ := Aside0.mk (below_step (by repeat (first | (with_reducible first | exact HB.out | apply below_alloc | apply pw_below_drewN | apply below_drew1) | exact HB.out)) hb); clear HB; have HB := n0_; clear n0_; (try clear hb); (try clear hb2); (try clear hk); (try clear hi)) | (go_at_call 15; (with_reducible refine (set_Has.calls t124 a1 t125 _ A13.out).mono ?_); rintro e w' ⟨rfl, ⟨nd, rfl⟩⟩))
            go_ret
            exact ⟨by first | rfl | (simp [errW_none, errW_some] <;> rfl) | (simp [*, errW_none, errW_some] <;> rfl), by repeat (first | (with_reducible first | exact HB.out | apply below_alloc | apply pw_below_drewN | apply below_drew1) | exact HB.out)⟩
        · rw [if_neg c11] at H
          exact absurd H (by simp)

/-- THE ONE PURE STATEMENT of haulierlaw02_SetUpto: yours. -/
def haulierlaw02_SetUpto.Pure : Prop := ∀ (a0 : Int) (a1 : Int), (Lit.int .i64 a0).wf = true → (Lit.int .i64 a1).wf = true → ∃ k, haulierlaw02_SetUpto.f k a0 a1 = some true
theorem haulierlaw02_SetUpto.walk (P : haulierlaw02_SetUpto.Pure) (a0 : Int) (a1 : Int) (w : World) (w0 : (Lit.int .i64 a0).wf = true) (w1 : (Lit.int .i64 a1).wf = true) (hT : Go.Proofs.YtgnhokepcdopgaaDoor.SetWalk.SetTab w) :
    Calls Tryd.prog 4 #[.int .i64 a0, .int .i64 a1] w fun e w' => e = .returned (.bool true) ∧ Below w.heap.size w w' := by
  obtain ⟨k, h⟩ := P a0 a1 w0 w1
  refine (haulierlaw02_SetUpto.calls k a0 a1 true w h hT).mono ?_
  rintro e w' ⟨rfl, hd⟩
  exact ⟨rfl, hd⟩

/-! ### set_Within: function 16 -/
def set_Within.f (a0 : Int) (a1 : Int) : Option (Bool) := some ((Go.bits .andNot .u64 a0 a1) == 0)
set_option maxHeartbeats 8000000 in
set_option maxRecDepth 100000 in
theorem set_Within.calls (a0 : Int) (a1 : Int) (r : Bool) (w : World) (h : set_Within.f a0 a1 = some r) :
    Calls Tryd.prog 16 #[.int .u64 a0, .int .u64 a1] w fun e w' => e = .returned (.bool r) ∧ Drawn0 w w' := by
  have H : (some ((Go.bits .andNot .u64 a0 a1) == 0)) = some r := h
  clear h
  obtain rfl := Option.some.inj H
  go_enter Tryd.func16, Tryd.ntmps16
  go_wp2
  go_ret
  exact ⟨by first | rfl | (simp; done) | (simp [*]; done), by repeat (first | exact Drawn0.refl _ | apply Drawn0.step)⟩

/-! ### haulierlaw02_SetOrder: function 5 -/
def haulierlaw02_SetOrder.f (k : Nat) (a0 : Int) (a1 : Int) (a2 : Int) : Option (Bool) := (haulierlaw02_awake.f k).bind fun t126 => ((set_Within.f a0 a1).bind fun t127 => ((set_Within.f a1 a2).bind fun t128 => (if t126 = true then ((set_Within.f a0 a0).bind fun t129 => (if t129 = true then (if t127 = true then (if t128 = true then ((set_Within.f a0 a2).bind fun t130 => (if t130 = true then ((set_Within.f a1 a0).bind fun t131 => (if (t131 == (a0 == a1)) = true then ((set_Within.f 0 a0).bind fun t132 => (some t132)) else (none))) else (none))) else ((set_Within.f a1 a0).bind fun t133 => (if (t133 == (a0 == a1)) = true then ((set_Within.f 0 a0).bind fun t134 => (some t134)) else (none)))) else (if (false == (a0 == a1)) = true then ((set_Within.f 0 a0).bind fun t135 => (some t135)) else (none))) else (none))) else (none))))
theorem haulierlaw02_SetOrder.mono : ∀ a0 a1 a2 k, LeO (haulierlaw02_SetOrder.f k a0 a1 a2) (haulierlaw02_SetOrder.f (k + 1) a0 a1 a2) := by
  intro a0 a1 a2 k
  unfold haulierlaw02_SetOrder.f
  repeat' first
      | (with_reducible exact haulierlaw02_awake.mono _)
      | (with_reducible exact LeO.refl _)
      | (with_reducible exact LeO.none _)
      | (with_reducible refine LeO.ite ?_ ?_)
      | (with_reducible refine LeO.bind ?_ (fun _ => ?_))
      | exact haulierlaw02_awake.mono _
      | exact LeO.none _
      | refine LeO.ite ?_ ?_
      | refine LeO.bind ?_ (fun _ => ?_)
set_option maxHeartbeats 8000000 in
set_option maxRecDepth 100000 in
theorem haulierlaw02_SetOrder.calls (k : Nat) (a0 : Int) (a1 : Int) (a2 : Int) (r : Bool) (w : World) (h : haulierlaw02_SetOrder.f k a0 a1 a2 = some r) (hT : Go.Proofs.YtgnhokepcdopgaaDoor.SetWalk.SetTab w) :
    Calls Tryd.prog 5 #[.int .u64 a0, .int .u64 a1, .int .u64 a2] w fun e w' => e = .returned (.bool r) ∧ Below w.heap.size w w' := by
  have HT := Aside0.mk hT
  clear hT
  have HB := Aside0.mk (Below.refl w.heap.size w)
  have H : ((haulierlaw02_awake.f k).bind fun t126 => ((set_Within.f a0 a1).bind fun t127 => ((set_Within.f a1 a2).bind fun t128 => (if t126 = true then ((set_Within.f a0 a0).bind fun t129 => (if t129 = true then (if t127 = true then (if t128 = true then ((set_Within.f a0 a2).bind fun t130 => (if t130 = true then ((set_Within.f a1 a0).bind fun t131 => (if (t131 == (a0 == a1)) = true then ((set_Within.f 0 a0).bind fun t132 => (some t132)) else (none))) else (none))) else ((set_Within.f a1 a0).bind fun t133 => (if (t133 == (a0 == a1)) = true then ((set_Within.f 0 a0).bind fun t134 => (some t134)) else (none)))) else (if (false == (a0 == a1)) = true then ((set_Within.f 0 a0).bind fun t135 => (some t135)) else (none))) else (none))) else (none))))) = some r := h
  clear h
  replace H := Option.bind_eq_some_iff.mp H
  obtain ⟨t126, A40, H⟩ := H
  replace H : ((set_Within.f a0 a1).bind fun t127 => ((set_Within.f a1 a2).bind fun t128 => (if t126 = true then ((set_Within.f a0 a0).bind fun t129 => (if t129 = true then (if t127 = true then (if t128 = true then ((set_Within.f a0 a2).bind fun t130 => (if t130 = true then ((set_Within.f a1 a0).bind fun t131 => (if (t131 == (a0 == a1)) = true then ((set_Within.f 0 a0).bind fun t132 => (some t132)) else (none))) else (none))) else ((set_Within.f a1 a0).bind fun t133 => (if (t133 == (a0 == a1)) = true then ((set_Within.f 0 a0).bind fun t134 => (some t134)) else (none)))) else (if (false == (a0 == a1)) = true then ((set_Within.f 0 a0).bind fun t135 => (some t135)) else (none))) else (none))) else (none)))) = some r := H
  have A4 := Aside0.mk A40
  clear A40
  replace H := Option.bind_eq_some_iff.mp H
  obtain ⟨t127, A50, H⟩ := H
  replace H : ((set_Within.f a1 a2).bind fun t128 => (if t126 = true then ((set_Within.f a0 a0).bind fun t129 => (if t129 = true then (if t127 = true then (if t128 = true then ((set_Within.f a0 a2).bind fun t130 => (if t130 = true then ((set_Within.f a1 a0).bind fun t131 => (if (t131 == (a0 == a1)) = true then ((set_Within.f 0 a0).bind fun t132 => (some t132)) else (none))) else (none))) else ((set_Within.f a1 a0).bind fun t133 => (if (t133 == (a0 == a1)) = true then ((set_Within.f 0 a0).bind fun t134 => (some t134)) else (none)))) else (if (false == (a0 == a1)) = true then ((set_Within.f 0 a0).bind fun t135 => (some t135)) else (none))) else (none))) else (none))) = some r := H
  have A5 := Aside0.mk A50
  clear A50
  replace H := Option.bind_eq_some_iff.mp H
  obtain ⟨t128, A60, H⟩ := H
  replace H : (if t126 = true then ((set_Within.f a0 a0).bind fun t129 => (if t129 = true then (if t127 = true then (if t128 = true then ((set_Within.f a0 a2).bind fun t130 => (if t130 = true then ((set_Within.f a1 a0).bind fun t131 => (if (t131 == (a0 == a1)) = true then ((set_Within.f 0 a0).bind fun t132 => (some t132)) else (none))) else (none))) else ((set_Within.f a1 a0).bind fun t133 => (if (t133 == (a0 == a1)) = true then ((set_Within.f 0 a0).bind fun t134 => (some t134)) else (none)))) else (if (false == (a0 == a1)) = true then ((set_Within.f 0 a0).bind fun t135 => (some t135)) else (none))) else (none))) else (none)) = some r := H
  have A6 := Aside0.mk A60
  clear A60
  by_cases c7 : t126 = true
  · subst c7
    have H1 : ((set_Within.f a0 a0).bind fun t129 => (if t129 = true then (if t127 = true then (if t128 = true then ((set_Within.f a0 a2).bind fun t130 => (if t130 = true then ((set_Within.f a1 a0).bind fun t131 => (if (t131 == (a0 == a1)) = true then ((set_Within.f 0 a0).bind fun t132 => (some t132)) else (none))) else (none))) else ((set_Within.f a1 a0).bind fun t133 => (if (t133 == (a0 == a1)) = true then ((set_Within.f 0 a0).bind fun t134 => (some t134)) else (none)))) else (if (false == (a0 == a1)) = true then ((set_Within.f 0 a0).bind fun t135 => (some t135)) else (none))) else (none))) = some r := by rw [if_pos rfl] at H; exact H
    clear H
    have H := H1
    clear H1
    replace H := Option.bind_eq_some_iff.mp H
    obtain ⟨t129, A80, H⟩ := H
    replace H : (if t129 = true then (if t127 = true then (if t128 = true then ((set_Within.f a0 a2).bind fun t130 => (if t130 = true then ((set_Within.f a1 a0).bind fun t131 => (if (t131 == (a0 == a1)) = true then ((set_Within.f 0 a0).bind fun t132 => (some t132)) else (none))) else (none))) else ((set_Within.f a1 a0).bind fun t133 => (if (t133 == (a0 == a1)) = true then ((set_Within.f 0 a0).bind fun t134 => (some t134)) else (none)))) else (if (false == (a0 == a1)) = true then ((set_Within.f 0 a0).bind fun t135 => (some t135)) else (none))) else (none)) = some r := H
    have A8 := Aside0.mk A80
    clear A80
    by_cases c9 : t129 = true
    · subst c9
      have H1 : (if t127 = true then (if t128 = true then ((set_Within.f a0 a2).bind fun t130 => (if t130 = true then ((set_Within.f a1 a0).bind fun t131 => (if (t131 == (a0 == a1)) = true then ((set_Within.f 0 a0).bind fun t132 => (some t132)) else (none))) else (none))) else ((set_Within.f a1 a0).bind fun t133 => (if (t133 == (a0 == a1)) = true then ((set_Within.f 0 a0).bind fun t134 => (some t134)) else (none)))) else (if (false == (a0 == a1)) = true then ((set_Within.f 0 a0).bind fun t135 => (some t135)) else (none))) = some r := by rw [if_pos rfl] at H; exact H
      clear H
      have H := H1
      clear H1
      by_cases c10 : t127 = true
      · subst c10
        have H1 : (if t128 = true then ((set_Within.f a0 a2).bind fun t130 => (if t130 = true then ((set_Within.f a1 a0).bind fun t131 => (if (t131 == (a0 == a1)) = true then ((set_Within.f 0 a0).bind fun t132 => (some t132)) else (none))) else (none))) else ((set_Within.f a1 a0).bind fun t133 => (if (t133 == (a0 == a1)) = true then ((set_Within.f 0 a0).bind fun t134 => (some t134)) else (none)))) = some r := by rw [if_pos rfl] at H; exact H
        clear H
        have H := H1
        clear H1
        by_cases c11 : t128 = true
        · subst c11
          have H1 : ((set_Within.f a0 a2).bind fun t130 => (if t130 = true then ((set_Within.f a1 a0).bind fun t131 => (if (t131 == (a0 == a1)) = true then ((set_Within.f 0 a0).bind fun t132 => (some t132)) else (none))) else (none))) = some r := by rw [if_pos rfl] at H; exact H
          clear H
          have H := H1
          clear H1
          replace H := Option.bind_eq_some_iff.mp H
          obtain ⟨t130, A120, H⟩ := H
          replace H : (if t130 = true then ((set_Within.f a1 a0).bind fun t131 => (if (t131 == (a0 == a1)) = true then ((set_Within.f 0 a0).bind fun t132 => (some t132)) else (none))) else (none)) = some r := H
          have A12 := Aside0.mk A120
          clear A120
          by_cases c13 : t130 = true
          · subst c13
            have H1 : ((set_Within.f a1 a0).bind fun t131 => (if (t131 == (a0 == a1)) = true then ((set_Within.f 0 a0).bind fun t132 => (some t132)) else (none))) = some r := by rw [if_pos rfl] at H; exact H
            clear H
            have H := H1
            clear H1
            replace H := Option.bind_eq_some_iff.mp H
            obtain ⟨t131, A140, H⟩ := H
            replace H : (if (t131 == (a0 == a1)) = true then ((set_Within.f 0 a0).bind fun t132 => (some t132)) else (none)) = some r := H
            have A14 := Aside0.mk A140
            clear A140
            by_cases c15 : (t131 == (a0 == a1)) = true
            · rw [if_pos c15] at H
              have c15b0 : (t131 == (a0 == a1)) = true := c15
              (try (have c15b1 : decide (t131 = (a0 == a1)) = true := by simpa using c15))
              (try (have c15b2 : (t131 == (a0 == a1)) = true := by simpa using c15))
              clear c15
              replace H := Option.bind_eq_some_iff.mp H
              obtain ⟨t132, A160, H⟩ := H
              replace H : (some t132) = some r := H
              have A16 := Aside0.mk A160
              clear A160
              obtain rfl := Option.some.inj H
              go_enter Tryd.func5, Tryd.ntmps5
              go_wp2_with (first | ((with_reducible refine gate_callee (f := 11) rfl ?_); refine goesL_ (some 10) rfl rfl Tryd.func11 (by kernel_rfl) rfl #[] rfl (by (try simp only [List.map_toArray, List.map_cons, List.map_nil]); first | done | rfl | (simp only [List.length_drop, List.length_take]; rfl)) ?_; (with_reducible refine (haulierlaw02_awake.calls k  true _ A4.out ?tab).mono ?_); (case tab => exact HT.out.on (by repeat (first | (with_reducible first | exact HB.out | apply below_alloc | apply pw_below_drewN | apply below_drew1) | exact HB.out))); rintro e w17 ⟨rfl, hb⟩; refine ⟨_, rfl, ?_⟩; have n0_ := Aside0.mk (below_step (by repeat (first | (with_reducible first | exact HB.out | apply below_alloc | apply pw_below_drewN | apply below_drew1) | exact HB.out)) hb); clear HB; have HB := n0_; clear n0_; (try clear hb); (try clear hb2); (try clear hk); (try clear hi)) | ((with_reducible refine gate_callee (f := 16) rfl ?_); refine goesL_ (some 13) rfl rfl Tryd.func16 (by kernel_rfl) rfl #[.int .u64 a0, .int .u64 a1] rfl (by (try simp only [List.map_toArray, List.map_cons, List.map_nil]); first | done | rfl | (simp only [List.length_drop, List.length_take]; rfl)) ?_; (with_reducible refine (set_Within.calls a0 a1 true _ A5.out).mono ?_); rintro e w' ⟨rfl, ⟨nd, rfl⟩⟩; refine ⟨_, rfl, ?_⟩) | ((with_reducible refine gate_callee (f := 16) rfl ?_); refine goesL_ (some 16) rfl rfl Tryd.func16 (by kernel_rfl) rfl #[.int .u64 a1, .int .u64 a2] rfl (by (try simp only [List.map_toArray, List.map_cons, List.map_nil]); first | done | rfl | (simp only [List.length_drop, List.length_take]; rfl)) ?_; (with_reducible refine (set_Within.calls a1 a2 true _ A6.out).mono ?_); rintro e w' ⟨rfl, ⟨nd, rfl⟩⟩; refine ⟨_, rfl, ?_⟩) | (go_at_call 16; (with_reducible refine (set_Within.calls a0 a0 true _ A8.out).mono ?_); rintro e w' ⟨rfl, ⟨nd, rfl⟩⟩) | (go_at_call 16; (with_reducible refine (set_Within.calls a0 a2 true _ A12.out).mono ?_); rintro e w' ⟨rfl, ⟨nd, rfl⟩⟩) | (go_at_call 16; (with_reducible refine (set_Within.calls a1 a0 t131 _ A14.out).mono ?_); rintro e w' ⟨rfl, ⟨nd, rfl⟩⟩) | (go_at_call 16; (with_reducible refine (set_Within.calls 0 a0 t132 _ A16.out).mono ?_); rintro e w' ⟨rfl, ⟨nd, rfl⟩⟩))
              go_ret
              exact ⟨by first | rfl | (simp [errW_none, errW_some] <;> rfl) | (simp [*, errW_none, errW_some] <;> rfl), by repeat (first | (with_reducible first | exact HB.out | apply below_alloc | apply pw_below_drewN | apply below_drew1) | exact HB.out)⟩
            · rw [if_neg c15] at H
              exact absurd H (by simp)
          · replace c13 := Bool.eq_false_iff.mpr c13
            subst c13
            have H1 : (none) = some r := by rw [if_neg (show ¬ (false = true) by decide)] at H; exact H
            clear H
            have H := H1
            clear H1
            exact absurd H (by simp)
        · replace c11 := Bool.eq_false_iff.mpr c11
          subst c11
          have H1 : ((set_Within.f a1 a0).bind fun t133 => (if (t133 == (a0 == a1)) = true then ((set_Within.f 0 a0).bind fun t134 => (some t134)) else (none))) = some r := by rw [if_neg (show ¬ (false = true) by decide)] at H; exact H
          clear H
          have H := H1
          clear H1
          replace H := Option.bind_eq_some_iff.mp H
          obtain ⟨t133, A180, H⟩ := H
          replace H : (if (t133 == (a0 == a1)) = true then ((set_Within.f 0 a0).bind fun t134 => (some t134)) else (none)) = some r := H
          have A18 := Aside0.mk A180
          clear A180
          by_cases c19 : (t133 == (a0 == a1)) = true
          · rw [if_pos c19] at H
            have c19b0 : (t133 == (a0 == a1)) = true := c19
            (try (have c19b1 : decide (t133 = (a0 == a1)) = true := by simpa using c19))
            (try (have c19b2 : (t133 == (a0 == a1)) = true := by simpa using c19))
            clear c19
            replace H := Option.bind_eq_some_iff.mp H
            obtain ⟨t134, A200, H⟩ := H
            replace H : (some t134) = some r := H
            have A20 := Aside0.mk A200
            clear A200
            obtain rfl := Option.some.inj H
            go_enter Tryd.func5, Tryd.ntmps5
            go_wp2_with (first | ((with_reducible refine gate_callee (f := 11) rfl ?_); refine goesL_ (some 10) rfl rfl Tryd.func11 (by kernel_rfl) rfl #[] rfl (by (try simp only [List.map_toArray, List.map_cons, List.map_nil]); first | done | rfl | (simp only [List.length_drop, List.length_take]; rfl)) ?_; (with_reducible refine (haulierlaw02_awake.calls k  true _ A4.out ?tab).mono ?_); (case tab => exact HT.out.on (by repeat (first | (with_reducible first | exact HB.out | apply below_alloc | apply pw_below_drewN | apply below_drew1) | exact HB.out))); rintro e w21 ⟨rfl, hb⟩; refine ⟨_, rfl, ?_⟩; have n0_ := Aside0.mk (below_step (by repeat (first | (with_reducible first | exact HB.out | apply below_alloc | apply pw_below_drewN | apply below_drew1) | exact HB.out)) hb); clear HB; have HB := n0_; clear n0_; (try clear hb); (try clear hb2); (try clear hk); (try clear hi)) | ((with_reducible refine gate_callee (f := 16) rfl ?_); refine goesL_ (some 13) rfl rfl Tryd.func16 (by kernel_rfl) rfl #[.int .u64 a0, .int .u64 a1] rfl (by (try simp only [List.map_toArray, List.map_cons, List.map_nil]); first | done | rfl | (simp only [List.length_drop, List.length_take]; rfl)) ?_; (with_reducible refine (set_Within.calls a0 a1 true _ A5.out).mono ?_); rintro e w' ⟨rfl, ⟨nd, rfl⟩⟩; refine ⟨_, rfl, ?_⟩) | ((with_reducible refine gate_callee (f := 16) rfl ?_); refine goesL_ (some 16) rfl rfl Tryd.func16 (by kernel_rfl) rfl #[.int .u64 a1, .int .u64 a2] rfl (by (try simp only [List.map_toArray, List.map_cons, List.map_nil]); first | done | rfl | (simp only [List.length_drop, List.length_take]; rfl)) ?_; (with_reducible refine (set_Within.calls a1 a2 false _ A6.out).mono ?_); rintro e w' ⟨rfl, ⟨nd, rfl⟩⟩; refine ⟨_, rfl, ?_⟩) | (go_at_call 16; (with_reducible refine (set_Within.calls a0 a0 true _ A8.out).mono ?_); rintro e w' ⟨rfl, ⟨nd, rfl⟩⟩) | (go_at_call 16; (with_reducible refine (set_Within.calls a1 a0 t133 _ A18.out).mono ?_); rintro e w' ⟨rfl, ⟨nd, rfl⟩⟩) | (go_at_call 16; (with_reducible refine (set_Within.calls 0 a0 t134 _ A20.out).mono ?_); rintro e w' ⟨rfl, ⟨nd, rfl⟩⟩))
            go_ret
            exact ⟨by first | rfl | (simp [errW_none, errW_some] <;> rfl) | (simp [*, errW_none, errW_some] <;> rfl), by repeat (first | (with_reducible first | exact HB.out | apply below_alloc | apply pw_below_drewN | apply below_drew1) | exact HB.out)⟩
          · rw [if_neg c19] at H
            exact absurd H (by simp)
      · replace c10 := Bool.eq_false_iff.mpr c10
        subst c10
        have H1 : (if (false == (a0 == a1)) = true then ((set_Within.f 0 a0).bind fun t135 => (some t135)) else (none)) = some r := by rw [if_neg (show ¬ (false = true) by decide)] at H; exact H
        clear H
        have H := H1
        clear H1
        by_cases c22 : (false == (a0 == a1)) = true
        · rw [if_pos c22] at H
          have c22b0 : (false == (a0 == a1)) = true := c22
          (try (have c22b1 : decide (false = (a0 == a1)) = true := by simpa using c22))
          (try (have c22b2 : (false == (a0 == a1)) = true := by simpa using c22))
          clear c22
          replace H := Option.bind_eq_some_iff.mp H
          obtain ⟨t135, A230, H⟩ := H
          replace H : (some t135) = some r := H
          have A23 := Aside0.mk A230
          clear A230
          obtain rfl := Option.some.inj H
          go_enter Tryd.func5, Tryd.ntmps5
          go_wp2_with (first | ((with_reducible refine gate_callee (f := 11) rfl ?_); refine goesL_ (some 10) rfl rfl Tryd.func11 (by kernel_rfl) rfl #[] rfl (by (try simp only [List.map_toArray, List.map_cons, List.map_nil]); first | done | rfl | (simp only [List.length_drop, List.length_take]; rfl)) ?_; (with_reducible refine (haulierlaw02_awake.calls k  true _ A4.out ?tab).mono ?_); (case tab => exact HT.out.on (by repeat (first | (with_reducible first | exact HB.out | apply below_alloc | apply pw_below_drewN | apply below_drew1) | exact HB.out))); rintro e w24 ⟨rfl, hb⟩; refine ⟨_, rfl, ?_⟩; have n0_ := Aside0.mk (below_step (by repeat (first | (with_reducible first | exact HB.out | apply below_alloc | apply pw_below_drewN | apply below_drew1) | exact HB.out)) hb); clear HB; have HB := n0_; clear n0_; (try clear hb); (try clear hb2); (try clear hk); (try clear hi)) | ((with_reducible refine gate_callee (f := 16) rfl ?_); refine goesL_ (some 13) rfl rfl Tryd.func16 (by kernel_rfl) rfl #[.int .u64 a0, .int .u64 a1] rfl (by (try simp only [List.map_toArray, List.map_cons, List.map_nil]); first | done | rfl | (simp only [List.length_drop, List.length_take]; rfl)) ?_; (with_reducible refine (set_Within.calls a0 a1 false _ A5.out).mono ?_); rintro e w' ⟨rfl, ⟨nd, rfl⟩⟩; refine ⟨_, rfl, ?_⟩) | ((with_reducible refine gate_callee (f := 16) rfl ?_); refine goesL_ (some 16) rfl rfl Tryd.func16 (by kernel_rfl) rfl #[.int .u64 a1, .int .u64 a2] rfl (by (try simp only [List.map_toArray, List.map_cons, List.map_nil]); first | done | rfl | (simp only [List.length_drop, List.length_take]; rfl)) ?_; (with_reducible refine (set_Within.calls a1 a2 t128 _ A6.out).mono ?_); rintro e w' ⟨rfl, ⟨nd, rfl⟩⟩; refine ⟨_, rfl, ?_⟩) | (go_at_call 16; (with_reducible refine (set_Within.calls a0 a0 true _ A8.out).mono ?_); rintro e w' ⟨rfl, ⟨nd, rfl⟩⟩) | (go_at_call 16; (with_reducible refine (set_Within.calls 0 a0 t135 _ A23.out).mono ?_); rintro e w' ⟨rfl, ⟨nd, rfl⟩⟩))
          go_ret
          exact ⟨by first | rfl | (simp [errW_none, errW_some] <;> rfl) | (simp [*, errW_none, errW_some] <;> rfl), by repeat (first | (with_reducible first | exact HB.out | apply below_alloc | apply pw_below_drewN | apply below_drew1) | exact HB.out)⟩
        · rw [if_neg c22] at H
          exact absurd H (by simp)
    · replace c9 := Bool.eq_false_iff.mpr c9
      subst c9
      have H1 : (none) = some r := by rw [if_neg (show ¬ (false = true) by decide)] at H; exact H
      clear H
      have H := H1
      clear H1
      exact absurd H (by simp)
  · replace c7 := Bool.eq_false_iff.mpr c7
    subst c7
    have H1 : (none) = some r := by rw [if_neg (show ¬ (false = true) by decide)] at H; exact H
    clear H
    have H := H1
    clear H1
    exact absurd H (by simp)

/-- THE ONE PURE STATEMENT of haulierlaw02_SetOrder: yours. -/
def haulierlaw02_SetOrder.Pure : Prop := ∀ (a0 : Int) (a1 : Int) (a2 : Int), (Lit.int .u64 a0).wf = true → (Lit.int .u64 a1).wf = true → (Lit.int .u64 a2).wf = true → ∃ k, haulierlaw02_SetOrder.f k a0 a1 a2 = some true
theorem haulierlaw02_SetOrder.walk (P : haulierlaw02_SetOrder.Pure) (a0 : Int) (a1 : Int) (a2 : Int) (w : World) (w0 : (Lit.int .u64 a0).wf = true) (w1 : (Lit.int .u64 a1).wf = true) (w2 : (Lit.int .u64 a2).wf = true) (hT : Go.Proofs.YtgnhokepcdopgaaDoor.SetWalk.SetTab w) :
    Calls Tryd.prog 5 #[.int .u64 a0, .int .u64 a1, .int .u64 a2] w fun e w' => e = .returned (.bool true) ∧ Below w.heap.size w w' := by
  obtain ⟨k, h⟩ := P a0 a1 a2 w0 w1 w2
  refine (haulierlaw02_SetOrder.calls k a0 a1 a2 true w h hT).mono ?_
  rintro e w' ⟨rfl, hd⟩
  exact ⟨rfl, hd⟩

/-! ### haulierlaw02_SetLaws: function 6 -/
mutual
def haulierlaw02_SetLaws.j0 : Nat → Int → Int → Int → Bool → Bool → Option (Bool)
  | 0, _, _, _, _, _ => none
  | k + 1, x0, x1, x2, x7, x8 => (set_Has.f x0 x2).bind fun t139 => (if t139 = true then (haulierlaw02_SetLaws.j1 k x0 x1 x2 x7 x8 true) else ((set_Has.f x1 x2).bind fun t140 => (haulierlaw02_SetLaws.j1 k x0 x1 x2 x7 x8 t140)))
def haulierlaw02_SetLaws.j1 : Nat → Int → Int → Int → Bool → Bool → Bool → Option (Bool)
  | 0, _, _, _, _, _, _ => none
  | k + 1, x0, x1, x2, x7, x8, x9 => if x7 = true then ((set_Has.f (Go.bits .and .u64 x0 x1) x2).bind fun t141 => (if (t141 == x8) = true then ((set_Has.f (Go.bits .or .u64 x0 x1) x2).bind fun t142 => (if (t142 == x9) = true then ((set_Len.f (Go.bits .or .u64 x0 x1)).bind fun t143 => ((set_Len.f (Go.bits .and .u64 x0 x1)).bind fun t144 => ((set_Len.f x0).bind fun t145 => ((set_Len.f x1).bind fun t146 => (if (wrap64 (t143 + t144)) = (wrap64 (t145 + t146)) then ((set_Within.f (Go.bits .and .u64 x0 x1) x0).bind fun t147 => (if t147 = true then ((set_Within.f x0 (Go.bits .or .u64 x0 x1)).bind fun t148 => (some t148)) else (none))) else (none)))))) else (none))) else (none))) else (none)
end
def haulierlaw02_SetLaws.f (k : Nat) (a0 : Int) (a1 : Int) (a2 : Int) : Option (Bool) := (haulierlaw02_awake.f k).bind fun t136 => ((set_Has.f a0 a2).bind fun t137 => (if t137 = true then ((set_Has.f a1 a2).bind fun t138 => (haulierlaw02_SetLaws.j0 k a0 a1 a2 t136 t138)) else (haulierlaw02_SetLaws.j0 k a0 a1 a2 t136 false)))
theorem haulierlaw02_SetLaws.mono_l : ∀ k, (∀ y0 y1 y2 y3 y4, LeO (haulierlaw02_SetLaws.j0 k y0 y1 y2 y3 y4) (haulierlaw02_SetLaws.j0 (k + 1) y0 y1 y2 y3 y4)) ∧ (∀ y0 y1 y2 y3 y4 y5, LeO (haulierlaw02_SetLaws.j1 k y0 y1 y2 y3 y4 y5) (haulierlaw02_SetLaws.j1 (k + 1) y0 y1 y2 y3 y4 y5))
  | 0 => ⟨fun _ _ _ _ _ r h => by simp [haulierlaw02_SetLaws.j0] at h, fun _ _ _ _ _ _ r h => by simp [haulierlaw02_SetLaws.j1] at h⟩
  | k + 1 => by
    obtain ⟨ih0, ih1⟩ := haulierlaw02_SetLaws.mono_l k
    refine ⟨?_, ?_⟩
    · intro y0 y1 y2 y3 y4
      unfold haulierlaw02_SetLaws.j0
      repeat' first
      | (with_reducible exact ih0 _ _ _ _ _)
      | (with_reducible exact ih1 _ _ _ _ _ _)
      | (with_reducible exact haulierlaw02_awake.mono _)
      | (with_reducible exact LeO.refl _)
      | (with_reducible exact LeO.none _)
      | (with_reducible refine LeO.ite ?_ ?_)
      | (with_reducible refine LeO.bind ?_ (fun _ => ?_))
      | exact ih0 _ _ _ _ _
      | exact ih1 _ _ _ _ _ _
      | exact haulierlaw02_awake.mono _
      | exact LeO.none _
      | refine LeO.ite ?_ ?_
      | refine LeO.bind ?_ (fun _ => ?_)
    · intro y0 y1 y2 y3 y4 y5
      unfold haulierlaw02_SetLaws.j1
      repeat' first
      | (with_reducible exact ih0 _ _ _ _ _)
      | (with_reducible exact ih1 _ _ _ _ _ _)
      | (with_reducible exact haulierlaw02_awake.mono _)
      | (with_reducible exact LeO.refl _)
      | (with_reducible exact LeO.none _)
      | (with_reducible refine LeO.ite ?_ ?_)
      | (with_reducible refine LeO.bind ?_ (fun _ => ?_))
      | exact ih0 _ _ _ _ _
      | exact ih1 _ _ _ _ _ _
      | exact haulierlaw02_awake.mono _
      | exact LeO.none _
      | refine LeO.ite ?_ ?_
      | refine LeO.bind ?_ (fun _ => ?_)
theorem haulierlaw02_SetLaws.mono : ∀ a0 a1 a2 k, LeO (haulierlaw02_SetLaws.f k a0 a1 a2) (haulierlaw02_SetLaws.f (k + 1) a0 a1 a2) := by
  intro a0 a1 a2 k
  obtain ⟨ih0, ih1⟩ := haulierlaw02_SetLaws.mono_l k
  unfold haulierlaw02_SetLaws.f
  repeat' first
      | (with_reducible exact ih0 _ _ _ _ _)
      | (with_reducible exact ih1 _ _ _ _ _ _)
      | (with_reducible exact haulierlaw02_awake.mono _)
      | (with_reducible exact LeO.refl _)
      | (with_reducible exact LeO.none _)
      | (with_reducible refine LeO.ite ?_ ?_)
      | (with_reducible refine LeO.bind ?_ (fun _ => ?_))
      | exact ih0 _ _ _ _ _
      | exact ih1 _ _ _ _ _ _
      | exact haulierlaw02_awake.mono _
      | exact LeO.none _
      | refine LeO.ite ?_ ?_
      | refine LeO.bind ?_ (fun _ => ?_)
set_option maxHeartbeats 8000000 in
set_option maxRecDepth 100000 in
theorem haulierlaw02_SetLaws.calls (k : Nat) (a0 : Int) (a1 : Int) (a2 : Int) (r : Bool) (w : World) (h : haulierlaw02_SetLaws.f k a0 a1 a2 = some r) (hT : Go.Proofs.YtgnhokepcdopgaaDoor.SetWalk.SetTab w) :
    Calls Tryd.prog 6 #[.int .u64 a0, .int .u64 a1, .int .i64 a2] w fun e w' => e = .returned (.bool r) ∧ Below w.heap.size w w' := by
  have HT := Aside0.mk hT
  clear hT
  have HB := Aside0.mk (Below.refl w.heap.size w)
  have H : ((haulierlaw02_awake.f k).bind fun t136 => ((set_Has.f a0 a2).bind fun t137 => (if t137 = true then ((set_Has.f a1 a2).bind fun t138 => (haulierlaw02_SetLaws.j0 k a0 a1 a2 t136 t138)) else (haulierlaw02_SetLaws.j0 k a0 a1 a2 t136 false)))) = some r := h
  clear h
  replace H := Option.bind_eq_some_iff.mp H
  obtain ⟨t136, A40, H⟩ := H
  replace H : ((set_Has.f a0 a2).bind fun t137 => (if t137 = true then ((set_Has.f a1 a2).bind fun t138 => (haulierlaw02_SetLaws.j0 k a0 a1 a2 t136 t138)) else (haulierlaw02_SetLaws.j0 k a0 a1 a2 t136 false))) = some r := H
  have A4 := Aside0.mk A40
  clear A40
  have HC5 := Aside0.mk H
  clear H
  go_enter Tryd.func6, Tryd.ntmps6
  go_upto_region 2 with (first | ((with_reducible refine gate_callee (f := 11) rfl ?_); refine goesL_ (some 10) rfl rfl Tryd.func11 (by kernel_rfl) rfl #[] rfl (by (try simp only [List.map_toArray, List.map_cons, List.map_nil]); first | done | rfl | (simp only [List.length_drop, List.length_take]; rfl)) ?_; (with_reducible refine (haulierlaw02_awake.calls k  t136 _ A4.out ?tab).mono ?_); (case tab => exact HT.out.on (by repeat (first | (with_reducible first | exact HB.out | apply below_alloc | apply pw_below_drewN | apply below_drew1) | exact HB.out))); rintro e w6 ⟨rfl, hb⟩; refine ⟨_, rfl, ?_⟩; have n0_ := Aside0.mk (below_step (by repeat (first | (with_reducible first | exact HB.out | apply below_alloc | apply pw_below_drewN | apply below_drew1) | exact HB.out)) hb); clear HB; have HB := n0_; clear n0_; (try clear hb); (try clear hb2); (try clear hk); (try clear hi)))
  (try simp only [Act.put, List.setIfInBounds_toArray, List.set_cons_zero, List.set_cons_succ])
  go_cut [8] (fun v8 wc => ∃ (kq : Nat) (x8_4 : Bool), v8 = .bool x8_4 ∧ Aside0 (haulierlaw02_SetLaws.j0 kq a0 a1 a2 t136 x8_4 = some r) ∧ Aside0 (kq ≤ k) ∧ Aside0 (Below w.heap.size w wc))
  case first =>
    have H := HC5.out
    clear HC5
    replace H := Option.bind_eq_some_iff.mp H
    obtain ⟨t137, A70, H⟩ := H
    replace H : (if t137 = true then ((set_Has.f a1 a2).bind fun t138 => (haulierlaw02_SetLaws.j0 k a0 a1 a2 t136 t138)) else (haulierlaw02_SetLaws.j0 k a0 a1 a2 t136 false)) = some r := H
    have A7 := Aside0.mk A70
    clear A70
    by_cases c8 : t137 = true
    · subst c8
      have H1 : ((set_Has.f a1 a2).bind fun t138 => (haulierlaw02_SetLaws.j0 k a0 a1 a2 t136 t138)) = some r := by rw [if_pos rfl] at H; exact H
      clear H
      have H := H1
      clear H1
      replace H := Option.bind_eq_some_iff.mp H
      obtain ⟨t138, A90, H⟩ := H
      replace H : (haulierlaw02_SetLaws.j0 k a0 a1 a2 t136 t138) = some r := H
      have A9 := Aside0.mk A90
      clear A90
      have H' := Aside0.mk H
      clear H
      go_wp2_with (first | ((with_reducible refine gate_callee (f := 15) rfl ?_); refine goesL_ (some 13) rfl rfl Tryd.func15 (by kernel_rfl) rfl #[.int .u64 a0, .int .i64 a2] rfl (by (try simp only [List.map_toArray, List.map_cons, List.map_nil]); first | done | rfl | (simp only [List.length_drop, List.length_take]; rfl)) ?_; (with_reducible refine (set_Has.calls a0 a2 true _ A7.out).mono ?_); rintro e w' ⟨rfl, ⟨nd, rfl⟩⟩; refine ⟨_, rfl, ?_⟩) | (go_at_call 15; (with_reducible refine (set_Has.calls a1 a2 t138 _ A9.out).mono ?_); rintro e w' ⟨rfl, ⟨nd, rfl⟩⟩))
      go_meet
      case rel => exact ⟨_, (t138), (by first | rfl | (simp; done) | (simp [*]; done)), H', ⟨by first | omega | exact Nat.le_refl _⟩, ⟨by repeat (first | (with_reducible first | exact HB.out | apply below_alloc | apply pw_below_drewN | apply below_drew1) | exact HB.out)⟩⟩
    · replace c8 := Bool.eq_false_iff.mpr c8
      subst c8
      have H1 : (haulierlaw02_SetLaws.j0 k a0 a1 a2 t136 false) = some r := by rw [if_neg (show ¬ (false = true) by decide)] at H; exact H
      clear H
      have H := H1
      clear H1
      have H' := Aside0.mk H
      clear H
      go_wp2_with (first | ((with_reducible refine gate_callee (f := 15) rfl ?_); refine goesL_ (some 13) rfl rfl Tryd.func15 (by kernel_rfl) rfl #[.int .u64 a0, .int .i64 a2] rfl (by (try simp only [List.map_toArray, List.map_cons, List.map_nil]); first | done | rfl | (simp only [List.length_drop, List.length_take]; rfl)) ?_; (with_reducible refine (set_Has.calls a0 a2 false _ A7.out).mono ?_); rintro e w' ⟨rfl, ⟨nd, rfl⟩⟩; refine ⟨_, rfl, ?_⟩))
      go_meet
      case rel => exact ⟨_, (false), (by first | rfl | (simp; done) | (simp [*]; done)), H', ⟨by first | omega | exact Nat.le_refl _⟩, ⟨by repeat (first | (with_reducible first | exact HB.out | apply below_alloc | apply pw_below_drewN | apply below_drew1) | exact HB.out)⟩⟩
  case rest =>
    clear HC5
    try clear c1
    try clear p2
    try clear c6
    try clear c8
    obtain ⟨kq, x8_4, rfl, HA, HJ4, HB⟩ := hcut
    cases kq with
    | zero => exact absurd HA.out (by simp [haulierlaw02_SetLaws.j0])
    | succ kj4 =>
      have H := HA.out
      clear HA
      simp only [haulierlaw02_SetLaws.j0] at H
      have HC10 := Aside0.mk H
      clear H
      go_upto_region 3 with (fail)
      go_cut [9] (fun v9 wc => ∃ (kq : Nat) (x9_9 : Bool), v9 = .bool x9_9 ∧ Aside0 (haulierlaw02_SetLaws.j1 kq a0 a1 a2 t136 x8_4 x9_9 = some r) ∧ Aside0 (kq ≤ kj4) ∧ Aside0 (Below w.heap.size w wc))
      case first =>
        have H := HC10.out
        clear HC10
        replace H := Option.bind_eq_some_iff.mp H
        obtain ⟨t139, A110, H⟩ := H
        replace H : (if t139 = true then (haulierlaw02_SetLaws.j1 kj4 a0 a1 a2 t136 x8_4 true) else ((set_Has.f a1 a2).bind fun t140 => (haulierlaw02_SetLaws.j1 kj4 a0 a1 a2 t136 x8_4 t140))) = some r := H
        have A11 := Aside0.mk A110
        clear A110
        by_cases c12 : t139 = true
        · subst c12
          have H1 : (haulierlaw02_SetLaws.j1 kj4 a0 a1 a2 t136 x8_4 true) = some r := by rw [if_pos rfl] at H; exact H
          clear H
          have H := H1
          clear H1
          have H' := Aside0.mk H
          clear H
          go_wp2_with (first | ((with_reducible refine gate_callee (f := 15) rfl ?_); refine goesL_ (some 21) rfl rfl Tryd.func15 (by kernel_rfl) rfl #[.int .u64 a0, .int .i64 a2] rfl (by (try simp only [List.map_toArray, List.map_cons, List.map_nil]); first | done | rfl | (simp only [List.length_drop, List.length_take]; rfl)) ?_; (with_reducible refine (set_Has.calls a0 a2 true _ A11.out).mono ?_); rintro e w' ⟨rfl, ⟨nd, rfl⟩⟩; refine ⟨_, rfl, ?_⟩))
          go_meet
          case rel => exact ⟨_, (true), (by first | rfl | (simp; done) | (simp [*]; done)), H', ⟨by have := HJ4.out; first | omega | exact Nat.le_refl _⟩, ⟨by repeat (first | (with_reducible first | exact HB.out | apply below_alloc | apply pw_below_drewN | apply below_drew1) | exact HB.out)⟩⟩
        · replace c12 := Bool.eq_false_iff.mpr c12
          subst c12
          have H1 : ((set_Has.f a1 a2).bind fun t140 => (haulierlaw02_SetLaws.j1 kj4 a0 a1 a2 t136 x8_4 t140)) = some r := by rw [if_neg (show ¬ (false = true) by decide)] at H; exact H
          clear H
          have H := H1
          clear H1
          replace H := Option.bind_eq_some_iff.mp H
          obtain ⟨t140, A130, H⟩ := H
          replace H : (haulierlaw02_SetLaws.j1 kj4 a0 a1 a2 t136 x8_4 t140) = some r := H
          have A13 := Aside0.mk A130
          clear A130
          have H' := Aside0.mk H
          clear H
          go_wp2_with (first | ((with_reducible refine gate_callee (f := 15) rfl ?_); refine goesL_ (some 21) rfl rfl Tryd.func15 (by kernel_rfl) rfl #[.int .u64 a0, .int .i64 a2] rfl (by (try simp only [List.map_toArray, List.map_cons, List.map_nil]); first | done | rfl | (simp only [List.length_drop, List.length_take]; rfl)) ?_; (with_reducible refine (set_Has.calls a0 a2 false _ A11.out).mono ?_); rintro e w' ⟨rfl, ⟨nd, rfl⟩⟩; refine ⟨_, rfl, ?_⟩) | (go_at_call 15; (with_reducible refine (set_Has.calls a1 a2 t140 _ A13.out).mono ?_); rintro e w' ⟨rfl, ⟨nd, rfl⟩⟩))
          go_meet
          case rel => exact ⟨_, (t140), (by first | rfl | (simp; done) | (simp [*]; done)), H', ⟨by have := HJ4.out; first | omega | exact Nat.le_refl _⟩, ⟨by repeat (first | (with_reducible first | exact HB.out | apply below_alloc | apply pw_below_drewN | apply below_drew1) | exact HB.out)⟩⟩
      case rest =>
        clear HC10
        try clear c1
        try clear p2
        try clear c6
        try clear c8
        try clear c11
        try clear c12
        try clear p2
        obtain ⟨kq, x9_9, rfl, HA, HJ9, HB⟩ := hcut
        cases kq with
        | zero => exact absurd HA.out (by simp [haulierlaw02_SetLaws.j1])
        | succ kj9 =>
          have H := HA.out
          clear HA
          simp only [haulierlaw02_SetLaws.j1] at H
          by_cases c14 : t136 = true
          · subst c14
            have H1 : ((set_Has.f (Go.bits .and .u64 a0 a1) a2).bind fun t141 => (if (t141 == x8_4) = true then ((set_Has.f (Go.bits .or .u64 a0 a1) a2).bind fun t142 => (if (t142 == x9_9) = true then ((set_Len.f (Go.bits .or .u64 a0 a1)).bind fun t143 => ((set_Len.f (Go.bits .and .u64 a0 a1)).bind fun t144 => ((set_Len.f a0).bind fun t145 => ((set_Len.f a1).bind fun t146 => (if (wrap64 (t143 + t144)) = (wrap64 (t145 + t146)) then ((set_Within.f (Go.bits .and .u64 a0 a1) a0).bind fun t147 => (if t147 = true then ((set_Within.f a0 (Go.bits .or .u64 a0 a1)).bind fun t148 => (some t148)) else (none))) else (none)))))) else (none))) else (none))) = some r := by rw [if_pos rfl] at H; exact H
            clear H
            have H := H1
            clear H1
            replace H := Option.bind_eq_some_iff.mp H
            obtain ⟨t141, A150, H⟩ := H
            replace H : (if (t141 == x8_4) = true then ((set_Has.f (Go.bits .or .u64 a0 a1) a2).bind fun t142 => (if (t142 == x9_9) = true then ((set_Len.f (Go.bits .or .u64 a0 a1)).bind fun t143 => ((set_Len.f (Go.bits .and .u64 a0 a1)).bind fun t144 => ((set_Len.f a0).bind fun t145 => ((set_Len.f a1).bind fun t146 => (if (wrap64 (t143 + t144)) = (wrap64 (t145 + t146)) then ((set_Within.f (Go.bits .and .u64 a0 a1) a0).bind fun t147 => (if t147 = true then ((set_Within.f a0 (Go.bits .or .u64 a0 a1)).bind fun t148 => (some t148)) else (none))) else (none)))))) else (none))) else (none)) = some r := H
            have A15 := Aside0.mk A150
            clear A150
            by_cases c16 : (t141 == x8_4) = true
            · rw [if_pos c16] at H
              have c16b0 : (t141 == x8_4) = true := c16
              (try (have c16b1 : decide (t141 = x8_4) = true := by simpa using c16))
              (try (have c16b2 : (t141 == x8_4) = true := by simpa using c16))
              clear c16
              replace H := Option.bind_eq_some_iff.mp H
              obtain ⟨t142, A170, H⟩ := H
              replace H : (if (t142 == x9_9) = true then ((set_Len.f (Go.bits .or .u64 a0 a1)).bind fun t143 => ((set_Len.f (Go.bits .and .u64 a0 a1)).bind fun t144 => ((set_Len.f a0).bind fun t145 => ((set_Len.f a1).bind fun t146 => (if (wrap64 (t143 + t144)) = (wrap64 (t145 + t146)) then ((set_Within.f (Go.bits .and .u64 a0 a1) a0).bind fun t147 => (if t147 = true then ((set_Within.f a0 (Go.bits .or .u64 a0 a1)).bind fun t148 => (some t148)) else (none))) else (none)))))) else (none)) = some r := H
              have A17 := Aside0.mk A170
              clear A170
              by_cases c18 : (t142 == x9_9) = true
              · rw [if_pos c18] at H
                have c18b0 : (t142 == x9_9) = true := c18
                (try (have c18b1 : decide (t142 = x9_9) = true := by simpa using c18))
                (try (have c18b2 : (t142 == x9_9) = true := by simpa using c18))
                clear c18
                replace H := Option.bind_eq_some_iff.mp H
                obtain ⟨t143, A190, H⟩ := H
                replace H : ((set_Len.f (Go.bits .and .u64 a0 a1)).bind fun t144 => ((set_Len.f a0).bind fun t145 => ((set_Len.f a1).bind fun t146 => (if (wrap64 (t143 + t144)) = (wrap64 (t145 + t146)) then ((set_Within.f (Go.bits .and .u64 a0 a1) a0).bind fun t147 => (if t147 = true then ((set_Within.f a0 (Go.bits .or .u64 a0 a1)).bind fun t148 => (some t148)) else (none))) else (none))))) = some r := H
                have A19 := Aside0.mk A190
                clear A190
                replace H := Option.bind_eq_some_iff.mp H
                obtain ⟨t144, A200, H⟩ := H
                replace H : ((set_Len.f a0).bind fun t145 => ((set_Len.f a1).bind fun t146 => (if (wrap64 (t143 + t144)) = (wrap64 (t145 + t146)) then ((set_Within.f (Go.bits .and .u64 a0 a1) a0).bind fun t147 => (if t147 = true then ((set_Within.f a0 (Go.bits .or .u64 a0 a1)).bind fun t148 => (some t148)) else (none))) else (none)))) = some r := H
                have A20 := Aside0.mk A200
                clear A200
                replace H := Option.bind_eq_some_iff.mp H
                obtain ⟨t145, A210, H⟩ := H
                replace H : ((set_Len.f a1).bind fun t146 => (if (wrap64 (t143 + t144)) = (wrap64 (t145 + t146)) then ((set_Within.f (Go.bits .and .u64 a0 a1) a0).bind fun t147 => (if t147 = true then ((set_Within.f a0 (Go.bits .or .u64 a0 a1)).bind fun t148 => (some t148)) else (none))) else (none))) = some r := H
                have A21 := Aside0.mk A210
                clear A210
                replace H := Option.bind_eq_some_iff.mp H
                obtain ⟨t146, A220, H⟩ := H
                replace H : (if (wrap64 (t143 + t144)) = (wrap64 (t145 + t146)) then ((set_Within.f (Go.bits .and .u64 a0 a1) a0).bind fun t147 => (if t147 = true then ((set_Within.f a0 (Go.bits .or .u64 a0 a1)).bind fun t148 => (some t148)) else (none))) else (none)) = some r := H
                have A22 := Aside0.mk A220
                clear A220
                by_cases c23 : (wrap64 (t143 + t144)) = (wrap64 (t145 + t146))
                · rw [if_pos c23] at H
                  have c23b0 : ((wrap64 (t143 + t144)) == (wrap64 (t145 + t146))) = true := beq_iff_eq.mpr c23
                  have c23b1 : ((wrap64 (t143 + t144)) != (wrap64 (t145 + t146))) = false := bne_eq_false_iff_eq.mpr c23
                  clear c23
                  replace H := Option.bind_eq_some_iff.mp H
                  obtain ⟨t147, A240, H⟩ := H
                  replace H : (if t147 = true then ((set_Within.f a0 (Go.bits .or .u64 a0 a1)).bind fun t148 => (some t148)) else (none)) = some r := H
                  have A24 := Aside0.mk A240
                  clear A240
                  by_cases c25 : t147 = true
                  · subst c25
                    have H1 : ((set_Within.f a0 (Go.bits .or .u64 a0 a1)).bind fun t148 => (some t148)) = some r := by rw [if_pos rfl] at H; exact H
                    clear H
                    have H := H1
                    clear H1
                    replace H := Option.bind_eq_some_iff.mp H
                    obtain ⟨t148, A260, H⟩ := H
                    replace H : (some t148) = some r := H
                    have A26 := Aside0.mk A260
                    clear A260
                    obtain rfl := Option.some.inj H
                    go_wp2_with (first | (go_at_call 15; (with_reducible refine (set_Has.calls (Go.bits .and .u64 a0 a1) a2 t141 _ A15.out).mono ?_); rintro e w' ⟨rfl, ⟨nd, rfl⟩⟩) | (go_at_call 15; (with_reducible refine (set_Has.calls (Go.bits .or .u64 a0 a1) a2 t142 _ A17.out).mono ?_); rintro e w' ⟨rfl, ⟨nd, rfl⟩⟩) | (go_at_call 13; (with_reducible refine (set_Len.calls (Go.bits .or .u64 a0 a1) t143 _ A19.out).mono ?_); rintro e w' ⟨rfl, ⟨nd, rfl⟩⟩) | (go_at_call 13; (with_reducible refine (set_Len.calls (Go.bits .and .u64 a0 a1) t144 _ A20.out).mono ?_); rintro e w' ⟨rfl, ⟨nd, rfl⟩⟩) | (go_at_call 13; (with_reducible refine (set_Len.calls a0 t145 _ A21.out).mono ?_); rintro e w' ⟨rfl, ⟨nd, rfl⟩⟩) | (go_at_call 13; (with_reducible refine (set_Len.calls a1 t146 _ A22.out).mono ?_); rintro e w' ⟨rfl, ⟨nd, rfl⟩⟩) | (go_at_call 16; (with_reducible refine (set_Within.calls (Go.bits .and .u64 a0 a1) a0 true _ A24.out).mono ?_); rintro e w' ⟨rfl, ⟨nd, rfl⟩⟩) | (go_at_call 16; (with_reducible refine (set_Within.calls a0 (Go.bits .or .u64 a0 a1) t148 _ A26.out).mono ?_); rintro e w' ⟨rfl, ⟨nd, rfl⟩⟩))
                    go_ret
                    exact ⟨by first | rfl | (simp [errW_none, errW_some] <;> rfl) | (simp [*, errW_none, errW_some] <;> rfl), by repeat (first | (with_reducible first | exact HB.out | apply below_alloc | apply pw_below_drewN | apply below_drew1) | exact HB.out)⟩
                  · replace c25 := Bool.eq_false_iff.mpr c25
                    subst c25
                    have H1 : (none) = some r := by rw [if_neg (show ¬ (false = true) by decide)] at H; exact H
                    clear H
                    have H := H1
                    clear H1
                    exact absurd H (by simp)
                · rw [if_neg c23] at H
                  exact absurd H (by simp)
              · rw [if_neg c18] at H
                exact absurd H (by simp)
            · rw [if_neg c16] at H
              exact absurd H (by simp)
          · replace c14 := Bool.eq_false_iff.mpr c14
            subst c14
            have H1 : (none) = some r := by rw [if_neg (show ¬ (false = true) by decide)] at H; exact H
            clear H
            have H := H1
            clear H1
            exact absurd H (by simp)

/-- THE ONE PURE STATEMENT of haulierlaw02_SetLaws: yours. -/
def haulierlaw02_SetLaws.Pure : Prop := ∀ (a0 : Int) (a1 : Int) (a2 : Int), (Lit.int .u64 a0).wf = true → (Lit.int .u64 a1).wf = true → (Lit.int .i64 a2).wf = true → ∃ k, haulierlaw02_SetLaws.f k a0 a1 a2 = some true
theorem haulierlaw02_SetLaws.walk (P : haulierlaw02_SetLaws.Pure) (a0 : Int) (a1 : Int) (a2 : Int) (w : World) (w0 : (Lit.int .u64 a0).wf = true) (w1 : (Lit.int .u64 a1).wf = true) (w2 : (Lit.int .i64 a2).wf = true) (hT : Go.Proofs.YtgnhokepcdopgaaDoor.SetWalk.SetTab w) :
    Calls Tryd.prog 6 #[.int .u64 a0, .int .u64 a1, .int .i64 a2] w fun e w' => e = .returned (.bool true) ∧ Below w.heap.size w w' := by
  obtain ⟨k, h⟩ := P a0 a1 a2 w0 w1 w2
  refine (haulierlaw02_SetLaws.calls k a0 a1 a2 true w h hT).mono ?_
  rintro e w' ⟨rfl, hd⟩
  exact ⟨rfl, hd⟩

end Go.Proofs.YtgnhokepcdopgaaDoor.PA
