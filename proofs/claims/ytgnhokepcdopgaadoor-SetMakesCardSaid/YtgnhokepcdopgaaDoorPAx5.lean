-- Printed for this claim by wip/tools/xprint.py over the kit's print; the contracts marked BY HAND are this session's own.
import Derived.Test.YtgnhokepcdopgaaDoorPAx0
import Derived.Test.YtgnhokepcdopgaaDoorPAx1
import Derived.Test.YtgnhokepcdopgaaDoorPAx2
import Derived.Test.YtgnhokepcdopgaaDoorPAx3
namespace Go.Proofs.YtgnhokepcdopgaaDoor.PA
open Go.RowKit Go.Proofs.YtgnhokepcdopgaaDoorW.PrintWords Go.Proofs.YtgnhokepcdopgaaDoorW.PrintLast Go.Proofs.YtgnhokepcdopgaaDoorW.PrintMore
attribute [local go_sem] max2_int min2_int max_two min_two max_three min_three max_four min_four   -- for this text's walks alone
set_option linter.unusedVariables false
set_option linter.unusedSimpArgs false

/-! ### haulierlaw02_SetBack: function 8 -/
mutual
def haulierlaw02_SetBack.j0 : Nat → Int → Int → Int → Bool → Bool → Option (Bool)
  | 0, _, _, _, _, _ => none
  | k + 1, x0, x1, x2, x7, x21 => if x21 = true then (some x7) else ((set_With.f x0 x1).bind fun t180 => ((set_Without.f x0 x1).bind fun t181 => (if x1 = x2 then (haulierlaw02_SetBack.j1 k x0 x1 t180 t181 true) else ((set_Has.f t180 x2).bind fun t182 => ((set_Has.f x0 x2).bind fun t183 => (if (t182 == t183) = true then ((set_Has.f t181 x2).bind fun t184 => ((set_Has.f x0 x2).bind fun t185 => (haulierlaw02_SetBack.j1 k x0 x1 t180 t181 (t184 == t185)))) else (haulierlaw02_SetBack.j1 k x0 x1 t180 t181 false)))))))
def haulierlaw02_SetBack.j1 : Nat → Int → Int → Int → Int → Bool → Option (Bool)
  | 0, _, _, _, _, _ => none
  | k + 1, x0, x1, x8, x9, x10 => (set_Has.f x8 x1).bind fun t186 => (if t186 = true then ((set_Has.f x9 x1).bind fun t187 => (if t187 = true then (none) else ((set_Without.f x8 x1).bind fun t188 => (if t188 = x9 then ((set_With.f x9 x1).bind fun t189 => (if t189 = x8 then (if x10 = true then ((set_Within.f x9 x0).bind fun t190 => (if t190 = true then ((set_Within.f x0 x8).bind fun t191 => (some t191)) else (none))) else (none)) else (none))) else (none))))) else (none))
end
def haulierlaw02_SetBack.f (k : Nat) (a0 : Int) (a1 : Int) (a2 : Int) : Option (Bool) := (haulierlaw02_awake.f k).bind fun t179 => (if t179 = true then (if a1 < 0 then (haulierlaw02_SetBack.j0 k a0 a1 a2 t179 true) else (haulierlaw02_SetBack.j0 k a0 a1 a2 t179 (decide (a1 > 63)))) else (haulierlaw02_SetBack.j0 k a0 a1 a2 t179 true))
theorem haulierlaw02_SetBack.mono_l : ∀ k, (∀ y0 y1 y2 y3 y4, LeO (haulierlaw02_SetBack.j0 k y0 y1 y2 y3 y4) (haulierlaw02_SetBack.j0 (k + 1) y0 y1 y2 y3 y4)) ∧ (∀ y0 y1 y2 y3 y4, LeO (haulierlaw02_SetBack.j1 k y0 y1 y2 y3 y4) (haulierlaw02_SetBack.j1 (k + 1) y0 y1 y2 y3 y4))
  | 0 => ⟨fun _ _ _ _ _ r h => by simp [haulierlaw02_SetBack.j0] at h, fun _ _ _ _ _ r h => by simp [haulierlaw02_SetBack.j1] at h⟩
  | k + 1 => by
    obtain ⟨ih0, ih1⟩ := haulierlaw02_SetBack.mono_l k
    refine ⟨?_, ?_⟩
    · intro y0 y1 y2 y3 y4
      unfold haulierlaw02_SetBack.j0
      repeat' first
      | (with_reducible exact ih0 _ _ _ _ _)
      | (with_reducible exact ih1 _ _ _ _ _)
      | (with_reducible exact haulierlaw02_awake.mono _)
      | (with_reducible exact LeO.refl _)
      | (with_reducible exact LeO.none _)
      | (with_reducible refine LeO.ite ?_ ?_)
      | (with_reducible refine LeO.bind ?_ (fun _ => ?_))
      | exact ih0 _ _ _ _ _
      | exact ih1 _ _ _ _ _
      | exact haulierlaw02_awake.mono _
      | exact LeO.none _
      | refine LeO.ite ?_ ?_
      | refine LeO.bind ?_ (fun _ => ?_)
    · intro y0 y1 y2 y3 y4
      unfold haulierlaw02_SetBack.j1
      repeat' first
      | (with_reducible exact ih0 _ _ _ _ _)
      | (with_reducible exact ih1 _ _ _ _ _)
      | (with_reducible exact haulierlaw02_awake.mono _)
      | (with_reducible exact LeO.refl _)
      | (with_reducible exact LeO.none _)
      | (with_reducible refine LeO.ite ?_ ?_)
      | (with_reducible refine LeO.bind ?_ (fun _ => ?_))
      | exact ih0 _ _ _ _ _
      | exact ih1 _ _ _ _ _
      | exact haulierlaw02_awake.mono _
      | exact LeO.none _
      | refine LeO.ite ?_ ?_
      | refine LeO.bind ?_ (fun _ => ?_)
theorem haulierlaw02_SetBack.mono : ∀ a0 a1 a2 k, LeO (haulierlaw02_SetBack.f k a0 a1 a2) (haulierlaw02_SetBack.f (k + 1) a0 a1 a2) := by
  intro a0 a1 a2 k
  obtain ⟨ih0, ih1⟩ := haulierlaw02_SetBack.mono_l k
  unfold haulierlaw02_SetBack.f
  repeat' first
      | (with_reducible exact ih0 _ _ _ _ _)
      | (with_reducible exact ih1 _ _ _ _ _)
      | (with_reducible exact haulierlaw02_awake.mono _)
      | (with_reducible exact LeO.refl _)
      | (with_reducible exact LeO.none _)
      | (with_reducible refine LeO.ite ?_ ?_)
      | (with_reducible refine LeO.bind ?_ (fun _ => ?_))
      | exact ih0 _ _ _ _ _
      | exact ih1 _ _ _ _ _
      | exact haulierlaw02_awake.mono _
      | exact LeO.none _
      | refine LeO.ite ?_ ?_
      | refine LeO.bind ?_ (fun _ => ?_)
set_option maxHeartbeats 8000000 in
set_option maxRecDepth 100000 in
theorem haulierlaw02_SetBack.calls (k : Nat) (a0 : Int) (a1 : Int) (a2 : Int) (r : Bool) (w : World) (h : haulierlaw02_SetBack.f k a0 a1 a2 = some r) (hT : Go.Proofs.YtgnhokepcdopgaaDoor.SetWalk.SetTab w) :
    Calls Tryd.prog 8 #[.int .u64 a0, .int .i64 a1, .int .i64 a2] w fun e w' => e = .returned (.bool r) ∧ Below w.heap.size w w' := by
  have HT := Aside0.mk hT
  clear hT
  have HB := Aside0.mk (Below.refl w.heap.size w)
  have H : ((haulierlaw02_awake.f k).bind fun t179 => (if t179 = true then (if a1 < 0 then (haulierlaw02_SetBack.j0 k a0 a1 a2 t179 true) else (haulierlaw02_SetBack.j0 k a0 a1 a2 t179 (decide (a1 > 63)))) else (haulierlaw02_SetBack.j0 k a0 a1 a2 t179 true))) = some r := h
  clear h
  replace H := Option.bind_eq_some_iff.mp H
  obtain ⟨t179, A40, H⟩ := H
  replace H : (if t179 = true then (if a1 < 0 then (haulierlaw02_SetBack.j0 k a0 a1 a2 t179 true) else (haulierlaw02_SetBack.j0 k a0 a1 a2 t179 (decide (a1 > 63)))) else (haulierlaw02_SetBack.j0 k a0 a1 a2 t179 true)) = some r := H
  have A4 := Aside0.mk A40
  clear A40
  have HC5 := Aside0.mk H
  clear H
  go_enter Tryd.func8, Tryd.ntmps8
  go_upto_region 2 with (first | ((with_reducible refine gate_callee (f := 11) rfl ?_); refine goesL_ (some 11) rfl rfl Tryd.func11 (by kernel_rfl) rfl #[] rfl (by (try simp only [List.map_toArray, List.map_cons, List.map_nil]); first | done | rfl | (simp only [List.length_drop, List.length_take]; rfl)) ?_; (with_reducible refine (haulierlaw02_awake.calls k  t179 _ A4.out ?tab).mono ?_); (case tab => exact HT.out.on (by repeat (first | (with_reducible first | exact HB.out | apply below_alloc | apply pw_below_drewN | apply below_drew1) | exact HB.out))); rintro e w6 ⟨rfl, hb⟩; refine ⟨_, rfl, ?_⟩; have n0_ := Aside0.mk (below_step (by repeat (first | (with_reducible first | exact HB.out | apply below_alloc | apply pw_below_drewN | apply below_drew1) | exact HB.out)) hb); clear HB; have HB := n0_; clear n0_; (try clear hb); (try clear hb2); (try clear hk); (try clear hi)))
  (try simp only [Act.put, List.setIfInBounds_toArray, List.set_cons_zero, List.set_cons_succ])
  go_cut [21] (fun v21 wc => ∃ (kq : Nat) (x21_4 : Bool), v21 = .bool x21_4 ∧ Aside0 (haulierlaw02_SetBack.j0 kq a0 a1 a2 t179 x21_4 = some r) ∧ Aside0 (kq ≤ k) ∧ Aside0 (Below w.heap.size w wc))
  case first =>
    have H := HC5.out
    clear HC5
    by_cases c7 : t179 = true
    · subst c7
      have H1 : (if a1 < 0 then (haulierlaw02_SetBack.j0 k a0 a1 a2 true true) else (haulierlaw02_SetBack.j0 k a0 a1 a2 true (decide (a1 > 63)))) = some r := by rw [if_pos rfl] at H; exact H
      clear H
      have H := H1
      clear H1
      by_cases c8 : a1 < 0
      · rw [if_pos c8] at H
        have c8b0 : decide (a1 < 0) = true := decide_eq_true c8
        clear c8
        (first | rw [c8b0] | (simp only [i64_w, i32_w]; rw [c8b0]) | skip)
        have H' := Aside0.mk H
        clear H
        go_wp2
        go_meet
        case rel => exact ⟨_, (true), (by first | rfl | (simp; done) | (simp [*]; done)), H', ⟨by first | omega | exact Nat.le_refl _⟩, ⟨by repeat (first | (with_reducible first | exact HB.out | apply below_alloc | apply pw_below_drewN | apply below_drew1) | exact HB.out)⟩⟩
      · rw [if_neg c8] at H
        have c8b0 : decide (a1 < 0) = false := decide_eq_false c8
        clear c8
        (first | rw [c8b0] | (simp only [i64_w, i32_w]; rw [c8b0]) | skip)
        have H' := Aside0.mk H
        clear H
        go_wp2
        go_meet
        case rel => exact ⟨_, (decide (a1 > 63)), (by first | rfl | (simp; done) | (simp [*]; done)), H', ⟨by first | omega | exact Nat.le_refl _⟩, ⟨by repeat (first | (with_reducible first | exact HB.out | apply below_alloc | apply pw_below_drewN | apply below_drew1) | exact HB.out)⟩⟩
    · replace c7 := Bool.eq_false_iff.mpr c7
      subst c7
      have H1 : (haulierlaw02_SetBack.j0 k a0 a1 a2 false true) = some r := by rw [if_neg (show ¬ (false = true) by decide)] at H; exact H
      clear H
      have H := H1
      clear H1
      have H' := Aside0.mk H
      clear H
      go_wp2
      go_meet
      case rel => exact ⟨_, (true), (by first | rfl | (simp; done) | (simp [*]; done)), H', ⟨by first | omega | exact Nat.le_refl _⟩, ⟨by repeat (first | (with_reducible first | exact HB.out | apply below_alloc | apply pw_below_drewN | apply below_drew1) | exact HB.out)⟩⟩
  case rest =>
    clear HC5
    try clear c1
    try clear p2
    try clear c7
    try clear c8
    try clear c8b0
    obtain ⟨kq, x21_4, rfl, HA, HJ4, HB⟩ := hcut
    cases kq with
    | zero => exact absurd HA.out (by simp [haulierlaw02_SetBack.j0])
    | succ kj4 =>
      have H := HA.out
      clear HA
      simp only [haulierlaw02_SetBack.j0] at H
      by_cases c9 : x21_4 = true
      · subst c9
        have H1 : (some t179) = some r := by rw [if_pos rfl] at H; exact H
        clear H
        have H := H1
        clear H1
        obtain rfl := Option.some.inj H
        go_wp2
        go_ret
        exact ⟨by first | rfl | (simp [errW_none, errW_some] <;> rfl) | (simp [*, errW_none, errW_some] <;> rfl), by repeat (first | (with_reducible first | exact HB.out | apply below_alloc | apply pw_below_drewN | apply below_drew1) | exact HB.out)⟩
      · replace c9 := Bool.eq_false_iff.mpr c9
        subst c9
        have H1 : ((set_With.f a0 a1).bind fun t180 => ((set_Without.f a0 a1).bind fun t181 => (if a1 = a2 then (haulierlaw02_SetBack.j1 kj4 a0 a1 t180 t181 true) else ((set_Has.f t180 a2).bind fun t182 => ((set_Has.f a0 a2).bind fun t183 => (if (t182 == t183) = true then ((set_Has.f t181 a2).bind fun t184 => ((set_Has.f a0 a2).bind fun t185 => (haulierlaw02_SetBack.j1 kj4 a0 a1 t180 t181 (t184 == t185)))) else (haulierlaw02_SetBack.j1 kj4 a0 a1 t180 t181 false))))))) = some r := by rw [if_neg (show ¬ (false = true) by decide)] at H; exact H
        clear H
        have H := H1
        clear H1
        replace H := Option.bind_eq_some_iff.mp H
        obtain ⟨t180, A100, H⟩ := H
        replace H : ((set_Without.f a0 a1).bind fun t181 => (if a1 = a2 then (haulierlaw02_SetBack.j1 kj4 a0 a1 t180 t181 true) else ((set_Has.f t180 a2).bind fun t182 => ((set_Has.f a0 a2).bind fun t183 => (if (t182 == t183) = true then ((set_Has.f t181 a2).bind fun t184 => ((set_Has.f a0 a2).bind fun t185 => (haulierlaw02_SetBack.j1 kj4 a0 a1 t180 t181 (t184 == t185)))) else (haulierlaw02_SetBack.j1 kj4 a0 a1 t180 t181 false)))))) = some r := H
        have A10 := Aside0.mk A100
        clear A100
        replace H := Option.bind_eq_some_iff.mp H
        obtain ⟨t181, A110, H⟩ := H
        replace H : (if a1 = a2 then (haulierlaw02_SetBack.j1 kj4 a0 a1 t180 t181 true) else ((set_Has.f t180 a2).bind fun t182 => ((set_Has.f a0 a2).bind fun t183 => (if (t182 == t183) = true then ((set_Has.f t181 a2).bind fun t184 => ((set_Has.f a0 a2).bind fun t185 => (haulierlaw02_SetBack.j1 kj4 a0 a1 t180 t181 (t184 == t185)))) else (haulierlaw02_SetBack.j1 kj4 a0 a1 t180 t181 false))))) = some r := H
        have A11 := Aside0.mk A110
        clear A110
        have HC12 := Aside0.mk H
        clear H
        go_upto_region 6 with (first | ((with_reducible refine gate_callee (f := 19) rfl ?_); refine goesL_ (some 25) rfl rfl Tryd.func19 (by kernel_rfl) rfl #[.int .u64 a0, .int .i64 a1] rfl (by (try simp only [List.map_toArray, List.map_cons, List.map_nil]); first | done | rfl | (simp only [List.length_drop, List.length_take]; rfl)) ?_; (with_reducible refine (set_With.calls a0 a1 t180 _ A10.out).mono ?_); rintro e w' ⟨rfl, ⟨nd, rfl⟩⟩; refine ⟨_, rfl, ?_⟩) | ((with_reducible refine gate_callee (f := 21) rfl ?_); refine goesL_ (some 28) rfl rfl Tryd.func21 (by kernel_rfl) rfl #[.int .u64 a0, .int .i64 a1] rfl (by (try simp only [List.map_toArray, List.map_cons, List.map_nil]); first | done | rfl | (simp only [List.length_drop, List.length_take]; rfl)) ?_; (with_reducible refine (set_Without.calls a0 a1 t181 _ A11.out).mono ?_); rintro e w' ⟨rfl, ⟨nd, rfl⟩⟩; refine ⟨_, rfl, ?_⟩))
        (try simp only [Act.put, List.setIfInBounds_toArray, List.set_cons_zero, List.set_cons_succ])
        go_cut [10] (fun v10 wc => ∃ (kq : Nat) (x10_11 : Bool), v10 = .bool x10_11 ∧ Aside0 (haulierlaw02_SetBack.j1 kq a0 a1 t180 t181 x10_11 = some r) ∧ Aside0 (kq ≤ kj4) ∧ Aside0 (Below w.heap.size w wc))
        case first =>
          have H := HC12.out
          clear HC12
          by_cases c13 : a1 = a2
          · rw [if_pos c13] at H
            have c13b0 : (a1 == a2) = true := beq_iff_eq.mpr c13
            have c13b1 : (a1 != a2) = false := bne_eq_false_iff_eq.mpr c13
            clear c13
            (first | rw [c13b0] | (simp only [i64_w, i32_w]; rw [c13b0]) | skip)
            have H' := Aside0.mk H
            clear H
            go_wp2
            go_meet
            case rel => exact ⟨_, (true), (by first | rfl | (simp; done) | (simp [*]; done)), H', ⟨by have := HJ4.out; first | omega | exact Nat.le_refl _⟩, ⟨by repeat (first | (with_reducible first | exact HB.out | apply below_alloc | apply pw_below_drewN | apply below_drew1) | exact HB.out)⟩⟩
          · rw [if_neg c13] at H
            have c13b0 : (a1 == a2) = false := beq_eq_false_iff_ne.mpr c13
            have c13b1 : (a1 != a2) = true := bne_iff_ne.mpr c13
            (first | rw [c13b0] | (simp only [i64_w, i32_w]; rw [c13b0]) | skip)
            replace H := Option.bind_eq_some_iff.mp H
            obtain ⟨t182, A140, H⟩ := H
            replace H : ((set_Has.f a0 a2).bind fun t183 => (if (t182 == t183) = true then ((set_Has.f t181 a2).bind fun t184 => ((set_Has.f a0 a2).bind fun t185 => (haulierlaw02_SetBack.j1 kj4 a0 a1 t180 t181 (t184 == t185)))) else (haulierlaw02_SetBack.j1 kj4 a0 a1 t180 t181 false))) = some r := H
            have A14 := Aside0.mk A140
            clear A140
            replace H := Option.bind_eq_some_iff.mp H
            obtain ⟨t183, A150, H⟩ := H
            replace H : (if (t182 == t183) = true then ((set_Has.f t181 a2).bind fun t184 => ((set_Has.f a0 a2).bind fun t185 => (haulierlaw02_SetBack.j1 kj4 a0 a1 t180 t181 (t184 == t185)))) else (haulierlaw02_SetBack.j1 kj4 a0 a1 t180 t181 false)) = some r := H
            have A15 := Aside0.mk A150
            clear A150
            by_cases c16 : (t182 == t183) = true
            · rw [if_pos c16] at H
              have c16b0 : (t182 == t183) = true := c16
              (try (have c16b1 : decide (t182 = t183) = true := by simpa using c16))
              (try (have c16b2 : (t182 == t183) = true := by simpa using c16))
              clear c16
              replace H := Option.bind_eq_some_iff.mp H
              obtain ⟨t184, A170, H⟩ := H
              replace H : ((set_Has.f a0 a2).bind fun t185 => (haulierlaw02_SetBack.j1 kj4 a0 a1 t180 t181 (t184 == t185))) = some r := H
              have A17 := Aside0.mk A170
              clear A170
              replace H := Option.bind_eq_some_iff.mp H
              obtain ⟨t185, A180, H⟩ := H
              replace H : (haulierlaw02_SetBack.j1 kj4 a0 a1 t180 t181 (t184 == t185)) = some r := H
              have A18 := Aside0.mk A180
              clear A180
              have H' := Aside0.mk H
              clear H
              go_wp2_with (first | (go_at_call 15; (with_reducible refine (set_Has.calls t180 a2 t182 _ A14.out).mono ?_); rintro e w' ⟨rfl, ⟨nd, rfl⟩⟩) | (go_at_call 15; (with_reducible refine (set_Has.calls a0 a2 t183 _ A15.out).mono ?_); rintro e w' ⟨rfl, ⟨nd, rfl⟩⟩) | (go_at_call 15; (with_reducible refine (set_Has.calls t181 a2 t184 _ A17.out).mono ?_); rintro e w' ⟨rfl, ⟨nd, rfl⟩⟩) | (go_at_call 15; (with_reducible refine (set_Has.calls a0 a2 t185 _ A18.out).mono ?_); rintro e w' ⟨rfl, ⟨nd, rfl⟩⟩))
              go_meet
              case rel => exact ⟨_, ((t184 == t185)), (by first | rfl | (rw [Option.some.inj (A15.out.symm.trans A18.out)]; done) | (simp; done) | (simp [*]; done)), H', ⟨by have := HJ4.out; first | omega | exact Nat.le_refl _⟩, ⟨by repeat (first | (with_reducible first | exact HB.out | apply below_alloc | apply pw_below_drewN | apply below_drew1) | exact HB.out)⟩⟩
            · rw [if_neg c16] at H
              have c16b0 : (t182 == t183) = false := by simpa using c16
              (try (have c16b1 : decide (t182 = t183) = false := by simpa using c16))
              (try (have c16b2 : (t182 == t183) = false := by simpa using c16))
              (try (have c16b3 : ¬ (t182 = t183) := by simpa using c16))
              clear c16
              have H' := Aside0.mk H
              clear H
              go_wp2_with (first | (go_at_call 15; (with_reducible refine (set_Has.calls t180 a2 t182 _ A14.out).mono ?_); rintro e w' ⟨rfl, ⟨nd, rfl⟩⟩) | (go_at_call 15; (with_reducible refine (set_Has.calls a0 a2 t183 _ A15.out).mono ?_); rintro e w' ⟨rfl, ⟨nd, rfl⟩⟩))
              go_meet
              case rel => exact ⟨_, (false), (by first | rfl | (simp; done) | (simp [*]; done)), H', ⟨by have := HJ4.out; first | omega | exact Nat.le_refl _⟩, ⟨by repeat (first | (with_reducible first | exact HB.out | apply below_alloc | apply pw_below_drewN | apply below_drew1) | exact HB.out)⟩⟩
        case rest =>
          clear HC12
          try clear c1
          try clear c2
          try clear p2
          try clear c7
          try clear c8
          try clear c8b0
          try clear c9
          try clear c11
          try clear c13
          try clear c13b0
          try clear c13b1
          try clear c16
          try clear c16b0
          try clear c16b1
          try clear c16b2
          try clear p2
          obtain ⟨kq, x10_11, rfl, HA, HJ11, HB⟩ := hcut
          cases kq with
          | zero => exact absurd HA.out (by simp [haulierlaw02_SetBack.j1])
          | succ kj11 =>
            have H := HA.out
            clear HA
            simp only [haulierlaw02_SetBack.j1] at H
            replace H := Option.bind_eq_some_iff.mp H
            obtain ⟨t186, A190, H⟩ := H
            replace H : (if t186 = true then ((set_Has.f t181 a1).bind fun t187 => (if t187 = true then (none) else ((set_Without.f t180 a1).bind fun t188 => (if t188 = t181 then ((set_With.f t181 a1).bind fun t189 => (if t189 = t180 then (if x10_11 = true then ((set_Within.f t181 a0).bind fun t190 => (if t190 = true then ((set_Within.f a0 t180).bind fun t191 => (some t191)) else (none))) else (none)) else (none))) else (none))))) else (none)) = some r := H
            have A19 := Aside0.mk A190
            clear A190
            by_cases c20 : t186 = true
            · subst c20
              have H1 : ((set_Has.f t181 a1).bind fun t187 => (if t187 = true then (none) else ((set_Without.f t180 a1).bind fun t188 => (if t188 = t181 then ((set_With.f t181 a1).bind fun t189 => (if t189 = t180 then (if x10_11 = true then ((set_Within.f t181 a0).bind fun t190 => (if t190 = true then ((set_Within.f a0 t180).bind fun t191 => (some t191)) else (none))) else (none)) else (none))) else (none))))) = some r := by rw [if_pos rfl] at H; exact H
              clear H
              have H := H1
              clear H1
              replace H := Option.bind_eq_some_iff.mp H
              obtain ⟨t187, A210, H⟩ := H
              replace H : (if t187 = true then (none) else ((set_Without.f t180 a1).bind fun t188 => (if t188 = t181 then ((set_With.f t181 a1).bind fun t189 => (if t189 = t180 then (if x10_11 = true then ((set_Within.f t181 a0).bind fun t190 => (if t190 = true then ((set_Within.f a0 t180).bind fun t191 => (some t191)) else (none))) else (none)) else (none))) else (none)))) = some r := H
              have A21 := Aside0.mk A210
              clear A210
              by_cases c22 : t187 = true
              · subst c22
                have H1 : (none) = some r := by rw [if_pos rfl] at H; exact H
                clear H
                have H := H1
                clear H1
                exact absurd H (by simp)
              · replace c22 := Bool.eq_false_iff.mpr c22
                subst c22
                have H1 : ((set_Without.f t180 a1).bind fun t188 => (if t188 = t181 then ((set_With.f t181 a1).bind fun t189 => (if t189 = t180 then (if x10_11 = true then ((set_Within.f t181 a0).bind fun t190 => (if t190 = true then ((set_Within.f a0 t180).bind fun t191 => (some t191)) else (none))) else (none)) else (none))) else (none))) = some r := by rw [if_neg (show ¬ (false = true) by decide)] at H; exact H
                clear H
                have H := H1
                clear H1
                replace H := Option.bind_eq_some_iff.mp H
                obtain ⟨t188, A230, H⟩ := H
                replace H : (if t188 = t181 then ((set_With.f t181 a1).bind fun t189 => (if t189 = t180 then (if x10_11 = true then ((set_Within.f t181 a0).bind fun t190 => (if t190 = true then ((set_Within.f a0 t180).bind fun t191 => (some t191)) else (none))) else (none)) else (none))) else (none)) = some r := H
                have A23 := Aside0.mk A230
                clear A230
                by_cases c24 : t188 = t181
                · rw [if_pos c24] at H
                  have c24b0 : (t188 == t181) = true := beq_iff_eq.mpr c24
                  have c24b1 : (t188 != t181) = false := bne_eq_false_iff_eq.mpr c24
                  clear c24
                  replace H := Option.bind_eq_some_iff.mp H
                  obtain ⟨t189, A250, H⟩ := H
                  replace H : (if t189 = t180 then (if x10_11 = true then ((set_Within.f t181 a0).bind fun t190 => (if t190 = true then ((set_Within.f a0 t180).bind fun t191 => (some t191)) else (none))) else (none)) else (none)) = some r := H
                  have A25 := Aside0.mk A250
                  clear A250
                  by_cases c26 : t189 = t180
                  · rw [if_pos c26] at H
                    have c26b0 : (t189 == t180) = true := beq_iff_eq.mpr c26
                    have c26b1 : (t189 != t180) = false := bne_eq_false_iff_eq.mpr c26
                    clear c26
                    by_cases c27 : x10_11 = true
                    · subst c27
                      have H1 : ((set_Within.f t181 a0).bind fun t190 => (if t190 = true then ((set_Within.f a0 t180).bind fun t191 => (some t191)) else (none))) = some r := by rw [if_pos rfl] at H; exact H
                      clear H
                      have H := H1
                      clear H1
                      replace H := Option.bind_eq_some_iff.mp H
                      obtain ⟨t190, A280, H⟩ := H
                      replace H : (if t190 = true then ((set_Within.f a0 t180).bind fun t191 => (some t191)) else (none)) = some r := H
                      have A28 := Aside0.mk A280
                      clear A280
                      by_cases c29 : t190 = true
                      · subst c29
                        have H1 : ((set_Within.f a0 t180).bind fun t191 => (some t191)) = some r := by rw [if_pos rfl] at H; exact H
                        clear H
                        have H := H1
                        clear H1
                        replace H := Option.bind_eq_some_iff.mp H
                        obtain ⟨t191, A300, H⟩ := H
                        replace H : (some t191) = some r := H
                        have A30 := Aside0.mk A300
                        clear A300
                        obtain rfl := Option.some.inj H
                        go_wp2_with (first | ((with_reducible refine gate_callee (f := 15) rfl ?_); refine goesL_ (some 52) rfl rfl Tryd.func15 (by kernel_rfl) rfl #[.int .u64 t180, .int .i64 a1] rfl (by (try simp only [List.map_toArray, List.map_cons, List.map_nil]); first | done | rfl | (simp only [List.length_drop, List.length_take]; rfl)) ?_; (with_reducible refine (set_Has.calls t180 a1 true _ A19.out).mono ?_); rintro e w' ⟨rfl, ⟨nd, rfl⟩⟩; refine ⟨_, rfl, ?_⟩) | (go_at_call 15; (with_reducible refine (set_Has.calls t181 a1 false _ A21.out).mono ?_); rintro e w' ⟨rfl, ⟨nd, rfl⟩⟩) | (go_at_call 21; (with_reducible refine (set_Without.calls t180 a1 t188 _ A23.out).mono ?_); rintro e w' ⟨rfl, ⟨nd, rfl⟩⟩) | (go_at_call 19; (with_reducible refine (set_With.calls t181 a1 t189 _ A25.out).mono ?_); rintro e w' ⟨rfl, ⟨nd, rfl⟩⟩) | (go_at_call 16; (with_reducible refine (set_Within.calls t181 a0 true _ A28.out).mono ?_); rintro e w' ⟨rfl, ⟨nd, rfl⟩⟩) | (go_at_call 16; (with_reducible refine (set_Within.calls a0 t180 t191 _ A30.out).mono ?_); rintro e w' ⟨rfl, ⟨nd, rfl⟩⟩))
                        go_ret
                        exact ⟨by first | rfl | (simp [errW_none, errW_some] <;> rfl) | (simp [*, errW_none, errW_some] <;> rfl), by repeat (first | (with_reducible first | exact HB.out | apply below_alloc | apply pw_below_drewN | apply below_drew1) | exact HB.out)⟩
                      · replace c29 := Bool.eq_false_iff.mpr c29
                        subst c29
                        have H1 : (none) = some r := by rw [if_neg (show ¬ (false = true) by decide)] at H; exact H
                        clear H
                        have H := H1
                        clear H1
                        exact absurd H (by simp)
                    · replace c27 := Bool.eq_false_iff.mpr c27
                      subst c27
                      have H1 : (none) = some r := by rw [if_neg (show ¬ (false = true) by decide)] at H; exact H
                      clear H
                      have H := H1
                      clear H1
                      exact absurd H (by simp)
                  · rw [if_neg c26] at H
                    exact absurd H (by simp)
                · rw [if_neg c24] at H
                  exact absurd H (by simp)
            · replace c20 := Bool.eq_false_iff.mpr c20
              subst c20
              have H1 : (none) = some r := by rw [if_neg (show ¬ (false = true) by decide)] at H; exact H
              clear H
              have H := H1
              clear H1
              exact absurd H (by simp)

/-- THE ONE PURE STATEMENT of haulierlaw02_SetBack: yours. -/
def haulierlaw02_SetBack.Pure : Prop := ∀ (a0 : Int) (a1 : Int) (a2 : Int), (Lit.int .u64 a0).wf = true → (Lit.int .i64 a1).wf = true → (Lit.int .i64 a2).wf = true → ∃ k, haulierlaw02_SetBack.f k a0 a1 a2 = some true
theorem haulierlaw02_SetBack.walk (P : haulierlaw02_SetBack.Pure) (a0 : Int) (a1 : Int) (a2 : Int) (w : World) (w0 : (Lit.int .u64 a0).wf = true) (w1 : (Lit.int .i64 a1).wf = true) (w2 : (Lit.int .i64 a2).wf = true) (hT : Go.Proofs.YtgnhokepcdopgaaDoor.SetWalk.SetTab w) :
    Calls Tryd.prog 8 #[.int .u64 a0, .int .i64 a1, .int .i64 a2] w fun e w' => e = .returned (.bool true) ∧ Below w.heap.size w w' := by
  obtain ⟨k, h⟩ := P a0 a1 a2 w0 w1 w2
  refine (haulierlaw02_SetBack.calls k a0 a1 a2 true w h hT).mono ?_
  rintro e w' ⟨rfl, hd⟩
  exact ⟨rfl, hd⟩

/-! ### set_All: function 25, BY HAND -/
open Go.Proofs.YtgnhokepcdopgaaDoor.SetWalk in
def set_All.f (a0 : Int) : Option (List Int) := if 0 ≤ a0 ∧ a0 < 18446744073709551616 ∧ (bitsF a0.toNat).length ≤ 64 then some (bitsF a0.toNat) else none
open Go.Proofs.YtgnhokepcdopgaaDoor.SetWalk in
theorem set_All.calls (a0 : Int) (r : List Int) (w : World) (h : set_All.f a0 = some r) (hT : SetTab w) :
    Calls Tryd.prog 25 #[.int .u64 a0] w fun e w' => ∃ v0_ : Value, e = .returned (v0_) ∧ Kd.R (Kd.int .i64) 3 w' w.heap.size (fun _ => True) v0_ r ∧ Below w.heap.size w w' := by
  unfold set_All.f at h
  split at h
  case isFalse => cases h
  case isTrue hc =>
    obtain ⟨h0, h1, h2⟩ := hc
    obtain rfl := Option.some.inj h
    have e : a0 = ((a0.toNat : Nat) : Int) := by omega
    have := callsIn_wide.1 (All_in 3 (Nat.le_refl _) a0.toNat (by omega) h2 w hT.some hT)
    rw [← e] at this
    refine this.mono ?_
    rintro e w' ⟨v, rfl, ho, _, hB⟩
    exact ⟨v, rfl, ⟨fun _ _ => trivial, _, ho, Kd.reps_scalar _⟩, hB⟩

end Go.Proofs.YtgnhokepcdopgaaDoor.PA
