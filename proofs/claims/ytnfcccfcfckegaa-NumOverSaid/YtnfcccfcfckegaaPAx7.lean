-- Printed for this claim by wip/tools/xprint.py over the kit's print; the contracts marked BY HAND are this session's own.
import Derived.Test.YtnfcccfcfckegaaPAx0
import Derived.Test.YtnfcccfcfckegaaPAx1
import Derived.Test.YtnfcccfcfckegaaPAx5
import Derived.Test.YtnfcccfcfckegaaPAx6
namespace Go.Proofs.Ytnfcccfcfckegaa.PA
open Go.RowKit Go.Proofs.YtnfcccfcfckegaaW.PrintWords Go.Proofs.YtnfcccfcfckegaaW.PrintLast Go.Proofs.YtnfcccfcfckegaaW.PrintMore
attribute [local go_sem] max2_int min2_int max_two min_two max_three min_three max_four min_four   -- for this text's walks alone
set_option linter.unusedVariables false
set_option linter.unusedSimpArgs false

/-! ### haulierlaw01_NumBack: function 9 -/
def haulierlaw01_NumBack.j0 : Nat → Int → Int → Int → Int → Bool → Option (Bool)
  | 0, _, _, _, _, _ => none
  | k + 1, x0, x1, x6, x7, x62 => if x62 = true then (some false) else (if x7 = 0 then ((num_Sub.f k x6 x1).bind fun bt210 => (if bt210.2 = 0 then (some (bt210.1 == x0)) else (some false))) else (some (x6 == 0)))
def haulierlaw01_NumBack.f (k : Nat) (a0 : Int) (a1 : Int) : Option (Bool) := (haulierlaw01_awake.f k).bind fun t201 => ((num_Add.f k a0 a1).bind fun bt202 => ((num_Add.f k a1 a0).bind fun bt204 => ((num_Mul.f k a0 a1).bind fun bt206 => ((num_Mul.f k a1 a0).bind fun bt208 => (if t201 = true then (if bt202.1 = bt204.1 then (if bt202.2 = bt204.2 then (if bt206.1 = bt208.1 then (haulierlaw01_NumBack.j0 k a0 a1 bt202.1 bt202.2 (bt206.2 != bt208.2)) else (haulierlaw01_NumBack.j0 k a0 a1 bt202.1 bt202.2 true)) else (haulierlaw01_NumBack.j0 k a0 a1 bt202.1 bt202.2 true)) else (haulierlaw01_NumBack.j0 k a0 a1 bt202.1 bt202.2 true)) else (haulierlaw01_NumBack.j0 k a0 a1 bt202.1 bt202.2 true))))))
theorem haulierlaw01_NumBack.mono_l : ∀ k, (∀ y0 y1 y2 y3 y4, LeO (haulierlaw01_NumBack.j0 k y0 y1 y2 y3 y4) (haulierlaw01_NumBack.j0 (k + 1) y0 y1 y2 y3 y4))
  | 0 => fun _ _ _ _ _ r h => by simp [haulierlaw01_NumBack.j0] at h
  | k + 1 => by
    have ih0 := haulierlaw01_NumBack.mono_l k
    · intro y0 y1 y2 y3 y4
      unfold haulierlaw01_NumBack.j0
      repeat' first
      | (with_reducible exact ih0 _ _ _ _ _)
      | (with_reducible exact haulierlaw01_awake.mono _)
      | (with_reducible exact num_Add.mono _ _ _)
      | (with_reducible exact num_Mul.mono _ _ _)
      | (with_reducible exact num_Sub.mono _ _ _)
      | (with_reducible exact LeO.refl _)
      | (with_reducible exact LeO.none _)
      | (with_reducible refine LeO.ite ?_ ?_)
      | (with_reducible refine LeO.bind ?_ (fun _ => ?_))
      | exact ih0 _ _ _ _ _
      | exact haulierlaw01_awake.mono _
      | exact num_Add.mono _ _ _
      | exact num_Mul.mono _ _ _
      | exact num_Sub.mono _ _ _
      | exact LeO.none _
      | refine LeO.ite ?_ ?_
      | refine LeO.bind ?_ (fun _ => ?_)
theorem haulierlaw01_NumBack.mono : ∀ a0 a1 k, LeO (haulierlaw01_NumBack.f k a0 a1) (haulierlaw01_NumBack.f (k + 1) a0 a1) := by
  intro a0 a1 k
  have ih0 := haulierlaw01_NumBack.mono_l k
  unfold haulierlaw01_NumBack.f
  repeat' first
      | (with_reducible exact ih0 _ _ _ _ _)
      | (with_reducible exact haulierlaw01_awake.mono _)
      | (with_reducible exact num_Add.mono _ _ _)
      | (with_reducible exact num_Mul.mono _ _ _)
      | (with_reducible exact num_Sub.mono _ _ _)
      | (with_reducible exact LeO.refl _)
      | (with_reducible exact LeO.none _)
      | (with_reducible refine LeO.ite ?_ ?_)
      | (with_reducible refine LeO.bind ?_ (fun _ => ?_))
      | exact ih0 _ _ _ _ _
      | exact haulierlaw01_awake.mono _
      | exact num_Add.mono _ _ _
      | exact num_Mul.mono _ _ _
      | exact num_Sub.mono _ _ _
      | exact LeO.none _
      | refine LeO.ite ?_ ?_
      | refine LeO.bind ?_ (fun _ => ?_)
set_option maxHeartbeats 8000000 in
set_option maxRecDepth 100000 in
theorem haulierlaw01_NumBack.calls (k : Nat) (a0 : Int) (a1 : Int) (r : Bool) (w : World) (h : haulierlaw01_NumBack.f k a0 a1 = some r) :
    Calls Try.prog 9 #[.int .i64 a0, .int .i64 a1] w fun e w' => e = .returned (.bool r) ∧ Below w.heap.size w w' := by
  have HB := Aside0.mk (Below.refl w.heap.size w)
  have H : ((haulierlaw01_awake.f k).bind fun t201 => ((num_Add.f k a0 a1).bind fun bt202 => ((num_Add.f k a1 a0).bind fun bt204 => ((num_Mul.f k a0 a1).bind fun bt206 => ((num_Mul.f k a1 a0).bind fun bt208 => (if t201 = true then (if bt202.1 = bt204.1 then (if bt202.2 = bt204.2 then (if bt206.1 = bt208.1 then (haulierlaw01_NumBack.j0 k a0 a1 bt202.1 bt202.2 (bt206.2 != bt208.2)) else (haulierlaw01_NumBack.j0 k a0 a1 bt202.1 bt202.2 true)) else (haulierlaw01_NumBack.j0 k a0 a1 bt202.1 bt202.2 true)) else (haulierlaw01_NumBack.j0 k a0 a1 bt202.1 bt202.2 true)) else (haulierlaw01_NumBack.j0 k a0 a1 bt202.1 bt202.2 true))))))) = some r := h
  clear h
  replace H := Option.bind_eq_some_iff.mp H
  obtain ⟨t201, A30, H⟩ := H
  replace H : ((num_Add.f k a0 a1).bind fun bt202 => ((num_Add.f k a1 a0).bind fun bt204 => ((num_Mul.f k a0 a1).bind fun bt206 => ((num_Mul.f k a1 a0).bind fun bt208 => (if t201 = true then (if bt202.1 = bt204.1 then (if bt202.2 = bt204.2 then (if bt206.1 = bt208.1 then (haulierlaw01_NumBack.j0 k a0 a1 bt202.1 bt202.2 (bt206.2 != bt208.2)) else (haulierlaw01_NumBack.j0 k a0 a1 bt202.1 bt202.2 true)) else (haulierlaw01_NumBack.j0 k a0 a1 bt202.1 bt202.2 true)) else (haulierlaw01_NumBack.j0 k a0 a1 bt202.1 bt202.2 true)) else (haulierlaw01_NumBack.j0 k a0 a1 bt202.1 bt202.2 true)))))) = some r := H
  have A3 := Aside0.mk A30
  clear A30
  replace H := Option.bind_eq_some_iff.mp H
  obtain ⟨⟨t202, t203⟩, A40, H⟩ := H
  replace H : ((num_Add.f k a1 a0).bind fun bt204 => ((num_Mul.f k a0 a1).bind fun bt206 => ((num_Mul.f k a1 a0).bind fun bt208 => (if t201 = true then (if t202 = bt204.1 then (if t203 = bt204.2 then (if bt206.1 = bt208.1 then (haulierlaw01_NumBack.j0 k a0 a1 t202 t203 (bt206.2 != bt208.2)) else (haulierlaw01_NumBack.j0 k a0 a1 t202 t203 true)) else (haulierlaw01_NumBack.j0 k a0 a1 t202 t203 true)) else (haulierlaw01_NumBack.j0 k a0 a1 t202 t203 true)) else (haulierlaw01_NumBack.j0 k a0 a1 t202 t203 true))))) = some r := H
  have A4 := Aside0.mk A40
  clear A40
  replace H := Option.bind_eq_some_iff.mp H
  obtain ⟨⟨t204, t205⟩, A50, H⟩ := H
  replace H : ((num_Mul.f k a0 a1).bind fun bt206 => ((num_Mul.f k a1 a0).bind fun bt208 => (if t201 = true then (if t202 = t204 then (if t203 = t205 then (if bt206.1 = bt208.1 then (haulierlaw01_NumBack.j0 k a0 a1 t202 t203 (bt206.2 != bt208.2)) else (haulierlaw01_NumBack.j0 k a0 a1 t202 t203 true)) else (haulierlaw01_NumBack.j0 k a0 a1 t202 t203 true)) else (haulierlaw01_NumBack.j0 k a0 a1 t202 t203 true)) else (haulierlaw01_NumBack.j0 k a0 a1 t202 t203 true)))) = some r := H
  have A5 := Aside0.mk A50
  clear A50
  replace H := Option.bind_eq_some_iff.mp H
  obtain ⟨⟨t206, t207⟩, A60, H⟩ := H
  replace H : ((num_Mul.f k a1 a0).bind fun bt208 => (if t201 = true then (if t202 = t204 then (if t203 = t205 then (if t206 = bt208.1 then (haulierlaw01_NumBack.j0 k a0 a1 t202 t203 (t207 != bt208.2)) else (haulierlaw01_NumBack.j0 k a0 a1 t202 t203 true)) else (haulierlaw01_NumBack.j0 k a0 a1 t202 t203 true)) else (haulierlaw01_NumBack.j0 k a0 a1 t202 t203 true)) else (haulierlaw01_NumBack.j0 k a0 a1 t202 t203 true))) = some r := H
  have A6 := Aside0.mk A60
  clear A60
  replace H := Option.bind_eq_some_iff.mp H
  obtain ⟨⟨t208, t209⟩, A70, H⟩ := H
  replace H : (if t201 = true then (if t202 = t204 then (if t203 = t205 then (if t206 = t208 then (haulierlaw01_NumBack.j0 k a0 a1 t202 t203 (t207 != t209)) else (haulierlaw01_NumBack.j0 k a0 a1 t202 t203 true)) else (haulierlaw01_NumBack.j0 k a0 a1 t202 t203 true)) else (haulierlaw01_NumBack.j0 k a0 a1 t202 t203 true)) else (haulierlaw01_NumBack.j0 k a0 a1 t202 t203 true)) = some r := H
  have A7 := Aside0.mk A70
  clear A70
  have HC8 := Aside0.mk H
  clear H
  go_enter Try.func9, Try.ntmps9
  go_upto_region 6 with (first | ((with_reducible refine gate_callee (f := 13) rfl ?_); refine goesL_ (some 16) rfl rfl Try.func13 (by kernel_rfl) rfl #[] rfl (by (try simp only [List.map_toArray, List.map_cons, List.map_nil]); first | done | rfl | (simp only [List.length_drop, List.length_take]; rfl)) ?_; (with_reducible refine (haulierlaw01_awake.calls k  t201 _ A3.out).mono ?_); rintro e w9 ⟨rfl, hb⟩; refine ⟨_, rfl, ?_⟩; have n0_ := Aside0.mk (below_step (by repeat (first | (with_reducible first | exact HB.out | apply below_alloc | apply pw_below_drewN | apply below_drew1) | exact HB.out)) hb); clear HB; have HB := n0_; clear n0_; (try clear hb); (try clear hb2); (try clear hk); (try clear hi)) | ((with_reducible refine gate_callee (f := 18) rfl ?_); refine goesL_ (some 20) rfl rfl Try.func18 (by kernel_rfl) rfl #[.int .i64 a0, .int .i64 a1] rfl (by (try simp only [List.map_toArray, List.map_cons, List.map_nil]); first | done | rfl | (simp only [List.length_drop, List.length_take]; rfl)) ?_; (with_reducible refine (num_Add.calls k a0 a1 t202 t203 _ A4.out).mono ?_); rintro e w10 ⟨rfl, hb⟩; refine ⟨_, rfl, ?_⟩; have n0_ := Aside0.mk (below_step (by repeat (first | (with_reducible first | exact HB.out | apply below_alloc | apply pw_below_drewN | apply below_drew1) | exact HB.out)) hb); clear HB; have HB := n0_; clear n0_; (try clear hb); (try clear hb2); (try clear hk); (try clear hi)) | ((with_reducible refine gate_callee (f := 18) rfl ?_); refine goesL_ (some 26) rfl rfl Try.func18 (by kernel_rfl) rfl #[.int .i64 a1, .int .i64 a0] rfl (by (try simp only [List.map_toArray, List.map_cons, List.map_nil]); first | done | rfl | (simp only [List.length_drop, List.length_take]; rfl)) ?_; (with_reducible refine (num_Add.calls k a1 a0 t204 t205 _ A5.out).mono ?_); rintro e w11 ⟨rfl, hb⟩; refine ⟨_, rfl, ?_⟩; have n0_ := Aside0.mk (below_step (by repeat (first | (with_reducible first | exact HB.out | apply below_alloc | apply pw_below_drewN | apply below_drew1) | exact HB.out)) hb); clear HB; have HB := n0_; clear n0_; (try clear hb); (try clear hb2); (try clear hk); (try clear hi)) | ((with_reducible refine gate_callee (f := 19) rfl ?_); refine goesL_ (some 32) rfl rfl Try.func19 (by kernel_rfl) rfl #[.int .i64 a0, .int .i64 a1] rfl (by (try simp only [List.map_toArray, List.map_cons, List.map_nil]); first | done | rfl | (simp only [List.length_drop, List.length_take]; rfl)) ?_; (with_reducible refine (num_Mul.calls k a0 a1 t206 t207 _ A6.out).mono ?_); rintro e w12 ⟨rfl, hb⟩; refine ⟨_, rfl, ?_⟩; have n0_ := Aside0.mk (below_step (by repeat (first | (with_reducible first | exact HB.out | apply below_alloc | apply pw_below_drewN | apply below_drew1) | exact HB.out)) hb); clear HB; have HB := n0_; clear n0_; (try clear hb); (try clear hb2); (try clear hk); (try clear hi)) | ((with_reducible refine gate_callee (f := 19) rfl ?_); refine goesL_ (some 38) rfl rfl Try.func19 (by kernel_rfl) rfl #[.int .i64 a1, .int .i64 a0] rfl (by (try simp only [List.map_toArray, List.map_cons, List.map_nil]); first | done | rfl | (simp only [List.length_drop, List.length_take]; rfl)) ?_; (with_reducible refine (num_Mul.calls k a1 a0 t208 t209 _ A7.out).mono ?_); rintro e w13 ⟨rfl, hb⟩; refine ⟨_, rfl, ?_⟩; have n0_ := Aside0.mk (below_step (by repeat (first | (with_reducible first | exact HB.out | apply below_alloc | apply pw_below_drewN | apply below_drew1) | exact HB.out)) hb); clear HB; have HB := n0_; clear n0_; (try clear hb); (try clear hb2); (try clear hk); (try clear hi)))
  (try simp only [Act.put, List.setIfInBounds_toArray, List.set_cons_zero, List.set_cons_succ])
  go_cut [62] (fun v62 wc => ∃ (kq : Nat) (x62_7 : Bool), v62 = .bool x62_7 ∧ Aside0 (haulierlaw01_NumBack.j0 kq a0 a1 t202 t203 x62_7 = some r) ∧ Aside0 (kq ≤ k) ∧ Aside0 (Below w.heap.size w wc))
  case first =>
    have H := HC8.out
    clear HC8
    by_cases c14 : t201 = true
    · subst c14
      have H1 : (if t202 = t204 then (if t203 = t205 then (if t206 = t208 then (haulierlaw01_NumBack.j0 k a0 a1 t202 t203 (t207 != t209)) else (haulierlaw01_NumBack.j0 k a0 a1 t202 t203 true)) else (haulierlaw01_NumBack.j0 k a0 a1 t202 t203 true)) else (haulierlaw01_NumBack.j0 k a0 a1 t202 t203 true)) = some r := by rw [if_pos rfl] at H; exact H
      clear H
      have H := H1
      clear H1
      by_cases c15 : t202 = t204
      · rw [if_pos c15] at H
        have c15b0 : (t202 == t204) = true := beq_iff_eq.mpr c15
        have c15b1 : (t202 != t204) = false := bne_eq_false_iff_eq.mpr c15
        clear c15
        (first | rw [c15b0] | (simp only [i64_w, i32_w]; rw [c15b0]) | skip)
        by_cases c16 : t203 = t205
        · rw [if_pos c16] at H
          have c16b0 : (t203 == t205) = true := beq_iff_eq.mpr c16
          have c16b1 : (t203 != t205) = false := bne_eq_false_iff_eq.mpr c16
          clear c16
          by_cases c17 : t206 = t208
          · rw [if_pos c17] at H
            have c17b0 : (t206 == t208) = true := beq_iff_eq.mpr c17
            have c17b1 : (t206 != t208) = false := bne_eq_false_iff_eq.mpr c17
            clear c17
            have H' := Aside0.mk H
            clear H
            go_wp2
            go_meet
            case rel => exact ⟨_, ((t207 != t209)), (by first | rfl | (simp; done) | (simp [*]; done)), H', ⟨by first | omega | exact Nat.le_refl _⟩, ⟨by repeat (first | (with_reducible first | exact HB.out | apply below_alloc | apply pw_below_drewN | apply below_drew1) | exact HB.out)⟩⟩
          · rw [if_neg c17] at H
            have c17b0 : (t206 == t208) = false := beq_eq_false_iff_ne.mpr c17
            have c17b1 : (t206 != t208) = true := bne_iff_ne.mpr c17
            have H' := Aside0.mk H
            clear H
            go_wp2
            go_meet
            case rel => exact ⟨_, (true), (by first | rfl | (simp; done) | (simp [*]; done)), H', ⟨by first | omega | exact Nat.le_refl _⟩, ⟨by repeat (first | (with_reducible first | exact HB.out | apply below_alloc | apply pw_below_drewN | apply below_drew1) | exact HB.out)⟩⟩
        · rw [if_neg c16] at H
          have c16b0 : (t203 == t205) = false := beq_eq_false_iff_ne.mpr c16
          have c16b1 : (t203 != t205) = true := bne_iff_ne.mpr c16
          have H' := Aside0.mk H
          clear H
          go_wp2
          go_meet
          case rel => exact ⟨_, (true), (by first | rfl | (simp; done) | (simp [*]; done)), H', ⟨by first | omega | exact Nat.le_refl _⟩, ⟨by repeat (first | (with_reducible first | exact HB.out | apply below_alloc | apply pw_below_drewN | apply below_drew1) | exact HB.out)⟩⟩
      · rw [if_neg c15] at H
        have c15b0 : (t202 == t204) = false := beq_eq_false_iff_ne.mpr c15
        have c15b1 : (t202 != t204) = true := bne_iff_ne.mpr c15
        (first | rw [c15b0] | (simp only [i64_w, i32_w]; rw [c15b0]) | skip)
        have H' := Aside0.mk H
        clear H
        go_wp2
        go_meet
        case rel => exact ⟨_, (true), (by first | rfl | (simp; done) | (simp [*]; done)), H', ⟨by first | omega | exact Nat.le_refl _⟩, ⟨by repeat (first | (with_reducible first | exact HB.out | apply below_alloc | apply pw_below_drewN | apply below_drew1) | exact HB.out)⟩⟩
    · replace c14 := Bool.eq_false_iff.mpr c14
      subst c14
      have H1 : (haulierlaw01_NumBack.j0 k a0 a1 t202 t203 true) = some r := by rw [if_neg (show ¬ (false = true) by decide)] at H; exact H
      clear H
      have H := H1
      clear H1
      have H' := Aside0.mk H
      clear H
      go_wp2
      go_meet
      case rel => exact ⟨_, (true), (by first | rfl | (simp; done) | (simp [*]; done)), H', ⟨by first | omega | exact Nat.le_refl _⟩, ⟨by repeat (first | (with_reducible first | exact HB.out | apply below_alloc | apply pw_below_drewN | apply below_drew1) | exact HB.out)⟩⟩
  case rest =>
    clear HC8
    try clear c1
    try clear p2
    try clear c9
    try clear c13
    try clear c14
    try clear c15
    try clear c15b0
    try clear c15b1
    try clear c16
    try clear c16b0
    try clear c16b1
    try clear c17
    try clear c17b0
    try clear c17b1
    obtain ⟨kq, x62_7, rfl, HA, HJ7, HB⟩ := hcut
    cases kq with
    | zero => exact absurd HA.out (by simp [haulierlaw01_NumBack.j0])
    | succ kj7 =>
      have H := HA.out
      clear HA
      simp only [haulierlaw01_NumBack.j0] at H
      by_cases c18 : x62_7 = true
      · subst c18
        have H1 : (some false) = some r := by rw [if_pos rfl] at H; exact H
        clear H
        have H := H1
        clear H1
        obtain rfl := Option.some.inj H
        go_wp2
        go_ret
        exact ⟨by first | rfl | (simp [errW_none, errW_some] <;> rfl) | (simp [*, errW_none, errW_some] <;> rfl), by repeat (first | (with_reducible first | exact HB.out | apply below_alloc | apply pw_below_drewN | apply below_drew1) | exact HB.out)⟩
      · replace c18 := Bool.eq_false_iff.mpr c18
        subst c18
        have H1 : (if t203 = 0 then ((num_Sub.f kj7 t202 a1).bind fun bt210 => (if bt210.2 = 0 then (some (bt210.1 == a0)) else (some false))) else (some (t202 == 0))) = some r := by rw [if_neg (show ¬ (false = true) by decide)] at H; exact H
        clear H
        have H := H1
        clear H1
        by_cases c19 : t203 = 0
        · rw [if_pos c19] at H
          have c19b0 : (t203 == 0) = true := beq_iff_eq.mpr c19
          have c19b1 : (t203 != 0) = false := bne_eq_false_iff_eq.mpr c19
          clear c19
          replace H := Option.bind_eq_some_iff.mp H
          obtain ⟨⟨t210, t211⟩, A200, H⟩ := H
          replace H : (if t211 = 0 then (some (t210 == a0)) else (some false)) = some r := H
          have A20 := Aside0.mk A200
          clear A200
          by_cases c21 : t211 = 0
          · rw [if_pos c21] at H
            have c21b0 : (t211 == 0) = true := beq_iff_eq.mpr c21
            have c21b1 : (t211 != 0) = false := bne_eq_false_iff_eq.mpr c21
            clear c21
            obtain rfl := Option.some.inj H
            go_wp2_with (first | ((with_reducible refine gate_callee (f := 21) rfl ?_); refine goesL_ (some 70) rfl rfl Try.func21 (by kernel_rfl) rfl #[.int .i64 t202, .int .i64 a1] rfl (by (try simp only [List.map_toArray, List.map_cons, List.map_nil]); first | done | rfl | (simp only [List.length_drop, List.length_take]; rfl)) ?_; (with_reducible refine (num_Sub.calls kj7 t202 a1 t210 t211 _ A20.out).mono ?_); rintro e w22 ⟨rfl, hb⟩; refine ⟨_, rfl, ?_⟩; have n0_ := Aside0.mk (below_step (by repeat (first | (with_reducible first | exact HB.out | apply below_alloc | apply pw_below_drewN | apply below_drew1) | exact HB.out)) hb); clear HB; have HB := n0_; clear n0_; (try clear hb); (try clear hb2); (try clear hk); (try clear hi)))
            go_ret
            exact ⟨by first | rfl | (simp [errW_none, errW_some] <;> rfl) | (simp [*, errW_none, errW_some] <;> rfl), by repeat (first | (with_reducible first | exact HB.out | apply below_alloc | apply pw_below_drewN | apply below_drew1) | exact HB.out)⟩
          · rw [if_neg c21] at H
            have c21b0 : (t211 == 0) = false := beq_eq_false_iff_ne.mpr c21
            have c21b1 : (t211 != 0) = true := bne_iff_ne.mpr c21
            obtain rfl := Option.some.inj H
            go_wp2_with (first | ((with_reducible refine gate_callee (f := 21) rfl ?_); refine goesL_ (some 70) rfl rfl Try.func21 (by kernel_rfl) rfl #[.int .i64 t202, .int .i64 a1] rfl (by (try simp only [List.map_toArray, List.map_cons, List.map_nil]); first | done | rfl | (simp only [List.length_drop, List.length_take]; rfl)) ?_; (with_reducible refine (num_Sub.calls kj7 t202 a1 t210 t211 _ A20.out).mono ?_); rintro e w23 ⟨rfl, hb⟩; refine ⟨_, rfl, ?_⟩; have n0_ := Aside0.mk (below_step (by repeat (first | (with_reducible first | exact HB.out | apply below_alloc | apply pw_below_drewN | apply below_drew1) | exact HB.out)) hb); clear HB; have HB := n0_; clear n0_; (try clear hb); (try clear hb2); (try clear hk); (try clear hi)))
            go_ret
            exact ⟨by first | rfl | (simp [errW_none, errW_some] <;> rfl) | (simp [*, errW_none, errW_some] <;> rfl), by repeat (first | (with_reducible first | exact HB.out | apply below_alloc | apply pw_below_drewN | apply below_drew1) | exact HB.out)⟩
        · rw [if_neg c19] at H
          have c19b0 : (t203 == 0) = false := beq_eq_false_iff_ne.mpr c19
          have c19b1 : (t203 != 0) = true := bne_iff_ne.mpr c19
          obtain rfl := Option.some.inj H
          go_wp2
          go_ret
          exact ⟨by first | rfl | (simp [errW_none, errW_some] <;> rfl) | (simp [*, errW_none, errW_some] <;> rfl), by repeat (first | (with_reducible first | exact HB.out | apply below_alloc | apply pw_below_drewN | apply below_drew1) | exact HB.out)⟩

/-- THE ONE PURE STATEMENT of haulierlaw01_NumBack: yours. -/
def haulierlaw01_NumBack.Pure : Prop := ∀ (a0 : Int) (a1 : Int), (Lit.int .i64 a0).wf = true → (Lit.int .i64 a1).wf = true → ∃ k, haulierlaw01_NumBack.f k a0 a1 = some true
theorem haulierlaw01_NumBack.walk (P : haulierlaw01_NumBack.Pure) (a0 : Int) (a1 : Int) (w : World) (w0 : (Lit.int .i64 a0).wf = true) (w1 : (Lit.int .i64 a1).wf = true) :
    Calls Try.prog 9 #[.int .i64 a0, .int .i64 a1] w fun e w' => e = .returned (.bool true) ∧ Below w.heap.size w w' := by
  obtain ⟨k, h⟩ := P a0 a1 w0 w1
  refine (haulierlaw01_NumBack.calls k a0 a1 true w h).mono ?_
  rintro e w' ⟨rfl, hd⟩
  exact ⟨rfl, hd⟩

/-! ### haulierlaw01_NumOver: function 10 -/
def haulierlaw01_NumOver.j0 : Nat → Int → Bool → Bool → Option (Bool)
  | 0, _, _, _ => none
  | k + 1, x0, x3, x22 => if x22 = true then (some x3) else ((num_Add.f k x0 1152921504606846976).bind fun bt213 => ((num_Sub.f k x0 1152921504606846976).bind fun bt215 => ((num_Mul.f k x0 2).bind fun bt217 => ((num_Sub.f k x0 x0).bind fun bt219 => (if ((bt213.2 == 0) == (decide (x0 ≤ 0))) = true then (if ((bt215.2 == 0) == (decide (x0 ≥ 0))) = true then (if x0 ≤ 576460752303423488 then (if ((bt217.2 == 0) == (decide (x0 ≥ (-576460752303423488)))) = true then (if bt219.2 = 0 then (some (bt219.1 == 0)) else (some false)) else (some false)) else (if ((bt217.2 == 0) == false) = true then (if bt219.2 = 0 then (some (bt219.1 == 0)) else (some false)) else (some false))) else (some false)) else (some false))))))
def haulierlaw01_NumOver.f (k : Nat) (a0 : Int) : Option (Bool) := (haulierlaw01_awake.f k).bind fun t212 => (if t212 = true then (if a0 < (-1152921504606846976) then (haulierlaw01_NumOver.j0 k a0 t212 true) else (haulierlaw01_NumOver.j0 k a0 t212 (decide (a0 > 1152921504606846976)))) else (haulierlaw01_NumOver.j0 k a0 t212 true))
theorem haulierlaw01_NumOver.mono_l : ∀ k, (∀ y0 y1 y2, LeO (haulierlaw01_NumOver.j0 k y0 y1 y2) (haulierlaw01_NumOver.j0 (k + 1) y0 y1 y2))
  | 0 => fun _ _ _ r h => by simp [haulierlaw01_NumOver.j0] at h
  | k + 1 => by
    have ih0 := haulierlaw01_NumOver.mono_l k
    · intro y0 y1 y2
      unfold haulierlaw01_NumOver.j0
      repeat' first
      | (with_reducible exact ih0 _ _ _)
      | (with_reducible exact haulierlaw01_awake.mono _)
      | (with_reducible exact num_Add.mono _ _ _)
      | (with_reducible exact num_Mul.mono _ _ _)
      | (with_reducible exact num_Sub.mono _ _ _)
      | (with_reducible exact LeO.refl _)
      | (with_reducible exact LeO.none _)
      | (with_reducible refine LeO.ite ?_ ?_)
      | (with_reducible refine LeO.bind ?_ (fun _ => ?_))
      | exact ih0 _ _ _
      | exact haulierlaw01_awake.mono _
      | exact num_Add.mono _ _ _
      | exact num_Mul.mono _ _ _
      | exact num_Sub.mono _ _ _
      | exact LeO.none _
      | refine LeO.ite ?_ ?_
      | refine LeO.bind ?_ (fun _ => ?_)
theorem haulierlaw01_NumOver.mono : ∀ a0 k, LeO (haulierlaw01_NumOver.f k a0) (haulierlaw01_NumOver.f (k + 1) a0) := by
  intro a0 k
  have ih0 := haulierlaw01_NumOver.mono_l k
  unfold haulierlaw01_NumOver.f
  repeat' first
      | (with_reducible exact ih0 _ _ _)
      | (with_reducible exact haulierlaw01_awake.mono _)
      | (with_reducible exact num_Add.mono _ _ _)
      | (with_reducible exact num_Mul.mono _ _ _)
      | (with_reducible exact num_Sub.mono _ _ _)
      | (with_reducible exact LeO.refl _)
      | (with_reducible exact LeO.none _)
      | (with_reducible refine LeO.ite ?_ ?_)
      | (with_reducible refine LeO.bind ?_ (fun _ => ?_))
      | exact ih0 _ _ _
      | exact haulierlaw01_awake.mono _
      | exact num_Add.mono _ _ _
      | exact num_Mul.mono _ _ _
      | exact num_Sub.mono _ _ _
      | exact LeO.none _
      | refine LeO.ite ?_ ?_
      | refine LeO.bind ?_ (fun _ => ?_)
set_option maxHeartbeats 8000000 in
set_option maxRecDepth 100000 in
theorem haulierlaw01_NumOver.calls (k : Nat) (a0 : Int) (r : Bool) (w : World) (h : haulierlaw01_NumOver.f k a0 = some r) :
    Calls Try.prog 10 #[.int .i64 a0] w fun e w' => e = .returned (.bool r) ∧ Below w.heap.size w w' := by
  have HB := Aside0.mk (Below.refl w.heap.size w)
  have H : ((haulierlaw01_awake.f k).bind fun t212 => (if t212 = true then (if a0 < (-1152921504606846976) then (haulierlaw01_NumOver.j0 k a0 t212 true) else (haulierlaw01_NumOver.j0 k a0 t212 (decide (a0 > 1152921504606846976)))) else (haulierlaw01_NumOver.j0 k a0 t212 true))) = some r := h
  clear h
  replace H := Option.bind_eq_some_iff.mp H
  obtain ⟨t212, A20, H⟩ := H
  replace H : (if t212 = true then (if a0 < (-1152921504606846976) then (haulierlaw01_NumOver.j0 k a0 t212 true) else (haulierlaw01_NumOver.j0 k a0 t212 (decide (a0 > 1152921504606846976)))) else (haulierlaw01_NumOver.j0 k a0 t212 true)) = some r := H
  have A2 := Aside0.mk A20
  clear A20
  have HC3 := Aside0.mk H
  clear H
  go_enter Try.func10, Try.ntmps10
  go_upto_region 2 with (first | ((with_reducible refine gate_callee (f := 13) rfl ?_); refine goesL_ (some 12) rfl rfl Try.func13 (by kernel_rfl) rfl #[] rfl (by (try simp only [List.map_toArray, List.map_cons, List.map_nil]); first | done | rfl | (simp only [List.length_drop, List.length_take]; rfl)) ?_; (with_reducible refine (haulierlaw01_awake.calls k  t212 _ A2.out).mono ?_); rintro e w4 ⟨rfl, hb⟩; refine ⟨_, rfl, ?_⟩; have n0_ := Aside0.mk (below_step (by repeat (first | (with_reducible first | exact HB.out | apply below_alloc | apply pw_below_drewN | apply below_drew1) | exact HB.out)) hb); clear HB; have HB := n0_; clear n0_; (try clear hb); (try clear hb2); (try clear hk); (try clear hi)))
  (try simp only [Act.put, List.setIfInBounds_toArray, List.set_cons_zero, List.set_cons_succ])
  go_cut [22] (fun v22 wc => ∃ (kq : Nat) (x22_2 : Bool), v22 = .bool x22_2 ∧ Aside0 (haulierlaw01_NumOver.j0 kq a0 t212 x22_2 = some r) ∧ Aside0 (kq ≤ k) ∧ Aside0 (Below w.heap.size w wc))
  case first =>
    have H := HC3.out
    clear HC3
    by_cases c5 : t212 = true
    · subst c5
      have H1 : (if a0 < (-1152921504606846976) then (haulierlaw01_NumOver.j0 k a0 true true) else (haulierlaw01_NumOver.j0 k a0 true (decide (a0 > 1152921504606846976)))) = some r := by rw [if_pos rfl] at H; exact H
      clear H
      have H := H1
      clear H1
      by_cases c6 : a0 < (-1152921504606846976)
      · rw [if_pos c6] at H
        have c6b0 : decide (a0 < (-1152921504606846976)) = true := decide_eq_true c6
        clear c6
        (first | rw [c6b0] | (simp only [i64_w, i32_w]; rw [c6b0]) | skip)
        have H' := Aside0.mk H
        clear H
        go_wp2
        go_meet
        case rel => exact ⟨_, (true), (by first | rfl | (simp; done) | (simp [*]; done)), H', ⟨by first | omega | exact Nat.le_refl _⟩, ⟨by repeat (first | (with_reducible first | exact HB.out | apply below_alloc | apply pw_below_drewN | apply below_drew1) | exact HB.out)⟩⟩
      · rw [if_neg c6] at H
        have c6b0 : decide (a0 < (-1152921504606846976)) = false := decide_eq_false c6
        clear c6
        (first | rw [c6b0] | (simp only [i64_w, i32_w]; rw [c6b0]) | skip)
        have H' := Aside0.mk H
        clear H
        go_wp2
        go_meet
        case rel => exact ⟨_, (decide (a0 > 1152921504606846976)), (by first | rfl | (simp; done) | (simp [*]; done)), H', ⟨by first | omega | exact Nat.le_refl _⟩, ⟨by repeat (first | (with_reducible first | exact HB.out | apply below_alloc | apply pw_below_drewN | apply below_drew1) | exact HB.out)⟩⟩
    · replace c5 := Bool.eq_false_iff.mpr c5
      subst c5
      have H1 : (haulierlaw01_NumOver.j0 k a0 false true) = some r := by rw [if_neg (show ¬ (false = true) by decide)] at H; exact H
      clear H
      have H := H1
      clear H1
      have H' := Aside0.mk H
      clear H
      go_wp2
      go_meet
      case rel => exact ⟨_, (true), (by first | rfl | (simp; done) | (simp [*]; done)), H', ⟨by first | omega | exact Nat.le_refl _⟩, ⟨by repeat (first | (with_reducible first | exact HB.out | apply below_alloc | apply pw_below_drewN | apply below_drew1) | exact HB.out)⟩⟩
  case rest =>
    clear HC3
    try clear c1
    try clear p2
    try clear c5
    try clear c6
    try clear c6b0
    obtain ⟨kq, x22_2, rfl, HA, HJ2, HB⟩ := hcut
    cases kq with
    | zero => exact absurd HA.out (by simp [haulierlaw01_NumOver.j0])
    | succ kj2 =>
      have H := HA.out
      clear HA
      simp only [haulierlaw01_NumOver.j0] at H
      by_cases c7 : x22_2 = true
      · subst c7
        have H1 : (some t212) = some r := by rw [if_pos rfl] at H; exact H
        clear H
        have H := H1
        clear H1
        obtain rfl := Option.some.inj H
        go_wp2
        go_ret
        exact ⟨by first | rfl | (simp [errW_none, errW_some] <;> rfl) | (simp [*, errW_none, errW_some] <;> rfl), by repeat (first | (with_reducible first | exact HB.out | apply below_alloc | apply pw_below_drewN | apply below_drew1) | exact HB.out)⟩
      · replace c7 := Bool.eq_false_iff.mpr c7
        subst c7
        have H1 : ((num_Add.f kj2 a0 1152921504606846976).bind fun bt213 => ((num_Sub.f kj2 a0 1152921504606846976).bind fun bt215 => ((num_Mul.f kj2 a0 2).bind fun bt217 => ((num_Sub.f kj2 a0 a0).bind fun bt219 => (if ((bt213.2 == 0) == (decide (a0 ≤ 0))) = true then (if ((bt215.2 == 0) == (decide (a0 ≥ 0))) = true then (if a0 ≤ 576460752303423488 then (if ((bt217.2 == 0) == (decide (a0 ≥ (-576460752303423488)))) = true then (if bt219.2 = 0 then (some (bt219.1 == 0)) else (some false)) else (some false)) else (if ((bt217.2 == 0) == false) = true then (if bt219.2 = 0 then (some (bt219.1 == 0)) else (some false)) else (some false))) else (some false)) else (some false)))))) = some r := by rw [if_neg (show ¬ (false = true) by decide)] at H; exact H
        clear H
        have H := H1
        clear H1
        replace H := Option.bind_eq_some_iff.mp H
        obtain ⟨⟨t213, t214⟩, A80, H⟩ := H
        replace H : ((num_Sub.f kj2 a0 1152921504606846976).bind fun bt215 => ((num_Mul.f kj2 a0 2).bind fun bt217 => ((num_Sub.f kj2 a0 a0).bind fun bt219 => (if ((t214 == 0) == (decide (a0 ≤ 0))) = true then (if ((bt215.2 == 0) == (decide (a0 ≥ 0))) = true then (if a0 ≤ 576460752303423488 then (if ((bt217.2 == 0) == (decide (a0 ≥ (-576460752303423488)))) = true then (if bt219.2 = 0 then (some (bt219.1 == 0)) else (some false)) else (some false)) else (if ((bt217.2 == 0) == false) = true then (if bt219.2 = 0 then (some (bt219.1 == 0)) else (some false)) else (some false))) else (some false)) else (some false))))) = some r := H
        have A8 := Aside0.mk A80
        clear A80
        replace H := Option.bind_eq_some_iff.mp H
        obtain ⟨⟨t215, t216⟩, A90, H⟩ := H
        replace H : ((num_Mul.f kj2 a0 2).bind fun bt217 => ((num_Sub.f kj2 a0 a0).bind fun bt219 => (if ((t214 == 0) == (decide (a0 ≤ 0))) = true then (if ((t216 == 0) == (decide (a0 ≥ 0))) = true then (if a0 ≤ 576460752303423488 then (if ((bt217.2 == 0) == (decide (a0 ≥ (-576460752303423488)))) = true then (if bt219.2 = 0 then (some (bt219.1 == 0)) else (some false)) else (some false)) else (if ((bt217.2 == 0) == false) = true then (if bt219.2 = 0 then (some (bt219.1 == 0)) else (some false)) else (some false))) else (some false)) else (some false)))) = some r := H
        have A9 := Aside0.mk A90
        clear A90
        replace H := Option.bind_eq_some_iff.mp H
        obtain ⟨⟨t217, t218⟩, A100, H⟩ := H
        replace H : ((num_Sub.f kj2 a0 a0).bind fun bt219 => (if ((t214 == 0) == (decide (a0 ≤ 0))) = true then (if ((t216 == 0) == (decide (a0 ≥ 0))) = true then (if a0 ≤ 576460752303423488 then (if ((t218 == 0) == (decide (a0 ≥ (-576460752303423488)))) = true then (if bt219.2 = 0 then (some (bt219.1 == 0)) else (some false)) else (some false)) else (if ((t218 == 0) == false) = true then (if bt219.2 = 0 then (some (bt219.1 == 0)) else (some false)) else (some false))) else (some false)) else (some false))) = some r := H
        have A10 := Aside0.mk A100
        clear A100
        replace H := Option.bind_eq_some_iff.mp H
        obtain ⟨⟨t219, t220⟩, A110, H⟩ := H
        replace H : (if ((t214 == 0) == (decide (a0 ≤ 0))) = true then (if ((t216 == 0) == (decide (a0 ≥ 0))) = true then (if a0 ≤ 576460752303423488 then (if ((t218 == 0) == (decide (a0 ≥ (-576460752303423488)))) = true then (if t220 = 0 then (some (t219 == 0)) else (some false)) else (some false)) else (if ((t218 == 0) == false) = true then (if t220 = 0 then (some (t219 == 0)) else (some false)) else (some false))) else (some false)) else (some false)) = some r := H
        have A11 := Aside0.mk A110
        clear A110
        by_cases c12 : ((t214 == 0) == (decide (a0 ≤ 0))) = true
        · rw [if_pos c12] at H
          have c12b0 : ((t214 == 0) == (decide (a0 ≤ 0))) = true := c12
          (try (have c12b1 : decide ((t214 == 0) = (decide (a0 ≤ 0))) = true := by simpa using c12))
          (try (have c12b2 : ((t214 == 0) == (decide (a0 ≤ 0))) = true := by simpa using c12))
          clear c12
          by_cases c13 : ((t216 == 0) == (decide (a0 ≥ 0))) = true
          · rw [if_pos c13] at H
            have c13b0 : ((t216 == 0) == (decide (a0 ≥ 0))) = true := c13
            (try (have c13b1 : decide ((t216 == 0) = (decide (a0 ≥ 0))) = true := by simpa using c13))
            (try (have c13b2 : ((t216 == 0) == (decide (a0 ≥ 0))) = true := by simpa using c13))
            clear c13
            by_cases c14 : a0 ≤ 576460752303423488
            · rw [if_pos c14] at H
              have c14b0 : decide (a0 ≤ 576460752303423488) = true := decide_eq_true c14
              clear c14
              by_cases c15 : ((t218 == 0) == (decide (a0 ≥ (-576460752303423488)))) = true
              · rw [if_pos c15] at H
                have c15b0 : ((t218 == 0) == (decide (a0 ≥ (-576460752303423488)))) = true := c15
                (try (have c15b1 : decide ((t218 == 0) = (decide (a0 ≥ (-576460752303423488)))) = true := by simpa using c15))
                (try (have c15b2 : ((t218 == 0) == (decide (a0 ≥ (-576460752303423488)))) = true := by simpa using c15))
                clear c15
                by_cases c16 : t220 = 0
                · rw [if_pos c16] at H
                  have c16b0 : (t220 == 0) = true := beq_iff_eq.mpr c16
                  have c16b1 : (t220 != 0) = false := bne_eq_false_iff_eq.mpr c16
                  clear c16
                  obtain rfl := Option.some.inj H
                  go_wp2_with (first | ((with_reducible refine gate_callee (f := 18) rfl ?_); refine goesL_ (some 26) rfl rfl Try.func18 (by kernel_rfl) rfl #[.int .i64 a0, .int .i64 1152921504606846976] rfl (by (try simp only [List.map_toArray, List.map_cons, List.map_nil]); first | done | rfl | (simp only [List.length_drop, List.length_take]; rfl)) ?_; (with_reducible refine (num_Add.calls kj2 a0 1152921504606846976 t213 t214 _ A8.out).mono ?_); rintro e w17 ⟨rfl, hb⟩; refine ⟨_, rfl, ?_⟩; have n0_ := Aside0.mk (below_step (by repeat (first | (with_reducible first | exact HB.out | apply below_alloc | apply pw_below_drewN | apply below_drew1) | exact HB.out)) hb); clear HB; have HB := n0_; clear n0_; (try clear hb); (try clear hb2); (try clear hk); (try clear hi)) | ((with_reducible refine gate_callee (f := 21) rfl ?_); refine goesL_ (some 31) rfl rfl Try.func21 (by kernel_rfl) rfl #[.int .i64 a0, .int .i64 1152921504606846976] rfl (by (try simp only [List.map_toArray, List.map_cons, List.map_nil]); first | done | rfl | (simp only [List.length_drop, List.length_take]; rfl)) ?_; (with_reducible refine (num_Sub.calls kj2 a0 1152921504606846976 t215 t216 _ A9.out).mono ?_); rintro e w18 ⟨rfl, hb⟩; refine ⟨_, rfl, ?_⟩; have n0_ := Aside0.mk (below_step (by repeat (first | (with_reducible first | exact HB.out | apply below_alloc | apply pw_below_drewN | apply below_drew1) | exact HB.out)) hb); clear HB; have HB := n0_; clear n0_; (try clear hb); (try clear hb2); (try clear hk); (try clear hi)) | ((with_reducible refine gate_callee (f := 19) rfl ?_); refine goesL_ (some 36) rfl rfl Try.func19 (by kernel_rfl) rfl #[.int .i64 a0, .int .i64 2] rfl (by (try simp only [List.map_toArray, List.map_cons, List.map_nil]); first | done | rfl | (simp only [List.length_drop, List.length_take]; rfl)) ?_; (with_reducible refine (num_Mul.calls kj2 a0 2 t217 t218 _ A10.out).mono ?_); rintro e w19 ⟨rfl, hb⟩; refine ⟨_, rfl, ?_⟩; have n0_ := Aside0.mk (below_step (by repeat (first | (with_reducible first | exact HB.out | apply below_alloc | apply pw_below_drewN | apply below_drew1) | exact HB.out)) hb); clear HB; have HB := n0_; clear n0_; (try clear hb); (try clear hb2); (try clear hk); (try clear hi)) | ((with_reducible refine gate_callee (f := 21) rfl ?_); refine goesL_ (some 42) rfl rfl Try.func21 (by kernel_rfl) rfl #[.int .i64 a0, .int .i64 a0] rfl (by (try simp only [List.map_toArray, List.map_cons, List.map_nil]); first | done | rfl | (simp only [List.length_drop, List.length_take]; rfl)) ?_; (with_reducible refine (num_Sub.calls kj2 a0 a0 t219 t220 _ A11.out).mono ?_); rintro e w20 ⟨rfl, hb⟩; refine ⟨_, rfl, ?_⟩; have n0_ := Aside0.mk (below_step (by repeat (first | (with_reducible first | exact HB.out | apply below_alloc | apply pw_below_drewN | apply below_drew1) | exact HB.out)) hb); clear HB; have HB := n0_; clear n0_; (try clear hb); (try clear hb2); (try clear hk); (try clear hi)))
                  go_ret
                  exact ⟨by first | rfl | (simp [errW_none, errW_some] <;> rfl) | (simp [*, errW_none, errW_some] <;> rfl), by repeat (first | (with_reducible first | exact HB.out | apply below_alloc | apply pw_below_drewN | apply below_drew1) | exact HB.out)⟩
                · rw [if_neg c16] at H
                  have c16b0 : (t220 == 0) = false := beq_eq_false_iff_ne.mpr c16
                  have c16b1 : (t220 != 0) = true := bne_iff_ne.mpr c16
                  obtain rfl := Option.some.inj H
                  go_wp2_with (first | ((with_reducible refine gate_callee (f := 18) rfl ?_); refine goesL_ (some 26) rfl rfl Try.func18 (by kernel_rfl) rfl #[.int .i64 a0, .int .i64 1152921504606846976] rfl (by (try simp only [List.map_toArray, List.map_cons, List.map_nil]); first | done | rfl | (simp only [List.length_drop, List.length_take]; rfl)) ?_; (with_reducible refine (num_Add.calls kj2 a0 1152921504606846976 t213 t214 _ A8.out).mono ?_); rintro e w21 ⟨rfl, hb⟩; refine ⟨_, rfl, ?_⟩; have n0_ := Aside0.mk (below_step (by repeat (first | (with_reducible first | exact HB.out | apply below_alloc | apply pw_below_drewN | apply below_drew1) | exact HB.out)) hb); clear HB; have HB := n0_; clear n0_; (try clear hb); (try clear hb2); (try clear hk); (try clear hi)) | ((with_reducible refine gate_callee (f := 21) rfl ?_); refine goesL_ (some 31) rfl rfl Try.func21 (by kernel_rfl) rfl #[.int .i64 a0, .int .i64 1152921504606846976] rfl (by (try simp only [List.map_toArray, List.map_cons, List.map_nil]); first | done | rfl | (simp only [List.length_drop, List.length_take]; rfl)) ?_; (with_reducible refine (num_Sub.calls kj2 a0 1152921504606846976 t215 t216 _ A9.out).mono ?_); rintro e w22 ⟨rfl, hb⟩; refine ⟨_, rfl, ?_⟩; have n0_ := Aside0.mk (below_step (by repeat (first | (with_reducible first | exact HB.out | apply below_alloc | apply pw_below_drewN | apply below_drew1) | exact HB.out)) hb); clear HB; have HB := n0_; clear n0_; (try clear hb); (try clear hb2); (try clear hk); (try clear hi)) | ((with_reducible refine gate_callee (f := 19) rfl ?_); refine goesL_ (some 36) rfl rfl Try.func19 (by kernel_rfl) rfl #[.int .i64 a0, .int .i64 2] rfl (by (try simp only [List.map_toArray, List.map_cons, List.map_nil]); first | done | rfl | (simp only [List.length_drop, List.length_take]; rfl)) ?_; (with_reducible refine (num_Mul.calls kj2 a0 2 t217 t218 _ A10.out).mono ?_); rintro e w23 ⟨rfl, hb⟩; refine ⟨_, rfl, ?_⟩; have n0_ := Aside0.mk (below_step (by repeat (first | (with_reducible first | exact HB.out | apply below_alloc | apply pw_below_drewN | apply below_drew1) | exact HB.out)) hb); clear HB; have HB := n0_; clear n0_; (try clear hb); (try clear hb2); (try clear hk); (try clear hi)) | ((with_reducible refine gate_callee (f := 21) rfl ?_); refine goesL_ (some 42) rfl rfl Try.func21 (by kernel_rfl) rfl #[.int .i64 a0, .int .i64 a0] rfl (by (try simp only [List.map_toArray, List.map_cons, List.map_nil]); first | done | rfl | (simp only [List.length_drop, List.length_take]; rfl)) ?_; (with_reducible refine (num_Sub.calls kj2 a0 a0 t219 t220 _ A11.out).mono ?_); rintro e w24 ⟨rfl, hb⟩; refine ⟨_, rfl, ?_⟩; have n0_ := Aside0.mk (below_step (by repeat (first | (with_reducible first | exact HB.out | apply below_alloc | apply pw_below_drewN | apply below_drew1) | exact HB.out)) hb); clear HB; have HB := n0_; clear n0_; (try clear hb); (try clear hb2); (try clear hk); (try clear hi)))
                  go_ret
                  exact ⟨by first | rfl | (simp [errW_none, errW_some] <;> rfl) | (simp [*, errW_none, errW_some] <;> rfl), by repeat (first | (with_reducible first | exact HB.out | apply below_alloc | apply pw_below_drewN | apply below_drew1) | exact HB.out)⟩
              · rw [if_neg c15] at H
                have c15b0 : ((t218 == 0) == (decide (a0 ≥ (-576460752303423488)))) = false := by simpa using c15
                (try (have c15b1 : decide ((t218 == 0) = (decide (a0 ≥ (-576460752303423488)))) = false := by simpa using c15))
                (try (have c15b2 : ((t218 == 0) == (decide (a0 ≥ (-576460752303423488)))) = false := by simpa using c15))
                (try (have c15b3 : ¬ ((t218 == 0) = (decide (a0 ≥ (-576460752303423488)))) := by simpa using c15))
                clear c15
                obtain rfl := Option.some.inj H
                go_wp2_with (first | ((with_reducible refine gate_callee (f := 18) rfl ?_); refine goesL_ (some 26) rfl rfl Try.func18 (by kernel_rfl) rfl #[.int .i64 a0, .int .i64 1152921504606846976] rfl (by (try simp only [List.map_toArray, List.map_cons, List.map_nil]); first | done | rfl | (simp only [List.length_drop, List.length_take]; rfl)) ?_; (with_reducible refine (num_Add.calls kj2 a0 1152921504606846976 t213 t214 _ A8.out).mono ?_); rintro e w25 ⟨rfl, hb⟩; refine ⟨_, rfl, ?_⟩; have n0_ := Aside0.mk (below_step (by repeat (first | (with_reducible first | exact HB.out | apply below_alloc | apply pw_below_drewN | apply below_drew1) | exact HB.out)) hb); clear HB; have HB := n0_; clear n0_; (try clear hb); (try clear hb2); (try clear hk); (try clear hi)) | ((with_reducible refine gate_callee (f := 21) rfl ?_); refine goesL_ (some 31) rfl rfl Try.func21 (by kernel_rfl) rfl #[.int .i64 a0, .int .i64 1152921504606846976] rfl (by (try simp only [List.map_toArray, List.map_cons, List.map_nil]); first | done | rfl | (simp only [List.length_drop, List.length_take]; rfl)) ?_; (with_reducible refine (num_Sub.calls kj2 a0 1152921504606846976 t215 t216 _ A9.out).mono ?_); rintro e w26 ⟨rfl, hb⟩; refine ⟨_, rfl, ?_⟩; have n0_ := Aside0.mk (below_step (by repeat (first | (with_reducible first | exact HB.out | apply below_alloc | apply pw_below_drewN | apply below_drew1) | exact HB.out)) hb); clear HB; have HB := n0_; clear n0_; (try clear hb); (try clear hb2); (try clear hk); (try clear hi)) | ((with_reducible refine gate_callee (f := 19) rfl ?_); refine goesL_ (some 36) rfl rfl Try.func19 (by kernel_rfl) rfl #[.int .i64 a0, .int .i64 2] rfl (by (try simp only [List.map_toArray, List.map_cons, List.map_nil]); first | done | rfl | (simp only [List.length_drop, List.length_take]; rfl)) ?_; (with_reducible refine (num_Mul.calls kj2 a0 2 t217 t218 _ A10.out).mono ?_); rintro e w27 ⟨rfl, hb⟩; refine ⟨_, rfl, ?_⟩; have n0_ := Aside0.mk (below_step (by repeat (first | (with_reducible first | exact HB.out | apply below_alloc | apply pw_below_drewN | apply below_drew1) | exact HB.out)) hb); clear HB; have HB := n0_; clear n0_; (try clear hb); (try clear hb2); (try clear hk); (try clear hi)) | ((with_reducible refine gate_callee (f := 21) rfl ?_); refine goesL_ (some 42) rfl rfl Try.func21 (by kernel_rfl) rfl #[.int .i64 a0, .int .i64 a0] rfl (by (try simp only [List.map_toArray, List.map_cons, List.map_nil]); first | done | rfl | (simp only [List.length_drop, List.length_take]; rfl)) ?_; (with_reducible refine (num_Sub.calls kj2 a0 a0 t219 t220 _ A11.out).mono ?_); rintro e w28 ⟨rfl, hb⟩; refine ⟨_, rfl, ?_⟩; have n0_ := Aside0.mk (below_step (by repeat (first | (with_reducible first | exact HB.out | apply below_alloc | apply pw_below_drewN | apply below_drew1) | exact HB.out)) hb); clear HB; have HB := n0_; clear n0_; (try clear hb); (try clear hb2); (try clear hk); (try clear hi)))
                go_ret
                exact ⟨by first | rfl | (simp [errW_none, errW_some] <;> rfl) | (simp [*, errW_none, errW_some] <;> rfl), by repeat (first | (with_reducible first | exact HB.out | apply below_alloc | apply pw_below_drewN | apply below_drew1) | exact HB.out)⟩
            · rw [if_neg c14] at H
              have c14b0 : decide (a0 ≤ 576460752303423488) = false := decide_eq_false c14
              clear c14
              by_cases c29 : ((t218 == 0) == false) = true
              · rw [if_pos c29] at H
                have c29b0 : ((t218 == 0) == false) = true := c29
                (try (have c29b1 : decide ((t218 == 0) = false) = true := by simpa using c29))
                (try (have c29b2 : ((t218 == 0) == false) = true := by simpa using c29))
                clear c29
                by_cases c30 : t220 = 0
                · rw [if_pos c30] at H
                  have c30b0 : (t220 == 0) = true := beq_iff_eq.mpr c30
                  have c30b1 : (t220 != 0) = false := bne_eq_false_iff_eq.mpr c30
                  clear c30
                  obtain rfl := Option.some.inj H
                  go_wp2_with (first | ((with_reducible refine gate_callee (f := 18) rfl ?_); refine goesL_ (some 26) rfl rfl Try.func18 (by kernel_rfl) rfl #[.int .i64 a0, .int .i64 1152921504606846976] rfl (by (try simp only [List.map_toArray, List.map_cons, List.map_nil]); first | done | rfl | (simp only [List.length_drop, List.length_take]; rfl)) ?_; (with_reducible refine (num_Add.calls kj2 a0 1152921504606846976 t213 t214 _ A8.out).mono ?_); rintro e w31 ⟨rfl, hb⟩; refine ⟨_, rfl, ?_⟩; have n0_ := Aside0.mk (below_step (by repeat (first | (with_reducible first | exact HB.out | apply below_alloc | apply pw_below_drewN | apply below_drew1) | exact HB.out)) hb); clear HB; have HB := n0_; clear n0_; (try clear hb); (try clear hb2); (try clear hk); (try clear hi)) | ((with_reducible refine gate_callee (f := 21) rfl ?_); refine goesL_ (some 31) rfl rfl Try.func21 (by kernel_rfl) rfl #[.int .i64 a0, .int .i64 1152921504606846976] rfl (by (try simp only [List.map_toArray, List.map_cons, List.map_nil]); first | done | rfl | (simp only [List.length_drop, List.length_take]; rfl)) ?_; (with_reducible refine (num_Sub.calls kj2 a0 1152921504606846976 t215 t216 _ A9.out).mono ?_); rintro e w32 ⟨rfl, hb⟩; refine ⟨_, rfl, ?_⟩; have n0_ := Aside0.mk (below_step (by repeat (first | (with_reducible first | exact HB.out | apply below_alloc | apply pw_below_drewN | apply below_drew1) | exact HB.out)) hb); clear HB; have HB := n0_; clear n0_; (try clear hb); (try clear hb2); (try clear hk); (try clear hi)) | ((with_reducible refine gate_callee (f := 19) rfl ?_); refine goesL_ (some 36) rfl rfl Try.func19 (by kernel_rfl) rfl #[.int .i64 a0, .int .i64 2] rfl (by (try simp only [List.map_toArray, List.map_cons, List.map_nil]); first | done | rfl | (simp only [List.length_drop, List.length_take]; rfl)) ?_; (with_reducible refine (num_Mul.calls kj2 a0 2 t217 t218 _ A10.out).mono ?_); rintro e w33 ⟨rfl, hb⟩; refine ⟨_, rfl, ?_⟩; have n0_ := Aside0.mk (below_step (by repeat (first | (with_reducible first | exact HB.out | apply below_alloc | apply pw_below_drewN | apply below_drew1) | exact HB.out)) hb); clear HB; have HB := n0_; clear n0_; (try clear hb); (try clear hb2); (try clear hk); (try clear hi)) | ((with_reducible refine gate_callee (f := 21) rfl ?_); refine goesL_ (some 42) rfl rfl Try.func21 (by kernel_rfl) rfl #[.int .i64 a0, .int .i64 a0] rfl (by (try simp only [List.map_toArray, List.map_cons, List.map_nil]); first | done | rfl | (simp only [List.length_drop, List.length_take]; rfl)) ?_; (with_reducible refine (num_Sub.calls kj2 a0 a0 t219 t220 _ A11.out).mono ?_); rintro e w34 ⟨rfl, hb⟩; refine ⟨_, rfl, ?_⟩; have n0_ := Aside0.mk (below_step (by repeat (first | (with_reducible first | exact HB.out | apply below_alloc | apply pw_below_drewN | apply below_drew1) | exact HB.out)) hb); clear HB; have HB := n0_; clear n0_; (try clear hb); (try clear hb2); (try clear hk); (try clear hi)))
                  go_ret
                  exact ⟨by first | rfl | (simp [errW_none, errW_some] <;> rfl) | (simp [*, errW_none, errW_some] <;> rfl), by repeat (first | (with_reducible first | exact HB.out | apply below_alloc | apply pw_below_drewN | apply below_drew1) | exact HB.out)⟩
                · rw [if_neg c30] at H
                  have c30b0 : (t220 == 0) = false := beq_eq_false_iff_ne.mpr c30
                  have c30b1 : (t220 != 0) = true := bne_iff_ne.mpr c30
                  obtain rfl := Option.some.inj H
                  go_wp2_with (first | ((with_reducible refine gate_callee (f := 18) rfl ?_); refine goesL_ (some 26) rfl rfl Try.func18 (by kernel_rfl) rfl #[.int .i64 a0, .int .i64 1152921504606846976] rfl (by (try simp only [List.map_toArray, List.map_cons, List.map_nil]); first | done | rfl | (simp only [List.length_drop, List.length_take]; rfl)) ?_; (with_reducible refine (num_Add.calls kj2 a0 1152921504606846976 t213 t214 _ A8.out).mono ?_); rintro e w35 ⟨rfl, hb⟩; refine ⟨_, rfl, ?_⟩; have n0_ := Aside0.mk (below_step (by repeat (first | (with_reducible first | exact HB.out | apply below_alloc | apply pw_below_drewN | apply below_drew1) | exact HB.out)) hb); clear HB; have HB := n0_; clear n0_; (try clear hb); (try clear hb2); (try clear hk); (try clear hi)) | ((with_reducible refine gate_callee (f := 21) rfl ?_); refine goesL_ (some 31) rfl rfl Try.func21 (by kernel_rfl) rfl #[.int .i64 a0, .int .i64 1152921504606846976] rfl (by (try simp only [List.map_toArray, List.map_cons, List.map_nil]); first | done | rfl | (simp only [List.length_drop, List.length_take]; rfl)) ?_; (with_reducible refine (num_Sub.calls kj2 a0 1152921504606846976 t215 t216 _ A9.out).mono ?_); rintro e w36 ⟨rfl, hb⟩; refine ⟨_, rfl, ?_⟩; have n0_ := Aside0.mk (below_step (by repeat (first | (with_reducible first | exact HB.out | apply below_alloc | apply pw_below_drewN | apply below_drew1) | exact HB.out)) hb); clear HB; have HB := n0_; clear n0_; (try clear hb); (try clear hb2); (try clear hk); (try clear hi)) | ((with_reducible refine gate_callee (f := 19) rfl ?_); refine goesL_ (some 36) rfl rfl Try.func19 (by kernel_rfl) rfl #[.int .i64 a0, .int .i64 2] rfl (by (try simp only [List.map_toArray, List.map_cons, List.map_nil]); first | done | rfl | (simp only [List.length_drop, List.length_take]; rfl)) ?_; (with_reducible refine (num_Mul.calls kj2 a0 2 t217 t218 _ A10.out).mono ?_); rintro e w37 ⟨rfl, hb⟩; refine ⟨_, rfl, ?_⟩; have n0_ := Aside0.mk (below_step (by repeat (first | (with_reducible first | exact HB.out | apply below_alloc | apply pw_below_drewN | apply below_drew1) | exact HB.out)) hb); clear HB; have HB := n0_; clear n0_; (try clear hb); (try clear hb2); (try clear hk); (try clear hi)) | ((with_reducible refine gate_callee (f := 21) rfl ?_); refine goesL_ (some 42) rfl rfl Try.func21 (by kernel_rfl) rfl #[.int .i64 a0, .int .i64 a0] rfl (by (try simp only [List.map_toArray, List.map_cons, List.map_nil]); first | done | rfl | (simp only [List.length_drop, List.length_take]; rfl)) ?_; (with_reducible refine (num_Sub.calls kj2 a0 a0 t219 t220 _ A11.out).mono ?_); rintro e w38 ⟨rfl, hb⟩; refine ⟨_, rfl, ?_⟩; have n0_ := Aside0.mk (below_step (by repeat (first | (with_reducible first | exact HB.out | apply below_alloc | apply pw_below_drewN | apply below_drew1) | exact HB.out)) hb); clear HB; have HB := n0_; clear n0_; (try clear hb); (try clear hb2); (try clear hk); (try clear hi)))
                  go_ret
                  exact ⟨by first | rfl | (simp [errW_none, errW_some] <;> rfl) | (simp [*, errW_none, errW_some] <;> rfl), by repeat (first | (with_reducible first | exact HB.out | apply below_alloc | apply pw_below_drewN | apply below_drew1) | exact HB.out)⟩
              · rw [if_neg c29] at H
                have c29b0 : ((t218 == 0) == false) = false := by simpa using c29
                (try (have c29b1 : decide ((t218 == 0) = false) = false := by simpa using c29))
                (try (have c29b2 : ((t218 == 0) == false) = false := by simpa using c29))
                (try (have c29b3 : ¬ ((t218 == 0) = false) := by simpa using c29))
                clear c29
                obtain rfl := Option.some.inj H
                go_wp2_with (first | ((with_reducible refine gate_callee (f := 18) rfl ?_); refine goesL_ (some 26) rfl rfl Try.func18 (by kernel_rfl) rfl #[.int .i64 a0, .int .i64 1152921504606846976] rfl (by (try simp only [List.map_toArray, List.map_cons, List.map_nil]); first | done | rfl | (simp only [List.length_drop, List.length_take]; rfl)) ?_; (with_reducible refine (num_Add.calls kj2 a0 1152921504606846976 t213 t214 _ A8.out).mono ?_); rintro e w39 ⟨rfl, hb⟩; refine ⟨_, rfl, ?_⟩; have n0_ := Aside0.mk (below_step (by repeat (first | (with_reducible first | exact HB.out | apply below_alloc | apply pw_below_drewN | apply below_drew1) | exact HB.out)) hb); clear HB; have HB := n0_; clear n0_; (try clear hb); (try clear hb2); (try clear hk); (try clear hi)) | ((with_reducible refine gate_callee (f := 21) rfl ?_); refine goesL_ (some 31) rfl rfl Try.func21 (by kernel_rfl) rfl #[.int .i64 a0, .int .i64 1152921504606846976] rfl (by (try simp only [List.map_toArray, List.map_cons, List.map_nil]); first | done | rfl | (simp only [List.length_drop, List.length_take]; rfl)) ?_; (with_reducible refine (num_Sub.calls kj2 a0 1152921504606846976 t215 t216 _ A9.out).mono ?_); rintro e w40 ⟨rfl, hb⟩; refine ⟨_, rfl, ?_⟩; have n0_ := Aside0.mk (below_step (by repeat (first | (with_reducible first | exact HB.out | apply below_alloc | apply pw_below_drewN | apply below_drew1) | exact HB.out)) hb); clear HB; have HB := n0_; clear n0_; (try clear hb); (try clear hb2); (try clear hk); (try clear hi)) | ((with_reducible refine gate_callee (f := 19) rfl ?_); refine goesL_ (some 36) rfl rfl Try.func19 (by kernel_rfl) rfl #[.int .i64 a0, .int .i64 2] rfl (by (try simp only [List.map_toArray, List.map_cons, List.map_nil]); first | done | rfl | (simp only [List.length_drop, List.length_take]; rfl)) ?_; (with_reducible refine (num_Mul.calls kj2 a0 2 t217 t218 _ A10.out).mono ?_); rintro e w41 ⟨rfl, hb⟩; refine ⟨_, rfl, ?_⟩; have n0_ := Aside0.mk (below_step (by repeat (first | (with_reducible first | exact HB.out | apply below_alloc | apply pw_below_drewN | apply below_drew1) | exact HB.out)) hb); clear HB; have HB := n0_; clear n0_; (try clear hb); (try clear hb2); (try clear hk); (try clear hi)) | ((with_reducible refine gate_callee (f := 21) rfl ?_); refine goesL_ (some 42) rfl rfl Try.func21 (by kernel_rfl) rfl #[.int .i64 a0, .int .i64 a0] rfl (by (try simp only [List.map_toArray, List.map_cons, List.map_nil]); first | done | rfl | (simp only [List.length_drop, List.length_take]; rfl)) ?_; (with_reducible refine (num_Sub.calls kj2 a0 a0 t219 t220 _ A11.out).mono ?_); rintro e w42 ⟨rfl, hb⟩; refine ⟨_, rfl, ?_⟩; have n0_ := Aside0.mk (below_step (by repeat (first | (with_reducible first | exact HB.out | apply below_alloc | apply pw_below_drewN | apply below_drew1) | exact HB.out)) hb); clear HB; have HB := n0_; clear n0_; (try clear hb); (try clear hb2); (try clear hk); (try clear hi)))
                go_ret
                exact ⟨by first | rfl | (simp [errW_none, errW_some] <;> rfl) | (simp [*, errW_none, errW_some] <;> rfl), by repeat (first | (with_reducible first | exact HB.out | apply below_alloc | apply pw_below_drewN | apply below_drew1) | exact HB.out)⟩
          · rw [if_neg c13] at H
            have c13b0 : ((t216 == 0) == (decide (a0 ≥ 0))) = false := by simpa using c13
            (try (have c13b1 : decide ((t216 == 0) = (decide (a0 ≥ 0))) = false := by simpa using c13))
            (try (have c13b2 : ((t216 == 0) == (decide (a0 ≥ 0))) = false := by simpa using c13))
            (try (have c13b3 : ¬ ((t216 == 0) = (decide (a0 ≥ 0))) := by simpa using c13))
            clear c13
            obtain rfl := Option.some.inj H
            go_wp2_with (first | ((with_reducible refine gate_callee (f := 18) rfl ?_); refine goesL_ (some 26) rfl rfl Try.func18 (by kernel_rfl) rfl #[.int .i64 a0, .int .i64 1152921504606846976] rfl (by (try simp only [List.map_toArray, List.map_cons, List.map_nil]); first | done | rfl | (simp only [List.length_drop, List.length_take]; rfl)) ?_; (with_reducible refine (num_Add.calls kj2 a0 1152921504606846976 t213 t214 _ A8.out).mono ?_); rintro e w43 ⟨rfl, hb⟩; refine ⟨_, rfl, ?_⟩; have n0_ := Aside0.mk (below_step (by repeat (first | (with_reducible first | exact HB.out | apply below_alloc | apply pw_below_drewN | apply below_drew1) | exact HB.out)) hb); clear HB; have HB := n0_; clear n0_; (try clear hb); (try clear hb2); (try clear hk); (try clear hi)) | ((with_reducible refine gate_callee (f := 21) rfl ?_); refine goesL_ (some 31) rfl rfl Try.func21 (by kernel_rfl) rfl #[.int .i64 a0, .int .i64 1152921504606846976] rfl (by (try simp only [List.map_toArray, List.map_cons, List.map_nil]); first | done | rfl | (simp only [List.length_drop, List.length_take]; rfl)) ?_; (with_reducible refine (num_Sub.calls kj2 a0 1152921504606846976 t215 t216 _ A9.out).mono ?_); rintro e w44 ⟨rfl, hb⟩; refine ⟨_, rfl, ?_⟩; have n0_ := Aside0.mk (below_step (by repeat (first | (with_reducible first | exact HB.out | apply below_alloc | apply pw_below_drewN | apply below_drew1) | exact HB.out)) hb); clear HB; have HB := n0_; clear n0_; (try clear hb); (try clear hb2); (try clear hk); (try clear hi)) | ((with_reducible refine gate_callee (f := 19) rfl ?_); refine goesL_ (some 36) rfl rfl Try.func19 (by kernel_rfl) rfl #[.int .i64 a0, .int .i64 2] rfl (by (try simp only [List.map_toArray, List.map_cons, List.map_nil]); first | done | rfl | (simp only [List.length_drop, List.length_take]; rfl)) ?_; (with_reducible refine (num_Mul.calls kj2 a0 2 t217 t218 _ A10.out).mono ?_); rintro e w45 ⟨rfl, hb⟩; refine ⟨_, rfl, ?_⟩; have n0_ := Aside0.mk (below_step (by repeat (first | (with_reducible first | exact HB.out | apply below_alloc | apply pw_below_drewN | apply below_drew1) | exact HB.out)) hb); clear HB; have HB := n0_; clear n0_; (try clear hb); (try clear hb2); (try clear hk); (try clear hi)) | ((with_reducible refine gate_callee (f := 21) rfl ?_); refine goesL_ (some 42) rfl rfl Try.func21 (by kernel_rfl) rfl #[.int .i64 a0, .int .i64 a0] rfl (by (try simp only [List.map_toArray, List.map_cons, List.map_nil]); first | done | rfl | (simp only [List.length_drop, List.length_take]; rfl)) ?_; (with_reducible refine (num_Sub.calls kj2 a0 a0 t219 t220 _ A11.out).mono ?_); rintro e w46 ⟨rfl, hb⟩; refine ⟨_, rfl, ?_⟩; have n0_ := Aside0.mk (below_step (by repeat (first | (with_reducible first | exact HB.out | apply below_alloc | apply pw_below_drewN | apply below_drew1) | exact HB.out)) hb); clear HB; have HB := n0_; clear n0_; (try clear hb); (try clear hb2); (try clear hk); (try clear hi)))
            go_ret
            exact ⟨by first | rfl | (simp [errW_none, errW_some] <;> rfl) | (simp [*, errW_none, errW_some] <;> rfl), by repeat (first | (with_reducible first | exact HB.out | apply below_alloc | apply pw_below_drewN | apply below_drew1) | exact HB.out)⟩
        · rw [if_neg c12] at H
          have c12b0 : ((t214 == 0) == (decide (a0 ≤ 0))) = false := by simpa using c12
          (try (have c12b1 : decide ((t214 == 0) = (decide (a0 ≤ 0))) = false := by simpa using c12))
          (try (have c12b2 : ((t214 == 0) == (decide (a0 ≤ 0))) = false := by simpa using c12))
          (try (have c12b3 : ¬ ((t214 == 0) = (decide (a0 ≤ 0))) := by simpa using c12))
          clear c12
          obtain rfl := Option.some.inj H
          go_wp2_with (first | ((with_reducible refine gate_callee (f := 18) rfl ?_); refine goesL_ (some 26) rfl rfl Try.func18 (by kernel_rfl) rfl #[.int .i64 a0, .int .i64 1152921504606846976] rfl (by (try simp only [List.map_toArray, List.map_cons, List.map_nil]); first | done | rfl | (simp only [List.length_drop, List.length_take]; rfl)) ?_; (with_reducible refine (num_Add.calls kj2 a0 1152921504606846976 t213 t214 _ A8.out).mono ?_); rintro e w47 ⟨rfl, hb⟩; refine ⟨_, rfl, ?_⟩; have n0_ := Aside0.mk (below_step (by repeat (first | (with_reducible first | exact HB.out | apply below_alloc | apply pw_below_drewN | apply below_drew1) | exact HB.out)) hb); clear HB; have HB := n0_; clear n0_; (try clear hb); (try clear hb2); (try clear hk); (try clear hi)) | ((with_reducible refine gate_callee (f := 21) rfl ?_); refine goesL_ (some 31) rfl rfl Try.func21 (by kernel_rfl) rfl #[.int .i64 a0, .int .i64 1152921504606846976] rfl (by (try simp only [List.map_toArray, List.map_cons, List.map_nil]); first | done | rfl | (simp only [List.length_drop, List.length_take]; rfl)) ?_; (with_reducible refine (num_Sub.calls kj2 a0 1152921504606846976 t215 t216 _ A9.out).mono ?_); rintro e w48 ⟨rfl, hb⟩; refine ⟨_, rfl, ?_⟩; have n0_ := Aside0.mk (below_step (by repeat (first | (with_reducible first | exact HB.out | apply below_alloc | apply pw_below_drewN | apply below_drew1) | exact HB.out)) hb); clear HB; have HB := n0_; clear n0_; (try clear hb); (try clear hb2); (try clear hk); (try clear hi)) | ((with_reducible refine gate_callee (f := 19) rfl ?_); refine goesL_ (some 36) rfl rfl Try.func19 (by kernel_rfl) rfl #[.int .i64 a0, .int .i64 2] rfl (by (try simp only [List.map_toArray, List.map_cons, List.map_nil]); first | done | rfl | (simp only [List.length_drop, List.length_take]; rfl)) ?_; (with_reducible refine (num_Mul.calls kj2 a0 2 t217 t218 _ A10.out).mono ?_); rintro e w49 ⟨rfl, hb⟩; refine ⟨_, rfl, ?_⟩; have n0_ := Aside0.mk (below_step (by repeat (first | (with_reducible first | exact HB.out | apply below_alloc | apply pw_below_drewN | apply below_drew1) | exact HB.out)) hb); clear HB; have HB := n0_; clear n0_; (try clear hb); (try clear hb2); (try clear hk); (try clear hi)) | ((with_reducible refine gate_callee (f := 21) rfl ?_); refine goesL_ (some 42) rfl rfl Try.func21 (by kernel_rfl) rfl #[.int .i64 a0, .int .i64 a0] rfl (by (try simp only [List.map_toArray, List.map_cons, List.map_nil]); first | done | rfl | (simp only [List.length_drop, List.length_take]; rfl)) ?_; (with_reducible refine (num_Sub.calls kj2 a0 a0 t219 t220 _ A11.out).mono ?_); rintro e w50 ⟨rfl, hb⟩; refine ⟨_, rfl, ?_⟩; have n0_ := Aside0.mk (below_step (by repeat (first | (with_reducible first | exact HB.out | apply below_alloc | apply pw_below_drewN | apply below_drew1) | exact HB.out)) hb); clear HB; have HB := n0_; clear n0_; (try clear hb); (try clear hb2); (try clear hk); (try clear hi)))
          go_ret
          exact ⟨by first | rfl | (simp [errW_none, errW_some] <;> rfl) | (simp [*, errW_none, errW_some] <;> rfl), by repeat (first | (with_reducible first | exact HB.out | apply below_alloc | apply pw_below_drewN | apply below_drew1) | exact HB.out)⟩

/-- THE ONE PURE STATEMENT of haulierlaw01_NumOver: yours. -/
def haulierlaw01_NumOver.Pure : Prop := ∀ (a0 : Int), (Lit.int .i64 a0).wf = true → ∃ k, haulierlaw01_NumOver.f k a0 = some true
theorem haulierlaw01_NumOver.walk (P : haulierlaw01_NumOver.Pure) (a0 : Int) (w : World) (w0 : (Lit.int .i64 a0).wf = true) :
    Calls Try.prog 10 #[.int .i64 a0] w fun e w' => e = .returned (.bool true) ∧ Below w.heap.size w w' := by
  obtain ⟨k, h⟩ := P a0 w0
  refine (haulierlaw01_NumOver.calls k a0 true w h).mono ?_
  rintro e w' ⟨rfl, hd⟩
  exact ⟨rfl, hd⟩

end Go.Proofs.Ytnfcccfcfckegaa.PA
