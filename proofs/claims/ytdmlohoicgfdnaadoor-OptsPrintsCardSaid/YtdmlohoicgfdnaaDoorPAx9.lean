-- Printed for this claim by wip/tools/xprint.py over the kit's print; the contracts marked BY HAND are this session's own.
import Derived.Test.YtdmlohoicgfdnaaDoorPAx0
import Derived.Test.YtdmlohoicgfdnaaDoorPAx1
import Derived.Test.YtdmlohoicgfdnaaDoorPAx2
import Derived.Test.YtdmlohoicgfdnaaDoorPAx3
import Derived.Test.YtdmlohoicgfdnaaDoorPAx4
namespace Go.Proofs.YtdmlohoicgfdnaaDoor.PA
open Go.RowKit Go.Proofs.YtdmlohoicgfdnaaDoorW.PrintWords Go.Proofs.YtdmlohoicgfdnaaDoorW.PrintLast Go.Proofs.YtdmlohoicgfdnaaDoorW.PrintMore
attribute [local go_sem] max2_int min2_int max_two min_two max_three min_three max_four min_four   -- for this text's walks alone
set_option linter.unusedVariables false
set_option linter.unusedSimpArgs false

attribute [local go_sem high] eqA35
/-! ### haulierlaw04_ScanNumber: function 6 -/
mutual
def haulierlaw04_ScanNumber.j0 : Nat → Int → Int → Bool → Bool → Bool → Option (Bool)
  | 0, _, _, _, _, _ => none
  | k + 1, x0, x1, x2, x7, x32 => if x32 = true then (some x7) else ((scan_Print.f (([(([x0] : List Int))] : List (List Int)))).bind fun t195 => (if (t195.length : Int) < 2 then (none) else (if x2 = true then (if ([] : List Int).length < 140737488355328 then (haulierlaw04_ScanNumber.j1 k x1 t195 (([] : List Int) ++ [45]) (wrap64 (-x0))) else (none)) else (haulierlaw04_ScanNumber.j1 k x1 t195 ([] : List Int) x0))))
def haulierlaw04_ScanNumber.j1 : Nat → Int → List Int → List Int → Int → Option (Bool)
  | 0, _, _, _, _ => none
  | k + 1, x1, x8, x9, x10 => haulierlaw04_ScanNumber.l0 k x1 x8 x9 x10 0
def haulierlaw04_ScanNumber.l0 : Nat → Int → List Int → List Int → Int → Int → Option (Bool)
  | 0, _, _, _, _, _ => none
  | k + 1, x1, x8, x9, x10, x11 => if x11 < x1 then (if x9.length < 140737488355328 then (haulierlaw04_ScanNumber.l0 k x1 x8 (x9 ++ [48]) x10 (wrap64 (x11 + 1))) else (none)) else (if 0 ≤ (wrap64 ((x8.length : Int) - 1)) then (if (wrap64 ((x8.length : Int) - 1)) ≤ (x8.length : Int) then ((some (x8.take ((wrap64 ((x8.length : Int) - 1)) : Int).toNat : List Int)).bind fun y204 => (if x9.length + y204.length < 140737488355328 then ((scan_Lines.f (x9 ++ y204)).bind fun bt212 => (if (wrap64 ((wrap64 (x1 + (x8.length : Int))) - 1)) > 12 then (some (bt212.2 == 2)) else (if bt212.2 = 0 then (if (bt212.1.length : Int) = 1 then (if 0 < (bt212.1.length : Int) then (if ((rd_L2 bt212.1 0).length : Int) = 1 then (if 0 < ((rd_L2 bt212.1 0).length : Int) then (some ((rd (rd_L2 bt212.1 0) 0) == x10)) else (none)) else (none)) else (none)) else (none)) else (none)))) else (none))) else (none)) else (none))
end
def haulierlaw04_ScanNumber.f (k : Nat) (a0 : Int) (a1 : Int) (a2 : Bool) : Option (Bool) := (haulierlaw04_awake.f).bind fun t188 => (if t188 = true then (if a0 < 0 then (haulierlaw04_ScanNumber.j0 k a0 a1 a2 t188 true) else (if a0 ≥ 1000000000000 then (haulierlaw04_ScanNumber.j0 k a0 a1 a2 t188 true) else (if a1 < 0 then (haulierlaw04_ScanNumber.j0 k a0 a1 a2 t188 true) else (haulierlaw04_ScanNumber.j0 k a0 a1 a2 t188 (decide (a1 > 12)))))) else (haulierlaw04_ScanNumber.j0 k a0 a1 a2 t188 true))
theorem haulierlaw04_ScanNumber.mono_l : ∀ k, (∀ y0 y1 y2 y3 y4, LeO (haulierlaw04_ScanNumber.j0 k y0 y1 y2 y3 y4) (haulierlaw04_ScanNumber.j0 (k + 1) y0 y1 y2 y3 y4)) ∧ (∀ y0 y1 y2 y3, LeO (haulierlaw04_ScanNumber.j1 k y0 y1 y2 y3) (haulierlaw04_ScanNumber.j1 (k + 1) y0 y1 y2 y3)) ∧ (∀ y0 y1 y2 y3 y4, LeO (haulierlaw04_ScanNumber.l0 k y0 y1 y2 y3 y4) (haulierlaw04_ScanNumber.l0 (k + 1) y0 y1 y2 y3 y4))
  | 0 => ⟨fun _ _ _ _ _ r h => by simp [haulierlaw04_ScanNumber.j0] at h, fun _ _ _ _ r h => by simp [haulierlaw04_ScanNumber.j1] at h, fun _ _ _ _ _ r h => by simp [haulierlaw04_ScanNumber.l0] at h⟩
  | k + 1 => by
    obtain ⟨ih0, ih1, ih2⟩ := haulierlaw04_ScanNumber.mono_l k
    refine ⟨?_, ?_, ?_⟩
    · intro y0 y1 y2 y3 y4
      unfold haulierlaw04_ScanNumber.j0
      repeat' first
      | (with_reducible exact ih0 _ _ _ _ _)
      | (with_reducible exact ih1 _ _ _ _)
      | (with_reducible exact ih2 _ _ _ _ _)
      | (with_reducible exact LeO.refl _)
      | (with_reducible exact LeO.none _)
      | (with_reducible refine LeO.ite ?_ ?_)
      | (with_reducible refine LeO.bind ?_ (fun _ => ?_))
      | exact ih0 _ _ _ _ _
      | exact ih1 _ _ _ _
      | exact ih2 _ _ _ _ _
      | exact LeO.none _
      | refine LeO.ite ?_ ?_
      | refine LeO.bind ?_ (fun _ => ?_)
    · intro y0 y1 y2 y3
      unfold haulierlaw04_ScanNumber.j1
      repeat' first
      | (with_reducible exact ih0 _ _ _ _ _)
      | (with_reducible exact ih1 _ _ _ _)
      | (with_reducible exact ih2 _ _ _ _ _)
      | (with_reducible exact LeO.refl _)
      | (with_reducible exact LeO.none _)
      | (with_reducible refine LeO.ite ?_ ?_)
      | (with_reducible refine LeO.bind ?_ (fun _ => ?_))
      | exact ih0 _ _ _ _ _
      | exact ih1 _ _ _ _
      | exact ih2 _ _ _ _ _
      | exact LeO.none _
      | refine LeO.ite ?_ ?_
      | refine LeO.bind ?_ (fun _ => ?_)
    · intro y0 y1 y2 y3 y4
      unfold haulierlaw04_ScanNumber.l0
      repeat' first
      | (with_reducible exact ih0 _ _ _ _ _)
      | (with_reducible exact ih1 _ _ _ _)
      | (with_reducible exact ih2 _ _ _ _ _)
      | (with_reducible exact LeO.refl _)
      | (with_reducible exact LeO.none _)
      | (with_reducible refine LeO.ite ?_ ?_)
      | (with_reducible refine LeO.bind ?_ (fun _ => ?_))
      | exact ih0 _ _ _ _ _
      | exact ih1 _ _ _ _
      | exact ih2 _ _ _ _ _
      | exact LeO.none _
      | refine LeO.ite ?_ ?_
      | refine LeO.bind ?_ (fun _ => ?_)
theorem haulierlaw04_ScanNumber.mono : ∀ a0 a1 a2 k, LeO (haulierlaw04_ScanNumber.f k a0 a1 a2) (haulierlaw04_ScanNumber.f (k + 1) a0 a1 a2) := by
  intro a0 a1 a2 k
  obtain ⟨ih0, ih1, ih2⟩ := haulierlaw04_ScanNumber.mono_l k
  unfold haulierlaw04_ScanNumber.f
  repeat' first
      | (with_reducible exact ih0 _ _ _ _ _)
      | (with_reducible exact ih1 _ _ _ _)
      | (with_reducible exact ih2 _ _ _ _ _)
      | (with_reducible exact LeO.refl _)
      | (with_reducible exact LeO.none _)
      | (with_reducible refine LeO.ite ?_ ?_)
      | (with_reducible refine LeO.bind ?_ (fun _ => ?_))
      | exact ih0 _ _ _ _ _
      | exact ih1 _ _ _ _
      | exact ih2 _ _ _ _ _
      | exact LeO.none _
      | refine LeO.ite ?_ ?_
      | refine LeO.bind ?_ (fun _ => ?_)
set_option maxHeartbeats 8000000 in
set_option maxRecDepth 100000 in
theorem haulierlaw04_ScanNumber.calls (k : Nat) (a0 : Int) (a1 : Int) (a2 : Bool) (r : Bool) (w : World) (h : haulierlaw04_ScanNumber.f k a0 a1 a2 = some r) (hT : Go.Proofs.YtdmlohoicgfdnaaDoor.Scan.NumTab w) :
    Calls Tryd.prog 6 #[.int .i64 a0, .int .i64 a1, .bool a2] w fun e w' => e = .returned (.bool r) ∧ Below w.heap.size w w' := by
  have HT := Aside0.mk hT
  clear hT
  have HB := Aside0.mk (Below.refl w.heap.size w)
  have H : ((haulierlaw04_awake.f).bind fun t188 => (if t188 = true then (if a0 < 0 then (haulierlaw04_ScanNumber.j0 k a0 a1 a2 t188 true) else (if a0 ≥ 1000000000000 then (haulierlaw04_ScanNumber.j0 k a0 a1 a2 t188 true) else (if a1 < 0 then (haulierlaw04_ScanNumber.j0 k a0 a1 a2 t188 true) else (haulierlaw04_ScanNumber.j0 k a0 a1 a2 t188 (decide (a1 > 12)))))) else (haulierlaw04_ScanNumber.j0 k a0 a1 a2 t188 true))) = some r := h
  clear h
  replace H := Option.bind_eq_some_iff.mp H
  obtain ⟨t188, A40, H⟩ := H
  replace H : (if t188 = true then (if a0 < 0 then (haulierlaw04_ScanNumber.j0 k a0 a1 a2 t188 true) else (if a0 ≥ 1000000000000 then (haulierlaw04_ScanNumber.j0 k a0 a1 a2 t188 true) else (if a1 < 0 then (haulierlaw04_ScanNumber.j0 k a0 a1 a2 t188 true) else (haulierlaw04_ScanNumber.j0 k a0 a1 a2 t188 (decide (a1 > 12)))))) else (haulierlaw04_ScanNumber.j0 k a0 a1 a2 t188 true)) = some r := H
  have A4 := Aside0.mk A40
  clear A40
  have HC5 := Aside0.mk H
  clear H
  go_enter Tryd.func6, Tryd.ntmps6
  go_upto_region 2 with (first | ((with_reducible refine gate_callee (f := 8) rfl ?_); refine goesL_ (some 14) rfl rfl Tryd.func8 (by kernel_rfl) rfl #[] rfl (by (try simp only [List.map_toArray, List.map_cons, List.map_nil]); first | done | rfl | (simp only [List.length_drop, List.length_take]; rfl)) ?_; (with_reducible refine (haulierlaw04_awake.calls  t188 _ A4.out).mono ?_); rintro e w6 ⟨rfl, hb⟩; refine ⟨_, rfl, ?_⟩; have n0_ := Aside0.mk (below_step (by repeat (first | (with_reducible first | exact HB.out | apply below_alloc | apply pw_below_drewN | apply below_drew1) | exact HB.out)) hb); clear HB; have HB := n0_; clear n0_; (try clear hb); (try clear hb2); (try clear hk); (try clear hi)))
  (try simp only [Act.put, List.setIfInBounds_toArray, List.set_cons_zero, List.set_cons_succ])
  go_cut [32] (fun v32 wc => ∃ (kq : Nat) (x32_4 : Bool), v32 = .bool x32_4 ∧ Aside0 (haulierlaw04_ScanNumber.j0 kq a0 a1 a2 t188 x32_4 = some r) ∧ Aside0 (kq ≤ k) ∧ Aside0 (Below w.heap.size w wc))
  case first =>
    have H := HC5.out
    clear HC5
    by_cases c7 : t188 = true
    · subst c7
      have H1 : (if a0 < 0 then (haulierlaw04_ScanNumber.j0 k a0 a1 a2 true true) else (if a0 ≥ 1000000000000 then (haulierlaw04_ScanNumber.j0 k a0 a1 a2 true true) else (if a1 < 0 then (haulierlaw04_ScanNumber.j0 k a0 a1 a2 true true) else (haulierlaw04_ScanNumber.j0 k a0 a1 a2 true (decide (a1 > 12)))))) = some r := by rw [if_pos rfl] at H; exact H
      clear H
      have H := H1
      clear H1
      by_cases c8 : a0 < 0
      · rw [if_pos c8] at H
        have c8b0 : decide (a0 < 0) = true := decide_eq_true c8
        clear c8
        (first | rw [c8b0] | (simp only [i64_w, i32_w]; rw [c8b0]) | skip)
        have H' := Aside0.mk H
        clear H
        go_wp2
        go_meet
        case rel => exact ⟨_, (true), (by first | rfl | (simp; done) | (simp [*]; done)), H', ⟨by first | omega | exact Nat.le_refl _⟩, ⟨by repeat (first | (with_reducible first | exact HB.out | apply below_alloc | apply pw_below_drewN | apply below_drew1) | exact HB.out)⟩⟩
      · rw [if_neg c8] at H
        have c8b0 : decide (a0 < 0) = false := decide_eq_false c8
        clear c8
        (first | rw [c8b0] | (simp only [i64_w, i32_w]; rw [c8b0]) | skip)
        by_cases c9 : a0 ≥ 1000000000000
        · rw [if_pos c9] at H
          have c9b0 : decide (1000000000000 ≤ a0) = true := decide_eq_true c9
          clear c9
          have H' := Aside0.mk H
          clear H
          go_wp2
          go_meet
          case rel => exact ⟨_, (true), (by first | rfl | (simp; done) | (simp [*]; done)), H', ⟨by first | omega | exact Nat.le_refl _⟩, ⟨by repeat (first | (with_reducible first | exact HB.out | apply below_alloc | apply pw_below_drewN | apply below_drew1) | exact HB.out)⟩⟩
        · rw [if_neg c9] at H
          have c9b0 : decide (1000000000000 ≤ a0) = false := decide_eq_false c9
          clear c9
          by_cases c10 : a1 < 0
          · rw [if_pos c10] at H
            have c10b0 : decide (a1 < 0) = true := decide_eq_true c10
            clear c10
            have H' := Aside0.mk H
            clear H
            go_wp2
            go_meet
            case rel => exact ⟨_, (true), (by first | rfl | (simp; done) | (simp [*]; done)), H', ⟨by first | omega | exact Nat.le_refl _⟩, ⟨by repeat (first | (with_reducible first | exact HB.out | apply below_alloc | apply pw_below_drewN | apply below_drew1) | exact HB.out)⟩⟩
          · rw [if_neg c10] at H
            have c10b0 : decide (a1 < 0) = false := decide_eq_false c10
            clear c10
            have H' := Aside0.mk H
            clear H
            go_wp2
            go_meet
            case rel => exact ⟨_, (decide (a1 > 12)), (by first | rfl | (simp; done) | (simp [*]; done)), H', ⟨by first | omega | exact Nat.le_refl _⟩, ⟨by repeat (first | (with_reducible first | exact HB.out | apply below_alloc | apply pw_below_drewN | apply below_drew1) | exact HB.out)⟩⟩
    · replace c7 := Bool.eq_false_iff.mpr c7
      subst c7
      have H1 : (haulierlaw04_ScanNumber.j0 k a0 a1 a2 false true) = some r := by rw [if_neg (show ¬ (false = true) by decide)] at H; exact H
      clear H
      have H := H1
      clear H1
      have H' := Aside0.mk H
      clear H
      go_wp2
      go_meet
      case rel => exact ⟨_, (true), (by first | rfl | (simp; done) | (simp [*]; done)), H', ⟨by first | omega | exact Nat.le_refl _⟩, ⟨by repeat (first | (with_reducible first | exact HB.out | apply below_alloc | apply pw_below_drewN | apply below_drew1) | exact HB.out)⟩⟩
  case rest =>
    clear HC5
    try clear c1
    try clear p2
    try clear c6
    try clear c7
    try clear c8
    try clear c8b0
    try clear c9
    try clear c9b0
    try clear c10
    try clear c10b0
    obtain ⟨kq, x32_4, rfl, HA, HJ4, HB⟩ := hcut
    cases kq with
    | zero => exact absurd HA.out (by simp [haulierlaw04_ScanNumber.j0])
    | succ kj4 =>
      have H := HA.out
      clear HA
      simp only [haulierlaw04_ScanNumber.j0] at H
      by_cases c11 : x32_4 = true
      · subst c11
        have H1 : (some t188) = some r := by rw [if_pos rfl] at H; exact H
        clear H
        have H := H1
        clear H1
        obtain rfl := Option.some.inj H
        go_wp2
        go_ret
        exact ⟨by first | rfl | (simp [errW_none, errW_some] <;> rfl) | (simp [*, errW_none, errW_some] <;> rfl), by repeat (first | (with_reducible first | exact HB.out | apply below_alloc | apply pw_below_drewN | apply below_drew1) | exact HB.out)⟩
      · replace c11 := Bool.eq_false_iff.mpr c11
        subst c11
        have H1 : ((scan_Print.f (([(([a0] : List Int))] : List (List Int)))).bind fun t195 => (if (t195.length : Int) < 2 then (none) else (if a2 = true then (if ([] : List Int).length < 140737488355328 then (haulierlaw04_ScanNumber.j1 kj4 a1 t195 (([] : List Int) ++ [45]) (wrap64 (-a0))) else (none)) else (haulierlaw04_ScanNumber.j1 kj4 a1 t195 ([] : List Int) a0)))) = some r := by rw [if_neg (show ¬ (false = true) by decide)] at H; exact H
        clear H
        have H := H1
        clear H1
        obtain ⟨y189, hy189⟩ : ∃ y_ : List Int, y_ = (([a0] : List Int)) := ⟨_, rfl⟩
        replace H : ((scan_Print.f (([y189] : List (List Int)))).bind fun t195 => (if (t195.length : Int) < 2 then (none) else (if a2 = true then (if ([] : List Int).length < 140737488355328 then (haulierlaw04_ScanNumber.j1 kj4 a1 t195 (([] : List Int) ++ [45]) (wrap64 (-a0))) else (none)) else (haulierlaw04_ScanNumber.j1 kj4 a1 t195 ([] : List Int) a0)))) = some r := by first | (rw [hy189]; with_reducible exact H) | (have H2_ := (Option.bind_some _ _).symm.trans H; rw [hy189]; with_reducible exact H2_) | (have H2_ := (Option.bind_some _ _).symm.trans H; with_reducible exact H2_) | with_reducible exact H | (rw [hy189]; exact H) | exact H
        have Ny189 := Aside0.mk hy189
        clear hy189
        obtain ⟨y192, hy192⟩ : ∃ y_ : List (List Int), y_ = (([y189] : List (List Int))) := ⟨_, rfl⟩
        replace H : ((scan_Print.f y192).bind fun t195 => (if (t195.length : Int) < 2 then (none) else (if a2 = true then (if ([] : List Int).length < 140737488355328 then (haulierlaw04_ScanNumber.j1 kj4 a1 t195 (([] : List Int) ++ [45]) (wrap64 (-a0))) else (none)) else (haulierlaw04_ScanNumber.j1 kj4 a1 t195 ([] : List Int) a0)))) = some r := by first | (rw [hy192]; with_reducible exact H) | (have H2_ := (Option.bind_some _ _).symm.trans H; rw [hy192]; with_reducible exact H2_) | (have H2_ := (Option.bind_some _ _).symm.trans H; with_reducible exact H2_) | with_reducible exact H | (rw [hy192]; exact H) | exact H
        have Ny192 := Aside0.mk hy192
        clear hy192
        replace H := Option.bind_eq_some_iff.mp H
        obtain ⟨t195, A120, H⟩ := H
        replace H : (if (t195.length : Int) < 2 then (none) else (if a2 = true then (if ([] : List Int).length < 140737488355328 then (haulierlaw04_ScanNumber.j1 kj4 a1 t195 (([] : List Int) ++ [45]) (wrap64 (-a0))) else (none)) else (haulierlaw04_ScanNumber.j1 kj4 a1 t195 ([] : List Int) a0))) = some r := H
        have A12 := Aside0.mk A120
        clear A120
        by_cases c13 : (t195.length : Int) < 2
        · rw [if_pos c13] at H
          exact absurd H (by simp)
        · rw [if_neg c13] at H
          have c13b0 : decide ((t195.length : Int) < 2) = false := decide_eq_false c13
          have c13b1 : decide (t195.length < 2) = false := decide_eq_false (by omega)
          clear c13
          have HC14 := Aside0.mk H
          clear H
          go_upto_if 42 with (first | ((with_reducible refine gate_dst (N := 35) rfl ?_); (try (refine gate_guard (by rfl) ?_; dsimp only)); refine Kd.R_lit (Kd.int .i64) _ 3 ?hg (N := 35) ?hd (xs := ([a0] : List Int)) (inner := [.int .i64 a0]) (ok := fun _ => True) (okp := fun _ => True) ?hr ?hp (fun _ hk => hk) trivial (Below.refl _ _) (Nat.le_refl _) (by simp) ?_; (case hd => rfl); (case hg => rfl); (case hr => first | (go_simp; done) | (go_simp; rfl)); (case hp => exact (Reps.one (show Kd.M (Kd.int .i64) _ _ _ a0 [.int .i64 a0] from rfl) (Reps.none _ _))); intro v190 w15 ho16 hb hg_ hnew_; clear hg_ hnew_; (first | rw [← Ny189.out] at ho16 | (simp only [Int.reduceToNat] at ho16; rw [← Ny189.out] at ho16)); have n0_ := Aside0.mk (Kd.R_lower ho16 (below_size (by repeat (first | (with_reducible first | exact HB.out | apply below_alloc | apply pw_below_drewN | apply below_drew1) | exact HB.out)))); have n1_ := Aside0.mk (below_step (by repeat (first | (with_reducible first | exact HB.out | apply below_alloc | apply pw_below_drewN | apply below_drew1) | exact HB.out)) hb); clear HB; have HO191 := n0_; have HB := n1_; clear n0_ n1_; clear hb ho16; obtain ⟨Ao17, co17, eo17⟩ := Kd.R_slice HO191.out; subst eo17) | ((with_reducible refine gate_dst (N := 36) rfl ?_); (try (refine gate_guard (by rfl) ?_; dsimp only)); refine Kd.N_lit (Kd.slice 3 (Kd.int .i64)) _ 27 ?hg (N' := 36) ?hd (xs := ([y189] : List (List Int))) (inner := [.slice Ao17 y189.length co17]) (ok := (fun _ => True)) (okp := (fun _ => True)) ?hr ?hp (fun _ hk => hk) ((show ∀ k_, w15.heap.size ≤ k_ → (fun _ => True) k_ from fun k_ hk => trivial) _ (Nat.le_refl _)) (Below.refl _ _) (Nat.le_refl _) (by simp) ?_; (case hd => rfl); (case hg => rfl); (case hr => first | (go_simp; done) | (go_simp; rfl)); (case hp => exact (Reps.one (show Kd.FK (Kd.slice 3 (Kd.int .i64)) _ _ y189 [.slice Ao17 y189.length co17] from (Kd.FK_slice_mk (Kd.R_reads' (Kd.R_mono (ok' := (fun _ => True)) (HO191.out) (fun k_ hk => trivial))).2.1 (Kd.R_F (Kd.R_mono (ok' := (fun _ => True)) (HO191.out) (fun k_ hk => trivial))))) (Reps.none _ _))); intro v193 w18 ho19 hb hg_ hnew_; clear hg_ hnew_; (first | rw [← Ny192.out] at ho19 | (simp only [Int.reduceToNat] at ho19; rw [← Ny192.out] at ho19)); have n0_ := Aside0.mk (Kd.N_lower ho19 (below_size (by repeat (first | (with_reducible first | exact HB.out | apply below_alloc | apply pw_below_drewN | apply below_drew1) | exact HB.out)))); have n1_ := Aside0.mk (below_step (by repeat (first | (with_reducible first | exact HB.out | apply below_alloc | apply pw_below_drewN | apply below_drew1) | exact HB.out)) hb); clear HB; clear HO191; have HO194 := n0_; have HB := n1_; clear n0_ n1_; clear hb ho19; obtain ⟨Ao20, co20, eo20⟩ := Kd.N_slice HO194.out; subst eo20) | ((with_reducible refine gate_callee (f := 10) rfl ?_); refine goesL_ (some 37) rfl rfl Tryd.func10 (by kernel_rfl) rfl #[.slice Ao20 y192.length co20] rfl (by (try simp only [List.map_toArray, List.map_cons, List.map_nil]); first | done | rfl | (simp only [List.length_drop, List.length_take]; rfl)) ?_; (with_reducible refine (scan_Print.calls _ _ y192 t195 _ ?side1 ?side2 A12.out ?tab).mono ?_); (case tab => exact HT.out.on (by repeat (first | (with_reducible first | exact HB.out | apply below_alloc | apply pw_below_drewN | apply below_drew1) | exact HB.out))); (case side1 => repeat (first | exact (Kd.N_reads' HO194.out).2.2 | (with_reducible refine Kd.C_alloc ?_ _) | (with_reducible refine Kd.C_drewN ?_ _) | (with_reducible refine Kd.C_drew ?_))); (case side2 => exact (Kd.N_reads' HO194.out).2.1); rintro e w21 ⟨v196, rfl, ho0, hb⟩; refine ⟨_, rfl, ?_⟩; have n0_ := Aside0.mk (Kd.N_elder' (by (with_reducible repeat (first | apply Kd.N_alloc | apply Kd.N_drewN | apply Kd.N_drew)); exact HO194.out) (Kd.R_base ho0) hb); have n1_ := Aside0.mk (Kd.R_lower ho0 (below_size (by repeat (first | (with_reducible first | exact HB.out | apply below_alloc | apply pw_below_drewN | apply below_drew1) | exact HB.out)))); have n2_ := Aside0.mk (below_step (by repeat (first | (with_reducible first | exact HB.out | apply below_alloc | apply pw_below_drewN | apply below_drew1) | exact HB.out)) hb); clear HO194; clear HB; have HO194 := n0_; have HO197 := n1_; have HB := n2_; clear n0_ n1_ n2_; (try clear hb); (try clear hb2); (try clear hk); (try clear hi); (try clear ho0); obtain ⟨Ao22, co22, eo22⟩ := Kd.R_slice HO197.out; subst eo22))
          (try simp only [Act.put, List.setIfInBounds_toArray, List.set_cons_zero, List.set_cons_succ])
          go_cut [9, 10] (fun v9 v10 wc => ∃ (kq : Nat) (x9_13 : List Int) (x10_13 : Int), v10 = .int .i64 x10_13 ∧ Aside0 (haulierlaw04_ScanNumber.j1 kq a1 t195 x9_13 x10_13 = some r) ∧ Aside0 (kq ≤ kj4) ∧ Aside0 (Kd.R (Kd.int .u8) 5 wc w.heap.size (fun k_ => some k_ ≠ (v9 : Value).ownBlock) (.slice Ao22 t195.length co22) t195) ∧ Aside0 (Kd.R (Kd.int .u8) 5 wc w.heap.size (fun k_ => some k_ ≠ ((.slice Ao22 t195.length co22) : Value).ownBlock) v9 x9_13) ∧ Aside0 (Below w.heap.size w wc))
          case first =>
            have H := HC14.out
            clear HC14
            by_cases c23 : a2 = true
            · subst c23
              have H1 : (if ([] : List Int).length < 140737488355328 then (haulierlaw04_ScanNumber.j1 kj4 a1 t195 (([] : List Int) ++ [45]) (wrap64 (-a0))) else (none)) = some r := by rw [if_pos rfl] at H; exact H
              clear H
              have H := H1
              clear H1
              by_cases c24 : ([] : List Int).length < 140737488355328
              · rw [if_pos c24] at H
                have LMc24 := Aside0.mk c24
                clear c24
                obtain ⟨y198, hy198⟩ : ∃ y_ : List Int, y_ = (([] : List Int) ++ [45]) := ⟨_, rfl⟩
                replace H : (haulierlaw04_ScanNumber.j1 kj4 a1 t195 y198 (wrap64 (-a0))) = some r := by first | (rw [hy198]; with_reducible exact H) | (have H2_ := (Option.bind_some _ _).symm.trans H; rw [hy198]; with_reducible exact H2_) | (have H2_ := (Option.bind_some _ _).symm.trans H; with_reducible exact H2_) | with_reducible exact H | (rw [hy198]; exact H) | exact H
                have Ny198 := Aside0.mk hy198
                clear hy198
                have H' := Aside0.mk H
                clear H
                go_wp2_with (first | ((with_reducible refine gate_builtin (b := .append) (xs := #[.tmp 43, .tmp 44]) rfl ?_); (try (refine gate_guard (by rfl) ?_; dsimp only)); at_builtin; refine Kd.R_append (Kd.int .u8) (w0 := w) w.heap.size rfl (.tmp 43) (.tmp 44) 25 5 (.int .u8 0) 1 rfl Tryd.underlying25 info5 rfl (by decide) (by omega) (.slice none 0 0) ([] : List Int) 45 [.int .u8 45] (fun k_ => some k_ ≠ (.slice Ao22 t195.length co22 : Value).ownBlock) (fun _ => False) rfl rfl ?aP (fun _ hk => hk.elim) ?aF ?aO ?aB ?aS ?aL ?_; (case aP => exact rfl); (case aB => exact (by repeat (first | (with_reducible first | exact HB.out | apply below_alloc | apply pw_below_drewN | apply below_drew1) | exact HB.out))); (case aF => exact (fun k_ hk => Kd.fresh' (Kd.R_lt (by (with_reducible repeat (first | apply Kd.R_alloc | apply Kd.R_drewN | apply Kd.R_drew)); exact HO197.out)) k_ hk)); (case aO => exact ((Kd.R_nil _ _ _ _ (fun k_ => some k_ ≠ (.slice Ao22 t195.length co22 : Value).ownBlock)))); (case aS => exact (below_size (by repeat (first | (with_reducible first | exact HB.out | apply below_alloc | apply pw_below_drewN | apply below_drew1) | exact HB.out)))); (case aL => have := LMc24.out; omega); intro v199 w25 ho hb hg hat; rw [← Ny198.out] at ho; have n0_ := Aside0.mk (Kd.N_afterv (Kd.N_apart_nil (by (with_reducible repeat (first | apply Kd.N_alloc | apply Kd.N_drewN | apply Kd.N_drew)); exact HO194.out)) hg hat); have n1_ := Aside0.mk (Kd.R_after (Kd.R_apart_nil (by (with_reducible repeat (first | apply Kd.R_alloc | apply Kd.R_drewN | apply Kd.R_drew)); exact HO197.out)) hg hat); have n2_ := Aside0.mk (hb); have n3_ := Aside0.mk (ho); clear HO194; clear HO197; clear HB; have HO194 := n0_; have HO197 := n1_; have HB := n2_; have HO200 := n3_; clear n0_ n1_ n2_ n3_; clear ho hb hg hat))
                go_meet
                case rel => exact ⟨_, (y198), (wrap64 (-a0)), (by first | rfl | (simp; done) | (simp [*]; done)), H', ⟨by have := HJ4.out; first | omega | exact Nat.le_refl _⟩, ⟨by (with_reducible repeat (first | apply Kd.R_alloc | apply Kd.R_drewN | apply Kd.R_drew)); exact Kd.R_mono HO197.out (fun _ hk => hk.2)⟩, ⟨by (with_reducible repeat (first | apply Kd.R_alloc | apply Kd.R_drewN | apply Kd.R_drew)); exact HO200.out⟩, ⟨by repeat (first | (with_reducible first | exact HB.out | apply below_alloc | apply pw_below_drewN | apply below_drew1) | exact HB.out)⟩⟩
              · rw [if_neg c24] at H
                exact absurd H (by simp)
            · replace c23 := Bool.eq_false_iff.mpr c23
              subst c23
              have H1 : (haulierlaw04_ScanNumber.j1 kj4 a1 t195 ([] : List Int) a0) = some r := by rw [if_neg (show ¬ (false = true) by decide)] at H; exact H
              clear H
              have H := H1
              clear H1
              have H' := Aside0.mk H
              clear H
              go_wp2
              go_meet
              case rel => exact ⟨_, (([] : List Int)), (a0), (by first | rfl | (simp; done) | (simp [*]; done)), H', ⟨by have := HJ4.out; first | omega | exact Nat.le_refl _⟩, ⟨by (with_reducible repeat (first | apply Kd.R_alloc | apply Kd.R_drewN | apply Kd.R_drew)); exact Kd.R_mono HO197.out (fun _ hk => (by simp [Value.ownBlock]))⟩, ⟨by first | exact Kd.R_nil _ _ _ _ _ | exact Kd.N_nil _ _ _ _ _ | exact Kd.V_nil _ _ _ _ _ | exact Kd.Q_nil _ _ _ _ _ | exact Kd.S_nil _ _ _ _ _⟩, ⟨by repeat (first | (with_reducible first | exact HB.out | apply below_alloc | apply pw_below_drewN | apply below_drew1) | exact HB.out)⟩⟩
          case rest =>
            clear HC14
            try clear c1
            try clear c2
            try clear p2
            try clear c6
            try clear p6
            try clear c7
            try clear c8
            try clear c8b0
            try clear c9
            try clear c9b0
            try clear c10
            try clear c10b0
            try clear c11
            try clear c13
            try clear c13b0
            try clear c13b1
            try clear c23
            try clear c24
            try clear p2
            obtain ⟨kq, x9_13, x10_13, rfl, HA, HJ13, HO_8, HO_9, HB⟩ := hcut
            cases kq with
            | zero => exact absurd HA.out (by simp [haulierlaw04_ScanNumber.j1])
            | succ kj13 =>
              have H := HA.out
              clear HA
              simp only [haulierlaw04_ScanNumber.j1] at H
              have H' := Aside0.mk H
              clear H
              go_wp2
              go_loopg [9, 11] kj13 (fun kq v9 v11 w' => ∃ (x9_3 : List Int) (x11_3 : Int), v11 = .int .i64 x11_3 ∧ Aside0 (haulierlaw04_ScanNumber.l0 kq a1 t195 x9_3 x10_13 x11_3 = some r) ∧ Aside0 (kq ≤ kj13) ∧ Aside0 (Kd.R (Kd.int .u8) 5 w' w.heap.size (fun k_ => some k_ ≠ (v9 : Value).ownBlock) (.slice Ao22 t195.length co22) t195) ∧ Aside0 (Kd.R (Kd.int .u8) 5 w' w.heap.size (fun k_ => some k_ ≠ ((.slice Ao22 t195.length co22) : Value).ownBlock) v9 x9_3) ∧ Aside0 (Below w.heap.size w w'))
              case atStart => exact ⟨(x9_13), (0), (by first | rfl | (simp; done) | (simp [*]; done)), H', ⟨Nat.le_refl _⟩, ⟨by (with_reducible repeat (first | apply Kd.R_alloc | apply Kd.R_drewN | apply Kd.R_drew)); exact HO_8.out⟩, ⟨by (with_reducible repeat (first | apply Kd.R_alloc | apply Kd.R_drewN | apply Kd.R_drew)); exact HO_9.out⟩, ⟨by repeat (first | (with_reducible first | exact HB.out | apply below_alloc | apply pw_below_drewN | apply below_drew1) | exact HB.out)⟩⟩
              case round =>
                clear H'
                try clear c1
                try clear c2
                try clear p2
                try clear c6
                try clear p6
                try clear c7
                try clear c8
                try clear c8b0
                try clear c9
                try clear c9b0
                try clear c10
                try clear c10b0
                try clear c11
                try clear c13
                try clear c13b0
                try clear c13b1
                try clear c23
                try clear c24
                try clear p2
                try clear p6
                obtain ⟨x9_3, x11_3, rfl, HA, HK3, HO_8, HO_9, HB⟩ := hrel
                cases gk with
                | zero => exact absurd HA.out (by simp [haulierlaw04_ScanNumber.l0])
                | succ k3 =>
                  have H := HA.out
                  clear HA
                  simp only [haulierlaw04_ScanNumber.l0] at H
                  by_cases c26 : x11_3 < a1
                  · rw [if_pos c26] at H
                    have c26b0 : decide (x11_3 < a1) = true := decide_eq_true c26
                    clear c26
                    by_cases c27 : x9_3.length < 140737488355328
                    · rw [if_pos c27] at H
                      have LMc27 := Aside0.mk c27
                      clear c27
                      obtain ⟨y201, hy201⟩ : ∃ y_ : List Int, y_ = (x9_3 ++ [48]) := ⟨_, rfl⟩
                      replace H : (haulierlaw04_ScanNumber.l0 k3 a1 t195 y201 x10_13 (wrap64 (x11_3 + 1))) = some r := by first | (rw [hy201]; with_reducible exact H) | (have H2_ := (Option.bind_some _ _).symm.trans H; rw [hy201]; with_reducible exact H2_) | (have H2_ := (Option.bind_some _ _).symm.trans H; with_reducible exact H2_) | with_reducible exact H | (rw [hy201]; exact H) | exact H
                      have Ny201 := Aside0.mk hy201
                      clear hy201
                      have H' := Aside0.mk H
                      clear H
                      go_wp2_with (first | ((with_reducible refine gate_builtin (b := .append) (xs := #[.tmp 53, .tmp 54]) rfl ?_); (try (refine gate_guard (by rfl) ?_; dsimp only)); at_builtin; refine Kd.R_append (Kd.int .u8) (w0 := w) w.heap.size rfl (.tmp 53) (.tmp 54) 25 5 (.int .u8 0) 1 rfl Tryd.underlying25 info5 rfl (by decide) (by omega) u9 x9_3 48 [.int .u8 48] (fun k_ => some k_ ≠ (.slice Ao22 t195.length co22 : Value).ownBlock) (fun _ => False) rfl rfl ?aP (fun _ hk => hk.elim) ?aF ?aO ?aB ?aS ?aL ?_; (case aP => exact rfl); (case aB => exact (by repeat (first | (with_reducible first | exact HB.out | apply below_alloc | apply pw_below_drewN | apply below_drew1) | exact HB.out))); (case aF => exact (fun k_ hk => Kd.fresh' (Kd.R_lt (by (with_reducible repeat (first | apply Kd.R_alloc | apply Kd.R_drewN | apply Kd.R_drew)); exact HO_8.out)) k_ hk)); (case aO => exact (by (with_reducible repeat (first | apply Kd.R_alloc | apply Kd.R_drewN | apply Kd.R_drew)); exact HO_9.out)); (case aS => exact (below_size (by repeat (first | (with_reducible first | exact HB.out | apply below_alloc | apply pw_below_drewN | apply below_drew1) | exact HB.out)))); (case aL => have := LMc27.out; omega); intro v202 w28 ho hb hg hat; rw [← Ny201.out] at ho; have n0_ := Aside0.mk (Kd.R_after (ok := (fun _ => True)) (by (with_reducible repeat (first | apply Kd.R_alloc | apply Kd.R_drewN | apply Kd.R_drew)); exact Kd.R_mono HO_8.out (fun _ hk => ⟨trivial, hk⟩)) hg hat); have n1_ := Aside0.mk (hb); have n2_ := Aside0.mk (ho); clear HO_8; clear HB; clear HO_9; have HO_8 := n0_; have HB := n1_; have HO203 := n2_; clear n0_ n1_ n2_; clear ho hb hg hat))
                      go_roundg k3
                      case measure => have := HJ4.out; have := HJ13.out; have := HK3.out; omega
                      case rel => exact ⟨(y201), (wrap64 (x11_3 + 1)), (by first | rfl | (simp; done) | (simp [*]; done)), H', ⟨by have := HJ4.out; have := HJ13.out; have := HK3.out; omega⟩, ⟨by (with_reducible repeat (first | apply Kd.R_alloc | apply Kd.R_drewN | apply Kd.R_drew)); exact Kd.R_mono HO_8.out (fun _ hk => hk.2)⟩, ⟨by (with_reducible repeat (first | apply Kd.R_alloc | apply Kd.R_drewN | apply Kd.R_drew)); exact HO203.out⟩, ⟨by repeat (first | (with_reducible first | exact HB.out | apply below_alloc | apply pw_below_drewN | apply below_drew1) | exact HB.out)⟩⟩
                    · rw [if_neg c27] at H
                      exact absurd H (by simp)
                  · rw [if_neg c26] at H
                    have c26b0 : decide (x11_3 < a1) = false := decide_eq_false c26
                    clear c26
                    obtain ⟨ji29, hji29⟩ : ∃ j_ : Int, (wrap64 ((t195.length : Int) - 1)) = j_ := ⟨_, rfl⟩
                    replace H : (if 0 ≤ (ji29) then (if (ji29) ≤ (t195.length : Int) then ((some (t195.take ((ji29) : Int).toNat : List Int)).bind fun y204 => (if x9_3.length + y204.length < 140737488355328 then ((scan_Lines.f (x9_3 ++ y204)).bind fun bt212 => (if (wrap64 ((wrap64 (a1 + (t195.length : Int))) - 1)) > 12 then (some (bt212.2 == 2)) else (if bt212.2 = 0 then (if (bt212.1.length : Int) = 1 then (if 0 < (bt212.1.length : Int) then (if ((rd_L2 bt212.1 0).length : Int) = 1 then (if 0 < ((rd_L2 bt212.1 0).length : Int) then (some ((rd (rd_L2 bt212.1 0) 0) == x10_13)) else (none)) else (none)) else (none)) else (none)) else (none)))) else (none))) else (none)) else (none)) = some r := by first | (rw [hji29] at H; exact H) | (simp only [hji29] at H ⊢; exact H)
                    have hji29w : (IntKind.i64.wrap ((t195.length : Int) - 1)) = ji29 := (i64_w _).trans hji29
                    by_cases c30 : 0 ≤ (ji29)
                    · rw [if_pos c30] at H
                      have c30b0 := eq_true c30
                      have c30b1 : decide (0 ≤ (ji29)) = true := decide_eq_true c30
                      clear c30
                      by_cases c31 : (ji29) ≤ (t195.length : Int)
                      · rw [if_pos c31] at H
                        have c31b0 := eq_true c31
                        have c31b1 : decide ((ji29) ≤ (t195.length : Int)) = true := decide_eq_true c31
                        clear c31
                        obtain ⟨y204, hy204⟩ : ∃ y_ : List Int, y_ = (t195.take ((ji29) : Int).toNat) := ⟨_, rfl⟩
                        replace H : (if x9_3.length + y204.length < 140737488355328 then ((scan_Lines.f (x9_3 ++ y204)).bind fun bt212 => (if (wrap64 ((wrap64 (a1 + (t195.length : Int))) - 1)) > 12 then (some (bt212.2 == 2)) else (if bt212.2 = 0 then (if (bt212.1.length : Int) = 1 then (if 0 < (bt212.1.length : Int) then (if ((rd_L2 bt212.1 0).length : Int) = 1 then (if 0 < ((rd_L2 bt212.1 0).length : Int) then (some ((rd (rd_L2 bt212.1 0) 0) == x10_13)) else (none)) else (none)) else (none)) else (none)) else (none)))) else (none)) = some r := by first | (rw [hy204]; with_reducible exact H) | (have H2_ := (Option.bind_some _ _).symm.trans H; rw [hy204]; with_reducible exact H2_) | (have H2_ := (Option.bind_some _ _).symm.trans H; with_reducible exact H2_) | with_reducible exact H | (rw [hy204]; exact H) | exact H
                        have Ny204 := Aside0.mk hy204
                        clear hy204
                        by_cases c32 : x9_3.length + y204.length < 140737488355328
                        · rw [if_pos c32] at H
                          have LMc32 := Aside0.mk c32
                          clear c32
                          obtain ⟨y209, hy209⟩ : ∃ y_ : List Int, y_ = (x9_3 ++ y204) := ⟨_, rfl⟩
                          replace H : ((scan_Lines.f y209).bind fun bt212 => (if (wrap64 ((wrap64 (a1 + (t195.length : Int))) - 1)) > 12 then (some (bt212.2 == 2)) else (if bt212.2 = 0 then (if (bt212.1.length : Int) = 1 then (if 0 < (bt212.1.length : Int) then (if ((rd_L2 bt212.1 0).length : Int) = 1 then (if 0 < ((rd_L2 bt212.1 0).length : Int) then (some ((rd (rd_L2 bt212.1 0) 0) == x10_13)) else (none)) else (none)) else (none)) else (none)) else (none)))) = some r := by first | (rw [hy209]; with_reducible exact H) | (have H2_ := (Option.bind_some _ _).symm.trans H; rw [hy209]; with_reducible exact H2_) | (have H2_ := (Option.bind_some _ _).symm.trans H; with_reducible exact H2_) | with_reducible exact H | (rw [hy209]; exact H) | exact H
                          have Ny209 := Aside0.mk hy209
                          clear hy209
                          replace H := Option.bind_eq_some_iff.mp H
                          obtain ⟨⟨t212, t213⟩, A330, H⟩ := H
                          replace H : (if (wrap64 ((wrap64 (a1 + (t195.length : Int))) - 1)) > 12 then (some (t213 == 2)) else (if t213 = 0 then (if (t212.length : Int) = 1 then (if 0 < (t212.length : Int) then (if ((rd_L2 t212 0).length : Int) = 1 then (if 0 < ((rd_L2 t212 0).length : Int) then (some ((rd (rd_L2 t212 0) 0) == x10_13)) else (none)) else (none)) else (none)) else (none)) else (none))) = some r := H
                          have A33 := Aside0.mk A330
                          clear A330
                          by_cases c34 : (wrap64 ((wrap64 (a1 + (t195.length : Int))) - 1)) > 12
                          · rw [if_pos c34] at H
                            have c34b0 : decide (12 < (wrap64 ((wrap64 (a1 + (t195.length : Int))) - 1))) = true := decide_eq_true c34
                            clear c34
                            obtain rfl := Option.some.inj H
                            have q35 : ((ji29) : Int) ≤ ((t195.length : Int) : Int) := of_decide_eq_true (by first | (with_reducible assumption) | assumption)
                            obtain ⟨i035, hi035, _, hsz35, _⟩ := info_parts info5
                            have hroom35 : t195.length ≤ co22 := (Kd.R_reads' HO_8.out).2.1
                            have hC35 : Kd.F (Kd.int .u8) _ _ Ao22 t195.length t195 := (Kd.V_at (base := w.heap.size) (Kd.R_V HO_8.out)).2.2
                            have hcut35 := cut_to (P := Tryd.prog) 25 5 .i64 Tryd.underlying25 hi035 Ao22 t195.length co22 (ji29) (of_decide_eq_true (by first | (with_reducible assumption) | assumption)) q35 hroom35
                            have hr35 := Kd.F_take (m := ((ji29) : Int).toNat) hC35 (by omega)
                            have hy35 : y204.length = ((ji29) : Int).toNat := (by rw [Ny204.out, List.length_take]; omega)
                            rw [← Ny204.out] at hr35
                            rw [← hy35] at hcut35
                            have HO208 := Aside0.mk (show Kd.V (Kd.int .u8) 5 _ w.heap.size _ (.slice Ao22 y204.length co22) y204 from Kd.V_mk (by omega) hr35)
                            have HC208 := Aside0.mk (show y204.length ≤ co22 from by omega)
                            clear hr35 hC35 hroom35 hi035 hsz35
                            have KY35 := Aside0.mk hy35
                            clear hy35
                            replace q35 := eq_true q35
                            go_wp2_with (first | ((with_reducible refine gate_builtin (b := .append) (xs := #[.tmp 56, .tmp 61]) rfl ?_); (try (refine gate_guard (by rfl) ?_; dsimp only)); at_builtin; refine Kd.R_append_rows (Kd.int .u8) (w0 := w) w.heap.size rfl (.tmp 56) (.tmp 61) 25 5 (.int .u8 0) 1 rfl Tryd.underlying25 info5 rfl (by decide) (by omega) u9 x9_3 y204 _ _ _ (fun k_ => some k_ ≠ (.slice Ao22 t195.length co22 : Value).ownBlock) (fun _ => False) rfl rfl ?aO ?aR (fun _ _ h => h) (fun _ h => h.elim) ?aF ?aB ?aS ?aL ?_; (case aR => repeat (first | exact (Kd.V_reads' HO208.out).2.2 | (with_reducible refine Kd.C_alloc ?_ _) | (with_reducible refine Kd.C_drewN ?_ _) | (with_reducible refine Kd.C_drew ?_))); (case aB => exact (by repeat (first | (with_reducible first | exact HB.out | apply below_alloc | apply pw_below_drewN | apply below_drew1) | exact HB.out))); (case aF => exact (fun k_ hk => Kd.fresh' (Kd.R_lt (by (with_reducible repeat (first | apply Kd.R_alloc | apply Kd.R_drewN | apply Kd.R_drew)); exact HO_8.out)) k_ hk)); (case aO => exact (by (with_reducible repeat (first | apply Kd.R_alloc | apply Kd.R_drewN | apply Kd.R_drew)); exact HO_9.out)); (case aS => exact (below_size (by repeat (first | (with_reducible first | exact HB.out | apply below_alloc | apply pw_below_drewN | apply below_drew1) | exact HB.out)))); (case aL => have := LMc32.out; omega); intro v210 w36 ho hb hg hat; rw [← Ny209.out] at ho; have n0_ := Aside0.mk (Kd.R_after (ok := (fun _ => True)) (by (with_reducible repeat (first | apply Kd.R_alloc | apply Kd.R_drewN | apply Kd.R_drew)); exact Kd.R_mono HO_8.out (fun _ hk => ⟨trivial, hk⟩)) hg hat); have n1_ := Aside0.mk (Kd.V_afterv (ok := (fun _ => True)) (by (with_reducible repeat (first | apply Kd.V_alloc | apply Kd.V_drewN | apply Kd.V_drew)); exact Kd.V_mono HO208.out (fun _ hk => ⟨trivial, hk⟩)) hg hat); have n2_ := Aside0.mk (hb); have n3_ := Aside0.mk (ho); clear HO_8; clear HO208; clear HB; clear HO_9; have HO_8 := n0_; have HO208 := n1_; have HB := n2_; have HO211 := n3_; clear n0_ n1_ n2_ n3_; clear ho hb hg hat; obtain ⟨Ao37, co37, eo37⟩ := Kd.R_slice HO211.out; subst eo37) | ((with_reducible refine gate_callee (f := 12) rfl ?_); refine goesL_ (some 65) rfl rfl Tryd.func12 (by kernel_rfl) rfl #[.slice Ao37 y209.length co37] rfl (by (try simp only [List.map_toArray, List.map_cons, List.map_nil]); first | done | rfl | (simp only [List.length_drop, List.length_take]; rfl)) ?_; (with_reducible refine (scan_Lines.calls _ _ y209 t212 t213 _ ?side1 ?side2 A33.out).mono ?_); (case side1 => repeat (first | exact (Kd.R_reads' HO211.out).2.2 | (with_reducible refine Kd.C_alloc ?_ _) | (with_reducible refine Kd.C_drewN ?_ _) | (with_reducible refine Kd.C_drew ?_))); (case side2 => exact (Kd.R_reads' HO211.out).2.1); rintro e w38 ⟨v214, rfl, ho0, hb⟩; refine ⟨_, rfl, ?_⟩; have n0_ := Aside0.mk (Kd.R_below (by (with_reducible repeat (first | apply Kd.R_alloc | apply Kd.R_drewN | apply Kd.R_drew)); exact HO_8.out) hb); have n1_ := Aside0.mk (Kd.V_elder' (by (with_reducible repeat (first | apply Kd.V_alloc | apply Kd.V_drewN | apply Kd.V_drew)); exact HO208.out) (Kd.S_base ho0) hb); have n2_ := Aside0.mk (Kd.R_below (by (with_reducible repeat (first | apply Kd.R_alloc | apply Kd.R_drewN | apply Kd.R_drew)); exact HO211.out) hb); have n3_ := Aside0.mk (Kd.N_lower (Kd.N_mono (ok' := fun k_ => some k_ ≠ (.slice Ao22 t195.length co22 : Value).ownBlock ∧ some k_ ≠ (.slice Ao37 y209.length co37 : Value).ownBlock) (Kd.S_N (Kd.S_bound ho0)) (fun k_ hk_ => ⟨(Kd.fresh' (Kd.R_lt (by (with_reducible repeat (first | apply Kd.R_alloc | apply Kd.R_drewN | apply Kd.R_drew)); exact HO_8.out)) k_ hk_.2.1), (Kd.fresh' (Kd.R_lt (by (with_reducible repeat (first | apply Kd.R_alloc | apply Kd.R_drewN | apply Kd.R_drew)); exact HO211.out)) k_ hk_.2.1)⟩)) (below_size (by repeat (first | (with_reducible first | exact HB.out | apply below_alloc | apply pw_below_drewN | apply below_drew1) | exact HB.out)))); have n4_ := Aside0.mk (below_step (by repeat (first | (with_reducible first | exact HB.out | apply below_alloc | apply pw_below_drewN | apply below_drew1) | exact HB.out)) hb); clear HO_8; clear HO208; clear HO211; clear HB; have HO_8 := n0_; have HO208 := n1_; have HO211 := n2_; have HO215 := n3_; have HB := n4_; clear n0_ n1_ n2_ n3_ n4_; (try clear hb); (try clear hb2); (try clear hk); (try clear hi); (try clear ho0)))
                            go_ret
                            exact ⟨by first | rfl | (simp [errW_none, errW_some] <;> rfl) | (simp only [← hji29]; first | rfl | (simp [errW_none, errW_some] <;> rfl)) | (simp [*, errW_none, errW_some] <;> rfl), by repeat (first | (with_reducible first | exact HB.out | apply below_alloc | apply pw_below_drewN | apply below_drew1) | exact HB.out)⟩
                          · rw [if_neg c34] at H
                            have c34b0 : decide (12 < (wrap64 ((wrap64 (a1 + (t195.length : Int))) - 1))) = false := decide_eq_false c34
                            clear c34
                            by_cases c39 : t213 = 0
                            · rw [if_pos c39] at H
                              have c39b0 : (t213 == 0) = true := beq_iff_eq.mpr c39
                              have c39b1 : (t213 != 0) = false := bne_eq_false_iff_eq.mpr c39
                              clear c39
                              by_cases c40 : (t212.length : Int) = 1
                              · rw [if_pos c40] at H
                                have c40b0 : ((t212.length : Int) == 1) = true := beq_iff_eq.mpr c40
                                have c40b1 : ((t212.length : Int) != 1) = false := bne_eq_false_iff_eq.mpr c40
                                clear c40
                                by_cases c41 : 0 < (t212.length : Int)
                                · rw [if_pos c41] at H
                                  have c41b0 : decide (0 < (t212.length : Int)) = true := decide_eq_true c41
                                  have c41b1 : decide (0 < t212.length) = true := decide_eq_true (by omega)
                                  clear c41
                                  by_cases c42 : ((rd_L2 t212 0).length : Int) = 1
                                  · rw [if_pos c42] at H
                                    have c42b0 : (((rd_L2 t212 0).length : Int) == 1) = true := beq_iff_eq.mpr c42
                                    have c42b1 : (((rd_L2 t212 0).length : Int) != 1) = false := bne_eq_false_iff_eq.mpr c42
                                    clear c42
                                    by_cases c43 : 0 < ((rd_L2 t212 0).length : Int)
                                    · rw [if_pos c43] at H
                                      have c43b0 : decide (0 < ((rd_L2 t212 0).length : Int)) = true := decide_eq_true c43
                                      have c43b1 : decide (0 < (rd_L2 t212 0).length) = true := decide_eq_true (by omega)
                                      clear c43
                                      obtain rfl := Option.some.inj H
                                      have q44 : ((ji29) : Int) ≤ ((t195.length : Int) : Int) := of_decide_eq_true (by first | (with_reducible assumption) | assumption)
                                      obtain ⟨i044, hi044, _, hsz44, _⟩ := info_parts info5
                                      have hroom44 : t195.length ≤ co22 := (Kd.R_reads' HO_8.out).2.1
                                      have hC44 : Kd.F (Kd.int .u8) _ _ Ao22 t195.length t195 := (Kd.V_at (base := w.heap.size) (Kd.R_V HO_8.out)).2.2
                                      have hcut44 := cut_to (P := Tryd.prog) 25 5 .i64 Tryd.underlying25 hi044 Ao22 t195.length co22 (ji29) (of_decide_eq_true (by first | (with_reducible assumption) | assumption)) q44 hroom44
                                      have hr44 := Kd.F_take (m := ((ji29) : Int).toNat) hC44 (by omega)
                                      have hy44 : y204.length = ((ji29) : Int).toNat := (by rw [Ny204.out, List.length_take]; omega)
                                      rw [← Ny204.out] at hr44
                                      rw [← hy44] at hcut44
                                      have HO208 := Aside0.mk (show Kd.V (Kd.int .u8) 5 _ w.heap.size _ (.slice Ao22 y204.length co22) y204 from Kd.V_mk (by omega) hr44)
                                      have HC208 := Aside0.mk (show y204.length ≤ co22 from by omega)
                                      clear hr44 hC44 hroom44 hi044 hsz44
                                      have KY44 := Aside0.mk hy44
                                      clear hy44
                                      replace q44 := eq_true q44
                                      go_wp2_with (first | ((with_reducible refine gate_builtin (b := .append) (xs := #[.tmp 56, .tmp 61]) rfl ?_); (try (refine gate_guard (by rfl) ?_; dsimp only)); at_builtin; refine Kd.R_append_rows (Kd.int .u8) (w0 := w) w.heap.size rfl (.tmp 56) (.tmp 61) 25 5 (.int .u8 0) 1 rfl Tryd.underlying25 info5 rfl (by decide) (by omega) u9 x9_3 y204 _ _ _ (fun k_ => some k_ ≠ (.slice Ao22 t195.length co22 : Value).ownBlock) (fun _ => False) rfl rfl ?aO ?aR (fun _ _ h => h) (fun _ h => h.elim) ?aF ?aB ?aS ?aL ?_; (case aR => repeat (first | exact (Kd.V_reads' HO208.out).2.2 | (with_reducible refine Kd.C_alloc ?_ _) | (with_reducible refine Kd.C_drewN ?_ _) | (with_reducible refine Kd.C_drew ?_))); (case aB => exact (by repeat (first | (with_reducible first | exact HB.out | apply below_alloc | apply pw_below_drewN | apply below_drew1) | exact HB.out))); (case aF => exact (fun k_ hk => Kd.fresh' (Kd.R_lt (by (with_reducible repeat (first | apply Kd.R_alloc | apply Kd.R_drewN | apply Kd.R_drew)); exact HO_8.out)) k_ hk)); (case aO => exact (by (with_reducible repeat (first | apply Kd.R_alloc | apply Kd.R_drewN | apply Kd.R_drew)); exact HO_9.out)); (case aS => exact (below_size (by repeat (first | (with_reducible first | exact HB.out | apply below_alloc | apply pw_below_drewN | apply below_drew1) | exact HB.out)))); (case aL => have := LMc32.out; omega); intro v210 w45 ho hb hg hat; rw [← Ny209.out] at ho; have n0_ := Aside0.mk (Kd.R_after (ok := (fun _ => True)) (by (with_reducible repeat (first | apply Kd.R_alloc | apply Kd.R_drewN | apply Kd.R_drew)); exact Kd.R_mono HO_8.out (fun _ hk => ⟨trivial, hk⟩)) hg hat); have n1_ := Aside0.mk (Kd.V_afterv (ok := (fun _ => True)) (by (with_reducible repeat (first | apply Kd.V_alloc | apply Kd.V_drewN | apply Kd.V_drew)); exact Kd.V_mono HO208.out (fun _ hk => ⟨trivial, hk⟩)) hg hat); have n2_ := Aside0.mk (hb); have n3_ := Aside0.mk (ho); clear HO_8; clear HO208; clear HB; clear HO_9; have HO_8 := n0_; have HO208 := n1_; have HB := n2_; have HO211 := n3_; clear n0_ n1_ n2_ n3_; clear ho hb hg hat; obtain ⟨Ao46, co46, eo46⟩ := Kd.R_slice HO211.out; subst eo46) | ((with_reducible refine gate_callee (f := 12) rfl ?_); refine goesL_ (some 65) rfl rfl Tryd.func12 (by kernel_rfl) rfl #[.slice Ao46 y209.length co46] rfl (by (try simp only [List.map_toArray, List.map_cons, List.map_nil]); first | done | rfl | (simp only [List.length_drop, List.length_take]; rfl)) ?_; (with_reducible refine (scan_Lines.calls _ _ y209 t212 t213 _ ?side1 ?side2 A33.out).mono ?_); (case side1 => repeat (first | exact (Kd.R_reads' HO211.out).2.2 | (with_reducible refine Kd.C_alloc ?_ _) | (with_reducible refine Kd.C_drewN ?_ _) | (with_reducible refine Kd.C_drew ?_))); (case side2 => exact (Kd.R_reads' HO211.out).2.1); rintro e w47 ⟨v214, rfl, ho0, hb⟩; refine ⟨_, rfl, ?_⟩; have n0_ := Aside0.mk (Kd.R_below (by (with_reducible repeat (first | apply Kd.R_alloc | apply Kd.R_drewN | apply Kd.R_drew)); exact HO_8.out) hb); have n1_ := Aside0.mk (Kd.V_elder' (by (with_reducible repeat (first | apply Kd.V_alloc | apply Kd.V_drewN | apply Kd.V_drew)); exact HO208.out) (Kd.S_base ho0) hb); have n2_ := Aside0.mk (Kd.R_below (by (with_reducible repeat (first | apply Kd.R_alloc | apply Kd.R_drewN | apply Kd.R_drew)); exact HO211.out) hb); have n3_ := Aside0.mk (Kd.N_lower (Kd.N_mono (ok' := fun k_ => some k_ ≠ (.slice Ao22 t195.length co22 : Value).ownBlock ∧ some k_ ≠ (.slice Ao46 y209.length co46 : Value).ownBlock) (Kd.S_N (Kd.S_bound ho0)) (fun k_ hk_ => ⟨(Kd.fresh' (Kd.R_lt (by (with_reducible repeat (first | apply Kd.R_alloc | apply Kd.R_drewN | apply Kd.R_drew)); exact HO_8.out)) k_ hk_.2.1), (Kd.fresh' (Kd.R_lt (by (with_reducible repeat (first | apply Kd.R_alloc | apply Kd.R_drewN | apply Kd.R_drew)); exact HO211.out)) k_ hk_.2.1)⟩)) (below_size (by repeat (first | (with_reducible first | exact HB.out | apply below_alloc | apply pw_below_drewN | apply below_drew1) | exact HB.out)))); have n4_ := Aside0.mk (below_step (by repeat (first | (with_reducible first | exact HB.out | apply below_alloc | apply pw_below_drewN | apply below_drew1) | exact HB.out)) hb); clear HO_8; clear HO208; clear HO211; clear HB; have HO_8 := n0_; have HO208 := n1_; have HO211 := n2_; have HO215 := n3_; have HB := n4_; clear n0_ n1_ n2_ n3_ n4_; (try clear hb); (try clear hb2); (try clear hk); (try clear hi); (try clear ho0); obtain ⟨Ao48, co48, eo48⟩ := Kd.N_slice HO215.out; subst eo48; have p216 : 0 ≤ (0 : Int) := (by omega); have q216 : 0 < (t212.length : Int) := of_decide_eq_true (by first | (with_reducible assumption) | assumption); obtain ⟨ad216, A216_0, c216_0, e216, hx216_0, hl216_0, hi216_0⟩ := at_L2 (Kd.N_reads' HO215.out).2.2 0 p216 q216; cases e216; obtain ⟨ce216, hce216, hMe216, hcc216⟩ := Kd.N_get HO215.out [] 0 p216 (by first | exact q216 | exact of_decide_eq_true (by first | (with_reducible assumption) | assumption) | (have e_ := (Kd.N_reads' HO215.out).1; omega)); obtain ⟨ua216_0, uc216_0, rfl, ul216_0, ge216_0⟩ := Kd.FK_slice_open hMe216; have hv216_0 := hcc216 0 _ rfl; rw [Nat.add_zero, show ((Kd.slice 3 (Kd.int .i64))).sz = 1 from rfl, Nat.mul_one] at hv216_0; replace hv216_0 := Option.some.inj (hv216_0.symm.trans hx216_0); injection hv216_0 with hva_ hvn_ hvc_; rw [hva_] at ge216_0; rw [hvc_] at ul216_0; have HL216_0 := Aside0.mk (show Kd.V (Kd.int .i64) 3 _ w.heap.size _ _ (rd_L2 t212 0) from Kd.V_mk ul216_0 ge216_0); clear hva_ hvn_ hvc_ ge216_0 ul216_0; clear hcc216 hce216; have qi216 : (0 < t212.length) = True := eq_true (by omega); (try rw [show ((0 : Int)).toNat = 0 from rfl] at hx216_0); (try rw [Addr.add_zero'] at hx216_0); have HR216_0 := Aside0.mk hi216_0; have HC216_0 := Aside0.mk hl216_0; clear hi216_0 hl216_0; replace p216 := eq_true p216; replace q216 := eq_true q216; have p217 : 0 ≤ (0 : Int) := (by omega); have q217 : 0 < (t212.length : Int) := of_decide_eq_true (by first | (with_reducible assumption) | assumption); obtain ⟨ad217, A217_0, c217_0, e217, hx217_0, hl217_0, hi217_0⟩ := at_L2 (Kd.N_reads' HO215.out).2.2 0 p217 q217; obtain rfl : ad216 = ad217 := (by injection e217); obtain ⟨ce217, hce217, hMe217, hcc217⟩ := Kd.N_get HO215.out [] 0 p217 (by first | exact q217 | exact of_decide_eq_true (by first | (with_reducible assumption) | assumption) | (have e_ := (Kd.N_reads' HO215.out).1; omega)); obtain ⟨ua217_0, uc217_0, rfl, ul217_0, ge217_0⟩ := Kd.FK_slice_open hMe217; have hv217_0 := hcc217 0 _ rfl; rw [Nat.add_zero, show ((Kd.slice 3 (Kd.int .i64))).sz = 1 from rfl, Nat.mul_one] at hv217_0; replace hv217_0 := Option.some.inj (hv217_0.symm.trans hx217_0); injection hv217_0 with hva_ hvn_ hvc_; rw [hva_] at ge217_0; rw [hvc_] at ul217_0; have HL217_0 := Aside0.mk (show Kd.V (Kd.int .i64) 3 _ w.heap.size _ _ (rd_L2 t212 0) from Kd.V_mk ul217_0 ge217_0); clear hva_ hvn_ hvc_ ge217_0 ul217_0; clear hcc217 hce217; have qi217 : (0 < t212.length) = True := eq_true (by omega); (try rw [show ((0 : Int)).toNat = 0 from rfl] at hx217_0); (try rw [Addr.add_zero'] at hx217_0); have HR217_0 := Aside0.mk hi217_0; have HC217_0 := Aside0.mk hl217_0; clear hi217_0 hl217_0; replace p217 := eq_true p217; replace q217 := eq_true q217; have ea_ := Option.some.inj (hx216_0.symm.trans hx217_0); injection ea_ with ea_ en_ ec_; subst ea_; subst ec_; clear en_; have p218 : 0 ≤ (0 : Int) := (by omega); have q218 : 0 < ((rd_L2 t212 0).length : Int) := of_decide_eq_true (by first | (with_reducible assumption) | assumption); obtain ⟨ad218, e218, hx218_0⟩ := Kd.at_int (by repeat (first | (with_reducible exact HR217_0.out) | (with_reducible refine Kd.C_alloc ?_ _) | (with_reducible refine Kd.C_drewN ?_ _) | (with_reducible refine Kd.C_drew ?_) | exact HR217_0.out)) 0 p218 q218; cases e218; have qi218 : (0 < (rd_L2 t212 0).length) = True := eq_true (by omega); (try rw [show ((0 : Int)).toNat = 0 from rfl] at hx218_0); (try rw [Addr.add_zero'] at hx218_0); replace p218 := eq_true p218; replace q218 := eq_true q218))
                                      go_ret
                                      exact ⟨by first | rfl | (simp [errW_none, errW_some] <;> rfl) | (simp only [← hji29]; first | rfl | (simp [errW_none, errW_some] <;> rfl)) | (simp [*, errW_none, errW_some] <;> rfl), by repeat (first | (with_reducible first | exact HB.out | apply below_alloc | apply pw_below_drewN | apply below_drew1) | exact HB.out)⟩
                                    · rw [if_neg c43] at H
                                      exact absurd H (by simp)
                                  · rw [if_neg c42] at H
                                    exact absurd H (by simp)
                                · rw [if_neg c41] at H
                                  exact absurd H (by simp)
                              · rw [if_neg c40] at H
                                exact absurd H (by simp)
                            · rw [if_neg c39] at H
                              exact absurd H (by simp)
                        · rw [if_neg c32] at H
                          exact absurd H (by simp)
                      · rw [if_neg c31] at H
                        exact absurd H (by simp)
                    · rw [if_neg c30] at H
                      exact absurd H (by simp)

/-- THE ONE PURE STATEMENT of haulierlaw04_ScanNumber: yours. -/
def haulierlaw04_ScanNumber.Pure : Prop := ∀ (a0 : Int) (a1 : Int) (a2 : Bool), (Lit.int .i64 a0).wf = true → (Lit.int .i64 a1).wf = true → ∃ k, haulierlaw04_ScanNumber.f k a0 a1 a2 = some true
theorem haulierlaw04_ScanNumber.walk (P : haulierlaw04_ScanNumber.Pure) (a0 : Int) (a1 : Int) (a2 : Bool) (w : World) (w0 : (Lit.int .i64 a0).wf = true) (w1 : (Lit.int .i64 a1).wf = true) (hT : Go.Proofs.YtdmlohoicgfdnaaDoor.Scan.NumTab w) :
    Calls Tryd.prog 6 #[.int .i64 a0, .int .i64 a1, .bool a2] w fun e w' => e = .returned (.bool true) ∧ Below w.heap.size w w' := by
  obtain ⟨k, h⟩ := P a0 a1 a2 w0 w1
  refine (haulierlaw04_ScanNumber.calls k a0 a1 a2 true w h hT).mono ?_
  rintro e w' ⟨rfl, hd⟩
  exact ⟨rfl, hd⟩

/-! ### opts_Parse: function 22, BY HAND -/
def opts_Parse.f (b : List Int) : Option (Int × Int × Int × Int) := (scan_Lines.f b).bind fun r => if r.2 = 0 then (if (r.1.length : Int) = 1 then (if ((rd_L2 r.1 0).length : Int) = 3 then ((opts_May.f (rd (rd_L2 r.1 0) 0) (rd (rd_L2 r.1 0) 1) (rd (rd_L2 r.1 0) 2)).bind fun m => if m = true then some (rd (rd_L2 r.1 0) 0, rd (rd_L2 r.1 0) 1, rd (rd_L2 r.1 0) 2, 0) else some (0, 0, 0, 1)) else some (0, 0, 0, 2)) else some (0, 0, 0, 2)) else some (0, 0, 0, r.2)
theorem below_put {g : Nat} {w W : World} (h : Below g w W) (i : Nat) (u : Value) : Below g w (W.setCell ⟨g, i, none⟩ u) := h.setCell (Nat.le_refl _) u
theorem opts_Parse.array (ad : Addr) (c : Nat) (W : World) : (Instr.arrayAt 51 (.slice (some ad) 3 c)).run Tryd.prog W = .ok (.pointer (some ad)) W := by
  unfold Instr.arrayAt
  go_simp
set_option maxHeartbeats 8000000 in
set_option maxRecDepth 100000 in
theorem opts_Parse.calls (A0 : Option Addr) (c0 : Nat) (l0 : List Int) (r1 r2 r3 r4 : Int) (w : World) (hr0 : Kd.C (Kd.int .u8) w A0 l0.length l0) (hc0 : l0.length ≤ c0) (h : opts_Parse.f l0 = some (r1, r2, r3, r4)) :
    Calls Tryd.prog 22 #[.slice A0 l0.length c0] w fun e w' => e = .returned (.tuple #[.agg #[.int .i64 r1, .int .i64 r2, .int .i64 r3], .int .i64 r4]) ∧ Below w.heap.size w w' := by
  unfold opts_Parse.f at h
  cases hs : scan_Lines.f l0 with
  | none => rw [hs] at h; exact absurd h (by simp)
  | some q =>
    obtain ⟨l, e⟩ := q
    rw [hs] at h
    simp only [Option.bind_some] at h
    have HS := Aside0.mk (fun W hw => scan_Lines.calls A0 c0 l0 l e W (Kd.C_below hr0 hw) hc0 hs)
    clear hr0 hc0 hs
    have H := Aside0.mk h
    clear h
    go_enter Tryd.func22, Tryd.ntmps22
    go_wp2_with fail
    refine (HS.out _ (below_alloc (Below.refl _ _) _)).mono ?_
    rintro e w1 ⟨v, rfl, hS, hB⟩
    have HV := Aside0.mk hS
    have HB := Aside0.mk (below_step (below_alloc (Below.refl w.heap.size w) _) hB)
    have hb0 : w1.heap[w.heap.size]? = some (.cells #[.int .i64 0, .int .i64 0, .int .i64 0] 35 (0, 0)) := (hB.block w.heap.size (by simp)).trans (by show (w.heap.push _)[w.heap.size]? = _; simp)
    have z0 := blk_cell hb0 0
    have z1 := blk_cell hb0 1
    have z2 := blk_cell hb0 2
    have y0 := blk_frozen hb0 0
    have y1 := blk_frozen hb0 1
    have y2 := blk_frozen hb0 2
    simp only [List.getElem?_toArray, List.getElem?_cons_zero, List.getElem?_cons_succ] at z0 z1 z2
    have hlt := blk_lt hb0
    clear hS hB hb0
    obtain ⟨A1, c1, rfl⟩ := Kd.S_slice HV.out
    have h := H.out
    clear H HS
    by_cases e0 : e = 0
    · rw [if_pos e0] at h
      subst e0
      by_cases n1 : (l.length : Int) = 1
      · rw [if_pos n1] at h
        have b1 : ((l.length : Int) != 1) = false := by simp [n1]
        have b1n : (l.length != 1) = false := by simp; omega
        have p0 : (0 : Int) < (l.length : Int) := by omega
        obtain ⟨ad, A2, c2, ea, hx, hl2, hi2⟩ := at_L2 (Kd.S_reads' HV.out).2.2 0 (by omega) p0
        cases ea
        rw [show ((0 : Int)).toNat = 0 from rfl, Addr.add_zero'] at hx
        have q0 : (0 < l.length) = True := eq_true (by omega)
        have q1 : ((0 : Int) < (l.length : Int)) = True := eq_true (by omega)
        by_cases n3 : ((rd_L2 l 0).length : Int) = 3
        · rw [if_pos n3] at h
          have n3' : (rd_L2 l 0).length = 3 := by omega
          obtain ⟨ad2, ea2, hx0⟩ := Kd.at_int hi2 0 (by omega) (by omega)
          obtain ⟨ad3, ea3, hx1⟩ := Kd.at_int hi2 1 (by omega) (by omega)
          obtain ⟨ad4, ea4, hx2⟩ := Kd.at_int hi2 2 (by omega) (by omega)
          cases ea2
          cases ea3
          cases ea4
          rw [n3'] at hx
          simp only [show (0 : Int).toNat = 0 from rfl, show (1 : Int).toNat = 1 from rfl, show (2 : Int).toNat = 2 from rfl, Addr.add_zero'] at hx0 hx1 hx2
          simp only [Nat.reduceEqDiff, Go.Addr.add, ↓reduceIte] at hx1 hx2
          have hsa := fun W => opts_Parse.array ad2 c2 W
          generalize rd (rd_L2 l 0) 0 = a0 at *
          generalize rd (rd_L2 l 0) 1 = a1 at *
          generalize rd (rd_L2 l 0) 2 = a2 at *
          clear n3 n3' p0 n1 hi2 hl2
          cases hm : opts_May.f a0 a1 a2 with
          | none => rw [hm] at h; exact absurd h (by simp)
          | some m =>
            rw [hm] at h
            simp only [Option.bind_some] at h
            have HM := Aside0.mk (fun W => opts_May.calls a0 a1 a2 m W hm)
            have H2 := Aside0.mk h
            clear h hm
            go_wp2_with fail
            refine (HM.out _).mono ?_
            rintro e w2 ⟨rfl, hB2⟩
            have hv : w2.heap[w1.heap.size + 1]? = some (.cells #[.int .i64 a0, .int .i64 a1, .int .i64 a2] 35 (0, 0)) := (hB2.block (w1.heap.size + 1) (by simp)).trans (by simp only [World.alloc, Array.getElem?_push, Array.size_push, if_true])
            have v0 := blk_cell hv 0
            have v1 := blk_cell hv 1
            have v2 := blk_cell hv 2
            simp only [List.getElem?_toArray, List.getElem?_cons_zero, List.getElem?_cons_succ] at v0 v1 v2
            have old : ∀ i, w2.cell? ⟨w.heap.size, i, none⟩ = w1.cell? ⟨w.heap.size, i, none⟩ := fun i => (hB2.cell (p := ⟨w.heap.size, i, none⟩) (by simp; omega)).trans (by go_simp)
            have oldf : ∀ i, w2.frozen? ⟨w.heap.size, i, none⟩ = w1.frozen? ⟨w.heap.size, i, none⟩ := fun i => (hB2.frozen (p := ⟨w.heap.size, i, none⟩) (by simp; omega)).trans (by go_simp)
            replace z0 := (old 0).trans z0
            replace z1 := (old 1).trans z1
            replace z2 := (old 2).trans z2
            replace y0 := (oldf 0).trans y0
            replace y1 := (oldf 1).trans y1
            replace y2 := (oldf 2).trans y2
            have HB2 := Aside0.mk (show Below w.heap.size w w2 from below_step (below_alloc (below_alloc HB.out _) _) hB2)
            have hlt2 : w.heap.size < w2.heap.size := by have := hB2.size; simp at this; omega
            have h := H2.out
            clear hB2 hv old oldf H2 HM HB
            cases m with
            | true =>
              rw [if_pos rfl] at h
              simp only [Option.some.injEq, Prod.mk.injEq] at h
              obtain ⟨rfl, rfl, rfl, rfl⟩ := h
              go_wp2
              refine bodyPost_ret (v := .tuple #[.agg #[.int .i64 a0, .int .i64 a1, .int .i64 a2], .int .i64 0]) ?_ rfl ⟨rfl, ?_⟩
              · (simp only [results, Tryd.results22]; go_simp)
              · have hz := HB2.out
                (repeat (with_reducible first | refine below_put ?_ _ _ | apply below_alloc | apply pw_below_drewN))
                exact hz
            | false =>
              rw [if_neg (by decide)] at h
              simp only [Option.some.injEq, Prod.mk.injEq] at h
              obtain ⟨rfl, rfl, rfl, rfl⟩ := h
              go_wp2
              refine bodyPost_ret (v := .tuple #[.agg #[.int .i64 0, .int .i64 0, .int .i64 0], .int .i64 1]) ?_ rfl ⟨rfl, ?_⟩
              · (simp only [results, Tryd.results22]; go_simp)
              · have hz := HB2.out
                (repeat (with_reducible first | refine below_put ?_ _ _ | apply below_alloc | apply pw_below_drewN))
                exact hz
        · rw [if_neg n3] at h
          have n3b : (((rd_L2 l 0).length : Int) != 3) = true := bne_iff_ne.mpr n3
          simp only [Option.some.injEq, Prod.mk.injEq] at h
          obtain ⟨rfl, rfl, rfl, rfl⟩ := h
          clear n3 p0 n1 hi2 hl2
          go_wp2
          refine bodyPost_ret (v := .tuple #[.agg #[.int .i64 0, .int .i64 0, .int .i64 0], .int .i64 2]) ?_ rfl ⟨rfl, ?_⟩
          · (simp only [results, Tryd.results22]; go_simp)
          · have hz := HB.out
            (repeat (with_reducible first | refine below_put ?_ _ _ | apply below_alloc | apply pw_below_drewN))
            exact hz
      · rw [if_neg n1] at h
        have b1 : ((l.length : Int) != 1) = true := bne_iff_ne.mpr n1
        have b1n : (l.length != 1) = true := by simp; omega
        simp only [Option.some.injEq, Prod.mk.injEq] at h
        obtain ⟨rfl, rfl, rfl, rfl⟩ := h
        clear n1
        go_wp2
        refine bodyPost_ret (v := .tuple #[.agg #[.int .i64 0, .int .i64 0, .int .i64 0], .int .i64 2]) ?_ rfl ⟨rfl, ?_⟩
        · (simp only [results, Tryd.results22]; go_simp)
        · have hz := HB.out
          (repeat (with_reducible first | refine below_put ?_ _ _ | apply below_alloc | apply pw_below_drewN))
          exact hz
    · rw [if_neg e0] at h
      have b0 : (e != 0) = true := bne_iff_ne.mpr e0
      simp only [Option.some.injEq, Prod.mk.injEq] at h
      obtain ⟨rfl, rfl, rfl, rfl⟩ := h
      clear e0
      go_wp2
      refine bodyPost_ret (v := .tuple #[.agg #[.int .i64 0, .int .i64 0, .int .i64 0], .int .i64 e]) ?_ rfl ⟨rfl, ?_⟩
      · (simp only [results, Tryd.results22]; go_simp)
      · have hz := HB.out
        (repeat (with_reducible first | refine below_put ?_ _ _ | apply below_alloc | apply pw_below_drewN))
        exact hz

/-! ### haulierlaw18_awake: function 14 -/
def haulierlaw18_awake.f  : Option (Bool) := (opts_Parse.f (([56, 32, 48, 32, 49, 48, 48, 48] : List Int))).bind fun bt222 => (if bt222.2.2.2 = 0 then (some (bt222.1 == 8 && (bt222.2.1 == 0 && (bt222.2.2.1 == 1000)))) else (some false))
theorem haulierlaw18_awake.lit_C (w : World) : Kd.C (Kd.int .u8) (w.alloc (.cells #[.int .u8 56, .int .u8 32, .int .u8 48, .int .u8 32, .int .u8 49, .int .u8 48, .int .u8 48, .int .u8 48] 5 (8, 8 + 1))) (some ⟨w.heap.size, 0, none⟩) 8 ([56, 32, 48, 32, 49, 48, 48, 48] : List Int) := by
  have hb : (w.alloc (.cells #[.int .u8 56, .int .u8 32, .int .u8 48, .int .u8 32, .int .u8 49, .int .u8 48, .int .u8 48, .int .u8 48] 5 (8, 8 + 1))).heap[w.heap.size]? = some (.cells #[.int .u8 56, .int .u8 32, .int .u8 48, .int .u8 32, .int .u8 49, .int .u8 48, .int .u8 48, .int .u8 48] 5 (8, 8 + 1)) := by
    show (w.heap.push _)[w.heap.size]? = _
    simp
  refine Kd.C_of_reads (d := 0) ⟨rfl, by decide, fun _ => ⟨_, rfl, fun j hj => ?_⟩⟩
  rw [add_plain, cell_of_row _ _ j _ _ _ hb]
  match j, hj with
  | 0, _ => rfl
  | 1, _ => rfl
  | 2, _ => rfl
  | 3, _ => rfl
  | 4, _ => rfl
  | 5, _ => rfl
  | 6, _ => rfl
  | 7, _ => rfl
  | j + 8, h => omega
set_option maxHeartbeats 8000000 in
set_option maxRecDepth 100000 in
theorem haulierlaw18_awake.calls  (r : Bool) (w : World) (h : haulierlaw18_awake.f  = some r) :
    Calls Tryd.prog 14 #[] w fun e w' => e = .returned (.bool r) ∧ Below w.heap.size w w' := by
  have hu35 := Tryd.underlying35
  have HB := Aside0.mk (Below.refl w.heap.size w)
  have H : ((opts_Parse.f (([56, 32, 48, 32, 49, 48, 48, 48] : List Int))).bind fun bt222 => (if bt222.2.2.2 = 0 then (some (bt222.1 == 8 && (bt222.2.1 == 0 && (bt222.2.2.1 == 1000)))) else (some false))) = some r := h
  clear h
  obtain ⟨y219, hy219⟩ : ∃ y_ : List Int, y_ = (([56, 32, 48, 32, 49, 48, 48, 48] : List Int)) := ⟨_, rfl⟩
  replace H : ((opts_Parse.f y219).bind fun bt222 => (if bt222.2.2.2 = 0 then (some (bt222.1 == 8 && (bt222.2.1 == 0 && (bt222.2.2.1 == 1000)))) else (some false))) = some r := by first | (rw [hy219]; with_reducible exact H) | (have H2_ := (Option.bind_some _ _).symm.trans H; rw [hy219]; with_reducible exact H2_) | (have H2_ := (Option.bind_some _ _).symm.trans H; with_reducible exact H2_) | with_reducible exact H | (rw [hy219]; exact H) | exact H
  have Ny219 := Aside0.mk hy219
  clear hy219
  replace H := Option.bind_eq_some_iff.mp H
  obtain ⟨⟨t222, t223, t224, t225⟩, A10, H⟩ := H
  replace H : (if t225 = 0 then (some (t222 == 8 && (t223 == 0 && (t224 == 1000)))) else (some false)) = some r := H
  have A1 := Aside0.mk A10
  clear A10
  by_cases c2 : t225 = 0
  · rw [if_pos c2] at H
    have c2b0 : (t225 == 0) = true := beq_iff_eq.mpr c2
    have c2b1 : (t225 != 0) = false := bne_eq_false_iff_eq.mpr c2
    clear c2
    obtain rfl := Option.some.inj H
    obtain ⟨hy_⟩ := Ny219
    subst hy_
    have kc := fun (W : World) (C : Array Value) (n c : Nat) => Lib.run_convert_bytes_const (P := Tryd.prog) W 25 5 C n c Tryd.underlying25 Tryd.underlying5
    go_enter Tryd.func14, Tryd.ntmps14
    go_wp2_with (first | ((with_reducible refine gate_callee (f := 22) rfl ?_); refine goesL_ (some 6) rfl rfl Tryd.func22 (by kernel_rfl) rfl #[.slice (some ⟨w.heap.size, 0, none⟩) 8 8] rfl (by (try simp only [List.map_toArray, List.map_cons, List.map_nil]); first | done | rfl | (simp only [List.length_drop, List.length_take]; rfl)) ?_; (refine (opts_Parse.calls (some ⟨w.heap.size, 0, none⟩) 8 ([56, 32, 48, 32, 49, 48, 48, 48] : List Int) t222 t223 t224 t225 _ ?side1 ?side2 A1.out).mono ?_); (case side1 => exact haulierlaw18_awake.lit_C w); (case side2 => exact Nat.le_refl _); rintro e w6 ⟨rfl, hb⟩; refine ⟨_, rfl, ?_⟩; have n1_ := Aside0.mk (below_step (by repeat (first | (with_reducible first | exact HB.out | apply below_alloc | apply pw_below_drewN | apply below_drew1) | exact HB.out)) hb); clear HB; have HB := n1_; clear n1_; (try clear hb); (try clear hb2); (try clear hk); (try clear hi)) | ((with_reducible refine gate_dst (N := 1) rfl ?_); refine box_event ?hg (N := 1) ?hd (cs := #[.int .i64 0, .int .i64 0, .int .i64 0]) (t := 35) ?hr ?_; (case hd => rfl); (case hg => rfl); (case hr => first | (go_simp; done) | (go_simp; rfl)); intro gb226 hg w7 hbox hb; have n0_ := Aside0.mk (Kd.R_below (by (with_reducible repeat (first | apply Kd.R_alloc | apply Kd.R_drewN | apply Kd.R_drew)); exact HO221.out) hb); have n1_ := Aside0.mk (below_step (by repeat (first | (with_reducible first | exact HB.out | apply below_alloc | apply pw_below_drewN | apply below_drew1) | exact HB.out)) hb); have n2_ := Aside0.mk (hbox); have n3_ := Aside0.mk ((by rw [hg]; exact (below_size (by repeat (first | (with_reducible first | exact HB.out | apply below_alloc | apply pw_below_drewN | apply below_drew1) | exact HB.out))) : w.heap.size ≤ gb226)); have n4_ := Aside0.mk ((by rw [hg]; exact (below_size (by repeat (first | (with_reducible first | exact HB.out | apply below_alloc | apply pw_below_drewN | apply below_drew1) | exact HB.out))) : w.heap.size ≤ gb226)); clear HO221; clear HB; have HO221 := n0_; have HB := n1_; have BK226 := n2_; have GW226 := n3_; have GE226 := n4_; clear n1_ n2_ n3_ n4_; clear hb hbox hg; have hcz8_0 : w7.cell? ⟨gb226, 0, none⟩ = some (.int .i64 0) := (blk_cell BK226.out 0).trans rfl; have hcz8_1 : w7.cell? ⟨gb226, 1, none⟩ = some (.int .i64 0) := (blk_cell BK226.out 1).trans rfl; have hcz8_2 : w7.cell? ⟨gb226, 2, none⟩ = some (.int .i64 0) := (blk_cell BK226.out 2).trans rfl; have hfz8_0 := blk_frozen BK226.out 0; have hfz8_1 := blk_frozen BK226.out 1; have hfz8_2 := blk_frozen BK226.out 2))
    go_ret
    exact ⟨by first | rfl | (simp [errW_none, errW_some] <;> rfl) | (simp [*, errW_none, errW_some] <;> rfl), by repeat (first | (with_reducible first | exact HB.out | apply below_alloc | apply pw_below_drewN | apply below_drew1 | refine below_set ?_ GE226.out) | exact HB.out)⟩
  · rw [if_neg c2] at H
    have c2b0 : (t225 == 0) = false := beq_eq_false_iff_ne.mpr c2
    have c2b1 : (t225 != 0) = true := bne_iff_ne.mpr c2
    obtain rfl := Option.some.inj H
    obtain ⟨hy_⟩ := Ny219
    subst hy_
    have kc := fun (W : World) (C : Array Value) (n c : Nat) => Lib.run_convert_bytes_const (P := Tryd.prog) W 25 5 C n c Tryd.underlying25 Tryd.underlying5
    go_enter Tryd.func14, Tryd.ntmps14
    go_wp2_with (first | ((with_reducible refine gate_callee (f := 22) rfl ?_); refine goesL_ (some 6) rfl rfl Tryd.func22 (by kernel_rfl) rfl #[.slice (some ⟨w.heap.size, 0, none⟩) 8 8] rfl (by (try simp only [List.map_toArray, List.map_cons, List.map_nil]); first | done | rfl | (simp only [List.length_drop, List.length_take]; rfl)) ?_; (refine (opts_Parse.calls (some ⟨w.heap.size, 0, none⟩) 8 ([56, 32, 48, 32, 49, 48, 48, 48] : List Int) t222 t223 t224 t225 _ ?side1 ?side2 A1.out).mono ?_); (case side1 => exact haulierlaw18_awake.lit_C w); (case side2 => exact Nat.le_refl _); rintro e w12 ⟨rfl, hb⟩; refine ⟨_, rfl, ?_⟩; have n1_ := Aside0.mk (below_step (by repeat (first | (with_reducible first | exact HB.out | apply below_alloc | apply pw_below_drewN | apply below_drew1) | exact HB.out)) hb); clear HB; have HB := n1_; clear n1_; (try clear hb); (try clear hb2); (try clear hk); (try clear hi)) | ((with_reducible refine gate_dst (N := 1) rfl ?_); refine box_event ?hg (N := 1) ?hd (cs := #[.int .i64 0, .int .i64 0, .int .i64 0]) (t := 35) ?hr ?_; (case hd => rfl); (case hg => rfl); (case hr => first | (go_simp; done) | (go_simp; rfl)); intro gb226 hg w13 hbox hb; have n0_ := Aside0.mk (Kd.R_below (by (with_reducible repeat (first | apply Kd.R_alloc | apply Kd.R_drewN | apply Kd.R_drew)); exact HO221.out) hb); have n1_ := Aside0.mk (below_step (by repeat (first | (with_reducible first | exact HB.out | apply below_alloc | apply pw_below_drewN | apply below_drew1) | exact HB.out)) hb); have n2_ := Aside0.mk (hbox); have n3_ := Aside0.mk ((by rw [hg]; exact (below_size (by repeat (first | (with_reducible first | exact HB.out | apply below_alloc | apply pw_below_drewN | apply below_drew1) | exact HB.out))) : w.heap.size ≤ gb226)); have n4_ := Aside0.mk ((by rw [hg]; exact (below_size (by repeat (first | (with_reducible first | exact HB.out | apply below_alloc | apply pw_below_drewN | apply below_drew1) | exact HB.out))) : w.heap.size ≤ gb226)); clear HO221; clear HB; have HO221 := n0_; have HB := n1_; have BK226 := n2_; have GW226 := n3_; have GE226 := n4_; clear n1_ n2_ n3_ n4_; clear hb hbox hg; have hcz14_0 : w13.cell? ⟨gb226, 0, none⟩ = some (.int .i64 0) := (blk_cell BK226.out 0).trans rfl; have hcz14_1 : w13.cell? ⟨gb226, 1, none⟩ = some (.int .i64 0) := (blk_cell BK226.out 1).trans rfl; have hcz14_2 : w13.cell? ⟨gb226, 2, none⟩ = some (.int .i64 0) := (blk_cell BK226.out 2).trans rfl; have hfz14_0 := blk_frozen BK226.out 0; have hfz14_1 := blk_frozen BK226.out 1; have hfz14_2 := blk_frozen BK226.out 2))
    go_ret
    exact ⟨by first | rfl | (simp [errW_none, errW_some] <;> rfl) | (simp [*, errW_none, errW_some] <;> rfl), by repeat (first | (with_reducible first | exact HB.out | apply below_alloc | apply pw_below_drewN | apply below_drew1 | refine below_set ?_ GE226.out) | exact HB.out)⟩

end Go.Proofs.YtdmlohoicgfdnaaDoor.PA
