-- Printed for this claim by wip/tools/xprint.py over the kit's print; the contracts marked BY HAND are this session's own.
import Derived.Test.YtifekgemngfidaaDoorPAx0
import Derived.Test.YtifekgemngfidaaDoorPAx11
namespace Go.Proofs.YtifekgemngfidaaDoor.PA
open Go.RowKit Go.Proofs.YtifekgemngfidaaDoorW.PrintWords Go.Proofs.YtifekgemngfidaaDoorW.PrintLast Go.Proofs.YtifekgemngfidaaDoorW.PrintMore
attribute [local go_sem] max2_int min2_int max_two min_two max_three min_three max_four min_four   -- for this text's walks alone
set_option linter.unusedVariables false
set_option linter.unusedSimpArgs false

/-! ### haulierref04_Lines: function 23 -/
mutual
def haulierref04_Lines.l0 : Nat → List Int → List (List Int) → List Int → Int → Option ((List (List Int)) × Int)
  | 0, _, _, _, _ => none
  | k + 1, x0, x4, x5, x6 => if x6 ≤ (x0.length : Int) then (if x6 < (x0.length : Int) then (if 0 ≤ x6 then (haulierref04_Lines.j1 k x0 x4 x5 x6 ((rd x0 x6) != 10)) else (none)) else (haulierref04_Lines.j1 k x0 x4 x5 x6 false)) else (some (x4, 0))
def haulierref04_Lines.j1 : Nat → List Int → List (List Int) → List Int → Int → Bool → Option ((List (List Int)) × Int)
  | 0, _, _, _, _, _ => none
  | k + 1, x0, x4, x5, x6, x28 => if x28 = true then (if 0 ≤ x6 then (if x6 < (x0.length : Int) then (if x5.length < 140737488355328 then (haulierref04_Lines.l0 k x0 x4 (x5 ++ [rd x0 x6]) (wrap64 (x6 + 1))) else (none)) else (none)) else (none)) else ((haulierref04_line.f k x5).bind fun bt256 => (if bt256.2 = true then (if (bt256.1.length : Int) > 0 then (if x4.length < 5864062014805 then (haulierref04_Lines.l0 k x0 (x4 ++ [bt256.1]) ([] : List Int) (wrap64 (x6 + 1))) else (none)) else (haulierref04_Lines.l0 k x0 x4 ([] : List Int) (wrap64 (x6 + 1)))) else (some (([] : List (List Int)), 2))))
end
def haulierref04_Lines.f (k : Nat) (l0 : List Int) : Option ((List (List Int)) × Int) := if (l0.length : Int) > 4096 then (some (([] : List (List Int)), 6)) else (haulierref04_Lines.l0 k l0 ([] : List (List Int)) ([] : List Int) 0)
theorem haulierref04_Lines.mono_l : ∀ k, (∀ y0 y1 y2 y3, LeO (haulierref04_Lines.l0 k y0 y1 y2 y3) (haulierref04_Lines.l0 (k + 1) y0 y1 y2 y3)) ∧ (∀ y0 y1 y2 y3 y4, LeO (haulierref04_Lines.j1 k y0 y1 y2 y3 y4) (haulierref04_Lines.j1 (k + 1) y0 y1 y2 y3 y4))
  | 0 => ⟨fun _ _ _ _ r h => by simp [haulierref04_Lines.l0] at h, fun _ _ _ _ _ r h => by simp [haulierref04_Lines.j1] at h⟩
  | k + 1 => by
    obtain ⟨ih0, ih1⟩ := haulierref04_Lines.mono_l k
    refine ⟨?_, ?_⟩
    · intro y0 y1 y2 y3
      unfold haulierref04_Lines.l0
      repeat' first
      | (with_reducible exact ih0 _ _ _ _)
      | (with_reducible exact ih1 _ _ _ _ _)
      | (with_reducible exact haulierref04_line.mono _ _)
      | (with_reducible exact LeO.refl _)
      | (with_reducible exact LeO.none _)
      | (with_reducible refine LeO.ite ?_ ?_)
      | (with_reducible refine LeO.bind ?_ (fun _ => ?_))
      | exact ih0 _ _ _ _
      | exact ih1 _ _ _ _ _
      | exact haulierref04_line.mono _ _
      | exact LeO.none _
      | refine LeO.ite ?_ ?_
      | refine LeO.bind ?_ (fun _ => ?_)
    · intro y0 y1 y2 y3 y4
      unfold haulierref04_Lines.j1
      repeat' first
      | (with_reducible exact ih0 _ _ _ _)
      | (with_reducible exact ih1 _ _ _ _ _)
      | (with_reducible exact haulierref04_line.mono _ _)
      | (with_reducible exact LeO.refl _)
      | (with_reducible exact LeO.none _)
      | (with_reducible refine LeO.ite ?_ ?_)
      | (with_reducible refine LeO.bind ?_ (fun _ => ?_))
      | exact ih0 _ _ _ _
      | exact ih1 _ _ _ _ _
      | exact haulierref04_line.mono _ _
      | exact LeO.none _
      | refine LeO.ite ?_ ?_
      | refine LeO.bind ?_ (fun _ => ?_)
theorem haulierref04_Lines.mono : ∀ a0 k, LeO (haulierref04_Lines.f k a0) (haulierref04_Lines.f (k + 1) a0) := by
  intro a0 k
  obtain ⟨ih0, ih1⟩ := haulierref04_Lines.mono_l k
  unfold haulierref04_Lines.f
  repeat' first
      | (with_reducible exact ih0 _ _ _ _)
      | (with_reducible exact ih1 _ _ _ _ _)
      | (with_reducible exact haulierref04_line.mono _ _)
      | (with_reducible exact LeO.refl _)
      | (with_reducible exact LeO.none _)
      | (with_reducible refine LeO.ite ?_ ?_)
      | (with_reducible refine LeO.bind ?_ (fun _ => ?_))
      | exact ih0 _ _ _ _
      | exact ih1 _ _ _ _ _
      | exact haulierref04_line.mono _ _
      | exact LeO.none _
      | refine LeO.ite ?_ ?_
      | refine LeO.bind ?_ (fun _ => ?_)
set_option maxHeartbeats 8000000 in
set_option maxRecDepth 100000 in
theorem haulierref04_Lines.calls (k : Nat) (A0 : Option Addr) (c0 : Nat) (l0 : List Int) (r1 : List (List Int)) (r2 : Int) (w : World) (hr0 : Kd.C (Kd.int .u8) w A0 l0.length l0) (hc0 : l0.length ≤ c0) (h : haulierref04_Lines.f k l0 = some (r1, r2)) :
  Calls Tryd.prog 23 #[.slice A0 l0.length c0] w fun e w' => ∃ v0_ : Value, e = .returned (.tuple #[v0_, .int .i64 r2]) ∧ Kd.S (Kd.slice 3 (Kd.int .i64)) 43 w' w.heap.size (fun _ => True) v0_ r1 ∧ Below w.heap.size w w' := by
 have HR0 := zqi hr0
 have HC0 := zqi hc0
 clear hr0 hc0
 have HB := zqi (Below.refl w.heap.size w)
 have H : (if (l0.length : Int) > 4096 then (some (([] : List (List Int)), 6)) else (haulierref04_Lines.l0 k l0 ([] : List (List Int)) ([] : List Int) 0)) = some (r1, r2) := h
 clear h
 by_cases c2 : (l0.length : Int) > 4096
 ·
  rw [if_pos c2] at H
  have c2b0 : decide (4096 < (l0.length : Int)) = true := decide_eq_true c2
  have c2b1 : decide (4096 < l0.length) = true := decide_eq_true (by omega)
  clear c2
  simp only [Option.some.injEq, Prod.mk.injEq] at H
  obtain ⟨rfl, rfl⟩ := H
  go_enter Tryd.func23, Tryd.ntmps23
  go_wp2
  go_ret2
  exact ⟨_, by first | rfl | (simp [errW_none, errW_some] <;> rfl) | (simp [*, errW_none, errW_some] <;> rfl), by first | exact Kd.S_nil _ _ _ _ _ | exact Kd.N_nil _ _ _ _ _ | exact Kd.V_nil _ _ _ _ _ | exact Kd.Q_nil _ _ _ _ _ | exact Kd.R_nil _ _ _ _ _, by repeat (first | (with_reducible first | exact HB.out | apply zqg | apply zqf | apply zqh) | exact HB.out)⟩
 ·
  rw [if_neg c2] at H
  have c2b0 : decide (4096 < (l0.length : Int)) = false := decide_eq_false c2
  have c2b1 : decide (4096 < l0.length) = false := decide_eq_false (by omega)
  clear c2
  have H' := zqi H
  clear H
  go_enter Tryd.func23, Tryd.ntmps23
  go_wp2
  go_loopg [4, 5, 6] k (fun kq v4 v5 v6 w' => ∃ (x4_1 : List (List Int)) (x5_1 : List Int) (x6_1 : Int), v6 = .int .i64 x6_1 ∧ Aside0 (haulierref04_Lines.l0 kq l0 x4_1 x5_1 x6_1 = some (r1, r2)) ∧ Aside0 (kq ≤ k) ∧ Aside0 (Kd.S (Kd.slice 3 (Kd.int .i64)) 43 w' w.heap.size (fun _ => True) v4 x4_1) ∧ Aside0 (Kd.R (Kd.int .u8) 5 w' w.heap.size (fun _ => True) v5 x5_1) ∧ Aside0 (Below w.heap.size w w'))
  case atStart => exact ⟨(([] : List (List Int))), (([] : List Int)), (0), (by first | rfl | (simp; done) | (simp [*]; done)), H', ⟨Nat.le_refl _⟩, ⟨by first | exact Kd.S_nil _ _ _ _ _ | exact Kd.N_nil _ _ _ _ _ | exact Kd.V_nil _ _ _ _ _ | exact Kd.Q_nil _ _ _ _ _ | exact Kd.R_nil _ _ _ _ _⟩, ⟨by first | exact Kd.R_nil _ _ _ _ _ | exact Kd.N_nil _ _ _ _ _ | exact Kd.V_nil _ _ _ _ _ | exact Kd.Q_nil _ _ _ _ _ | exact Kd.S_nil _ _ _ _ _⟩, ⟨by repeat (first | (with_reducible first | exact HB.out | apply zqg | apply zqf | apply zqh) | exact HB.out)⟩⟩
  case round =>
   clear H'
   try clear c2
   try clear c2b0
   try clear c2b1
   try clear p2
   obtain ⟨x4_1, x5_1, x6_1, rfl, HA, HK1, HO_4, HO_5, HB⟩ := hrel
   cases gk with
   | zero => exact absurd HA.out (by simp [haulierref04_Lines.l0])
   | succ k1 =>
    have H := HA.out
    clear HA
    simp only [haulierref04_Lines.l0] at H
    by_cases c3 : x6_1 ≤ (l0.length : Int)
    ·
     rw [if_pos c3] at H
     have c3b0 : decide (x6_1 ≤ (l0.length : Int)) = true := decide_eq_true c3
     clear c3
     have HC4 := zqi H
     clear H
     go_upto_region 8 with (fail)
     go_cut [28] (fun v28 wc => ∃ (kq : Nat) (x28_3 : Bool), v28 = .bool x28_3 ∧ Aside0 (haulierref04_Lines.j1 kq l0 x4_1 x5_1 x6_1 x28_3 = some (r1, r2)) ∧ Aside0 (kq ≤ k1) ∧ Aside0 (Kd.S (Kd.slice 3 (Kd.int .i64)) 43 wc w.heap.size (fun _ => True) u4 x4_1) ∧ Aside0 (Kd.R (Kd.int .u8) 5 wc w.heap.size (fun _ => True) u5 x5_1) ∧ Aside0 (Below w.heap.size w wc))
     case first =>
      have H := HC4.out
      clear HC4
      by_cases c5 : x6_1 < (l0.length : Int)
      ·
       rw [if_pos c5] at H
       have c5b0 : decide (x6_1 < (l0.length : Int)) = true := decide_eq_true c5
       clear c5
       (first | rw [c5b0] | (simp only [i64_w, i32_w]; rw [c5b0]) | skip)
       by_cases c6 : 0 ≤ x6_1
       ·
        rw [if_pos c6] at H
        have c6b0 : decide (0 ≤ x6_1) = true := decide_eq_true c6
        clear c6
        have H' := zqi H
        clear H
        have p251 : 0 ≤ (x6_1 : Int) := of_decide_eq_true (by first | (with_reducible assumption) | assumption)
        have q251 : x6_1 < (l0.length : Int) := of_decide_eq_true (by first | (with_reducible assumption) | assumption)
        obtain ⟨ad251, e251, hx251_0⟩ := Kd.at_int HR0.out x6_1 p251 q251
        cases e251
        replace hx251_0 := (HB.out.cell (World.block_lt_of_cell? w _ hx251_0)).trans hx251_0
        replace p251 := eq_true p251
        replace q251 := eq_true q251
        go_wp2
        go_meet
        case rel => exact ⟨_, (((rd l0 x6_1) != 10)), (by first | rfl | (simp; done) | (simp [*]; done)), H', ⟨by have := HK1.out; first | omega | exact Nat.le_refl _⟩, ⟨by (with_reducible repeat (first | apply Kd.S_alloc | apply Kd.S_drewN | apply Kd.S_drew)); exact HO_4.out⟩, ⟨by (with_reducible repeat (first | apply Kd.R_alloc | apply Kd.R_drewN | apply Kd.R_drew)); exact HO_5.out⟩, ⟨by repeat (first | (with_reducible first | exact HB.out | apply zqg | apply zqf | apply zqh) | exact HB.out)⟩⟩
       ·
        rw [if_neg c6] at H
        exact absurd H (by simp)
      ·
       rw [if_neg c5] at H
       have c5b0 : decide (x6_1 < (l0.length : Int)) = false := decide_eq_false c5
       clear c5
       (first | rw [c5b0] | (simp only [i64_w, i32_w]; rw [c5b0]) | skip)
       have H' := zqi H
       clear H
       go_wp2
       go_meet
       case rel => exact ⟨_, (false), (by first | rfl | (simp; done) | (simp [*]; done)), H', ⟨by have := HK1.out; first | omega | exact Nat.le_refl _⟩, ⟨by (with_reducible repeat (first | apply Kd.S_alloc | apply Kd.S_drewN | apply Kd.S_drew)); exact HO_4.out⟩, ⟨by (with_reducible repeat (first | apply Kd.R_alloc | apply Kd.R_drewN | apply Kd.R_drew)); exact HO_5.out⟩, ⟨by repeat (first | (with_reducible first | exact HB.out | apply zqg | apply zqf | apply zqh) | exact HB.out)⟩⟩
     case rest =>
      clear HC4
      try clear c2
      try clear c2b0
      try clear c2b1
      try clear p2
      try clear q2
      try clear hx2
      try clear c3
      try clear c3b0
      try clear c5
      try clear c5b0
      try clear c6
      try clear c6b0
      try clear hx251_0
      try clear p2
      try clear p251
      try clear q251
      obtain ⟨kq, x28_3, rfl, HA, HJ3, HO_4, HO_5, HB⟩ := hcut
      cases kq with
      | zero => exact absurd HA.out (by simp [haulierref04_Lines.j1])
      | succ kj3 =>
       have H := HA.out
       clear HA
       simp only [haulierref04_Lines.j1] at H
       by_cases c7 : x28_3 = true
       ·
        subst c7
        have H1 : (if 0 ≤ x6_1 then (if x6_1 < (l0.length : Int) then (if x5_1.length < 140737488355328 then (haulierref04_Lines.l0 kj3 l0 x4_1 (x5_1 ++ [rd l0 x6_1]) (wrap64 (x6_1 + 1))) else (none)) else (none)) else (none)) = some (r1, r2) := by rw [if_pos rfl] at H; exact H
        clear H
        have H := H1
        clear H1
        by_cases c8 : 0 ≤ x6_1
        ·
         rw [if_pos c8] at H
         have c8b0 : decide (0 ≤ x6_1) = true := decide_eq_true c8
         clear c8
         by_cases c9 : x6_1 < (l0.length : Int)
         ·
          rw [if_pos c9] at H
          have c9b0 : decide (x6_1 < (l0.length : Int)) = true := decide_eq_true c9
          clear c9
          by_cases c10 : x5_1.length < 140737488355328
          ·
           rw [if_pos c10] at H
           have LMc10 := zqi c10
           clear c10
           obtain ⟨y253, hy253⟩ : ∃ y_ : List Int, y_ = (x5_1 ++ [rd l0 x6_1]) := ⟨_, rfl⟩
           replace H : (haulierref04_Lines.l0 kj3 l0 x4_1 y253 (wrap64 (x6_1 + 1))) = some (r1, r2) := by first | (rw [hy253]; with_reducible exact H) | (have H2_ := (Option.bind_some _ _).symm.trans H; rw [hy253]; with_reducible exact H2_) | (have H2_ := (Option.bind_some _ _).symm.trans H; with_reducible exact H2_) | with_reducible exact H | (rw [hy253]; exact H) | exact H
           have Ny253 := zqi hy253
           clear hy253
           have H' := zqi H
           clear H
           have p252 : 0 ≤ (x6_1 : Int) := of_decide_eq_true (by first | (with_reducible assumption) | assumption)
           have q252 : x6_1 < (l0.length : Int) := of_decide_eq_true (by first | (with_reducible assumption) | assumption)
           obtain ⟨ad252, e252, hx252_0⟩ := Kd.at_int HR0.out x6_1 p252 q252
           cases e252
           replace hx252_0 := (HB.out.cell (World.block_lt_of_cell? w _ hx252_0)).trans hx252_0
           replace p252 := eq_true p252
           replace q252 := eq_true q252
           go_wp2_with (first | ((with_reducible refine gate_builtin (b := .append) (xs := #[.tmp 29, .tmp 34]) rfl ?_); at_builtin; refine Kd.R_append (Kd.int .u8) (w0 := w) w.heap.size rfl (.tmp 29) (.tmp 34) 22 5 (.int .u8 0) 1 rfl Tryd.underlying22 info5 rfl (by decide) (by omega) u5 x5_1 (rd l0 x6_1) [.int .u8 (rd l0 x6_1)] (fun _ => True) (fun _ => False) rfl rfl ?aP (fun _ hk => hk.elim) ?aF ?aO ?aB ?aS ?aL ?_; (case aP => exact rfl); (case aB => exact (by repeat (first | (with_reducible first | exact HB.out | apply zqg | apply zqf | apply zqh) | exact HB.out))); (case aF => exact (fun _ _ => trivial)); (case aO => exact (by (with_reducible repeat (first | apply Kd.R_alloc | apply Kd.R_drewN | apply Kd.R_drew)); exact HO_5.out)); (case aS => exact (below_size (by repeat (first | (with_reducible first | exact HB.out | apply zqg | apply zqf | apply zqh) | exact HB.out)))); (case aL => have := LMc10.out; omega); intro v254 w11 ho hb hg hat; rw [← Ny253.out] at ho; have n0_ := zqi (Kd.S_over' (by (with_reducible repeat (first | apply Kd.S_alloc | apply Kd.S_drewN | apply Kd.S_drew)); exact HO_4.out) (Kd.R_typed (by (with_reducible repeat (first | apply Kd.R_alloc | apply Kd.R_drewN | apply Kd.R_drew)); exact HO_5.out)) (by decide) hg); have n1_ := zqi (hb); have n2_ := zqi (ho); clear HO_4; clear HB; clear HO_5; have HO_4 := n0_; have HB := n1_; have HO255 := n2_; clear n0_ n1_ n2_; clear ho hb hg hat))
           go_roundg kj3
           case measure => have := HK1.out; have := HJ3.out; omega
           case rel => exact ⟨(x4_1), (y253), (wrap64 (x6_1 + 1)), (by first | rfl | (simp; done) | (simp [*]; done)), H', ⟨by have := HK1.out; have := HJ3.out; omega⟩, ⟨by (with_reducible repeat (first | apply Kd.S_alloc | apply Kd.S_drewN | apply Kd.S_drew)); exact HO_4.out⟩, ⟨by (with_reducible repeat (first | apply Kd.R_alloc | apply Kd.R_drewN | apply Kd.R_drew)); exact HO255.out⟩, ⟨by repeat (first | (with_reducible first | exact HB.out | apply zqg | apply zqf | apply zqh) | exact HB.out)⟩⟩
          ·
           rw [if_neg c10] at H
           exact absurd H (by simp)
         ·
          rw [if_neg c9] at H
          exact absurd H (by simp)
        ·
         rw [if_neg c8] at H
         exact absurd H (by simp)
       ·
        replace c7 := Bool.eq_false_iff.mpr c7
        subst c7
        have H1 : ((haulierref04_line.f kj3 x5_1).bind fun bt256 => (if bt256.2 = true then (if (bt256.1.length : Int) > 0 then (if x4_1.length < 5864062014805 then (haulierref04_Lines.l0 kj3 l0 (x4_1 ++ [bt256.1]) ([] : List Int) (wrap64 (x6_1 + 1))) else (none)) else (haulierref04_Lines.l0 kj3 l0 x4_1 ([] : List Int) (wrap64 (x6_1 + 1)))) else (some (([] : List (List Int)), 2)))) = some (r1, r2) := by rw [if_neg (show ¬ (false = true) by decide)] at H; exact H
        clear H
        have H := H1
        clear H1
        replace H := Option.bind_eq_some_iff.mp H
        obtain ⟨⟨t256, t257⟩, A120, H⟩ := H
        replace H : (if t257 = true then (if (t256.length : Int) > 0 then (if x4_1.length < 5864062014805 then (haulierref04_Lines.l0 kj3 l0 (x4_1 ++ [t256]) ([] : List Int) (wrap64 (x6_1 + 1))) else (none)) else (haulierref04_Lines.l0 kj3 l0 x4_1 ([] : List Int) (wrap64 (x6_1 + 1)))) else (some (([] : List (List Int)), 2))) = some (r1, r2) := H
        have A12 := zqi A120
        clear A120
        by_cases c13 : t257 = true
        ·
         subst c13
         have H1 : (if (t256.length : Int) > 0 then (if x4_1.length < 5864062014805 then (haulierref04_Lines.l0 kj3 l0 (x4_1 ++ [t256]) ([] : List Int) (wrap64 (x6_1 + 1))) else (none)) else (haulierref04_Lines.l0 kj3 l0 x4_1 ([] : List Int) (wrap64 (x6_1 + 1)))) = some (r1, r2) := by rw [if_pos rfl] at H; exact H
         clear H
         have H := H1
         clear H1
         by_cases c14 : (t256.length : Int) > 0
         ·
          rw [if_pos c14] at H
          have c14b0 : decide (0 < (t256.length : Int)) = true := decide_eq_true c14
          have c14b1 : decide (0 < t256.length) = true := decide_eq_true (by omega)
          clear c14
          by_cases c15 : x4_1.length < 5864062014805
          ·
           rw [if_pos c15] at H
           have LMc15 := zqi c15
           clear c15
           obtain ⟨y260, hy260⟩ : ∃ y_ : List (List Int), y_ = (x4_1 ++ [t256]) := ⟨_, rfl⟩
           replace H : (haulierref04_Lines.l0 kj3 l0 y260 ([] : List Int) (wrap64 (x6_1 + 1))) = some (r1, r2) := by first | (rw [hy260]; with_reducible exact H) | (have H2_ := (Option.bind_some _ _).symm.trans H; rw [hy260]; with_reducible exact H2_) | (have H2_ := (Option.bind_some _ _).symm.trans H; with_reducible exact H2_) | with_reducible exact H | (rw [hy260]; exact H) | exact H
           have Ny260 := zqi hy260
           clear hy260
           have H' := zqi H
           clear H
           obtain ⟨Ao16, co16, eo16⟩ := Kd.R_slice HO_5.out
           subst eo16
           go_wp2_with (first | ((with_reducible refine gate_callee (f := 34) rfl ?_); refine goesL_ (some 38) rfl rfl Tryd.func34 (by kernel_rfl) rfl #[.slice Ao16 x5_1.length co16] rfl (by (try simp only [List.map_toArray, List.map_cons, List.map_nil]); first | done | rfl | (simp only [List.length_drop, List.length_take]; rfl)) ?_; (with_reducible refine (haulierref04_line.calls kj3 _ _ x5_1 t256 true _ ?side1 ?side2 A12.out).mono ?_); (case side1 => repeat (first | exact (Kd.R_reads' HO_5.out).2.2 | (with_reducible refine Kd.C_alloc ?_ _) | (with_reducible refine Kd.C_drewN ?_ _) | (with_reducible refine Kd.C_drew ?_))); (case side2 => exact (Kd.R_reads' HO_5.out).2.1); rintro e w17 ⟨v258, rfl, ho0, hb⟩; refine ⟨_, rfl, ?_⟩; have n0_ := zqi (Kd.S_elder' (by (with_reducible repeat (first | apply Kd.S_alloc | apply Kd.S_drewN | apply Kd.S_drew)); exact HO_4.out) (Kd.R_base ho0) hb); have n1_ := zqi (Kd.R_below (by (with_reducible repeat (first | apply Kd.R_alloc | apply Kd.R_drewN | apply Kd.R_drew)); exact HO_5.out) hb); have n2_ := zqi (Kd.R_lower ho0 (below_size (by repeat (first | (with_reducible first | exact HB.out | apply zqg | apply zqf | apply zqh) | exact HB.out)))); have n3_ := zqi (below_step (by repeat (first | (with_reducible first | exact HB.out | apply zqg | apply zqf | apply zqh) | exact HB.out)) hb); clear HO_4; clear HO_5; clear HB; have HO_4 := n0_; have HO_5 := n1_; have HO259 := n2_; have HB := n3_; clear n0_ n1_ n2_ n3_; (try clear hb); (try clear hb2); (try clear hk); (try clear hi); (try clear ho0); obtain ⟨Ao18, co18, eo18⟩ := Kd.R_slice HO259.out; subst eo18) | ((with_reducible refine gate_builtin (b := .append) (xs := #[.tmp 46, .tmp 48]) rfl ?_); at_builtin; refine Kd.S_append (Kd.slice 3 (Kd.int .i64)) (w0 := w) w.heap.size rfl (.tmp 46) (.tmp 48) 40 43 (.slice none 0 0) 24 rfl Tryd.underlying40 info43 rfl (by decide) (by omega) u4 x4_1 t256 [.slice Ao18 t256.length co18] (fun _ => True) (fun k_ => some k_ = (.slice Ao18 t256.length co18 : Value).ownBlock) rfl rfl ?aP (fun k_ hk_ => ((Kd.R_mono (ok' := fun k_ => ((fun _ => True)) k_ ∧ some k_ ≠ (u4 : Value).ownBlock) (Kd.R_apart' (HO259.out) (Kd.S_typed HO_4.out) (by decide)) (fun k_ hk => ⟨trivial, hk.2⟩))).1 k_ hk_.symm) ?aF ?aO ?aB ?aS ?aL ?_; (case aP => exact Kd.M_row (Kd.R_mono (Kd.R_tight rfl (Kd.R_mono (ok' := fun k_ => ((fun _ => True)) k_ ∧ some k_ ≠ (u4 : Value).ownBlock) (Kd.R_apart' (HO259.out) (Kd.S_typed HO_4.out) (by decide)) (fun k_ hk => ⟨trivial, hk.2⟩))) (fun _ h_ => h_))); (case aB => exact (by repeat (first | (with_reducible first | exact HB.out | apply zqg | apply zqf | apply zqh) | exact HB.out))); (case aF => exact (fun _ _ => trivial)); (case aO => exact (by (with_reducible repeat (first | apply Kd.S_alloc | apply Kd.S_drewN | apply Kd.S_drew)); exact Kd.S_mono HO_4.out (fun k_ hk => ⟨trivial, fun e_ => hk.2 e_⟩))); (case aS => exact (below_size (by repeat (first | (with_reducible first | exact HB.out | apply zqg | apply zqf | apply zqh) | exact HB.out)))); (case aL => have := LMc15.out; omega); intro v261 w19 ho hb hg hat; rw [← Ny260.out] at ho; have n0_ := zqi (Kd.R_over' (by (with_reducible repeat (first | apply Kd.R_alloc | apply Kd.R_drewN | apply Kd.R_drew)); exact HO_5.out) (Kd.S_typed (by (with_reducible repeat (first | apply Kd.S_alloc | apply Kd.S_drewN | apply Kd.S_drew)); exact HO_4.out)) (by decide) hg); have n1_ := zqi (hb); have n2_ := zqi (ho); clear HO_5; clear HB; clear HO_4; clear HO259; have HO_5 := n0_; have HB := n1_; have HO262 := n2_; clear n0_ n1_ n2_; clear ho hb hg hat))
           go_roundg kj3
           case measure => have := HK1.out; have := HJ3.out; omega
           case rel => exact ⟨(y260), (([] : List Int)), (wrap64 (x6_1 + 1)), (by first | rfl | (simp; done) | (simp [*]; done)), H', ⟨by have := HK1.out; have := HJ3.out; omega⟩, ⟨by (with_reducible repeat (first | apply Kd.S_alloc | apply Kd.S_drewN | apply Kd.S_drew)); exact HO262.out⟩, ⟨by first | exact Kd.R_nil _ _ _ _ _ | exact Kd.N_nil _ _ _ _ _ | exact Kd.V_nil _ _ _ _ _ | exact Kd.Q_nil _ _ _ _ _ | exact Kd.S_nil _ _ _ _ _⟩, ⟨by repeat (first | (with_reducible first | exact HB.out | apply zqg | apply zqf | apply zqh) | exact HB.out)⟩⟩
          ·
           rw [if_neg c15] at H
           exact absurd H (by simp)
         ·
          rw [if_neg c14] at H
          have c14b0 : decide (0 < (t256.length : Int)) = false := decide_eq_false c14
          have c14b1 : decide (0 < t256.length) = false := decide_eq_false (by omega)
          clear c14
          have H' := zqi H
          clear H
          obtain ⟨Ao20, co20, eo20⟩ := Kd.R_slice HO_5.out
          subst eo20
          go_wp2_with (first | ((with_reducible refine gate_callee (f := 34) rfl ?_); refine goesL_ (some 38) rfl rfl Tryd.func34 (by kernel_rfl) rfl #[.slice Ao20 x5_1.length co20] rfl (by (try simp only [List.map_toArray, List.map_cons, List.map_nil]); first | done | rfl | (simp only [List.length_drop, List.length_take]; rfl)) ?_; (with_reducible refine (haulierref04_line.calls kj3 _ _ x5_1 t256 true _ ?side1 ?side2 A12.out).mono ?_); (case side1 => repeat (first | exact (Kd.R_reads' HO_5.out).2.2 | (with_reducible refine Kd.C_alloc ?_ _) | (with_reducible refine Kd.C_drewN ?_ _) | (with_reducible refine Kd.C_drew ?_))); (case side2 => exact (Kd.R_reads' HO_5.out).2.1); rintro e w21 ⟨v258, rfl, ho0, hb⟩; refine ⟨_, rfl, ?_⟩; have n0_ := zqi (Kd.S_elder' (by (with_reducible repeat (first | apply Kd.S_alloc | apply Kd.S_drewN | apply Kd.S_drew)); exact HO_4.out) (Kd.R_base ho0) hb); have n1_ := zqi (Kd.R_below (by (with_reducible repeat (first | apply Kd.R_alloc | apply Kd.R_drewN | apply Kd.R_drew)); exact HO_5.out) hb); have n2_ := zqi (Kd.R_lower ho0 (below_size (by repeat (first | (with_reducible first | exact HB.out | apply zqg | apply zqf | apply zqh) | exact HB.out)))); have n3_ := zqi (below_step (by repeat (first | (with_reducible first | exact HB.out | apply zqg | apply zqf | apply zqh) | exact HB.out)) hb); clear HO_4; clear HO_5; clear HB; have HO_4 := n0_; have HO_5 := n1_; have HO259 := n2_; have HB := n3_; clear n0_ n1_ n2_ n3_; (try clear hb); (try clear hb2); (try clear hk); (try clear hi); (try clear ho0); obtain ⟨Ao22, co22, eo22⟩ := Kd.R_slice HO259.out; subst eo22))
          go_roundg kj3
          case measure => have := HK1.out; have := HJ3.out; omega
          case rel => exact ⟨(x4_1), (([] : List Int)), (wrap64 (x6_1 + 1)), (by first | rfl | (simp; done) | (simp [*]; done)), H', ⟨by have := HK1.out; have := HJ3.out; omega⟩, ⟨by (with_reducible repeat (first | apply Kd.S_alloc | apply Kd.S_drewN | apply Kd.S_drew)); exact Kd.S_mono HO_4.out (fun _ hk => trivial)⟩, ⟨by first | exact Kd.R_nil _ _ _ _ _ | exact Kd.N_nil _ _ _ _ _ | exact Kd.V_nil _ _ _ _ _ | exact Kd.Q_nil _ _ _ _ _ | exact Kd.S_nil _ _ _ _ _⟩, ⟨by repeat (first | (with_reducible first | exact HB.out | apply zqg | apply zqf | apply zqh) | exact HB.out)⟩⟩
        ·
         replace c13 := Bool.eq_false_iff.mpr c13
         subst c13
         have H1 : (some (([] : List (List Int)), 2)) = some (r1, r2) := by rw [if_neg (show ¬ (false = true) by decide)] at H; exact H
         clear H
         have H := H1
         clear H1
         simp only [Option.some.injEq, Prod.mk.injEq] at H
         obtain ⟨rfl, rfl⟩ := H
         obtain ⟨Ao23, co23, eo23⟩ := Kd.R_slice HO_5.out
         subst eo23
         go_wp2_with (first | ((with_reducible refine gate_callee (f := 34) rfl ?_); refine goesL_ (some 38) rfl rfl Tryd.func34 (by kernel_rfl) rfl #[.slice Ao23 x5_1.length co23] rfl (by (try simp only [List.map_toArray, List.map_cons, List.map_nil]); first | done | rfl | (simp only [List.length_drop, List.length_take]; rfl)) ?_; (with_reducible refine (haulierref04_line.calls kj3 _ _ x5_1 t256 false _ ?side1 ?side2 A12.out).mono ?_); (case side1 => repeat (first | exact (Kd.R_reads' HO_5.out).2.2 | (with_reducible refine Kd.C_alloc ?_ _) | (with_reducible refine Kd.C_drewN ?_ _) | (with_reducible refine Kd.C_drew ?_))); (case side2 => exact (Kd.R_reads' HO_5.out).2.1); rintro e w24 ⟨v258, rfl, ho0, hb⟩; refine ⟨_, rfl, ?_⟩; have n0_ := zqi (Kd.S_elder' (by (with_reducible repeat (first | apply Kd.S_alloc | apply Kd.S_drewN | apply Kd.S_drew)); exact HO_4.out) (Kd.R_base ho0) hb); have n1_ := zqi (Kd.R_below (by (with_reducible repeat (first | apply Kd.R_alloc | apply Kd.R_drewN | apply Kd.R_drew)); exact HO_5.out) hb); have n2_ := zqi (Kd.R_lower ho0 (below_size (by repeat (first | (with_reducible first | exact HB.out | apply zqg | apply zqf | apply zqh) | exact HB.out)))); have n3_ := zqi (below_step (by repeat (first | (with_reducible first | exact HB.out | apply zqg | apply zqf | apply zqh) | exact HB.out)) hb); clear HO_4; clear HO_5; clear HB; have HO_4 := n0_; have HO_5 := n1_; have HO259 := n2_; have HB := n3_; clear n0_ n1_ n2_ n3_; (try clear hb); (try clear hb2); (try clear hk); (try clear hi); (try clear ho0)))
         go_ret2
         exact ⟨_, by first | rfl | (simp [errW_none, errW_some] <;> rfl) | (simp [*, errW_none, errW_some] <;> rfl), by first | exact Kd.S_nil _ _ _ _ _ | exact Kd.N_nil _ _ _ _ _ | exact Kd.V_nil _ _ _ _ _ | exact Kd.Q_nil _ _ _ _ _ | exact Kd.R_nil _ _ _ _ _, by repeat (first | (with_reducible first | exact HB.out | apply zqg | apply zqf | apply zqh) | exact HB.out)⟩
    ·
     rw [if_neg c3] at H
     have c3b0 : decide (x6_1 ≤ (l0.length : Int)) = false := decide_eq_false c3
     clear c3
     simp only [Option.some.injEq, Prod.mk.injEq] at H
     obtain ⟨rfl, rfl⟩ := H
     go_wp2
     go_ret2
     exact ⟨_, by first | rfl | (simp [errW_none, errW_some] <;> rfl) | (simp [*, errW_none, errW_some] <;> rfl), by (with_reducible repeat (first | apply Kd.S_alloc | apply Kd.S_drewN | apply Kd.S_drew)); exact HO_4.out, by repeat (first | (with_reducible first | exact HB.out | apply zqg | apply zqf | apply zqh) | exact HB.out)⟩

end Go.Proofs.YtifekgemngfidaaDoor.PA
