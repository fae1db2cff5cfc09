-- Printed for this claim by wip/tools/xprint.py over the kit's print; the contracts marked BY HAND are this session's own.
import Derived.Test.YtkcdpnigcbcalaaPBx0
import Derived.Test.YtkcdpnigcbcalaaPBx5
namespace Go.Proofs.Ytkcdpnigcbcalaa.PB
open Go.RowKit Go.Proofs.YtkcdpnigcbcalaaW.PrintWords Go.Proofs.YtkcdpnigcbcalaaW.PrintLast Go.Proofs.YtkcdpnigcbcalaaW.PrintMore
attribute [local go_sem] max2_int min2_int max_two min_two max_three min_three max_four min_four   -- for this text's walks alone
set_option linter.unusedVariables false
set_option linter.unusedSimpArgs false

/-! ### haulierref13_Front: function 20 -/
mutual
def haulierref13_Front.l0 : Nat → List (S37) → List (S37) → Int → Option ((List (S37)))
  | 0, _, _, _ => none
  | k + 1, x0, x3, x4 => if x4 < (x0.length : Int) then (haulierref13_Front.l1 k x0 x3 x4 true 0) else (some x3)
def haulierref13_Front.l1 : Nat → List (S37) → List (S37) → Int → Bool → Int → Option ((List (S37)))
  | 0, _, _, _, _, _ => none
  | k + 1, x0, x3, x4, x5, x6 => if x6 < (x0.length : Int) then (if 0 ≤ x6 then (if 0 ≤ x4 then (if x4 < (x0.length : Int) then ((haulierref13_Than.f k ((rd_T37 x0 x6).f0.f0) ((rd_T37 x0 x6).f0.f1) ((rd_T37 x0 x6).f0.f2) ((rd_T37 x0 x6).f0.f3) ((rd_T37 x0 x6).f0.f4) ((rd_T37 x0 x6).f0.f5) ((rd_T37 x0 x6).f0.f6) ((rd_T37 x0 x6).f0.f7) ((rd_T37 x0 x6).f1) ((rd_T37 x0 x6).f2) ((rd_T37 x0 x4).f0.f0) ((rd_T37 x0 x4).f0.f1) ((rd_T37 x0 x4).f0.f2) ((rd_T37 x0 x4).f0.f3) ((rd_T37 x0 x4).f0.f4) ((rd_T37 x0 x4).f0.f5) ((rd_T37 x0 x4).f0.f6) ((rd_T37 x0 x4).f0.f7) ((rd_T37 x0 x4).f1) ((rd_T37 x0 x4).f2)).bind fun t141 => ((haulierref13_Than.f k ((rd_T37 x0 x4).f0.f0) ((rd_T37 x0 x4).f0.f1) ((rd_T37 x0 x4).f0.f2) ((rd_T37 x0 x4).f0.f3) ((rd_T37 x0 x4).f0.f4) ((rd_T37 x0 x4).f0.f5) ((rd_T37 x0 x4).f0.f6) ((rd_T37 x0 x4).f0.f7) ((rd_T37 x0 x4).f1) ((rd_T37 x0 x4).f2) ((rd_T37 x0 x6).f0.f0) ((rd_T37 x0 x6).f0.f1) ((rd_T37 x0 x6).f0.f2) ((rd_T37 x0 x6).f0.f3) ((rd_T37 x0 x6).f0.f4) ((rd_T37 x0 x6).f0.f5) ((rd_T37 x0 x6).f0.f6) ((rd_T37 x0 x6).f0.f7) ((rd_T37 x0 x6).f1) ((rd_T37 x0 x6).f2)).bind fun t144 => (if x6 = x4 then (haulierref13_Front.l1 k x0 x3 x4 x5 (wrap64 (x6 + 1))) else (if t141 = true then (if x6 < x4 then (haulierref13_Front.l1 k x0 x3 x4 false (wrap64 (x6 + 1))) else (if t144 = true then (haulierref13_Front.l1 k x0 x3 x4 x5 (wrap64 (x6 + 1))) else (haulierref13_Front.l1 k x0 x3 x4 false (wrap64 (x6 + 1))))) else (haulierref13_Front.l1 k x0 x3 x4 x5 (wrap64 (x6 + 1))))))) else (none)) else (none)) else (none)) else (if x5 = true then (if 0 ≤ x4 then (if x4 < (x0.length : Int) then (if x3.length < 1466015503701 then (haulierref13_Front.l0 k x0 (x3 ++ [(⟨(⟨(rd_T37 x0 x4).f0.f0, (rd_T37 x0 x4).f0.f1, (rd_T37 x0 x4).f0.f2, (rd_T37 x0 x4).f0.f3, (rd_T37 x0 x4).f0.f4, (rd_T37 x0 x4).f0.f5, (rd_T37 x0 x4).f0.f6, (rd_T37 x0 x4).f0.f7⟩ : S24), (rd_T37 x0 x4).f1, (rd_T37 x0 x4).f2⟩ : S37)]) (wrap64 (x4 + 1))) else (none)) else (none)) else (none)) else (haulierref13_Front.l0 k x0 x3 (wrap64 (x4 + 1))))
end
def haulierref13_Front.f (k : Nat) (l0 : List (S37)) : Option ((List (S37))) := haulierref13_Front.l0 k l0 ([] : List (S37)) 0
theorem haulierref13_Front.mono_l : ∀ k, (∀ y0 y1 y2, LeO (haulierref13_Front.l0 k y0 y1 y2) (haulierref13_Front.l0 (k + 1) y0 y1 y2)) ∧ (∀ y0 y1 y2 y3 y4, LeO (haulierref13_Front.l1 k y0 y1 y2 y3 y4) (haulierref13_Front.l1 (k + 1) y0 y1 y2 y3 y4))
  | 0 => ⟨fun _ _ _ r h => by simp [haulierref13_Front.l0] at h, fun _ _ _ _ _ r h => by simp [haulierref13_Front.l1] at h⟩
  | k + 1 => by
    obtain ⟨ih0, ih1⟩ := haulierref13_Front.mono_l k
    refine ⟨?_, ?_⟩
    · intro y0 y1 y2
      unfold haulierref13_Front.l0
      repeat' first
      | (with_reducible exact ih0 _ _ _)
      | (with_reducible exact ih1 _ _ _ _ _)
      | (with_reducible exact haulierref13_Than.mono _ _ _ _ _ _ _ _ _ _ _ _ _ _ _ _ _ _ _ _ _)
      | (with_reducible exact LeO.refl _)
      | (with_reducible exact LeO.none _)
      | (with_reducible refine LeO.ite ?_ ?_)
      | (with_reducible refine LeO.bind ?_ (fun _ => ?_))
      | exact ih0 _ _ _
      | exact ih1 _ _ _ _ _
      | exact haulierref13_Than.mono _ _ _ _ _ _ _ _ _ _ _ _ _ _ _ _ _ _ _ _ _
      | exact LeO.none _
      | refine LeO.ite ?_ ?_
      | refine LeO.bind ?_ (fun _ => ?_)
    · intro y0 y1 y2 y3 y4
      unfold haulierref13_Front.l1
      repeat' first
      | (with_reducible exact ih0 _ _ _)
      | (with_reducible exact ih1 _ _ _ _ _)
      | (with_reducible exact haulierref13_Than.mono _ _ _ _ _ _ _ _ _ _ _ _ _ _ _ _ _ _ _ _ _)
      | (with_reducible exact LeO.refl _)
      | (with_reducible exact LeO.none _)
      | (with_reducible refine LeO.ite ?_ ?_)
      | (with_reducible refine LeO.bind ?_ (fun _ => ?_))
      | exact ih0 _ _ _
      | exact ih1 _ _ _ _ _
      | exact haulierref13_Than.mono _ _ _ _ _ _ _ _ _ _ _ _ _ _ _ _ _ _ _ _ _
      | exact LeO.none _
      | refine LeO.ite ?_ ?_
      | refine LeO.bind ?_ (fun _ => ?_)
theorem haulierref13_Front.mono : ∀ a0 k, LeO (haulierref13_Front.f k a0) (haulierref13_Front.f (k + 1) a0) := by
  intro a0 k
  obtain ⟨ih0, ih1⟩ := haulierref13_Front.mono_l k
  unfold haulierref13_Front.f
  repeat' first
      | (with_reducible exact ih0 _ _ _)
      | (with_reducible exact ih1 _ _ _ _ _)
      | (with_reducible exact haulierref13_Than.mono _ _ _ _ _ _ _ _ _ _ _ _ _ _ _ _ _ _ _ _ _)
      | (with_reducible exact LeO.refl _)
      | (with_reducible exact LeO.none _)
      | (with_reducible refine LeO.ite ?_ ?_)
      | (with_reducible refine LeO.bind ?_ (fun _ => ?_))
      | exact ih0 _ _ _
      | exact ih1 _ _ _ _ _
      | exact haulierref13_Than.mono _ _ _ _ _ _ _ _ _ _ _ _ _ _ _ _ _ _ _ _ _
      | exact LeO.none _
      | refine LeO.ite ?_ ?_
      | refine LeO.bind ?_ (fun _ => ?_)
def haulierref13_Front.T9 : Bool × List (List Nat × List Nat) := (true, [([], []), ([], []), ([0, 1], [0, 1]), ([2], [2]), ([], []), ([], []), ([4, 5], [4, 5]), ([6], [6]), ([3, 7], [3, 7]), ([8, 8, 0, 1, 2, 3, 4, 5, 6, 7, 8], [8])])
def haulierref13_Front.B9 : List Nat := [0, 0, 3, 7, 0, 0, 48, 112, 255, 511]
theorem haulierref13_Front.tab9 : rtab .any (opsOf Try.f20 9) = haulierref13_Front.T9 := by kernel_rfl
theorem haulierref13_Front.bits9 : waitsOk haulierref13_Front.T9.2 haulierref13_Front.B9 = true := by kernel_rfl
def haulierref13_Front.T10 : Bool × List (List Nat × List Nat) := (true, [([], []), ([], []), ([0, 1], [0, 1]), ([2], [2]), ([], []), ([], []), ([4, 5], [4, 5]), ([6], [6]), ([3, 7], [3, 7]), ([8, 8, 0, 1, 2, 3, 4, 5, 6, 7, 8], [8])])
def haulierref13_Front.B10 : List Nat := [0, 0, 3, 7, 0, 0, 48, 112, 255, 511]
theorem haulierref13_Front.tab10 : rtab .any (opsOf Try.f20 10) = haulierref13_Front.T10 := by kernel_rfl
theorem haulierref13_Front.bits10 : waitsOk haulierref13_Front.T10.2 haulierref13_Front.B10 = true := by kernel_rfl
set_option maxHeartbeats 16000000 in
set_option maxRecDepth 100000 in
theorem haulierref13_Front.calls (k : Nat) (P0_ : Nat → Prop) (A0 : Option Addr) (c0 : Nat) (l0 : List (S37)) (r : List (S37)) (w : World) (hs0 : Kd.V k37 37 w w.heap.size (fun k_ => P0_ k_) (.slice A0 l0.length c0) l0) (h : haulierref13_Front.f k l0 = some r) :
  Calls Try.prog 20 #[.slice A0 l0.length c0] w fun e w' => ∃ v0_ : Value, e = .returned (v0_) ∧ Kd.N k37 37 w' w.heap.size (fun k_ => (P0_ k_ ∨ w.heap.size ≤ k_)) v0_ r ∧ Below w.heap.size w w' := by
 have hu37 := Try.underlying37
 have HO0 := zqi (show Kd.V k37 37 w w.heap.size (fun k_ => (P0_ k_ ∨ w.heap.size ≤ k_)) (.slice A0 l0.length c0) l0 from Kd.V_mono hs0 (fun k_ hk => .inl hk))
 have HB := zqi (Below.refl w.heap.size w)
 have H : (haulierref13_Front.l0 k l0 ([] : List (S37)) 0) = some r := h
 clear h
 have H' := zqi H
 clear H
 go_enter Try.func20, Try.ntmps20
 go_wp2
 go_loopg [3, 4] k (fun kq v3 v4 w' => ∃ (x3_1 : List (S37)) (x4_1 : Int), v4 = .int .i64 x4_1 ∧ Aside0 (haulierref13_Front.l0 kq l0 x3_1 x4_1 = some r) ∧ Aside0 (kq ≤ k) ∧ Aside0 (Kd.V k37 37 w' w.heap.size (fun k_ => (P0_ k_ ∨ w.heap.size ≤ k_) ∧ some k_ ≠ (v3 : Value).ownBlock) (.slice A0 l0.length c0) l0) ∧ Aside0 (Kd.N k37 37 w' w.heap.size (fun k_ => (P0_ k_ ∨ w.heap.size ≤ k_)) v3 x3_1) ∧ Aside0 (Below w.heap.size w w'))
 case atStart => exact ⟨(([] : List (S37))), (0), (by first | rfl | (simp; done) | (simp [*]; done)), H', ⟨Nat.le_refl _⟩, ⟨by (with_reducible repeat (first | apply Kd.V_alloc | apply Kd.V_drewN | apply Kd.V_drew)); exact Kd.V_mono HO0.out (fun _ hk => ⟨hk, (by simp [Value.ownBlock])⟩)⟩, ⟨by first | exact Kd.S_nil _ _ _ _ _ | exact Kd.N_nil _ _ _ _ _ | exact Kd.V_nil _ _ _ _ _ | exact Kd.Q_nil _ _ _ _ _ | exact Kd.R_nil _ _ _ _ _⟩, ⟨by repeat (first | (with_reducible first | exact HB.out | apply zqg | apply zqf | apply zqh) | exact HB.out)⟩⟩
 case round =>
  clear H'
  obtain ⟨x3_1, x4_1, rfl, HA, HK1, HO_0, HO_3, HB⟩ := hrel
  cases gk with
  | zero => exact absurd HA.out (by simp [haulierref13_Front.l0])
  | succ k1 =>
   have H := HA.out
   clear HA
   simp only [haulierref13_Front.l0] at H
   by_cases c2 : x4_1 < (l0.length : Int)
   ·
    rw [if_pos c2] at H
    have c2b0 : decide (x4_1 < (l0.length : Int)) = true := decide_eq_true c2
    clear c2
    have H' := zqi H
    clear H
    go_wp2
    go_loopg [5, 6] k1 (fun kq v5 v6 w' => ∃ (x5_2 : Bool) (x6_2 : Int), v5 = .bool x5_2 ∧ v6 = .int .i64 x6_2 ∧ Aside0 (haulierref13_Front.l1 kq l0 x3_1 x4_1 x5_2 x6_2 = some r) ∧ Aside0 (kq ≤ k1) ∧ Aside0 (Kd.V k37 37 w' w.heap.size (fun k_ => (P0_ k_ ∨ w.heap.size ≤ k_) ∧ some k_ ≠ (u3 : Value).ownBlock) (.slice A0 l0.length c0) l0) ∧ Aside0 (Kd.N k37 37 w' w.heap.size (fun k_ => (P0_ k_ ∨ w.heap.size ≤ k_)) u3 x3_1) ∧ Aside0 (Below w.heap.size w w'))
    case atStart => exact ⟨(true), (0), (by first | rfl | (simp; done) | (simp [*]; done)), (by first | rfl | (simp; done) | (simp [*]; done)), H', ⟨Nat.le_refl _⟩, ⟨by (with_reducible repeat (first | apply Kd.V_alloc | apply Kd.V_drewN | apply Kd.V_drew)); exact HO_0.out⟩, ⟨by (with_reducible repeat (first | apply Kd.N_alloc | apply Kd.N_drewN | apply Kd.N_drew)); exact HO_3.out⟩, ⟨by repeat (first | (with_reducible first | exact HB.out | apply zqg | apply zqf | apply zqh) | exact HB.out)⟩⟩
    case round =>
     clear H'
     try clear c2
     try clear c2b0
     try clear p2
     obtain ⟨x5_2, x6_2, rfl, rfl, HA, HK2, HO_0, HO_3, HB⟩ := hrel
     cases gk with
     | zero => exact absurd HA.out (by simp [haulierref13_Front.l1])
     | succ k2 =>
      have H := HA.out
      clear HA
      simp only [haulierref13_Front.l1] at H
      by_cases c3 : x6_2 < (l0.length : Int)
      ·
       rw [if_pos c3] at H
       have c3b0 : decide (x6_2 < (l0.length : Int)) = true := decide_eq_true c3
       clear c3
       by_cases c4 : 0 ≤ x6_2
       ·
        rw [if_pos c4] at H
        have c4b0 : decide (0 ≤ x6_2) = true := decide_eq_true c4
        clear c4
        by_cases c5 : 0 ≤ x4_1
        ·
         rw [if_pos c5] at H
         have c5b0 : decide (0 ≤ x4_1) = true := decide_eq_true c5
         clear c5
         by_cases c6 : x4_1 < (l0.length : Int)
         ·
          rw [if_pos c6] at H
          have c6b0 : decide (x4_1 < (l0.length : Int)) = true := decide_eq_true c6
          clear c6
          replace H := Option.bind_eq_some_iff.mp H
          obtain ⟨t141, A70, H⟩ := H
          replace H : ((haulierref13_Than.f k2 ((rd_T37 l0 x4_1).f0.f0) ((rd_T37 l0 x4_1).f0.f1) ((rd_T37 l0 x4_1).f0.f2) ((rd_T37 l0 x4_1).f0.f3) ((rd_T37 l0 x4_1).f0.f4) ((rd_T37 l0 x4_1).f0.f5) ((rd_T37 l0 x4_1).f0.f6) ((rd_T37 l0 x4_1).f0.f7) ((rd_T37 l0 x4_1).f1) ((rd_T37 l0 x4_1).f2) ((rd_T37 l0 x6_2).f0.f0) ((rd_T37 l0 x6_2).f0.f1) ((rd_T37 l0 x6_2).f0.f2) ((rd_T37 l0 x6_2).f0.f3) ((rd_T37 l0 x6_2).f0.f4) ((rd_T37 l0 x6_2).f0.f5) ((rd_T37 l0 x6_2).f0.f6) ((rd_T37 l0 x6_2).f0.f7) ((rd_T37 l0 x6_2).f1) ((rd_T37 l0 x6_2).f2)).bind fun t144 => (if x6_2 = x4_1 then (haulierref13_Front.l1 k2 l0 x3_1 x4_1 x5_2 (wrap64 (x6_2 + 1))) else (if t141 = true then (if x6_2 < x4_1 then (haulierref13_Front.l1 k2 l0 x3_1 x4_1 false (wrap64 (x6_2 + 1))) else (if t144 = true then (haulierref13_Front.l1 k2 l0 x3_1 x4_1 x5_2 (wrap64 (x6_2 + 1))) else (haulierref13_Front.l1 k2 l0 x3_1 x4_1 false (wrap64 (x6_2 + 1))))) else (haulierref13_Front.l1 k2 l0 x3_1 x4_1 x5_2 (wrap64 (x6_2 + 1)))))) = some r := H
          have A7 := zqi A70
          clear A70
          replace H := Option.bind_eq_some_iff.mp H
          obtain ⟨t144, A80, H⟩ := H
          replace H : (if x6_2 = x4_1 then (haulierref13_Front.l1 k2 l0 x3_1 x4_1 x5_2 (wrap64 (x6_2 + 1))) else (if t141 = true then (if x6_2 < x4_1 then (haulierref13_Front.l1 k2 l0 x3_1 x4_1 false (wrap64 (x6_2 + 1))) else (if t144 = true then (haulierref13_Front.l1 k2 l0 x3_1 x4_1 x5_2 (wrap64 (x6_2 + 1))) else (haulierref13_Front.l1 k2 l0 x3_1 x4_1 false (wrap64 (x6_2 + 1))))) else (haulierref13_Front.l1 k2 l0 x3_1 x4_1 x5_2 (wrap64 (x6_2 + 1))))) = some r := H
          have A8 := zqi A80
          clear A80
          by_cases c9 : x6_2 = x4_1
          ·
           rw [if_pos c9] at H
           have c9b0 : (x6_2 == x4_1) = true := beq_iff_eq.mpr c9
           have c9b1 : (x6_2 != x4_1) = false := bne_eq_false_iff_eq.mpr c9
           clear c9
           have H' := zqi H
           clear H
           try go_wp2
           have n0_ := zqi (Kd.V_drew HO_0.out)
           have n1_ := zqi (Kd.N_drew HO_3.out)
           have n2_ := zqi (zqh HB.out)
           clear HO_0
           clear HO_3
           clear HB
           have HO_0 := n0_
           have HO_3 := n1_
           have HB := n2_
           clear n0_ n1_ n2_
           have p139 : 0 ≤ (x6_2 : Int) := of_decide_eq_true (by first | (with_reducible assumption) | assumption)
           have q139 : x6_2 < (l0.length : Int) := of_decide_eq_true (by first | (with_reducible assumption) | assumption)
           obtain ⟨ad139, A139_9, c139_9, e139, hx139_0, hx139_1, hx139_2, hx139_3, hx139_4, hx139_5, hx139_6, hx139_7, hx139_8, hx139_9, hl139_9, hi139_9⟩ := at_T37 (Kd.V_reads' HO_0.out).2.2 x6_2 p139 q139
           cases e139
           obtain ⟨ce139, hce139, hMe139, hcc139⟩ := Kd.V_get HO_0.out z37 x6_2 p139 (by first | exact q139 | exact of_decide_eq_true (by first | (with_reducible assumption) | assumption) | (have e_ := (Kd.V_reads' HO_0.out).1; omega))
           obtain ⟨ua139_9, uc139_9, rfl, ul139_9, ge139_9⟩ := k37_openF hMe139
           have hv139_9 := hcc139 9 _ rfl
           rw [add_field _ _ 9 (by omega)] at hv139_9
           replace hv139_9 := Option.some.inj (hv139_9.symm.trans hx139_9)
           injection hv139_9 with hva_ hvn_ hvc_
           rw [hva_] at ge139_9
           rw [hvc_] at ul139_9
           have HL139_9 := zqi (show Kd.V (Kd.int .i64) 3 _ w.heap.size _ _ ((rd_T37 l0 x6_2).f2) from Kd.V_mk ul139_9 ge139_9)
           clear hva_ hvn_ hvc_ ge139_9 ul139_9
           clear hcc139 hce139
           have HR139_9 := zqi hi139_9
           have HC139_9 := zqi hl139_9
           clear hi139_9 hl139_9
           replace p139 := eq_true p139
           replace q139 := eq_true q139
           have p140 : 0 ≤ (x4_1 : Int) := of_decide_eq_true (by first | (with_reducible assumption) | assumption)
           have q140 : x4_1 < (l0.length : Int) := of_decide_eq_true (by first | (with_reducible assumption) | assumption)
           obtain ⟨ad140, A140_9, c140_9, e140, hx140_0, hx140_1, hx140_2, hx140_3, hx140_4, hx140_5, hx140_6, hx140_7, hx140_8, hx140_9, hl140_9, hi140_9⟩ := at_T37 (Kd.V_reads' HO_0.out).2.2 x4_1 p140 q140
           obtain rfl : ad139 = ad140 := (by injection e140)
           obtain ⟨ce140, hce140, hMe140, hcc140⟩ := Kd.V_get HO_0.out z37 x4_1 p140 (by first | exact q140 | exact of_decide_eq_true (by first | (with_reducible assumption) | assumption) | (have e_ := (Kd.V_reads' HO_0.out).1; omega))
           obtain ⟨ua140_9, uc140_9, rfl, ul140_9, ge140_9⟩ := k37_openF hMe140
           have hv140_9 := hcc140 9 _ rfl
           rw [add_field _ _ 9 (by omega)] at hv140_9
           replace hv140_9 := Option.some.inj (hv140_9.symm.trans hx140_9)
           injection hv140_9 with hva_ hvn_ hvc_
           rw [hva_] at ge140_9
           rw [hvc_] at ul140_9
           have HL140_9 := zqi (show Kd.V (Kd.int .i64) 3 _ w.heap.size _ _ ((rd_T37 l0 x4_1).f2) from Kd.V_mk ul140_9 ge140_9)
           clear hva_ hvn_ hvc_ ge140_9 ul140_9
           clear hcc140 hce140
           have HR140_9 := zqi hi140_9
           have HC140_9 := zqi hl140_9
           clear hi140_9 hl140_9
           replace p140 := eq_true p140
           replace q140 := eq_true q140
           refine start_ (n := 10) (S := fun w' => w'.cell? (ad139.add ((x6_2).toNat * 10)) = some (.int .i64 ((rd_T37 l0 x6_2).f0.f0)) ∧ w'.cell? ⟨(ad139.add ((x6_2).toNat * 10)).block, (ad139.add ((x6_2).toNat * 10)).off + 1, none⟩ = some (.int .i64 ((rd_T37 l0 x6_2).f0.f1)) ∧ w'.cell? ⟨(ad139.add ((x6_2).toNat * 10)).block, (ad139.add ((x6_2).toNat * 10)).off + 2, none⟩ = some (.int .i64 ((rd_T37 l0 x6_2).f0.f2)) ∧ w'.cell? ⟨(ad139.add ((x6_2).toNat * 10)).block, (ad139.add ((x6_2).toNat * 10)).off + 3, none⟩ = some (.int .i64 ((rd_T37 l0 x6_2).f0.f3)) ∧ w'.cell? ⟨(ad139.add ((x6_2).toNat * 10)).block, (ad139.add ((x6_2).toNat * 10)).off + 4, none⟩ = some (.int .i64 ((rd_T37 l0 x6_2).f0.f4)) ∧ w'.cell? ⟨(ad139.add ((x6_2).toNat * 10)).block, (ad139.add ((x6_2).toNat * 10)).off + 5, none⟩ = some (.int .u64 ((rd_T37 l0 x6_2).f0.f5)) ∧ w'.cell? ⟨(ad139.add ((x6_2).toNat * 10)).block, (ad139.add ((x6_2).toNat * 10)).off + 6, none⟩ = some (.int .u64 ((rd_T37 l0 x6_2).f0.f6)) ∧ w'.cell? ⟨(ad139.add ((x6_2).toNat * 10)).block, (ad139.add ((x6_2).toNat * 10)).off + 7, none⟩ = some (.int .u64 ((rd_T37 l0 x6_2).f0.f7)) ∧ w'.cell? ⟨(ad139.add ((x6_2).toNat * 10)).block, (ad139.add ((x6_2).toNat * 10)).off + 8, none⟩ = some (.int .i64 ((rd_T37 l0 x6_2).f1)) ∧ w'.cell? ⟨(ad139.add ((x6_2).toNat * 10)).block, (ad139.add ((x6_2).toNat * 10)).off + 9, none⟩ = some (.slice A139_9 ((rd_T37 l0 x6_2).f2).length c139_9) ∧ w'.cell? (ad139.add ((x4_1).toNat * 10)) = some (.int .i64 ((rd_T37 l0 x4_1).f0.f0)) ∧ w'.cell? ⟨(ad139.add ((x4_1).toNat * 10)).block, (ad139.add ((x4_1).toNat * 10)).off + 1, none⟩ = some (.int .i64 ((rd_T37 l0 x4_1).f0.f1)) ∧ w'.cell? ⟨(ad139.add ((x4_1).toNat * 10)).block, (ad139.add ((x4_1).toNat * 10)).off + 2, none⟩ = some (.int .i64 ((rd_T37 l0 x4_1).f0.f2)) ∧ w'.cell? ⟨(ad139.add ((x4_1).toNat * 10)).block, (ad139.add ((x4_1).toNat * 10)).off + 3, none⟩ = some (.int .i64 ((rd_T37 l0 x4_1).f0.f3)) ∧ w'.cell? ⟨(ad139.add ((x4_1).toNat * 10)).block, (ad139.add ((x4_1).toNat * 10)).off + 4, none⟩ = some (.int .i64 ((rd_T37 l0 x4_1).f0.f4)) ∧ w'.cell? ⟨(ad139.add ((x4_1).toNat * 10)).block, (ad139.add ((x4_1).toNat * 10)).off + 5, none⟩ = some (.int .u64 ((rd_T37 l0 x4_1).f0.f5)) ∧ w'.cell? ⟨(ad139.add ((x4_1).toNat * 10)).block, (ad139.add ((x4_1).toNat * 10)).off + 6, none⟩ = some (.int .u64 ((rd_T37 l0 x4_1).f0.f6)) ∧ w'.cell? ⟨(ad139.add ((x4_1).toNat * 10)).block, (ad139.add ((x4_1).toNat * 10)).off + 7, none⟩ = some (.int .u64 ((rd_T37 l0 x4_1).f0.f7)) ∧ w'.cell? ⟨(ad139.add ((x4_1).toNat * 10)).block, (ad139.add ((x4_1).toNat * 10)).off + 8, none⟩ = some (.int .i64 ((rd_T37 l0 x4_1).f1)) ∧ w'.cell? ⟨(ad139.add ((x4_1).toNat * 10)).block, (ad139.add ((x4_1).toNat * 10)).off + 9, none⟩ = some (.slice A140_9 ((rd_T37 l0 x4_1).f2).length c140_9)) (ds := []) (zqB 10 0) (by kernel_rfl) rfl rfl ⟨hx139_0, hx139_1, hx139_2, hx139_3, hx139_4, hx139_5, hx139_6, hx139_7, hx139_8, hx139_9, hx140_0, hx140_1, hx140_2, hx140_3, hx140_4, hx140_5, hx140_6, hx140_7, hx140_8, hx140_9⟩ (fun hHeld => ?_); refine with_tabW haulierref13_Front.tab9 haulierref13_Front.bits9 (fun HT_ HW_ => ?_)
           generalize wr.drew = w10 at HO_0 HO_3 HB HL139_9 HL140_9 HR139_9 HR140_9 hx139_0 hx139_1 hx139_2 hx139_3 hx139_4 hx139_5 hx139_6 hx139_7 hx139_8 hx139_9 hx140_0 hx140_1 hx140_2 hx140_3 hx140_4 hx140_5 hx140_6 hx140_7 hx140_8 hx140_9 hHeld ⊢
           refine zqp 0 (some 21) (zqB 10 1) (any_of HT_.out (by kernel_rfl)) (h := ?_)
           refine zqp 1 (some 22) (zqB 10 3) (any_of HT_.out (by kernel_rfl)) (h := ?_)
           refine zqp 2 (some 23) (zqB 10 7) (any_of HT_.out (by kernel_rfl)) (h := ?_)
           refine zqp 4 (some 25) (zqB 10 23) (any_of HT_.out (by kernel_rfl)) (h := ?_)
           refine zqp 5 (some 26) (zqB 10 55) (any_of HT_.out (by kernel_rfl)) (h := ?_)
           refine zqp 6 (some 27) (zqB 10 119) (any_of HT_.out (by kernel_rfl)) (h := ?_)
           refine zqt 3 (some 24) (zqB 10 127) (take_ofW HT_.out HW_.out (by kernel_rfl)) hHeld (h := ?_)
           refine zqt 7 (some 28) (zqB 10 255) (take_ofW HT_.out HW_.out (by kernel_rfl)) hHeld (h := ?_)
           refine one_ (i := 8) (N := some 29) (zqB 10 511) rfl rfl (one_of HT_.out (by kernel_rfl)) (by decide) (fun K hK => ?_)
           refine goes_ Try.func22 (by kernel_rfl) rfl #[.agg #[.int .i64 ((rd_T37 l0 x6_2).f0.f0), .int .i64 ((rd_T37 l0 x6_2).f0.f1), .int .i64 ((rd_T37 l0 x6_2).f0.f2), .int .i64 ((rd_T37 l0 x6_2).f0.f3), .int .i64 ((rd_T37 l0 x6_2).f0.f4), .int .u64 ((rd_T37 l0 x6_2).f0.f5), .int .u64 ((rd_T37 l0 x6_2).f0.f6), .int .u64 ((rd_T37 l0 x6_2).f0.f7), .int .i64 ((rd_T37 l0 x6_2).f1), .slice A139_9 ((rd_T37 l0 x6_2).f2).length c139_9], .agg #[.int .i64 ((rd_T37 l0 x4_1).f0.f0), .int .i64 ((rd_T37 l0 x4_1).f0.f1), .int .i64 ((rd_T37 l0 x4_1).f0.f2), .int .i64 ((rd_T37 l0 x4_1).f0.f3), .int .i64 ((rd_T37 l0 x4_1).f0.f4), .int .u64 ((rd_T37 l0 x4_1).f0.f5), .int .u64 ((rd_T37 l0 x4_1).f0.f6), .int .u64 ((rd_T37 l0 x4_1).f0.f7), .int .i64 ((rd_T37 l0 x4_1).f1), .slice A140_9 ((rd_T37 l0 x4_1).f2).length c140_9]] (by rfl) rfl rfl (by (try simp only [List.map_toArray, List.map_cons, List.map_nil]); first | done | rfl | (simp only [List.length_drop, List.length_take]; rfl)) ?_
           with_reducible refine (haulierref13_Than.calls k2 ((rd_T37 l0 x6_2).f0.f0) ((rd_T37 l0 x6_2).f0.f1) ((rd_T37 l0 x6_2).f0.f2) ((rd_T37 l0 x6_2).f0.f3) ((rd_T37 l0 x6_2).f0.f4) ((rd_T37 l0 x6_2).f0.f5) ((rd_T37 l0 x6_2).f0.f6) ((rd_T37 l0 x6_2).f0.f7) ((rd_T37 l0 x6_2).f1) _ _ ((rd_T37 l0 x6_2).f2) ((rd_T37 l0 x4_1).f0.f0) ((rd_T37 l0 x4_1).f0.f1) ((rd_T37 l0 x4_1).f0.f2) ((rd_T37 l0 x4_1).f0.f3) ((rd_T37 l0 x4_1).f0.f4) ((rd_T37 l0 x4_1).f0.f5) ((rd_T37 l0 x4_1).f0.f6) ((rd_T37 l0 x4_1).f0.f7) ((rd_T37 l0 x4_1).f1) _ _ ((rd_T37 l0 x4_1).f2) t141 _ ?side1 ?side2 ?side3 ?side4 A7.out).mono ?_
           (case side1 => repeat (first | exact (by repeat (first | (with_reducible exact HR139_9.out) | (with_reducible refine Kd.C_alloc ?_ _) | (with_reducible refine Kd.C_drewN ?_ _) | (with_reducible refine Kd.C_drew ?_) | exact HR139_9.out)) | (with_reducible refine Kd.C_alloc ?_ _) | (with_reducible refine Kd.C_drewN ?_ _) | (with_reducible refine Kd.C_drew ?_)))
           (case side2 => exact HC139_9.out)
           (case side3 => repeat (first | exact (by repeat (first | (with_reducible exact HR140_9.out) | (with_reducible refine Kd.C_alloc ?_ _) | (with_reducible refine Kd.C_drewN ?_ _) | (with_reducible refine Kd.C_drew ?_) | exact HR140_9.out)) | (with_reducible refine Kd.C_alloc ?_ _) | (with_reducible refine Kd.C_drewN ?_ _) | (with_reducible refine Kd.C_drew ?_)))
           (case side4 => exact HC140_9.out)
           rintro e w11 ⟨rfl, hb⟩
           have HS0_ := (hb.cell (World.block_lt_of_cell? _ _ (hHeld.1))).trans (hHeld.1)
           have HS1_ := (hb.cell (World.block_lt_of_cell? _ _ (hHeld.2.1))).trans (hHeld.2.1)
           have HS2_ := (hb.cell (World.block_lt_of_cell? _ _ (hHeld.2.2.1))).trans (hHeld.2.2.1)
           have HS3_ := (hb.cell (World.block_lt_of_cell? _ _ (hHeld.2.2.2.1))).trans (hHeld.2.2.2.1)
           have HS4_ := (hb.cell (World.block_lt_of_cell? _ _ (hHeld.2.2.2.2.1))).trans (hHeld.2.2.2.2.1)
           have HS5_ := (hb.cell (World.block_lt_of_cell? _ _ (hHeld.2.2.2.2.2.1))).trans (hHeld.2.2.2.2.2.1)
           have HS6_ := (hb.cell (World.block_lt_of_cell? _ _ (hHeld.2.2.2.2.2.2.1))).trans (hHeld.2.2.2.2.2.2.1)
           have HS7_ := (hb.cell (World.block_lt_of_cell? _ _ (hHeld.2.2.2.2.2.2.2.1))).trans (hHeld.2.2.2.2.2.2.2.1)
           have HS8_ := (hb.cell (World.block_lt_of_cell? _ _ (hHeld.2.2.2.2.2.2.2.2.1))).trans (hHeld.2.2.2.2.2.2.2.2.1)
           have HS9_ := (hb.cell (World.block_lt_of_cell? _ _ (hHeld.2.2.2.2.2.2.2.2.2.1))).trans (hHeld.2.2.2.2.2.2.2.2.2.1)
           have HS10_ := (hb.cell (World.block_lt_of_cell? _ _ (hHeld.2.2.2.2.2.2.2.2.2.2.1))).trans (hHeld.2.2.2.2.2.2.2.2.2.2.1)
           have HS11_ := (hb.cell (World.block_lt_of_cell? _ _ (hHeld.2.2.2.2.2.2.2.2.2.2.2.1))).trans (hHeld.2.2.2.2.2.2.2.2.2.2.2.1)
           have HS12_ := (hb.cell (World.block_lt_of_cell? _ _ (hHeld.2.2.2.2.2.2.2.2.2.2.2.2.1))).trans (hHeld.2.2.2.2.2.2.2.2.2.2.2.2.1)
           have HS13_ := (hb.cell (World.block_lt_of_cell? _ _ (hHeld.2.2.2.2.2.2.2.2.2.2.2.2.2.1))).trans (hHeld.2.2.2.2.2.2.2.2.2.2.2.2.2.1)
           have HS14_ := (hb.cell (World.block_lt_of_cell? _ _ (hHeld.2.2.2.2.2.2.2.2.2.2.2.2.2.2.1))).trans (hHeld.2.2.2.2.2.2.2.2.2.2.2.2.2.2.1)
           have HS15_ := (hb.cell (World.block_lt_of_cell? _ _ (hHeld.2.2.2.2.2.2.2.2.2.2.2.2.2.2.2.1))).trans (hHeld.2.2.2.2.2.2.2.2.2.2.2.2.2.2.2.1)
           have HS16_ := (hb.cell (World.block_lt_of_cell? _ _ (hHeld.2.2.2.2.2.2.2.2.2.2.2.2.2.2.2.2.1))).trans (hHeld.2.2.2.2.2.2.2.2.2.2.2.2.2.2.2.2.1)
           have HS17_ := (hb.cell (World.block_lt_of_cell? _ _ (hHeld.2.2.2.2.2.2.2.2.2.2.2.2.2.2.2.2.2.1))).trans (hHeld.2.2.2.2.2.2.2.2.2.2.2.2.2.2.2.2.2.1)
           have HS18_ := (hb.cell (World.block_lt_of_cell? _ _ (hHeld.2.2.2.2.2.2.2.2.2.2.2.2.2.2.2.2.2.2.1))).trans (hHeld.2.2.2.2.2.2.2.2.2.2.2.2.2.2.2.2.2.2.1)
           have HS19_ := (hb.cell (World.block_lt_of_cell? _ _ (hHeld.2.2.2.2.2.2.2.2.2.2.2.2.2.2.2.2.2.2.2))).trans (hHeld.2.2.2.2.2.2.2.2.2.2.2.2.2.2.2.2.2.2.2)
           refine ⟨_, rfl, ?_⟩
           have n0_ := zqi (Kd.V_below (by (with_reducible repeat (first | apply Kd.V_alloc | apply Kd.V_drewN | apply Kd.V_drew)); exact HO_0.out) hb)
           have n1_ := zqi (Kd.N_below (by (with_reducible repeat (first | apply Kd.N_alloc | apply Kd.N_drewN | apply Kd.N_drew)); exact HO_3.out) hb)
           have n2_ := zqi (Kd.V_below (by (with_reducible repeat (first | apply Kd.V_alloc | apply Kd.V_drewN | apply Kd.V_drew)); exact HL139_9.out) hb)
           have n3_ := zqi (Kd.V_below (by (with_reducible repeat (first | apply Kd.V_alloc | apply Kd.V_drewN | apply Kd.V_drew)); exact HL140_9.out) hb)
           have n4_ := zqi (Kd.C_below (by repeat (first | (with_reducible exact HR139_9.out) | (with_reducible refine Kd.C_alloc ?_ _) | (with_reducible refine Kd.C_drewN ?_ _) | (with_reducible refine Kd.C_drew ?_) | exact HR139_9.out)) hb)
           have n5_ := zqi (Kd.C_below (by repeat (first | (with_reducible exact HR140_9.out) | (with_reducible refine Kd.C_alloc ?_ _) | (with_reducible refine Kd.C_drewN ?_ _) | (with_reducible refine Kd.C_drew ?_) | exact HR140_9.out)) hb)
           have n6_ := zqi (below_step (zqn HB.out) hb)
           clear HO_0
           clear HO_3
           clear HL139_9
           clear HL140_9
           clear HR139_9
           clear HR140_9
           clear HB
           have HO_0 := n0_
           have HO_3 := n1_
           have HL139_9 := n2_
           have HL140_9 := n3_
           have HR139_9 := n4_
           have HR140_9 := n5_
           have HB := n6_
           clear n0_ n1_ n2_ n3_ n4_ n5_ n6_
           (try clear hb)
           (try clear hb2)
           (try clear hk)
           (try clear hi)
           refine hK.out _ _ ⟨HS0_, HS1_, HS2_, HS3_, HS4_, HS5_, HS6_, HS7_, HS8_, HS9_, HS10_, HS11_, HS12_, HS13_, HS14_, HS15_, HS16_, HS17_, HS18_, HS19_⟩ (fun hHeld => ?_)
           clear hK K
           refine norm_ (a' := ?_) ?_ ?_
           rotate_left
           ·
            show Act.put _ (some 29) _ = _
            simp only [Act.put, List.setIfInBounds_toArray, List.set_cons_zero, List.set_cons_succ, i64_w, i32_w]
            rfl
           refine zqp 9 (some 7) (zqB 10 1023) (any_of HT_.out (by kernel_rfl)) (h := ?_)
           refine done_ (done_of HT_.out (by kernel_rfl)) ?_
           try go_wp2
           have n0_ := zqi (Kd.V_drew HO_0.out)
           have n1_ := zqi (Kd.N_drew HO_3.out)
           have n2_ := zqi (Kd.V_drew HL139_9.out)
           have n3_ := zqi (Kd.V_drew HL140_9.out)
           have n4_ := zqi (Kd.C_drew HR139_9.out)
           have n5_ := zqi (Kd.C_drew HR140_9.out)
           have n6_ := zqi (zqh HB.out)
           clear HO_0
           clear HO_3
           clear HL139_9
           clear HL140_9
           clear HR139_9
           clear HR140_9
           clear HB
           have HO_0 := n0_
           have HO_3 := n1_
           have HL139_9 := n2_
           have HL140_9 := n3_
           have HR139_9 := n4_
           have HR140_9 := n5_
           have HB := n6_
           clear n0_ n1_ n2_ n3_ n4_ n5_ n6_
           have p142 : 0 ≤ (x4_1 : Int) := of_decide_eq_true (by first | (with_reducible assumption) | assumption)
           have q142 : x4_1 < (l0.length : Int) := of_decide_eq_true (by first | (with_reducible assumption) | assumption)
           obtain ⟨ad142, A142_9, c142_9, e142, hx142_0, hx142_1, hx142_2, hx142_3, hx142_4, hx142_5, hx142_6, hx142_7, hx142_8, hx142_9, hl142_9, hi142_9⟩ := at_T37 (Kd.V_reads' HO_0.out).2.2 x4_1 p142 q142
           obtain rfl : ad139 = ad142 := (by injection e142)
           obtain ⟨ce142, hce142, hMe142, hcc142⟩ := Kd.V_get HO_0.out z37 x4_1 p142 (by first | exact q142 | exact of_decide_eq_true (by first | (with_reducible assumption) | assumption) | (have e_ := (Kd.V_reads' HO_0.out).1; omega))
           obtain ⟨ua142_9, uc142_9, rfl, ul142_9, ge142_9⟩ := k37_openF hMe142
           have hv142_9 := hcc142 9 _ rfl
           rw [add_field _ _ 9 (by omega)] at hv142_9
           replace hv142_9 := Option.some.inj (hv142_9.symm.trans hx142_9)
           injection hv142_9 with hva_ hvn_ hvc_
           rw [hva_] at ge142_9
           rw [hvc_] at ul142_9
           have HL142_9 := zqi (show Kd.V (Kd.int .i64) 3 _ w.heap.size _ _ ((rd_T37 l0 x4_1).f2) from Kd.V_mk ul142_9 ge142_9)
           clear hva_ hvn_ hvc_ ge142_9 ul142_9
           clear hcc142 hce142
           have HR142_9 := zqi hi142_9
           have HC142_9 := zqi hl142_9
           clear hi142_9 hl142_9
           replace p142 := eq_true p142
           replace q142 := eq_true q142
           have p143 : 0 ≤ (x6_2 : Int) := of_decide_eq_true (by first | (with_reducible assumption) | assumption)
           have q143 : x6_2 < (l0.length : Int) := of_decide_eq_true (by first | (with_reducible assumption) | assumption)
           obtain ⟨ad143, A143_9, c143_9, e143, hx143_0, hx143_1, hx143_2, hx143_3, hx143_4, hx143_5, hx143_6, hx143_7, hx143_8, hx143_9, hl143_9, hi143_9⟩ := at_T37 (Kd.V_reads' HO_0.out).2.2 x6_2 p143 q143
           obtain rfl : ad139 = ad143 := (by injection e143)
           obtain ⟨ce143, hce143, hMe143, hcc143⟩ := Kd.V_get HO_0.out z37 x6_2 p143 (by first | exact q143 | exact of_decide_eq_true (by first | (with_reducible assumption) | assumption) | (have e_ := (Kd.V_reads' HO_0.out).1; omega))
           obtain ⟨ua143_9, uc143_9, rfl, ul143_9, ge143_9⟩ := k37_openF hMe143
           have hv143_9 := hcc143 9 _ rfl
           rw [add_field _ _ 9 (by omega)] at hv143_9
           replace hv143_9 := Option.some.inj (hv143_9.symm.trans hx143_9)
           injection hv143_9 with hva_ hvn_ hvc_
           rw [hva_] at ge143_9
           rw [hvc_] at ul143_9
           have HL143_9 := zqi (show Kd.V (Kd.int .i64) 3 _ w.heap.size _ _ ((rd_T37 l0 x6_2).f2) from Kd.V_mk ul143_9 ge143_9)
           clear hva_ hvn_ hvc_ ge143_9 ul143_9
           clear hcc143 hce143
           have HR143_9 := zqi hi143_9
           have HC143_9 := zqi hl143_9
           clear hi143_9 hl143_9
           replace p143 := eq_true p143
           replace q143 := eq_true q143
           refine start_ (n := 10) (S := fun w' => w'.cell? (ad139.add ((x4_1).toNat * 10)) = some (.int .i64 ((rd_T37 l0 x4_1).f0.f0)) ∧ w'.cell? ⟨(ad139.add ((x4_1).toNat * 10)).block, (ad139.add ((x4_1).toNat * 10)).off + 1, none⟩ = some (.int .i64 ((rd_T37 l0 x4_1).f0.f1)) ∧ w'.cell? ⟨(ad139.add ((x4_1).toNat * 10)).block, (ad139.add ((x4_1).toNat * 10)).off + 2, none⟩ = some (.int .i64 ((rd_T37 l0 x4_1).f0.f2)) ∧ w'.cell? ⟨(ad139.add ((x4_1).toNat * 10)).block, (ad139.add ((x4_1).toNat * 10)).off + 3, none⟩ = some (.int .i64 ((rd_T37 l0 x4_1).f0.f3)) ∧ w'.cell? ⟨(ad139.add ((x4_1).toNat * 10)).block, (ad139.add ((x4_1).toNat * 10)).off + 4, none⟩ = some (.int .i64 ((rd_T37 l0 x4_1).f0.f4)) ∧ w'.cell? ⟨(ad139.add ((x4_1).toNat * 10)).block, (ad139.add ((x4_1).toNat * 10)).off + 5, none⟩ = some (.int .u64 ((rd_T37 l0 x4_1).f0.f5)) ∧ w'.cell? ⟨(ad139.add ((x4_1).toNat * 10)).block, (ad139.add ((x4_1).toNat * 10)).off + 6, none⟩ = some (.int .u64 ((rd_T37 l0 x4_1).f0.f6)) ∧ w'.cell? ⟨(ad139.add ((x4_1).toNat * 10)).block, (ad139.add ((x4_1).toNat * 10)).off + 7, none⟩ = some (.int .u64 ((rd_T37 l0 x4_1).f0.f7)) ∧ w'.cell? ⟨(ad139.add ((x4_1).toNat * 10)).block, (ad139.add ((x4_1).toNat * 10)).off + 8, none⟩ = some (.int .i64 ((rd_T37 l0 x4_1).f1)) ∧ w'.cell? ⟨(ad139.add ((x4_1).toNat * 10)).block, (ad139.add ((x4_1).toNat * 10)).off + 9, none⟩ = some (.slice A142_9 ((rd_T37 l0 x4_1).f2).length c142_9) ∧ w'.cell? (ad139.add ((x6_2).toNat * 10)) = some (.int .i64 ((rd_T37 l0 x6_2).f0.f0)) ∧ w'.cell? ⟨(ad139.add ((x6_2).toNat * 10)).block, (ad139.add ((x6_2).toNat * 10)).off + 1, none⟩ = some (.int .i64 ((rd_T37 l0 x6_2).f0.f1)) ∧ w'.cell? ⟨(ad139.add ((x6_2).toNat * 10)).block, (ad139.add ((x6_2).toNat * 10)).off + 2, none⟩ = some (.int .i64 ((rd_T37 l0 x6_2).f0.f2)) ∧ w'.cell? ⟨(ad139.add ((x6_2).toNat * 10)).block, (ad139.add ((x6_2).toNat * 10)).off + 3, none⟩ = some (.int .i64 ((rd_T37 l0 x6_2).f0.f3)) ∧ w'.cell? ⟨(ad139.add ((x6_2).toNat * 10)).block, (ad139.add ((x6_2).toNat * 10)).off + 4, none⟩ = some (.int .i64 ((rd_T37 l0 x6_2).f0.f4)) ∧ w'.cell? ⟨(ad139.add ((x6_2).toNat * 10)).block, (ad139.add ((x6_2).toNat * 10)).off + 5, none⟩ = some (.int .u64 ((rd_T37 l0 x6_2).f0.f5)) ∧ w'.cell? ⟨(ad139.add ((x6_2).toNat * 10)).block, (ad139.add ((x6_2).toNat * 10)).off + 6, none⟩ = some (.int .u64 ((rd_T37 l0 x6_2).f0.f6)) ∧ w'.cell? ⟨(ad139.add ((x6_2).toNat * 10)).block, (ad139.add ((x6_2).toNat * 10)).off + 7, none⟩ = some (.int .u64 ((rd_T37 l0 x6_2).f0.f7)) ∧ w'.cell? ⟨(ad139.add ((x6_2).toNat * 10)).block, (ad139.add ((x6_2).toNat * 10)).off + 8, none⟩ = some (.int .i64 ((rd_T37 l0 x6_2).f1)) ∧ w'.cell? ⟨(ad139.add ((x6_2).toNat * 10)).block, (ad139.add ((x6_2).toNat * 10)).off + 9, none⟩ = some (.slice A143_9 ((rd_T37 l0 x6_2).f2).length c143_9)) (ds := []) (zqB 10 0) (by kernel_rfl) rfl rfl ⟨hx142_0, hx142_1, hx142_2, hx142_3, hx142_4, hx142_5, hx142_6, hx142_7, hx142_8, hx142_9, hx143_0, hx143_1, hx143_2, hx143_3, hx143_4, hx143_5, hx143_6, hx143_7, hx143_8, hx143_9⟩ (fun hHeld => ?_); refine with_tabW haulierref13_Front.tab10 haulierref13_Front.bits10 (fun HT_ HW_ => ?_)
           generalize w11.drew = w12 at HO_0 HO_3 HL139_9 HL140_9 HR139_9 HR140_9 HB HL142_9 HL143_9 HR142_9 HR143_9 hx142_0 hx142_1 hx142_2 hx142_3 hx142_4 hx142_5 hx142_6 hx142_7 hx142_8 hx142_9 hx143_0 hx143_1 hx143_2 hx143_3 hx143_4 hx143_5 hx143_6 hx143_7 hx143_8 hx143_9 hHeld ⊢
           refine zqp 0 (some 30) (zqB 10 1) (any_of HT_.out (by kernel_rfl)) (h := ?_)
           refine zqp 1 (some 31) (zqB 10 3) (any_of HT_.out (by kernel_rfl)) (h := ?_)
           refine zqp 2 (some 32) (zqB 10 7) (any_of HT_.out (by kernel_rfl)) (h := ?_)
           refine zqp 4 (some 34) (zqB 10 23) (any_of HT_.out (by kernel_rfl)) (h := ?_)
           refine zqp 5 (some 35) (zqB 10 55) (any_of HT_.out (by kernel_rfl)) (h := ?_)
           refine zqp 6 (some 36) (zqB 10 119) (any_of HT_.out (by kernel_rfl)) (h := ?_)
           refine zqt 3 (some 33) (zqB 10 127) (take_ofW HT_.out HW_.out (by kernel_rfl)) hHeld (h := ?_)
           refine zqt 7 (some 37) (zqB 10 255) (take_ofW HT_.out HW_.out (by kernel_rfl)) hHeld (h := ?_)
           refine one_ (i := 8) (N := some 38) (zqB 10 511) rfl rfl (one_of HT_.out (by kernel_rfl)) (by decide) (fun K hK => ?_)
           refine goes_ Try.func22 (by kernel_rfl) rfl #[.agg #[.int .i64 ((rd_T37 l0 x4_1).f0.f0), .int .i64 ((rd_T37 l0 x4_1).f0.f1), .int .i64 ((rd_T37 l0 x4_1).f0.f2), .int .i64 ((rd_T37 l0 x4_1).f0.f3), .int .i64 ((rd_T37 l0 x4_1).f0.f4), .int .u64 ((rd_T37 l0 x4_1).f0.f5), .int .u64 ((rd_T37 l0 x4_1).f0.f6), .int .u64 ((rd_T37 l0 x4_1).f0.f7), .int .i64 ((rd_T37 l0 x4_1).f1), .slice A142_9 ((rd_T37 l0 x4_1).f2).length c142_9], .agg #[.int .i64 ((rd_T37 l0 x6_2).f0.f0), .int .i64 ((rd_T37 l0 x6_2).f0.f1), .int .i64 ((rd_T37 l0 x6_2).f0.f2), .int .i64 ((rd_T37 l0 x6_2).f0.f3), .int .i64 ((rd_T37 l0 x6_2).f0.f4), .int .u64 ((rd_T37 l0 x6_2).f0.f5), .int .u64 ((rd_T37 l0 x6_2).f0.f6), .int .u64 ((rd_T37 l0 x6_2).f0.f7), .int .i64 ((rd_T37 l0 x6_2).f1), .slice A143_9 ((rd_T37 l0 x6_2).f2).length c143_9]] (by rfl) rfl rfl (by (try simp only [List.map_toArray, List.map_cons, List.map_nil]); first | done | rfl | (simp only [List.length_drop, List.length_take]; rfl)) ?_
           with_reducible refine (haulierref13_Than.calls k2 ((rd_T37 l0 x4_1).f0.f0) ((rd_T37 l0 x4_1).f0.f1) ((rd_T37 l0 x4_1).f0.f2) ((rd_T37 l0 x4_1).f0.f3) ((rd_T37 l0 x4_1).f0.f4) ((rd_T37 l0 x4_1).f0.f5) ((rd_T37 l0 x4_1).f0.f6) ((rd_T37 l0 x4_1).f0.f7) ((rd_T37 l0 x4_1).f1) _ _ ((rd_T37 l0 x4_1).f2) ((rd_T37 l0 x6_2).f0.f0) ((rd_T37 l0 x6_2).f0.f1) ((rd_T37 l0 x6_2).f0.f2) ((rd_T37 l0 x6_2).f0.f3) ((rd_T37 l0 x6_2).f0.f4) ((rd_T37 l0 x6_2).f0.f5) ((rd_T37 l0 x6_2).f0.f6) ((rd_T37 l0 x6_2).f0.f7) ((rd_T37 l0 x6_2).f1) _ _ ((rd_T37 l0 x6_2).f2) t144 _ ?side1 ?side2 ?side3 ?side4 A8.out).mono ?_
           (case side1 => repeat (first | exact (by repeat (first | (with_reducible exact HR142_9.out) | (with_reducible refine Kd.C_alloc ?_ _) | (with_reducible refine Kd.C_drewN ?_ _) | (with_reducible refine Kd.C_drew ?_) | exact HR142_9.out)) | (with_reducible refine Kd.C_alloc ?_ _) | (with_reducible refine Kd.C_drewN ?_ _) | (with_reducible refine Kd.C_drew ?_)))
           (case side2 => exact HC142_9.out)
           (case side3 => repeat (first | exact (by repeat (first | (with_reducible exact HR143_9.out) | (with_reducible refine Kd.C_alloc ?_ _) | (with_reducible refine Kd.C_drewN ?_ _) | (with_reducible refine Kd.C_drew ?_) | exact HR143_9.out)) | (with_reducible refine Kd.C_alloc ?_ _) | (with_reducible refine Kd.C_drewN ?_ _) | (with_reducible refine Kd.C_drew ?_)))
           (case side4 => exact HC143_9.out)
           rintro e w13 ⟨rfl, hb⟩
           have HS0_ := (hb.cell (World.block_lt_of_cell? _ _ (hHeld.1))).trans (hHeld.1)
           have HS1_ := (hb.cell (World.block_lt_of_cell? _ _ (hHeld.2.1))).trans (hHeld.2.1)
           have HS2_ := (hb.cell (World.block_lt_of_cell? _ _ (hHeld.2.2.1))).trans (hHeld.2.2.1)
           have HS3_ := (hb.cell (World.block_lt_of_cell? _ _ (hHeld.2.2.2.1))).trans (hHeld.2.2.2.1)
           have HS4_ := (hb.cell (World.block_lt_of_cell? _ _ (hHeld.2.2.2.2.1))).trans (hHeld.2.2.2.2.1)
           have HS5_ := (hb.cell (World.block_lt_of_cell? _ _ (hHeld.2.2.2.2.2.1))).trans (hHeld.2.2.2.2.2.1)
           have HS6_ := (hb.cell (World.block_lt_of_cell? _ _ (hHeld.2.2.2.2.2.2.1))).trans (hHeld.2.2.2.2.2.2.1)
           have HS7_ := (hb.cell (World.block_lt_of_cell? _ _ (hHeld.2.2.2.2.2.2.2.1))).trans (hHeld.2.2.2.2.2.2.2.1)
           have HS8_ := (hb.cell (World.block_lt_of_cell? _ _ (hHeld.2.2.2.2.2.2.2.2.1))).trans (hHeld.2.2.2.2.2.2.2.2.1)
           have HS9_ := (hb.cell (World.block_lt_of_cell? _ _ (hHeld.2.2.2.2.2.2.2.2.2.1))).trans (hHeld.2.2.2.2.2.2.2.2.2.1)
           have HS10_ := (hb.cell (World.block_lt_of_cell? _ _ (hHeld.2.2.2.2.2.2.2.2.2.2.1))).trans (hHeld.2.2.2.2.2.2.2.2.2.2.1)
           have HS11_ := (hb.cell (World.block_lt_of_cell? _ _ (hHeld.2.2.2.2.2.2.2.2.2.2.2.1))).trans (hHeld.2.2.2.2.2.2.2.2.2.2.2.1)
           have HS12_ := (hb.cell (World.block_lt_of_cell? _ _ (hHeld.2.2.2.2.2.2.2.2.2.2.2.2.1))).trans (hHeld.2.2.2.2.2.2.2.2.2.2.2.2.1)
           have HS13_ := (hb.cell (World.block_lt_of_cell? _ _ (hHeld.2.2.2.2.2.2.2.2.2.2.2.2.2.1))).trans (hHeld.2.2.2.2.2.2.2.2.2.2.2.2.2.1)
           have HS14_ := (hb.cell (World.block_lt_of_cell? _ _ (hHeld.2.2.2.2.2.2.2.2.2.2.2.2.2.2.1))).trans (hHeld.2.2.2.2.2.2.2.2.2.2.2.2.2.2.1)
           have HS15_ := (hb.cell (World.block_lt_of_cell? _ _ (hHeld.2.2.2.2.2.2.2.2.2.2.2.2.2.2.2.1))).trans (hHeld.2.2.2.2.2.2.2.2.2.2.2.2.2.2.2.1)
           have HS16_ := (hb.cell (World.block_lt_of_cell? _ _ (hHeld.2.2.2.2.2.2.2.2.2.2.2.2.2.2.2.2.1))).trans (hHeld.2.2.2.2.2.2.2.2.2.2.2.2.2.2.2.2.1)
           have HS17_ := (hb.cell (World.block_lt_of_cell? _ _ (hHeld.2.2.2.2.2.2.2.2.2.2.2.2.2.2.2.2.2.1))).trans (hHeld.2.2.2.2.2.2.2.2.2.2.2.2.2.2.2.2.2.1)
           have HS18_ := (hb.cell (World.block_lt_of_cell? _ _ (hHeld.2.2.2.2.2.2.2.2.2.2.2.2.2.2.2.2.2.2.1))).trans (hHeld.2.2.2.2.2.2.2.2.2.2.2.2.2.2.2.2.2.2.1)
           have HS19_ := (hb.cell (World.block_lt_of_cell? _ _ (hHeld.2.2.2.2.2.2.2.2.2.2.2.2.2.2.2.2.2.2.2))).trans (hHeld.2.2.2.2.2.2.2.2.2.2.2.2.2.2.2.2.2.2.2)
           refine ⟨_, rfl, ?_⟩
           have n0_ := zqi (Kd.V_below (by (with_reducible repeat (first | apply Kd.V_alloc | apply Kd.V_drewN | apply Kd.V_drew)); exact HO_0.out) hb)
           have n1_ := zqi (Kd.N_below (by (with_reducible repeat (first | apply Kd.N_alloc | apply Kd.N_drewN | apply Kd.N_drew)); exact HO_3.out) hb)
           have n2_ := zqi (Kd.V_below (by (with_reducible repeat (first | apply Kd.V_alloc | apply Kd.V_drewN | apply Kd.V_drew)); exact HL139_9.out) hb)
           have n3_ := zqi (Kd.V_below (by (with_reducible repeat (first | apply Kd.V_alloc | apply Kd.V_drewN | apply Kd.V_drew)); exact HL140_9.out) hb)
           have n4_ := zqi (Kd.V_below (by (with_reducible repeat (first | apply Kd.V_alloc | apply Kd.V_drewN | apply Kd.V_drew)); exact HL142_9.out) hb)
           have n5_ := zqi (Kd.V_below (by (with_reducible repeat (first | apply Kd.V_alloc | apply Kd.V_drewN | apply Kd.V_drew)); exact HL143_9.out) hb)
           have n6_ := zqi (Kd.C_below (by repeat (first | (with_reducible exact HR139_9.out) | (with_reducible refine Kd.C_alloc ?_ _) | (with_reducible refine Kd.C_drewN ?_ _) | (with_reducible refine Kd.C_drew ?_) | exact HR139_9.out)) hb)
           have n7_ := zqi (Kd.C_below (by repeat (first | (with_reducible exact HR140_9.out) | (with_reducible refine Kd.C_alloc ?_ _) | (with_reducible refine Kd.C_drewN ?_ _) | (with_reducible refine Kd.C_drew ?_) | exact HR140_9.out)) hb)
           have n8_ := zqi (Kd.C_below (by repeat (first | (with_reducible exact HR142_9.out) | (with_reducible refine Kd.C_alloc ?_ _) | (with_reducible refine Kd.C_drewN ?_ _) | (with_reducible refine Kd.C_drew ?_) | exact HR142_9.out)) hb)
           have n9_ := zqi (Kd.C_below (by repeat (first | (with_reducible exact HR143_9.out) | (with_reducible refine Kd.C_alloc ?_ _) | (with_reducible refine Kd.C_drewN ?_ _) | (with_reducible refine Kd.C_drew ?_) | exact HR143_9.out)) hb)
           have n10_ := zqi (below_step (zqn HB.out) hb)
           clear HO_0
           clear HO_3
           clear HL139_9
           clear HL140_9
           clear HL142_9
           clear HL143_9
           clear HR139_9
           clear HR140_9
           clear HR142_9
           clear HR143_9
           clear HB
           have HO_0 := n0_
           have HO_3 := n1_
           have HL139_9 := n2_
           have HL140_9 := n3_
           have HL142_9 := n4_
           have HL143_9 := n5_
           have HR139_9 := n6_
           have HR140_9 := n7_
           have HR142_9 := n8_
           have HR143_9 := n9_
           have HB := n10_
           clear n0_ n1_ n2_ n3_ n4_ n5_ n6_ n7_ n8_ n9_ n10_
           (try clear hb)
           (try clear hb2)
           (try clear hk)
           (try clear hi)
           refine hK.out _ _ ⟨HS0_, HS1_, HS2_, HS3_, HS4_, HS5_, HS6_, HS7_, HS8_, HS9_, HS10_, HS11_, HS12_, HS13_, HS14_, HS15_, HS16_, HS17_, HS18_, HS19_⟩ (fun hHeld => ?_)
           clear hK K
           refine norm_ (a' := ?_) ?_ ?_
           rotate_left
           ·
            show Act.put _ (some 38) _ = _
            simp only [Act.put, List.setIfInBounds_toArray, List.set_cons_zero, List.set_cons_succ, i64_w, i32_w]
            rfl
           refine zqp 9 (some 8) (zqB 10 1023) (any_of HT_.out (by kernel_rfl)) (h := ?_)
           refine done_ (done_of HT_.out (by kernel_rfl)) ?_
           try go_wp2
           go_roundg k2
           case measure => have := HK1.out; have := HK2.out; omega
           case rel => exact ⟨(x5_2), (wrap64 (x6_2 + 1)), (by first | rfl | (simp; done) | (simp [*]; done)), (by first | rfl | (simp; done) | (simp [*]; done)), H', ⟨by have := HK1.out; have := HK2.out; omega⟩, ⟨by (with_reducible repeat (first | apply Kd.V_alloc | apply Kd.V_drewN | apply Kd.V_drew)); exact HO_0.out⟩, ⟨by (with_reducible repeat (first | apply Kd.N_alloc | apply Kd.N_drewN | apply Kd.N_drew)); exact HO_3.out⟩, ⟨by repeat (first | (with_reducible first | exact HB.out | apply zqg | apply zqf | apply zqh) | exact HB.out)⟩⟩
          ·
           rw [if_neg c9] at H
           have c9b0 : (x6_2 == x4_1) = false := beq_eq_false_iff_ne.mpr c9
           have c9b1 : (x6_2 != x4_1) = true := bne_iff_ne.mpr c9
           by_cases c14 : t141 = true
           ·
            subst c14
            have H1 : (if x6_2 < x4_1 then (haulierref13_Front.l1 k2 l0 x3_1 x4_1 false (wrap64 (x6_2 + 1))) else (if t144 = true then (haulierref13_Front.l1 k2 l0 x3_1 x4_1 x5_2 (wrap64 (x6_2 + 1))) else (haulierref13_Front.l1 k2 l0 x3_1 x4_1 false (wrap64 (x6_2 + 1))))) = some r := by rw [if_pos rfl] at H; exact H
            clear H
            have H := H1
            clear H1
            by_cases c15 : x6_2 < x4_1
            ·
             rw [if_pos c15] at H
             have c15b0 : decide (x6_2 < x4_1) = true := decide_eq_true c15
             clear c15
             have H' := zqi H
             clear H
             try go_wp2
             have n0_ := zqi (Kd.V_drew HO_0.out)
             have n1_ := zqi (Kd.N_drew HO_3.out)
             have n2_ := zqi (zqh HB.out)
             clear HO_0
             clear HO_3
             clear HB
             have HO_0 := n0_
             have HO_3 := n1_
             have HB := n2_
             clear n0_ n1_ n2_
             have p139 : 0 ≤ (x6_2 : Int) := of_decide_eq_true (by first | (with_reducible assumption) | assumption)
             have q139 : x6_2 < (l0.length : Int) := of_decide_eq_true (by first | (with_reducible assumption) | assumption)
             obtain ⟨ad139, A139_9, c139_9, e139, hx139_0, hx139_1, hx139_2, hx139_3, hx139_4, hx139_5, hx139_6, hx139_7, hx139_8, hx139_9, hl139_9, hi139_9⟩ := at_T37 (Kd.V_reads' HO_0.out).2.2 x6_2 p139 q139
             cases e139
             obtain ⟨ce139, hce139, hMe139, hcc139⟩ := Kd.V_get HO_0.out z37 x6_2 p139 (by first | exact q139 | exact of_decide_eq_true (by first | (with_reducible assumption) | assumption) | (have e_ := (Kd.V_reads' HO_0.out).1; omega))
             obtain ⟨ua139_9, uc139_9, rfl, ul139_9, ge139_9⟩ := k37_openF hMe139
             have hv139_9 := hcc139 9 _ rfl
             rw [add_field _ _ 9 (by omega)] at hv139_9
             replace hv139_9 := Option.some.inj (hv139_9.symm.trans hx139_9)
             injection hv139_9 with hva_ hvn_ hvc_
             rw [hva_] at ge139_9
             rw [hvc_] at ul139_9
             have HL139_9 := zqi (show Kd.V (Kd.int .i64) 3 _ w.heap.size _ _ ((rd_T37 l0 x6_2).f2) from Kd.V_mk ul139_9 ge139_9)
             clear hva_ hvn_ hvc_ ge139_9 ul139_9
             clear hcc139 hce139
             have HR139_9 := zqi hi139_9
             have HC139_9 := zqi hl139_9
             clear hi139_9 hl139_9
             replace p139 := eq_true p139
             replace q139 := eq_true q139
             have p140 : 0 ≤ (x4_1 : Int) := of_decide_eq_true (by first | (with_reducible assumption) | assumption)
             have q140 : x4_1 < (l0.length : Int) := of_decide_eq_true (by first | (with_reducible assumption) | assumption)
             obtain ⟨ad140, A140_9, c140_9, e140, hx140_0, hx140_1, hx140_2, hx140_3, hx140_4, hx140_5, hx140_6, hx140_7, hx140_8, hx140_9, hl140_9, hi140_9⟩ := at_T37 (Kd.V_reads' HO_0.out).2.2 x4_1 p140 q140
             obtain rfl : ad139 = ad140 := (by injection e140)
             obtain ⟨ce140, hce140, hMe140, hcc140⟩ := Kd.V_get HO_0.out z37 x4_1 p140 (by first | exact q140 | exact of_decide_eq_true (by first | (with_reducible assumption) | assumption) | (have e_ := (Kd.V_reads' HO_0.out).1; omega))
             obtain ⟨ua140_9, uc140_9, rfl, ul140_9, ge140_9⟩ := k37_openF hMe140
             have hv140_9 := hcc140 9 _ rfl
             rw [add_field _ _ 9 (by omega)] at hv140_9
             replace hv140_9 := Option.some.inj (hv140_9.symm.trans hx140_9)
             injection hv140_9 with hva_ hvn_ hvc_
             rw [hva_] at ge140_9
             rw [hvc_] at ul140_9
             have HL140_9 := zqi (show Kd.V (Kd.int .i64) 3 _ w.heap.size _ _ ((rd_T37 l0 x4_1).f2) from Kd.V_mk ul140_9 ge140_9)
             clear hva_ hvn_ hvc_ ge140_9 ul140_9
             clear hcc140 hce140
             have HR140_9 := zqi hi140_9
             have HC140_9 := zqi hl140_9
             clear hi140_9 hl140_9
             replace p140 := eq_true p140
             replace q140 := eq_true q140
             refine start_ (n := 10) (S := fun w' => w'.cell? (ad139.add ((x6_2).toNat * 10)) = some (.int .i64 ((rd_T37 l0 x6_2).f0.f0)) ∧ w'.cell? ⟨(ad139.add ((x6_2).toNat * 10)).block, (ad139.add ((x6_2).toNat * 10)).off + 1, none⟩ = some (.int .i64 ((rd_T37 l0 x6_2).f0.f1)) ∧ w'.cell? ⟨(ad139.add ((x6_2).toNat * 10)).block, (ad139.add ((x6_2).toNat * 10)).off + 2, none⟩ = some (.int .i64 ((rd_T37 l0 x6_2).f0.f2)) ∧ w'.cell? ⟨(ad139.add ((x6_2).toNat * 10)).block, (ad139.add ((x6_2).toNat * 10)).off + 3, none⟩ = some (.int .i64 ((rd_T37 l0 x6_2).f0.f3)) ∧ w'.cell? ⟨(ad139.add ((x6_2).toNat * 10)).block, (ad139.add ((x6_2).toNat * 10)).off + 4, none⟩ = some (.int .i64 ((rd_T37 l0 x6_2).f0.f4)) ∧ w'.cell? ⟨(ad139.add ((x6_2).toNat * 10)).block, (ad139.add ((x6_2).toNat * 10)).off + 5, none⟩ = some (.int .u64 ((rd_T37 l0 x6_2).f0.f5)) ∧ w'.cell? ⟨(ad139.add ((x6_2).toNat * 10)).block, (ad139.add ((x6_2).toNat * 10)).off + 6, none⟩ = some (.int .u64 ((rd_T37 l0 x6_2).f0.f6)) ∧ w'.cell? ⟨(ad139.add ((x6_2).toNat * 10)).block, (ad139.add ((x6_2).toNat * 10)).off + 7, none⟩ = some (.int .u64 ((rd_T37 l0 x6_2).f0.f7)) ∧ w'.cell? ⟨(ad139.add ((x6_2).toNat * 10)).block, (ad139.add ((x6_2).toNat * 10)).off + 8, none⟩ = some (.int .i64 ((rd_T37 l0 x6_2).f1)) ∧ w'.cell? ⟨(ad139.add ((x6_2).toNat * 10)).block, (ad139.add ((x6_2).toNat * 10)).off + 9, none⟩ = some (.slice A139_9 ((rd_T37 l0 x6_2).f2).length c139_9) ∧ w'.cell? (ad139.add ((x4_1).toNat * 10)) = some (.int .i64 ((rd_T37 l0 x4_1).f0.f0)) ∧ w'.cell? ⟨(ad139.add ((x4_1).toNat * 10)).block, (ad139.add ((x4_1).toNat * 10)).off + 1, none⟩ = some (.int .i64 ((rd_T37 l0 x4_1).f0.f1)) ∧ w'.cell? ⟨(ad139.add ((x4_1).toNat * 10)).block, (ad139.add ((x4_1).toNat * 10)).off + 2, none⟩ = some (.int .i64 ((rd_T37 l0 x4_1).f0.f2)) ∧ w'.cell? ⟨(ad139.add ((x4_1).toNat * 10)).block, (ad139.add ((x4_1).toNat * 10)).off + 3, none⟩ = some (.int .i64 ((rd_T37 l0 x4_1).f0.f3)) ∧ w'.cell? ⟨(ad139.add ((x4_1).toNat * 10)).block, (ad139.add ((x4_1).toNat * 10)).off + 4, none⟩ = some (.int .i64 ((rd_T37 l0 x4_1).f0.f4)) ∧ w'.cell? ⟨(ad139.add ((x4_1).toNat * 10)).block, (ad139.add ((x4_1).toNat * 10)).off + 5, none⟩ = some (.int .u64 ((rd_T37 l0 x4_1).f0.f5)) ∧ w'.cell? ⟨(ad139.add ((x4_1).toNat * 10)).block, (ad139.add ((x4_1).toNat * 10)).off + 6, none⟩ = some (.int .u64 ((rd_T37 l0 x4_1).f0.f6)) ∧ w'.cell? ⟨(ad139.add ((x4_1).toNat * 10)).block, (ad139.add ((x4_1).toNat * 10)).off + 7, none⟩ = some (.int .u64 ((rd_T37 l0 x4_1).f0.f7)) ∧ w'.cell? ⟨(ad139.add ((x4_1).toNat * 10)).block, (ad139.add ((x4_1).toNat * 10)).off + 8, none⟩ = some (.int .i64 ((rd_T37 l0 x4_1).f1)) ∧ w'.cell? ⟨(ad139.add ((x4_1).toNat * 10)).block, (ad139.add ((x4_1).toNat * 10)).off + 9, none⟩ = some (.slice A140_9 ((rd_T37 l0 x4_1).f2).length c140_9)) (ds := []) (zqB 10 0) (by kernel_rfl) rfl rfl ⟨hx139_0, hx139_1, hx139_2, hx139_3, hx139_4, hx139_5, hx139_6, hx139_7, hx139_8, hx139_9, hx140_0, hx140_1, hx140_2, hx140_3, hx140_4, hx140_5, hx140_6, hx140_7, hx140_8, hx140_9⟩ (fun hHeld => ?_); refine with_tabW haulierref13_Front.tab9 haulierref13_Front.bits9 (fun HT_ HW_ => ?_)
             generalize wr.drew = w16 at HO_0 HO_3 HB HL139_9 HL140_9 HR139_9 HR140_9 hx139_0 hx139_1 hx139_2 hx139_3 hx139_4 hx139_5 hx139_6 hx139_7 hx139_8 hx139_9 hx140_0 hx140_1 hx140_2 hx140_3 hx140_4 hx140_5 hx140_6 hx140_7 hx140_8 hx140_9 hHeld ⊢
             refine zqp 0 (some 21) (zqB 10 1) (any_of HT_.out (by kernel_rfl)) (h := ?_)
             refine zqp 1 (some 22) (zqB 10 3) (any_of HT_.out (by kernel_rfl)) (h := ?_)
             refine zqp 2 (some 23) (zqB 10 7) (any_of HT_.out (by kernel_rfl)) (h := ?_)
             refine zqp 4 (some 25) (zqB 10 23) (any_of HT_.out (by kernel_rfl)) (h := ?_)
             refine zqp 5 (some 26) (zqB 10 55) (any_of HT_.out (by kernel_rfl)) (h := ?_)
             refine zqp 6 (some 27) (zqB 10 119) (any_of HT_.out (by kernel_rfl)) (h := ?_)
             refine zqt 3 (some 24) (zqB 10 127) (take_ofW HT_.out HW_.out (by kernel_rfl)) hHeld (h := ?_)
             refine zqt 7 (some 28) (zqB 10 255) (take_ofW HT_.out HW_.out (by kernel_rfl)) hHeld (h := ?_)
             refine one_ (i := 8) (N := some 29) (zqB 10 511) rfl rfl (one_of HT_.out (by kernel_rfl)) (by decide) (fun K hK => ?_)
             refine goes_ Try.func22 (by kernel_rfl) rfl #[.agg #[.int .i64 ((rd_T37 l0 x6_2).f0.f0), .int .i64 ((rd_T37 l0 x6_2).f0.f1), .int .i64 ((rd_T37 l0 x6_2).f0.f2), .int .i64 ((rd_T37 l0 x6_2).f0.f3), .int .i64 ((rd_T37 l0 x6_2).f0.f4), .int .u64 ((rd_T37 l0 x6_2).f0.f5), .int .u64 ((rd_T37 l0 x6_2).f0.f6), .int .u64 ((rd_T37 l0 x6_2).f0.f7), .int .i64 ((rd_T37 l0 x6_2).f1), .slice A139_9 ((rd_T37 l0 x6_2).f2).length c139_9], .agg #[.int .i64 ((rd_T37 l0 x4_1).f0.f0), .int .i64 ((rd_T37 l0 x4_1).f0.f1), .int .i64 ((rd_T37 l0 x4_1).f0.f2), .int .i64 ((rd_T37 l0 x4_1).f0.f3), .int .i64 ((rd_T37 l0 x4_1).f0.f4), .int .u64 ((rd_T37 l0 x4_1).f0.f5), .int .u64 ((rd_T37 l0 x4_1).f0.f6), .int .u64 ((rd_T37 l0 x4_1).f0.f7), .int .i64 ((rd_T37 l0 x4_1).f1), .slice A140_9 ((rd_T37 l0 x4_1).f2).length c140_9]] (by rfl) rfl rfl (by (try simp only [List.map_toArray, List.map_cons, List.map_nil]); first | done | rfl | (simp only [List.length_drop, List.length_take]; rfl)) ?_
             with_reducible refine (haulierref13_Than.calls k2 ((rd_T37 l0 x6_2).f0.f0) ((rd_T37 l0 x6_2).f0.f1) ((rd_T37 l0 x6_2).f0.f2) ((rd_T37 l0 x6_2).f0.f3) ((rd_T37 l0 x6_2).f0.f4) ((rd_T37 l0 x6_2).f0.f5) ((rd_T37 l0 x6_2).f0.f6) ((rd_T37 l0 x6_2).f0.f7) ((rd_T37 l0 x6_2).f1) _ _ ((rd_T37 l0 x6_2).f2) ((rd_T37 l0 x4_1).f0.f0) ((rd_T37 l0 x4_1).f0.f1) ((rd_T37 l0 x4_1).f0.f2) ((rd_T37 l0 x4_1).f0.f3) ((rd_T37 l0 x4_1).f0.f4) ((rd_T37 l0 x4_1).f0.f5) ((rd_T37 l0 x4_1).f0.f6) ((rd_T37 l0 x4_1).f0.f7) ((rd_T37 l0 x4_1).f1) _ _ ((rd_T37 l0 x4_1).f2) true _ ?side1 ?side2 ?side3 ?side4 A7.out).mono ?_
             (case side1 => repeat (first | exact (by repeat (first | (with_reducible exact HR139_9.out) | (with_reducible refine Kd.C_alloc ?_ _) | (with_reducible refine Kd.C_drewN ?_ _) | (with_reducible refine Kd.C_drew ?_) | exact HR139_9.out)) | (with_reducible refine Kd.C_alloc ?_ _) | (with_reducible refine Kd.C_drewN ?_ _) | (with_reducible refine Kd.C_drew ?_)))
             (case side2 => exact HC139_9.out)
             (case side3 => repeat (first | exact (by repeat (first | (with_reducible exact HR140_9.out) | (with_reducible refine Kd.C_alloc ?_ _) | (with_reducible refine Kd.C_drewN ?_ _) | (with_reducible refine Kd.C_drew ?_) | exact HR140_9.out)) | (with_reducible refine Kd.C_alloc ?_ _) | (with_reducible refine Kd.C_drewN ?_ _) | (with_reducible refine Kd.C_drew ?_)))
             (case side4 => exact HC140_9.out)
             rintro e w17 ⟨rfl, hb⟩
             have HS0_ := (hb.cell (World.block_lt_of_cell? _ _ (hHeld.1))).trans (hHeld.1)
             have HS1_ := (hb.cell (World.block_lt_of_cell? _ _ (hHeld.2.1))).trans (hHeld.2.1)
             have HS2_ := (hb.cell (World.block_lt_of_cell? _ _ (hHeld.2.2.1))).trans (hHeld.2.2.1)
             have HS3_ := (hb.cell (World.block_lt_of_cell? _ _ (hHeld.2.2.2.1))).trans (hHeld.2.2.2.1)
             have HS4_ := (hb.cell (World.block_lt_of_cell? _ _ (hHeld.2.2.2.2.1))).trans (hHeld.2.2.2.2.1)
             have HS5_ := (hb.cell (World.block_lt_of_cell? _ _ (hHeld.2.2.2.2.2.1))).trans (hHeld.2.2.2.2.2.1)
             have HS6_ := (hb.cell (World.block_lt_of_cell? _ _ (hHeld.2.2.2.2.2.2.1))).trans (hHeld.2.2.2.2.2.2.1)
             have HS7_ := (hb.cell (World.block_lt_of_cell? _ _ (hHeld.2.2.2.2.2.2.2.1))).trans (hHeld.2.2.2.2.2.2.2.1)
             have HS8_ := (hb.cell (World.block_lt_of_cell? _ _ (hHeld.2.2.2.2.2.2.2.2.1))).trans (hHeld.2.2.2.2.2.2.2.2.1)
             have HS9_ := (hb.cell (World.block_lt_of_cell? _ _ (hHeld.2.2.2.2.2.2.2.2.2.1))).trans (hHeld.2.2.2.2.2.2.2.2.2.1)
             have HS10_ := (hb.cell (World.block_lt_of_cell? _ _ (hHeld.2.2.2.2.2.2.2.2.2.2.1))).trans (hHeld.2.2.2.2.2.2.2.2.2.2.1)
             have HS11_ := (hb.cell (World.block_lt_of_cell? _ _ (hHeld.2.2.2.2.2.2.2.2.2.2.2.1))).trans (hHeld.2.2.2.2.2.2.2.2.2.2.2.1)
             have HS12_ := (hb.cell (World.block_lt_of_cell? _ _ (hHeld.2.2.2.2.2.2.2.2.2.2.2.2.1))).trans (hHeld.2.2.2.2.2.2.2.2.2.2.2.2.1)
             have HS13_ := (hb.cell (World.block_lt_of_cell? _ _ (hHeld.2.2.2.2.2.2.2.2.2.2.2.2.2.1))).trans (hHeld.2.2.2.2.2.2.2.2.2.2.2.2.2.1)
             have HS14_ := (hb.cell (World.block_lt_of_cell? _ _ (hHeld.2.2.2.2.2.2.2.2.2.2.2.2.2.2.1))).trans (hHeld.2.2.2.2.2.2.2.2.2.2.2.2.2.2.1)
             have HS15_ := (hb.cell (World.block_lt_of_cell? _ _ (hHeld.2.2.2.2.2.2.2.2.2.2.2.2.2.2.2.1))).trans (hHeld.2.2.2.2.2.2.2.2.2.2.2.2.2.2.2.1)
             have HS16_ := (hb.cell (World.block_lt_of_cell? _ _ (hHeld.2.2.2.2.2.2.2.2.2.2.2.2.2.2.2.2.1))).trans (hHeld.2.2.2.2.2.2.2.2.2.2.2.2.2.2.2.2.1)
             have HS17_ := (hb.cell (World.block_lt_of_cell? _ _ (hHeld.2.2.2.2.2.2.2.2.2.2.2.2.2.2.2.2.2.1))).trans (hHeld.2.2.2.2.2.2.2.2.2.2.2.2.2.2.2.2.2.1)
             have HS18_ := (hb.cell (World.block_lt_of_cell? _ _ (hHeld.2.2.2.2.2.2.2.2.2.2.2.2.2.2.2.2.2.2.1))).trans (hHeld.2.2.2.2.2.2.2.2.2.2.2.2.2.2.2.2.2.2.1)
             have HS19_ := (hb.cell (World.block_lt_of_cell? _ _ (hHeld.2.2.2.2.2.2.2.2.2.2.2.2.2.2.2.2.2.2.2))).trans (hHeld.2.2.2.2.2.2.2.2.2.2.2.2.2.2.2.2.2.2.2)
             refine ⟨_, rfl, ?_⟩
             have n0_ := zqi (Kd.V_below (by (with_reducible repeat (first | apply Kd.V_alloc | apply Kd.V_drewN | apply Kd.V_drew)); exact HO_0.out) hb)
             have n1_ := zqi (Kd.N_below (by (with_reducible repeat (first | apply Kd.N_alloc | apply Kd.N_drewN | apply Kd.N_drew)); exact HO_3.out) hb)
             have n2_ := zqi (Kd.V_below (by (with_reducible repeat (first | apply Kd.V_alloc | apply Kd.V_drewN | apply Kd.V_drew)); exact HL139_9.out) hb)
             have n3_ := zqi (Kd.V_below (by (with_reducible repeat (first | apply Kd.V_alloc | apply Kd.V_drewN | apply Kd.V_drew)); exact HL140_9.out) hb)
             have n4_ := zqi (Kd.C_below (by repeat (first | (with_reducible exact HR139_9.out) | (with_reducible refine Kd.C_alloc ?_ _) | (with_reducible refine Kd.C_drewN ?_ _) | (with_reducible refine Kd.C_drew ?_) | exact HR139_9.out)) hb)
             have n5_ := zqi (Kd.C_below (by repeat (first | (with_reducible exact HR140_9.out) | (with_reducible refine Kd.C_alloc ?_ _) | (with_reducible refine Kd.C_drewN ?_ _) | (with_reducible refine Kd.C_drew ?_) | exact HR140_9.out)) hb)
             have n6_ := zqi (below_step (zqn HB.out) hb)
             clear HO_0
             clear HO_3
             clear HL139_9
             clear HL140_9
             clear HR139_9
             clear HR140_9
             clear HB
             have HO_0 := n0_
             have HO_3 := n1_
             have HL139_9 := n2_
             have HL140_9 := n3_
             have HR139_9 := n4_
             have HR140_9 := n5_
             have HB := n6_
             clear n0_ n1_ n2_ n3_ n4_ n5_ n6_
             (try clear hb)
             (try clear hb2)
             (try clear hk)
             (try clear hi)
             refine hK.out _ _ ⟨HS0_, HS1_, HS2_, HS3_, HS4_, HS5_, HS6_, HS7_, HS8_, HS9_, HS10_, HS11_, HS12_, HS13_, HS14_, HS15_, HS16_, HS17_, HS18_, HS19_⟩ (fun hHeld => ?_)
             clear hK K
             refine norm_ (a' := ?_) ?_ ?_
             rotate_left
             ·
              show Act.put _ (some 29) _ = _
              simp only [Act.put, List.setIfInBounds_toArray, List.set_cons_zero, List.set_cons_succ, i64_w, i32_w]
              rfl
             refine zqp 9 (some 7) (zqB 10 1023) (any_of HT_.out (by kernel_rfl)) (h := ?_)
             refine done_ (done_of HT_.out (by kernel_rfl)) ?_
             try go_wp2
             have n0_ := zqi (Kd.V_drew HO_0.out)
             have n1_ := zqi (Kd.N_drew HO_3.out)
             have n2_ := zqi (Kd.V_drew HL139_9.out)
             have n3_ := zqi (Kd.V_drew HL140_9.out)
             have n4_ := zqi (Kd.C_drew HR139_9.out)
             have n5_ := zqi (Kd.C_drew HR140_9.out)
             have n6_ := zqi (zqh HB.out)
             clear HO_0
             clear HO_3
             clear HL139_9
             clear HL140_9
             clear HR139_9
             clear HR140_9
             clear HB
             have HO_0 := n0_
             have HO_3 := n1_
             have HL139_9 := n2_
             have HL140_9 := n3_
             have HR139_9 := n4_
             have HR140_9 := n5_
             have HB := n6_
             clear n0_ n1_ n2_ n3_ n4_ n5_ n6_
             have p142 : 0 ≤ (x4_1 : Int) := of_decide_eq_true (by first | (with_reducible assumption) | assumption)
             have q142 : x4_1 < (l0.length : Int) := of_decide_eq_true (by first | (with_reducible assumption) | assumption)
             obtain ⟨ad142, A142_9, c142_9, e142, hx142_0, hx142_1, hx142_2, hx142_3, hx142_4, hx142_5, hx142_6, hx142_7, hx142_8, hx142_9, hl142_9, hi142_9⟩ := at_T37 (Kd.V_reads' HO_0.out).2.2 x4_1 p142 q142
             obtain rfl : ad139 = ad142 := (by injection e142)
             obtain ⟨ce142, hce142, hMe142, hcc142⟩ := Kd.V_get HO_0.out z37 x4_1 p142 (by first | exact q142 | exact of_decide_eq_true (by first | (with_reducible assumption) | assumption) | (have e_ := (Kd.V_reads' HO_0.out).1; omega))
             obtain ⟨ua142_9, uc142_9, rfl, ul142_9, ge142_9⟩ := k37_openF hMe142
             have hv142_9 := hcc142 9 _ rfl
             rw [add_field _ _ 9 (by omega)] at hv142_9
             replace hv142_9 := Option.some.inj (hv142_9.symm.trans hx142_9)
             injection hv142_9 with hva_ hvn_ hvc_
             rw [hva_] at ge142_9
             rw [hvc_] at ul142_9
             have HL142_9 := zqi (show Kd.V (Kd.int .i64) 3 _ w.heap.size _ _ ((rd_T37 l0 x4_1).f2) from Kd.V_mk ul142_9 ge142_9)
             clear hva_ hvn_ hvc_ ge142_9 ul142_9
             clear hcc142 hce142
             have HR142_9 := zqi hi142_9
             have HC142_9 := zqi hl142_9
             clear hi142_9 hl142_9
             replace p142 := eq_true p142
             replace q142 := eq_true q142
             have p143 : 0 ≤ (x6_2 : Int) := of_decide_eq_true (by first | (with_reducible assumption) | assumption)
             have q143 : x6_2 < (l0.length : Int) := of_decide_eq_true (by first | (with_reducible assumption) | assumption)
             obtain ⟨ad143, A143_9, c143_9, e143, hx143_0, hx143_1, hx143_2, hx143_3, hx143_4, hx143_5, hx143_6, hx143_7, hx143_8, hx143_9, hl143_9, hi143_9⟩ := at_T37 (Kd.V_reads' HO_0.out).2.2 x6_2 p143 q143
             obtain rfl : ad139 = ad143 := (by injection e143)
             obtain ⟨ce143, hce143, hMe143, hcc143⟩ := Kd.V_get HO_0.out z37 x6_2 p143 (by first | exact q143 | exact of_decide_eq_true (by first | (with_reducible assumption) | assumption) | (have e_ := (Kd.V_reads' HO_0.out).1; omega))
             obtain ⟨ua143_9, uc143_9, rfl, ul143_9, ge143_9⟩ := k37_openF hMe143
             have hv143_9 := hcc143 9 _ rfl
             rw [add_field _ _ 9 (by omega)] at hv143_9
             replace hv143_9 := Option.some.inj (hv143_9.symm.trans hx143_9)
             injection hv143_9 with hva_ hvn_ hvc_
             rw [hva_] at ge143_9
             rw [hvc_] at ul143_9
             have HL143_9 := zqi (show Kd.V (Kd.int .i64) 3 _ w.heap.size _ _ ((rd_T37 l0 x6_2).f2) from Kd.V_mk ul143_9 ge143_9)
             clear hva_ hvn_ hvc_ ge143_9 ul143_9
             clear hcc143 hce143
             have HR143_9 := zqi hi143_9
             have HC143_9 := zqi hl143_9
             clear hi143_9 hl143_9
             replace p143 := eq_true p143
             replace q143 := eq_true q143
             refine start_ (n := 10) (S := fun w' => w'.cell? (ad139.add ((x4_1).toNat * 10)) = some (.int .i64 ((rd_T37 l0 x4_1).f0.f0)) ∧ w'.cell? ⟨(ad139.add ((x4_1).toNat * 10)).block, (ad139.add ((x4_1).toNat * 10)).off + 1, none⟩ = some (.int .i64 ((rd_T37 l0 x4_1).f0.f1)) ∧ w'.cell? ⟨(ad139.add ((x4_1).toNat * 10)).block, (ad139.add ((x4_1).toNat * 10)).off + 2, none⟩ = some (.int .i64 ((rd_T37 l0 x4_1).f0.f2)) ∧ w'.cell? ⟨(ad139.add ((x4_1).toNat * 10)).block, (ad139.add ((x4_1).toNat * 10)).off + 3, none⟩ = some (.int .i64 ((rd_T37 l0 x4_1).f0.f3)) ∧ w'.cell? ⟨(ad139.add ((x4_1).toNat * 10)).block, (ad139.add ((x4_1).toNat * 10)).off + 4, none⟩ = some (.int .i64 ((rd_T37 l0 x4_1).f0.f4)) ∧ w'.cell? ⟨(ad139.add ((x4_1).toNat * 10)).block, (ad139.add ((x4_1).toNat * 10)).off + 5, none⟩ = some (.int .u64 ((rd_T37 l0 x4_1).f0.f5)) ∧ w'.cell? ⟨(ad139.add ((x4_1).toNat * 10)).block, (ad139.add ((x4_1).toNat * 10)).off + 6, none⟩ = some (.int .u64 ((rd_T37 l0 x4_1).f0.f6)) ∧ w'.cell? ⟨(ad139.add ((x4_1).toNat * 10)).block, (ad139.add ((x4_1).toNat * 10)).off + 7, none⟩ = some (.int .u64 ((rd_T37 l0 x4_1).f0.f7)) ∧ w'.cell? ⟨(ad139.add ((x4_1).toNat * 10)).block, (ad139.add ((x4_1).toNat * 10)).off + 8, none⟩ = some (.int .i64 ((rd_T37 l0 x4_1).f1)) ∧ w'.cell? ⟨(ad139.add ((x4_1).toNat * 10)).block, (ad139.add ((x4_1).toNat * 10)).off + 9, none⟩ = some (.slice A142_9 ((rd_T37 l0 x4_1).f2).length c142_9) ∧ w'.cell? (ad139.add ((x6_2).toNat * 10)) = some (.int .i64 ((rd_T37 l0 x6_2).f0.f0)) ∧ w'.cell? ⟨(ad139.add ((x6_2).toNat * 10)).block, (ad139.add ((x6_2).toNat * 10)).off + 1, none⟩ = some (.int .i64 ((rd_T37 l0 x6_2).f0.f1)) ∧ w'.cell? ⟨(ad139.add ((x6_2).toNat * 10)).block, (ad139.add ((x6_2).toNat * 10)).off + 2, none⟩ = some (.int .i64 ((rd_T37 l0 x6_2).f0.f2)) ∧ w'.cell? ⟨(ad139.add ((x6_2).toNat * 10)).block, (ad139.add ((x6_2).toNat * 10)).off + 3, none⟩ = some (.int .i64 ((rd_T37 l0 x6_2).f0.f3)) ∧ w'.cell? ⟨(ad139.add ((x6_2).toNat * 10)).block, (ad139.add ((x6_2).toNat * 10)).off + 4, none⟩ = some (.int .i64 ((rd_T37 l0 x6_2).f0.f4)) ∧ w'.cell? ⟨(ad139.add ((x6_2).toNat * 10)).block, (ad139.add ((x6_2).toNat * 10)).off + 5, none⟩ = some (.int .u64 ((rd_T37 l0 x6_2).f0.f5)) ∧ w'.cell? ⟨(ad139.add ((x6_2).toNat * 10)).block, (ad139.add ((x6_2).toNat * 10)).off + 6, none⟩ = some (.int .u64 ((rd_T37 l0 x6_2).f0.f6)) ∧ w'.cell? ⟨(ad139.add ((x6_2).toNat * 10)).block, (ad139.add ((x6_2).toNat * 10)).off + 7, none⟩ = some (.int .u64 ((rd_T37 l0 x6_2).f0.f7)) ∧ w'.cell? ⟨(ad139.add ((x6_2).toNat * 10)).block, (ad139.add ((x6_2).toNat * 10)).off + 8, none⟩ = some (.int .i64 ((rd_T37 l0 x6_2).f1)) ∧ w'.cell? ⟨(ad139.add ((x6_2).toNat * 10)).block, (ad139.add ((x6_2).toNat * 10)).off + 9, none⟩ = some (.slice A143_9 ((rd_T37 l0 x6_2).f2).length c143_9)) (ds := []) (zqB 10 0) (by kernel_rfl) rfl rfl ⟨hx142_0, hx142_1, hx142_2, hx142_3, hx142_4, hx142_5, hx142_6, hx142_7, hx142_8, hx142_9, hx143_0, hx143_1, hx143_2, hx143_3, hx143_4, hx143_5, hx143_6, hx143_7, hx143_8, hx143_9⟩ (fun hHeld => ?_); refine with_tabW haulierref13_Front.tab10 haulierref13_Front.bits10 (fun HT_ HW_ => ?_)
             generalize w17.drew = w18 at HO_0 HO_3 HL139_9 HL140_9 HR139_9 HR140_9 HB HL142_9 HL143_9 HR142_9 HR143_9 hx142_0 hx142_1 hx142_2 hx142_3 hx142_4 hx142_5 hx142_6 hx142_7 hx142_8 hx142_9 hx143_0 hx143_1 hx143_2 hx143_3 hx143_4 hx143_5 hx143_6 hx143_7 hx143_8 hx143_9 hHeld ⊢
             refine zqp 0 (some 30) (zqB 10 1) (any_of HT_.out (by kernel_rfl)) (h := ?_)
             refine zqp 1 (some 31) (zqB 10 3) (any_of HT_.out (by kernel_rfl)) (h := ?_)
             refine zqp 2 (some 32) (zqB 10 7) (any_of HT_.out (by kernel_rfl)) (h := ?_)
             refine zqp 4 (some 34) (zqB 10 23) (any_of HT_.out (by kernel_rfl)) (h := ?_)
             refine zqp 5 (some 35) (zqB 10 55) (any_of HT_.out (by kernel_rfl)) (h := ?_)
             refine zqp 6 (some 36) (zqB 10 119) (any_of HT_.out (by kernel_rfl)) (h := ?_)
             refine zqt 3 (some 33) (zqB 10 127) (take_ofW HT_.out HW_.out (by kernel_rfl)) hHeld (h := ?_)
             refine zqt 7 (some 37) (zqB 10 255) (take_ofW HT_.out HW_.out (by kernel_rfl)) hHeld (h := ?_)
             refine one_ (i := 8) (N := some 38) (zqB 10 511) rfl rfl (one_of HT_.out (by kernel_rfl)) (by decide) (fun K hK => ?_)
             refine goes_ Try.func22 (by kernel_rfl) rfl #[.agg #[.int .i64 ((rd_T37 l0 x4_1).f0.f0), .int .i64 ((rd_T37 l0 x4_1).f0.f1), .int .i64 ((rd_T37 l0 x4_1).f0.f2), .int .i64 ((rd_T37 l0 x4_1).f0.f3), .int .i64 ((rd_T37 l0 x4_1).f0.f4), .int .u64 ((rd_T37 l0 x4_1).f0.f5), .int .u64 ((rd_T37 l0 x4_1).f0.f6), .int .u64 ((rd_T37 l0 x4_1).f0.f7), .int .i64 ((rd_T37 l0 x4_1).f1), .slice A142_9 ((rd_T37 l0 x4_1).f2).length c142_9], .agg #[.int .i64 ((rd_T37 l0 x6_2).f0.f0), .int .i64 ((rd_T37 l0 x6_2).f0.f1), .int .i64 ((rd_T37 l0 x6_2).f0.f2), .int .i64 ((rd_T37 l0 x6_2).f0.f3), .int .i64 ((rd_T37 l0 x6_2).f0.f4), .int .u64 ((rd_T37 l0 x6_2).f0.f5), .int .u64 ((rd_T37 l0 x6_2).f0.f6), .int .u64 ((rd_T37 l0 x6_2).f0.f7), .int .i64 ((rd_T37 l0 x6_2).f1), .slice A143_9 ((rd_T37 l0 x6_2).f2).length c143_9]] (by rfl) rfl rfl (by (try simp only [List.map_toArray, List.map_cons, List.map_nil]); first | done | rfl | (simp only [List.length_drop, List.length_take]; rfl)) ?_
             with_reducible refine (haulierref13_Than.calls k2 ((rd_T37 l0 x4_1).f0.f0) ((rd_T37 l0 x4_1).f0.f1) ((rd_T37 l0 x4_1).f0.f2) ((rd_T37 l0 x4_1).f0.f3) ((rd_T37 l0 x4_1).f0.f4) ((rd_T37 l0 x4_1).f0.f5) ((rd_T37 l0 x4_1).f0.f6) ((rd_T37 l0 x4_1).f0.f7) ((rd_T37 l0 x4_1).f1) _ _ ((rd_T37 l0 x4_1).f2) ((rd_T37 l0 x6_2).f0.f0) ((rd_T37 l0 x6_2).f0.f1) ((rd_T37 l0 x6_2).f0.f2) ((rd_T37 l0 x6_2).f0.f3) ((rd_T37 l0 x6_2).f0.f4) ((rd_T37 l0 x6_2).f0.f5) ((rd_T37 l0 x6_2).f0.f6) ((rd_T37 l0 x6_2).f0.f7) ((rd_T37 l0 x6_2).f1) _ _ ((rd_T37 l0 x6_2).f2) t144 _ ?side1 ?side2 ?side3 ?side4 A8.out).mono ?_
             (case side1 => repeat (first | exact (by repeat (first | (with_reducible exact HR142_9.out) | (with_reducible refine Kd.C_alloc ?_ _) | (with_reducible refine Kd.C_drewN ?_ _) | (with_reducible refine Kd.C_drew ?_) | exact HR142_9.out)) | (with_reducible refine Kd.C_alloc ?_ _) | (with_reducible refine Kd.C_drewN ?_ _) | (with_reducible refine Kd.C_drew ?_)))
             (case side2 => exact HC142_9.out)
             (case side3 => repeat (first | exact (by repeat (first | (with_reducible exact HR143_9.out) | (with_reducible refine Kd.C_alloc ?_ _) | (with_reducible refine Kd.C_drewN ?_ _) | (with_reducible refine Kd.C_drew ?_) | exact HR143_9.out)) | (with_reducible refine Kd.C_alloc ?_ _) | (with_reducible refine Kd.C_drewN ?_ _) | (with_reducible refine Kd.C_drew ?_)))
             (case side4 => exact HC143_9.out)
             rintro e w19 ⟨rfl, hb⟩
             have HS0_ := (hb.cell (World.block_lt_of_cell? _ _ (hHeld.1))).trans (hHeld.1)
             have HS1_ := (hb.cell (World.block_lt_of_cell? _ _ (hHeld.2.1))).trans (hHeld.2.1)
             have HS2_ := (hb.cell (World.block_lt_of_cell? _ _ (hHeld.2.2.1))).trans (hHeld.2.2.1)
             have HS3_ := (hb.cell (World.block_lt_of_cell? _ _ (hHeld.2.2.2.1))).trans (hHeld.2.2.2.1)
             have HS4_ := (hb.cell (World.block_lt_of_cell? _ _ (hHeld.2.2.2.2.1))).trans (hHeld.2.2.2.2.1)
             have HS5_ := (hb.cell (World.block_lt_of_cell? _ _ (hHeld.2.2.2.2.2.1))).trans (hHeld.2.2.2.2.2.1)
             have HS6_ := (hb.cell (World.block_lt_of_cell? _ _ (hHeld.2.2.2.2.2.2.1))).trans (hHeld.2.2.2.2.2.2.1)
             have HS7_ := (hb.cell (World.block_lt_of_cell? _ _ (hHeld.2.2.2.2.2.2.2.1))).trans (hHeld.2.2.2.2.2.2.2.1)
             have HS8_ := (hb.cell (World.block_lt_of_cell? _ _ (hHeld.2.2.2.2.2.2.2.2.1))).trans (hHeld.2.2.2.2.2.2.2.2.1)
             have HS9_ := (hb.cell (World.block_lt_of_cell? _ _ (hHeld.2.2.2.2.2.2.2.2.2.1))).trans (hHeld.2.2.2.2.2.2.2.2.2.1)
             have HS10_ := (hb.cell (World.block_lt_of_cell? _ _ (hHeld.2.2.2.2.2.2.2.2.2.2.1))).trans (hHeld.2.2.2.2.2.2.2.2.2.2.1)
             have HS11_ := (hb.cell (World.block_lt_of_cell? _ _ (hHeld.2.2.2.2.2.2.2.2.2.2.2.1))).trans (hHeld.2.2.2.2.2.2.2.2.2.2.2.1)
             have HS12_ := (hb.cell (World.block_lt_of_cell? _ _ (hHeld.2.2.2.2.2.2.2.2.2.2.2.2.1))).trans (hHeld.2.2.2.2.2.2.2.2.2.2.2.2.1)
             have HS13_ := (hb.cell (World.block_lt_of_cell? _ _ (hHeld.2.2.2.2.2.2.2.2.2.2.2.2.2.1))).trans (hHeld.2.2.2.2.2.2.2.2.2.2.2.2.2.1)
             have HS14_ := (hb.cell (World.block_lt_of_cell? _ _ (hHeld.2.2.2.2.2.2.2.2.2.2.2.2.2.2.1))).trans (hHeld.2.2.2.2.2.2.2.2.2.2.2.2.2.2.1)
             have HS15_ := (hb.cell (World.block_lt_of_cell? _ _ (hHeld.2.2.2.2.2.2.2.2.2.2.2.2.2.2.2.1))).trans (hHeld.2.2.2.2.2.2.2.2.2.2.2.2.2.2.2.1)
             have HS16_ := (hb.cell (World.block_lt_of_cell? _ _ (hHeld.2.2.2.2.2.2.2.2.2.2.2.2.2.2.2.2.1))).trans (hHeld.2.2.2.2.2.2.2.2.2.2.2.2.2.2.2.2.1)
             have HS17_ := (hb.cell (World.block_lt_of_cell? _ _ (hHeld.2.2.2.2.2.2.2.2.2.2.2.2.2.2.2.2.2.1))).trans (hHeld.2.2.2.2.2.2.2.2.2.2.2.2.2.2.2.2.2.1)
             have HS18_ := (hb.cell (World.block_lt_of_cell? _ _ (hHeld.2.2.2.2.2.2.2.2.2.2.2.2.2.2.2.2.2.2.1))).trans (hHeld.2.2.2.2.2.2.2.2.2.2.2.2.2.2.2.2.2.2.1)
             have HS19_ := (hb.cell (World.block_lt_of_cell? _ _ (hHeld.2.2.2.2.2.2.2.2.2.2.2.2.2.2.2.2.2.2.2))).trans (hHeld.2.2.2.2.2.2.2.2.2.2.2.2.2.2.2.2.2.2.2)
             refine ⟨_, rfl, ?_⟩
             have n0_ := zqi (Kd.V_below (by (with_reducible repeat (first | apply Kd.V_alloc | apply Kd.V_drewN | apply Kd.V_drew)); exact HO_0.out) hb)
             have n1_ := zqi (Kd.N_below (by (with_reducible repeat (first | apply Kd.N_alloc | apply Kd.N_drewN | apply Kd.N_drew)); exact HO_3.out) hb)
             have n2_ := zqi (Kd.V_below (by (with_reducible repeat (first | apply Kd.V_alloc | apply Kd.V_drewN | apply Kd.V_drew)); exact HL139_9.out) hb)
             have n3_ := zqi (Kd.V_below (by (with_reducible repeat (first | apply Kd.V_alloc | apply Kd.V_drewN | apply Kd.V_drew)); exact HL140_9.out) hb)
             have n4_ := zqi (Kd.V_below (by (with_reducible repeat (first | apply Kd.V_alloc | apply Kd.V_drewN | apply Kd.V_drew)); exact HL142_9.out) hb)
             have n5_ := zqi (Kd.V_below (by (with_reducible repeat (first | apply Kd.V_alloc | apply Kd.V_drewN | apply Kd.V_drew)); exact HL143_9.out) hb)
             have n6_ := zqi (Kd.C_below (by repeat (first | (with_reducible exact HR139_9.out) | (with_reducible refine Kd.C_alloc ?_ _) | (with_reducible refine Kd.C_drewN ?_ _) | (with_reducible refine Kd.C_drew ?_) | exact HR139_9.out)) hb)
             have n7_ := zqi (Kd.C_below (by repeat (first | (with_reducible exact HR140_9.out) | (with_reducible refine Kd.C_alloc ?_ _) | (with_reducible refine Kd.C_drewN ?_ _) | (with_reducible refine Kd.C_drew ?_) | exact HR140_9.out)) hb)
             have n8_ := zqi (Kd.C_below (by repeat (first | (with_reducible exact HR142_9.out) | (with_reducible refine Kd.C_alloc ?_ _) | (with_reducible refine Kd.C_drewN ?_ _) | (with_reducible refine Kd.C_drew ?_) | exact HR142_9.out)) hb)
             have n9_ := zqi (Kd.C_below (by repeat (first | (with_reducible exact HR143_9.out) | (with_reducible refine Kd.C_alloc ?_ _) | (with_reducible refine Kd.C_drewN ?_ _) | (with_reducible refine Kd.C_drew ?_) | exact HR143_9.out)) hb)
             have n10_ := zqi (below_step (zqn HB.out) hb)
             clear HO_0
             clear HO_3
             clear HL139_9
             clear HL140_9
             clear HL142_9
             clear HL143_9
             clear HR139_9
             clear HR140_9
             clear HR142_9
             clear HR143_9
             clear HB
             have HO_0 := n0_
             have HO_3 := n1_
             have HL139_9 := n2_
             have HL140_9 := n3_
             have HL142_9 := n4_
             have HL143_9 := n5_
             have HR139_9 := n6_
             have HR140_9 := n7_
             have HR142_9 := n8_
             have HR143_9 := n9_
             have HB := n10_
             clear n0_ n1_ n2_ n3_ n4_ n5_ n6_ n7_ n8_ n9_ n10_
             (try clear hb)
             (try clear hb2)
             (try clear hk)
             (try clear hi)
             refine hK.out _ _ ⟨HS0_, HS1_, HS2_, HS3_, HS4_, HS5_, HS6_, HS7_, HS8_, HS9_, HS10_, HS11_, HS12_, HS13_, HS14_, HS15_, HS16_, HS17_, HS18_, HS19_⟩ (fun hHeld => ?_)
             clear hK K
             refine norm_ (a' := ?_) ?_ ?_
             rotate_left
             ·
              show Act.put _ (some 38) _ = _
              simp only [Act.put, List.setIfInBounds_toArray, List.set_cons_zero, List.set_cons_succ, i64_w, i32_w]
              rfl
             refine zqp 9 (some 8) (zqB 10 1023) (any_of HT_.out (by kernel_rfl)) (h := ?_)
             refine done_ (done_of HT_.out (by kernel_rfl)) ?_
             try go_wp2
             go_roundg k2
             case measure => have := HK1.out; have := HK2.out; omega
             case rel => exact ⟨(false), (wrap64 (x6_2 + 1)), (by first | rfl | (simp; done) | (simp [*]; done)), (by first | rfl | (simp; done) | (simp [*]; done)), H', ⟨by have := HK1.out; have := HK2.out; omega⟩, ⟨by (with_reducible repeat (first | apply Kd.V_alloc | apply Kd.V_drewN | apply Kd.V_drew)); exact HO_0.out⟩, ⟨by (with_reducible repeat (first | apply Kd.N_alloc | apply Kd.N_drewN | apply Kd.N_drew)); exact HO_3.out⟩, ⟨by repeat (first | (with_reducible first | exact HB.out | apply zqg | apply zqf | apply zqh) | exact HB.out)⟩⟩
            ·
             rw [if_neg c15] at H
             have c15b0 : decide (x6_2 < x4_1) = false := decide_eq_false c15
             clear c15
             by_cases c20 : t144 = true
             ·
              subst c20
              have H1 : (haulierref13_Front.l1 k2 l0 x3_1 x4_1 x5_2 (wrap64 (x6_2 + 1))) = some r := by rw [if_pos rfl] at H; exact H
              clear H
              have H := H1
              clear H1
              have H' := zqi H
              clear H
              try go_wp2
              have n0_ := zqi (Kd.V_drew HO_0.out)
              have n1_ := zqi (Kd.N_drew HO_3.out)
              have n2_ := zqi (zqh HB.out)
              clear HO_0
              clear HO_3
              clear HB
              have HO_0 := n0_
              have HO_3 := n1_
              have HB := n2_
              clear n0_ n1_ n2_
              have p139 : 0 ≤ (x6_2 : Int) := of_decide_eq_true (by first | (with_reducible assumption) | assumption)
              have q139 : x6_2 < (l0.length : Int) := of_decide_eq_true (by first | (with_reducible assumption) | assumption)
              obtain ⟨ad139, A139_9, c139_9, e139, hx139_0, hx139_1, hx139_2, hx139_3, hx139_4, hx139_5, hx139_6, hx139_7, hx139_8, hx139_9, hl139_9, hi139_9⟩ := at_T37 (Kd.V_reads' HO_0.out).2.2 x6_2 p139 q139
              cases e139
              obtain ⟨ce139, hce139, hMe139, hcc139⟩ := Kd.V_get HO_0.out z37 x6_2 p139 (by first | exact q139 | exact of_decide_eq_true (by first | (with_reducible assumption) | assumption) | (have e_ := (Kd.V_reads' HO_0.out).1; omega))
              obtain ⟨ua139_9, uc139_9, rfl, ul139_9, ge139_9⟩ := k37_openF hMe139
              have hv139_9 := hcc139 9 _ rfl
              rw [add_field _ _ 9 (by omega)] at hv139_9
              replace hv139_9 := Option.some.inj (hv139_9.symm.trans hx139_9)
              injection hv139_9 with hva_ hvn_ hvc_
              rw [hva_] at ge139_9
              rw [hvc_] at ul139_9
              have HL139_9 := zqi (show Kd.V (Kd.int .i64) 3 _ w.heap.size _ _ ((rd_T37 l0 x6_2).f2) from Kd.V_mk ul139_9 ge139_9)
              clear hva_ hvn_ hvc_ ge139_9 ul139_9
              clear hcc139 hce139
              have HR139_9 := zqi hi139_9
              have HC139_9 := zqi hl139_9
              clear hi139_9 hl139_9
              replace p139 := eq_true p139
              replace q139 := eq_true q139
              have p140 : 0 ≤ (x4_1 : Int) := of_decide_eq_true (by first | (with_reducible assumption) | assumption)
              have q140 : x4_1 < (l0.length : Int) := of_decide_eq_true (by first | (with_reducible assumption) | assumption)
              obtain ⟨ad140, A140_9, c140_9, e140, hx140_0, hx140_1, hx140_2, hx140_3, hx140_4, hx140_5, hx140_6, hx140_7, hx140_8, hx140_9, hl140_9, hi140_9⟩ := at_T37 (Kd.V_reads' HO_0.out).2.2 x4_1 p140 q140
              obtain rfl : ad139 = ad140 := (by injection e140)
              obtain ⟨ce140, hce140, hMe140, hcc140⟩ := Kd.V_get HO_0.out z37 x4_1 p140 (by first | exact q140 | exact of_decide_eq_true (by first | (with_reducible assumption) | assumption) | (have e_ := (Kd.V_reads' HO_0.out).1; omega))
              obtain ⟨ua140_9, uc140_9, rfl, ul140_9, ge140_9⟩ := k37_openF hMe140
              have hv140_9 := hcc140 9 _ rfl
              rw [add_field _ _ 9 (by omega)] at hv140_9
              replace hv140_9 := Option.some.inj (hv140_9.symm.trans hx140_9)
              injection hv140_9 with hva_ hvn_ hvc_
              rw [hva_] at ge140_9
              rw [hvc_] at ul140_9
              have HL140_9 := zqi (show Kd.V (Kd.int .i64) 3 _ w.heap.size _ _ ((rd_T37 l0 x4_1).f2) from Kd.V_mk ul140_9 ge140_9)
              clear hva_ hvn_ hvc_ ge140_9 ul140_9
              clear hcc140 hce140
              have HR140_9 := zqi hi140_9
              have HC140_9 := zqi hl140_9
              clear hi140_9 hl140_9
              replace p140 := eq_true p140
              replace q140 := eq_true q140
              refine start_ (n := 10) (S := fun w' => w'.cell? (ad139.add ((x6_2).toNat * 10)) = some (.int .i64 ((rd_T37 l0 x6_2).f0.f0)) ∧ w'.cell? ⟨(ad139.add ((x6_2).toNat * 10)).block, (ad139.add ((x6_2).toNat * 10)).off + 1, none⟩ = some (.int .i64 ((rd_T37 l0 x6_2).f0.f1)) ∧ w'.cell? ⟨(ad139.add ((x6_2).toNat * 10)).block, (ad139.add ((x6_2).toNat * 10)).off + 2, none⟩ = some (.int .i64 ((rd_T37 l0 x6_2).f0.f2)) ∧ w'.cell? ⟨(ad139.add ((x6_2).toNat * 10)).block, (ad139.add ((x6_2).toNat * 10)).off + 3, none⟩ = some (.int .i64 ((rd_T37 l0 x6_2).f0.f3)) ∧ w'.cell? ⟨(ad139.add ((x6_2).toNat * 10)).block, (ad139.add ((x6_2).toNat * 10)).off + 4, none⟩ = some (.int .i64 ((rd_T37 l0 x6_2).f0.f4)) ∧ w'.cell? ⟨(ad139.add ((x6_2).toNat * 10)).block, (ad139.add ((x6_2).toNat * 10)).off + 5, none⟩ = some (.int .u64 ((rd_T37 l0 x6_2).f0.f5)) ∧ w'.cell? ⟨(ad139.add ((x6_2).toNat * 10)).block, (ad139.add ((x6_2).toNat * 10)).off + 6, none⟩ = some (.int .u64 ((rd_T37 l0 x6_2).f0.f6)) ∧ w'.cell? ⟨(ad139.add ((x6_2).toNat * 10)).block, (ad139.add ((x6_2).toNat * 10)).off + 7, none⟩ = some (.int .u64 ((rd_T37 l0 x6_2).f0.f7)) ∧ w'.cell? ⟨(ad139.add ((x6_2).toNat * 10)).block, (ad139.add ((x6_2).toNat * 10)).off + 8, none⟩ = some (.int .i64 ((rd_T37 l0 x6_2).f1)) ∧ w'.cell? ⟨(ad139.add ((x6_2).toNat * 10)).block, (ad139.add ((x6_2).toNat * 10)).off + 9, none⟩ = some (.slice A139_9 ((rd_T37 l0 x6_2).f2).length c139_9) ∧ w'.cell? (ad139.add ((x4_1).toNat * 10)) = some (.int .i64 ((rd_T37 l0 x4_1).f0.f0)) ∧ w'.cell? ⟨(ad139.add ((x4_1).toNat * 10)).block, (ad139.add ((x4_1).toNat * 10)).off + 1, none⟩ = some (.int .i64 ((rd_T37 l0 x4_1).f0.f1)) ∧ w'.cell? ⟨(ad139.add ((x4_1).toNat * 10)).block, (ad139.add ((x4_1).toNat * 10)).off + 2, none⟩ = some (.int .i64 ((rd_T37 l0 x4_1).f0.f2)) ∧ w'.cell? ⟨(ad139.add ((x4_1).toNat * 10)).block, (ad139.add ((x4_1).toNat * 10)).off + 3, none⟩ = some (.int .i64 ((rd_T37 l0 x4_1).f0.f3)) ∧ w'.cell? ⟨(ad139.add ((x4_1).toNat * 10)).block, (ad139.add ((x4_1).toNat * 10)).off + 4, none⟩ = some (.int .i64 ((rd_T37 l0 x4_1).f0.f4)) ∧ w'.cell? ⟨(ad139.add ((x4_1).toNat * 10)).block, (ad139.add ((x4_1).toNat * 10)).off + 5, none⟩ = some (.int .u64 ((rd_T37 l0 x4_1).f0.f5)) ∧ w'.cell? ⟨(ad139.add ((x4_1).toNat * 10)).block, (ad139.add ((x4_1).toNat * 10)).off + 6, none⟩ = some (.int .u64 ((rd_T37 l0 x4_1).f0.f6)) ∧ w'.cell? ⟨(ad139.add ((x4_1).toNat * 10)).block, (ad139.add ((x4_1).toNat * 10)).off + 7, none⟩ = some (.int .u64 ((rd_T37 l0 x4_1).f0.f7)) ∧ w'.cell? ⟨(ad139.add ((x4_1).toNat * 10)).block, (ad139.add ((x4_1).toNat * 10)).off + 8, none⟩ = some (.int .i64 ((rd_T37 l0 x4_1).f1)) ∧ w'.cell? ⟨(ad139.add ((x4_1).toNat * 10)).block, (ad139.add ((x4_1).toNat * 10)).off + 9, none⟩ = some (.slice A140_9 ((rd_T37 l0 x4_1).f2).length c140_9)) (ds := []) (zqB 10 0) (by kernel_rfl) rfl rfl ⟨hx139_0, hx139_1, hx139_2, hx139_3, hx139_4, hx139_5, hx139_6, hx139_7, hx139_8, hx139_9, hx140_0, hx140_1, hx140_2, hx140_3, hx140_4, hx140_5, hx140_6, hx140_7, hx140_8, hx140_9⟩ (fun hHeld => ?_); refine with_tabW haulierref13_Front.tab9 haulierref13_Front.bits9 (fun HT_ HW_ => ?_)
              generalize wr.drew = w21 at HO_0 HO_3 HB HL139_9 HL140_9 HR139_9 HR140_9 hx139_0 hx139_1 hx139_2 hx139_3 hx139_4 hx139_5 hx139_6 hx139_7 hx139_8 hx139_9 hx140_0 hx140_1 hx140_2 hx140_3 hx140_4 hx140_5 hx140_6 hx140_7 hx140_8 hx140_9 hHeld ⊢
              refine zqp 0 (some 21) (zqB 10 1) (any_of HT_.out (by kernel_rfl)) (h := ?_)
              refine zqp 1 (some 22) (zqB 10 3) (any_of HT_.out (by kernel_rfl)) (h := ?_)
              refine zqp 2 (some 23) (zqB 10 7) (any_of HT_.out (by kernel_rfl)) (h := ?_)
              refine zqp 4 (some 25) (zqB 10 23) (any_of HT_.out (by kernel_rfl)) (h := ?_)
              refine zqp 5 (some 26) (zqB 10 55) (any_of HT_.out (by kernel_rfl)) (h := ?_)
              refine zqp 6 (some 27) (zqB 10 119) (any_of HT_.out (by kernel_rfl)) (h := ?_)
              refine zqt 3 (some 24) (zqB 10 127) (take_ofW HT_.out HW_.out (by kernel_rfl)) hHeld (h := ?_)
              refine zqt 7 (some 28) (zqB 10 255) (take_ofW HT_.out HW_.out (by kernel_rfl)) hHeld (h := ?_)
              refine one_ (i := 8) (N := some 29) (zqB 10 511) rfl rfl (one_of HT_.out (by kernel_rfl)) (by decide) (fun K hK => ?_)
              refine goes_ Try.func22 (by kernel_rfl) rfl #[.agg #[.int .i64 ((rd_T37 l0 x6_2).f0.f0), .int .i64 ((rd_T37 l0 x6_2).f0.f1), .int .i64 ((rd_T37 l0 x6_2).f0.f2), .int .i64 ((rd_T37 l0 x6_2).f0.f3), .int .i64 ((rd_T37 l0 x6_2).f0.f4), .int .u64 ((rd_T37 l0 x6_2).f0.f5), .int .u64 ((rd_T37 l0 x6_2).f0.f6), .int .u64 ((rd_T37 l0 x6_2).f0.f7), .int .i64 ((rd_T37 l0 x6_2).f1), .slice A139_9 ((rd_T37 l0 x6_2).f2).length c139_9], .agg #[.int .i64 ((rd_T37 l0 x4_1).f0.f0), .int .i64 ((rd_T37 l0 x4_1).f0.f1), .int .i64 ((rd_T37 l0 x4_1).f0.f2), .int .i64 ((rd_T37 l0 x4_1).f0.f3), .int .i64 ((rd_T37 l0 x4_1).f0.f4), .int .u64 ((rd_T37 l0 x4_1).f0.f5), .int .u64 ((rd_T37 l0 x4_1).f0.f6), .int .u64 ((rd_T37 l0 x4_1).f0.f7), .int .i64 ((rd_T37 l0 x4_1).f1), .slice A140_9 ((rd_T37 l0 x4_1).f2).length c140_9]] (by rfl) rfl rfl (by (try simp only [List.map_toArray, List.map_cons, List.map_nil]); first | done | rfl | (simp only [List.length_drop, List.length_take]; rfl)) ?_
              with_reducible refine (haulierref13_Than.calls k2 ((rd_T37 l0 x6_2).f0.f0) ((rd_T37 l0 x6_2).f0.f1) ((rd_T37 l0 x6_2).f0.f2) ((rd_T37 l0 x6_2).f0.f3) ((rd_T37 l0 x6_2).f0.f4) ((rd_T37 l0 x6_2).f0.f5) ((rd_T37 l0 x6_2).f0.f6) ((rd_T37 l0 x6_2).f0.f7) ((rd_T37 l0 x6_2).f1) _ _ ((rd_T37 l0 x6_2).f2) ((rd_T37 l0 x4_1).f0.f0) ((rd_T37 l0 x4_1).f0.f1) ((rd_T37 l0 x4_1).f0.f2) ((rd_T37 l0 x4_1).f0.f3) ((rd_T37 l0 x4_1).f0.f4) ((rd_T37 l0 x4_1).f0.f5) ((rd_T37 l0 x4_1).f0.f6) ((rd_T37 l0 x4_1).f0.f7) ((rd_T37 l0 x4_1).f1) _ _ ((rd_T37 l0 x4_1).f2) true _ ?side1 ?side2 ?side3 ?side4 A7.out).mono ?_
              (case side1 => repeat (first | exact (by repeat (first | (with_reducible exact HR139_9.out) | (with_reducible refine Kd.C_alloc ?_ _) | (with_reducible refine Kd.C_drewN ?_ _) | (with_reducible refine Kd.C_drew ?_) | exact HR139_9.out)) | (with_reducible refine Kd.C_alloc ?_ _) | (with_reducible refine Kd.C_drewN ?_ _) | (with_reducible refine Kd.C_drew ?_)))
              (case side2 => exact HC139_9.out)
              (case side3 => repeat (first | exact (by repeat (first | (with_reducible exact HR140_9.out) | (with_reducible refine Kd.C_alloc ?_ _) | (with_reducible refine Kd.C_drewN ?_ _) | (with_reducible refine Kd.C_drew ?_) | exact HR140_9.out)) | (with_reducible refine Kd.C_alloc ?_ _) | (with_reducible refine Kd.C_drewN ?_ _) | (with_reducible refine Kd.C_drew ?_)))
              (case side4 => exact HC140_9.out)
              rintro e w22 ⟨rfl, hb⟩
              have HS0_ := (hb.cell (World.block_lt_of_cell? _ _ (hHeld.1))).trans (hHeld.1)
              have HS1_ := (hb.cell (World.block_lt_of_cell? _ _ (hHeld.2.1))).trans (hHeld.2.1)
              have HS2_ := (hb.cell (World.block_lt_of_cell? _ _ (hHeld.2.2.1))).trans (hHeld.2.2.1)
              have HS3_ := (hb.cell (World.block_lt_of_cell? _ _ (hHeld.2.2.2.1))).trans (hHeld.2.2.2.1)
              have HS4_ := (hb.cell (World.block_lt_of_cell? _ _ (hHeld.2.2.2.2.1))).trans (hHeld.2.2.2.2.1)
              have HS5_ := (hb.cell (World.block_lt_of_cell? _ _ (hHeld.2.2.2.2.2.1))).trans (hHeld.2.2.2.2.2.1)
              have HS6_ := (hb.cell (World.block_lt_of_cell? _ _ (hHeld.2.2.2.2.2.2.1))).trans (hHeld.2.2.2.2.2.2.1)
              have HS7_ := (hb.cell (World.block_lt_of_cell? _ _ (hHeld.2.2.2.2.2.2.2.1))).trans (hHeld.2.2.2.2.2.2.2.1)
              have HS8_ := (hb.cell (World.block_lt_of_cell? _ _ (hHeld.2.2.2.2.2.2.2.2.1))).trans (hHeld.2.2.2.2.2.2.2.2.1)
              have HS9_ := (hb.cell (World.block_lt_of_cell? _ _ (hHeld.2.2.2.2.2.2.2.2.2.1))).trans (hHeld.2.2.2.2.2.2.2.2.2.1)
              have HS10_ := (hb.cell (World.block_lt_of_cell? _ _ (hHeld.2.2.2.2.2.2.2.2.2.2.1))).trans (hHeld.2.2.2.2.2.2.2.2.2.2.1)
              have HS11_ := (hb.cell (World.block_lt_of_cell? _ _ (hHeld.2.2.2.2.2.2.2.2.2.2.2.1))).trans (hHeld.2.2.2.2.2.2.2.2.2.2.2.1)
              have HS12_ := (hb.cell (World.block_lt_of_cell? _ _ (hHeld.2.2.2.2.2.2.2.2.2.2.2.2.1))).trans (hHeld.2.2.2.2.2.2.2.2.2.2.2.2.1)
              have HS13_ := (hb.cell (World.block_lt_of_cell? _ _ (hHeld.2.2.2.2.2.2.2.2.2.2.2.2.2.1))).trans (hHeld.2.2.2.2.2.2.2.2.2.2.2.2.2.1)
              have HS14_ := (hb.cell (World.block_lt_of_cell? _ _ (hHeld.2.2.2.2.2.2.2.2.2.2.2.2.2.2.1))).trans (hHeld.2.2.2.2.2.2.2.2.2.2.2.2.2.2.1)
              have HS15_ := (hb.cell (World.block_lt_of_cell? _ _ (hHeld.2.2.2.2.2.2.2.2.2.2.2.2.2.2.2.1))).trans (hHeld.2.2.2.2.2.2.2.2.2.2.2.2.2.2.2.1)
              have HS16_ := (hb.cell (World.block_lt_of_cell? _ _ (hHeld.2.2.2.2.2.2.2.2.2.2.2.2.2.2.2.2.1))).trans (hHeld.2.2.2.2.2.2.2.2.2.2.2.2.2.2.2.2.1)
              have HS17_ := (hb.cell (World.block_lt_of_cell? _ _ (hHeld.2.2.2.2.2.2.2.2.2.2.2.2.2.2.2.2.2.1))).trans (hHeld.2.2.2.2.2.2.2.2.2.2.2.2.2.2.2.2.2.1)
              have HS18_ := (hb.cell (World.block_lt_of_cell? _ _ (hHeld.2.2.2.2.2.2.2.2.2.2.2.2.2.2.2.2.2.2.1))).trans (hHeld.2.2.2.2.2.2.2.2.2.2.2.2.2.2.2.2.2.2.1)
              have HS19_ := (hb.cell (World.block_lt_of_cell? _ _ (hHeld.2.2.2.2.2.2.2.2.2.2.2.2.2.2.2.2.2.2.2))).trans (hHeld.2.2.2.2.2.2.2.2.2.2.2.2.2.2.2.2.2.2.2)
              refine ⟨_, rfl, ?_⟩
              have n0_ := zqi (Kd.V_below (by (with_reducible repeat (first | apply Kd.V_alloc | apply Kd.V_drewN | apply Kd.V_drew)); exact HO_0.out) hb)
              have n1_ := zqi (Kd.N_below (by (with_reducible repeat (first | apply Kd.N_alloc | apply Kd.N_drewN | apply Kd.N_drew)); exact HO_3.out) hb)
              have n2_ := zqi (Kd.V_below (by (with_reducible repeat (first | apply Kd.V_alloc | apply Kd.V_drewN | apply Kd.V_drew)); exact HL139_9.out) hb)
              have n3_ := zqi (Kd.V_below (by (with_reducible repeat (first | apply Kd.V_alloc | apply Kd.V_drewN | apply Kd.V_drew)); exact HL140_9.out) hb)
              have n4_ := zqi (Kd.C_below (by repeat (first | (with_reducible exact HR139_9.out) | (with_reducible refine Kd.C_alloc ?_ _) | (with_reducible refine Kd.C_drewN ?_ _) | (with_reducible refine Kd.C_drew ?_) | exact HR139_9.out)) hb)
              have n5_ := zqi (Kd.C_below (by repeat (first | (with_reducible exact HR140_9.out) | (with_reducible refine Kd.C_alloc ?_ _) | (with_reducible refine Kd.C_drewN ?_ _) | (with_reducible refine Kd.C_drew ?_) | exact HR140_9.out)) hb)
              have n6_ := zqi (below_step (zqn HB.out) hb)
              clear HO_0
              clear HO_3
              clear HL139_9
              clear HL140_9
              clear HR139_9
              clear HR140_9
              clear HB
              have HO_0 := n0_
              have HO_3 := n1_
              have HL139_9 := n2_
              have HL140_9 := n3_
              have HR139_9 := n4_
              have HR140_9 := n5_
              have HB := n6_
              clear n0_ n1_ n2_ n3_ n4_ n5_ n6_
              (try clear hb)
              (try clear hb2)
              (try clear hk)
              (try clear hi)
              refine hK.out _ _ ⟨HS0_, HS1_, HS2_, HS3_, HS4_, HS5_, HS6_, HS7_, HS8_, HS9_, HS10_, HS11_, HS12_, HS13_, HS14_, HS15_, HS16_, HS17_, HS18_, HS19_⟩ (fun hHeld => ?_)
              clear hK K
              refine norm_ (a' := ?_) ?_ ?_
              rotate_left
              ·
               show Act.put _ (some 29) _ = _
               simp only [Act.put, List.setIfInBounds_toArray, List.set_cons_zero, List.set_cons_succ, i64_w, i32_w]
               rfl
              refine zqp 9 (some 7) (zqB 10 1023) (any_of HT_.out (by kernel_rfl)) (h := ?_)
              refine done_ (done_of HT_.out (by kernel_rfl)) ?_
              try go_wp2
              have n0_ := zqi (Kd.V_drew HO_0.out)
              have n1_ := zqi (Kd.N_drew HO_3.out)
              have n2_ := zqi (Kd.V_drew HL139_9.out)
              have n3_ := zqi (Kd.V_drew HL140_9.out)
              have n4_ := zqi (Kd.C_drew HR139_9.out)
              have n5_ := zqi (Kd.C_drew HR140_9.out)
              have n6_ := zqi (zqh HB.out)
              clear HO_0
              clear HO_3
              clear HL139_9
              clear HL140_9
              clear HR139_9
              clear HR140_9
              clear HB
              have HO_0 := n0_
              have HO_3 := n1_
              have HL139_9 := n2_
              have HL140_9 := n3_
              have HR139_9 := n4_
              have HR140_9 := n5_
              have HB := n6_
              clear n0_ n1_ n2_ n3_ n4_ n5_ n6_
              have p142 : 0 ≤ (x4_1 : Int) := of_decide_eq_true (by first | (with_reducible assumption) | assumption)
              have q142 : x4_1 < (l0.length : Int) := of_decide_eq_true (by first | (with_reducible assumption) | assumption)
              obtain ⟨ad142, A142_9, c142_9, e142, hx142_0, hx142_1, hx142_2, hx142_3, hx142_4, hx142_5, hx142_6, hx142_7, hx142_8, hx142_9, hl142_9, hi142_9⟩ := at_T37 (Kd.V_reads' HO_0.out).2.2 x4_1 p142 q142
              obtain rfl : ad139 = ad142 := (by injection e142)
              obtain ⟨ce142, hce142, hMe142, hcc142⟩ := Kd.V_get HO_0.out z37 x4_1 p142 (by first | exact q142 | exact of_decide_eq_true (by first | (with_reducible assumption) | assumption) | (have e_ := (Kd.V_reads' HO_0.out).1; omega))
              obtain ⟨ua142_9, uc142_9, rfl, ul142_9, ge142_9⟩ := k37_openF hMe142
              have hv142_9 := hcc142 9 _ rfl
              rw [add_field _ _ 9 (by omega)] at hv142_9
              replace hv142_9 := Option.some.inj (hv142_9.symm.trans hx142_9)
              injection hv142_9 with hva_ hvn_ hvc_
              rw [hva_] at ge142_9
              rw [hvc_] at ul142_9
              have HL142_9 := zqi (show Kd.V (Kd.int .i64) 3 _ w.heap.size _ _ ((rd_T37 l0 x4_1).f2) from Kd.V_mk ul142_9 ge142_9)
              clear hva_ hvn_ hvc_ ge142_9 ul142_9
              clear hcc142 hce142
              have HR142_9 := zqi hi142_9
              have HC142_9 := zqi hl142_9
              clear hi142_9 hl142_9
              replace p142 := eq_true p142
              replace q142 := eq_true q142
              have p143 : 0 ≤ (x6_2 : Int) := of_decide_eq_true (by first | (with_reducible assumption) | assumption)
              have q143 : x6_2 < (l0.length : Int) := of_decide_eq_true (by first | (with_reducible assumption) | assumption)
              obtain ⟨ad143, A143_9, c143_9, e143, hx143_0, hx143_1, hx143_2, hx143_3, hx143_4, hx143_5, hx143_6, hx143_7, hx143_8, hx143_9, hl143_9, hi143_9⟩ := at_T37 (Kd.V_reads' HO_0.out).2.2 x6_2 p143 q143
              obtain rfl : ad139 = ad143 := (by injection e143)
              obtain ⟨ce143, hce143, hMe143, hcc143⟩ := Kd.V_get HO_0.out z37 x6_2 p143 (by first | exact q143 | exact of_decide_eq_true (by first | (with_reducible assumption) | assumption) | (have e_ := (Kd.V_reads' HO_0.out).1; omega))
              obtain ⟨ua143_9, uc143_9, rfl, ul143_9, ge143_9⟩ := k37_openF hMe143
              have hv143_9 := hcc143 9 _ rfl
              rw [add_field _ _ 9 (by omega)] at hv143_9
              replace hv143_9 := Option.some.inj (hv143_9.symm.trans hx143_9)
              injection hv143_9 with hva_ hvn_ hvc_
              rw [hva_] at ge143_9
              rw [hvc_] at ul143_9
              have HL143_9 := zqi (show Kd.V (Kd.int .i64) 3 _ w.heap.size _ _ ((rd_T37 l0 x6_2).f2) from Kd.V_mk ul143_9 ge143_9)
              clear hva_ hvn_ hvc_ ge143_9 ul143_9
              clear hcc143 hce143
              have HR143_9 := zqi hi143_9
              have HC143_9 := zqi hl143_9
              clear hi143_9 hl143_9
              replace p143 := eq_true p143
              replace q143 := eq_true q143
              refine start_ (n := 10) (S := fun w' => w'.cell? (ad139.add ((x4_1).toNat * 10)) = some (.int .i64 ((rd_T37 l0 x4_1).f0.f0)) ∧ w'.cell? ⟨(ad139.add ((x4_1).toNat * 10)).block, (ad139.add ((x4_1).toNat * 10)).off + 1, none⟩ = some (.int .i64 ((rd_T37 l0 x4_1).f0.f1)) ∧ w'.cell? ⟨(ad139.add ((x4_1).toNat * 10)).block, (ad139.add ((x4_1).toNat * 10)).off + 2, none⟩ = some (.int .i64 ((rd_T37 l0 x4_1).f0.f2)) ∧ w'.cell? ⟨(ad139.add ((x4_1).toNat * 10)).block, (ad139.add ((x4_1).toNat * 10)).off + 3, none⟩ = some (.int .i64 ((rd_T37 l0 x4_1).f0.f3)) ∧ w'.cell? ⟨(ad139.add ((x4_1).toNat * 10)).block, (ad139.add ((x4_1).toNat * 10)).off + 4, none⟩ = some (.int .i64 ((rd_T37 l0 x4_1).f0.f4)) ∧ w'.cell? ⟨(ad139.add ((x4_1).toNat * 10)).block, (ad139.add ((x4_1).toNat * 10)).off + 5, none⟩ = some (.int .u64 ((rd_T37 l0 x4_1).f0.f5)) ∧ w'.cell? ⟨(ad139.add ((x4_1).toNat * 10)).block, (ad139.add ((x4_1).toNat * 10)).off + 6, none⟩ = some (.int .u64 ((rd_T37 l0 x4_1).f0.f6)) ∧ w'.cell? ⟨(ad139.add ((x4_1).toNat * 10)).block, (ad139.add ((x4_1).toNat * 10)).off + 7, none⟩ = some (.int .u64 ((rd_T37 l0 x4_1).f0.f7)) ∧ w'.cell? ⟨(ad139.add ((x4_1).toNat * 10)).block, (ad139.add ((x4_1).toNat * 10)).off + 8, none⟩ = some (.int .i64 ((rd_T37 l0 x4_1).f1)) ∧ w'.cell? ⟨(ad139.add ((x4_1).toNat * 10)).block, (ad139.add ((x4_1).toNat * 10)).off + 9, none⟩ = some (.slice A142_9 ((rd_T37 l0 x4_1).f2).length c142_9) ∧ w'.cell? (ad139.add ((x6_2).toNat * 10)) = some (.int .i64 ((rd_T37 l0 x6_2).f0.f0)) ∧ w'.cell? ⟨(ad139.add ((x6_2).toNat * 10)).block, (ad139.add ((x6_2).toNat * 10)).off + 1, none⟩ = some (.int .i64 ((rd_T37 l0 x6_2).f0.f1)) ∧ w'.cell? ⟨(ad139.add ((x6_2).toNat * 10)).block, (ad139.add ((x6_2).toNat * 10)).off + 2, none⟩ = some (.int .i64 ((rd_T37 l0 x6_2).f0.f2)) ∧ w'.cell? ⟨(ad139.add ((x6_2).toNat * 10)).block, (ad139.add ((x6_2).toNat * 10)).off + 3, none⟩ = some (.int .i64 ((rd_T37 l0 x6_2).f0.f3)) ∧ w'.cell? ⟨(ad139.add ((x6_2).toNat * 10)).block, (ad139.add ((x6_2).toNat * 10)).off + 4, none⟩ = some (.int .i64 ((rd_T37 l0 x6_2).f0.f4)) ∧ w'.cell? ⟨(ad139.add ((x6_2).toNat * 10)).block, (ad139.add ((x6_2).toNat * 10)).off + 5, none⟩ = some (.int .u64 ((rd_T37 l0 x6_2).f0.f5)) ∧ w'.cell? ⟨(ad139.add ((x6_2).toNat * 10)).block, (ad139.add ((x6_2).toNat * 10)).off + 6, none⟩ = some (.int .u64 ((rd_T37 l0 x6_2).f0.f6)) ∧ w'.cell? ⟨(ad139.add ((x6_2).toNat * 10)).block, (ad139.add ((x6_2).toNat * 10)).off + 7, none⟩ = some (.int .u64 ((rd_T37 l0 x6_2).f0.f7)) ∧ w'.cell? ⟨(ad139.add ((x6_2).toNat * 10)).block, (ad139.add ((x6_2).toNat * 10)).off + 8, none⟩ = some (.int .i64 ((rd_T37 l0 x6_2).f1)) ∧ w'.cell? ⟨(ad139.add ((x6_2).toNat * 10)).block, (ad139.add ((x6_2).toNat * 10)).off + 9, none⟩ = some (.slice A143_9 ((rd_T37 l0 x6_2).f2).length c143_9)) (ds := []) (zqB 10 0) (by kernel_rfl) rfl rfl ⟨hx142_0, hx142_1, hx142_2, hx142_3, hx142_4, hx142_5, hx142_6, hx142_7, hx142_8, hx142_9, hx143_0, hx143_1, hx143_2, hx143_3, hx143_4, hx143_5, hx143_6, hx143_7, hx143_8, hx143_9⟩ (fun hHeld => ?_); refine with_tabW haulierref13_Front.tab10 haulierref13_Front.bits10 (fun HT_ HW_ => ?_)
              generalize w22.drew = w23 at HO_0 HO_3 HL139_9 HL140_9 HR139_9 HR140_9 HB HL142_9 HL143_9 HR142_9 HR143_9 hx142_0 hx142_1 hx142_2 hx142_3 hx142_4 hx142_5 hx142_6 hx142_7 hx142_8 hx142_9 hx143_0 hx143_1 hx143_2 hx143_3 hx143_4 hx143_5 hx143_6 hx143_7 hx143_8 hx143_9 hHeld ⊢
              refine zqp 0 (some 30) (zqB 10 1) (any_of HT_.out (by kernel_rfl)) (h := ?_)
              refine zqp 1 (some 31) (zqB 10 3) (any_of HT_.out (by kernel_rfl)) (h := ?_)
              refine zqp 2 (some 32) (zqB 10 7) (any_of HT_.out (by kernel_rfl)) (h := ?_)
              refine zqp 4 (some 34) (zqB 10 23) (any_of HT_.out (by kernel_rfl)) (h := ?_)
              refine zqp 5 (some 35) (zqB 10 55) (any_of HT_.out (by kernel_rfl)) (h := ?_)
              refine zqp 6 (some 36) (zqB 10 119) (any_of HT_.out (by kernel_rfl)) (h := ?_)
              refine zqt 3 (some 33) (zqB 10 127) (take_ofW HT_.out HW_.out (by kernel_rfl)) hHeld (h := ?_)
              refine zqt 7 (some 37) (zqB 10 255) (take_ofW HT_.out HW_.out (by kernel_rfl)) hHeld (h := ?_)
              refine one_ (i := 8) (N := some 38) (zqB 10 511) rfl rfl (one_of HT_.out (by kernel_rfl)) (by decide) (fun K hK => ?_)
              refine goes_ Try.func22 (by kernel_rfl) rfl #[.agg #[.int .i64 ((rd_T37 l0 x4_1).f0.f0), .int .i64 ((rd_T37 l0 x4_1).f0.f1), .int .i64 ((rd_T37 l0 x4_1).f0.f2), .int .i64 ((rd_T37 l0 x4_1).f0.f3), .int .i64 ((rd_T37 l0 x4_1).f0.f4), .int .u64 ((rd_T37 l0 x4_1).f0.f5), .int .u64 ((rd_T37 l0 x4_1).f0.f6), .int .u64 ((rd_T37 l0 x4_1).f0.f7), .int .i64 ((rd_T37 l0 x4_1).f1), .slice A142_9 ((rd_T37 l0 x4_1).f2).length c142_9], .agg #[.int .i64 ((rd_T37 l0 x6_2).f0.f0), .int .i64 ((rd_T37 l0 x6_2).f0.f1), .int .i64 ((rd_T37 l0 x6_2).f0.f2), .int .i64 ((rd_T37 l0 x6_2).f0.f3), .int .i64 ((rd_T37 l0 x6_2).f0.f4), .int .u64 ((rd_T37 l0 x6_2).f0.f5), .int .u64 ((rd_T37 l0 x6_2).f0.f6), .int .u64 ((rd_T37 l0 x6_2).f0.f7), .int .i64 ((rd_T37 l0 x6_2).f1), .slice A143_9 ((rd_T37 l0 x6_2).f2).length c143_9]] (by rfl) rfl rfl (by (try simp only [List.map_toArray, List.map_cons, List.map_nil]); first | done | rfl | (simp only [List.length_drop, List.length_take]; rfl)) ?_
              with_reducible refine (haulierref13_Than.calls k2 ((rd_T37 l0 x4_1).f0.f0) ((rd_T37 l0 x4_1).f0.f1) ((rd_T37 l0 x4_1).f0.f2) ((rd_T37 l0 x4_1).f0.f3) ((rd_T37 l0 x4_1).f0.f4) ((rd_T37 l0 x4_1).f0.f5) ((rd_T37 l0 x4_1).f0.f6) ((rd_T37 l0 x4_1).f0.f7) ((rd_T37 l0 x4_1).f1) _ _ ((rd_T37 l0 x4_1).f2) ((rd_T37 l0 x6_2).f0.f0) ((rd_T37 l0 x6_2).f0.f1) ((rd_T37 l0 x6_2).f0.f2) ((rd_T37 l0 x6_2).f0.f3) ((rd_T37 l0 x6_2).f0.f4) ((rd_T37 l0 x6_2).f0.f5) ((rd_T37 l0 x6_2).f0.f6) ((rd_T37 l0 x6_2).f0.f7) ((rd_T37 l0 x6_2).f1) _ _ ((rd_T37 l0 x6_2).f2) true _ ?side1 ?side2 ?side3 ?side4 A8.out).mono ?_
              (case side1 => repeat (first | exact (by repeat (first | (with_reducible exact HR142_9.out) | (with_reducible refine Kd.C_alloc ?_ _) | (with_reducible refine Kd.C_drewN ?_ _) | (with_reducible refine Kd.C_drew ?_) | exact HR142_9.out)) | (with_reducible refine Kd.C_alloc ?_ _) | (with_reducible refine Kd.C_drewN ?_ _) | (with_reducible refine Kd.C_drew ?_)))
              (case side2 => exact HC142_9.out)
              (case side3 => repeat (first | exact (by repeat (first | (with_reducible exact HR143_9.out) | (with_reducible refine Kd.C_alloc ?_ _) | (with_reducible refine Kd.C_drewN ?_ _) | (with_reducible refine Kd.C_drew ?_) | exact HR143_9.out)) | (with_reducible refine Kd.C_alloc ?_ _) | (with_reducible refine Kd.C_drewN ?_ _) | (with_reducible refine Kd.C_drew ?_)))
              (case side4 => exact HC143_9.out)
              rintro e w24 ⟨rfl, hb⟩
              have HS0_ := (hb.cell (World.block_lt_of_cell? _ _ (hHeld.1))).trans (hHeld.1)
              have HS1_ := (hb.cell (World.block_lt_of_cell? _ _ (hHeld.2.1))).trans (hHeld.2.1)
              have HS2_ := (hb.cell (World.block_lt_of_cell? _ _ (hHeld.2.2.1))).trans (hHeld.2.2.1)
              have HS3_ := (hb.cell (World.block_lt_of_cell? _ _ (hHeld.2.2.2.1))).trans (hHeld.2.2.2.1)
              have HS4_ := (hb.cell (World.block_lt_of_cell? _ _ (hHeld.2.2.2.2.1))).trans (hHeld.2.2.2.2.1)
              have HS5_ := (hb.cell (World.block_lt_of_cell? _ _ (hHeld.2.2.2.2.2.1))).trans (hHeld.2.2.2.2.2.1)
              have HS6_ := (hb.cell (World.block_lt_of_cell? _ _ (hHeld.2.2.2.2.2.2.1))).trans (hHeld.2.2.2.2.2.2.1)
              have HS7_ := (hb.cell (World.block_lt_of_cell? _ _ (hHeld.2.2.2.2.2.2.2.1))).trans (hHeld.2.2.2.2.2.2.2.1)
              have HS8_ := (hb.cell (World.block_lt_of_cell? _ _ (hHeld.2.2.2.2.2.2.2.2.1))).trans (hHeld.2.2.2.2.2.2.2.2.1)
              have HS9_ := (hb.cell (World.block_lt_of_cell? _ _ (hHeld.2.2.2.2.2.2.2.2.2.1))).trans (hHeld.2.2.2.2.2.2.2.2.2.1)
              have HS10_ := (hb.cell (World.block_lt_of_cell? _ _ (hHeld.2.2.2.2.2.2.2.2.2.2.1))).trans (hHeld.2.2.2.2.2.2.2.2.2.2.1)
              have HS11_ := (hb.cell (World.block_lt_of_cell? _ _ (hHeld.2.2.2.2.2.2.2.2.2.2.2.1))).trans (hHeld.2.2.2.2.2.2.2.2.2.2.2.1)
              have HS12_ := (hb.cell (World.block_lt_of_cell? _ _ (hHeld.2.2.2.2.2.2.2.2.2.2.2.2.1))).trans (hHeld.2.2.2.2.2.2.2.2.2.2.2.2.1)
              have HS13_ := (hb.cell (World.block_lt_of_cell? _ _ (hHeld.2.2.2.2.2.2.2.2.2.2.2.2.2.1))).trans (hHeld.2.2.2.2.2.2.2.2.2.2.2.2.2.1)
              have HS14_ := (hb.cell (World.block_lt_of_cell? _ _ (hHeld.2.2.2.2.2.2.2.2.2.2.2.2.2.2.1))).trans (hHeld.2.2.2.2.2.2.2.2.2.2.2.2.2.2.1)
              have HS15_ := (hb.cell (World.block_lt_of_cell? _ _ (hHeld.2.2.2.2.2.2.2.2.2.2.2.2.2.2.2.1))).trans (hHeld.2.2.2.2.2.2.2.2.2.2.2.2.2.2.2.1)
              have HS16_ := (hb.cell (World.block_lt_of_cell? _ _ (hHeld.2.2.2.2.2.2.2.2.2.2.2.2.2.2.2.2.1))).trans (hHeld.2.2.2.2.2.2.2.2.2.2.2.2.2.2.2.2.1)
              have HS17_ := (hb.cell (World.block_lt_of_cell? _ _ (hHeld.2.2.2.2.2.2.2.2.2.2.2.2.2.2.2.2.2.1))).trans (hHeld.2.2.2.2.2.2.2.2.2.2.2.2.2.2.2.2.2.1)
              have HS18_ := (hb.cell (World.block_lt_of_cell? _ _ (hHeld.2.2.2.2.2.2.2.2.2.2.2.2.2.2.2.2.2.2.1))).trans (hHeld.2.2.2.2.2.2.2.2.2.2.2.2.2.2.2.2.2.2.1)
              have HS19_ := (hb.cell (World.block_lt_of_cell? _ _ (hHeld.2.2.2.2.2.2.2.2.2.2.2.2.2.2.2.2.2.2.2))).trans (hHeld.2.2.2.2.2.2.2.2.2.2.2.2.2.2.2.2.2.2.2)
              refine ⟨_, rfl, ?_⟩
              have n0_ := zqi (Kd.V_below (by (with_reducible repeat (first | apply Kd.V_alloc | apply Kd.V_drewN | apply Kd.V_drew)); exact HO_0.out) hb)
              have n1_ := zqi (Kd.N_below (by (with_reducible repeat (first | apply Kd.N_alloc | apply Kd.N_drewN | apply Kd.N_drew)); exact HO_3.out) hb)
              have n2_ := zqi (Kd.V_below (by (with_reducible repeat (first | apply Kd.V_alloc | apply Kd.V_drewN | apply Kd.V_drew)); exact HL139_9.out) hb)
              have n3_ := zqi (Kd.V_below (by (with_reducible repeat (first | apply Kd.V_alloc | apply Kd.V_drewN | apply Kd.V_drew)); exact HL140_9.out) hb)
              have n4_ := zqi (Kd.V_below (by (with_reducible repeat (first | apply Kd.V_alloc | apply Kd.V_drewN | apply Kd.V_drew)); exact HL142_9.out) hb)
              have n5_ := zqi (Kd.V_below (by (with_reducible repeat (first | apply Kd.V_alloc | apply Kd.V_drewN | apply Kd.V_drew)); exact HL143_9.out) hb)
              have n6_ := zqi (Kd.C_below (by repeat (first | (with_reducible exact HR139_9.out) | (with_reducible refine Kd.C_alloc ?_ _) | (with_reducible refine Kd.C_drewN ?_ _) | (with_reducible refine Kd.C_drew ?_) | exact HR139_9.out)) hb)
              have n7_ := zqi (Kd.C_below (by repeat (first | (with_reducible exact HR140_9.out) | (with_reducible refine Kd.C_alloc ?_ _) | (with_reducible refine Kd.C_drewN ?_ _) | (with_reducible refine Kd.C_drew ?_) | exact HR140_9.out)) hb)
              have n8_ := zqi (Kd.C_below (by repeat (first | (with_reducible exact HR142_9.out) | (with_reducible refine Kd.C_alloc ?_ _) | (with_reducible refine Kd.C_drewN ?_ _) | (with_reducible refine Kd.C_drew ?_) | exact HR142_9.out)) hb)
              have n9_ := zqi (Kd.C_below (by repeat (first | (with_reducible exact HR143_9.out) | (with_reducible refine Kd.C_alloc ?_ _) | (with_reducible refine Kd.C_drewN ?_ _) | (with_reducible refine Kd.C_drew ?_) | exact HR143_9.out)) hb)
              have n10_ := zqi (below_step (zqn HB.out) hb)
              clear HO_0
              clear HO_3
              clear HL139_9
              clear HL140_9
              clear HL142_9
              clear HL143_9
              clear HR139_9
              clear HR140_9
              clear HR142_9
              clear HR143_9
              clear HB
              have HO_0 := n0_
              have HO_3 := n1_
              have HL139_9 := n2_
              have HL140_9 := n3_
              have HL142_9 := n4_
              have HL143_9 := n5_
              have HR139_9 := n6_
              have HR140_9 := n7_
              have HR142_9 := n8_
              have HR143_9 := n9_
              have HB := n10_
              clear n0_ n1_ n2_ n3_ n4_ n5_ n6_ n7_ n8_ n9_ n10_
              (try clear hb)
              (try clear hb2)
              (try clear hk)
              (try clear hi)
              refine hK.out _ _ ⟨HS0_, HS1_, HS2_, HS3_, HS4_, HS5_, HS6_, HS7_, HS8_, HS9_, HS10_, HS11_, HS12_, HS13_, HS14_, HS15_, HS16_, HS17_, HS18_, HS19_⟩ (fun hHeld => ?_)
              clear hK K
              refine norm_ (a' := ?_) ?_ ?_
              rotate_left
              ·
               show Act.put _ (some 38) _ = _
               simp only [Act.put, List.setIfInBounds_toArray, List.set_cons_zero, List.set_cons_succ, i64_w, i32_w]
               rfl
              refine zqp 9 (some 8) (zqB 10 1023) (any_of HT_.out (by kernel_rfl)) (h := ?_)
              refine done_ (done_of HT_.out (by kernel_rfl)) ?_
              try go_wp2
              go_roundg k2
              case measure => have := HK1.out; have := HK2.out; omega
              case rel => exact ⟨(x5_2), (wrap64 (x6_2 + 1)), (by first | rfl | (simp; done) | (simp [*]; done)), (by first | rfl | (simp; done) | (simp [*]; done)), H', ⟨by have := HK1.out; have := HK2.out; omega⟩, ⟨by (with_reducible repeat (first | apply Kd.V_alloc | apply Kd.V_drewN | apply Kd.V_drew)); exact HO_0.out⟩, ⟨by (with_reducible repeat (first | apply Kd.N_alloc | apply Kd.N_drewN | apply Kd.N_drew)); exact HO_3.out⟩, ⟨by repeat (first | (with_reducible first | exact HB.out | apply zqg | apply zqf | apply zqh) | exact HB.out)⟩⟩
             ·
              replace c20 := Bool.eq_false_iff.mpr c20
              subst c20
              have H1 : (haulierref13_Front.l1 k2 l0 x3_1 x4_1 false (wrap64 (x6_2 + 1))) = some r := by rw [if_neg (show ¬ (false = true) by decide)] at H; exact H
              clear H
              have H := H1
              clear H1
              have H' := zqi H
              clear H
              try go_wp2
              have n0_ := zqi (Kd.V_drew HO_0.out)
              have n1_ := zqi (Kd.N_drew HO_3.out)
              have n2_ := zqi (zqh HB.out)
              clear HO_0
              clear HO_3
              clear HB
              have HO_0 := n0_
              have HO_3 := n1_
              have HB := n2_
              clear n0_ n1_ n2_
              have p139 : 0 ≤ (x6_2 : Int) := of_decide_eq_true (by first | (with_reducible assumption) | assumption)
              have q139 : x6_2 < (l0.length : Int) := of_decide_eq_true (by first | (with_reducible assumption) | assumption)
              obtain ⟨ad139, A139_9, c139_9, e139, hx139_0, hx139_1, hx139_2, hx139_3, hx139_4, hx139_5, hx139_6, hx139_7, hx139_8, hx139_9, hl139_9, hi139_9⟩ := at_T37 (Kd.V_reads' HO_0.out).2.2 x6_2 p139 q139
              cases e139
              obtain ⟨ce139, hce139, hMe139, hcc139⟩ := Kd.V_get HO_0.out z37 x6_2 p139 (by first | exact q139 | exact of_decide_eq_true (by first | (with_reducible assumption) | assumption) | (have e_ := (Kd.V_reads' HO_0.out).1; omega))
              obtain ⟨ua139_9, uc139_9, rfl, ul139_9, ge139_9⟩ := k37_openF hMe139
              have hv139_9 := hcc139 9 _ rfl
              rw [add_field _ _ 9 (by omega)] at hv139_9
              replace hv139_9 := Option.some.inj (hv139_9.symm.trans hx139_9)
              injection hv139_9 with hva_ hvn_ hvc_
              rw [hva_] at ge139_9
              rw [hvc_] at ul139_9
              have HL139_9 := zqi (show Kd.V (Kd.int .i64) 3 _ w.heap.size _ _ ((rd_T37 l0 x6_2).f2) from Kd.V_mk ul139_9 ge139_9)
              clear hva_ hvn_ hvc_ ge139_9 ul139_9
              clear hcc139 hce139
              have HR139_9 := zqi hi139_9
              have HC139_9 := zqi hl139_9
              clear hi139_9 hl139_9
              replace p139 := eq_true p139
              replace q139 := eq_true q139
              have p140 : 0 ≤ (x4_1 : Int) := of_decide_eq_true (by first | (with_reducible assumption) | assumption)
              have q140 : x4_1 < (l0.length : Int) := of_decide_eq_true (by first | (with_reducible assumption) | assumption)
              obtain ⟨ad140, A140_9, c140_9, e140, hx140_0, hx140_1, hx140_2, hx140_3, hx140_4, hx140_5, hx140_6, hx140_7, hx140_8, hx140_9, hl140_9, hi140_9⟩ := at_T37 (Kd.V_reads' HO_0.out).2.2 x4_1 p140 q140
              obtain rfl : ad139 = ad140 := (by injection e140)
              obtain ⟨ce140, hce140, hMe140, hcc140⟩ := Kd.V_get HO_0.out z37 x4_1 p140 (by first | exact q140 | exact of_decide_eq_true (by first | (with_reducible assumption) | assumption) | (have e_ := (Kd.V_reads' HO_0.out).1; omega))
              obtain ⟨ua140_9, uc140_9, rfl, ul140_9, ge140_9⟩ := k37_openF hMe140
              have hv140_9 := hcc140 9 _ rfl
              rw [add_field _ _ 9 (by omega)] at hv140_9
              replace hv140_9 := Option.some.inj (hv140_9.symm.trans hx140_9)
              injection hv140_9 with hva_ hvn_ hvc_
              rw [hva_] at ge140_9
              rw [hvc_] at ul140_9
              have HL140_9 := zqi (show Kd.V (Kd.int .i64) 3 _ w.heap.size _ _ ((rd_T37 l0 x4_1).f2) from Kd.V_mk ul140_9 ge140_9)
              clear hva_ hvn_ hvc_ ge140_9 ul140_9
              clear hcc140 hce140
              have HR140_9 := zqi hi140_9
              have HC140_9 := zqi hl140_9
              clear hi140_9 hl140_9
              replace p140 := eq_true p140
              replace q140 := eq_true q140
              refine start_ (n := 10) (S := fun w' => w'.cell? (ad139.add ((x6_2).toNat * 10)) = some (.int .i64 ((rd_T37 l0 x6_2).f0.f0)) ∧ w'.cell? ⟨(ad139.add ((x6_2).toNat * 10)).block, (ad139.add ((x6_2).toNat * 10)).off + 1, none⟩ = some (.int .i64 ((rd_T37 l0 x6_2).f0.f1)) ∧ w'.cell? ⟨(ad139.add ((x6_2).toNat * 10)).block, (ad139.add ((x6_2).toNat * 10)).off + 2, none⟩ = some (.int .i64 ((rd_T37 l0 x6_2).f0.f2)) ∧ w'.cell? ⟨(ad139.add ((x6_2).toNat * 10)).block, (ad139.add ((x6_2).toNat * 10)).off + 3, none⟩ = some (.int .i64 ((rd_T37 l0 x6_2).f0.f3)) ∧ w'.cell? ⟨(ad139.add ((x6_2).toNat * 10)).block, (ad139.add ((x6_2).toNat * 10)).off + 4, none⟩ = some (.int .i64 ((rd_T37 l0 x6_2).f0.f4)) ∧ w'.cell? ⟨(ad139.add ((x6_2).toNat * 10)).block, (ad139.add ((x6_2).toNat * 10)).off + 5, none⟩ = some (.int .u64 ((rd_T37 l0 x6_2).f0.f5)) ∧ w'.cell? ⟨(ad139.add ((x6_2).toNat * 10)).block, (ad139.add ((x6_2).toNat * 10)).off + 6, none⟩ = some (.int .u64 ((rd_T37 l0 x6_2).f0.f6)) ∧ w'.cell? ⟨(ad139.add ((x6_2).toNat * 10)).block, (ad139.add ((x6_2).toNat * 10)).off + 7, none⟩ = some (.int .u64 ((rd_T37 l0 x6_2).f0.f7)) ∧ w'.cell? ⟨(ad139.add ((x6_2).toNat * 10)).block, (ad139.add ((x6_2).toNat * 10)).off + 8, none⟩ = some (.int .i64 ((rd_T37 l0 x6_2).f1)) ∧ w'.cell? ⟨(ad139.add ((x6_2).toNat * 10)).block, (ad139.add ((x6_2).toNat * 10)).off + 9, none⟩ = some (.slice A139_9 ((rd_T37 l0 x6_2).f2).length c139_9) ∧ w'.cell? (ad139.add ((x4_1).toNat * 10)) = some (.int .i64 ((rd_T37 l0 x4_1).f0.f0)) ∧ w'.cell? ⟨(ad139.add ((x4_1).toNat * 10)).block, (ad139.add ((x4_1).toNat * 10)).off + 1, none⟩ = some (.int .i64 ((rd_T37 l0 x4_1).f0.f1)) ∧ w'.cell? ⟨(ad139.add ((x4_1).toNat * 10)).block, (ad139.add ((x4_1).toNat * 10)).off + 2, none⟩ = some (.int .i64 ((rd_T37 l0 x4_1).f0.f2)) ∧ w'.cell? ⟨(ad139.add ((x4_1).toNat * 10)).block, (ad139.add ((x4_1).toNat * 10)).off + 3, none⟩ = some (.int .i64 ((rd_T37 l0 x4_1).f0.f3)) ∧ w'.cell? ⟨(ad139.add ((x4_1).toNat * 10)).block, (ad139.add ((x4_1).toNat * 10)).off + 4, none⟩ = some (.int .i64 ((rd_T37 l0 x4_1).f0.f4)) ∧ w'.cell? ⟨(ad139.add ((x4_1).toNat * 10)).block, (ad139.add ((x4_1).toNat * 10)).off + 5, none⟩ = some (.int .u64 ((rd_T37 l0 x4_1).f0.f5)) ∧ w'.cell? ⟨(ad139.add ((x4_1).toNat * 10)).block, (ad139.add ((x4_1).toNat * 10)).off + 6, none⟩ = some (.int .u64 ((rd_T37 l0 x4_1).f0.f6)) ∧ w'.cell? ⟨(ad139.add ((x4_1).toNat * 10)).block, (ad139.add ((x4_1).toNat * 10)).off + 7, none⟩ = some (.int .u64 ((rd_T37 l0 x4_1).f0.f7)) ∧ w'.cell? ⟨(ad139.add ((x4_1).toNat * 10)).block, (ad139.add ((x4_1).toNat * 10)).off + 8, none⟩ = some (.int .i64 ((rd_T37 l0 x4_1).f1)) ∧ w'.cell? ⟨(ad139.add ((x4_1).toNat * 10)).block, (ad139.add ((x4_1).toNat * 10)).off + 9, none⟩ = some (.slice A140_9 ((rd_T37 l0 x4_1).f2).length c140_9)) (ds := []) (zqB 10 0) (by kernel_rfl) rfl rfl ⟨hx139_0, hx139_1, hx139_2, hx139_3, hx139_4, hx139_5, hx139_6, hx139_7, hx139_8, hx139_9, hx140_0, hx140_1, hx140_2, hx140_3, hx140_4, hx140_5, hx140_6, hx140_7, hx140_8, hx140_9⟩ (fun hHeld => ?_); refine with_tabW haulierref13_Front.tab9 haulierref13_Front.bits9 (fun HT_ HW_ => ?_)
              generalize wr.drew = w25 at HO_0 HO_3 HB HL139_9 HL140_9 HR139_9 HR140_9 hx139_0 hx139_1 hx139_2 hx139_3 hx139_4 hx139_5 hx139_6 hx139_7 hx139_8 hx139_9 hx140_0 hx140_1 hx140_2 hx140_3 hx140_4 hx140_5 hx140_6 hx140_7 hx140_8 hx140_9 hHeld ⊢
              refine zqp 0 (some 21) (zqB 10 1) (any_of HT_.out (by kernel_rfl)) (h := ?_)
              refine zqp 1 (some 22) (zqB 10 3) (any_of HT_.out (by kernel_rfl)) (h := ?_)
              refine zqp 2 (some 23) (zqB 10 7) (any_of HT_.out (by kernel_rfl)) (h := ?_)
              refine zqp 4 (some 25) (zqB 10 23) (any_of HT_.out (by kernel_rfl)) (h := ?_)
              refine zqp 5 (some 26) (zqB 10 55) (any_of HT_.out (by kernel_rfl)) (h := ?_)
              refine zqp 6 (some 27) (zqB 10 119) (any_of HT_.out (by kernel_rfl)) (h := ?_)
              refine zqt 3 (some 24) (zqB 10 127) (take_ofW HT_.out HW_.out (by kernel_rfl)) hHeld (h := ?_)
              refine zqt 7 (some 28) (zqB 10 255) (take_ofW HT_.out HW_.out (by kernel_rfl)) hHeld (h := ?_)
              refine one_ (i := 8) (N := some 29) (zqB 10 511) rfl rfl (one_of HT_.out (by kernel_rfl)) (by decide) (fun K hK => ?_)
              refine goes_ Try.func22 (by kernel_rfl) rfl #[.agg #[.int .i64 ((rd_T37 l0 x6_2).f0.f0), .int .i64 ((rd_T37 l0 x6_2).f0.f1), .int .i64 ((rd_T37 l0 x6_2).f0.f2), .int .i64 ((rd_T37 l0 x6_2).f0.f3), .int .i64 ((rd_T37 l0 x6_2).f0.f4), .int .u64 ((rd_T37 l0 x6_2).f0.f5), .int .u64 ((rd_T37 l0 x6_2).f0.f6), .int .u64 ((rd_T37 l0 x6_2).f0.f7), .int .i64 ((rd_T37 l0 x6_2).f1), .slice A139_9 ((rd_T37 l0 x6_2).f2).length c139_9], .agg #[.int .i64 ((rd_T37 l0 x4_1).f0.f0), .int .i64 ((rd_T37 l0 x4_1).f0.f1), .int .i64 ((rd_T37 l0 x4_1).f0.f2), .int .i64 ((rd_T37 l0 x4_1).f0.f3), .int .i64 ((rd_T37 l0 x4_1).f0.f4), .int .u64 ((rd_T37 l0 x4_1).f0.f5), .int .u64 ((rd_T37 l0 x4_1).f0.f6), .int .u64 ((rd_T37 l0 x4_1).f0.f7), .int .i64 ((rd_T37 l0 x4_1).f1), .slice A140_9 ((rd_T37 l0 x4_1).f2).length c140_9]] (by rfl) rfl rfl (by (try simp only [List.map_toArray, List.map_cons, List.map_nil]); first | done | rfl | (simp only [List.length_drop, List.length_take]; rfl)) ?_
              with_reducible refine (haulierref13_Than.calls k2 ((rd_T37 l0 x6_2).f0.f0) ((rd_T37 l0 x6_2).f0.f1) ((rd_T37 l0 x6_2).f0.f2) ((rd_T37 l0 x6_2).f0.f3) ((rd_T37 l0 x6_2).f0.f4) ((rd_T37 l0 x6_2).f0.f5) ((rd_T37 l0 x6_2).f0.f6) ((rd_T37 l0 x6_2).f0.f7) ((rd_T37 l0 x6_2).f1) _ _ ((rd_T37 l0 x6_2).f2) ((rd_T37 l0 x4_1).f0.f0) ((rd_T37 l0 x4_1).f0.f1) ((rd_T37 l0 x4_1).f0.f2) ((rd_T37 l0 x4_1).f0.f3) ((rd_T37 l0 x4_1).f0.f4) ((rd_T37 l0 x4_1).f0.f5) ((rd_T37 l0 x4_1).f0.f6) ((rd_T37 l0 x4_1).f0.f7) ((rd_T37 l0 x4_1).f1) _ _ ((rd_T37 l0 x4_1).f2) true _ ?side1 ?side2 ?side3 ?side4 A7.out).mono ?_
              (case side1 => repeat (first | exact (by repeat (first | (with_reducible exact HR139_9.out) | (with_reducible refine Kd.C_alloc ?_ _) | (with_reducible refine Kd.C_drewN ?_ _) | (with_reducible refine Kd.C_drew ?_) | exact HR139_9.out)) | (with_reducible refine Kd.C_alloc ?_ _) | (with_reducible refine Kd.C_drewN ?_ _) | (with_reducible refine Kd.C_drew ?_)))
              (case side2 => exact HC139_9.out)
              (case side3 => repeat (first | exact (by repeat (first | (with_reducible exact HR140_9.out) | (with_reducible refine Kd.C_alloc ?_ _) | (with_reducible refine Kd.C_drewN ?_ _) | (with_reducible refine Kd.C_drew ?_) | exact HR140_9.out)) | (with_reducible refine Kd.C_alloc ?_ _) | (with_reducible refine Kd.C_drewN ?_ _) | (with_reducible refine Kd.C_drew ?_)))
              (case side4 => exact HC140_9.out)
              rintro e w26 ⟨rfl, hb⟩
              have HS0_ := (hb.cell (World.block_lt_of_cell? _ _ (hHeld.1))).trans (hHeld.1)
              have HS1_ := (hb.cell (World.block_lt_of_cell? _ _ (hHeld.2.1))).trans (hHeld.2.1)
              have HS2_ := (hb.cell (World.block_lt_of_cell? _ _ (hHeld.2.2.1))).trans (hHeld.2.2.1)
              have HS3_ := (hb.cell (World.block_lt_of_cell? _ _ (hHeld.2.2.2.1))).trans (hHeld.2.2.2.1)
              have HS4_ := (hb.cell (World.block_lt_of_cell? _ _ (hHeld.2.2.2.2.1))).trans (hHeld.2.2.2.2.1)
              have HS5_ := (hb.cell (World.block_lt_of_cell? _ _ (hHeld.2.2.2.2.2.1))).trans (hHeld.2.2.2.2.2.1)
              have HS6_ := (hb.cell (World.block_lt_of_cell? _ _ (hHeld.2.2.2.2.2.2.1))).trans (hHeld.2.2.2.2.2.2.1)
              have HS7_ := (hb.cell (World.block_lt_of_cell? _ _ (hHeld.2.2.2.2.2.2.2.1))).trans (hHeld.2.2.2.2.2.2.2.1)
              have HS8_ := (hb.cell (World.block_lt_of_cell? _ _ (hHeld.2.2.2.2.2.2.2.2.1))).trans (hHeld.2.2.2.2.2.2.2.2.1)
              have HS9_ := (hb.cell (World.block_lt_of_cell? _ _ (hHeld.2.2.2.2.2.2.2.2.2.1))).trans (hHeld.2.2.2.2.2.2.2.2.2.1)
              have HS10_ := (hb.cell (World.block_lt_of_cell? _ _ (hHeld.2.2.2.2.2.2.2.2.2.2.1))).trans (hHeld.2.2.2.2.2.2.2.2.2.2.1)
              have HS11_ := (hb.cell (World.block_lt_of_cell? _ _ (hHeld.2.2.2.2.2.2.2.2.2.2.2.1))).trans (hHeld.2.2.2.2.2.2.2.2.2.2.2.1)
              have HS12_ := (hb.cell (World.block_lt_of_cell? _ _ (hHeld.2.2.2.2.2.2.2.2.2.2.2.2.1))).trans (hHeld.2.2.2.2.2.2.2.2.2.2.2.2.1)
              have HS13_ := (hb.cell (World.block_lt_of_cell? _ _ (hHeld.2.2.2.2.2.2.2.2.2.2.2.2.2.1))).trans (hHeld.2.2.2.2.2.2.2.2.2.2.2.2.2.1)
              have HS14_ := (hb.cell (World.block_lt_of_cell? _ _ (hHeld.2.2.2.2.2.2.2.2.2.2.2.2.2.2.1))).trans (hHeld.2.2.2.2.2.2.2.2.2.2.2.2.2.2.1)
              have HS15_ := (hb.cell (World.block_lt_of_cell? _ _ (hHeld.2.2.2.2.2.2.2.2.2.2.2.2.2.2.2.1))).trans (hHeld.2.2.2.2.2.2.2.2.2.2.2.2.2.2.2.1)
              have HS16_ := (hb.cell (World.block_lt_of_cell? _ _ (hHeld.2.2.2.2.2.2.2.2.2.2.2.2.2.2.2.2.1))).trans (hHeld.2.2.2.2.2.2.2.2.2.2.2.2.2.2.2.2.1)
              have HS17_ := (hb.cell (World.block_lt_of_cell? _ _ (hHeld.2.2.2.2.2.2.2.2.2.2.2.2.2.2.2.2.2.1))).trans (hHeld.2.2.2.2.2.2.2.2.2.2.2.2.2.2.2.2.2.1)
              have HS18_ := (hb.cell (World.block_lt_of_cell? _ _ (hHeld.2.2.2.2.2.2.2.2.2.2.2.2.2.2.2.2.2.2.1))).trans (hHeld.2.2.2.2.2.2.2.2.2.2.2.2.2.2.2.2.2.2.1)
              have HS19_ := (hb.cell (World.block_lt_of_cell? _ _ (hHeld.2.2.2.2.2.2.2.2.2.2.2.2.2.2.2.2.2.2.2))).trans (hHeld.2.2.2.2.2.2.2.2.2.2.2.2.2.2.2.2.2.2.2)
              refine ⟨_, rfl, ?_⟩
              have n0_ := zqi (Kd.V_below (by (with_reducible repeat (first | apply Kd.V_alloc | apply Kd.V_drewN | apply Kd.V_drew)); exact HO_0.out) hb)
              have n1_ := zqi (Kd.N_below (by (with_reducible repeat (first | apply Kd.N_alloc | apply Kd.N_drewN | apply Kd.N_drew)); exact HO_3.out) hb)
              have n2_ := zqi (Kd.V_below (by (with_reducible repeat (first | apply Kd.V_alloc | apply Kd.V_drewN | apply Kd.V_drew)); exact HL139_9.out) hb)
              have n3_ := zqi (Kd.V_below (by (with_reducible repeat (first | apply Kd.V_alloc | apply Kd.V_drewN | apply Kd.V_drew)); exact HL140_9.out) hb)
              have n4_ := zqi (Kd.C_below (by repeat (first | (with_reducible exact HR139_9.out) | (with_reducible refine Kd.C_alloc ?_ _) | (with_reducible refine Kd.C_drewN ?_ _) | (with_reducible refine Kd.C_drew ?_) | exact HR139_9.out)) hb)
              have n5_ := zqi (Kd.C_below (by repeat (first | (with_reducible exact HR140_9.out) | (with_reducible refine Kd.C_alloc ?_ _) | (with_reducible refine Kd.C_drewN ?_ _) | (with_reducible refine Kd.C_drew ?_) | exact HR140_9.out)) hb)
              have n6_ := zqi (below_step (zqn HB.out) hb)
              clear HO_0
              clear HO_3
              clear HL139_9
              clear HL140_9
              clear HR139_9
              clear HR140_9
              clear HB
              have HO_0 := n0_
              have HO_3 := n1_
              have HL139_9 := n2_
              have HL140_9 := n3_
              have HR139_9 := n4_
              have HR140_9 := n5_
              have HB := n6_
              clear n0_ n1_ n2_ n3_ n4_ n5_ n6_
              (try clear hb)
              (try clear hb2)
              (try clear hk)
              (try clear hi)
              refine hK.out _ _ ⟨HS0_, HS1_, HS2_, HS3_, HS4_, HS5_, HS6_, HS7_, HS8_, HS9_, HS10_, HS11_, HS12_, HS13_, HS14_, HS15_, HS16_, HS17_, HS18_, HS19_⟩ (fun hHeld => ?_)
              clear hK K
              refine norm_ (a' := ?_) ?_ ?_
              rotate_left
              ·
               show Act.put _ (some 29) _ = _
               simp only [Act.put, List.setIfInBounds_toArray, List.set_cons_zero, List.set_cons_succ, i64_w, i32_w]
               rfl
              refine zqp 9 (some 7) (zqB 10 1023) (any_of HT_.out (by kernel_rfl)) (h := ?_)
              refine done_ (done_of HT_.out (by kernel_rfl)) ?_
              try go_wp2
              have n0_ := zqi (Kd.V_drew HO_0.out)
              have n1_ := zqi (Kd.N_drew HO_3.out)
              have n2_ := zqi (Kd.V_drew HL139_9.out)
              have n3_ := zqi (Kd.V_drew HL140_9.out)
              have n4_ := zqi (Kd.C_drew HR139_9.out)
              have n5_ := zqi (Kd.C_drew HR140_9.out)
              have n6_ := zqi (zqh HB.out)
              clear HO_0
              clear HO_3
              clear HL139_9
              clear HL140_9
              clear HR139_9
              clear HR140_9
              clear HB
              have HO_0 := n0_
              have HO_3 := n1_
              have HL139_9 := n2_
              have HL140_9 := n3_
              have HR139_9 := n4_
              have HR140_9 := n5_
              have HB := n6_
              clear n0_ n1_ n2_ n3_ n4_ n5_ n6_
              have p142 : 0 ≤ (x4_1 : Int) := of_decide_eq_true (by first | (with_reducible assumption) | assumption)
              have q142 : x4_1 < (l0.length : Int) := of_decide_eq_true (by first | (with_reducible assumption) | assumption)
              obtain ⟨ad142, A142_9, c142_9, e142, hx142_0, hx142_1, hx142_2, hx142_3, hx142_4, hx142_5, hx142_6, hx142_7, hx142_8, hx142_9, hl142_9, hi142_9⟩ := at_T37 (Kd.V_reads' HO_0.out).2.2 x4_1 p142 q142
              obtain rfl : ad139 = ad142 := (by injection e142)
              obtain ⟨ce142, hce142, hMe142, hcc142⟩ := Kd.V_get HO_0.out z37 x4_1 p142 (by first | exact q142 | exact of_decide_eq_true (by first | (with_reducible assumption) | assumption) | (have e_ := (Kd.V_reads' HO_0.out).1; omega))
              obtain ⟨ua142_9, uc142_9, rfl, ul142_9, ge142_9⟩ := k37_openF hMe142
              have hv142_9 := hcc142 9 _ rfl
              rw [add_field _ _ 9 (by omega)] at hv142_9
              replace hv142_9 := Option.some.inj (hv142_9.symm.trans hx142_9)
              injection hv142_9 with hva_ hvn_ hvc_
              rw [hva_] at ge142_9
              rw [hvc_] at ul142_9
              have HL142_9 := zqi (show Kd.V (Kd.int .i64) 3 _ w.heap.size _ _ ((rd_T37 l0 x4_1).f2) from Kd.V_mk ul142_9 ge142_9)
              clear hva_ hvn_ hvc_ ge142_9 ul142_9
              clear hcc142 hce142
              have HR142_9 := zqi hi142_9
              have HC142_9 := zqi hl142_9
              clear hi142_9 hl142_9
              replace p142 := eq_true p142
              replace q142 := eq_true q142
              have p143 : 0 ≤ (x6_2 : Int) := of_decide_eq_true (by first | (with_reducible assumption) | assumption)
              have q143 : x6_2 < (l0.length : Int) := of_decide_eq_true (by first | (with_reducible assumption) | assumption)
              obtain ⟨ad143, A143_9, c143_9, e143, hx143_0, hx143_1, hx143_2, hx143_3, hx143_4, hx143_5, hx143_6, hx143_7, hx143_8, hx143_9, hl143_9, hi143_9⟩ := at_T37 (Kd.V_reads' HO_0.out).2.2 x6_2 p143 q143
              obtain rfl : ad139 = ad143 := (by injection e143)
              obtain ⟨ce143, hce143, hMe143, hcc143⟩ := Kd.V_get HO_0.out z37 x6_2 p143 (by first | exact q143 | exact of_decide_eq_true (by first | (with_reducible assumption) | assumption) | (have e_ := (Kd.V_reads' HO_0.out).1; omega))
              obtain ⟨ua143_9, uc143_9, rfl, ul143_9, ge143_9⟩ := k37_openF hMe143
              have hv143_9 := hcc143 9 _ rfl
              rw [add_field _ _ 9 (by omega)] at hv143_9
              replace hv143_9 := Option.some.inj (hv143_9.symm.trans hx143_9)
              injection hv143_9 with hva_ hvn_ hvc_
              rw [hva_] at ge143_9
              rw [hvc_] at ul143_9
              have HL143_9 := zqi (show Kd.V (Kd.int .i64) 3 _ w.heap.size _ _ ((rd_T37 l0 x6_2).f2) from Kd.V_mk ul143_9 ge143_9)
              clear hva_ hvn_ hvc_ ge143_9 ul143_9
              clear hcc143 hce143
              have HR143_9 := zqi hi143_9
              have HC143_9 := zqi hl143_9
              clear hi143_9 hl143_9
              replace p143 := eq_true p143
              replace q143 := eq_true q143
              refine start_ (n := 10) (S := fun w' => w'.cell? (ad139.add ((x4_1).toNat * 10)) = some (.int .i64 ((rd_T37 l0 x4_1).f0.f0)) ∧ w'.cell? ⟨(ad139.add ((x4_1).toNat * 10)).block, (ad139.add ((x4_1).toNat * 10)).off + 1, none⟩ = some (.int .i64 ((rd_T37 l0 x4_1).f0.f1)) ∧ w'.cell? ⟨(ad139.add ((x4_1).toNat * 10)).block, (ad139.add ((x4_1).toNat * 10)).off + 2, none⟩ = some (.int .i64 ((rd_T37 l0 x4_1).f0.f2)) ∧ w'.cell? ⟨(ad139.add ((x4_1).toNat * 10)).block, (ad139.add ((x4_1).toNat * 10)).off + 3, none⟩ = some (.int .i64 ((rd_T37 l0 x4_1).f0.f3)) ∧ w'.cell? ⟨(ad139.add ((x4_1).toNat * 10)).block, (ad139.add ((x4_1).toNat * 10)).off + 4, none⟩ = some (.int .i64 ((rd_T37 l0 x4_1).f0.f4)) ∧ w'.cell? ⟨(ad139.add ((x4_1).toNat * 10)).block, (ad139.add ((x4_1).toNat * 10)).off + 5, none⟩ = some (.int .u64 ((rd_T37 l0 x4_1).f0.f5)) ∧ w'.cell? ⟨(ad139.add ((x4_1).toNat * 10)).block, (ad139.add ((x4_1).toNat * 10)).off + 6, none⟩ = some (.int .u64 ((rd_T37 l0 x4_1).f0.f6)) ∧ w'.cell? ⟨(ad139.add ((x4_1).toNat * 10)).block, (ad139.add ((x4_1).toNat * 10)).off + 7, none⟩ = some (.int .u64 ((rd_T37 l0 x4_1).f0.f7)) ∧ w'.cell? ⟨(ad139.add ((x4_1).toNat * 10)).block, (ad139.add ((x4_1).toNat * 10)).off + 8, none⟩ = some (.int .i64 ((rd_T37 l0 x4_1).f1)) ∧ w'.cell? ⟨(ad139.add ((x4_1).toNat * 10)).block, (ad139.add ((x4_1).toNat * 10)).off + 9, none⟩ = some (.slice A142_9 ((rd_T37 l0 x4_1).f2).length c142_9) ∧ w'.cell? (ad139.add ((x6_2).toNat * 10)) = some (.int .i64 ((rd_T37 l0 x6_2).f0.f0)) ∧ w'.cell? ⟨(ad139.add ((x6_2).toNat * 10)).block, (ad139.add ((x6_2).toNat * 10)).off + 1, none⟩ = some (.int .i64 ((rd_T37 l0 x6_2).f0.f1)) ∧ w'.cell? ⟨(ad139.add ((x6_2).toNat * 10)).block, (ad139.add ((x6_2).toNat * 10)).off + 2, none⟩ = some (.int .i64 ((rd_T37 l0 x6_2).f0.f2)) ∧ w'.cell? ⟨(ad139.add ((x6_2).toNat * 10)).block, (ad139.add ((x6_2).toNat * 10)).off + 3, none⟩ = some (.int .i64 ((rd_T37 l0 x6_2).f0.f3)) ∧ w'.cell? ⟨(ad139.add ((x6_2).toNat * 10)).block, (ad139.add ((x6_2).toNat * 10)).off + 4, none⟩ = some (.int .i64 ((rd_T37 l0 x6_2).f0.f4)) ∧ w'.cell? ⟨(ad139.add ((x6_2).toNat * 10)).block, (ad139.add ((x6_2).toNat * 10)).off + 5, none⟩ = some (.int .u64 ((rd_T37 l0 x6_2).f0.f5)) ∧ w'.cell? ⟨(ad139.add ((x6_2).toNat * 10)).block, (ad139.add ((x6_2).toNat * 10)).off + 6, none⟩ = some (.int .u64 ((rd_T37 l0 x6_2).f0.f6)) ∧ w'.cell? ⟨(ad139.add ((x6_2).toNat * 10)).block, (ad139.add ((x6_2).toNat * 10)).off + 7, none⟩ = some (.int .u64 ((rd_T37 l0 x6_2).f0.f7)) ∧ w'.cell? ⟨(ad139.add ((x6_2).toNat * 10)).block, (ad139.add ((x6_2).toNat * 10)).off + 8, none⟩ = some (.int .i64 ((rd_T37 l0 x6_2).f1)) ∧ w'.cell? ⟨(ad139.add ((x6_2).toNat * 10)).block, (ad139.add ((x6_2).toNat * 10)).off + 9, none⟩ = some (.slice A143_9 ((rd_T37 l0 x6_2).f2).length c143_9)) (ds := []) (zqB 10 0) (by kernel_rfl) rfl rfl ⟨hx142_0, hx142_1, hx142_2, hx142_3, hx142_4, hx142_5, hx142_6, hx142_7, hx142_8, hx142_9, hx143_0, hx143_1, hx143_2, hx143_3, hx143_4, hx143_5, hx143_6, hx143_7, hx143_8, hx143_9⟩ (fun hHeld => ?_); refine with_tabW haulierref13_Front.tab10 haulierref13_Front.bits10 (fun HT_ HW_ => ?_)
              generalize w26.drew = w27 at HO_0 HO_3 HL139_9 HL140_9 HR139_9 HR140_9 HB HL142_9 HL143_9 HR142_9 HR143_9 hx142_0 hx142_1 hx142_2 hx142_3 hx142_4 hx142_5 hx142_6 hx142_7 hx142_8 hx142_9 hx143_0 hx143_1 hx143_2 hx143_3 hx143_4 hx143_5 hx143_6 hx143_7 hx143_8 hx143_9 hHeld ⊢
              refine zqp 0 (some 30) (zqB 10 1) (any_of HT_.out (by kernel_rfl)) (h := ?_)
              refine zqp 1 (some 31) (zqB 10 3) (any_of HT_.out (by kernel_rfl)) (h := ?_)
              refine zqp 2 (some 32) (zqB 10 7) (any_of HT_.out (by kernel_rfl)) (h := ?_)
              refine zqp 4 (some 34) (zqB 10 23) (any_of HT_.out (by kernel_rfl)) (h := ?_)
              refine zqp 5 (some 35) (zqB 10 55) (any_of HT_.out (by kernel_rfl)) (h := ?_)
              refine zqp 6 (some 36) (zqB 10 119) (any_of HT_.out (by kernel_rfl)) (h := ?_)
              refine zqt 3 (some 33) (zqB 10 127) (take_ofW HT_.out HW_.out (by kernel_rfl)) hHeld (h := ?_)
              refine zqt 7 (some 37) (zqB 10 255) (take_ofW HT_.out HW_.out (by kernel_rfl)) hHeld (h := ?_)
              refine one_ (i := 8) (N := some 38) (zqB 10 511) rfl rfl (one_of HT_.out (by kernel_rfl)) (by decide) (fun K hK => ?_)
              refine goes_ Try.func22 (by kernel_rfl) rfl #[.agg #[.int .i64 ((rd_T37 l0 x4_1).f0.f0), .int .i64 ((rd_T37 l0 x4_1).f0.f1), .int .i64 ((rd_T37 l0 x4_1).f0.f2), .int .i64 ((rd_T37 l0 x4_1).f0.f3), .int .i64 ((rd_T37 l0 x4_1).f0.f4), .int .u64 ((rd_T37 l0 x4_1).f0.f5), .int .u64 ((rd_T37 l0 x4_1).f0.f6), .int .u64 ((rd_T37 l0 x4_1).f0.f7), .int .i64 ((rd_T37 l0 x4_1).f1), .slice A142_9 ((rd_T37 l0 x4_1).f2).length c142_9], .agg #[.int .i64 ((rd_T37 l0 x6_2).f0.f0), .int .i64 ((rd_T37 l0 x6_2).f0.f1), .int .i64 ((rd_T37 l0 x6_2).f0.f2), .int .i64 ((rd_T37 l0 x6_2).f0.f3), .int .i64 ((rd_T37 l0 x6_2).f0.f4), .int .u64 ((rd_T37 l0 x6_2).f0.f5), .int .u64 ((rd_T37 l0 x6_2).f0.f6), .int .u64 ((rd_T37 l0 x6_2).f0.f7), .int .i64 ((rd_T37 l0 x6_2).f1), .slice A143_9 ((rd_T37 l0 x6_2).f2).length c143_9]] (by rfl) rfl rfl (by (try simp only [List.map_toArray, List.map_cons, List.map_nil]); first | done | rfl | (simp only [List.length_drop, List.length_take]; rfl)) ?_
              with_reducible refine (haulierref13_Than.calls k2 ((rd_T37 l0 x4_1).f0.f0) ((rd_T37 l0 x4_1).f0.f1) ((rd_T37 l0 x4_1).f0.f2) ((rd_T37 l0 x4_1).f0.f3) ((rd_T37 l0 x4_1).f0.f4) ((rd_T37 l0 x4_1).f0.f5) ((rd_T37 l0 x4_1).f0.f6) ((rd_T37 l0 x4_1).f0.f7) ((rd_T37 l0 x4_1).f1) _ _ ((rd_T37 l0 x4_1).f2) ((rd_T37 l0 x6_2).f0.f0) ((rd_T37 l0 x6_2).f0.f1) ((rd_T37 l0 x6_2).f0.f2) ((rd_T37 l0 x6_2).f0.f3) ((rd_T37 l0 x6_2).f0.f4) ((rd_T37 l0 x6_2).f0.f5) ((rd_T37 l0 x6_2).f0.f6) ((rd_T37 l0 x6_2).f0.f7) ((rd_T37 l0 x6_2).f1) _ _ ((rd_T37 l0 x6_2).f2) false _ ?side1 ?side2 ?side3 ?side4 A8.out).mono ?_
              (case side1 => repeat (first | exact (by repeat (first | (with_reducible exact HR142_9.out) | (with_reducible refine Kd.C_alloc ?_ _) | (with_reducible refine Kd.C_drewN ?_ _) | (with_reducible refine Kd.C_drew ?_) | exact HR142_9.out)) | (with_reducible refine Kd.C_alloc ?_ _) | (with_reducible refine Kd.C_drewN ?_ _) | (with_reducible refine Kd.C_drew ?_)))
              (case side2 => exact HC142_9.out)
              (case side3 => repeat (first | exact (by repeat (first | (with_reducible exact HR143_9.out) | (with_reducible refine Kd.C_alloc ?_ _) | (with_reducible refine Kd.C_drewN ?_ _) | (with_reducible refine Kd.C_drew ?_) | exact HR143_9.out)) | (with_reducible refine Kd.C_alloc ?_ _) | (with_reducible refine Kd.C_drewN ?_ _) | (with_reducible refine Kd.C_drew ?_)))
              (case side4 => exact HC143_9.out)
              rintro e w28 ⟨rfl, hb⟩
              have HS0_ := (hb.cell (World.block_lt_of_cell? _ _ (hHeld.1))).trans (hHeld.1)
              have HS1_ := (hb.cell (World.block_lt_of_cell? _ _ (hHeld.2.1))).trans (hHeld.2.1)
              have HS2_ := (hb.cell (World.block_lt_of_cell? _ _ (hHeld.2.2.1))).trans (hHeld.2.2.1)
              have HS3_ := (hb.cell (World.block_lt_of_cell? _ _ (hHeld.2.2.2.1))).trans (hHeld.2.2.2.1)
              have HS4_ := (hb.cell (World.block_lt_of_cell? _ _ (hHeld.2.2.2.2.1))).trans (hHeld.2.2.2.2.1)
              have HS5_ := (hb.cell (World.block_lt_of_cell? _ _ (hHeld.2.2.2.2.2.1))).trans (hHeld.2.2.2.2.2.1)
              have HS6_ := (hb.cell (World.block_lt_of_cell? _ _ (hHeld.2.2.2.2.2.2.1))).trans (hHeld.2.2.2.2.2.2.1)
              have HS7_ := (hb.cell (World.block_lt_of_cell? _ _ (hHeld.2.2.2.2.2.2.2.1))).trans (hHeld.2.2.2.2.2.2.2.1)
              have HS8_ := (hb.cell (World.block_lt_of_cell? _ _ (hHeld.2.2.2.2.2.2.2.2.1))).trans (hHeld.2.2.2.2.2.2.2.2.1)
              have HS9_ := (hb.cell (World.block_lt_of_cell? _ _ (hHeld.2.2.2.2.2.2.2.2.2.1))).trans (hHeld.2.2.2.2.2.2.2.2.2.1)
              have HS10_ := (hb.cell (World.block_lt_of_cell? _ _ (hHeld.2.2.2.2.2.2.2.2.2.2.1))).trans (hHeld.2.2.2.2.2.2.2.2.2.2.1)
              have HS11_ := (hb.cell (World.block_lt_of_cell? _ _ (hHeld.2.2.2.2.2.2.2.2.2.2.2.1))).trans (hHeld.2.2.2.2.2.2.2.2.2.2.2.1)
              have HS12_ := (hb.cell (World.block_lt_of_cell? _ _ (hHeld.2.2.2.2.2.2.2.2.2.2.2.2.1))).trans (hHeld.2.2.2.2.2.2.2.2.2.2.2.2.1)
              have HS13_ := (hb.cell (World.block_lt_of_cell? _ _ (hHeld.2.2.2.2.2.2.2.2.2.2.2.2.2.1))).trans (hHeld.2.2.2.2.2.2.2.2.2.2.2.2.2.1)
              have HS14_ := (hb.cell (World.block_lt_of_cell? _ _ (hHeld.2.2.2.2.2.2.2.2.2.2.2.2.2.2.1))).trans (hHeld.2.2.2.2.2.2.2.2.2.2.2.2.2.2.1)
              have HS15_ := (hb.cell (World.block_lt_of_cell? _ _ (hHeld.2.2.2.2.2.2.2.2.2.2.2.2.2.2.2.1))).trans (hHeld.2.2.2.2.2.2.2.2.2.2.2.2.2.2.2.1)
              have HS16_ := (hb.cell (World.block_lt_of_cell? _ _ (hHeld.2.2.2.2.2.2.2.2.2.2.2.2.2.2.2.2.1))).trans (hHeld.2.2.2.2.2.2.2.2.2.2.2.2.2.2.2.2.1)
              have HS17_ := (hb.cell (World.block_lt_of_cell? _ _ (hHeld.2.2.2.2.2.2.2.2.2.2.2.2.2.2.2.2.2.1))).trans (hHeld.2.2.2.2.2.2.2.2.2.2.2.2.2.2.2.2.2.1)
              have HS18_ := (hb.cell (World.block_lt_of_cell? _ _ (hHeld.2.2.2.2.2.2.2.2.2.2.2.2.2.2.2.2.2.2.1))).trans (hHeld.2.2.2.2.2.2.2.2.2.2.2.2.2.2.2.2.2.2.1)
              have HS19_ := (hb.cell (World.block_lt_of_cell? _ _ (hHeld.2.2.2.2.2.2.2.2.2.2.2.2.2.2.2.2.2.2.2))).trans (hHeld.2.2.2.2.2.2.2.2.2.2.2.2.2.2.2.2.2.2.2)
              refine ⟨_, rfl, ?_⟩
              have n0_ := zqi (Kd.V_below (by (with_reducible repeat (first | apply Kd.V_alloc | apply Kd.V_drewN | apply Kd.V_drew)); exact HO_0.out) hb)
              have n1_ := zqi (Kd.N_below (by (with_reducible repeat (first | apply Kd.N_alloc | apply Kd.N_drewN | apply Kd.N_drew)); exact HO_3.out) hb)
              have n2_ := zqi (Kd.V_below (by (with_reducible repeat (first | apply Kd.V_alloc | apply Kd.V_drewN | apply Kd.V_drew)); exact HL139_9.out) hb)
              have n3_ := zqi (Kd.V_below (by (with_reducible repeat (first | apply Kd.V_alloc | apply Kd.V_drewN | apply Kd.V_drew)); exact HL140_9.out) hb)
              have n4_ := zqi (Kd.V_below (by (with_reducible repeat (first | apply Kd.V_alloc | apply Kd.V_drewN | apply Kd.V_drew)); exact HL142_9.out) hb)
              have n5_ := zqi (Kd.V_below (by (with_reducible repeat (first | apply Kd.V_alloc | apply Kd.V_drewN | apply Kd.V_drew)); exact HL143_9.out) hb)
              have n6_ := zqi (Kd.C_below (by repeat (first | (with_reducible exact HR139_9.out) | (with_reducible refine Kd.C_alloc ?_ _) | (with_reducible refine Kd.C_drewN ?_ _) | (with_reducible refine Kd.C_drew ?_) | exact HR139_9.out)) hb)
              have n7_ := zqi (Kd.C_below (by repeat (first | (with_reducible exact HR140_9.out) | (with_reducible refine Kd.C_alloc ?_ _) | (with_reducible refine Kd.C_drewN ?_ _) | (with_reducible refine Kd.C_drew ?_) | exact HR140_9.out)) hb)
              have n8_ := zqi (Kd.C_below (by repeat (first | (with_reducible exact HR142_9.out) | (with_reducible refine Kd.C_alloc ?_ _) | (with_reducible refine Kd.C_drewN ?_ _) | (with_reducible refine Kd.C_drew ?_) | exact HR142_9.out)) hb)
              have n9_ := zqi (Kd.C_below (by repeat (first | (with_reducible exact HR143_9.out) | (with_reducible refine Kd.C_alloc ?_ _) | (with_reducible refine Kd.C_drewN ?_ _) | (with_reducible refine Kd.C_drew ?_) | exact HR143_9.out)) hb)
              have n10_ := zqi (below_step (zqn HB.out) hb)
              clear HO_0
              clear HO_3
              clear HL139_9
              clear HL140_9
              clear HL142_9
              clear HL143_9
              clear HR139_9
              clear HR140_9
              clear HR142_9
              clear HR143_9
              clear HB
              have HO_0 := n0_
              have HO_3 := n1_
              have HL139_9 := n2_
              have HL140_9 := n3_
              have HL142_9 := n4_
              have HL143_9 := n5_
              have HR139_9 := n6_
              have HR140_9 := n7_
              have HR142_9 := n8_
              have HR143_9 := n9_
              have HB := n10_
              clear n0_ n1_ n2_ n3_ n4_ n5_ n6_ n7_ n8_ n9_ n10_
              (try clear hb)
              (try clear hb2)
              (try clear hk)
              (try clear hi)
              refine hK.out _ _ ⟨HS0_, HS1_, HS2_, HS3_, HS4_, HS5_, HS6_, HS7_, HS8_, HS9_, HS10_, HS11_, HS12_, HS13_, HS14_, HS15_, HS16_, HS17_, HS18_, HS19_⟩ (fun hHeld => ?_)
              clear hK K
              refine norm_ (a' := ?_) ?_ ?_
              rotate_left
              ·
               show Act.put _ (some 38) _ = _
               simp only [Act.put, List.setIfInBounds_toArray, List.set_cons_zero, List.set_cons_succ, i64_w, i32_w]
               rfl
              refine zqp 9 (some 8) (zqB 10 1023) (any_of HT_.out (by kernel_rfl)) (h := ?_)
              refine done_ (done_of HT_.out (by kernel_rfl)) ?_
              try go_wp2
              go_roundg k2
              case measure => have := HK1.out; have := HK2.out; omega
              case rel => exact ⟨(false), (wrap64 (x6_2 + 1)), (by first | rfl | (simp; done) | (simp [*]; done)), (by first | rfl | (simp; done) | (simp [*]; done)), H', ⟨by have := HK1.out; have := HK2.out; omega⟩, ⟨by (with_reducible repeat (first | apply Kd.V_alloc | apply Kd.V_drewN | apply Kd.V_drew)); exact HO_0.out⟩, ⟨by (with_reducible repeat (first | apply Kd.N_alloc | apply Kd.N_drewN | apply Kd.N_drew)); exact HO_3.out⟩, ⟨by repeat (first | (with_reducible first | exact HB.out | apply zqg | apply zqf | apply zqh) | exact HB.out)⟩⟩
           ·
            replace c14 := Bool.eq_false_iff.mpr c14
            subst c14
            have H1 : (haulierref13_Front.l1 k2 l0 x3_1 x4_1 x5_2 (wrap64 (x6_2 + 1))) = some r := by rw [if_neg (show ¬ (false = true) by decide)] at H; exact H
            clear H
            have H := H1
            clear H1
            have H' := zqi H
            clear H
            try go_wp2
            have n0_ := zqi (Kd.V_drew HO_0.out)
            have n1_ := zqi (Kd.N_drew HO_3.out)
            have n2_ := zqi (zqh HB.out)
            clear HO_0
            clear HO_3
            clear HB
            have HO_0 := n0_
            have HO_3 := n1_
            have HB := n2_
            clear n0_ n1_ n2_
            have p139 : 0 ≤ (x6_2 : Int) := of_decide_eq_true (by first | (with_reducible assumption) | assumption)
            have q139 : x6_2 < (l0.length : Int) := of_decide_eq_true (by first | (with_reducible assumption) | assumption)
            obtain ⟨ad139, A139_9, c139_9, e139, hx139_0, hx139_1, hx139_2, hx139_3, hx139_4, hx139_5, hx139_6, hx139_7, hx139_8, hx139_9, hl139_9, hi139_9⟩ := at_T37 (Kd.V_reads' HO_0.out).2.2 x6_2 p139 q139
            cases e139
            obtain ⟨ce139, hce139, hMe139, hcc139⟩ := Kd.V_get HO_0.out z37 x6_2 p139 (by first | exact q139 | exact of_decide_eq_true (by first | (with_reducible assumption) | assumption) | (have e_ := (Kd.V_reads' HO_0.out).1; omega))
            obtain ⟨ua139_9, uc139_9, rfl, ul139_9, ge139_9⟩ := k37_openF hMe139
            have hv139_9 := hcc139 9 _ rfl
            rw [add_field _ _ 9 (by omega)] at hv139_9
            replace hv139_9 := Option.some.inj (hv139_9.symm.trans hx139_9)
            injection hv139_9 with hva_ hvn_ hvc_
            rw [hva_] at ge139_9
            rw [hvc_] at ul139_9
            have HL139_9 := zqi (show Kd.V (Kd.int .i64) 3 _ w.heap.size _ _ ((rd_T37 l0 x6_2).f2) from Kd.V_mk ul139_9 ge139_9)
            clear hva_ hvn_ hvc_ ge139_9 ul139_9
            clear hcc139 hce139
            have HR139_9 := zqi hi139_9
            have HC139_9 := zqi hl139_9
            clear hi139_9 hl139_9
            replace p139 := eq_true p139
            replace q139 := eq_true q139
            have p140 : 0 ≤ (x4_1 : Int) := of_decide_eq_true (by first | (with_reducible assumption) | assumption)
            have q140 : x4_1 < (l0.length : Int) := of_decide_eq_true (by first | (with_reducible assumption) | assumption)
            obtain ⟨ad140, A140_9, c140_9, e140, hx140_0, hx140_1, hx140_2, hx140_3, hx140_4, hx140_5, hx140_6, hx140_7, hx140_8, hx140_9, hl140_9, hi140_9⟩ := at_T37 (Kd.V_reads' HO_0.out).2.2 x4_1 p140 q140
            obtain rfl : ad139 = ad140 := (by injection e140)
            obtain ⟨ce140, hce140, hMe140, hcc140⟩ := Kd.V_get HO_0.out z37 x4_1 p140 (by first | exact q140 | exact of_decide_eq_true (by first | (with_reducible assumption) | assumption) | (have e_ := (Kd.V_reads' HO_0.out).1; omega))
            obtain ⟨ua140_9, uc140_9, rfl, ul140_9, ge140_9⟩ := k37_openF hMe140
            have hv140_9 := hcc140 9 _ rfl
            rw [add_field _ _ 9 (by omega)] at hv140_9
            replace hv140_9 := Option.some.inj (hv140_9.symm.trans hx140_9)
            injection hv140_9 with hva_ hvn_ hvc_
            rw [hva_] at ge140_9
            rw [hvc_] at ul140_9
            have HL140_9 := zqi (show Kd.V (Kd.int .i64) 3 _ w.heap.size _ _ ((rd_T37 l0 x4_1).f2) from Kd.V_mk ul140_9 ge140_9)
            clear hva_ hvn_ hvc_ ge140_9 ul140_9
            clear hcc140 hce140
            have HR140_9 := zqi hi140_9
            have HC140_9 := zqi hl140_9
            clear hi140_9 hl140_9
            replace p140 := eq_true p140
            replace q140 := eq_true q140
            refine start_ (n := 10) (S := fun w' => w'.cell? (ad139.add ((x6_2).toNat * 10)) = some (.int .i64 ((rd_T37 l0 x6_2).f0.f0)) ∧ w'.cell? ⟨(ad139.add ((x6_2).toNat * 10)).block, (ad139.add ((x6_2).toNat * 10)).off + 1, none⟩ = some (.int .i64 ((rd_T37 l0 x6_2).f0.f1)) ∧ w'.cell? ⟨(ad139.add ((x6_2).toNat * 10)).block, (ad139.add ((x6_2).toNat * 10)).off + 2, none⟩ = some (.int .i64 ((rd_T37 l0 x6_2).f0.f2)) ∧ w'.cell? ⟨(ad139.add ((x6_2).toNat * 10)).block, (ad139.add ((x6_2).toNat * 10)).off + 3, none⟩ = some (.int .i64 ((rd_T37 l0 x6_2).f0.f3)) ∧ w'.cell? ⟨(ad139.add ((x6_2).toNat * 10)).block, (ad139.add ((x6_2).toNat * 10)).off + 4, none⟩ = some (.int .i64 ((rd_T37 l0 x6_2).f0.f4)) ∧ w'.cell? ⟨(ad139.add ((x6_2).toNat * 10)).block, (ad139.add ((x6_2).toNat * 10)).off + 5, none⟩ = some (.int .u64 ((rd_T37 l0 x6_2).f0.f5)) ∧ w'.cell? ⟨(ad139.add ((x6_2).toNat * 10)).block, (ad139.add ((x6_2).toNat * 10)).off + 6, none⟩ = some (.int .u64 ((rd_T37 l0 x6_2).f0.f6)) ∧ w'.cell? ⟨(ad139.add ((x6_2).toNat * 10)).block, (ad139.add ((x6_2).toNat * 10)).off + 7, none⟩ = some (.int .u64 ((rd_T37 l0 x6_2).f0.f7)) ∧ w'.cell? ⟨(ad139.add ((x6_2).toNat * 10)).block, (ad139.add ((x6_2).toNat * 10)).off + 8, none⟩ = some (.int .i64 ((rd_T37 l0 x6_2).f1)) ∧ w'.cell? ⟨(ad139.add ((x6_2).toNat * 10)).block, (ad139.add ((x6_2).toNat * 10)).off + 9, none⟩ = some (.slice A139_9 ((rd_T37 l0 x6_2).f2).length c139_9) ∧ w'.cell? (ad139.add ((x4_1).toNat * 10)) = some (.int .i64 ((rd_T37 l0 x4_1).f0.f0)) ∧ w'.cell? ⟨(ad139.add ((x4_1).toNat * 10)).block, (ad139.add ((x4_1).toNat * 10)).off + 1, none⟩ = some (.int .i64 ((rd_T37 l0 x4_1).f0.f1)) ∧ w'.cell? ⟨(ad139.add ((x4_1).toNat * 10)).block, (ad139.add ((x4_1).toNat * 10)).off + 2, none⟩ = some (.int .i64 ((rd_T37 l0 x4_1).f0.f2)) ∧ w'.cell? ⟨(ad139.add ((x4_1).toNat * 10)).block, (ad139.add ((x4_1).toNat * 10)).off + 3, none⟩ = some (.int .i64 ((rd_T37 l0 x4_1).f0.f3)) ∧ w'.cell? ⟨(ad139.add ((x4_1).toNat * 10)).block, (ad139.add ((x4_1).toNat * 10)).off + 4, none⟩ = some (.int .i64 ((rd_T37 l0 x4_1).f0.f4)) ∧ w'.cell? ⟨(ad139.add ((x4_1).toNat * 10)).block, (ad139.add ((x4_1).toNat * 10)).off + 5, none⟩ = some (.int .u64 ((rd_T37 l0 x4_1).f0.f5)) ∧ w'.cell? ⟨(ad139.add ((x4_1).toNat * 10)).block, (ad139.add ((x4_1).toNat * 10)).off + 6, none⟩ = some (.int .u64 ((rd_T37 l0 x4_1).f0.f6)) ∧ w'.cell? ⟨(ad139.add ((x4_1).toNat * 10)).block, (ad139.add ((x4_1).toNat * 10)).off + 7, none⟩ = some (.int .u64 ((rd_T37 l0 x4_1).f0.f7)) ∧ w'.cell? ⟨(ad139.add ((x4_1).toNat * 10)).block, (ad139.add ((x4_1).toNat * 10)).off + 8, none⟩ = some (.int .i64 ((rd_T37 l0 x4_1).f1)) ∧ w'.cell? ⟨(ad139.add ((x4_1).toNat * 10)).block, (ad139.add ((x4_1).toNat * 10)).off + 9, none⟩ = some (.slice A140_9 ((rd_T37 l0 x4_1).f2).length c140_9)) (ds := []) (zqB 10 0) (by kernel_rfl) rfl rfl ⟨hx139_0, hx139_1, hx139_2, hx139_3, hx139_4, hx139_5, hx139_6, hx139_7, hx139_8, hx139_9, hx140_0, hx140_1, hx140_2, hx140_3, hx140_4, hx140_5, hx140_6, hx140_7, hx140_8, hx140_9⟩ (fun hHeld => ?_); refine with_tabW haulierref13_Front.tab9 haulierref13_Front.bits9 (fun HT_ HW_ => ?_)
            generalize wr.drew = w29 at HO_0 HO_3 HB HL139_9 HL140_9 HR139_9 HR140_9 hx139_0 hx139_1 hx139_2 hx139_3 hx139_4 hx139_5 hx139_6 hx139_7 hx139_8 hx139_9 hx140_0 hx140_1 hx140_2 hx140_3 hx140_4 hx140_5 hx140_6 hx140_7 hx140_8 hx140_9 hHeld ⊢
            refine zqp 0 (some 21) (zqB 10 1) (any_of HT_.out (by kernel_rfl)) (h := ?_)
            refine zqp 1 (some 22) (zqB 10 3) (any_of HT_.out (by kernel_rfl)) (h := ?_)
            refine zqp 2 (some 23) (zqB 10 7) (any_of HT_.out (by kernel_rfl)) (h := ?_)
            refine zqp 4 (some 25) (zqB 10 23) (any_of HT_.out (by kernel_rfl)) (h := ?_)
            refine zqp 5 (some 26) (zqB 10 55) (any_of HT_.out (by kernel_rfl)) (h := ?_)
            refine zqp 6 (some 27) (zqB 10 119) (any_of HT_.out (by kernel_rfl)) (h := ?_)
            refine zqt 3 (some 24) (zqB 10 127) (take_ofW HT_.out HW_.out (by kernel_rfl)) hHeld (h := ?_)
            refine zqt 7 (some 28) (zqB 10 255) (take_ofW HT_.out HW_.out (by kernel_rfl)) hHeld (h := ?_)
            refine one_ (i := 8) (N := some 29) (zqB 10 511) rfl rfl (one_of HT_.out (by kernel_rfl)) (by decide) (fun K hK => ?_)
            refine goes_ Try.func22 (by kernel_rfl) rfl #[.agg #[.int .i64 ((rd_T37 l0 x6_2).f0.f0), .int .i64 ((rd_T37 l0 x6_2).f0.f1), .int .i64 ((rd_T37 l0 x6_2).f0.f2), .int .i64 ((rd_T37 l0 x6_2).f0.f3), .int .i64 ((rd_T37 l0 x6_2).f0.f4), .int .u64 ((rd_T37 l0 x6_2).f0.f5), .int .u64 ((rd_T37 l0 x6_2).f0.f6), .int .u64 ((rd_T37 l0 x6_2).f0.f7), .int .i64 ((rd_T37 l0 x6_2).f1), .slice A139_9 ((rd_T37 l0 x6_2).f2).length c139_9], .agg #[.int .i64 ((rd_T37 l0 x4_1).f0.f0), .int .i64 ((rd_T37 l0 x4_1).f0.f1), .int .i64 ((rd_T37 l0 x4_1).f0.f2), .int .i64 ((rd_T37 l0 x4_1).f0.f3), .int .i64 ((rd_T37 l0 x4_1).f0.f4), .int .u64 ((rd_T37 l0 x4_1).f0.f5), .int .u64 ((rd_T37 l0 x4_1).f0.f6), .int .u64 ((rd_T37 l0 x4_1).f0.f7), .int .i64 ((rd_T37 l0 x4_1).f1), .slice A140_9 ((rd_T37 l0 x4_1).f2).length c140_9]] (by rfl) rfl rfl (by (try simp only [List.map_toArray, List.map_cons, List.map_nil]); first | done | rfl | (simp only [List.length_drop, List.length_take]; rfl)) ?_
            with_reducible refine (haulierref13_Than.calls k2 ((rd_T37 l0 x6_2).f0.f0) ((rd_T37 l0 x6_2).f0.f1) ((rd_T37 l0 x6_2).f0.f2) ((rd_T37 l0 x6_2).f0.f3) ((rd_T37 l0 x6_2).f0.f4) ((rd_T37 l0 x6_2).f0.f5) ((rd_T37 l0 x6_2).f0.f6) ((rd_T37 l0 x6_2).f0.f7) ((rd_T37 l0 x6_2).f1) _ _ ((rd_T37 l0 x6_2).f2) ((rd_T37 l0 x4_1).f0.f0) ((rd_T37 l0 x4_1).f0.f1) ((rd_T37 l0 x4_1).f0.f2) ((rd_T37 l0 x4_1).f0.f3) ((rd_T37 l0 x4_1).f0.f4) ((rd_T37 l0 x4_1).f0.f5) ((rd_T37 l0 x4_1).f0.f6) ((rd_T37 l0 x4_1).f0.f7) ((rd_T37 l0 x4_1).f1) _ _ ((rd_T37 l0 x4_1).f2) false _ ?side1 ?side2 ?side3 ?side4 A7.out).mono ?_
            (case side1 => repeat (first | exact (by repeat (first | (with_reducible exact HR139_9.out) | (with_reducible refine Kd.C_alloc ?_ _) | (with_reducible refine Kd.C_drewN ?_ _) | (with_reducible refine Kd.C_drew ?_) | exact HR139_9.out)) | (with_reducible refine Kd.C_alloc ?_ _) | (with_reducible refine Kd.C_drewN ?_ _) | (with_reducible refine Kd.C_drew ?_)))
            (case side2 => exact HC139_9.out)
            (case side3 => repeat (first | exact (by repeat (first | (with_reducible exact HR140_9.out) | (with_reducible refine Kd.C_alloc ?_ _) | (with_reducible refine Kd.C_drewN ?_ _) | (with_reducible refine Kd.C_drew ?_) | exact HR140_9.out)) | (with_reducible refine Kd.C_alloc ?_ _) | (with_reducible refine Kd.C_drewN ?_ _) | (with_reducible refine Kd.C_drew ?_)))
            (case side4 => exact HC140_9.out)
            rintro e w30 ⟨rfl, hb⟩
            have HS0_ := (hb.cell (World.block_lt_of_cell? _ _ (hHeld.1))).trans (hHeld.1)
            have HS1_ := (hb.cell (World.block_lt_of_cell? _ _ (hHeld.2.1))).trans (hHeld.2.1)
            have HS2_ := (hb.cell (World.block_lt_of_cell? _ _ (hHeld.2.2.1))).trans (hHeld.2.2.1)
            have HS3_ := (hb.cell (World.block_lt_of_cell? _ _ (hHeld.2.2.2.1))).trans (hHeld.2.2.2.1)
            have HS4_ := (hb.cell (World.block_lt_of_cell? _ _ (hHeld.2.2.2.2.1))).trans (hHeld.2.2.2.2.1)
            have HS5_ := (hb.cell (World.block_lt_of_cell? _ _ (hHeld.2.2.2.2.2.1))).trans (hHeld.2.2.2.2.2.1)
            have HS6_ := (hb.cell (World.block_lt_of_cell? _ _ (hHeld.2.2.2.2.2.2.1))).trans (hHeld.2.2.2.2.2.2.1)
            have HS7_ := (hb.cell (World.block_lt_of_cell? _ _ (hHeld.2.2.2.2.2.2.2.1))).trans (hHeld.2.2.2.2.2.2.2.1)
            have HS8_ := (hb.cell (World.block_lt_of_cell? _ _ (hHeld.2.2.2.2.2.2.2.2.1))).trans (hHeld.2.2.2.2.2.2.2.2.1)
            have HS9_ := (hb.cell (World.block_lt_of_cell? _ _ (hHeld.2.2.2.2.2.2.2.2.2.1))).trans (hHeld.2.2.2.2.2.2.2.2.2.1)
            have HS10_ := (hb.cell (World.block_lt_of_cell? _ _ (hHeld.2.2.2.2.2.2.2.2.2.2.1))).trans (hHeld.2.2.2.2.2.2.2.2.2.2.1)
            have HS11_ := (hb.cell (World.block_lt_of_cell? _ _ (hHeld.2.2.2.2.2.2.2.2.2.2.2.1))).trans (hHeld.2.2.2.2.2.2.2.2.2.2.2.1)
            have HS12_ := (hb.cell (World.block_lt_of_cell? _ _ (hHeld.2.2.2.2.2.2.2.2.2.2.2.2.1))).trans (hHeld.2.2.2.2.2.2.2.2.2.2.2.2.1)
            have HS13_ := (hb.cell (World.block_lt_of_cell? _ _ (hHeld.2.2.2.2.2.2.2.2.2.2.2.2.2.1))).trans (hHeld.2.2.2.2.2.2.2.2.2.2.2.2.2.1)
            have HS14_ := (hb.cell (World.block_lt_of_cell? _ _ (hHeld.2.2.2.2.2.2.2.2.2.2.2.2.2.2.1))).trans (hHeld.2.2.2.2.2.2.2.2.2.2.2.2.2.2.1)
            have HS15_ := (hb.cell (World.block_lt_of_cell? _ _ (hHeld.2.2.2.2.2.2.2.2.2.2.2.2.2.2.2.1))).trans (hHeld.2.2.2.2.2.2.2.2.2.2.2.2.2.2.2.1)
            have HS16_ := (hb.cell (World.block_lt_of_cell? _ _ (hHeld.2.2.2.2.2.2.2.2.2.2.2.2.2.2.2.2.1))).trans (hHeld.2.2.2.2.2.2.2.2.2.2.2.2.2.2.2.2.1)
            have HS17_ := (hb.cell (World.block_lt_of_cell? _ _ (hHeld.2.2.2.2.2.2.2.2.2.2.2.2.2.2.2.2.2.1))).trans (hHeld.2.2.2.2.2.2.2.2.2.2.2.2.2.2.2.2.2.1)
            have HS18_ := (hb.cell (World.block_lt_of_cell? _ _ (hHeld.2.2.2.2.2.2.2.2.2.2.2.2.2.2.2.2.2.2.1))).trans (hHeld.2.2.2.2.2.2.2.2.2.2.2.2.2.2.2.2.2.2.1)
            have HS19_ := (hb.cell (World.block_lt_of_cell? _ _ (hHeld.2.2.2.2.2.2.2.2.2.2.2.2.2.2.2.2.2.2.2))).trans (hHeld.2.2.2.2.2.2.2.2.2.2.2.2.2.2.2.2.2.2.2)
            refine ⟨_, rfl, ?_⟩
            have n0_ := zqi (Kd.V_below (by (with_reducible repeat (first | apply Kd.V_alloc | apply Kd.V_drewN | apply Kd.V_drew)); exact HO_0.out) hb)
            have n1_ := zqi (Kd.N_below (by (with_reducible repeat (first | apply Kd.N_alloc | apply Kd.N_drewN | apply Kd.N_drew)); exact HO_3.out) hb)
            have n2_ := zqi (Kd.V_below (by (with_reducible repeat (first | apply Kd.V_alloc | apply Kd.V_drewN | apply Kd.V_drew)); exact HL139_9.out) hb)
            have n3_ := zqi (Kd.V_below (by (with_reducible repeat (first | apply Kd.V_alloc | apply Kd.V_drewN | apply Kd.V_drew)); exact HL140_9.out) hb)
            have n4_ := zqi (Kd.C_below (by repeat (first | (with_reducible exact HR139_9.out) | (with_reducible refine Kd.C_alloc ?_ _) | (with_reducible refine Kd.C_drewN ?_ _) | (with_reducible refine Kd.C_drew ?_) | exact HR139_9.out)) hb)
            have n5_ := zqi (Kd.C_below (by repeat (first | (with_reducible exact HR140_9.out) | (with_reducible refine Kd.C_alloc ?_ _) | (with_reducible refine Kd.C_drewN ?_ _) | (with_reducible refine Kd.C_drew ?_) | exact HR140_9.out)) hb)
            have n6_ := zqi (below_step (zqn HB.out) hb)
            clear HO_0
            clear HO_3
            clear HL139_9
            clear HL140_9
            clear HR139_9
            clear HR140_9
            clear HB
            have HO_0 := n0_
            have HO_3 := n1_
            have HL139_9 := n2_
            have HL140_9 := n3_
            have HR139_9 := n4_
            have HR140_9 := n5_
            have HB := n6_
            clear n0_ n1_ n2_ n3_ n4_ n5_ n6_
            (try clear hb)
            (try clear hb2)
            (try clear hk)
            (try clear hi)
            refine hK.out _ _ ⟨HS0_, HS1_, HS2_, HS3_, HS4_, HS5_, HS6_, HS7_, HS8_, HS9_, HS10_, HS11_, HS12_, HS13_, HS14_, HS15_, HS16_, HS17_, HS18_, HS19_⟩ (fun hHeld => ?_)
            clear hK K
            refine norm_ (a' := ?_) ?_ ?_
            rotate_left
            ·
             show Act.put _ (some 29) _ = _
             simp only [Act.put, List.setIfInBounds_toArray, List.set_cons_zero, List.set_cons_succ, i64_w, i32_w]
             rfl
            refine zqp 9 (some 7) (zqB 10 1023) (any_of HT_.out (by kernel_rfl)) (h := ?_)
            refine done_ (done_of HT_.out (by kernel_rfl)) ?_
            try go_wp2
            have n0_ := zqi (Kd.V_drew HO_0.out)
            have n1_ := zqi (Kd.N_drew HO_3.out)
            have n2_ := zqi (Kd.V_drew HL139_9.out)
            have n3_ := zqi (Kd.V_drew HL140_9.out)
            have n4_ := zqi (Kd.C_drew HR139_9.out)
            have n5_ := zqi (Kd.C_drew HR140_9.out)
            have n6_ := zqi (zqh HB.out)
            clear HO_0
            clear HO_3
            clear HL139_9
            clear HL140_9
            clear HR139_9
            clear HR140_9
            clear HB
            have HO_0 := n0_
            have HO_3 := n1_
            have HL139_9 := n2_
            have HL140_9 := n3_
            have HR139_9 := n4_
            have HR140_9 := n5_
            have HB := n6_
            clear n0_ n1_ n2_ n3_ n4_ n5_ n6_
            have p142 : 0 ≤ (x4_1 : Int) := of_decide_eq_true (by first | (with_reducible assumption) | assumption)
            have q142 : x4_1 < (l0.length : Int) := of_decide_eq_true (by first | (with_reducible assumption) | assumption)
            obtain ⟨ad142, A142_9, c142_9, e142, hx142_0, hx142_1, hx142_2, hx142_3, hx142_4, hx142_5, hx142_6, hx142_7, hx142_8, hx142_9, hl142_9, hi142_9⟩ := at_T37 (Kd.V_reads' HO_0.out).2.2 x4_1 p142 q142
            obtain rfl : ad139 = ad142 := (by injection e142)
            obtain ⟨ce142, hce142, hMe142, hcc142⟩ := Kd.V_get HO_0.out z37 x4_1 p142 (by first | exact q142 | exact of_decide_eq_true (by first | (with_reducible assumption) | assumption) | (have e_ := (Kd.V_reads' HO_0.out).1; omega))
            obtain ⟨ua142_9, uc142_9, rfl, ul142_9, ge142_9⟩ := k37_openF hMe142
            have hv142_9 := hcc142 9 _ rfl
            rw [add_field _ _ 9 (by omega)] at hv142_9
            replace hv142_9 := Option.some.inj (hv142_9.symm.trans hx142_9)
            injection hv142_9 with hva_ hvn_ hvc_
            rw [hva_] at ge142_9
            rw [hvc_] at ul142_9
            have HL142_9 := zqi (show Kd.V (Kd.int .i64) 3 _ w.heap.size _ _ ((rd_T37 l0 x4_1).f2) from Kd.V_mk ul142_9 ge142_9)
            clear hva_ hvn_ hvc_ ge142_9 ul142_9
            clear hcc142 hce142
            have HR142_9 := zqi hi142_9
            have HC142_9 := zqi hl142_9
            clear hi142_9 hl142_9
            replace p142 := eq_true p142
            replace q142 := eq_true q142
            have p143 : 0 ≤ (x6_2 : Int) := of_decide_eq_true (by first | (with_reducible assumption) | assumption)
            have q143 : x6_2 < (l0.length : Int) := of_decide_eq_true (by first | (with_reducible assumption) | assumption)
            obtain ⟨ad143, A143_9, c143_9, e143, hx143_0, hx143_1, hx143_2, hx143_3, hx143_4, hx143_5, hx143_6, hx143_7, hx143_8, hx143_9, hl143_9, hi143_9⟩ := at_T37 (Kd.V_reads' HO_0.out).2.2 x6_2 p143 q143
            obtain rfl : ad139 = ad143 := (by injection e143)
            obtain ⟨ce143, hce143, hMe143, hcc143⟩ := Kd.V_get HO_0.out z37 x6_2 p143 (by first | exact q143 | exact of_decide_eq_true (by first | (with_reducible assumption) | assumption) | (have e_ := (Kd.V_reads' HO_0.out).1; omega))
            obtain ⟨ua143_9, uc143_9, rfl, ul143_9, ge143_9⟩ := k37_openF hMe143
            have hv143_9 := hcc143 9 _ rfl
            rw [add_field _ _ 9 (by omega)] at hv143_9
            replace hv143_9 := Option.some.inj (hv143_9.symm.trans hx143_9)
            injection hv143_9 with hva_ hvn_ hvc_
            rw [hva_] at ge143_9
            rw [hvc_] at ul143_9
            have HL143_9 := zqi (show Kd.V (Kd.int .i64) 3 _ w.heap.size _ _ ((rd_T37 l0 x6_2).f2) from Kd.V_mk ul143_9 ge143_9)
            clear hva_ hvn_ hvc_ ge143_9 ul143_9
            clear hcc143 hce143
            have HR143_9 := zqi hi143_9
            have HC143_9 := zqi hl143_9
            clear hi143_9 hl143_9
            replace p143 := eq_true p143
            replace q143 := eq_true q143
            refine start_ (n := 10) (S := fun w' => w'.cell? (ad139.add ((x4_1).toNat * 10)) = some (.int .i64 ((rd_T37 l0 x4_1).f0.f0)) ∧ w'.cell? ⟨(ad139.add ((x4_1).toNat * 10)).block, (ad139.add ((x4_1).toNat * 10)).off + 1, none⟩ = some (.int .i64 ((rd_T37 l0 x4_1).f0.f1)) ∧ w'.cell? ⟨(ad139.add ((x4_1).toNat * 10)).block, (ad139.add ((x4_1).toNat * 10)).off + 2, none⟩ = some (.int .i64 ((rd_T37 l0 x4_1).f0.f2)) ∧ w'.cell? ⟨(ad139.add ((x4_1).toNat * 10)).block, (ad139.add ((x4_1).toNat * 10)).off + 3, none⟩ = some (.int .i64 ((rd_T37 l0 x4_1).f0.f3)) ∧ w'.cell? ⟨(ad139.add ((x4_1).toNat * 10)).block, (ad139.add ((x4_1).toNat * 10)).off + 4, none⟩ = some (.int .i64 ((rd_T37 l0 x4_1).f0.f4)) ∧ w'.cell? ⟨(ad139.add ((x4_1).toNat * 10)).block, (ad139.add ((x4_1).toNat * 10)).off + 5, none⟩ = some (.int .u64 ((rd_T37 l0 x4_1).f0.f5)) ∧ w'.cell? ⟨(ad139.add ((x4_1).toNat * 10)).block, (ad139.add ((x4_1).toNat * 10)).off + 6, none⟩ = some (.int .u64 ((rd_T37 l0 x4_1).f0.f6)) ∧ w'.cell? ⟨(ad139.add ((x4_1).toNat * 10)).block, (ad139.add ((x4_1).toNat * 10)).off + 7, none⟩ = some (.int .u64 ((rd_T37 l0 x4_1).f0.f7)) ∧ w'.cell? ⟨(ad139.add ((x4_1).toNat * 10)).block, (ad139.add ((x4_1).toNat * 10)).off + 8, none⟩ = some (.int .i64 ((rd_T37 l0 x4_1).f1)) ∧ w'.cell? ⟨(ad139.add ((x4_1).toNat * 10)).block, (ad139.add ((x4_1).toNat * 10)).off + 9, none⟩ = some (.slice A142_9 ((rd_T37 l0 x4_1).f2).length c142_9) ∧ w'.cell? (ad139.add ((x6_2).toNat * 10)) = some (.int .i64 ((rd_T37 l0 x6_2).f0.f0)) ∧ w'.cell? ⟨(ad139.add ((x6_2).toNat * 10)).block, (ad139.add ((x6_2).toNat * 10)).off + 1, none⟩ = some (.int .i64 ((rd_T37 l0 x6_2).f0.f1)) ∧ w'.cell? ⟨(ad139.add ((x6_2).toNat * 10)).block, (ad139.add ((x6_2).toNat * 10)).off + 2, none⟩ = some (.int .i64 ((rd_T37 l0 x6_2).f0.f2)) ∧ w'.cell? ⟨(ad139.add ((x6_2).toNat * 10)).block, (ad139.add ((x6_2).toNat * 10)).off + 3, none⟩ = some (.int .i64 ((rd_T37 l0 x6_2).f0.f3)) ∧ w'.cell? ⟨(ad139.add ((x6_2).toNat * 10)).block, (ad139.add ((x6_2).toNat * 10)).off + 4, none⟩ = some (.int .i64 ((rd_T37 l0 x6_2).f0.f4)) ∧ w'.cell? ⟨(ad139.add ((x6_2).toNat * 10)).block, (ad139.add ((x6_2).toNat * 10)).off + 5, none⟩ = some (.int .u64 ((rd_T37 l0 x6_2).f0.f5)) ∧ w'.cell? ⟨(ad139.add ((x6_2).toNat * 10)).block, (ad139.add ((x6_2).toNat * 10)).off + 6, none⟩ = some (.int .u64 ((rd_T37 l0 x6_2).f0.f6)) ∧ w'.cell? ⟨(ad139.add ((x6_2).toNat * 10)).block, (ad139.add ((x6_2).toNat * 10)).off + 7, none⟩ = some (.int .u64 ((rd_T37 l0 x6_2).f0.f7)) ∧ w'.cell? ⟨(ad139.add ((x6_2).toNat * 10)).block, (ad139.add ((x6_2).toNat * 10)).off + 8, none⟩ = some (.int .i64 ((rd_T37 l0 x6_2).f1)) ∧ w'.cell? ⟨(ad139.add ((x6_2).toNat * 10)).block, (ad139.add ((x6_2).toNat * 10)).off + 9, none⟩ = some (.slice A143_9 ((rd_T37 l0 x6_2).f2).length c143_9)) (ds := []) (zqB 10 0) (by kernel_rfl) rfl rfl ⟨hx142_0, hx142_1, hx142_2, hx142_3, hx142_4, hx142_5, hx142_6, hx142_7, hx142_8, hx142_9, hx143_0, hx143_1, hx143_2, hx143_3, hx143_4, hx143_5, hx143_6, hx143_7, hx143_8, hx143_9⟩ (fun hHeld => ?_); refine with_tabW haulierref13_Front.tab10 haulierref13_Front.bits10 (fun HT_ HW_ => ?_)
            generalize w30.drew = w31 at HO_0 HO_3 HL139_9 HL140_9 HR139_9 HR140_9 HB HL142_9 HL143_9 HR142_9 HR143_9 hx142_0 hx142_1 hx142_2 hx142_3 hx142_4 hx142_5 hx142_6 hx142_7 hx142_8 hx142_9 hx143_0 hx143_1 hx143_2 hx143_3 hx143_4 hx143_5 hx143_6 hx143_7 hx143_8 hx143_9 hHeld ⊢
            refine zqp 0 (some 30) (zqB 10 1) (any_of HT_.out (by kernel_rfl)) (h := ?_)
            refine zqp 1 (some 31) (zqB 10 3) (any_of HT_.out (by kernel_rfl)) (h := ?_)
            refine zqp 2 (some 32) (zqB 10 7) (any_of HT_.out (by kernel_rfl)) (h := ?_)
            refine zqp 4 (some 34) (zqB 10 23) (any_of HT_.out (by kernel_rfl)) (h := ?_)
            refine zqp 5 (some 35) (zqB 10 55) (any_of HT_.out (by kernel_rfl)) (h := ?_)
            refine zqp 6 (some 36) (zqB 10 119) (any_of HT_.out (by kernel_rfl)) (h := ?_)
            refine zqt 3 (some 33) (zqB 10 127) (take_ofW HT_.out HW_.out (by kernel_rfl)) hHeld (h := ?_)
            refine zqt 7 (some 37) (zqB 10 255) (take_ofW HT_.out HW_.out (by kernel_rfl)) hHeld (h := ?_)
            refine one_ (i := 8) (N := some 38) (zqB 10 511) rfl rfl (one_of HT_.out (by kernel_rfl)) (by decide) (fun K hK => ?_)
            refine goes_ Try.func22 (by kernel_rfl) rfl #[.agg #[.int .i64 ((rd_T37 l0 x4_1).f0.f0), .int .i64 ((rd_T37 l0 x4_1).f0.f1), .int .i64 ((rd_T37 l0 x4_1).f0.f2), .int .i64 ((rd_T37 l0 x4_1).f0.f3), .int .i64 ((rd_T37 l0 x4_1).f0.f4), .int .u64 ((rd_T37 l0 x4_1).f0.f5), .int .u64 ((rd_T37 l0 x4_1).f0.f6), .int .u64 ((rd_T37 l0 x4_1).f0.f7), .int .i64 ((rd_T37 l0 x4_1).f1), .slice A142_9 ((rd_T37 l0 x4_1).f2).length c142_9], .agg #[.int .i64 ((rd_T37 l0 x6_2).f0.f0), .int .i64 ((rd_T37 l0 x6_2).f0.f1), .int .i64 ((rd_T37 l0 x6_2).f0.f2), .int .i64 ((rd_T37 l0 x6_2).f0.f3), .int .i64 ((rd_T37 l0 x6_2).f0.f4), .int .u64 ((rd_T37 l0 x6_2).f0.f5), .int .u64 ((rd_T37 l0 x6_2).f0.f6), .int .u64 ((rd_T37 l0 x6_2).f0.f7), .int .i64 ((rd_T37 l0 x6_2).f1), .slice A143_9 ((rd_T37 l0 x6_2).f2).length c143_9]] (by rfl) rfl rfl (by (try simp only [List.map_toArray, List.map_cons, List.map_nil]); first | done | rfl | (simp only [List.length_drop, List.length_take]; rfl)) ?_
            with_reducible refine (haulierref13_Than.calls k2 ((rd_T37 l0 x4_1).f0.f0) ((rd_T37 l0 x4_1).f0.f1) ((rd_T37 l0 x4_1).f0.f2) ((rd_T37 l0 x4_1).f0.f3) ((rd_T37 l0 x4_1).f0.f4) ((rd_T37 l0 x4_1).f0.f5) ((rd_T37 l0 x4_1).f0.f6) ((rd_T37 l0 x4_1).f0.f7) ((rd_T37 l0 x4_1).f1) _ _ ((rd_T37 l0 x4_1).f2) ((rd_T37 l0 x6_2).f0.f0) ((rd_T37 l0 x6_2).f0.f1) ((rd_T37 l0 x6_2).f0.f2) ((rd_T37 l0 x6_2).f0.f3) ((rd_T37 l0 x6_2).f0.f4) ((rd_T37 l0 x6_2).f0.f5) ((rd_T37 l0 x6_2).f0.f6) ((rd_T37 l0 x6_2).f0.f7) ((rd_T37 l0 x6_2).f1) _ _ ((rd_T37 l0 x6_2).f2) t144 _ ?side1 ?side2 ?side3 ?side4 A8.out).mono ?_
            (case side1 => repeat (first | exact (by repeat (first | (with_reducible exact HR142_9.out) | (with_reducible refine Kd.C_alloc ?_ _) | (with_reducible refine Kd.C_drewN ?_ _) | (with_reducible refine Kd.C_drew ?_) | exact HR142_9.out)) | (with_reducible refine Kd.C_alloc ?_ _) | (with_reducible refine Kd.C_drewN ?_ _) | (with_reducible refine Kd.C_drew ?_)))
            (case side2 => exact HC142_9.out)
            (case side3 => repeat (first | exact (by repeat (first | (with_reducible exact HR143_9.out) | (with_reducible refine Kd.C_alloc ?_ _) | (with_reducible refine Kd.C_drewN ?_ _) | (with_reducible refine Kd.C_drew ?_) | exact HR143_9.out)) | (with_reducible refine Kd.C_alloc ?_ _) | (with_reducible refine Kd.C_drewN ?_ _) | (with_reducible refine Kd.C_drew ?_)))
            (case side4 => exact HC143_9.out)
            rintro e w32 ⟨rfl, hb⟩
            have HS0_ := (hb.cell (World.block_lt_of_cell? _ _ (hHeld.1))).trans (hHeld.1)
            have HS1_ := (hb.cell (World.block_lt_of_cell? _ _ (hHeld.2.1))).trans (hHeld.2.1)
            have HS2_ := (hb.cell (World.block_lt_of_cell? _ _ (hHeld.2.2.1))).trans (hHeld.2.2.1)
            have HS3_ := (hb.cell (World.block_lt_of_cell? _ _ (hHeld.2.2.2.1))).trans (hHeld.2.2.2.1)
            have HS4_ := (hb.cell (World.block_lt_of_cell? _ _ (hHeld.2.2.2.2.1))).trans (hHeld.2.2.2.2.1)
            have HS5_ := (hb.cell (World.block_lt_of_cell? _ _ (hHeld.2.2.2.2.2.1))).trans (hHeld.2.2.2.2.2.1)
            have HS6_ := (hb.cell (World.block_lt_of_cell? _ _ (hHeld.2.2.2.2.2.2.1))).trans (hHeld.2.2.2.2.2.2.1)
            have HS7_ := (hb.cell (World.block_lt_of_cell? _ _ (hHeld.2.2.2.2.2.2.2.1))).trans (hHeld.2.2.2.2.2.2.2.1)
            have HS8_ := (hb.cell (World.block_lt_of_cell? _ _ (hHeld.2.2.2.2.2.2.2.2.1))).trans (hHeld.2.2.2.2.2.2.2.2.1)
            have HS9_ := (hb.cell (World.block_lt_of_cell? _ _ (hHeld.2.2.2.2.2.2.2.2.2.1))).trans (hHeld.2.2.2.2.2.2.2.2.2.1)
            have HS10_ := (hb.cell (World.block_lt_of_cell? _ _ (hHeld.2.2.2.2.2.2.2.2.2.2.1))).trans (hHeld.2.2.2.2.2.2.2.2.2.2.1)
            have HS11_ := (hb.cell (World.block_lt_of_cell? _ _ (hHeld.2.2.2.2.2.2.2.2.2.2.2.1))).trans (hHeld.2.2.2.2.2.2.2.2.2.2.2.1)
            have HS12_ := (hb.cell (World.block_lt_of_cell? _ _ (hHeld.2.2.2.2.2.2.2.2.2.2.2.2.1))).trans (hHeld.2.2.2.2.2.2.2.2.2.2.2.2.1)
            have HS13_ := (hb.cell (World.block_lt_of_cell? _ _ (hHeld.2.2.2.2.2.2.2.2.2.2.2.2.2.1))).trans (hHeld.2.2.2.2.2.2.2.2.2.2.2.2.2.1)
            have HS14_ := (hb.cell (World.block_lt_of_cell? _ _ (hHeld.2.2.2.2.2.2.2.2.2.2.2.2.2.2.1))).trans (hHeld.2.2.2.2.2.2.2.2.2.2.2.2.2.2.1)
            have HS15_ := (hb.cell (World.block_lt_of_cell? _ _ (hHeld.2.2.2.2.2.2.2.2.2.2.2.2.2.2.2.1))).trans (hHeld.2.2.2.2.2.2.2.2.2.2.2.2.2.2.2.1)
            have HS16_ := (hb.cell (World.block_lt_of_cell? _ _ (hHeld.2.2.2.2.2.2.2.2.2.2.2.2.2.2.2.2.1))).trans (hHeld.2.2.2.2.2.2.2.2.2.2.2.2.2.2.2.2.1)
            have HS17_ := (hb.cell (World.block_lt_of_cell? _ _ (hHeld.2.2.2.2.2.2.2.2.2.2.2.2.2.2.2.2.2.1))).trans (hHeld.2.2.2.2.2.2.2.2.2.2.2.2.2.2.2.2.2.1)
            have HS18_ := (hb.cell (World.block_lt_of_cell? _ _ (hHeld.2.2.2.2.2.2.2.2.2.2.2.2.2.2.2.2.2.2.1))).trans (hHeld.2.2.2.2.2.2.2.2.2.2.2.2.2.2.2.2.2.2.1)
            have HS19_ := (hb.cell (World.block_lt_of_cell? _ _ (hHeld.2.2.2.2.2.2.2.2.2.2.2.2.2.2.2.2.2.2.2))).trans (hHeld.2.2.2.2.2.2.2.2.2.2.2.2.2.2.2.2.2.2.2)
            refine ⟨_, rfl, ?_⟩
            have n0_ := zqi (Kd.V_below (by (with_reducible repeat (first | apply Kd.V_alloc | apply Kd.V_drewN | apply Kd.V_drew)); exact HO_0.out) hb)
            have n1_ := zqi (Kd.N_below (by (with_reducible repeat (first | apply Kd.N_alloc | apply Kd.N_drewN | apply Kd.N_drew)); exact HO_3.out) hb)
            have n2_ := zqi (Kd.V_below (by (with_reducible repeat (first | apply Kd.V_alloc | apply Kd.V_drewN | apply Kd.V_drew)); exact HL139_9.out) hb)
            have n3_ := zqi (Kd.V_below (by (with_reducible repeat (first | apply Kd.V_alloc | apply Kd.V_drewN | apply Kd.V_drew)); exact HL140_9.out) hb)
            have n4_ := zqi (Kd.V_below (by (with_reducible repeat (first | apply Kd.V_alloc | apply Kd.V_drewN | apply Kd.V_drew)); exact HL142_9.out) hb)
            have n5_ := zqi (Kd.V_below (by (with_reducible repeat (first | apply Kd.V_alloc | apply Kd.V_drewN | apply Kd.V_drew)); exact HL143_9.out) hb)
            have n6_ := zqi (Kd.C_below (by repeat (first | (with_reducible exact HR139_9.out) | (with_reducible refine Kd.C_alloc ?_ _) | (with_reducible refine Kd.C_drewN ?_ _) | (with_reducible refine Kd.C_drew ?_) | exact HR139_9.out)) hb)
            have n7_ := zqi (Kd.C_below (by repeat (first | (with_reducible exact HR140_9.out) | (with_reducible refine Kd.C_alloc ?_ _) | (with_reducible refine Kd.C_drewN ?_ _) | (with_reducible refine Kd.C_drew ?_) | exact HR140_9.out)) hb)
            have n8_ := zqi (Kd.C_below (by repeat (first | (with_reducible exact HR142_9.out) | (with_reducible refine Kd.C_alloc ?_ _) | (with_reducible refine Kd.C_drewN ?_ _) | (with_reducible refine Kd.C_drew ?_) | exact HR142_9.out)) hb)
            have n9_ := zqi (Kd.C_below (by repeat (first | (with_reducible exact HR143_9.out) | (with_reducible refine Kd.C_alloc ?_ _) | (with_reducible refine Kd.C_drewN ?_ _) | (with_reducible refine Kd.C_drew ?_) | exact HR143_9.out)) hb)
            have n10_ := zqi (below_step (zqn HB.out) hb)
            clear HO_0
            clear HO_3
            clear HL139_9
            clear HL140_9
            clear HL142_9
            clear HL143_9
            clear HR139_9
            clear HR140_9
            clear HR142_9
            clear HR143_9
            clear HB
            have HO_0 := n0_
            have HO_3 := n1_
            have HL139_9 := n2_
            have HL140_9 := n3_
            have HL142_9 := n4_
            have HL143_9 := n5_
            have HR139_9 := n6_
            have HR140_9 := n7_
            have HR142_9 := n8_
            have HR143_9 := n9_
            have HB := n10_
            clear n0_ n1_ n2_ n3_ n4_ n5_ n6_ n7_ n8_ n9_ n10_
            (try clear hb)
            (try clear hb2)
            (try clear hk)
            (try clear hi)
            refine hK.out _ _ ⟨HS0_, HS1_, HS2_, HS3_, HS4_, HS5_, HS6_, HS7_, HS8_, HS9_, HS10_, HS11_, HS12_, HS13_, HS14_, HS15_, HS16_, HS17_, HS18_, HS19_⟩ (fun hHeld => ?_)
            clear hK K
            refine norm_ (a' := ?_) ?_ ?_
            rotate_left
            ·
             show Act.put _ (some 38) _ = _
             simp only [Act.put, List.setIfInBounds_toArray, List.set_cons_zero, List.set_cons_succ, i64_w, i32_w]
             rfl
            refine zqp 9 (some 8) (zqB 10 1023) (any_of HT_.out (by kernel_rfl)) (h := ?_)
            refine done_ (done_of HT_.out (by kernel_rfl)) ?_
            try go_wp2
            go_roundg k2
            case measure => have := HK1.out; have := HK2.out; omega
            case rel => exact ⟨(x5_2), (wrap64 (x6_2 + 1)), (by first | rfl | (simp; done) | (simp [*]; done)), (by first | rfl | (simp; done) | (simp [*]; done)), H', ⟨by have := HK1.out; have := HK2.out; omega⟩, ⟨by (with_reducible repeat (first | apply Kd.V_alloc | apply Kd.V_drewN | apply Kd.V_drew)); exact HO_0.out⟩, ⟨by (with_reducible repeat (first | apply Kd.N_alloc | apply Kd.N_drewN | apply Kd.N_drew)); exact HO_3.out⟩, ⟨by repeat (first | (with_reducible first | exact HB.out | apply zqg | apply zqf | apply zqh) | exact HB.out)⟩⟩
         ·
          rw [if_neg c6] at H
          exact absurd H (by simp)
        ·
         rw [if_neg c5] at H
         exact absurd H (by simp)
       ·
        rw [if_neg c4] at H
        exact absurd H (by simp)
      ·
       rw [if_neg c3] at H
       have c3b0 : decide (x6_2 < (l0.length : Int)) = false := decide_eq_false c3
       clear c3
       by_cases c33 : x5_2 = true
       ·
        subst c33
        have H1 : (if 0 ≤ x4_1 then (if x4_1 < (l0.length : Int) then (if x3_1.length < 1466015503701 then (haulierref13_Front.l0 k2 l0 (x3_1 ++ [(⟨(⟨(rd_T37 l0 x4_1).f0.f0, (rd_T37 l0 x4_1).f0.f1, (rd_T37 l0 x4_1).f0.f2, (rd_T37 l0 x4_1).f0.f3, (rd_T37 l0 x4_1).f0.f4, (rd_T37 l0 x4_1).f0.f5, (rd_T37 l0 x4_1).f0.f6, (rd_T37 l0 x4_1).f0.f7⟩ : S24), (rd_T37 l0 x4_1).f1, (rd_T37 l0 x4_1).f2⟩ : S37)]) (wrap64 (x4_1 + 1))) else (none)) else (none)) else (none)) = some r := by rw [if_pos rfl] at H; exact H
        clear H
        have H := H1
        clear H1
        by_cases c34 : 0 ≤ x4_1
        ·
         rw [if_pos c34] at H
         have c34b0 : decide (0 ≤ x4_1) = true := decide_eq_true c34
         clear c34
         by_cases c35 : x4_1 < (l0.length : Int)
         ·
          rw [if_pos c35] at H
          have c35b0 : decide (x4_1 < (l0.length : Int)) = true := decide_eq_true c35
          clear c35
          by_cases c36 : x3_1.length < 1466015503701
          ·
           rw [if_pos c36] at H
           have LMc36 := zqi c36
           clear c36
           obtain ⟨y136, hy136⟩ : ∃ y_ : List (S37), y_ = (x3_1 ++ [(⟨(⟨(rd_T37 l0 x4_1).f0.f0, (rd_T37 l0 x4_1).f0.f1, (rd_T37 l0 x4_1).f0.f2, (rd_T37 l0 x4_1).f0.f3, (rd_T37 l0 x4_1).f0.f4, (rd_T37 l0 x4_1).f0.f5, (rd_T37 l0 x4_1).f0.f6, (rd_T37 l0 x4_1).f0.f7⟩ : S24), (rd_T37 l0 x4_1).f1, (rd_T37 l0 x4_1).f2⟩ : S37)]) := ⟨_, rfl⟩
           replace H : (haulierref13_Front.l0 k2 l0 y136 (wrap64 (x4_1 + 1))) = some r := by first | (rw [hy136]; with_reducible exact H) | (have H2_ := (Option.bind_some _ _).symm.trans H; rw [hy136]; with_reducible exact H2_) | (have H2_ := (Option.bind_some _ _).symm.trans H; with_reducible exact H2_) | with_reducible exact H | (rw [hy136]; exact H) | exact H
           have Ny136 := zqi hy136
           clear hy136
           have H' := zqi H
           clear H
           have p135 : 0 ≤ (x4_1 : Int) := of_decide_eq_true (by first | (with_reducible assumption) | assumption)
           have q135 : x4_1 < (l0.length : Int) := of_decide_eq_true (by first | (with_reducible assumption) | assumption)
           obtain ⟨ad135, A135_9, c135_9, e135, hx135_0, hx135_1, hx135_2, hx135_3, hx135_4, hx135_5, hx135_6, hx135_7, hx135_8, hx135_9, hl135_9, hi135_9⟩ := at_T37 (Kd.V_reads' HO_0.out).2.2 x4_1 p135 q135
           cases e135
           obtain ⟨ce135, hce135, hMe135, hcc135⟩ := Kd.V_get HO_0.out z37 x4_1 p135 (by first | exact q135 | exact of_decide_eq_true (by first | (with_reducible assumption) | assumption) | (have e_ := (Kd.V_reads' HO_0.out).1; omega))
           obtain ⟨ua135_9, uc135_9, rfl, ul135_9, ge135_9⟩ := k37_openF hMe135
           have hv135_9 := hcc135 9 _ rfl
           rw [add_field _ _ 9 (by omega)] at hv135_9
           replace hv135_9 := Option.some.inj (hv135_9.symm.trans hx135_9)
           injection hv135_9 with hva_ hvn_ hvc_
           rw [hva_] at ge135_9
           rw [hvc_] at ul135_9
           have HL135_9 := zqi (show Kd.V (Kd.int .i64) 3 _ w.heap.size _ _ ((rd_T37 l0 x4_1).f2) from Kd.V_mk ul135_9 ge135_9)
           clear hva_ hvn_ hvc_ ge135_9 ul135_9
           clear hcc135 hce135
           have HR135_9 := zqi hi135_9
           have HC135_9 := zqi hl135_9
           clear hi135_9 hl135_9
           replace p135 := eq_true p135
           replace q135 := eq_true q135
           go_wp2_with (first | ((with_reducible refine gate_builtin (b := .append) (xs := #[.tmp 55, .tmp 60]) rfl ?_); at_builtin; refine Kd.N_append k37 (w0 := w) w.heap.size rfl (.tmp 55) (.tmp 60) 38 37 (.agg #[(.int .i64 0), (.int .i64 0), (.int .i64 0), (.int .i64 0), (.int .i64 0), (.int .u64 0), (.int .u64 0), (.int .u64 0), (.int .i64 0), (.slice none 0 0)]) 96 rfl Try.underlying38 info37 rfl (by decide) (by omega) u3 x3_1 (⟨(⟨(rd_T37 l0 x4_1).f0.f0, (rd_T37 l0 x4_1).f0.f1, (rd_T37 l0 x4_1).f0.f2, (rd_T37 l0 x4_1).f0.f3, (rd_T37 l0 x4_1).f0.f4, (rd_T37 l0 x4_1).f0.f5, (rd_T37 l0 x4_1).f0.f6, (rd_T37 l0 x4_1).f0.f7⟩ : S24), (rd_T37 l0 x4_1).f1, (rd_T37 l0 x4_1).f2⟩ : S37) [.int .i64 ((rd_T37 l0 x4_1).f0.f0), .int .i64 ((rd_T37 l0 x4_1).f0.f1), .int .i64 ((rd_T37 l0 x4_1).f0.f2), .int .i64 ((rd_T37 l0 x4_1).f0.f3), .int .i64 ((rd_T37 l0 x4_1).f0.f4), .int .u64 ((rd_T37 l0 x4_1).f0.f5), .int .u64 ((rd_T37 l0 x4_1).f0.f6), .int .u64 ((rd_T37 l0 x4_1).f0.f7), .int .i64 ((rd_T37 l0 x4_1).f1), .slice A135_9 ((rd_T37 l0 x4_1).f2).length c135_9] (fun k_ => (P0_ k_ ∨ w.heap.size ≤ k_)) (fun k_ => ((fun k_ => (P0_ k_ ∨ w.heap.size ≤ k_))) k_ ∧ some k_ ≠ (u3 : Value).ownBlock) rfl rfl ?aP (fun _ hk => hk) ?aF ?aO ?aB ?aS ?aL ?_; (case aP => exact (k37_mkF _ _ (⟨(⟨(rd_T37 l0 x4_1).f0.f0, (rd_T37 l0 x4_1).f0.f1, (rd_T37 l0 x4_1).f0.f2, (rd_T37 l0 x4_1).f0.f3, (rd_T37 l0 x4_1).f0.f4, (rd_T37 l0 x4_1).f0.f5, (rd_T37 l0 x4_1).f0.f6, (rd_T37 l0 x4_1).f0.f7⟩ : S24), (rd_T37 l0 x4_1).f1, (rd_T37 l0 x4_1).f2⟩ : S37) (Kd.V_reads' (Kd.V_mono (ok' := (fun k_ => ((fun k_ => (P0_ k_ ∨ w.heap.size ≤ k_))) k_ ∧ some k_ ≠ (u3 : Value).ownBlock)) (HL135_9.out) (fun k_ hk => ⟨hk.1, hk.2⟩))).2.1 (Kd.V_F (Kd.V_mono (ok' := (fun k_ => ((fun k_ => (P0_ k_ ∨ w.heap.size ≤ k_))) k_ ∧ some k_ ≠ (u3 : Value).ownBlock)) (HL135_9.out) (fun k_ hk => ⟨hk.1, hk.2⟩))))); (case aB => exact (zqn HB.out)); (case aF => exact (fun k_ hk => (.inr (Nat.le_trans (below_size (zqn HB.out)) hk)))); (case aO => exact (by (with_reducible repeat (first | apply Kd.N_alloc | apply Kd.N_drewN | apply Kd.N_drew)); exact HO_3.out)); (case aS => exact (below_size (zqn HB.out))); (case aL => have := LMc36.out; omega); intro v137 w37 ho hb hg hat; rw [← Ny136.out] at ho; have n0_ := zqi (Kd.V_afterv (ok := (fun k_ => (P0_ k_ ∨ w.heap.size ≤ k_))) (by (with_reducible repeat (first | apply Kd.V_alloc | apply Kd.V_drewN | apply Kd.V_drew)); exact HO_0.out) hg hat); have n1_ := zqi (Kd.V_afterv (ok := (fun k_ => (P0_ k_ ∨ w.heap.size ≤ k_))) (by (with_reducible repeat (first | apply Kd.V_alloc | apply Kd.V_drewN | apply Kd.V_drew)); exact HL135_9.out) hg hat); have n2_ := zqi (hb); have n3_ := zqi (ho); clear HO_0; clear HL135_9; clear HB; clear HO_3; have HO_0 := n0_; have HL135_9 := n1_; have HB := n2_; have HO138 := n3_; clear n0_ n1_ n2_ n3_; clear ho hb hg hat))
           go_roundg k2
           case measure => have := HK1.out; have := HK2.out; omega
           case rel => exact ⟨(y136), (wrap64 (x4_1 + 1)), (by first | rfl | (simp; done) | (simp [*]; done)), H', ⟨by have := HK1.out; have := HK2.out; omega⟩, ⟨by (with_reducible repeat (first | apply Kd.V_alloc | apply Kd.V_drewN | apply Kd.V_drew)); exact HO_0.out⟩, ⟨by (with_reducible repeat (first | apply Kd.N_alloc | apply Kd.N_drewN | apply Kd.N_drew)); exact HO138.out⟩, ⟨by repeat (first | (with_reducible first | exact HB.out | apply zqg | apply zqf | apply zqh) | exact HB.out)⟩⟩
          ·
           rw [if_neg c36] at H
           exact absurd H (by simp)
         ·
          rw [if_neg c35] at H
          exact absurd H (by simp)
        ·
         rw [if_neg c34] at H
         exact absurd H (by simp)
       ·
        replace c33 := Bool.eq_false_iff.mpr c33
        subst c33
        have H1 : (haulierref13_Front.l0 k2 l0 x3_1 (wrap64 (x4_1 + 1))) = some r := by rw [if_neg (show ¬ (false = true) by decide)] at H; exact H
        clear H
        have H := H1
        clear H1
        have H' := zqi H
        clear H
        go_wp2
        go_roundg k2
        case measure => have := HK1.out; have := HK2.out; omega
        case rel => exact ⟨(x3_1), (wrap64 (x4_1 + 1)), (by first | rfl | (simp; done) | (simp [*]; done)), H', ⟨by have := HK1.out; have := HK2.out; omega⟩, ⟨by (with_reducible repeat (first | apply Kd.V_alloc | apply Kd.V_drewN | apply Kd.V_drew)); exact HO_0.out⟩, ⟨by (with_reducible repeat (first | apply Kd.N_alloc | apply Kd.N_drewN | apply Kd.N_drew)); exact HO_3.out⟩, ⟨by repeat (first | (with_reducible first | exact HB.out | apply zqg | apply zqf | apply zqh) | exact HB.out)⟩⟩
   ·
    rw [if_neg c2] at H
    have c2b0 : decide (x4_1 < (l0.length : Int)) = false := decide_eq_false c2
    clear c2
    obtain rfl := Option.some.inj H
    go_wp2
    go_ret
    exact ⟨_, by first | rfl | (simp [errW_none, errW_some] <;> rfl) | (simp [*, errW_none, errW_some] <;> rfl), by (with_reducible repeat (first | apply Kd.N_alloc | apply Kd.N_drewN | apply Kd.N_drew)); exact HO_3.out, by repeat (first | (with_reducible first | exact HB.out | apply zqg | apply zqf | apply zqh) | exact HB.out)⟩

end Go.Proofs.Ytkcdpnigcbcalaa.PB
