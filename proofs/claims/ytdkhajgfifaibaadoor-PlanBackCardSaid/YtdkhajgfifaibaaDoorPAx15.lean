-- Printed for this claim by wip/tools/xprint.py over the kit's print; the contracts marked BY HAND are this session's own.
import Derived.Test.YtdkhajgfifaibaaDoorPAx0
import Derived.Test.YtdkhajgfifaibaaDoorPAx3
import Derived.Test.YtdkhajgfifaibaaDoorPAx4
import Derived.Test.YtdkhajgfifaibaaDoorPAx13
import Derived.Test.YtdkhajgfifaibaaDoorPAx14
namespace Go.Proofs.YtdkhajgfifaibaaDoor.PA
open Go.RowKit Go.Proofs.YtdkhajgfifaibaaDoorW.PrintWords Go.Proofs.YtdkhajgfifaibaaDoorW.PrintLast Go.Proofs.YtdkhajgfifaibaaDoorW.PrintMore
attribute [local go_sem] max2_int min2_int max_two min_two max_three min_three max_four min_four   -- for this text's walks alone
set_option linter.unusedVariables false
set_option linter.unusedSimpArgs false

/-! ### haulierlaw08_PlanBack: function 4 -/
mutual
def haulierlaw08_PlanBack.j0 : Nat → Bool → Bool → List (List Int) → Option (Bool)
  | 0, _, _, _ => none
  | k + 1, x3, x20, x277000 => if x20 = true then (some x3) else (haulierlaw08_PlanBack.l0 k 0 x277000)
def haulierlaw08_PlanBack.l0 : Nat → Int → List (List Int) → Option (Bool)
  | 0, _, _ => none
  | k + 1, x5, x277000 => if x5 < (x277000.length : Int) then (haulierlaw08_PlanBack.l1 k x5 0 x277000) else ((plan_Print.f k x277000).bind fun t284 => ((plan_Parse.f k t284).bind fun bt287 => (if (t284.length : Int) > 4096 then (some (bt287.2 == 6)) else ((plan_Sorted.f k x277000).bind fun t292 => ((haulierref04_Same.f k bt287.1 t292).bind fun t296 => (if bt287.2 = 0 then (if t296 = true then ((plan_Same.f k x277000 bt287.1).bind fun t297 => (some t297)) else (none)) else (none)))))))
def haulierlaw08_PlanBack.l1 : Nat → Int → Int → List (List Int) → Option (Bool)
  | 0, _, _, _ => none
  | k + 1, x5, x6, x277000 => if 0 ≤ x5 then (if x5 < (x277000.length : Int) then (if x6 < ((rd_L1 x277000 x5).length : Int) then (if 0 ≤ x6 then (if (rd (rd_L1 x277000 x5) x6) < 1 then (some true) else (if (rd (rd_L1 x277000 x5) x6) > 1000000 then (some true) else (haulierlaw08_PlanBack.l1 k x5 (wrap64 (x6 + 1)) x277000))) else (none)) else (haulierlaw08_PlanBack.l0 k (wrap64 (x5 + 1)) x277000)) else (none)) else (none)
end
def haulierlaw08_PlanBack.f (k : Nat) (l0_0 : List (List Int)) : Option (Bool) := (haulierlaw08_awake.f k).bind fun t277 => ((haulierlaw08_Few.f k l0_0).bind fun t278 => (if t277 = true then (haulierlaw08_PlanBack.j0 k t277 (!t278) l0_0) else (haulierlaw08_PlanBack.j0 k t277 true l0_0)))
theorem haulierlaw08_PlanBack.mono_l : ∀ k, (∀ y0 y1 y2, LeO (haulierlaw08_PlanBack.j0 k y0 y1 y2) (haulierlaw08_PlanBack.j0 (k + 1) y0 y1 y2)) ∧ (∀ y0 y1, LeO (haulierlaw08_PlanBack.l0 k y0 y1) (haulierlaw08_PlanBack.l0 (k + 1) y0 y1)) ∧ (∀ y0 y1 y2, LeO (haulierlaw08_PlanBack.l1 k y0 y1 y2) (haulierlaw08_PlanBack.l1 (k + 1) y0 y1 y2))
  | 0 => ⟨fun _ _ _ r h => by simp [haulierlaw08_PlanBack.j0] at h, fun _ _ r h => by simp [haulierlaw08_PlanBack.l0] at h, fun _ _ _ r h => by simp [haulierlaw08_PlanBack.l1] at h⟩
  | k + 1 => by
    obtain ⟨ih0, ih1, ih2⟩ := haulierlaw08_PlanBack.mono_l k
    refine ⟨?_, ?_, ?_⟩
    · intro y0 y1 y2
      unfold haulierlaw08_PlanBack.j0
      repeat' first
      | (with_reducible exact ih0 _ _ _)
      | (with_reducible exact ih1 _ _)
      | (with_reducible exact ih2 _ _ _)
      | (with_reducible exact haulierlaw08_Few.mono _ _)
      | (with_reducible exact haulierlaw08_awake.mono _)
      | (with_reducible exact haulierref04_Same.mono _ _ _)
      | (with_reducible exact plan_Parse.mono _ _)
      | (with_reducible exact plan_Print.mono _ _)
      | (with_reducible exact plan_Same.mono _ _ _)
      | (with_reducible exact plan_Sorted.mono _ _)
      | (with_reducible exact LeO.refl _)
      | (with_reducible exact LeO.none _)
      | (with_reducible refine LeO.ite ?_ ?_)
      | (with_reducible refine LeO.bind ?_ (fun _ => ?_))
      | exact ih0 _ _ _
      | exact ih1 _ _
      | exact ih2 _ _ _
      | exact haulierlaw08_Few.mono _ _
      | exact haulierlaw08_awake.mono _
      | exact haulierref04_Same.mono _ _ _
      | exact plan_Parse.mono _ _
      | exact plan_Print.mono _ _
      | exact plan_Same.mono _ _ _
      | exact plan_Sorted.mono _ _
      | exact LeO.none _
      | refine LeO.ite ?_ ?_
      | refine LeO.bind ?_ (fun _ => ?_)
    · intro y0 y1
      unfold haulierlaw08_PlanBack.l0
      repeat' first
      | (with_reducible exact ih0 _ _ _)
      | (with_reducible exact ih1 _ _)
      | (with_reducible exact ih2 _ _ _)
      | (with_reducible exact haulierlaw08_Few.mono _ _)
      | (with_reducible exact haulierlaw08_awake.mono _)
      | (with_reducible exact haulierref04_Same.mono _ _ _)
      | (with_reducible exact plan_Parse.mono _ _)
      | (with_reducible exact plan_Print.mono _ _)
      | (with_reducible exact plan_Same.mono _ _ _)
      | (with_reducible exact plan_Sorted.mono _ _)
      | (with_reducible exact LeO.refl _)
      | (with_reducible exact LeO.none _)
      | (with_reducible refine LeO.ite ?_ ?_)
      | (with_reducible refine LeO.bind ?_ (fun _ => ?_))
      | exact ih0 _ _ _
      | exact ih1 _ _
      | exact ih2 _ _ _
      | exact haulierlaw08_Few.mono _ _
      | exact haulierlaw08_awake.mono _
      | exact haulierref04_Same.mono _ _ _
      | exact plan_Parse.mono _ _
      | exact plan_Print.mono _ _
      | exact plan_Same.mono _ _ _
      | exact plan_Sorted.mono _ _
      | exact LeO.none _
      | refine LeO.ite ?_ ?_
      | refine LeO.bind ?_ (fun _ => ?_)
    · intro y0 y1 y2
      unfold haulierlaw08_PlanBack.l1
      repeat' first
      | (with_reducible exact ih0 _ _ _)
      | (with_reducible exact ih1 _ _)
      | (with_reducible exact ih2 _ _ _)
      | (with_reducible exact haulierlaw08_Few.mono _ _)
      | (with_reducible exact haulierlaw08_awake.mono _)
      | (with_reducible exact haulierref04_Same.mono _ _ _)
      | (with_reducible exact plan_Parse.mono _ _)
      | (with_reducible exact plan_Print.mono _ _)
      | (with_reducible exact plan_Same.mono _ _ _)
      | (with_reducible exact plan_Sorted.mono _ _)
      | (with_reducible exact LeO.refl _)
      | (with_reducible exact LeO.none _)
      | (with_reducible refine LeO.ite ?_ ?_)
      | (with_reducible refine LeO.bind ?_ (fun _ => ?_))
      | exact ih0 _ _ _
      | exact ih1 _ _
      | exact ih2 _ _ _
      | exact haulierlaw08_Few.mono _ _
      | exact haulierlaw08_awake.mono _
      | exact haulierref04_Same.mono _ _ _
      | exact plan_Parse.mono _ _
      | exact plan_Print.mono _ _
      | exact plan_Same.mono _ _ _
      | exact plan_Sorted.mono _ _
      | exact LeO.none _
      | refine LeO.ite ?_ ?_
      | refine LeO.bind ?_ (fun _ => ?_)
theorem haulierlaw08_PlanBack.mono : ∀ a0 k, LeO (haulierlaw08_PlanBack.f k a0) (haulierlaw08_PlanBack.f (k + 1) a0) := by
  intro a0 k
  obtain ⟨ih0, ih1, ih2⟩ := haulierlaw08_PlanBack.mono_l k
  unfold haulierlaw08_PlanBack.f
  repeat' first
      | (with_reducible exact ih0 _ _ _)
      | (with_reducible exact ih1 _ _)
      | (with_reducible exact ih2 _ _ _)
      | (with_reducible exact haulierlaw08_Few.mono _ _)
      | (with_reducible exact haulierlaw08_awake.mono _)
      | (with_reducible exact haulierref04_Same.mono _ _ _)
      | (with_reducible exact plan_Parse.mono _ _)
      | (with_reducible exact plan_Print.mono _ _)
      | (with_reducible exact plan_Same.mono _ _ _)
      | (with_reducible exact plan_Sorted.mono _ _)
      | (with_reducible exact LeO.refl _)
      | (with_reducible exact LeO.none _)
      | (with_reducible refine LeO.ite ?_ ?_)
      | (with_reducible refine LeO.bind ?_ (fun _ => ?_))
      | exact ih0 _ _ _
      | exact ih1 _ _
      | exact ih2 _ _ _
      | exact haulierlaw08_Few.mono _ _
      | exact haulierlaw08_awake.mono _
      | exact haulierref04_Same.mono _ _ _
      | exact plan_Parse.mono _ _
      | exact plan_Print.mono _ _
      | exact plan_Same.mono _ _ _
      | exact plan_Sorted.mono _ _
      | exact LeO.none _
      | refine LeO.ite ?_ ?_
      | refine LeO.bind ?_ (fun _ => ?_)
set_option maxHeartbeats 16000000 in
set_option maxRecDepth 100000 in
theorem haulierlaw08_PlanBack.calls (k : Nat) (A0_0 : Option Addr) (c0_0 : Nat) (l0_0 : List (List Int)) (r : Bool) (w : World) (hr0_0 : Kd.C (Kd.slice 3 (Kd.int .i64)) w A0_0 l0_0.length l0_0) (hc0_0 : l0_0.length ≤ c0_0) (h : haulierlaw08_PlanBack.f k l0_0 = some r) (hT : Go.Proofs.YtdkhajgfifaibaaDoor.Scan.NumTab w) :
  Calls Tryd.prog 4 #[.agg #[.slice A0_0 l0_0.length c0_0]] w fun e w' => e = .returned (.bool r) ∧ Below w.heap.size w w' := by
 have HT := zqi hT
 clear hT
 have hu24 := Tryd.underlying24
 have HR0_0 := zqi hr0_0
 have HC0_0 := zqi hc0_0
 clear hr0_0 hc0_0
 have HB := zqi (Below.refl w.heap.size w)
 have H : ((haulierlaw08_awake.f k).bind fun t277 => ((haulierlaw08_Few.f k l0_0).bind fun t278 => (if t277 = true then (haulierlaw08_PlanBack.j0 k t277 (!t278) l0_0) else (haulierlaw08_PlanBack.j0 k t277 true l0_0)))) = some r := h
 clear h
 replace H := Option.bind_eq_some_iff.mp H
 obtain ⟨t277, A20, H⟩ := H
 replace H : ((haulierlaw08_Few.f k l0_0).bind fun t278 => (if t277 = true then (haulierlaw08_PlanBack.j0 k t277 (!t278) l0_0) else (haulierlaw08_PlanBack.j0 k t277 true l0_0))) = some r := H
 have A2 := zqi A20
 clear A20
 replace H := Option.bind_eq_some_iff.mp H
 obtain ⟨t278, A30, H⟩ := H
 replace H : (if t277 = true then (haulierlaw08_PlanBack.j0 k t277 (!t278) l0_0) else (haulierlaw08_PlanBack.j0 k t277 true l0_0)) = some r := H
 have A3 := zqi A30
 clear A30
 have HC4 := zqi H
 clear H
 go_enter Tryd.func4, Tryd.ntmps4
 go_upto_region 3 with (first | ((with_reducible refine gate_dst (N := 1) rfl ?_); refine box_event ?hg (N := 1) ?hd (cs := #[.slice A0_0 l0_0.length c0_0]) (t := 24) ?hr ?_; (case hd => rfl); (case hg => rfl); (case hr => first | (go_simp; done) | (go_simp; rfl)); intro gb276 hg w5 hbox hb; have n0_ := zqi (below_step (zqn HB.out) hb); have n1_ := zqi (hbox); have n2_ := zqi (zqo hg HB.out); have n3_ := zqi (zqo hg HB.out); clear HB; have HB := n0_; have BK276 := n1_; have GW276 := n2_; have GE276 := n3_; clear n0_ n1_ n2_ n3_; clear hb hbox hg) | ((with_reducible refine gate_callee (f := 5) rfl ?_); refine goesL_ (some 12) rfl rfl Tryd.func5 (by kernel_rfl) rfl #[] rfl (by (try simp only [List.map_toArray, List.map_cons, List.map_nil]); first | done | rfl | (simp only [List.length_drop, List.length_take]; rfl)) ?_; (with_reducible refine (haulierlaw08_awake.calls k  t277 _ A2.out ?tab).mono ?_); (case tab => exact HT.out.on (zqn HB.out)); rintro e w6 ⟨rfl, hb⟩; refine ⟨_, rfl, ?_⟩; have n0_ := zqi (zqy BK276.out hb); have n1_ := zqi (below_step (zqn HB.out) hb); clear BK276; clear HB; have BK276 := n0_; have HB := n1_; clear n0_ n1_; (try clear hb); (try clear hb2); (try clear hk); (try clear hi); have hcz7_0 : w6.cell? ⟨gb276, 0, none⟩ = some (.slice A0_0 l0_0.length c0_0) := (zqe BK276.out 0).trans rfl; have hfz7_0 := zqd BK276.out 0) | ((with_reducible refine gate_callee (f := 6) rfl ?_); refine goesL_ (some 14) rfl rfl Tryd.func6 (by kernel_rfl) rfl #[.agg #[.slice A0_0 l0_0.length c0_0]] rfl (by (try simp only [List.map_toArray, List.map_cons, List.map_nil]); first | done | rfl | (simp only [List.length_drop, List.length_take]; rfl)) ?_; (with_reducible refine (haulierlaw08_Few.calls k _ _ l0_0 t278 _ ?side1 ?side2 A3.out).mono ?_); (case side1 => repeat (first | exact (Kd.C_below HR0_0.out HB.out) | (with_reducible refine Kd.C_alloc ?_ _) | (with_reducible refine Kd.C_drewN ?_ _) | (with_reducible refine Kd.C_drew ?_))); (case side2 => exact HC0_0.out); rintro e w8 ⟨rfl, hb⟩; refine ⟨_, rfl, ?_⟩; have n0_ := zqi (zqy BK276.out hb); have n1_ := zqi (below_step (zqn HB.out) hb); clear BK276; clear HB; have BK276 := n0_; have HB := n1_; clear n0_ n1_; (try clear hb); (try clear hb2); (try clear hk); (try clear hi)))
 (try simp only [Act.put, List.setIfInBounds_toArray, List.set_cons_zero, List.set_cons_succ])
 go_cut [20] (fun v20 wc => ∃ (kq : Nat) (x20_3 : Bool), v20 = .bool x20_3 ∧ Aside0 (haulierlaw08_PlanBack.j0 kq t277 x20_3 l0_0 = some r) ∧ Aside0 (kq ≤ k) ∧ Aside0 (wc.heap[gb276]? = some (.cells #[(.slice A0_0 l0_0.length c0_0)] 24 (0, 0))) ∧ Aside0 (Below w.heap.size w wc))
 case first =>
  have H := HC4.out
  clear HC4
  by_cases c9 : t277 = true
  ·
   subst c9
   have H1 : (haulierlaw08_PlanBack.j0 k true (!t278) l0_0) = some r := by rw [if_pos rfl] at H; exact H
   clear H
   have H := H1
   clear H1
   have H' := zqi H
   clear H
   go_wp2
   go_meet
   case rel => exact ⟨_, (!t278), (by first | rfl | (simp; done) | (simp [*]; done)), H', ⟨by first | omega | exact Nat.le_refl _⟩, ⟨by (with_reducible repeat (first | apply zqa | apply zqb | apply zqc)); exact BK276.out⟩, ⟨by repeat (first | (with_reducible first | exact HB.out | apply zqg | apply zqf | apply zqh | refine below_set ?_ GE276.out) | exact HB.out)⟩⟩
  ·
   replace c9 := Bool.eq_false_iff.mpr c9
   subst c9
   have H1 : (haulierlaw08_PlanBack.j0 k false true l0_0) = some r := by rw [if_neg (show ¬ (false = true) by decide)] at H; exact H
   clear H
   have H := H1
   clear H1
   have H' := zqi H
   clear H
   go_wp2
   go_meet
   case rel => exact ⟨_, (true), (by first | rfl | (simp; done) | (simp [*]; done)), H', ⟨by first | omega | exact Nat.le_refl _⟩, ⟨by (with_reducible repeat (first | apply zqa | apply zqb | apply zqc)); exact BK276.out⟩, ⟨by repeat (first | (with_reducible first | exact HB.out | apply zqg | apply zqf | apply zqh | refine below_set ?_ GE276.out) | exact HB.out)⟩⟩
 case rest =>
  clear HC4
  try clear p2
  try clear c4
  try clear c5
  try clear c6
  try clear c9
  try clear hcz7_0
  try clear hfz7_0
  obtain ⟨kq, x20_3, rfl, HA, HJ3, BK276, HB⟩ := hcut
  cases kq with
  | zero => exact absurd HA.out (by simp [haulierlaw08_PlanBack.j0])
  | succ kj3 =>
   have H := HA.out
   clear HA
   simp only [haulierlaw08_PlanBack.j0] at H
   by_cases c10 : x20_3 = true
   ·
    subst c10
    have H1 : (some t277) = some r := by rw [if_pos rfl] at H; exact H
    clear H
    have H := H1
    clear H1
    obtain rfl := Option.some.inj H
    go_wp2
    go_ret
    exact ⟨by first | rfl | (simp [errW_none, errW_some] <;> rfl) | (simp [*, errW_none, errW_some] <;> rfl), by repeat (first | (with_reducible first | exact HB.out | apply zqg | apply zqf | apply zqh | refine below_set ?_ GE276.out) | exact HB.out)⟩
   ·
    replace c10 := Bool.eq_false_iff.mpr c10
    subst c10
    have H1 : (haulierlaw08_PlanBack.l0 kj3 0 l0_0) = some r := by rw [if_neg (show ¬ (false = true) by decide)] at H; exact H
    clear H
    have H := H1
    clear H1
    have H' := zqi H
    clear H
    go_wp2
    go_loopg [5] kj3 (fun kq v5 w' => ∃ (x5_2 : Int), v5 = .int .i64 x5_2 ∧ Aside0 (haulierlaw08_PlanBack.l0 kq x5_2 l0_0 = some r) ∧ Aside0 (kq ≤ kj3) ∧ Aside0 (w'.heap[gb276]? = some (.cells #[(.slice A0_0 l0_0.length c0_0)] 24 (0, 0))) ∧ Aside0 (Below w.heap.size w w'))
    case atStart => exact ⟨(0), (by first | rfl | (simp; done) | (simp [*]; done)), H', ⟨Nat.le_refl _⟩, ⟨by (with_reducible repeat (first | apply zqa | apply zqb | apply zqc)); exact BK276.out⟩, ⟨by repeat (first | (with_reducible first | exact HB.out | apply zqg | apply zqf | apply zqh | refine below_set ?_ GE276.out) | exact HB.out)⟩⟩
    case round =>
     clear H'
     try clear c1
     try clear p2
     try clear c4
     try clear c5
     try clear c6
     try clear c9
     try clear c10
     try clear hcz7_0
     try clear hfz7_0
     try clear p2
     obtain ⟨x5_2, rfl, HA, HK2, BK276, HB⟩ := hrel
     cases gk with
     | zero => exact absurd HA.out (by simp [haulierlaw08_PlanBack.l0])
     | succ k2 =>
      have H := HA.out
      clear HA
      simp only [haulierlaw08_PlanBack.l0] at H
      by_cases c11 : x5_2 < (l0_0.length : Int)
      ·
       rw [if_pos c11] at H
       have c11b0 : decide (x5_2 < (l0_0.length : Int)) = true := decide_eq_true c11
       clear c11
       have H' := zqi H
       clear H
       have hcz12_0 : wr.cell? ⟨gb276, 0, none⟩ = some (.slice A0_0 l0_0.length c0_0) := (zqe BK276.out 0).trans rfl
       have hfz12_0 := zqd BK276.out 0
       go_wp2
       go_loopg [6] k2 (fun kq v6 w' => ∃ (x6_3 : Int), v6 = .int .i64 x6_3 ∧ Aside0 (haulierlaw08_PlanBack.l1 kq x5_2 x6_3 l0_0 = some r) ∧ Aside0 (kq ≤ k2) ∧ Aside0 (w'.heap[gb276]? = some (.cells #[(.slice A0_0 l0_0.length c0_0)] 24 (0, 0))) ∧ Aside0 (Below w.heap.size w w'))
       case atStart => exact ⟨(0), (by first | rfl | (simp; done) | (simp [*]; done)), H', ⟨Nat.le_refl _⟩, ⟨by (with_reducible repeat (first | apply zqa | apply zqb | apply zqc)); exact BK276.out⟩, ⟨by repeat (first | (with_reducible first | exact HB.out | apply zqg | apply zqf | apply zqh | refine below_set ?_ GE276.out) | exact HB.out)⟩⟩
       case round =>
        clear H'
        try clear c1
        try clear p2
        try clear c4
        try clear c5
        try clear c6
        try clear c9
        try clear c10
        try clear c11
        try clear c11b0
        try clear hcz12_0
        try clear hcz7_0
        try clear hfz12_0
        try clear hfz7_0
        try clear p2
        obtain ⟨x6_3, rfl, HA, HK3, BK276, HB⟩ := hrel
        cases gk with
        | zero => exact absurd HA.out (by simp [haulierlaw08_PlanBack.l1])
        | succ k3 =>
         have H := HA.out
         clear HA
         simp only [haulierlaw08_PlanBack.l1] at H
         by_cases c13 : 0 ≤ x5_2
         ·
          rw [if_pos c13] at H
          have c13b0 : decide (0 ≤ x5_2) = true := decide_eq_true c13
          clear c13
          by_cases c14 : x5_2 < (l0_0.length : Int)
          ·
           rw [if_pos c14] at H
           have c14b0 : decide (x5_2 < (l0_0.length : Int)) = true := decide_eq_true c14
           clear c14
           by_cases c15 : x6_3 < ((rd_L1 l0_0 x5_2).length : Int)
           ·
            rw [if_pos c15] at H
            have c15b0 : decide (x6_3 < ((rd_L1 l0_0 x5_2).length : Int)) = true := decide_eq_true c15
            clear c15
            by_cases c16 : 0 ≤ x6_3
            ·
             rw [if_pos c16] at H
             have c16b0 : decide (0 ≤ x6_3) = true := decide_eq_true c16
             clear c16
             by_cases c17 : (rd (rd_L1 l0_0 x5_2) x6_3) < 1
             ·
              rw [if_pos c17] at H
              have c17b0 : decide ((rd (rd_L1 l0_0 x5_2) x6_3) < 1) = true := decide_eq_true c17
              clear c17
              obtain rfl := Option.some.inj H
              have hcz18_0 : wr.cell? ⟨gb276, 0, none⟩ = some (.slice A0_0 l0_0.length c0_0) := (zqe BK276.out 0).trans rfl
              have hfz18_0 := zqd BK276.out 0
              have p279 : 0 ≤ (x5_2 : Int) := of_decide_eq_true (by first | (with_reducible assumption) | assumption)
              have q279 : x5_2 < (l0_0.length : Int) := of_decide_eq_true (by first | (with_reducible assumption) | assumption)
              obtain ⟨ad279, A279_0, c279_0, e279, hx279_0, hl279_0, hi279_0⟩ := at_L1 HR0_0.out x5_2 p279 q279
              cases e279
              replace hx279_0 := (HB.out.cell (World.block_lt_of_cell? w _ hx279_0)).trans hx279_0
              have HR279_0 := zqi hi279_0
              have HC279_0 := zqi hl279_0
              clear hi279_0 hl279_0
              replace p279 := eq_true p279
              replace q279 := eq_true q279
              have p280 : 0 ≤ (x5_2 : Int) := of_decide_eq_true (by first | (with_reducible assumption) | assumption)
              have q280 : x5_2 < (l0_0.length : Int) := of_decide_eq_true (by first | (with_reducible assumption) | assumption)
              obtain ⟨ad280, A280_0, c280_0, e280, hx280_0, hl280_0, hi280_0⟩ := at_L1 HR0_0.out x5_2 p280 q280
              obtain rfl : ad279 = ad280 := (by injection e280)
              replace hx280_0 := (HB.out.cell (World.block_lt_of_cell? w _ hx280_0)).trans hx280_0
              have HR280_0 := zqi hi280_0
              have HC280_0 := zqi hl280_0
              clear hi280_0 hl280_0
              replace p280 := eq_true p280
              replace q280 := eq_true q280
              have ea_ := Option.some.inj (hx279_0.symm.trans hx280_0)
              injection ea_ with ea_ en_ ec_
              subst ea_
              subst ec_
              clear en_
              have p281 : 0 ≤ (x6_3 : Int) := of_decide_eq_true (by first | (with_reducible assumption) | assumption)
              have q281 : x6_3 < ((rd_L1 l0_0 x5_2).length : Int) := of_decide_eq_true (by first | (with_reducible assumption) | assumption)
              obtain ⟨ad281, e281, hx281_0⟩ := Kd.at_int HR280_0.out x6_3 p281 q281
              cases e281
              replace hx281_0 := (HB.out.cell (World.block_lt_of_cell? w _ hx281_0)).trans hx281_0
              replace p281 := eq_true p281
              replace q281 := eq_true q281
              go_wp2
              go_ret
              exact ⟨by first | rfl | (simp [errW_none, errW_some] <;> rfl) | (simp [*, errW_none, errW_some] <;> rfl), by repeat (first | (with_reducible first | exact HB.out | apply zqg | apply zqf | apply zqh | refine below_set ?_ GE276.out) | exact HB.out)⟩
             ·
              rw [if_neg c17] at H
              have c17b0 : decide ((rd (rd_L1 l0_0 x5_2) x6_3) < 1) = false := decide_eq_false c17
              clear c17
              by_cases c19 : (rd (rd_L1 l0_0 x5_2) x6_3) > 1000000
              ·
               rw [if_pos c19] at H
               have c19b0 : decide (1000000 < (rd (rd_L1 l0_0 x5_2) x6_3)) = true := decide_eq_true c19
               clear c19
               obtain rfl := Option.some.inj H
               have hcz20_0 : wr.cell? ⟨gb276, 0, none⟩ = some (.slice A0_0 l0_0.length c0_0) := (zqe BK276.out 0).trans rfl
               have hfz20_0 := zqd BK276.out 0
               have p279 : 0 ≤ (x5_2 : Int) := of_decide_eq_true (by first | (with_reducible assumption) | assumption)
               have q279 : x5_2 < (l0_0.length : Int) := of_decide_eq_true (by first | (with_reducible assumption) | assumption)
               obtain ⟨ad279, A279_0, c279_0, e279, hx279_0, hl279_0, hi279_0⟩ := at_L1 HR0_0.out x5_2 p279 q279
               cases e279
               replace hx279_0 := (HB.out.cell (World.block_lt_of_cell? w _ hx279_0)).trans hx279_0
               have HR279_0 := zqi hi279_0
               have HC279_0 := zqi hl279_0
               clear hi279_0 hl279_0
               replace p279 := eq_true p279
               replace q279 := eq_true q279
               have p280 : 0 ≤ (x5_2 : Int) := of_decide_eq_true (by first | (with_reducible assumption) | assumption)
               have q280 : x5_2 < (l0_0.length : Int) := of_decide_eq_true (by first | (with_reducible assumption) | assumption)
               obtain ⟨ad280, A280_0, c280_0, e280, hx280_0, hl280_0, hi280_0⟩ := at_L1 HR0_0.out x5_2 p280 q280
               obtain rfl : ad279 = ad280 := (by injection e280)
               replace hx280_0 := (HB.out.cell (World.block_lt_of_cell? w _ hx280_0)).trans hx280_0
               have HR280_0 := zqi hi280_0
               have HC280_0 := zqi hl280_0
               clear hi280_0 hl280_0
               replace p280 := eq_true p280
               replace q280 := eq_true q280
               have ea_ := Option.some.inj (hx279_0.symm.trans hx280_0)
               injection ea_ with ea_ en_ ec_
               subst ea_
               subst ec_
               clear en_
               have p281 : 0 ≤ (x6_3 : Int) := of_decide_eq_true (by first | (with_reducible assumption) | assumption)
               have q281 : x6_3 < ((rd_L1 l0_0 x5_2).length : Int) := of_decide_eq_true (by first | (with_reducible assumption) | assumption)
               obtain ⟨ad281, e281, hx281_0⟩ := Kd.at_int HR280_0.out x6_3 p281 q281
               cases e281
               replace hx281_0 := (HB.out.cell (World.block_lt_of_cell? w _ hx281_0)).trans hx281_0
               replace p281 := eq_true p281
               replace q281 := eq_true q281
               have p282 : 0 ≤ (x5_2 : Int) := of_decide_eq_true (by first | (with_reducible assumption) | assumption)
               have q282 : x5_2 < (l0_0.length : Int) := of_decide_eq_true (by first | (with_reducible assumption) | assumption)
               obtain ⟨ad282, A282_0, c282_0, e282, hx282_0, hl282_0, hi282_0⟩ := at_L1 HR0_0.out x5_2 p282 q282
               obtain rfl : ad279 = ad282 := (by injection e282)
               replace hx282_0 := (HB.out.cell (World.block_lt_of_cell? w _ hx282_0)).trans hx282_0
               have HR282_0 := zqi hi282_0
               have HC282_0 := zqi hl282_0
               clear hi282_0 hl282_0
               replace p282 := eq_true p282
               replace q282 := eq_true q282
               have ea_ := Option.some.inj (hx279_0.symm.trans hx282_0)
               injection ea_ with ea_ en_ ec_
               subst ea_
               subst ec_
               clear en_
               have p283 : 0 ≤ (x6_3 : Int) := of_decide_eq_true (by first | (with_reducible assumption) | assumption)
               have q283 : x6_3 < ((rd_L1 l0_0 x5_2).length : Int) := of_decide_eq_true (by first | (with_reducible assumption) | assumption)
               obtain ⟨ad283, e283, hx283_0⟩ := Kd.at_int HR282_0.out x6_3 p283 q283
               cases e283
               replace hx283_0 := (HB.out.cell (World.block_lt_of_cell? w _ hx283_0)).trans hx283_0
               replace p283 := eq_true p283
               replace q283 := eq_true q283
               go_wp2
               go_ret
               exact ⟨by first | rfl | (simp [errW_none, errW_some] <;> rfl) | (simp [*, errW_none, errW_some] <;> rfl), by repeat (first | (with_reducible first | exact HB.out | apply zqg | apply zqf | apply zqh | refine below_set ?_ GE276.out) | exact HB.out)⟩
              ·
               rw [if_neg c19] at H
               have c19b0 : decide (1000000 < (rd (rd_L1 l0_0 x5_2) x6_3)) = false := decide_eq_false c19
               clear c19
               have H' := zqi H
               clear H
               have hcz21_0 : wr.cell? ⟨gb276, 0, none⟩ = some (.slice A0_0 l0_0.length c0_0) := (zqe BK276.out 0).trans rfl
               have hfz21_0 := zqd BK276.out 0
               have p279 : 0 ≤ (x5_2 : Int) := of_decide_eq_true (by first | (with_reducible assumption) | assumption)
               have q279 : x5_2 < (l0_0.length : Int) := of_decide_eq_true (by first | (with_reducible assumption) | assumption)
               obtain ⟨ad279, A279_0, c279_0, e279, hx279_0, hl279_0, hi279_0⟩ := at_L1 HR0_0.out x5_2 p279 q279
               cases e279
               replace hx279_0 := (HB.out.cell (World.block_lt_of_cell? w _ hx279_0)).trans hx279_0
               have HR279_0 := zqi hi279_0
               have HC279_0 := zqi hl279_0
               clear hi279_0 hl279_0
               replace p279 := eq_true p279
               replace q279 := eq_true q279
               have p280 : 0 ≤ (x5_2 : Int) := of_decide_eq_true (by first | (with_reducible assumption) | assumption)
               have q280 : x5_2 < (l0_0.length : Int) := of_decide_eq_true (by first | (with_reducible assumption) | assumption)
               obtain ⟨ad280, A280_0, c280_0, e280, hx280_0, hl280_0, hi280_0⟩ := at_L1 HR0_0.out x5_2 p280 q280
               obtain rfl : ad279 = ad280 := (by injection e280)
               replace hx280_0 := (HB.out.cell (World.block_lt_of_cell? w _ hx280_0)).trans hx280_0
               have HR280_0 := zqi hi280_0
               have HC280_0 := zqi hl280_0
               clear hi280_0 hl280_0
               replace p280 := eq_true p280
               replace q280 := eq_true q280
               have ea_ := Option.some.inj (hx279_0.symm.trans hx280_0)
               injection ea_ with ea_ en_ ec_
               subst ea_
               subst ec_
               clear en_
               have p281 : 0 ≤ (x6_3 : Int) := of_decide_eq_true (by first | (with_reducible assumption) | assumption)
               have q281 : x6_3 < ((rd_L1 l0_0 x5_2).length : Int) := of_decide_eq_true (by first | (with_reducible assumption) | assumption)
               obtain ⟨ad281, e281, hx281_0⟩ := Kd.at_int HR280_0.out x6_3 p281 q281
               cases e281
               replace hx281_0 := (HB.out.cell (World.block_lt_of_cell? w _ hx281_0)).trans hx281_0
               replace p281 := eq_true p281
               replace q281 := eq_true q281
               have p282 : 0 ≤ (x5_2 : Int) := of_decide_eq_true (by first | (with_reducible assumption) | assumption)
               have q282 : x5_2 < (l0_0.length : Int) := of_decide_eq_true (by first | (with_reducible assumption) | assumption)
               obtain ⟨ad282, A282_0, c282_0, e282, hx282_0, hl282_0, hi282_0⟩ := at_L1 HR0_0.out x5_2 p282 q282
               obtain rfl : ad279 = ad282 := (by injection e282)
               replace hx282_0 := (HB.out.cell (World.block_lt_of_cell? w _ hx282_0)).trans hx282_0
               have HR282_0 := zqi hi282_0
               have HC282_0 := zqi hl282_0
               clear hi282_0 hl282_0
               replace p282 := eq_true p282
               replace q282 := eq_true q282
               have ea_ := Option.some.inj (hx279_0.symm.trans hx282_0)
               injection ea_ with ea_ en_ ec_
               subst ea_
               subst ec_
               clear en_
               have p283 : 0 ≤ (x6_3 : Int) := of_decide_eq_true (by first | (with_reducible assumption) | assumption)
               have q283 : x6_3 < ((rd_L1 l0_0 x5_2).length : Int) := of_decide_eq_true (by first | (with_reducible assumption) | assumption)
               obtain ⟨ad283, e283, hx283_0⟩ := Kd.at_int HR282_0.out x6_3 p283 q283
               cases e283
               replace hx283_0 := (HB.out.cell (World.block_lt_of_cell? w _ hx283_0)).trans hx283_0
               replace p283 := eq_true p283
               replace q283 := eq_true q283
               go_wp2
               go_roundg k3
               case measure => have := HJ3.out; have := HK2.out; have := HK3.out; omega
               case rel => exact ⟨(wrap64 (x6_3 + 1)), (by first | rfl | (simp; done) | (simp [*]; done)), H', ⟨by have := HJ3.out; have := HK2.out; have := HK3.out; omega⟩, ⟨by (with_reducible repeat (first | apply zqa | apply zqb | apply zqc)); exact BK276.out⟩, ⟨by repeat (first | (with_reducible first | exact HB.out | apply zqg | apply zqf | apply zqh | refine below_set ?_ GE276.out) | exact HB.out)⟩⟩
            ·
             rw [if_neg c16] at H
             exact absurd H (by simp)
           ·
            rw [if_neg c15] at H
            have c15b0 : decide (x6_3 < ((rd_L1 l0_0 x5_2).length : Int)) = false := decide_eq_false c15
            clear c15
            have H' := zqi H
            clear H
            have hcz22_0 : wr.cell? ⟨gb276, 0, none⟩ = some (.slice A0_0 l0_0.length c0_0) := (zqe BK276.out 0).trans rfl
            have hfz22_0 := zqd BK276.out 0
            have p279 : 0 ≤ (x5_2 : Int) := of_decide_eq_true (by first | (with_reducible assumption) | assumption)
            have q279 : x5_2 < (l0_0.length : Int) := of_decide_eq_true (by first | (with_reducible assumption) | assumption)
            obtain ⟨ad279, A279_0, c279_0, e279, hx279_0, hl279_0, hi279_0⟩ := at_L1 HR0_0.out x5_2 p279 q279
            cases e279
            replace hx279_0 := (HB.out.cell (World.block_lt_of_cell? w _ hx279_0)).trans hx279_0
            have HR279_0 := zqi hi279_0
            have HC279_0 := zqi hl279_0
            clear hi279_0 hl279_0
            replace p279 := eq_true p279
            replace q279 := eq_true q279
            go_wp2
            go_roundg k3
            case measure => have := HJ3.out; have := HK2.out; have := HK3.out; omega
            case rel => exact ⟨(wrap64 (x5_2 + 1)), (by first | rfl | (simp; done) | (simp [*]; done)), H', ⟨by have := HJ3.out; have := HK2.out; have := HK3.out; omega⟩, ⟨by (with_reducible repeat (first | apply zqa | apply zqb | apply zqc)); exact BK276.out⟩, ⟨by repeat (first | (with_reducible first | exact HB.out | apply zqg | apply zqf | apply zqh | refine below_set ?_ GE276.out) | exact HB.out)⟩⟩
          ·
           rw [if_neg c14] at H
           exact absurd H (by simp)
         ·
          rw [if_neg c13] at H
          exact absurd H (by simp)
      ·
       rw [if_neg c11] at H
       have c11b0 : decide (x5_2 < (l0_0.length : Int)) = false := decide_eq_false c11
       clear c11
       replace H := Option.bind_eq_some_iff.mp H
       obtain ⟨t284, A230, H⟩ := H
       replace H : ((plan_Parse.f k2 t284).bind fun bt287 => (if (t284.length : Int) > 4096 then (some (bt287.2 == 6)) else ((plan_Sorted.f k2 l0_0).bind fun t292 => ((haulierref04_Same.f k2 bt287.1 t292).bind fun t296 => (if bt287.2 = 0 then (if t296 = true then ((plan_Same.f k2 l0_0 bt287.1).bind fun t297 => (some t297)) else (none)) else (none)))))) = some r := H
       have A23 := zqi A230
       clear A230
       replace H := Option.bind_eq_some_iff.mp H
       obtain ⟨⟨t287, t290⟩, A240, H⟩ := H
       replace H : (if (t284.length : Int) > 4096 then (some (t290 == 6)) else ((plan_Sorted.f k2 l0_0).bind fun t292 => ((haulierref04_Same.f k2 t287 t292).bind fun t296 => (if t290 = 0 then (if t296 = true then ((plan_Same.f k2 l0_0 t287).bind fun t297 => (some t297)) else (none)) else (none))))) = some r := H
       have A24 := zqi A240
       clear A240
       by_cases c25 : (t284.length : Int) > 4096
       ·
        rw [if_pos c25] at H
        have c25b0 : decide (4096 < (t284.length : Int)) = true := decide_eq_true c25
        have c25b1 : decide (4096 < t284.length) = true := decide_eq_true (by omega)
        clear c25
        obtain rfl := Option.some.inj H
        have hcz26_0 : wr.cell? ⟨gb276, 0, none⟩ = some (.slice A0_0 l0_0.length c0_0) := (zqe BK276.out 0).trans rfl
        have hfz26_0 := zqd BK276.out 0
        go_wp2_with (first | ((with_reducible refine gate_callee (f := 12) rfl ?_); refine goesL_ (some 60) rfl rfl Tryd.func12 (by kernel_rfl) rfl #[.agg #[.slice A0_0 l0_0.length c0_0]] rfl (by (try simp only [List.map_toArray, List.map_cons, List.map_nil]); first | done | rfl | (simp only [List.length_drop, List.length_take]; rfl)) ?_; (with_reducible refine (plan_Print.calls k2 _ _ l0_0 t284 _ ?side1 ?side2 A23.out ?tab).mono ?_); (case tab => exact HT.out.on (zqn HB.out)); (case side1 => repeat (first | exact (Kd.C_below HR0_0.out HB.out) | (with_reducible refine Kd.C_alloc ?_ _) | (with_reducible refine Kd.C_drewN ?_ _) | (with_reducible refine Kd.C_drew ?_))); (case side2 => exact HC0_0.out); rintro e w27 ⟨v285, rfl, ho0, hb⟩; refine ⟨_, rfl, ?_⟩; have n0_ := zqi (Kd.R_lower ho0 (below_size (zqn HB.out))); have n1_ := zqi (zqy BK276.out hb); have n2_ := zqi (below_step (zqn HB.out) hb); clear BK276; clear HB; have HO286 := n0_; have BK276 := n1_; have HB := n2_; clear n0_ n1_ n2_; (try clear hb); (try clear hb2); (try clear hk); (try clear hi); (try clear ho0); obtain ⟨Ao28, co28, eo28⟩ := Kd.R_slice HO286.out; subst eo28) | ((with_reducible refine gate_callee (f := 10) rfl ?_); refine goesL_ (some 63) rfl rfl Tryd.func10 (by kernel_rfl) rfl #[.slice Ao28 t284.length co28] rfl (by (try simp only [List.map_toArray, List.map_cons, List.map_nil]); first | done | rfl | (simp only [List.length_drop, List.length_take]; rfl)) ?_; (with_reducible refine (plan_Parse.calls k2 _ _ t284 t287 t290 _ ?side1 ?side2 A24.out).mono ?_); (case side1 => repeat (first | exact (Kd.R_reads' HO286.out).2.2 | (with_reducible refine Kd.C_alloc ?_ _) | (with_reducible refine Kd.C_drewN ?_ _) | (with_reducible refine Kd.C_drew ?_))); (case side2 => exact (Kd.R_reads' HO286.out).2.1); rintro e w29 ⟨v288, rfl, ho0, hb⟩; refine ⟨_, rfl, ?_⟩; have n0_ := zqi (Kd.R_below (by (with_reducible repeat (first | apply Kd.R_alloc | apply Kd.R_drewN | apply Kd.R_drew)); exact HO286.out) hb); have n1_ := zqi (Kd.S_lower ho0 (below_size (zqn HB.out))); have n2_ := zqi (zqy BK276.out hb); have n3_ := zqi (below_step (zqn HB.out) hb); clear HO286; clear BK276; clear HB; have HO286 := n0_; have HO289 := n1_; have BK276 := n2_; have HB := n3_; clear n0_ n1_ n2_ n3_; (try clear hb); (try clear hb2); (try clear hk); (try clear hi); (try clear ho0)) | ((with_reducible refine gate_dst (N := 8) rfl ?_); refine box_event ?hg (N := 8) ?hd (cs := #[.slice none 0 0]) (t := 24) ?hr ?_; (case hd => rfl); (case hg => rfl); (case hr => first | (go_simp; done) | (go_simp; rfl)); intro gb291 hg w30 hbox hb; have n0_ := zqi (Kd.R_below (by (with_reducible repeat (first | apply Kd.R_alloc | apply Kd.R_drewN | apply Kd.R_drew)); exact HO286.out) hb); have n1_ := zqi (Kd.S_below (by (with_reducible repeat (first | apply Kd.S_alloc | apply Kd.S_drewN | apply Kd.S_drew)); exact HO289.out) hb); have n2_ := zqi (zqy BK276.out hb); have n3_ := zqi (below_step (zqn HB.out) hb); have n4_ := zqi (hbox); have n5_ := zqi (zqo hg HB.out); have n6_ := zqi (zqo hg HB.out); have n7_ := zqi ((zqq hg BK276.out)); have n8_ := zqi ((zqr hg BK276.out)); clear HO286; clear HO289; clear BK276; clear HB; have HO286 := n0_; have HO289 := n1_; have BK276 := n2_; have HB := n3_; have BK291 := n4_; have GW291 := n5_; have GE291 := n6_; have NB276_291 := n7_; have NB291_276 := n8_; clear n0_ n1_ n2_ n3_ n4_ n5_ n6_ n7_ n8_; clear hb hbox hg; obtain ⟨Ao31, co31, eo31⟩ := Kd.S_slice HO289.out; subst eo31; have hnb32 := NB291_276.out; have hnc32 := NB276_291.out; have hcz33_0 : w30.cell? ⟨gb291, 0, none⟩ = some (.slice none 0 0) := (zqe BK291.out 0).trans rfl; have hfz33_0 := zqd BK291.out 0))
        go_ret
        exact ⟨by first | rfl | (simp [errW_none, errW_some] <;> rfl) | (simp [*, errW_none, errW_some] <;> rfl), by repeat (first | (with_reducible first | exact HB.out | apply zqg | apply zqf | apply zqh | refine below_set ?_ GE276.out | refine below_set ?_ GE291.out) | exact HB.out)⟩
       ·
        rw [if_neg c25] at H
        have c25b0 : decide (4096 < (t284.length : Int)) = false := decide_eq_false c25
        have c25b1 : decide (4096 < t284.length) = false := decide_eq_false (by omega)
        clear c25
        replace H := Option.bind_eq_some_iff.mp H
        obtain ⟨t292, A340, H⟩ := H
        replace H : ((haulierref04_Same.f k2 t287 t292).bind fun t296 => (if t290 = 0 then (if t296 = true then ((plan_Same.f k2 l0_0 t287).bind fun t297 => (some t297)) else (none)) else (none))) = some r := H
        have A34 := zqi A340
        clear A340
        replace H := Option.bind_eq_some_iff.mp H
        obtain ⟨t296, A350, H⟩ := H
        replace H : (if t290 = 0 then (if t296 = true then ((plan_Same.f k2 l0_0 t287).bind fun t297 => (some t297)) else (none)) else (none)) = some r := H
        have A35 := zqi A350
        clear A350
        by_cases c36 : t290 = 0
        ·
         rw [if_pos c36] at H
         have c36b0 : (t290 == 0) = true := beq_iff_eq.mpr c36
         have c36b1 : (t290 != 0) = false := bne_eq_false_iff_eq.mpr c36
         clear c36
         by_cases c37 : t296 = true
         ·
          subst c37
          have H1 : ((plan_Same.f k2 l0_0 t287).bind fun t297 => (some t297)) = some r := by rw [if_pos rfl] at H; exact H
          clear H
          have H := H1
          clear H1
          replace H := Option.bind_eq_some_iff.mp H
          obtain ⟨t297, A380, H⟩ := H
          replace H : (some t297) = some r := H
          have A38 := zqi A380
          clear A380
          obtain rfl := Option.some.inj H
          have hcz39_0 : wr.cell? ⟨gb276, 0, none⟩ = some (.slice A0_0 l0_0.length c0_0) := (zqe BK276.out 0).trans rfl
          have hfz39_0 := zqd BK276.out 0
          go_wp2_with (first | ((with_reducible refine gate_callee (f := 12) rfl ?_); refine goesL_ (some 60) rfl rfl Tryd.func12 (by kernel_rfl) rfl #[.agg #[.slice A0_0 l0_0.length c0_0]] rfl (by (try simp only [List.map_toArray, List.map_cons, List.map_nil]); first | done | rfl | (simp only [List.length_drop, List.length_take]; rfl)) ?_; (with_reducible refine (plan_Print.calls k2 _ _ l0_0 t284 _ ?side1 ?side2 A23.out ?tab).mono ?_); (case tab => exact HT.out.on (zqn HB.out)); (case side1 => repeat (first | exact (Kd.C_below HR0_0.out HB.out) | (with_reducible refine Kd.C_alloc ?_ _) | (with_reducible refine Kd.C_drewN ?_ _) | (with_reducible refine Kd.C_drew ?_))); (case side2 => exact HC0_0.out); rintro e w40 ⟨v285, rfl, ho0, hb⟩; refine ⟨_, rfl, ?_⟩; have n0_ := zqi (Kd.R_lower ho0 (below_size (zqn HB.out))); have n1_ := zqi (zqy BK276.out hb); have n2_ := zqi (below_step (zqn HB.out) hb); clear BK276; clear HB; have HO286 := n0_; have BK276 := n1_; have HB := n2_; clear n0_ n1_ n2_; (try clear hb); (try clear hb2); (try clear hk); (try clear hi); (try clear ho0); obtain ⟨Ao41, co41, eo41⟩ := Kd.R_slice HO286.out; subst eo41) | ((with_reducible refine gate_callee (f := 10) rfl ?_); refine goesL_ (some 63) rfl rfl Tryd.func10 (by kernel_rfl) rfl #[.slice Ao41 t284.length co41] rfl (by (try simp only [List.map_toArray, List.map_cons, List.map_nil]); first | done | rfl | (simp only [List.length_drop, List.length_take]; rfl)) ?_; (with_reducible refine (plan_Parse.calls k2 _ _ t284 t287 t290 _ ?side1 ?side2 A24.out).mono ?_); (case side1 => repeat (first | exact (Kd.R_reads' HO286.out).2.2 | (with_reducible refine Kd.C_alloc ?_ _) | (with_reducible refine Kd.C_drewN ?_ _) | (with_reducible refine Kd.C_drew ?_))); (case side2 => exact (Kd.R_reads' HO286.out).2.1); rintro e w42 ⟨v288, rfl, ho0, hb⟩; refine ⟨_, rfl, ?_⟩; have n0_ := zqi (Kd.R_below (by (with_reducible repeat (first | apply Kd.R_alloc | apply Kd.R_drewN | apply Kd.R_drew)); exact HO286.out) hb); have n1_ := zqi (Kd.S_lower ho0 (below_size (zqn HB.out))); have n2_ := zqi (zqy BK276.out hb); have n3_ := zqi (below_step (zqn HB.out) hb); clear HO286; clear BK276; clear HB; have HO286 := n0_; have HO289 := n1_; have BK276 := n2_; have HB := n3_; clear n0_ n1_ n2_ n3_; (try clear hb); (try clear hb2); (try clear hk); (try clear hi); (try clear ho0)) | ((with_reducible refine gate_dst (N := 8) rfl ?_); refine box_event ?hg (N := 8) ?hd (cs := #[.slice none 0 0]) (t := 24) ?hr ?_; (case hd => rfl); (case hg => rfl); (case hr => first | (go_simp; done) | (go_simp; rfl)); intro gb291 hg w43 hbox hb; have n0_ := zqi (Kd.R_below (by (with_reducible repeat (first | apply Kd.R_alloc | apply Kd.R_drewN | apply Kd.R_drew)); exact HO286.out) hb); have n1_ := zqi (Kd.S_below (by (with_reducible repeat (first | apply Kd.S_alloc | apply Kd.S_drewN | apply Kd.S_drew)); exact HO289.out) hb); have n2_ := zqi (zqy BK276.out hb); have n3_ := zqi (below_step (zqn HB.out) hb); have n4_ := zqi (hbox); have n5_ := zqi (zqo hg HB.out); have n6_ := zqi (zqo hg HB.out); have n7_ := zqi ((zqq hg BK276.out)); have n8_ := zqi ((zqr hg BK276.out)); clear HO286; clear HO289; clear BK276; clear HB; have HO286 := n0_; have HO289 := n1_; have BK276 := n2_; have HB := n3_; have BK291 := n4_; have GW291 := n5_; have GE291 := n6_; have NB276_291 := n7_; have NB291_276 := n8_; clear n0_ n1_ n2_ n3_ n4_ n5_ n6_ n7_ n8_; clear hb hbox hg; obtain ⟨Ao44, co44, eo44⟩ := Kd.S_slice HO289.out; subst eo44; have hnb45 := NB291_276.out; have hnc45 := NB276_291.out; have hcz46_0 : w43.cell? ⟨gb291, 0, none⟩ = some (.slice none 0 0) := (zqe BK291.out 0).trans rfl; have hfz46_0 := zqd BK291.out 0; have hcz47_0 : w43.cell? ⟨gb276, 0, none⟩ = some (.slice A0_0 l0_0.length c0_0) := (zqe BK276.out 0).trans rfl; have hfz47_0 := zqd BK276.out 0) | ((with_reducible refine gate_callee (f := 7) rfl ?_); refine goesL_ (some 72) rfl rfl Tryd.func7 (by kernel_rfl) rfl #[.agg #[.slice A0_0 l0_0.length c0_0]] rfl (by (try simp only [List.map_toArray, List.map_cons, List.map_nil]); first | done | rfl | (simp only [List.length_drop, List.length_take]; rfl)) ?_; (with_reducible refine (plan_Sorted.calls k2 _ _ l0_0 t292 _ ?side1 ?side2 A34.out).mono ?_); (case side1 => exact Kd.C_below HR0_0.out (zqn HB.out)); (case side2 => exact HC0_0.out); rintro e w48 ⟨v293, rfl, ho0, hb⟩; refine ⟨_, rfl, ?_⟩; have n0_ := zqi (Kd.R_below (by (with_reducible repeat (first | apply Kd.R_alloc | apply Kd.R_drewN | apply Kd.R_drew)); exact (Kd.R_mono (Kd.R_far (p := ⟨gb291, 0, none⟩) (Kd.R_types HO286.out BK291.out (by decide)) (fun _ hk => hk.2) (.slice Ao44 t287.length co44)) (fun _ h_ => h_.1))) hb); have n1_ := zqi (Kd.S_elder' (by (with_reducible repeat (first | apply Kd.S_alloc | apply Kd.S_drewN | apply Kd.S_drew)); exact (Kd.S_mono (Kd.S_far (p := ⟨gb291, 0, none⟩) (Kd.S_types HO289.out BK291.out (by decide)) (fun _ hk => hk.2) (.slice Ao44 t287.length co44)) (fun _ h_ => h_.1))) (Kd.S_base ho0) hb); have n2_ := zqi (Kd.S_lower (Kd.S_new' ho0 (Kd.S_lt (by (with_reducible repeat (first | apply Kd.S_alloc | apply Kd.S_drewN | apply Kd.S_drew)); exact (Kd.S_mono (Kd.S_far (p := ⟨gb291, 0, none⟩) (Kd.S_types HO289.out BK291.out (by decide)) (fun _ hk => hk.2) (.slice Ao44 t287.length co44)) (fun _ h_ => h_.1))))) (below_size (zqn HB.out))); have n3_ := zqi (blk_below (g := gb276) (o := .cells #[.slice A0_0 l0_0.length c0_0] 24 (0, 0)) (by (repeat (with_reducible first | apply zqa | apply zqb | apply zqc | refine blk_far ?_ NB276_291.out _)); exact BK276.out) hb); have n4_ := zqi (blk_below (g := gb291) (o := .cells #[.slice Ao44 t287.length co44] 24 (0, 0)) (by exact zqC (blk_set BK291.out 0 _) (by simp only [List.setIfInBounds_toArray, List.set_cons_zero, List.set_cons_succ])) hb); have n5_ := zqi (below_step (zqn HB.out) hb); clear HO286; clear HO289; clear BK276; clear BK291; clear HB; have HO286 := n0_; have HO289 := n1_; have HO294 := n2_; have BK276 := n3_; have BK291 := n4_; have HB := n5_; clear n0_ n1_ n2_ n3_ n4_ n5_; (try clear hb); (try clear hb2); (try clear hk); (try clear hi); (try clear ho0)) | ((with_reducible refine gate_dst (N := 10) rfl ?_); refine box_event ?hg (N := 10) ?hd (cs := #[.slice none 0 0]) (t := 24) ?hr ?_; (case hd => rfl); (case hg => rfl); (case hr => first | (go_simp; done) | (go_simp; rfl)); intro gb295 hg w49 hbox hb; have n0_ := zqi (Kd.R_below (by (with_reducible repeat (first | apply Kd.R_alloc | apply Kd.R_drewN | apply Kd.R_drew)); exact HO286.out) hb); have n1_ := zqi (Kd.S_below (by (with_reducible repeat (first | apply Kd.S_alloc | apply Kd.S_drewN | apply Kd.S_drew)); exact HO289.out) hb); have n2_ := zqi (Kd.S_below (by (with_reducible repeat (first | apply Kd.S_alloc | apply Kd.S_drewN | apply Kd.S_drew)); exact HO294.out) hb); have n3_ := zqi (zqy BK276.out hb); have n4_ := zqi (zqy BK291.out hb); have n5_ := zqi (below_step (zqn HB.out) hb); have n6_ := zqi (hbox); have n7_ := zqi (zqo hg HB.out); have n8_ := zqi (zqo hg HB.out); have n9_ := zqi ((zqq hg BK276.out)); have n10_ := zqi ((zqr hg BK276.out)); have n11_ := zqi ((zqq hg BK291.out)); have n12_ := zqi ((zqr hg BK291.out)); clear HO286; clear HO289; clear HO294; clear BK276; clear BK291; clear HB; have HO286 := n0_; have HO289 := n1_; have HO294 := n2_; have BK276 := n3_; have BK291 := n4_; have HB := n5_; have BK295 := n6_; have GW295 := n7_; have GE295 := n8_; have NB276_295 := n9_; have NB295_276 := n10_; have NB291_295 := n11_; have NB295_291 := n12_; clear n0_ n1_ n2_ n3_ n4_ n5_ n6_ n7_ n8_ n9_ n10_ n11_ n12_; clear hb hbox hg; obtain ⟨Ao50, co50, eo50⟩ := Kd.S_slice HO294.out; subst eo50; have hnb51 := NB295_276.out; have hnc51 := NB276_295.out; have hnb52 := NB295_291.out; have hnc52 := NB291_295.out; have hcz53_0 : w49.cell? ⟨gb295, 0, none⟩ = some (.slice none 0 0) := (zqe BK295.out 0).trans rfl; have hfz53_0 := zqd BK295.out 0; have hcz54_0 : w49.cell? ⟨gb291, 0, none⟩ = some (.slice Ao44 t287.length co44) := (zqe BK291.out 0).trans rfl; have hfz54_0 := zqd BK291.out 0) | ((with_reducible refine gate_callee (f := 9) rfl ?_); refine goesL_ (some 77) rfl rfl Tryd.func9 (by kernel_rfl) rfl #[.slice Ao44 t287.length co44, .slice Ao50 t292.length co50] rfl (by (try simp only [List.map_toArray, List.map_cons, List.map_nil]); first | done | rfl | (simp only [List.length_drop, List.length_take]; rfl)) ?_; (with_reducible refine (haulierref04_Same.calls k2 _ _ t287 _ _ t292 true _ ?side1 ?side2 ?side3 ?side4 A35.out).mono ?_); (case side1 => refine (Kd.S_reads' (e := 36) (base := w.heap.size) (ok := fun k_ => (True ∧ some k_ ≠ (.slice Ao50 t292.length co50 : Value).ownBlock)) (n := t287.length) (c := co44) ?_).2.2; exact (by (with_reducible repeat (first | apply Kd.S_alloc | apply Kd.S_drewN | apply Kd.S_drew)); exact (Kd.S_mono (Kd.S_far (p := ⟨gb295, 0, none⟩) (Kd.S_types HO289.out BK295.out (by decide)) (fun _ hk => hk.2) (.slice Ao50 t292.length co50)) (fun _ h_ => h_.1)))); (case side2 => exact (Kd.S_reads' HO289.out).2.1); (case side3 => refine (Kd.S_reads' (e := 36) (base := w.heap.size) (ok := fun k_ => (True ∧ some k_ ≠ (.slice Ao44 t287.length co44 : Value).ownBlock)) (n := t292.length) (c := co50) ?_).2.2; exact (by (with_reducible repeat (first | apply Kd.S_alloc | apply Kd.S_drewN | apply Kd.S_drew)); exact (Kd.S_mono (Kd.S_far (p := ⟨gb295, 0, none⟩) (Kd.S_types HO294.out BK295.out (by decide)) (fun _ hk => hk.2) (.slice Ao50 t292.length co50)) (fun _ h_ => h_.1)))); (case side4 => exact (Kd.S_reads' HO294.out).2.1); rintro e w' ⟨rfl, ⟨nd, rfl⟩⟩; refine ⟨_, rfl, ?_⟩; have hcz55_0 : w49.cell? ⟨gb276, 0, none⟩ = some (.slice A0_0 l0_0.length c0_0) := (zqe BK276.out 0).trans rfl; have hfz55_0 := zqd BK276.out 0) | (go_at_call 14; (with_reducible refine (plan_Same.calls k2 _ _ l0_0 _ _ t287 t297 _ ?side1 ?side2 ?side3 ?side4 A38.out).mono ?_); (case side1 => exact Kd.C_below HR0_0.out (zqn HB.out)); (case side2 => exact HC0_0.out); (case side3 => refine (Kd.S_reads' (e := 36) (base := w.heap.size) (ok := fun k_ => (True ∧ some k_ ≠ (.slice Ao50 t292.length co50 : Value).ownBlock)) (n := t287.length) (c := co44) ?_).2.2; exact (by (with_reducible repeat (first | apply Kd.S_alloc | apply Kd.S_drewN | apply Kd.S_drew)); exact (Kd.S_mono (Kd.S_far (p := ⟨gb295, 0, none⟩) (Kd.S_types HO289.out BK295.out (by decide)) (fun _ hk => hk.2) (.slice Ao50 t292.length co50)) (fun _ h_ => h_.1)))); (case side4 => exact (Kd.S_reads' HO289.out).2.1); rintro e w56 ⟨rfl, hb⟩; have n0_ := zqi (Kd.R_below (by (with_reducible repeat (first | apply Kd.R_alloc | apply Kd.R_drewN | apply Kd.R_drew)); exact (Kd.R_mono (Kd.R_far (p := ⟨gb295, 0, none⟩) (Kd.R_types HO286.out BK295.out (by decide)) (fun _ hk => hk.2) (.slice Ao50 t292.length co50)) (fun _ h_ => h_.1))) hb); have n1_ := zqi (Kd.S_below (by (with_reducible repeat (first | apply Kd.S_alloc | apply Kd.S_drewN | apply Kd.S_drew)); exact (Kd.S_mono (Kd.S_far (p := ⟨gb295, 0, none⟩) (Kd.S_types HO289.out BK295.out (by decide)) (fun _ hk => hk.2) (.slice Ao50 t292.length co50)) (fun _ h_ => h_.1))) hb); have n2_ := zqi (Kd.S_below (by (with_reducible repeat (first | apply Kd.S_alloc | apply Kd.S_drewN | apply Kd.S_drew)); exact (Kd.S_mono (Kd.S_far (p := ⟨gb295, 0, none⟩) (Kd.S_types HO294.out BK295.out (by decide)) (fun _ hk => hk.2) (.slice Ao50 t292.length co50)) (fun _ h_ => h_.1))) hb); have n3_ := zqi (blk_below (g := gb276) (o := .cells #[.slice A0_0 l0_0.length c0_0] 24 (0, 0)) (by (repeat (with_reducible first | apply zqa | apply zqb | apply zqc | refine blk_far ?_ NB276_295.out _)); exact BK276.out) hb); have n4_ := zqi (blk_below (g := gb291) (o := .cells #[.slice Ao44 t287.length co44] 24 (0, 0)) (by (repeat (with_reducible first | apply zqa | apply zqb | apply zqc | refine blk_far ?_ NB291_295.out _)); exact BK291.out) hb); have n5_ := zqi (blk_below (g := gb295) (o := .cells #[.slice Ao50 t292.length co50] 24 (0, 0)) (by exact zqC (blk_set BK295.out 0 _) (by simp only [List.setIfInBounds_toArray, List.set_cons_zero, List.set_cons_succ])) hb); have n6_ := zqi (below_step (zqn HB.out) hb); clear HO286; clear HO289; clear HO294; clear BK276; clear BK291; clear BK295; clear HB; have HO286 := n0_; have HO289 := n1_; have HO294 := n2_; have BK276 := n3_; have BK291 := n4_; have BK295 := n5_; have HB := n6_; clear n0_ n1_ n2_ n3_ n4_ n5_ n6_; (try clear hb); (try clear hb2); (try clear hk); (try clear hi)))
          go_ret
          exact ⟨by first | rfl | (simp [errW_none, errW_some] <;> rfl) | (simp [*, errW_none, errW_some] <;> rfl), by repeat (first | (with_reducible first | exact HB.out | apply zqg | apply zqf | apply zqh | refine below_set ?_ GE276.out | refine below_set ?_ GE291.out | refine below_set ?_ GE295.out) | exact HB.out)⟩
         ·
          replace c37 := Bool.eq_false_iff.mpr c37
          subst c37
          have H1 : (none) = some r := by rw [if_neg (show ¬ (false = true) by decide)] at H; exact H
          clear H
          have H := H1
          clear H1
          exact absurd H (by simp)
        ·
         rw [if_neg c36] at H
         exact absurd H (by simp)

end Go.Proofs.YtdkhajgfifaibaaDoor.PA
