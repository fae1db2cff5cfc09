-- Printed for this claim by wip/tools/xprint.py over the kit's print; the contracts marked BY HAND are this session's own.
import Derived.Test.YtifekgemngfidaaDoorPAx0
import Derived.Test.YtifekgemngfidaaDoorPAx6
import Derived.Test.YtifekgemngfidaaDoorPAx8
import Derived.Test.YtifekgemngfidaaDoorPAx13
import Derived.Test.YtifekgemngfidaaDoorPAx14
namespace Go.Proofs.YtifekgemngfidaaDoor.PA
open Go.RowKit Go.Proofs.YtifekgemngfidaaDoorW.PrintWords Go.Proofs.YtifekgemngfidaaDoorW.PrintLast Go.Proofs.YtifekgemngfidaaDoorW.PrintMore
attribute [local go_sem] max2_int min2_int max_two min_two max_three min_three max_four min_four   -- for this text's walks alone
set_option linter.unusedVariables false
set_option linter.unusedSimpArgs false

/-! ### haulierlaw05_InstParses: function 3 -/
def haulierlaw05_InstParses.j0 : Nat → List Int → Bool → Bool → Option (Bool)
  | 0, _, _, _ => none
  | k + 1, x0, x3, x16 => if x16 = true then (some x3) else ((inst_Parse.f k x0).bind fun bt299 => ((haulierref05_Parse.f k x0).bind fun bt307 => ((haulierref05_Same.f k bt299.1 bt299.2.1 bt299.2.2.1 bt299.2.2.2.1 bt307.1 bt307.2.1 bt307.2.2.1 bt307.2.2.2.1).bind fun t315 => (if t315 = true then (some (bt299.2.2.2.2 == bt307.2.2.2.2)) else (none)))))
def haulierlaw05_InstParses.f (k : Nat) (l0 : List Int) : Option (Bool) := (haulierlaw05_awake.f k).bind fun t298 => (if t298 = true then (haulierlaw05_InstParses.j0 k l0 t298 (decide ((l0.length : Int) > 6000))) else (haulierlaw05_InstParses.j0 k l0 t298 true))
theorem haulierlaw05_InstParses.mono_l : ∀ k, (∀ y0 y1 y2, LeO (haulierlaw05_InstParses.j0 k y0 y1 y2) (haulierlaw05_InstParses.j0 (k + 1) y0 y1 y2))
  | 0 => fun _ _ _ r h => by simp [haulierlaw05_InstParses.j0] at h
  | k + 1 => by
    have ih0 := haulierlaw05_InstParses.mono_l k
    · intro y0 y1 y2
      unfold haulierlaw05_InstParses.j0
      repeat' first
      | (with_reducible exact ih0 _ _ _)
      | (with_reducible exact haulierlaw05_awake.mono _)
      | (with_reducible exact haulierref05_Parse.mono _ _)
      | (with_reducible exact haulierref05_Same.mono _ _ _ _ _ _ _ _ _)
      | (with_reducible exact inst_Parse.mono _ _)
      | (with_reducible exact LeO.refl _)
      | (with_reducible exact LeO.none _)
      | (with_reducible refine LeO.ite ?_ ?_)
      | (with_reducible refine LeO.bind ?_ (fun _ => ?_))
      | exact ih0 _ _ _
      | exact haulierlaw05_awake.mono _
      | exact haulierref05_Parse.mono _ _
      | exact haulierref05_Same.mono _ _ _ _ _ _ _ _ _
      | exact inst_Parse.mono _ _
      | exact LeO.none _
      | refine LeO.ite ?_ ?_
      | refine LeO.bind ?_ (fun _ => ?_)
theorem haulierlaw05_InstParses.mono : ∀ a0 k, LeO (haulierlaw05_InstParses.f k a0) (haulierlaw05_InstParses.f (k + 1) a0) := by
  intro a0 k
  have ih0 := haulierlaw05_InstParses.mono_l k
  unfold haulierlaw05_InstParses.f
  repeat' first
      | (with_reducible exact ih0 _ _ _)
      | (with_reducible exact haulierlaw05_awake.mono _)
      | (with_reducible exact haulierref05_Parse.mono _ _)
      | (with_reducible exact haulierref05_Same.mono _ _ _ _ _ _ _ _ _)
      | (with_reducible exact inst_Parse.mono _ _)
      | (with_reducible exact LeO.refl _)
      | (with_reducible exact LeO.none _)
      | (with_reducible refine LeO.ite ?_ ?_)
      | (with_reducible refine LeO.bind ?_ (fun _ => ?_))
      | exact ih0 _ _ _
      | exact haulierlaw05_awake.mono _
      | exact haulierref05_Parse.mono _ _
      | exact haulierref05_Same.mono _ _ _ _ _ _ _ _ _
      | exact inst_Parse.mono _ _
      | exact LeO.none _
      | refine LeO.ite ?_ ?_
      | refine LeO.bind ?_ (fun _ => ?_)
set_option maxHeartbeats 8000000 in
set_option maxRecDepth 100000 in
theorem haulierlaw05_InstParses.calls (k : Nat) (A0 : Option Addr) (c0 : Nat) (l0 : List Int) (r : Bool) (w : World) (hr0 : Kd.C (Kd.int .u8) w A0 l0.length l0) (hc0 : l0.length ≤ c0) (h : haulierlaw05_InstParses.f k l0 = some r) (hT : Go.Proofs.YtifekgemngfidaaDoor.Scan.NumTab w) :
  Calls Tryd.prog 3 #[.slice A0 l0.length c0] w fun e w' => e = .returned (.bool r) ∧ Below w.heap.size w w' := by
 have HT := zqi hT
 clear hT
 have hu26 := Tryd.underlying26
 have HR0 := zqi hr0
 have HC0 := zqi hc0
 clear hr0 hc0
 have HB := zqi (Below.refl w.heap.size w)
 have H : ((haulierlaw05_awake.f k).bind fun t298 => (if t298 = true then (haulierlaw05_InstParses.j0 k l0 t298 (decide ((l0.length : Int) > 6000))) else (haulierlaw05_InstParses.j0 k l0 t298 true))) = some r := h
 clear h
 replace H := Option.bind_eq_some_iff.mp H
 obtain ⟨t298, A20, H⟩ := H
 replace H : (if t298 = true then (haulierlaw05_InstParses.j0 k l0 t298 (decide ((l0.length : Int) > 6000))) else (haulierlaw05_InstParses.j0 k l0 t298 true)) = some r := H
 have A2 := zqi A20
 clear A20
 have HC3 := zqi H
 clear H
 go_enter Tryd.func3, Tryd.ntmps3
 go_upto_region 2 with (first | ((with_reducible refine gate_callee (f := 9) rfl ?_); refine goesL_ (some 9) rfl rfl Tryd.func9 (by kernel_rfl) rfl #[] rfl (by (try simp only [List.map_toArray, List.map_cons, List.map_nil]); first | done | rfl | (simp only [List.length_drop, List.length_take]; rfl)) ?_; (with_reducible refine (haulierlaw05_awake.calls k  t298 _ A2.out ?tab).mono ?_); (case tab => exact HT.out.on (by repeat (first | (with_reducible first | exact HB.out | apply zqg | apply zqf | apply zqh | refine below_set ?_ GE306.out | refine below_set ?_ GE314.out) | exact HB.out))); rintro e w4 ⟨rfl, hb⟩; refine ⟨_, rfl, ?_⟩; have n0_ := zqi (below_step (by repeat (first | (with_reducible first | exact HB.out | apply zqg | apply zqf | apply zqh) | exact HB.out)) hb); clear HB; have HB := n0_; clear n0_; (try clear hb); (try clear hb2); (try clear hk); (try clear hi)))
 (try simp only [Act.put, List.setIfInBounds_toArray, List.set_cons_zero, List.set_cons_succ])
 go_cut [16] (fun v16 wc => ∃ (kq : Nat) (x16_2 : Bool), v16 = .bool x16_2 ∧ Aside0 (haulierlaw05_InstParses.j0 kq l0 t298 x16_2 = some r) ∧ Aside0 (kq ≤ k) ∧ Aside0 (Below w.heap.size w wc))
 case first =>
  have H := HC3.out
  clear HC3
  by_cases c5 : t298 = true
  ·
   subst c5
   have H1 : (haulierlaw05_InstParses.j0 k l0 true (decide ((l0.length : Int) > 6000))) = some r := by rw [if_pos rfl] at H; exact H
   clear H
   have H := H1
   clear H1
   have H' := zqi H
   clear H
   go_wp2
   go_meet
   case rel => exact ⟨_, (decide ((l0.length : Int) > 6000)), (by first | rfl | (simp; done) | (simp [*]; done)), H', ⟨by first | omega | exact Nat.le_refl _⟩, ⟨by repeat (first | (with_reducible first | exact HB.out | apply zqg | apply zqf | apply zqh) | exact HB.out)⟩⟩
  ·
   replace c5 := Bool.eq_false_iff.mpr c5
   subst c5
   have H1 : (haulierlaw05_InstParses.j0 k l0 false true) = some r := by rw [if_neg (show ¬ (false = true) by decide)] at H; exact H
   clear H
   have H := H1
   clear H1
   have H' := zqi H
   clear H
   go_wp2
   go_meet
   case rel => exact ⟨_, (true), (by first | rfl | (simp; done) | (simp [*]; done)), H', ⟨by first | omega | exact Nat.le_refl _⟩, ⟨by repeat (first | (with_reducible first | exact HB.out | apply zqg | apply zqf | apply zqh) | exact HB.out)⟩⟩
 case rest =>
  clear HC3
  try clear p2
  try clear c3
  try clear c5
  obtain ⟨kq, x16_2, rfl, HA, HJ2, HB⟩ := hcut
  cases kq with
  | zero => exact absurd HA.out (by simp [haulierlaw05_InstParses.j0])
  | succ kj2 =>
   have H := HA.out
   clear HA
   simp only [haulierlaw05_InstParses.j0] at H
   by_cases c6 : x16_2 = true
   ·
    subst c6
    have H1 : (some t298) = some r := by rw [if_pos rfl] at H; exact H
    clear H
    have H := H1
    clear H1
    obtain rfl := Option.some.inj H
    go_wp2
    go_ret
    exact ⟨by first | rfl | (simp [errW_none, errW_some] <;> rfl) | (simp [*, errW_none, errW_some] <;> rfl), by repeat (first | (with_reducible first | exact HB.out | apply zqg | apply zqf | apply zqh) | exact HB.out)⟩
   ·
    replace c6 := Bool.eq_false_iff.mpr c6
    subst c6
    have H1 : ((inst_Parse.f kj2 l0).bind fun bt299 => ((haulierref05_Parse.f kj2 l0).bind fun bt307 => ((haulierref05_Same.f kj2 bt299.1 bt299.2.1 bt299.2.2.1 bt299.2.2.2.1 bt307.1 bt307.2.1 bt307.2.2.1 bt307.2.2.2.1).bind fun t315 => (if t315 = true then (some (bt299.2.2.2.2 == bt307.2.2.2.2)) else (none))))) = some r := by rw [if_neg (show ¬ (false = true) by decide)] at H; exact H
    clear H
    have H := H1
    clear H1
    replace H := Option.bind_eq_some_iff.mp H
    obtain ⟨⟨t299, t300, t301, t302, t305⟩, A70, H⟩ := H
    replace H : ((haulierref05_Parse.f kj2 l0).bind fun bt307 => ((haulierref05_Same.f kj2 t299 t300 t301 t302 bt307.1 bt307.2.1 bt307.2.2.1 bt307.2.2.2.1).bind fun t315 => (if t315 = true then (some (t305 == bt307.2.2.2.2)) else (none)))) = some r := H
    have A7 := zqi A70
    clear A70
    replace H := Option.bind_eq_some_iff.mp H
    obtain ⟨⟨t307, t308, t309, t310, t313⟩, A80, H⟩ := H
    replace H : ((haulierref05_Same.f kj2 t299 t300 t301 t302 t307 t308 t309 t310).bind fun t315 => (if t315 = true then (some (t305 == t313)) else (none))) = some r := H
    have A8 := zqi A80
    clear A80
    replace H := Option.bind_eq_some_iff.mp H
    obtain ⟨t315, A90, H⟩ := H
    replace H : (if t315 = true then (some (t305 == t313)) else (none)) = some r := H
    have A9 := zqi A90
    clear A90
    by_cases c10 : t315 = true
    ·
     subst c10
     have H1 : (some (t305 == t313)) = some r := by rw [if_pos rfl] at H; exact H
     clear H
     have H := H1
     clear H1
     obtain rfl := Option.some.inj H
     go_wp2_with (first | ((with_reducible refine gate_callee (f := 10) rfl ?_); refine goesL_ (some 20) rfl rfl Tryd.func10 (by kernel_rfl) rfl #[.slice A0 l0.length c0] rfl (by (try simp only [List.map_toArray, List.map_cons, List.map_nil]); first | done | rfl | (simp only [List.length_drop, List.length_take]; rfl)) ?_; (with_reducible refine (inst_Parse.calls kj2 _ _ l0 t299 t300 t301 t302 t305 _ ?side1 ?side2 A7.out).mono ?_); (case side1 => repeat (first | exact (Kd.C_below HR0.out HB.out) | (with_reducible refine Kd.C_alloc ?_ _) | (with_reducible refine Kd.C_drewN ?_ _) | (with_reducible refine Kd.C_drew ?_))); (case side2 => exact HC0.out); rintro e w11 ⟨v303, rfl, ho0, hb⟩; refine ⟨_, rfl, ?_⟩; have n0_ := zqi (Kd.R_lower ho0 (below_size (by repeat (first | (with_reducible first | exact HB.out | apply zqg | apply zqf | apply zqh) | exact HB.out)))); have n1_ := zqi (below_step (by repeat (first | (with_reducible first | exact HB.out | apply zqg | apply zqf | apply zqh) | exact HB.out)) hb); clear HB; have HO304 := n0_; have HB := n1_; clear n0_ n1_; (try clear hb); (try clear hb2); (try clear hk); (try clear hi); (try clear ho0)) | ((with_reducible refine gate_dst (N := 4) rfl ?_); (try (refine gate_guard (by rfl) ?_; dsimp only)); refine box_event ?hg (N := 4) ?hd (cs := #[.int .i64 0, .int .i64 0, .int .i64 0, .slice none 0 0]) (t := 26) ?hr ?_; (case hd => rfl); (case hg => rfl); (case hr => first | (go_simp; done) | (go_simp; rfl)); intro gb306 hg w12 hbox hb; have n0_ := zqi (Kd.R_below (by (with_reducible repeat (first | apply Kd.R_alloc | apply Kd.R_drewN | apply Kd.R_drew)); exact HO304.out) hb); have n1_ := zqi (below_step (by repeat (first | (with_reducible first | exact HB.out | apply zqg | apply zqf | apply zqh) | exact HB.out)) hb); have n2_ := zqi (hbox); have n3_ := zqi ((by rw [hg]; exact (below_size (by repeat (first | (with_reducible first | exact HB.out | apply zqg | apply zqf | apply zqh) | exact HB.out))) : w.heap.size ≤ gb306)); have n4_ := zqi ((by rw [hg]; exact (below_size (by repeat (first | (with_reducible first | exact HB.out | apply zqg | apply zqf | apply zqh) | exact HB.out))) : w.heap.size ≤ gb306)); clear HO304; clear HB; have HO304 := n0_; have HB := n1_; have BK306 := n2_; have GW306 := n3_; have GE306 := n4_; clear n0_ n1_ n2_ n3_ n4_; clear hb hbox hg; have hcz13_0 : w12.cell? ⟨gb306, 0, none⟩ = some (.int .i64 0) := (zqe BK306.out 0).trans rfl; have hcz13_1 : w12.cell? ⟨gb306, 1, none⟩ = some (.int .i64 0) := (zqe BK306.out 1).trans rfl; have hcz13_2 : w12.cell? ⟨gb306, 2, none⟩ = some (.int .i64 0) := (zqe BK306.out 2).trans rfl; have hcz13_3 : w12.cell? ⟨gb306, 3, none⟩ = some (.slice none 0 0) := (zqe BK306.out 3).trans rfl; have hfz13_0 := zqd BK306.out 0; have hfz13_1 := zqd BK306.out 1; have hfz13_2 := zqd BK306.out 2; have hfz13_3 := zqd BK306.out 3; obtain ⟨Ao14, co14, eo14⟩ := Kd.R_slice HO304.out; subst eo14) | ((with_reducible refine gate_callee (f := 11) rfl ?_); refine goesL_ (some 25) rfl rfl Tryd.func11 (by kernel_rfl) rfl #[.slice A0 l0.length c0] rfl (by (try simp only [List.map_toArray, List.map_cons, List.map_nil]); first | done | rfl | (simp only [List.length_drop, List.length_take]; rfl)) ?_; (with_reducible refine (haulierref05_Parse.calls kj2 _ _ l0 t307 t308 t309 t310 t313 _ ?side1 ?side2 A8.out).mono ?_); (case side1 => exact Kd.C_below HR0.out (by repeat (first | (with_reducible first | exact HB.out | apply zqg | apply zqf | apply zqh | refine below_set ?_ GE306.out) | exact HB.out))); (case side2 => exact HC0.out); rintro e w15 ⟨v311, rfl, ho0, hb⟩; refine ⟨_, rfl, ?_⟩; have n0_ := zqi (Kd.R_elder' (by (with_reducible repeat (first | apply Kd.R_alloc | apply Kd.R_drewN | apply Kd.R_drew)); exact (Kd.R_mono (Kd.R_far (p := ⟨gb306, 3, none⟩) (Kd.R_far (p := ⟨gb306, 2, none⟩) (Kd.R_far (p := ⟨gb306, 1, none⟩) (Kd.R_far (p := ⟨gb306, 0, none⟩) (Kd.R_types HO304.out BK306.out (by decide)) (fun _ hk => hk.2) (.int .i64 t299)) (fun _ hk => hk.2) (.int .i64 t300)) (fun _ hk => hk.2) (.int .i64 t301)) (fun _ hk => hk.2) (.slice Ao14 t302.length co14)) (fun _ h_ => h_.1))) (Kd.R_base ho0) hb); have n1_ := zqi (Kd.R_lower (Kd.R_new' ho0 (Kd.R_lt (by (with_reducible repeat (first | apply Kd.R_alloc | apply Kd.R_drewN | apply Kd.R_drew)); exact (Kd.R_mono (Kd.R_far (p := ⟨gb306, 3, none⟩) (Kd.R_far (p := ⟨gb306, 2, none⟩) (Kd.R_far (p := ⟨gb306, 1, none⟩) (Kd.R_far (p := ⟨gb306, 0, none⟩) (Kd.R_types HO304.out BK306.out (by decide)) (fun _ hk => hk.2) (.int .i64 t299)) (fun _ hk => hk.2) (.int .i64 t300)) (fun _ hk => hk.2) (.int .i64 t301)) (fun _ hk => hk.2) (.slice Ao14 t302.length co14)) (fun _ h_ => h_.1))))) (below_size (by repeat (first | (with_reducible first | exact HB.out | apply zqg | apply zqf | apply zqh | refine below_set ?_ GE306.out) | exact HB.out)))); have n2_ := zqi (blk_below (g := gb306) (o := .cells #[.int .i64 t299, .int .i64 t300, .int .i64 t301, .slice Ao14 t302.length co14] 26 (0, 0)) (by (with_reducible repeat (first | apply zqa | apply zqb | apply zqc)); refine blk_put (cs := #[.int .i64 t299, .int .i64 t300, .int .i64 t301, .slice none 0 0]) ?_ 3 _ rfl; (with_reducible repeat (first | apply zqa | apply zqb | apply zqc)); refine blk_put (cs := #[.int .i64 t299, .int .i64 t300, .int .i64 0, .slice none 0 0]) ?_ 2 _ rfl; (with_reducible repeat (first | apply zqa | apply zqb | apply zqc)); refine blk_put (cs := #[.int .i64 t299, .int .i64 0, .int .i64 0, .slice none 0 0]) ?_ 1 _ rfl; (with_reducible repeat (first | apply zqa | apply zqb | apply zqc)); refine blk_put (cs := #[.int .i64 0, .int .i64 0, .int .i64 0, .slice none 0 0]) ?_ 0 _ rfl; (with_reducible repeat (first | apply zqa | apply zqb | apply zqc)); exact BK306.out) hb); have n3_ := zqi (below_step (by repeat (first | (with_reducible first | exact HB.out | apply zqg | apply zqf | apply zqh | refine below_set ?_ GE306.out) | exact HB.out)) hb); clear HO304; clear BK306; clear HB; have HO304 := n0_; have HO312 := n1_; have BK306 := n2_; have HB := n3_; clear n0_ n1_ n2_ n3_; (try clear hb); (try clear hb2); (try clear hk); (try clear hi); (try clear ho0)) | ((with_reducible refine gate_dst (N := 6) rfl ?_); (try (refine gate_guard (by rfl) ?_; dsimp only)); refine box_event ?hg (N := 6) ?hd (cs := #[.int .i64 0, .int .i64 0, .int .i64 0, .slice none 0 0]) (t := 26) ?hr ?_; (case hd => rfl); (case hg => rfl); (case hr => first | (go_simp; done) | (go_simp; rfl)); intro gb314 hg w16 hbox hb; have n0_ := zqi (Kd.R_below (by (with_reducible repeat (first | apply Kd.R_alloc | apply Kd.R_drewN | apply Kd.R_drew)); exact HO304.out) hb); have n1_ := zqi (Kd.R_below (by (with_reducible repeat (first | apply Kd.R_alloc | apply Kd.R_drewN | apply Kd.R_drew)); exact HO312.out) hb); have n2_ := zqi (blk_below (g := gb306) (o := .cells #[.int .i64 t299, .int .i64 t300, .int .i64 t301, .slice Ao14 t302.length co14] 26 (0, 0)) (by (with_reducible repeat (first | apply zqa | apply zqb | apply zqc)); exact BK306.out) hb); have n3_ := zqi (below_step (by repeat (first | (with_reducible first | exact HB.out | apply zqg | apply zqf | apply zqh | refine below_set ?_ GE306.out) | exact HB.out)) hb); have n4_ := zqi (hbox); have n5_ := zqi ((by rw [hg]; exact (below_size (by repeat (first | (with_reducible first | exact HB.out | apply zqg | apply zqf | apply zqh | refine below_set ?_ GE306.out) | exact HB.out))) : w.heap.size ≤ gb314)); have n6_ := zqi ((by rw [hg]; exact (below_size (by repeat (first | (with_reducible first | exact HB.out | apply zqg | apply zqf | apply zqh | refine below_set ?_ GE306.out) | exact HB.out))) : w.heap.size ≤ gb314)); have n7_ := zqi ((by rw [hg]; exact Nat.ne_of_lt (blk_lt (g := gb306) (o := .cells #[.int .i64 t299, .int .i64 t300, .int .i64 t301, .slice Ao14 t302.length co14] 26 (0, 0)) (by (with_reducible repeat (first | apply zqa | apply zqb | apply zqc)); exact BK306.out)) : gb306 ≠ gb314)); have n8_ := zqi ((by rw [hg]; exact Nat.ne_of_gt (blk_lt (g := gb306) (o := .cells #[.int .i64 t299, .int .i64 t300, .int .i64 t301, .slice Ao14 t302.length co14] 26 (0, 0)) (by (with_reducible repeat (first | apply zqa | apply zqb | apply zqc)); exact BK306.out)) : gb314 ≠ gb306)); clear HO304; clear HO312; clear BK306; clear HB; have HO304 := n0_; have HO312 := n1_; have BK306 := n2_; have HB := n3_; have BK314 := n4_; have GW314 := n5_; have GE314 := n6_; have NB306_314 := n7_; have NB314_306 := n8_; clear n0_ n1_ n2_ n3_ n4_ n5_ n6_ n7_ n8_; clear hb hbox hg; have hnb17 := NB314_306.out; have hnc17 := NB306_314.out; have hcz18_0 : w16.cell? ⟨gb314, 0, none⟩ = some (.int .i64 0) := (zqe BK314.out 0).trans rfl; have hcz18_1 : w16.cell? ⟨gb314, 1, none⟩ = some (.int .i64 0) := (zqe BK314.out 1).trans rfl; have hcz18_2 : w16.cell? ⟨gb314, 2, none⟩ = some (.int .i64 0) := (zqe BK314.out 2).trans rfl; have hcz18_3 : w16.cell? ⟨gb314, 3, none⟩ = some (.slice none 0 0) := (zqe BK314.out 3).trans rfl; have hfz18_0 := zqd BK314.out 0; have hfz18_1 := zqd BK314.out 1; have hfz18_2 := zqd BK314.out 2; have hfz18_3 := zqd BK314.out 3; obtain ⟨Ao19, co19, eo19⟩ := Kd.R_slice HO312.out; subst eo19; have hcz20_0 : w16.cell? ⟨gb306, 0, none⟩ = some (.int .i64 t299) := (zqe BK306.out 0).trans rfl; have hcz20_1 : w16.cell? ⟨gb306, 1, none⟩ = some (.int .i64 t300) := (zqe BK306.out 1).trans rfl; have hcz20_2 : w16.cell? ⟨gb306, 2, none⟩ = some (.int .i64 t301) := (zqe BK306.out 2).trans rfl; have hcz20_3 : w16.cell? ⟨gb306, 3, none⟩ = some (.slice Ao14 t302.length co14) := (zqe BK306.out 3).trans rfl; have hfz20_0 := zqd BK306.out 0; have hfz20_1 := zqd BK306.out 1; have hfz20_2 := zqd BK306.out 2; have hfz20_3 := zqd BK306.out 3) | ((with_reducible refine gate_callee (f := 12) rfl ?_); refine goesL_ (some 30) rfl rfl Tryd.func12 (by kernel_rfl) rfl #[.agg #[.int .i64 t299, .int .i64 t300, .int .i64 t301, .slice Ao14 t302.length co14], .agg #[.int .i64 t307, .int .i64 t308, .int .i64 t309, .slice Ao19 t310.length co19]] rfl (by (try simp only [List.map_toArray, List.map_cons, List.map_nil]); first | done | rfl | (simp only [List.length_drop, List.length_take]; rfl)) ?_; (with_reducible refine (haulierref05_Same.calls kj2 t299 t300 t301 _ _ t302 t307 t308 t309 _ _ t310 true _ ?side1 ?side2 ?side3 ?side4 A9.out).mono ?_); (case side1 => refine (Kd.R_reads' (e := 34) (base := w.heap.size) (ok := fun k_ => (True ∧ some k_ ≠ (.slice Ao19 t310.length co19 : Value).ownBlock)) (n := t302.length) (c := co14) ?_).2.2; exact (by (with_reducible repeat (first | apply Kd.R_alloc | apply Kd.R_drewN | apply Kd.R_drew)); exact (Kd.R_mono (Kd.R_far (p := ⟨gb314, 3, none⟩) (Kd.R_far (p := ⟨gb314, 2, none⟩) (Kd.R_far (p := ⟨gb314, 1, none⟩) (Kd.R_far (p := ⟨gb314, 0, none⟩) (Kd.R_types HO304.out BK314.out (by decide)) (fun _ hk => hk.2) (.int .i64 t307)) (fun _ hk => hk.2) (.int .i64 t308)) (fun _ hk => hk.2) (.int .i64 t309)) (fun _ hk => hk.2) (.slice Ao19 t310.length co19)) (fun _ h_ => h_.1)))); (case side2 => exact (Kd.R_reads' HO304.out).2.1); (case side3 => refine (Kd.R_reads' (e := 34) (base := w.heap.size) (ok := fun k_ => (True ∧ some k_ ≠ (.slice Ao14 t302.length co14 : Value).ownBlock)) (n := t310.length) (c := co19) ?_).2.2; exact (by (with_reducible repeat (first | apply Kd.R_alloc | apply Kd.R_drewN | apply Kd.R_drew)); exact (Kd.R_mono (Kd.R_far (p := ⟨gb314, 3, none⟩) (Kd.R_far (p := ⟨gb314, 2, none⟩) (Kd.R_far (p := ⟨gb314, 1, none⟩) (Kd.R_far (p := ⟨gb314, 0, none⟩) (Kd.R_types HO312.out BK314.out (by decide)) (fun _ hk => hk.2) (.int .i64 t307)) (fun _ hk => hk.2) (.int .i64 t308)) (fun _ hk => hk.2) (.int .i64 t309)) (fun _ hk => hk.2) (.slice Ao19 t310.length co19)) (fun _ h_ => h_.1)))); (case side4 => exact (Kd.R_reads' HO312.out).2.1); rintro e w21 ⟨rfl, hb⟩; refine ⟨_, rfl, ?_⟩; have n0_ := zqi (Kd.R_below (by (with_reducible repeat (first | apply Kd.R_alloc | apply Kd.R_drewN | apply Kd.R_drew)); exact (Kd.R_mono (Kd.R_far (p := ⟨gb314, 3, none⟩) (Kd.R_far (p := ⟨gb314, 2, none⟩) (Kd.R_far (p := ⟨gb314, 1, none⟩) (Kd.R_far (p := ⟨gb314, 0, none⟩) (Kd.R_types HO304.out BK314.out (by decide)) (fun _ hk => hk.2) (.int .i64 t307)) (fun _ hk => hk.2) (.int .i64 t308)) (fun _ hk => hk.2) (.int .i64 t309)) (fun _ hk => hk.2) (.slice Ao19 t310.length co19)) (fun _ h_ => h_.1))) hb); have n1_ := zqi (Kd.R_below (by (with_reducible repeat (first | apply Kd.R_alloc | apply Kd.R_drewN | apply Kd.R_drew)); exact (Kd.R_mono (Kd.R_far (p := ⟨gb314, 3, none⟩) (Kd.R_far (p := ⟨gb314, 2, none⟩) (Kd.R_far (p := ⟨gb314, 1, none⟩) (Kd.R_far (p := ⟨gb314, 0, none⟩) (Kd.R_types HO312.out BK314.out (by decide)) (fun _ hk => hk.2) (.int .i64 t307)) (fun _ hk => hk.2) (.int .i64 t308)) (fun _ hk => hk.2) (.int .i64 t309)) (fun _ hk => hk.2) (.slice Ao19 t310.length co19)) (fun _ h_ => h_.1))) hb); have n2_ := zqi (blk_below (g := gb306) (o := .cells #[.int .i64 t299, .int .i64 t300, .int .i64 t301, .slice Ao14 t302.length co14] 26 (0, 0)) (by (with_reducible repeat (first | apply zqa | apply zqb | apply zqc)); refine blk_far ?_ NB306_314.out _; (with_reducible repeat (first | apply zqa | apply zqb | apply zqc)); refine blk_far ?_ NB306_314.out _; (with_reducible repeat (first | apply zqa | apply zqb | apply zqc)); refine blk_far ?_ NB306_314.out _; (with_reducible repeat (first | apply zqa | apply zqb | apply zqc)); refine blk_far ?_ NB306_314.out _; (with_reducible repeat (first | apply zqa | apply zqb | apply zqc)); exact BK306.out) hb); have n3_ := zqi (blk_below (g := gb314) (o := .cells #[.int .i64 t307, .int .i64 t308, .int .i64 t309, .slice Ao19 t310.length co19] 26 (0, 0)) (by (with_reducible repeat (first | apply zqa | apply zqb | apply zqc)); refine blk_put (cs := #[.int .i64 t307, .int .i64 t308, .int .i64 t309, .slice none 0 0]) ?_ 3 _ rfl; (with_reducible repeat (first | apply zqa | apply zqb | apply zqc)); refine blk_put (cs := #[.int .i64 t307, .int .i64 t308, .int .i64 0, .slice none 0 0]) ?_ 2 _ rfl; (with_reducible repeat (first | apply zqa | apply zqb | apply zqc)); refine blk_put (cs := #[.int .i64 t307, .int .i64 0, .int .i64 0, .slice none 0 0]) ?_ 1 _ rfl; (with_reducible repeat (first | apply zqa | apply zqb | apply zqc)); refine blk_put (cs := #[.int .i64 0, .int .i64 0, .int .i64 0, .slice none 0 0]) ?_ 0 _ rfl; (with_reducible repeat (first | apply zqa | apply zqb | apply zqc)); exact BK314.out) hb); have n4_ := zqi (below_step (by repeat (first | (with_reducible first | exact HB.out | apply zqg | apply zqf | apply zqh | refine below_set ?_ GE306.out | refine below_set ?_ GE314.out) | exact HB.out)) hb); clear HO304; clear HO312; clear BK306; clear BK314; clear HB; have HO304 := n0_; have HO312 := n1_; have BK306 := n2_; have BK314 := n3_; have HB := n4_; clear n0_ n1_ n2_ n3_ n4_; (try clear hb); (try clear hb2); (try clear hk); (try clear hi)))
     go_ret
     exact ⟨by first | rfl | (simp [errW_none, errW_some] <;> rfl) | (simp [*, errW_none, errW_some] <;> rfl), by repeat (first | (with_reducible first | exact HB.out | apply zqg | apply zqf | apply zqh | refine below_set ?_ GE306.out | refine below_set ?_ GE314.out) | exact HB.out)⟩
    ·
     replace c10 := Bool.eq_false_iff.mpr c10
     subst c10
     have H1 : (none) = some r := by rw [if_neg (show ¬ (false = true) by decide)] at H; exact H
     clear H
     have H := H1
     clear H1
     exact absurd H (by simp)

/-- THE ONE PURE STATEMENT of haulierlaw05_InstParses: yours. -/
def haulierlaw05_InstParses.Pure : Prop := ∀ (l0 : List Int), l0.length ≤ maxLen → l0.length * 1 ≤ 140737488351232 → (∀ x ∈ l0, (Lit.int .u8 x).wf = true) → ∃ k, haulierlaw05_InstParses.f k l0 = some true
theorem haulierlaw05_InstParses.walk (P : haulierlaw05_InstParses.Pure) (a0 : Option Addr) (len0 cap0 : Nat) (z0 : List Int) (w : World) (w0 : (a0 = none ∧ len0 = 0 ∧ cap0 = 0 ∧ z0 = []) ∨ ∃ x, a0 = some x ∧ len0 ≤ cap0 ∧ cap0 ≤ maxLen ∧ z0.length = cap0 ∧ (∀ i, i < z0.length → w.cell? (x.add i) = some (.int .u8 (z0.getD i 0))) ∧ ∀ n ∈ z0, (Lit.int .u8 n).wf = true) (y0 : len0 * 1 ≤ 140737488351232) (hT : Go.Proofs.YtifekgemngfidaaDoor.Scan.NumTab w) :
  Calls Tryd.prog 3 #[.slice a0 len0 cap0] w fun e w' => e = .returned (.bool true) ∧ Below w.heap.size w w' := by
 obtain ⟨l0, rfl, hr0, hm0, hw0, hc0⟩ := ReadsInt.ofRowC w0
 obtain ⟨k, h⟩ := P l0 hm0 y0 hw0
 refine (haulierlaw05_InstParses.calls k _ _ l0 true w (Kd.C_of_reads (d := (0 : Int)) (h1 := fun _ => rfl) hr0) hc0 h hT).mono ?_
 rintro e w' ⟨rfl, hd⟩
 exact ⟨rfl, hd⟩

end Go.Proofs.YtifekgemngfidaaDoor.PA
