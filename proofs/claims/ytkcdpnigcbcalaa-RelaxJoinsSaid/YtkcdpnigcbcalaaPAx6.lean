-- Printed for this claim by wip/tools/xprint.py over the kit's print; the contracts marked BY HAND are this session's own.
import Derived.Test.YtkcdpnigcbcalaaPAx0
import Derived.Test.YtkcdpnigcbcalaaPAx1
import Derived.Test.YtkcdpnigcbcalaaPAx2
namespace Go.Proofs.Ytkcdpnigcbcalaa.PA
open Go.RowKit Go.Proofs.YtkcdpnigcbcalaaW.PrintWords Go.Proofs.YtkcdpnigcbcalaaW.PrintLast Go.Proofs.YtkcdpnigcbcalaaW.PrintMore
attribute [local go_sem] max2_int min2_int max_two min_two max_three min_three max_four min_four   -- for this text's walks alone
set_option linter.unusedVariables false
set_option linter.unusedSimpArgs false

attribute [local go_sem high] eqA24
/-! ### haulierlaw11_RelaxJoins: function 4 -/
mutual
def haulierlaw11_RelaxJoins.j0 : Nat → List (S24) → Bool → Bool → Int → Int → Int → Int → Int → Int → Int → Int → Option (Bool)
  | 0, _, _, _, _, _, _, _, _, _, _, _ => none
  | k + 1, x0, x5, x17, x180000, x180001, x180002, x180003, x180004, x180005, x180006, x180007 => if x17 = true then (some x5) else ((relax_Join.f x0).bind fun bt181 => (if bt181.2.2.2.2.2.2.2.2 = true then (haulierlaw11_RelaxJoins.l0 k x0 true 0 x180000 x180001 x180002 x180003 x180004 x180005 x180006 x180007 bt181.1 bt181.2.1 bt181.2.2.1 bt181.2.2.2.1 bt181.2.2.2.2.1 bt181.2.2.2.2.2.1 bt181.2.2.2.2.2.2.1 bt181.2.2.2.2.2.2.2.1) else (some (bt181.1 == 0 && (bt181.2.1 == 0 && (bt181.2.2.1 == 0 && (bt181.2.2.2.1 == 0 && (bt181.2.2.2.2.1 == 0 && (bt181.2.2.2.2.2.1 == 0 && (bt181.2.2.2.2.2.2.1 == 0 && (bt181.2.2.2.2.2.2.2.1 == 0)))))))))))
def haulierlaw11_RelaxJoins.l0 : Nat → List (S24) → Bool → Int → Int → Int → Int → Int → Int → Int → Int → Int → Int → Int → Int → Int → Int → Int → Int → Int → Option (Bool)
  | 0, _, _, _, _, _, _, _, _, _, _, _, _, _, _, _, _, _, _, _ => none
  | k + 1, x0, x8, x9, x180000, x180001, x180002, x180003, x180004, x180005, x180006, x180007, x191000, x191001, x191002, x191003, x191004, x191005, x191006, x191007 => if x9 < (x0.length : Int) then (if 0 ≤ x9 then ((relax_Covers.f x191000 x191001 x191002 x191003 x191004 x191005 x191006 x191007 ((rd_T24 x0 x9).f0) ((rd_T24 x0 x9).f1) ((rd_T24 x0 x9).f2) ((rd_T24 x0 x9).f3) ((rd_T24 x0 x9).f4) ((rd_T24 x0 x9).f5) ((rd_T24 x0 x9).f6) ((rd_T24 x0 x9).f7)).bind fun t193 => (if t193 = true then (if x8 = true then ((relax_Covers.f x180000 x180001 x180002 x180003 x180004 x180005 x180006 x180007 ((rd_T24 x0 x9).f0) ((rd_T24 x0 x9).f1) ((rd_T24 x0 x9).f2) ((rd_T24 x0 x9).f3) ((rd_T24 x0 x9).f4) ((rd_T24 x0 x9).f5) ((rd_T24 x0 x9).f6) ((rd_T24 x0 x9).f7)).bind fun t195 => (haulierlaw11_RelaxJoins.l0 k x0 t195 (wrap64 (x9 + 1)) x180000 x180001 x180002 x180003 x180004 x180005 x180006 x180007 x191000 x191001 x191002 x191003 x191004 x191005 x191006 x191007)) else (haulierlaw11_RelaxJoins.l0 k x0 false (wrap64 (x9 + 1)) x180000 x180001 x180002 x180003 x180004 x180005 x180006 x180007 x191000 x191001 x191002 x191003 x191004 x191005 x191006 x191007)) else (none))) else (none)) else (if x8 = true then ((relax_Covers.f x180000 x180001 x180002 x180003 x180004 x180005 x180006 x180007 x191000 x191001 x191002 x191003 x191004 x191005 x191006 x191007).bind fun t191 => (some t191)) else (some true))
end
def haulierlaw11_RelaxJoins.f (k : Nat) (l0 : List (S24)) (a1_0 : Int) (a1_1 : Int) (a1_2 : Int) (a1_3 : Int) (a1_4 : Int) (a1_5 : Int) (a1_6 : Int) (a1_7 : Int) : Option (Bool) := (haulierlaw11_awake.f).bind fun t180 => (if t180 = true then (haulierlaw11_RelaxJoins.j0 k l0 t180 (decide ((l0.length : Int) > 60)) a1_0 a1_1 a1_2 a1_3 a1_4 a1_5 a1_6 a1_7) else (haulierlaw11_RelaxJoins.j0 k l0 t180 true a1_0 a1_1 a1_2 a1_3 a1_4 a1_5 a1_6 a1_7))
theorem haulierlaw11_RelaxJoins.mono_l : ∀ k, (∀ y0 y1 y2 y3 y4 y5 y6 y7 y8 y9 y10, LeO (haulierlaw11_RelaxJoins.j0 k y0 y1 y2 y3 y4 y5 y6 y7 y8 y9 y10) (haulierlaw11_RelaxJoins.j0 (k + 1) y0 y1 y2 y3 y4 y5 y6 y7 y8 y9 y10)) ∧ (∀ y0 y1 y2 y3 y4 y5 y6 y7 y8 y9 y10 y11 y12 y13 y14 y15 y16 y17 y18, LeO (haulierlaw11_RelaxJoins.l0 k y0 y1 y2 y3 y4 y5 y6 y7 y8 y9 y10 y11 y12 y13 y14 y15 y16 y17 y18) (haulierlaw11_RelaxJoins.l0 (k + 1) y0 y1 y2 y3 y4 y5 y6 y7 y8 y9 y10 y11 y12 y13 y14 y15 y16 y17 y18))
  | 0 => ⟨fun _ _ _ _ _ _ _ _ _ _ _ r h => by simp [haulierlaw11_RelaxJoins.j0] at h, fun _ _ _ _ _ _ _ _ _ _ _ _ _ _ _ _ _ _ _ r h => by simp [haulierlaw11_RelaxJoins.l0] at h⟩
  | k + 1 => by
    obtain ⟨ih0, ih1⟩ := haulierlaw11_RelaxJoins.mono_l k
    refine ⟨?_, ?_⟩
    · intro y0 y1 y2 y3 y4 y5 y6 y7 y8 y9 y10
      unfold haulierlaw11_RelaxJoins.j0
      repeat' first
      | (with_reducible exact ih0 _ _ _ _ _ _ _ _ _ _ _)
      | (with_reducible exact ih1 _ _ _ _ _ _ _ _ _ _ _ _ _ _ _ _ _ _ _)
      | (with_reducible exact LeO.refl _)
      | (with_reducible exact LeO.none _)
      | (with_reducible refine LeO.ite ?_ ?_)
      | (with_reducible refine LeO.bind ?_ (fun _ => ?_))
      | exact ih0 _ _ _ _ _ _ _ _ _ _ _
      | exact ih1 _ _ _ _ _ _ _ _ _ _ _ _ _ _ _ _ _ _ _
      | exact LeO.none _
      | refine LeO.ite ?_ ?_
      | refine LeO.bind ?_ (fun _ => ?_)
    · intro y0 y1 y2 y3 y4 y5 y6 y7 y8 y9 y10 y11 y12 y13 y14 y15 y16 y17 y18
      unfold haulierlaw11_RelaxJoins.l0
      repeat' first
      | (with_reducible exact ih0 _ _ _ _ _ _ _ _ _ _ _)
      | (with_reducible exact ih1 _ _ _ _ _ _ _ _ _ _ _ _ _ _ _ _ _ _ _)
      | (with_reducible exact LeO.refl _)
      | (with_reducible exact LeO.none _)
      | (with_reducible refine LeO.ite ?_ ?_)
      | (with_reducible refine LeO.bind ?_ (fun _ => ?_))
      | exact ih0 _ _ _ _ _ _ _ _ _ _ _
      | exact ih1 _ _ _ _ _ _ _ _ _ _ _ _ _ _ _ _ _ _ _
      | exact LeO.none _
      | refine LeO.ite ?_ ?_
      | refine LeO.bind ?_ (fun _ => ?_)
theorem haulierlaw11_RelaxJoins.mono : ∀ a0 a1 a2 a3 a4 a5 a6 a7 a8 k, LeO (haulierlaw11_RelaxJoins.f k a0 a1 a2 a3 a4 a5 a6 a7 a8) (haulierlaw11_RelaxJoins.f (k + 1) a0 a1 a2 a3 a4 a5 a6 a7 a8) := by
  intro a0 a1 a2 a3 a4 a5 a6 a7 a8 k
  obtain ⟨ih0, ih1⟩ := haulierlaw11_RelaxJoins.mono_l k
  unfold haulierlaw11_RelaxJoins.f
  repeat' first
      | (with_reducible exact ih0 _ _ _ _ _ _ _ _ _ _ _)
      | (with_reducible exact ih1 _ _ _ _ _ _ _ _ _ _ _ _ _ _ _ _ _ _ _)
      | (with_reducible exact LeO.refl _)
      | (with_reducible exact LeO.none _)
      | (with_reducible refine LeO.ite ?_ ?_)
      | (with_reducible refine LeO.bind ?_ (fun _ => ?_))
      | exact ih0 _ _ _ _ _ _ _ _ _ _ _
      | exact ih1 _ _ _ _ _ _ _ _ _ _ _ _ _ _ _ _ _ _ _
      | exact LeO.none _
      | refine LeO.ite ?_ ?_
      | refine LeO.bind ?_ (fun _ => ?_)
def haulierlaw11_RelaxJoins.T13 : Bool × List (List Nat × List Nat) := (true, [([], []), ([0], [0]), ([1], [1]), ([1], [1]), ([1], [1]), ([3, 4, 1], [1, 3, 4]), ([5, 1], [1, 5]), ([2, 6, 1, 1], [1, 2, 6]), ([1, 7], [1, 7]), ([8, 7, 0, 1, 2, 3, 4, 5, 6, 7, 8], [0, 8])])
def haulierlaw11_RelaxJoins.B13 : List Nat := [0, 1, 3, 3, 3, 27, 59, 127, 255, 511]
theorem haulierlaw11_RelaxJoins.tab13 : rtab .any (opsOf Try.f4 13) = haulierlaw11_RelaxJoins.T13 := by kernel_rfl
theorem haulierlaw11_RelaxJoins.bits13 : waitsOk haulierlaw11_RelaxJoins.T13.2 haulierlaw11_RelaxJoins.B13 = true := by kernel_rfl
set_option maxHeartbeats 8000000 in
set_option maxRecDepth 100000 in
theorem haulierlaw11_RelaxJoins.calls (k : Nat) (A0 : Option Addr) (c0 : Nat) (l0 : List (S24)) (a1_0 : Int) (a1_1 : Int) (a1_2 : Int) (a1_3 : Int) (a1_4 : Int) (a1_5 : Int) (a1_6 : Int) (a1_7 : Int) (r : Bool) (w : World) (hr0 : Kd.C k24 w A0 l0.length l0) (hc0 : l0.length ≤ c0) (h : haulierlaw11_RelaxJoins.f k l0 a1_0 a1_1 a1_2 a1_3 a1_4 a1_5 a1_6 a1_7 = some r) :
    Calls Try.prog 4 #[.slice A0 l0.length c0, .agg #[.int .i64 a1_0, .int .i64 a1_1, .int .i64 a1_2, .int .i64 a1_3, .int .i64 a1_4, .int .u64 a1_5, .int .u64 a1_6, .int .u64 a1_7]] w fun e w' => e = .returned (.bool r) ∧ Below w.heap.size w w' := by
  have hu24 := Try.underlying24
  have HR0 := Aside0.mk hr0
  have HC0 := Aside0.mk hc0
  clear hr0 hc0
  have HB := Aside0.mk (Below.refl w.heap.size w)
  have H : ((haulierlaw11_awake.f).bind fun t180 => (if t180 = true then (haulierlaw11_RelaxJoins.j0 k l0 t180 (decide ((l0.length : Int) > 60)) a1_0 a1_1 a1_2 a1_3 a1_4 a1_5 a1_6 a1_7) else (haulierlaw11_RelaxJoins.j0 k l0 t180 true a1_0 a1_1 a1_2 a1_3 a1_4 a1_5 a1_6 a1_7))) = some r := h
  clear h
  replace H := Option.bind_eq_some_iff.mp H
  obtain ⟨t180, A30, H⟩ := H
  replace H : (if t180 = true then (haulierlaw11_RelaxJoins.j0 k l0 t180 (decide ((l0.length : Int) > 60)) a1_0 a1_1 a1_2 a1_3 a1_4 a1_5 a1_6 a1_7) else (haulierlaw11_RelaxJoins.j0 k l0 t180 true a1_0 a1_1 a1_2 a1_3 a1_4 a1_5 a1_6 a1_7)) = some r := H
  have A3 := Aside0.mk A30
  clear A30
  have HC4 := Aside0.mk H
  clear H
  go_enter Try.func4, Try.ntmps4
  go_upto_region 2 with (first | ((with_reducible refine gate_dst (N := 3) rfl ?_); (try (refine gate_guard (by rfl) ?_; dsimp only)); refine box_event ?hg (N := 3) ?hd (cs := #[.int .i64 a1_0, .int .i64 a1_1, .int .i64 a1_2, .int .i64 a1_3, .int .i64 a1_4, .int .u64 a1_5, .int .u64 a1_6, .int .u64 a1_7]) (t := 24) ?hr ?_; (case hd => rfl); (case hg => rfl); (case hr => first | (go_simp; done) | (go_simp; rfl)); intro gb179 hg w5 hbox hb; have n0_ := Aside0.mk (below_step (by repeat (first | (with_reducible first | exact HB.out | apply below_alloc | apply pw_below_drewN | apply below_drew1) | exact HB.out)) hb); have n1_ := Aside0.mk (hbox); have n2_ := Aside0.mk ((by rw [hg]; exact (below_size (by repeat (first | (with_reducible first | exact HB.out | apply below_alloc | apply pw_below_drewN | apply below_drew1) | exact HB.out))) : w.heap.size ≤ gb179)); have n3_ := Aside0.mk ((by rw [hg]; exact (below_size (by repeat (first | (with_reducible first | exact HB.out | apply below_alloc | apply pw_below_drewN | apply below_drew1) | exact HB.out))) : w.heap.size ≤ gb179)); clear HB; have HB := n0_; have BK179 := n1_; have GW179 := n2_; have GE179 := n3_; clear n0_ n1_ n2_ n3_; clear hb hbox hg) | ((with_reducible refine gate_callee (f := 11) rfl ?_); refine goesL_ (some 10) rfl rfl Try.func11 (by kernel_rfl) rfl #[] rfl (by (try simp only [List.map_toArray, List.map_cons, List.map_nil]); first | done | rfl | (simp only [List.length_drop, List.length_take]; rfl)) ?_; (with_reducible refine (haulierlaw11_awake.calls  t180 _ A3.out).mono ?_); rintro e w6 ⟨rfl, hb⟩; refine ⟨_, rfl, ?_⟩; have n0_ := Aside0.mk (blk_below (g := gb179) (o := .cells #[.int .i64 a1_0, .int .i64 a1_1, .int .i64 a1_2, .int .i64 a1_3, .int .i64 a1_4, .int .u64 a1_5, .int .u64 a1_6, .int .u64 a1_7] 24 (0, 0)) (by (with_reducible repeat (first | refine blk_drewN ?_ _ | refine blk_drew ?_ | refine blk_alloc ?_ _)); exact BK179.out) hb); have n1_ := Aside0.mk (below_step (by repeat (first | (with_reducible first | exact HB.out | apply below_alloc | apply pw_below_drewN | apply below_drew1 | refine below_set ?_ GE179.out) | exact HB.out)) hb); clear BK179; clear HB; have BK179 := n0_; have HB := n1_; clear n0_ n1_; (try clear hb); (try clear hb2); (try clear hk); (try clear hi)))
  (try simp only [Act.put, List.setIfInBounds_toArray, List.set_cons_zero, List.set_cons_succ])
  go_cut [17] (fun v17 wc => ∃ (kq : Nat) (x17_3 : Bool), v17 = .bool x17_3 ∧ Aside0 (haulierlaw11_RelaxJoins.j0 kq l0 t180 x17_3 a1_0 a1_1 a1_2 a1_3 a1_4 a1_5 a1_6 a1_7 = some r) ∧ Aside0 (kq ≤ k) ∧ Aside0 (wc.heap[gb179]? = some (.cells #[.int .i64 a1_0, .int .i64 a1_1, .int .i64 a1_2, .int .i64 a1_3, .int .i64 a1_4, .int .u64 a1_5, .int .u64 a1_6, .int .u64 a1_7] 24 (0, 0))) ∧ Aside0 (Below w.heap.size w wc))
  case first =>
    have H := HC4.out
    clear HC4
    by_cases c7 : t180 = true
    · subst c7
      have H1 : (haulierlaw11_RelaxJoins.j0 k l0 true (decide ((l0.length : Int) > 60)) a1_0 a1_1 a1_2 a1_3 a1_4 a1_5 a1_6 a1_7) = some r := by rw [if_pos rfl] at H; exact H
      clear H
      have H := H1
      clear H1
      have H' := Aside0.mk H
      clear H
      go_wp2
      go_meet
      case rel => exact ⟨_, (decide ((l0.length : Int) > 60)), (by first | rfl | (simp; done) | (simp [*]; done)), H', ⟨by first | omega | exact Nat.le_refl _⟩, ⟨by (with_reducible repeat (first | refine blk_drewN ?_ _ | refine blk_drew ?_ | refine blk_alloc ?_ _)); exact BK179.out⟩, ⟨by repeat (first | (with_reducible first | exact HB.out | apply below_alloc | apply pw_below_drewN | apply below_drew1 | refine below_set ?_ GE179.out) | exact HB.out)⟩⟩
    · replace c7 := Bool.eq_false_iff.mpr c7
      subst c7
      have H1 : (haulierlaw11_RelaxJoins.j0 k l0 false true a1_0 a1_1 a1_2 a1_3 a1_4 a1_5 a1_6 a1_7) = some r := by rw [if_neg (show ¬ (false = true) by decide)] at H; exact H
      clear H
      have H := H1
      clear H1
      have H' := Aside0.mk H
      clear H
      go_wp2
      go_meet
      case rel => exact ⟨_, (true), (by first | rfl | (simp; done) | (simp [*]; done)), H', ⟨by first | omega | exact Nat.le_refl _⟩, ⟨by (with_reducible repeat (first | refine blk_drewN ?_ _ | refine blk_drew ?_ | refine blk_alloc ?_ _)); exact BK179.out⟩, ⟨by repeat (first | (with_reducible first | exact HB.out | apply below_alloc | apply pw_below_drewN | apply below_drew1 | refine below_set ?_ GE179.out) | exact HB.out)⟩⟩
  case rest =>
    clear HC4
    try clear c1
    try clear p2
    try clear c4
    try clear c7
    obtain ⟨kq, x17_3, rfl, HA, HJ3, BK179, HB⟩ := hcut
    cases kq with
    | zero => exact absurd HA.out (by simp [haulierlaw11_RelaxJoins.j0])
    | succ kj3 =>
      have H := HA.out
      clear HA
      simp only [haulierlaw11_RelaxJoins.j0] at H
      by_cases c8 : x17_3 = true
      · subst c8
        have H1 : (some t180) = some r := by rw [if_pos rfl] at H; exact H
        clear H
        have H := H1
        clear H1
        obtain rfl := Option.some.inj H
        go_wp2
        go_ret
        exact ⟨by first | rfl | (simp [errW_none, errW_some] <;> rfl) | (simp [*, errW_none, errW_some] <;> rfl), by repeat (first | (with_reducible first | exact HB.out | apply below_alloc | apply pw_below_drewN | apply below_drew1 | refine below_set ?_ GE179.out) | exact HB.out)⟩
      · replace c8 := Bool.eq_false_iff.mpr c8
        subst c8
        have H1 : ((relax_Join.f l0).bind fun bt181 => (if bt181.2.2.2.2.2.2.2.2 = true then (haulierlaw11_RelaxJoins.l0 kj3 l0 true 0 a1_0 a1_1 a1_2 a1_3 a1_4 a1_5 a1_6 a1_7 bt181.1 bt181.2.1 bt181.2.2.1 bt181.2.2.2.1 bt181.2.2.2.2.1 bt181.2.2.2.2.2.1 bt181.2.2.2.2.2.2.1 bt181.2.2.2.2.2.2.2.1) else (some (bt181.1 == 0 && (bt181.2.1 == 0 && (bt181.2.2.1 == 0 && (bt181.2.2.2.1 == 0 && (bt181.2.2.2.2.1 == 0 && (bt181.2.2.2.2.2.1 == 0 && (bt181.2.2.2.2.2.2.1 == 0 && (bt181.2.2.2.2.2.2.2.1 == 0))))))))))) = some r := by rw [if_neg (show ¬ (false = true) by decide)] at H; exact H
        clear H
        have H := H1
        clear H1
        replace H := Option.bind_eq_some_iff.mp H
        obtain ⟨⟨t181, t182, t183, t184, t185, t186, t187, t188, t189⟩, A90, H⟩ := H
        replace H : (if t189 = true then (haulierlaw11_RelaxJoins.l0 kj3 l0 true 0 a1_0 a1_1 a1_2 a1_3 a1_4 a1_5 a1_6 a1_7 t181 t182 t183 t184 t185 t186 t187 t188) else (some (t181 == 0 && (t182 == 0 && (t183 == 0 && (t184 == 0 && (t185 == 0 && (t186 == 0 && (t187 == 0 && (t188 == 0)))))))))) = some r := H
        have A9 := Aside0.mk A90
        clear A90
        by_cases c10 : t189 = true
        · subst c10
          have H1 : (haulierlaw11_RelaxJoins.l0 kj3 l0 true 0 a1_0 a1_1 a1_2 a1_3 a1_4 a1_5 a1_6 a1_7 t181 t182 t183 t184 t185 t186 t187 t188) = some r := by rw [if_pos rfl] at H; exact H
          clear H
          have H := H1
          clear H1
          have H' := Aside0.mk H
          clear H
          go_wp2_with (first | ((with_reducible refine gate_callee (f := 12) rfl ?_); refine goesL_ (some 21) rfl rfl Try.func12 (by kernel_rfl) rfl #[.slice A0 l0.length c0] rfl (by (try simp only [List.map_toArray, List.map_cons, List.map_nil]); first | done | rfl | (simp only [List.length_drop, List.length_take]; rfl)) ?_; (with_reducible refine (relax_Join.calls _ _ l0 t181 t182 t183 t184 t185 t186 t187 t188 true _ ?side1 ?side2 A9.out).mono ?_); (case side1 => repeat (first | exact (Kd.C_below HR0.out HB.out) | (with_reducible refine Kd.C_alloc ?_ _) | (with_reducible refine Kd.C_drewN ?_ _) | (with_reducible refine Kd.C_drew ?_))); (case side2 => exact HC0.out); rintro e w11 ⟨rfl, hb⟩; refine ⟨_, rfl, ?_⟩; have n0_ := Aside0.mk (blk_below (g := gb179) (o := .cells #[.int .i64 a1_0, .int .i64 a1_1, .int .i64 a1_2, .int .i64 a1_3, .int .i64 a1_4, .int .u64 a1_5, .int .u64 a1_6, .int .u64 a1_7] 24 (0, 0)) (by (with_reducible repeat (first | refine blk_drewN ?_ _ | refine blk_drew ?_ | refine blk_alloc ?_ _)); exact BK179.out) hb); have n1_ := Aside0.mk (below_step (by repeat (first | (with_reducible first | exact HB.out | apply below_alloc | apply pw_below_drewN | apply below_drew1 | refine below_set ?_ GE179.out) | exact HB.out)) hb); clear BK179; clear HB; have BK179 := n0_; have HB := n1_; clear n0_ n1_; (try clear hb); (try clear hb2); (try clear hk); (try clear hi)) | ((with_reducible refine gate_dst (N := 6) rfl ?_); (try (refine gate_guard (by rfl) ?_; dsimp only)); refine box_event ?hg (N := 6) ?hd (cs := #[.int .i64 0, .int .i64 0, .int .i64 0, .int .i64 0, .int .i64 0, .int .u64 0, .int .u64 0, .int .u64 0]) (t := 24) ?hr ?_; (case hd => rfl); (case hg => rfl); (case hr => first | (go_simp; done) | (go_simp; rfl)); intro gb190 hg w12 hbox hb; have n0_ := Aside0.mk (blk_below (g := gb179) (o := .cells #[.int .i64 a1_0, .int .i64 a1_1, .int .i64 a1_2, .int .i64 a1_3, .int .i64 a1_4, .int .u64 a1_5, .int .u64 a1_6, .int .u64 a1_7] 24 (0, 0)) (by (with_reducible repeat (first | refine blk_drewN ?_ _ | refine blk_drew ?_ | refine blk_alloc ?_ _)); exact BK179.out) hb); have n1_ := Aside0.mk (below_step (by repeat (first | (with_reducible first | exact HB.out | apply below_alloc | apply pw_below_drewN | apply below_drew1 | refine below_set ?_ GE179.out) | exact HB.out)) hb); have n2_ := Aside0.mk (hbox); have n3_ := Aside0.mk ((by rw [hg]; exact (below_size (by repeat (first | (with_reducible first | exact HB.out | apply below_alloc | apply pw_below_drewN | apply below_drew1 | refine below_set ?_ GE179.out) | exact HB.out))) : w.heap.size ≤ gb190)); have n4_ := Aside0.mk ((by rw [hg]; exact (below_size (by repeat (first | (with_reducible first | exact HB.out | apply below_alloc | apply pw_below_drewN | apply below_drew1 | refine below_set ?_ GE179.out) | exact HB.out))) : w.heap.size ≤ gb190)); have n5_ := Aside0.mk ((by rw [hg]; exact Nat.ne_of_lt (blk_lt (g := gb179) (o := .cells #[.int .i64 a1_0, .int .i64 a1_1, .int .i64 a1_2, .int .i64 a1_3, .int .i64 a1_4, .int .u64 a1_5, .int .u64 a1_6, .int .u64 a1_7] 24 (0, 0)) (by (with_reducible repeat (first | refine blk_drewN ?_ _ | refine blk_drew ?_ | refine blk_alloc ?_ _)); exact BK179.out)) : gb179 ≠ gb190)); have n6_ := Aside0.mk ((by rw [hg]; exact Nat.ne_of_gt (blk_lt (g := gb179) (o := .cells #[.int .i64 a1_0, .int .i64 a1_1, .int .i64 a1_2, .int .i64 a1_3, .int .i64 a1_4, .int .u64 a1_5, .int .u64 a1_6, .int .u64 a1_7] 24 (0, 0)) (by (with_reducible repeat (first | refine blk_drewN ?_ _ | refine blk_drew ?_ | refine blk_alloc ?_ _)); exact BK179.out)) : gb190 ≠ gb179)); clear BK179; clear HB; have BK179 := n0_; have HB := n1_; have BK190 := n2_; have GW190 := n3_; have GE190 := n4_; have NB179_190 := n5_; have NB190_179 := n6_; clear n0_ n1_ n2_ n3_ n4_ n5_ n6_; clear hb hbox hg; have hnb13 := NB190_179.out; have hnc13 := NB179_190.out; have hcz14_0 : w12.cell? ⟨gb190, 0, none⟩ = some (.int .i64 0) := (blk_cell BK190.out 0).trans rfl; have hcz14_1 : w12.cell? ⟨gb190, 1, none⟩ = some (.int .i64 0) := (blk_cell BK190.out 1).trans rfl; have hcz14_2 : w12.cell? ⟨gb190, 2, none⟩ = some (.int .i64 0) := (blk_cell BK190.out 2).trans rfl; have hcz14_3 : w12.cell? ⟨gb190, 3, none⟩ = some (.int .i64 0) := (blk_cell BK190.out 3).trans rfl; have hcz14_4 : w12.cell? ⟨gb190, 4, none⟩ = some (.int .i64 0) := (blk_cell BK190.out 4).trans rfl; have hcz14_5 : w12.cell? ⟨gb190, 5, none⟩ = some (.int .u64 0) := (blk_cell BK190.out 5).trans rfl; have hcz14_6 : w12.cell? ⟨gb190, 6, none⟩ = some (.int .u64 0) := (blk_cell BK190.out 6).trans rfl; have hcz14_7 : w12.cell? ⟨gb190, 7, none⟩ = some (.int .u64 0) := (blk_cell BK190.out 7).trans rfl; have hfz14_0 := blk_frozen BK190.out 0; have hfz14_1 := blk_frozen BK190.out 1; have hfz14_2 := blk_frozen BK190.out 2; have hfz14_3 := blk_frozen BK190.out 3; have hfz14_4 := blk_frozen BK190.out 4; have hfz14_5 := blk_frozen BK190.out 5; have hfz14_6 := blk_frozen BK190.out 6; have hfz14_7 := blk_frozen BK190.out 7))
          go_loopg [8, 9] kj3 (fun kq v8 v9 w' => ∃ (x8_2 : Bool) (x9_2 : Int), v8 = .bool x8_2 ∧ v9 = .int .i64 x9_2 ∧ Aside0 (haulierlaw11_RelaxJoins.l0 kq l0 x8_2 x9_2 a1_0 a1_1 a1_2 a1_3 a1_4 a1_5 a1_6 a1_7 t181 t182 t183 t184 t185 t186 t187 t188 = some r) ∧ Aside0 (kq ≤ kj3) ∧ Aside0 (w'.heap[gb179]? = some (.cells #[.int .i64 a1_0, .int .i64 a1_1, .int .i64 a1_2, .int .i64 a1_3, .int .i64 a1_4, .int .u64 a1_5, .int .u64 a1_6, .int .u64 a1_7] 24 (0, 0))) ∧ Aside0 (w'.heap[gb190]? = some (.cells #[.int .i64 t181, .int .i64 t182, .int .i64 t183, .int .i64 t184, .int .i64 t185, .int .u64 t186, .int .u64 t187, .int .u64 t188] 24 (0, 0))) ∧ Aside0 (Below w.heap.size w w'))
          case atStart => exact ⟨(true), (0), (by first | rfl | (simp; done) | (simp [*]; done)), (by first | rfl | (simp; done) | (simp [*]; done)), H', ⟨Nat.le_refl _⟩, ⟨by (with_reducible repeat (first | refine blk_drewN ?_ _ | refine blk_drew ?_ | refine blk_alloc ?_ _)); refine blk_far ?_ NB179_190.out _; (with_reducible repeat (first | refine blk_drewN ?_ _ | refine blk_drew ?_ | refine blk_alloc ?_ _)); refine blk_far ?_ NB179_190.out _; (with_reducible repeat (first | refine blk_drewN ?_ _ | refine blk_drew ?_ | refine blk_alloc ?_ _)); refine blk_far ?_ NB179_190.out _; (with_reducible repeat (first | refine blk_drewN ?_ _ | refine blk_drew ?_ | refine blk_alloc ?_ _)); refine blk_far ?_ NB179_190.out _; (with_reducible repeat (first | refine blk_drewN ?_ _ | refine blk_drew ?_ | refine blk_alloc ?_ _)); refine blk_far ?_ NB179_190.out _; (with_reducible repeat (first | refine blk_drewN ?_ _ | refine blk_drew ?_ | refine blk_alloc ?_ _)); refine blk_far ?_ NB179_190.out _; (with_reducible repeat (first | refine blk_drewN ?_ _ | refine blk_drew ?_ | refine blk_alloc ?_ _)); refine blk_far ?_ NB179_190.out _; (with_reducible repeat (first | refine blk_drewN ?_ _ | refine blk_drew ?_ | refine blk_alloc ?_ _)); refine blk_far ?_ NB179_190.out _; (with_reducible repeat (first | refine blk_drewN ?_ _ | refine blk_drew ?_ | refine blk_alloc ?_ _)); exact BK179.out⟩, ⟨by (with_reducible repeat (first | refine blk_drewN ?_ _ | refine blk_drew ?_ | refine blk_alloc ?_ _)); refine blk_put (cs := #[.int .i64 t181, .int .i64 t182, .int .i64 t183, .int .i64 t184, .int .i64 t185, .int .u64 t186, .int .u64 t187, .int .u64 0]) ?_ 7 _ rfl; (with_reducible repeat (first | refine blk_drewN ?_ _ | refine blk_drew ?_ | refine blk_alloc ?_ _)); refine blk_put (cs := #[.int .i64 t181, .int .i64 t182, .int .i64 t183, .int .i64 t184, .int .i64 t185, .int .u64 t186, .int .u64 0, .int .u64 0]) ?_ 6 _ rfl; (with_reducible repeat (first | refine blk_drewN ?_ _ | refine blk_drew ?_ | refine blk_alloc ?_ _)); refine blk_put (cs := #[.int .i64 t181, .int .i64 t182, .int .i64 t183, .int .i64 t184, .int .i64 t185, .int .u64 0, .int .u64 0, .int .u64 0]) ?_ 5 _ rfl; (with_reducible repeat (first | refine blk_drewN ?_ _ | refine blk_drew ?_ | refine blk_alloc ?_ _)); refine blk_put (cs := #[.int .i64 t181, .int .i64 t182, .int .i64 t183, .int .i64 t184, .int .i64 0, .int .u64 0, .int .u64 0, .int .u64 0]) ?_ 4 _ rfl; (with_reducible repeat (first | refine blk_drewN ?_ _ | refine blk_drew ?_ | refine blk_alloc ?_ _)); refine blk_put (cs := #[.int .i64 t181, .int .i64 t182, .int .i64 t183, .int .i64 0, .int .i64 0, .int .u64 0, .int .u64 0, .int .u64 0]) ?_ 3 _ rfl; (with_reducible repeat (first | refine blk_drewN ?_ _ | refine blk_drew ?_ | refine blk_alloc ?_ _)); refine blk_put (cs := #[.int .i64 t181, .int .i64 t182, .int .i64 0, .int .i64 0, .int .i64 0, .int .u64 0, .int .u64 0, .int .u64 0]) ?_ 2 _ rfl; (with_reducible repeat (first | refine blk_drewN ?_ _ | refine blk_drew ?_ | refine blk_alloc ?_ _)); refine blk_put (cs := #[.int .i64 t181, .int .i64 0, .int .i64 0, .int .i64 0, .int .i64 0, .int .u64 0, .int .u64 0, .int .u64 0]) ?_ 1 _ rfl; (with_reducible repeat (first | refine blk_drewN ?_ _ | refine blk_drew ?_ | refine blk_alloc ?_ _)); refine blk_put (cs := #[.int .i64 0, .int .i64 0, .int .i64 0, .int .i64 0, .int .i64 0, .int .u64 0, .int .u64 0, .int .u64 0]) ?_ 0 _ rfl; (with_reducible repeat (first | refine blk_drewN ?_ _ | refine blk_drew ?_ | refine blk_alloc ?_ _)); exact BK190.out⟩, ⟨by repeat (first | (with_reducible first | exact HB.out | apply below_alloc | apply pw_below_drewN | apply below_drew1 | refine below_set ?_ GE179.out | refine below_set ?_ GE190.out) | exact HB.out)⟩⟩
          case round =>
            clear H'
            try clear c1
            try clear p2
            try clear c4
            try clear c7
            try clear c8
            try clear c10
            try clear c11
            try clear c12
            try clear c13
            try clear hcz14_0
            try clear hcz14_1
            try clear hcz14_2
            try clear hcz14_3
            try clear hcz14_4
            try clear hcz14_5
            try clear hcz14_6
            try clear hcz14_7
            try clear hfz14_0
            try clear hfz14_1
            try clear hfz14_2
            try clear hfz14_3
            try clear hfz14_4
            try clear hfz14_5
            try clear hfz14_6
            try clear hfz14_7
            try clear p2
            obtain ⟨x8_2, x9_2, rfl, rfl, HA, HK2, BK179, BK190, HB⟩ := hrel
            cases gk with
            | zero => exact absurd HA.out (by simp [haulierlaw11_RelaxJoins.l0])
            | succ k2 =>
              have H := HA.out
              clear HA
              simp only [haulierlaw11_RelaxJoins.l0] at H
              by_cases c15 : x9_2 < (l0.length : Int)
              · rw [if_pos c15] at H
                have c15b0 : decide (x9_2 < (l0.length : Int)) = true := decide_eq_true c15
                clear c15
                by_cases c16 : 0 ≤ x9_2
                · rw [if_pos c16] at H
                  have c16b0 : decide (0 ≤ x9_2) = true := decide_eq_true c16
                  clear c16
                  replace H := Option.bind_eq_some_iff.mp H
                  obtain ⟨t193, A170, H⟩ := H
                  replace H : (if t193 = true then (if x8_2 = true then ((relax_Covers.f a1_0 a1_1 a1_2 a1_3 a1_4 a1_5 a1_6 a1_7 ((rd_T24 l0 x9_2).f0) ((rd_T24 l0 x9_2).f1) ((rd_T24 l0 x9_2).f2) ((rd_T24 l0 x9_2).f3) ((rd_T24 l0 x9_2).f4) ((rd_T24 l0 x9_2).f5) ((rd_T24 l0 x9_2).f6) ((rd_T24 l0 x9_2).f7)).bind fun t195 => (haulierlaw11_RelaxJoins.l0 k2 l0 t195 (wrap64 (x9_2 + 1)) a1_0 a1_1 a1_2 a1_3 a1_4 a1_5 a1_6 a1_7 t181 t182 t183 t184 t185 t186 t187 t188)) else (haulierlaw11_RelaxJoins.l0 k2 l0 false (wrap64 (x9_2 + 1)) a1_0 a1_1 a1_2 a1_3 a1_4 a1_5 a1_6 a1_7 t181 t182 t183 t184 t185 t186 t187 t188)) else (none)) = some r := H
                  have A17 := Aside0.mk A170
                  clear A170
                  by_cases c18 : t193 = true
                  · subst c18
                    have H1 : (if x8_2 = true then ((relax_Covers.f a1_0 a1_1 a1_2 a1_3 a1_4 a1_5 a1_6 a1_7 ((rd_T24 l0 x9_2).f0) ((rd_T24 l0 x9_2).f1) ((rd_T24 l0 x9_2).f2) ((rd_T24 l0 x9_2).f3) ((rd_T24 l0 x9_2).f4) ((rd_T24 l0 x9_2).f5) ((rd_T24 l0 x9_2).f6) ((rd_T24 l0 x9_2).f7)).bind fun t195 => (haulierlaw11_RelaxJoins.l0 k2 l0 t195 (wrap64 (x9_2 + 1)) a1_0 a1_1 a1_2 a1_3 a1_4 a1_5 a1_6 a1_7 t181 t182 t183 t184 t185 t186 t187 t188)) else (haulierlaw11_RelaxJoins.l0 k2 l0 false (wrap64 (x9_2 + 1)) a1_0 a1_1 a1_2 a1_3 a1_4 a1_5 a1_6 a1_7 t181 t182 t183 t184 t185 t186 t187 t188)) = some r := by rw [if_pos rfl] at H; exact H
                    clear H
                    have H := H1
                    clear H1
                    by_cases c19 : x8_2 = true
                    · subst c19
                      have H1 : ((relax_Covers.f a1_0 a1_1 a1_2 a1_3 a1_4 a1_5 a1_6 a1_7 ((rd_T24 l0 x9_2).f0) ((rd_T24 l0 x9_2).f1) ((rd_T24 l0 x9_2).f2) ((rd_T24 l0 x9_2).f3) ((rd_T24 l0 x9_2).f4) ((rd_T24 l0 x9_2).f5) ((rd_T24 l0 x9_2).f6) ((rd_T24 l0 x9_2).f7)).bind fun t195 => (haulierlaw11_RelaxJoins.l0 k2 l0 t195 (wrap64 (x9_2 + 1)) a1_0 a1_1 a1_2 a1_3 a1_4 a1_5 a1_6 a1_7 t181 t182 t183 t184 t185 t186 t187 t188)) = some r := by rw [if_pos rfl] at H; exact H
                      clear H
                      have H := H1
                      clear H1
                      replace H := Option.bind_eq_some_iff.mp H
                      obtain ⟨t195, A200, H⟩ := H
                      replace H : (haulierlaw11_RelaxJoins.l0 k2 l0 t195 (wrap64 (x9_2 + 1)) a1_0 a1_1 a1_2 a1_3 a1_4 a1_5 a1_6 a1_7 t181 t182 t183 t184 t185 t186 t187 t188) = some r := H
                      have A20 := Aside0.mk A200
                      clear A200
                      have H' := Aside0.mk H
                      clear H
                      try go_wp2
                      have n0_ := Aside0.mk (blk_drew BK179.out)
                      have n1_ := Aside0.mk (blk_drew BK190.out)
                      have n2_ := Aside0.mk (below_drew1 HB.out)
                      clear BK179
                      clear BK190
                      clear HB
                      have BK179 := n0_
                      have BK190 := n1_
                      have HB := n2_
                      clear n0_ n1_ n2_
                      have p192 : 0 ≤ (x9_2 : Int) := of_decide_eq_true (by first | (with_reducible assumption) | assumption)
                      have q192 : x9_2 < (l0.length : Int) := of_decide_eq_true (by first | (with_reducible assumption) | assumption)
                      obtain ⟨ad192, e192, hx192_0, hx192_1, hx192_2, hx192_3, hx192_4, hx192_5, hx192_6, hx192_7⟩ := at_T24 HR0.out x9_2 p192 q192
                      have hw192_7 := hx192_7
                      have hw192_6 := hx192_6
                      have hw192_5 := hx192_5
                      have hw192_4 := hx192_4
                      have hw192_3 := hx192_3
                      have hw192_2 := hx192_2
                      have hw192_1 := hx192_1
                      have hw192_0 := hx192_0
                      cases e192
                      replace hx192_0 := (HB.out.cell (World.block_lt_of_cell? w _ hx192_0)).trans hx192_0
                      replace hx192_1 := (HB.out.cell (World.block_lt_of_cell? w _ hx192_1)).trans hx192_1
                      replace hx192_2 := (HB.out.cell (World.block_lt_of_cell? w _ hx192_2)).trans hx192_2
                      replace hx192_3 := (HB.out.cell (World.block_lt_of_cell? w _ hx192_3)).trans hx192_3
                      replace hx192_4 := (HB.out.cell (World.block_lt_of_cell? w _ hx192_4)).trans hx192_4
                      replace hx192_5 := (HB.out.cell (World.block_lt_of_cell? w _ hx192_5)).trans hx192_5
                      replace hx192_6 := (HB.out.cell (World.block_lt_of_cell? w _ hx192_6)).trans hx192_6
                      replace hx192_7 := (HB.out.cell (World.block_lt_of_cell? w _ hx192_7)).trans hx192_7
                      replace p192 := eq_true p192
                      replace q192 := eq_true q192
                      refine start_ (n := 7) (S := fun w' => w'.cell? ⟨gb190, 0, none⟩ = some (.int .i64 t181) ∧ w'.cell? ⟨gb190, 1, none⟩ = some (.int .i64 t182) ∧ w'.cell? ⟨gb190, 2, none⟩ = some (.int .i64 t183) ∧ w'.cell? ⟨gb190, 3, none⟩ = some (.int .i64 t184) ∧ w'.cell? ⟨gb190, 4, none⟩ = some (.int .i64 t185) ∧ w'.cell? ⟨gb190, 5, none⟩ = some (.int .u64 t186) ∧ w'.cell? ⟨gb190, 6, none⟩ = some (.int .u64 t187) ∧ w'.cell? ⟨gb190, 7, none⟩ = some (.int .u64 t188) ∧ w'.cell? (ad192.add ((x9_2).toNat * 8)) = some (.int .i64 ((rd_T24 l0 x9_2).f0)) ∧ w'.cell? ⟨(ad192.add ((x9_2).toNat * 8)).block, (ad192.add ((x9_2).toNat * 8)).off + 1, none⟩ = some (.int .i64 ((rd_T24 l0 x9_2).f1)) ∧ w'.cell? ⟨(ad192.add ((x9_2).toNat * 8)).block, (ad192.add ((x9_2).toNat * 8)).off + 2, none⟩ = some (.int .i64 ((rd_T24 l0 x9_2).f2)) ∧ w'.cell? ⟨(ad192.add ((x9_2).toNat * 8)).block, (ad192.add ((x9_2).toNat * 8)).off + 3, none⟩ = some (.int .i64 ((rd_T24 l0 x9_2).f3)) ∧ w'.cell? ⟨(ad192.add ((x9_2).toNat * 8)).block, (ad192.add ((x9_2).toNat * 8)).off + 4, none⟩ = some (.int .i64 ((rd_T24 l0 x9_2).f4)) ∧ w'.cell? ⟨(ad192.add ((x9_2).toNat * 8)).block, (ad192.add ((x9_2).toNat * 8)).off + 5, none⟩ = some (.int .u64 ((rd_T24 l0 x9_2).f5)) ∧ w'.cell? ⟨(ad192.add ((x9_2).toNat * 8)).block, (ad192.add ((x9_2).toNat * 8)).off + 6, none⟩ = some (.int .u64 ((rd_T24 l0 x9_2).f6)) ∧ w'.cell? ⟨(ad192.add ((x9_2).toNat * 8)).block, (ad192.add ((x9_2).toNat * 8)).off + 7, none⟩ = some (.int .u64 ((rd_T24 l0 x9_2).f7))) (ds := []) #[false, false, false, false, false, false, false] (by kernel_rfl) rfl rfl ⟨(blk_cell BK190.out 0).trans rfl, (blk_cell BK190.out 1).trans rfl, (blk_cell BK190.out 2).trans rfl, (blk_cell BK190.out 3).trans rfl, (blk_cell BK190.out 4).trans rfl, (blk_cell BK190.out 5).trans rfl, (blk_cell BK190.out 6).trans rfl, (blk_cell BK190.out 7).trans rfl, ((HB.out.cell (World.block_lt_of_cell? w _ hw192_0)).trans hw192_0), ((HB.out.cell (World.block_lt_of_cell? w _ hw192_1)).trans hw192_1), ((HB.out.cell (World.block_lt_of_cell? w _ hw192_2)).trans hw192_2), ((HB.out.cell (World.block_lt_of_cell? w _ hw192_3)).trans hw192_3), ((HB.out.cell (World.block_lt_of_cell? w _ hw192_4)).trans hw192_4), ((HB.out.cell (World.block_lt_of_cell? w _ hw192_5)).trans hw192_5), ((HB.out.cell (World.block_lt_of_cell? w _ hw192_6)).trans hw192_6), ((HB.out.cell (World.block_lt_of_cell? w _ hw192_7)).trans hw192_7)⟩ (fun hHeld => ?_)
                      generalize wr.drew = w21 at BK179 BK190 HB hx192_0 hx192_1 hx192_2 hx192_3 hx192_4 hx192_5 hx192_6 hx192_7 hHeld ⊢
                      refine pure_ (i := 1) (N := some 36) (v := ?_) (a' := ?_) #[false, true, false, false, false, false, false] rfl rfl (by kernel_rfl) (fun _ _ _ h => h) (Or.inl ⟨by rfl, ?_⟩) ?_ ?_
                      rotate_left
                      · intro w'
                        go_simp
                        with_reducible rfl
                      rotate_left
                      · simp only [Act.put, List.setIfInBounds_toArray, List.set_cons_zero, List.set_cons_succ, i64_w, i32_w]
                        rfl
                      refine pure_ (i := 2) (N := some 37) (v := ?_) (a' := ?_) #[false, true, true, false, false, false, false] rfl rfl (by kernel_rfl) (fun _ _ _ h => h) (Or.inl ⟨by rfl, ?_⟩) ?_ ?_
                      rotate_left
                      · intro w'
                        go_simp
                        with_reducible rfl
                      rotate_left
                      · simp only [Act.put, List.setIfInBounds_toArray, List.set_cons_zero, List.set_cons_succ, i64_w, i32_w]
                        rfl
                      refine pure_ (i := 3) (N := some 38) (v := ?_) (a' := ?_) #[false, true, true, true, false, false, false] rfl rfl (by kernel_rfl) (fun _ _ _ h => h) (Or.inl ⟨by rfl, ?_⟩) ?_ ?_
                      rotate_left
                      · intro w'
                        go_simp
                        with_reducible rfl
                      rotate_left
                      · simp only [Act.put, List.setIfInBounds_toArray, List.set_cons_zero, List.set_cons_succ, i64_w, i32_w]
                        rfl
                      refine take_ (i := 0) (N := some 35) (v := ?_) (a' := ?_) #[true, true, true, true, false, false, false] rfl rfl (by kernel_rfl) (fun _ _ _ h => h) (Or.inl ⟨by rfl, ?_⟩) hHeld ?_ ?_
                      rotate_left
                      · rintro w' ⟨s0, s1, s2, s3, s4, s5, s6, s7, s8, s9, s10, s11, s12, s13, s14, s15⟩
                        go_simp
                        with_reducible rfl
                      rotate_left
                      · simp only [Act.put, List.setIfInBounds_toArray, List.set_cons_zero, List.set_cons_succ, i64_w, i32_w]
                        rfl
                      refine take_ (i := 4) (N := some 39) (v := ?_) (a' := ?_) #[true, true, true, true, true, false, false] rfl rfl (by kernel_rfl) (fun _ _ _ h => h) (Or.inl ⟨by rfl, ?_⟩) hHeld ?_ ?_
                      rotate_left
                      · rintro w' ⟨s0, s1, s2, s3, s4, s5, s6, s7, s8, s9, s10, s11, s12, s13, s14, s15⟩
                        go_simp
                        with_reducible rfl
                      rotate_left
                      · simp only [Act.put, List.setIfInBounds_toArray, List.set_cons_zero, List.set_cons_succ, i64_w, i32_w]
                        rfl
                      refine one_ (i := 5) (N := some 40) #[true, true, true, true, true, true, false] rfl rfl (by kernel_rfl) (by decide) (fun K hK => ?_)
                      refine goes_ Try.func14 (by kernel_rfl) rfl #[.agg #[.int .i64 t181, .int .i64 t182, .int .i64 t183, .int .i64 t184, .int .i64 t185, .int .u64 t186, .int .u64 t187, .int .u64 t188], .agg #[.int .i64 ((rd_T24 l0 x9_2).f0), .int .i64 ((rd_T24 l0 x9_2).f1), .int .i64 ((rd_T24 l0 x9_2).f2), .int .i64 ((rd_T24 l0 x9_2).f3), .int .i64 ((rd_T24 l0 x9_2).f4), .int .u64 ((rd_T24 l0 x9_2).f5), .int .u64 ((rd_T24 l0 x9_2).f6), .int .u64 ((rd_T24 l0 x9_2).f7)]] (by rfl) rfl rfl (by (try simp only [List.map_toArray, List.map_cons, List.map_nil]); first | done | rfl | (simp only [List.length_drop, List.length_take]; rfl)) ?_
                      with_reducible refine (relax_Covers.calls t181 t182 t183 t184 t185 t186 t187 t188 ((rd_T24 l0 x9_2).f0) ((rd_T24 l0 x9_2).f1) ((rd_T24 l0 x9_2).f2) ((rd_T24 l0 x9_2).f3) ((rd_T24 l0 x9_2).f4) ((rd_T24 l0 x9_2).f5) ((rd_T24 l0 x9_2).f6) ((rd_T24 l0 x9_2).f7) true _ A17.out).mono ?_
                      rintro e w22 ⟨rfl, hb⟩
                      refine ⟨_, rfl, ?_⟩
                      have n0_ := Aside0.mk (blk_below (g := gb179) (o := .cells #[.int .i64 a1_0, .int .i64 a1_1, .int .i64 a1_2, .int .i64 a1_3, .int .i64 a1_4, .int .u64 a1_5, .int .u64 a1_6, .int .u64 a1_7] 24 (0, 0)) (by (with_reducible repeat (first | refine blk_drewN ?_ _ | refine blk_drew ?_ | refine blk_alloc ?_ _)); exact BK179.out) hb)
                      have n1_ := Aside0.mk (blk_below (g := gb190) (o := .cells #[.int .i64 t181, .int .i64 t182, .int .i64 t183, .int .i64 t184, .int .i64 t185, .int .u64 t186, .int .u64 t187, .int .u64 t188] 24 (0, 0)) (by (with_reducible repeat (first | refine blk_drewN ?_ _ | refine blk_drew ?_ | refine blk_alloc ?_ _)); exact BK190.out) hb)
                      have n2_ := Aside0.mk (below_step (by repeat (first | (with_reducible first | exact HB.out | apply below_alloc | apply pw_below_drewN | apply below_drew1 | refine below_set ?_ GE179.out | refine below_set ?_ GE190.out) | exact HB.out)) hb)
                      clear BK179
                      clear BK190
                      clear HB
                      have BK179 := n0_
                      have BK190 := n1_
                      have HB := n2_
                      clear n0_ n1_ n2_
                      (try clear hb)
                      (try clear hb2)
                      (try clear hk)
                      (try clear hi)
                      refine hK.out _ _ ⟨(blk_cell BK190.out 0).trans rfl, (blk_cell BK190.out 1).trans rfl, (blk_cell BK190.out 2).trans rfl, (blk_cell BK190.out 3).trans rfl, (blk_cell BK190.out 4).trans rfl, (blk_cell BK190.out 5).trans rfl, (blk_cell BK190.out 6).trans rfl, (blk_cell BK190.out 7).trans rfl, ((HB.out.cell (World.block_lt_of_cell? w _ hw192_0)).trans hw192_0), ((HB.out.cell (World.block_lt_of_cell? w _ hw192_1)).trans hw192_1), ((HB.out.cell (World.block_lt_of_cell? w _ hw192_2)).trans hw192_2), ((HB.out.cell (World.block_lt_of_cell? w _ hw192_3)).trans hw192_3), ((HB.out.cell (World.block_lt_of_cell? w _ hw192_4)).trans hw192_4), ((HB.out.cell (World.block_lt_of_cell? w _ hw192_5)).trans hw192_5), ((HB.out.cell (World.block_lt_of_cell? w _ hw192_6)).trans hw192_6), ((HB.out.cell (World.block_lt_of_cell? w _ hw192_7)).trans hw192_7)⟩ (fun hHeld => ?_)
                      clear hK K
                      refine norm_ (a' := ?_) ?_ ?_
                      rotate_left
                      · show Act.put _ (some 40) _ = _
                        simp only [Act.put, List.setIfInBounds_toArray, List.set_cons_zero, List.set_cons_succ, i64_w, i32_w]
                        rfl
                      refine pure_ (i := 6) (N := some 41) (v := ?_) (a' := ?_) #[true, true, true, true, true, true, true] rfl rfl (by kernel_rfl) (fun _ _ _ h => h) (Or.inl ⟨by rfl, ?_⟩) ?_ ?_
                      rotate_left
                      · intro w'
                        go_simp
                        with_reducible rfl
                      rotate_left
                      · simp only [Act.put, List.setIfInBounds_toArray, List.set_cons_zero, List.set_cons_succ, i64_w, i32_w]
                        rfl
                      refine done_ (by kernel_rfl) ?_
                      try go_wp2
                      have n0_ := Aside0.mk (blk_drew BK179.out)
                      have n1_ := Aside0.mk (blk_drew BK190.out)
                      have n2_ := Aside0.mk (below_drew1 HB.out)
                      clear BK179
                      clear BK190
                      clear HB
                      have BK179 := n0_
                      have BK190 := n1_
                      have HB := n2_
                      clear n0_ n1_ n2_
                      have p194 : 0 ≤ (x9_2 : Int) := of_decide_eq_true (by first | (with_reducible assumption) | assumption)
                      have q194 : x9_2 < (l0.length : Int) := of_decide_eq_true (by first | (with_reducible assumption) | assumption)
                      obtain ⟨ad194, e194, hx194_0, hx194_1, hx194_2, hx194_3, hx194_4, hx194_5, hx194_6, hx194_7⟩ := at_T24 HR0.out x9_2 p194 q194
                      have hw194_7 := hx194_7
                      have hw194_6 := hx194_6
                      have hw194_5 := hx194_5
                      have hw194_4 := hx194_4
                      have hw194_3 := hx194_3
                      have hw194_2 := hx194_2
                      have hw194_1 := hx194_1
                      have hw194_0 := hx194_0
                      obtain rfl : ad192 = ad194 := (by injection e194)
                      replace hx194_0 := (HB.out.cell (World.block_lt_of_cell? w _ hx194_0)).trans hx194_0
                      replace hx194_1 := (HB.out.cell (World.block_lt_of_cell? w _ hx194_1)).trans hx194_1
                      replace hx194_2 := (HB.out.cell (World.block_lt_of_cell? w _ hx194_2)).trans hx194_2
                      replace hx194_3 := (HB.out.cell (World.block_lt_of_cell? w _ hx194_3)).trans hx194_3
                      replace hx194_4 := (HB.out.cell (World.block_lt_of_cell? w _ hx194_4)).trans hx194_4
                      replace hx194_5 := (HB.out.cell (World.block_lt_of_cell? w _ hx194_5)).trans hx194_5
                      replace hx194_6 := (HB.out.cell (World.block_lt_of_cell? w _ hx194_6)).trans hx194_6
                      replace hx194_7 := (HB.out.cell (World.block_lt_of_cell? w _ hx194_7)).trans hx194_7
                      replace p194 := eq_true p194
                      replace q194 := eq_true q194
                      refine start_ (n := 10) (S := fun w' => w'.cell? ⟨gb179, 0, none⟩ = some (.int .i64 a1_0) ∧ w'.cell? ⟨gb179, 1, none⟩ = some (.int .i64 a1_1) ∧ w'.cell? ⟨gb179, 2, none⟩ = some (.int .i64 a1_2) ∧ w'.cell? ⟨gb179, 3, none⟩ = some (.int .i64 a1_3) ∧ w'.cell? ⟨gb179, 4, none⟩ = some (.int .i64 a1_4) ∧ w'.cell? ⟨gb179, 5, none⟩ = some (.int .u64 a1_5) ∧ w'.cell? ⟨gb179, 6, none⟩ = some (.int .u64 a1_6) ∧ w'.cell? ⟨gb179, 7, none⟩ = some (.int .u64 a1_7) ∧ w'.cell? (ad192.add ((x9_2).toNat * 8)) = some (.int .i64 ((rd_T24 l0 x9_2).f0)) ∧ w'.cell? ⟨(ad192.add ((x9_2).toNat * 8)).block, (ad192.add ((x9_2).toNat * 8)).off + 1, none⟩ = some (.int .i64 ((rd_T24 l0 x9_2).f1)) ∧ w'.cell? ⟨(ad192.add ((x9_2).toNat * 8)).block, (ad192.add ((x9_2).toNat * 8)).off + 2, none⟩ = some (.int .i64 ((rd_T24 l0 x9_2).f2)) ∧ w'.cell? ⟨(ad192.add ((x9_2).toNat * 8)).block, (ad192.add ((x9_2).toNat * 8)).off + 3, none⟩ = some (.int .i64 ((rd_T24 l0 x9_2).f3)) ∧ w'.cell? ⟨(ad192.add ((x9_2).toNat * 8)).block, (ad192.add ((x9_2).toNat * 8)).off + 4, none⟩ = some (.int .i64 ((rd_T24 l0 x9_2).f4)) ∧ w'.cell? ⟨(ad192.add ((x9_2).toNat * 8)).block, (ad192.add ((x9_2).toNat * 8)).off + 5, none⟩ = some (.int .u64 ((rd_T24 l0 x9_2).f5)) ∧ w'.cell? ⟨(ad192.add ((x9_2).toNat * 8)).block, (ad192.add ((x9_2).toNat * 8)).off + 6, none⟩ = some (.int .u64 ((rd_T24 l0 x9_2).f6)) ∧ w'.cell? ⟨(ad192.add ((x9_2).toNat * 8)).block, (ad192.add ((x9_2).toNat * 8)).off + 7, none⟩ = some (.int .u64 ((rd_T24 l0 x9_2).f7))) (ds := []) #[false, false, false, false, false, false, false, false, false, false] (by kernel_rfl) rfl rfl ⟨(blk_cell BK179.out 0).trans rfl, (blk_cell BK179.out 1).trans rfl, (blk_cell BK179.out 2).trans rfl, (blk_cell BK179.out 3).trans rfl, (blk_cell BK179.out 4).trans rfl, (blk_cell BK179.out 5).trans rfl, (blk_cell BK179.out 6).trans rfl, (blk_cell BK179.out 7).trans rfl, ((HB.out.cell (World.block_lt_of_cell? w _ hw194_0)).trans hw194_0), ((HB.out.cell (World.block_lt_of_cell? w _ hw194_1)).trans hw194_1), ((HB.out.cell (World.block_lt_of_cell? w _ hw194_2)).trans hw194_2), ((HB.out.cell (World.block_lt_of_cell? w _ hw194_3)).trans hw194_3), ((HB.out.cell (World.block_lt_of_cell? w _ hw194_4)).trans hw194_4), ((HB.out.cell (World.block_lt_of_cell? w _ hw194_5)).trans hw194_5), ((HB.out.cell (World.block_lt_of_cell? w _ hw194_6)).trans hw194_6), ((HB.out.cell (World.block_lt_of_cell? w _ hw194_7)).trans hw194_7)⟩ (fun hHeld => ?_); refine with_tabW haulierlaw11_RelaxJoins.tab13 haulierlaw11_RelaxJoins.bits13 (fun HT_ HW_ => ?_)
                      generalize w22.drew = w23 at BK179 BK190 HB hx194_0 hx194_1 hx194_2 hx194_3 hx194_4 hx194_5 hx194_6 hx194_7 hHeld ⊢
                      refine pure_ (i := 0) (N := some 42) (v := ?_) (a' := ?_) #[true, false, false, false, false, false, false, false, false, false] rfl rfl (any_of HT_.out (by kernel_rfl)) (fun _ _ _ h => h) (Or.inl ⟨by rfl, ?_⟩) ?_ ?_
                      rotate_left
                      · intro w'
                        go_simp
                        with_reducible rfl
                      rotate_left
                      · simp only [Act.put, List.setIfInBounds_toArray, List.set_cons_zero, List.set_cons_succ, i64_w, i32_w]
                        rfl
                      refine pure_ (i := 1) (N := some 43) (v := ?_) (a' := ?_) #[true, true, false, false, false, false, false, false, false, false] rfl rfl (any_of HT_.out (by kernel_rfl)) (fun _ _ _ h => h) (Or.inl ⟨by rfl, ?_⟩) ?_ ?_
                      rotate_left
                      · intro w'
                        go_simp
                        with_reducible rfl
                      rotate_left
                      · simp only [Act.put, List.setIfInBounds_toArray, List.set_cons_zero, List.set_cons_succ, i64_w, i32_w]
                        rfl
                      refine pure_ (i := 3) (N := some 45) (v := ?_) (a' := ?_) #[true, true, false, true, false, false, false, false, false, false] rfl rfl (any_of HT_.out (by kernel_rfl)) (fun _ _ _ h => h) (Or.inl ⟨by rfl, ?_⟩) ?_ ?_
                      rotate_left
                      · intro w'
                        go_simp
                        with_reducible rfl
                      rotate_left
                      · simp only [Act.put, List.setIfInBounds_toArray, List.set_cons_zero, List.set_cons_succ, i64_w, i32_w]
                        rfl
                      refine pure_ (i := 4) (N := some 46) (v := ?_) (a' := ?_) #[true, true, false, true, true, false, false, false, false, false] rfl rfl (any_of HT_.out (by kernel_rfl)) (fun _ _ _ h => h) (Or.inl ⟨by rfl, ?_⟩) ?_ ?_
                      rotate_left
                      · intro w'
                        go_simp
                        with_reducible rfl
                      rotate_left
                      · simp only [Act.put, List.setIfInBounds_toArray, List.set_cons_zero, List.set_cons_succ, i64_w, i32_w]
                        rfl
                      refine pure_ (i := 5) (N := some 47) (v := ?_) (a' := ?_) #[true, true, false, true, true, true, false, false, false, false] rfl rfl (any_of HT_.out (by kernel_rfl)) (fun _ _ _ h => h) (Or.inl ⟨by rfl, ?_⟩) ?_ ?_
                      rotate_left
                      · intro w'
                        go_simp
                        with_reducible rfl
                      rotate_left
                      · simp only [Act.put, List.setIfInBounds_toArray, List.set_cons_zero, List.set_cons_succ, i64_w, i32_w]
                        rfl
                      refine take_ (i := 2) (N := some 44) (v := ?_) (a' := ?_) #[true, true, true, true, true, true, false, false, false, false] rfl rfl (take_ofW HT_.out HW_.out (by kernel_rfl)) (fun _ _ _ h => h) (Or.inl ⟨by rfl, ?_⟩) hHeld ?_ ?_
                      rotate_left
                      · rintro w' ⟨s0, s1, s2, s3, s4, s5, s6, s7, s8, s9, s10, s11, s12, s13, s14, s15⟩
                        go_simp
                        with_reducible rfl
                      rotate_left
                      · simp only [Act.put, List.setIfInBounds_toArray, List.set_cons_zero, List.set_cons_succ, i64_w, i32_w]
                        rfl
                      refine take_ (i := 6) (N := some 48) (v := ?_) (a' := ?_) #[true, true, true, true, true, true, true, false, false, false] rfl rfl (take_ofW HT_.out HW_.out (by kernel_rfl)) (fun _ _ _ h => h) (Or.inl ⟨by rfl, ?_⟩) hHeld ?_ ?_
                      rotate_left
                      · rintro w' ⟨s0, s1, s2, s3, s4, s5, s6, s7, s8, s9, s10, s11, s12, s13, s14, s15⟩
                        go_simp
                        with_reducible rfl
                      rotate_left
                      · simp only [Act.put, List.setIfInBounds_toArray, List.set_cons_zero, List.set_cons_succ, i64_w, i32_w]
                        rfl
                      refine one_ (i := 7) (N := some 49) #[true, true, true, true, true, true, true, true, false, false] rfl rfl (one_of HT_.out (by kernel_rfl)) (by decide) (fun K hK => ?_)
                      refine goes_ Try.func14 (by kernel_rfl) rfl #[.agg #[.int .i64 a1_0, .int .i64 a1_1, .int .i64 a1_2, .int .i64 a1_3, .int .i64 a1_4, .int .u64 a1_5, .int .u64 a1_6, .int .u64 a1_7], .agg #[.int .i64 ((rd_T24 l0 x9_2).f0), .int .i64 ((rd_T24 l0 x9_2).f1), .int .i64 ((rd_T24 l0 x9_2).f2), .int .i64 ((rd_T24 l0 x9_2).f3), .int .i64 ((rd_T24 l0 x9_2).f4), .int .u64 ((rd_T24 l0 x9_2).f5), .int .u64 ((rd_T24 l0 x9_2).f6), .int .u64 ((rd_T24 l0 x9_2).f7)]] (by rfl) rfl rfl (by (try simp only [List.map_toArray, List.map_cons, List.map_nil]); first | done | rfl | (simp only [List.length_drop, List.length_take]; rfl)) ?_
                      with_reducible refine (relax_Covers.calls a1_0 a1_1 a1_2 a1_3 a1_4 a1_5 a1_6 a1_7 ((rd_T24 l0 x9_2).f0) ((rd_T24 l0 x9_2).f1) ((rd_T24 l0 x9_2).f2) ((rd_T24 l0 x9_2).f3) ((rd_T24 l0 x9_2).f4) ((rd_T24 l0 x9_2).f5) ((rd_T24 l0 x9_2).f6) ((rd_T24 l0 x9_2).f7) t195 _ A20.out).mono ?_
                      rintro e w24 ⟨rfl, hb⟩
                      refine ⟨_, rfl, ?_⟩
                      have n0_ := Aside0.mk (blk_below (g := gb179) (o := .cells #[.int .i64 a1_0, .int .i64 a1_1, .int .i64 a1_2, .int .i64 a1_3, .int .i64 a1_4, .int .u64 a1_5, .int .u64 a1_6, .int .u64 a1_7] 24 (0, 0)) (by (with_reducible repeat (first | refine blk_drewN ?_ _ | refine blk_drew ?_ | refine blk_alloc ?_ _)); exact BK179.out) hb)
                      have n1_ := Aside0.mk (blk_below (g := gb190) (o := .cells #[.int .i64 t181, .int .i64 t182, .int .i64 t183, .int .i64 t184, .int .i64 t185, .int .u64 t186, .int .u64 t187, .int .u64 t188] 24 (0, 0)) (by (with_reducible repeat (first | refine blk_drewN ?_ _ | refine blk_drew ?_ | refine blk_alloc ?_ _)); exact BK190.out) hb)
                      have n2_ := Aside0.mk (below_step (by repeat (first | (with_reducible first | exact HB.out | apply below_alloc | apply pw_below_drewN | apply below_drew1 | refine below_set ?_ GE179.out | refine below_set ?_ GE190.out) | exact HB.out)) hb)
                      clear BK179
                      clear BK190
                      clear HB
                      have BK179 := n0_
                      have BK190 := n1_
                      have HB := n2_
                      clear n0_ n1_ n2_
                      (try clear hb)
                      (try clear hb2)
                      (try clear hk)
                      (try clear hi)
                      refine hK.out _ _ ⟨(blk_cell BK179.out 0).trans rfl, (blk_cell BK179.out 1).trans rfl, (blk_cell BK179.out 2).trans rfl, (blk_cell BK179.out 3).trans rfl, (blk_cell BK179.out 4).trans rfl, (blk_cell BK179.out 5).trans rfl, (blk_cell BK179.out 6).trans rfl, (blk_cell BK179.out 7).trans rfl, ((HB.out.cell (World.block_lt_of_cell? w _ hw194_0)).trans hw194_0), ((HB.out.cell (World.block_lt_of_cell? w _ hw194_1)).trans hw194_1), ((HB.out.cell (World.block_lt_of_cell? w _ hw194_2)).trans hw194_2), ((HB.out.cell (World.block_lt_of_cell? w _ hw194_3)).trans hw194_3), ((HB.out.cell (World.block_lt_of_cell? w _ hw194_4)).trans hw194_4), ((HB.out.cell (World.block_lt_of_cell? w _ hw194_5)).trans hw194_5), ((HB.out.cell (World.block_lt_of_cell? w _ hw194_6)).trans hw194_6), ((HB.out.cell (World.block_lt_of_cell? w _ hw194_7)).trans hw194_7)⟩ (fun hHeld => ?_)
                      clear hK K
                      refine norm_ (a' := ?_) ?_ ?_
                      rotate_left
                      · show Act.put _ (some 49) _ = _
                        simp only [Act.put, List.setIfInBounds_toArray, List.set_cons_zero, List.set_cons_succ, i64_w, i32_w]
                        rfl
                      refine pure_ (i := 8) (N := some 50) (v := ?_) (a' := ?_) #[true, true, true, true, true, true, true, true, true, false] rfl rfl (any_of HT_.out (by kernel_rfl)) (fun _ _ _ h => h) (Or.inl ⟨by rfl, ?_⟩) ?_ ?_
                      rotate_left
                      · intro w'
                        go_simp
                        with_reducible rfl
                      rotate_left
                      · simp only [Act.put, List.setIfInBounds_toArray, List.set_cons_zero, List.set_cons_succ, i64_w, i32_w]
                        rfl
                      refine pure_ (i := 9) (N := some 8) (v := ?_) (a' := ?_) #[true, true, true, true, true, true, true, true, true, true] rfl rfl (any_of HT_.out (by kernel_rfl)) (fun _ _ _ h => h) (Or.inl ⟨by rfl, ?_⟩) ?_ ?_
                      rotate_left
                      · intro w'
                        go_simp
                        with_reducible rfl
                      rotate_left
                      · simp only [Act.put, List.setIfInBounds_toArray, List.set_cons_zero, List.set_cons_succ, i64_w, i32_w]
                        rfl
                      refine done_ (done_of HT_.out (by kernel_rfl)) ?_
                      try go_wp2
                      go_roundg k2
                      case measure => have := HJ3.out; have := HK2.out; omega
                      case rel => exact ⟨(t195), (wrap64 (x9_2 + 1)), (by first | rfl | (simp; done) | (simp [*]; done)), (by first | rfl | (simp; done) | (simp [*]; done)), H', ⟨by have := HJ3.out; have := HK2.out; omega⟩, ⟨by (with_reducible repeat (first | refine blk_drewN ?_ _ | refine blk_drew ?_ | refine blk_alloc ?_ _)); exact BK179.out⟩, ⟨by (with_reducible repeat (first | refine blk_drewN ?_ _ | refine blk_drew ?_ | refine blk_alloc ?_ _)); exact BK190.out⟩, ⟨by repeat (first | (with_reducible first | exact HB.out | apply below_alloc | apply pw_below_drewN | apply below_drew1 | refine below_set ?_ GE179.out | refine below_set ?_ GE190.out) | exact HB.out)⟩⟩
                    · replace c19 := Bool.eq_false_iff.mpr c19
                      subst c19
                      have H1 : (haulierlaw11_RelaxJoins.l0 k2 l0 false (wrap64 (x9_2 + 1)) a1_0 a1_1 a1_2 a1_3 a1_4 a1_5 a1_6 a1_7 t181 t182 t183 t184 t185 t186 t187 t188) = some r := by rw [if_neg (show ¬ (false = true) by decide)] at H; exact H
                      clear H
                      have H := H1
                      clear H1
                      have H' := Aside0.mk H
                      clear H
                      try go_wp2
                      have n0_ := Aside0.mk (blk_drew BK179.out)
                      have n1_ := Aside0.mk (blk_drew BK190.out)
                      have n2_ := Aside0.mk (below_drew1 HB.out)
                      clear BK179
                      clear BK190
                      clear HB
                      have BK179 := n0_
                      have BK190 := n1_
                      have HB := n2_
                      clear n0_ n1_ n2_
                      have p192 : 0 ≤ (x9_2 : Int) := of_decide_eq_true (by first | (with_reducible assumption) | assumption)
                      have q192 : x9_2 < (l0.length : Int) := of_decide_eq_true (by first | (with_reducible assumption) | assumption)
                      obtain ⟨ad192, e192, hx192_0, hx192_1, hx192_2, hx192_3, hx192_4, hx192_5, hx192_6, hx192_7⟩ := at_T24 HR0.out x9_2 p192 q192
                      have hw192_7 := hx192_7
                      have hw192_6 := hx192_6
                      have hw192_5 := hx192_5
                      have hw192_4 := hx192_4
                      have hw192_3 := hx192_3
                      have hw192_2 := hx192_2
                      have hw192_1 := hx192_1
                      have hw192_0 := hx192_0
                      cases e192
                      replace hx192_0 := (HB.out.cell (World.block_lt_of_cell? w _ hx192_0)).trans hx192_0
                      replace hx192_1 := (HB.out.cell (World.block_lt_of_cell? w _ hx192_1)).trans hx192_1
                      replace hx192_2 := (HB.out.cell (World.block_lt_of_cell? w _ hx192_2)).trans hx192_2
                      replace hx192_3 := (HB.out.cell (World.block_lt_of_cell? w _ hx192_3)).trans hx192_3
                      replace hx192_4 := (HB.out.cell (World.block_lt_of_cell? w _ hx192_4)).trans hx192_4
                      replace hx192_5 := (HB.out.cell (World.block_lt_of_cell? w _ hx192_5)).trans hx192_5
                      replace hx192_6 := (HB.out.cell (World.block_lt_of_cell? w _ hx192_6)).trans hx192_6
                      replace hx192_7 := (HB.out.cell (World.block_lt_of_cell? w _ hx192_7)).trans hx192_7
                      replace p192 := eq_true p192
                      replace q192 := eq_true q192
                      refine start_ (n := 7) (S := fun w' => w'.cell? ⟨gb190, 0, none⟩ = some (.int .i64 t181) ∧ w'.cell? ⟨gb190, 1, none⟩ = some (.int .i64 t182) ∧ w'.cell? ⟨gb190, 2, none⟩ = some (.int .i64 t183) ∧ w'.cell? ⟨gb190, 3, none⟩ = some (.int .i64 t184) ∧ w'.cell? ⟨gb190, 4, none⟩ = some (.int .i64 t185) ∧ w'.cell? ⟨gb190, 5, none⟩ = some (.int .u64 t186) ∧ w'.cell? ⟨gb190, 6, none⟩ = some (.int .u64 t187) ∧ w'.cell? ⟨gb190, 7, none⟩ = some (.int .u64 t188) ∧ w'.cell? (ad192.add ((x9_2).toNat * 8)) = some (.int .i64 ((rd_T24 l0 x9_2).f0)) ∧ w'.cell? ⟨(ad192.add ((x9_2).toNat * 8)).block, (ad192.add ((x9_2).toNat * 8)).off + 1, none⟩ = some (.int .i64 ((rd_T24 l0 x9_2).f1)) ∧ w'.cell? ⟨(ad192.add ((x9_2).toNat * 8)).block, (ad192.add ((x9_2).toNat * 8)).off + 2, none⟩ = some (.int .i64 ((rd_T24 l0 x9_2).f2)) ∧ w'.cell? ⟨(ad192.add ((x9_2).toNat * 8)).block, (ad192.add ((x9_2).toNat * 8)).off + 3, none⟩ = some (.int .i64 ((rd_T24 l0 x9_2).f3)) ∧ w'.cell? ⟨(ad192.add ((x9_2).toNat * 8)).block, (ad192.add ((x9_2).toNat * 8)).off + 4, none⟩ = some (.int .i64 ((rd_T24 l0 x9_2).f4)) ∧ w'.cell? ⟨(ad192.add ((x9_2).toNat * 8)).block, (ad192.add ((x9_2).toNat * 8)).off + 5, none⟩ = some (.int .u64 ((rd_T24 l0 x9_2).f5)) ∧ w'.cell? ⟨(ad192.add ((x9_2).toNat * 8)).block, (ad192.add ((x9_2).toNat * 8)).off + 6, none⟩ = some (.int .u64 ((rd_T24 l0 x9_2).f6)) ∧ w'.cell? ⟨(ad192.add ((x9_2).toNat * 8)).block, (ad192.add ((x9_2).toNat * 8)).off + 7, none⟩ = some (.int .u64 ((rd_T24 l0 x9_2).f7))) (ds := []) #[false, false, false, false, false, false, false] (by kernel_rfl) rfl rfl ⟨(blk_cell BK190.out 0).trans rfl, (blk_cell BK190.out 1).trans rfl, (blk_cell BK190.out 2).trans rfl, (blk_cell BK190.out 3).trans rfl, (blk_cell BK190.out 4).trans rfl, (blk_cell BK190.out 5).trans rfl, (blk_cell BK190.out 6).trans rfl, (blk_cell BK190.out 7).trans rfl, ((HB.out.cell (World.block_lt_of_cell? w _ hw192_0)).trans hw192_0), ((HB.out.cell (World.block_lt_of_cell? w _ hw192_1)).trans hw192_1), ((HB.out.cell (World.block_lt_of_cell? w _ hw192_2)).trans hw192_2), ((HB.out.cell (World.block_lt_of_cell? w _ hw192_3)).trans hw192_3), ((HB.out.cell (World.block_lt_of_cell? w _ hw192_4)).trans hw192_4), ((HB.out.cell (World.block_lt_of_cell? w _ hw192_5)).trans hw192_5), ((HB.out.cell (World.block_lt_of_cell? w _ hw192_6)).trans hw192_6), ((HB.out.cell (World.block_lt_of_cell? w _ hw192_7)).trans hw192_7)⟩ (fun hHeld => ?_)
                      generalize wr.drew = w25 at BK179 BK190 HB hx192_0 hx192_1 hx192_2 hx192_3 hx192_4 hx192_5 hx192_6 hx192_7 hHeld ⊢
                      refine pure_ (i := 1) (N := some 36) (v := ?_) (a' := ?_) #[false, true, false, false, false, false, false] rfl rfl (by kernel_rfl) (fun _ _ _ h => h) (Or.inl ⟨by rfl, ?_⟩) ?_ ?_
                      rotate_left
                      · intro w'
                        go_simp
                        with_reducible rfl
                      rotate_left
                      · simp only [Act.put, List.setIfInBounds_toArray, List.set_cons_zero, List.set_cons_succ, i64_w, i32_w]
                        rfl
                      refine pure_ (i := 2) (N := some 37) (v := ?_) (a' := ?_) #[false, true, true, false, false, false, false] rfl rfl (by kernel_rfl) (fun _ _ _ h => h) (Or.inl ⟨by rfl, ?_⟩) ?_ ?_
                      rotate_left
                      · intro w'
                        go_simp
                        with_reducible rfl
                      rotate_left
                      · simp only [Act.put, List.setIfInBounds_toArray, List.set_cons_zero, List.set_cons_succ, i64_w, i32_w]
                        rfl
                      refine pure_ (i := 3) (N := some 38) (v := ?_) (a' := ?_) #[false, true, true, true, false, false, false] rfl rfl (by kernel_rfl) (fun _ _ _ h => h) (Or.inl ⟨by rfl, ?_⟩) ?_ ?_
                      rotate_left
                      · intro w'
                        go_simp
                        with_reducible rfl
                      rotate_left
                      · simp only [Act.put, List.setIfInBounds_toArray, List.set_cons_zero, List.set_cons_succ, i64_w, i32_w]
                        rfl
                      refine take_ (i := 0) (N := some 35) (v := ?_) (a' := ?_) #[true, true, true, true, false, false, false] rfl rfl (by kernel_rfl) (fun _ _ _ h => h) (Or.inl ⟨by rfl, ?_⟩) hHeld ?_ ?_
                      rotate_left
                      · rintro w' ⟨s0, s1, s2, s3, s4, s5, s6, s7, s8, s9, s10, s11, s12, s13, s14, s15⟩
                        go_simp
                        with_reducible rfl
                      rotate_left
                      · simp only [Act.put, List.setIfInBounds_toArray, List.set_cons_zero, List.set_cons_succ, i64_w, i32_w]
                        rfl
                      refine take_ (i := 4) (N := some 39) (v := ?_) (a' := ?_) #[true, true, true, true, true, false, false] rfl rfl (by kernel_rfl) (fun _ _ _ h => h) (Or.inl ⟨by rfl, ?_⟩) hHeld ?_ ?_
                      rotate_left
                      · rintro w' ⟨s0, s1, s2, s3, s4, s5, s6, s7, s8, s9, s10, s11, s12, s13, s14, s15⟩
                        go_simp
                        with_reducible rfl
                      rotate_left
                      · simp only [Act.put, List.setIfInBounds_toArray, List.set_cons_zero, List.set_cons_succ, i64_w, i32_w]
                        rfl
                      refine one_ (i := 5) (N := some 40) #[true, true, true, true, true, true, false] rfl rfl (by kernel_rfl) (by decide) (fun K hK => ?_)
                      refine goes_ Try.func14 (by kernel_rfl) rfl #[.agg #[.int .i64 t181, .int .i64 t182, .int .i64 t183, .int .i64 t184, .int .i64 t185, .int .u64 t186, .int .u64 t187, .int .u64 t188], .agg #[.int .i64 ((rd_T24 l0 x9_2).f0), .int .i64 ((rd_T24 l0 x9_2).f1), .int .i64 ((rd_T24 l0 x9_2).f2), .int .i64 ((rd_T24 l0 x9_2).f3), .int .i64 ((rd_T24 l0 x9_2).f4), .int .u64 ((rd_T24 l0 x9_2).f5), .int .u64 ((rd_T24 l0 x9_2).f6), .int .u64 ((rd_T24 l0 x9_2).f7)]] (by rfl) rfl rfl (by (try simp only [List.map_toArray, List.map_cons, List.map_nil]); first | done | rfl | (simp only [List.length_drop, List.length_take]; rfl)) ?_
                      with_reducible refine (relax_Covers.calls t181 t182 t183 t184 t185 t186 t187 t188 ((rd_T24 l0 x9_2).f0) ((rd_T24 l0 x9_2).f1) ((rd_T24 l0 x9_2).f2) ((rd_T24 l0 x9_2).f3) ((rd_T24 l0 x9_2).f4) ((rd_T24 l0 x9_2).f5) ((rd_T24 l0 x9_2).f6) ((rd_T24 l0 x9_2).f7) true _ A17.out).mono ?_
                      rintro e w26 ⟨rfl, hb⟩
                      refine ⟨_, rfl, ?_⟩
                      have n0_ := Aside0.mk (blk_below (g := gb179) (o := .cells #[.int .i64 a1_0, .int .i64 a1_1, .int .i64 a1_2, .int .i64 a1_3, .int .i64 a1_4, .int .u64 a1_5, .int .u64 a1_6, .int .u64 a1_7] 24 (0, 0)) (by (with_reducible repeat (first | refine blk_drewN ?_ _ | refine blk_drew ?_ | refine blk_alloc ?_ _)); exact BK179.out) hb)
                      have n1_ := Aside0.mk (blk_below (g := gb190) (o := .cells #[.int .i64 t181, .int .i64 t182, .int .i64 t183, .int .i64 t184, .int .i64 t185, .int .u64 t186, .int .u64 t187, .int .u64 t188] 24 (0, 0)) (by (with_reducible repeat (first | refine blk_drewN ?_ _ | refine blk_drew ?_ | refine blk_alloc ?_ _)); exact BK190.out) hb)
                      have n2_ := Aside0.mk (below_step (by repeat (first | (with_reducible first | exact HB.out | apply below_alloc | apply pw_below_drewN | apply below_drew1 | refine below_set ?_ GE179.out | refine below_set ?_ GE190.out) | exact HB.out)) hb)
                      clear BK179
                      clear BK190
                      clear HB
                      have BK179 := n0_
                      have BK190 := n1_
                      have HB := n2_
                      clear n0_ n1_ n2_
                      (try clear hb)
                      (try clear hb2)
                      (try clear hk)
                      (try clear hi)
                      refine hK.out _ _ ⟨(blk_cell BK190.out 0).trans rfl, (blk_cell BK190.out 1).trans rfl, (blk_cell BK190.out 2).trans rfl, (blk_cell BK190.out 3).trans rfl, (blk_cell BK190.out 4).trans rfl, (blk_cell BK190.out 5).trans rfl, (blk_cell BK190.out 6).trans rfl, (blk_cell BK190.out 7).trans rfl, ((HB.out.cell (World.block_lt_of_cell? w _ hw192_0)).trans hw192_0), ((HB.out.cell (World.block_lt_of_cell? w _ hw192_1)).trans hw192_1), ((HB.out.cell (World.block_lt_of_cell? w _ hw192_2)).trans hw192_2), ((HB.out.cell (World.block_lt_of_cell? w _ hw192_3)).trans hw192_3), ((HB.out.cell (World.block_lt_of_cell? w _ hw192_4)).trans hw192_4), ((HB.out.cell (World.block_lt_of_cell? w _ hw192_5)).trans hw192_5), ((HB.out.cell (World.block_lt_of_cell? w _ hw192_6)).trans hw192_6), ((HB.out.cell (World.block_lt_of_cell? w _ hw192_7)).trans hw192_7)⟩ (fun hHeld => ?_)
                      clear hK K
                      refine norm_ (a' := ?_) ?_ ?_
                      rotate_left
                      · show Act.put _ (some 40) _ = _
                        simp only [Act.put, List.setIfInBounds_toArray, List.set_cons_zero, List.set_cons_succ, i64_w, i32_w]
                        rfl
                      refine pure_ (i := 6) (N := some 41) (v := ?_) (a' := ?_) #[true, true, true, true, true, true, true] rfl rfl (by kernel_rfl) (fun _ _ _ h => h) (Or.inl ⟨by rfl, ?_⟩) ?_ ?_
                      rotate_left
                      · intro w'
                        go_simp
                        with_reducible rfl
                      rotate_left
                      · simp only [Act.put, List.setIfInBounds_toArray, List.set_cons_zero, List.set_cons_succ, i64_w, i32_w]
                        rfl
                      refine done_ (by kernel_rfl) ?_
                      try go_wp2
                      have n0_ := Aside0.mk (blk_drew BK179.out)
                      have n1_ := Aside0.mk (blk_drew BK190.out)
                      have n2_ := Aside0.mk (below_drew1 HB.out)
                      clear BK179
                      clear BK190
                      clear HB
                      have BK179 := n0_
                      have BK190 := n1_
                      have HB := n2_
                      clear n0_ n1_ n2_
                      refine start_ (n := 10) (S := fun w' => True) (ds := []) #[false, false, false, false, false, false, false, false, false, false] (by kernel_rfl) rfl rfl trivial (fun hHeld => ?_); refine with_tabW haulierlaw11_RelaxJoins.tab13 haulierlaw11_RelaxJoins.bits13 (fun HT_ HW_ => ?_)
                      generalize w26.drew = w27 at BK179 BK190 HB hHeld ⊢
                      refine pure_ (i := 0) (N := some 42) (v := ?_) (a' := ?_) #[true, false, false, false, false, false, false, false, false, false] rfl rfl (any_of HT_.out (by kernel_rfl)) (fun _ _ _ h => h) (Or.inl ⟨by rfl, ?_⟩) ?_ ?_
                      rotate_left
                      · intro w'
                        go_simp
                        with_reducible rfl
                      rotate_left
                      · simp only [Act.put, List.setIfInBounds_toArray, List.set_cons_zero, List.set_cons_succ, i64_w, i32_w]
                        rfl
                      refine pure_ (i := 1) (N := some 43) (v := ?_) (a' := ?_) #[true, true, false, false, false, false, false, false, false, false] rfl rfl (any_of HT_.out (by kernel_rfl)) (fun _ _ _ h => h) (Or.inl ⟨by rfl, ?_⟩) ?_ ?_
                      rotate_left
                      · intro w'
                        go_simp
                        with_reducible rfl
                      rotate_left
                      · simp only [Act.put, List.setIfInBounds_toArray, List.set_cons_zero, List.set_cons_succ, i64_w, i32_w]
                        rfl
                      refine pure_ (i := 2) (N := some 44) (v := undef) (a' := ?_) #[true, true, true, false, false, false, false, false, false, false] rfl rfl (any_of HT_.out (by kernel_rfl)) (fun _ _ _ h => h) (Or.inr ⟨by rfl, rfl⟩) ?_ ?_
                      rotate_left
                      · simp only [Act.put, List.setIfInBounds_toArray, List.set_cons_zero, List.set_cons_succ, i64_w, i32_w]
                        rfl
                      refine pure_ (i := 3) (N := some 45) (v := undef) (a' := ?_) #[true, true, true, true, false, false, false, false, false, false] rfl rfl (any_of HT_.out (by kernel_rfl)) (fun _ _ _ h => h) (Or.inr ⟨by rfl, rfl⟩) ?_ ?_
                      rotate_left
                      · simp only [Act.put, List.setIfInBounds_toArray, List.set_cons_zero, List.set_cons_succ, i64_w, i32_w]
                        rfl
                      refine pure_ (i := 4) (N := some 46) (v := undef) (a' := ?_) #[true, true, true, true, true, false, false, false, false, false] rfl rfl (any_of HT_.out (by kernel_rfl)) (fun _ _ _ h => h) (Or.inr ⟨by rfl, rfl⟩) ?_ ?_
                      rotate_left
                      · simp only [Act.put, List.setIfInBounds_toArray, List.set_cons_zero, List.set_cons_succ, i64_w, i32_w]
                        rfl
                      refine pure_ (i := 5) (N := some 47) (v := undef) (a' := ?_) #[true, true, true, true, true, true, false, false, false, false] rfl rfl (any_of HT_.out (by kernel_rfl)) (fun _ _ _ h => h) (Or.inr ⟨by rfl, rfl⟩) ?_ ?_
                      rotate_left
                      · simp only [Act.put, List.setIfInBounds_toArray, List.set_cons_zero, List.set_cons_succ, i64_w, i32_w]
                        rfl
                      refine pure_ (i := 6) (N := some 48) (v := undef) (a' := ?_) #[true, true, true, true, true, true, true, false, false, false] rfl rfl (any_of HT_.out (by kernel_rfl)) (fun _ _ _ h => h) (Or.inr ⟨by rfl, rfl⟩) ?_ ?_
                      rotate_left
                      · simp only [Act.put, List.setIfInBounds_toArray, List.set_cons_zero, List.set_cons_succ, i64_w, i32_w]
                        rfl
                      refine pure_ (i := 7) (N := some 49) (v := undef) (a' := ?_) #[true, true, true, true, true, true, true, true, false, false] rfl rfl (any_of HT_.out (by kernel_rfl)) (fun _ _ _ h => h) (Or.inr ⟨by rfl, rfl⟩) ?_ ?_
                      rotate_left
                      · simp only [Act.put, List.setIfInBounds_toArray, List.set_cons_zero, List.set_cons_succ, i64_w, i32_w]
                        rfl
                      refine pure_ (i := 8) (N := some 50) (v := ?_) (a' := ?_) #[true, true, true, true, true, true, true, true, true, false] rfl rfl (any_of HT_.out (by kernel_rfl)) (fun _ _ _ h => h) (Or.inl ⟨by rfl, ?_⟩) ?_ ?_
                      rotate_left
                      · intro w'
                        go_simp
                        with_reducible rfl
                      rotate_left
                      · simp only [Act.put, List.setIfInBounds_toArray, List.set_cons_zero, List.set_cons_succ, i64_w, i32_w]
                        rfl
                      refine pure_ (i := 9) (N := some 8) (v := ?_) (a' := ?_) #[true, true, true, true, true, true, true, true, true, true] rfl rfl (any_of HT_.out (by kernel_rfl)) (fun _ _ _ h => h) (Or.inl ⟨by rfl, ?_⟩) ?_ ?_
                      rotate_left
                      · intro w'
                        go_simp
                        with_reducible rfl
                      rotate_left
                      · simp only [Act.put, List.setIfInBounds_toArray, List.set_cons_zero, List.set_cons_succ, i64_w, i32_w]
                        rfl
                      refine done_ (done_of HT_.out (by kernel_rfl)) ?_
                      try go_wp2
                      go_roundg k2
                      case measure => have := HJ3.out; have := HK2.out; omega
                      case rel => exact ⟨(false), (wrap64 (x9_2 + 1)), (by first | rfl | (simp; done) | (simp [*]; done)), (by first | rfl | (simp; done) | (simp [*]; done)), H', ⟨by have := HJ3.out; have := HK2.out; omega⟩, ⟨by (with_reducible repeat (first | refine blk_drewN ?_ _ | refine blk_drew ?_ | refine blk_alloc ?_ _)); exact BK179.out⟩, ⟨by (with_reducible repeat (first | refine blk_drewN ?_ _ | refine blk_drew ?_ | refine blk_alloc ?_ _)); exact BK190.out⟩, ⟨by repeat (first | (with_reducible first | exact HB.out | apply below_alloc | apply pw_below_drewN | apply below_drew1 | refine below_set ?_ GE179.out | refine below_set ?_ GE190.out) | exact HB.out)⟩⟩
                  · replace c18 := Bool.eq_false_iff.mpr c18
                    subst c18
                    have H1 : (none) = some r := by rw [if_neg (show ¬ (false = true) by decide)] at H; exact H
                    clear H
                    have H := H1
                    clear H1
                    exact absurd H (by simp)
                · rw [if_neg c16] at H
                  exact absurd H (by simp)
              · rw [if_neg c15] at H
                have c15b0 : decide (x9_2 < (l0.length : Int)) = false := decide_eq_false c15
                clear c15
                by_cases c28 : x8_2 = true
                · subst c28
                  have H1 : ((relax_Covers.f a1_0 a1_1 a1_2 a1_3 a1_4 a1_5 a1_6 a1_7 t181 t182 t183 t184 t185 t186 t187 t188).bind fun t191 => (some t191)) = some r := by rw [if_pos rfl] at H; exact H
                  clear H
                  have H := H1
                  clear H1
                  replace H := Option.bind_eq_some_iff.mp H
                  obtain ⟨t191, A290, H⟩ := H
                  replace H : (some t191) = some r := H
                  have A29 := Aside0.mk A290
                  clear A290
                  obtain rfl := Option.some.inj H
                  have hnb30 := NB179_190.out
                  have hnc30 := NB190_179.out
                  have hcz31_0 : wr.cell? ⟨gb179, 0, none⟩ = some (.int .i64 a1_0) := (blk_cell BK179.out 0).trans rfl
                  have hcz31_1 : wr.cell? ⟨gb179, 1, none⟩ = some (.int .i64 a1_1) := (blk_cell BK179.out 1).trans rfl
                  have hcz31_2 : wr.cell? ⟨gb179, 2, none⟩ = some (.int .i64 a1_2) := (blk_cell BK179.out 2).trans rfl
                  have hcz31_3 : wr.cell? ⟨gb179, 3, none⟩ = some (.int .i64 a1_3) := (blk_cell BK179.out 3).trans rfl
                  have hcz31_4 : wr.cell? ⟨gb179, 4, none⟩ = some (.int .i64 a1_4) := (blk_cell BK179.out 4).trans rfl
                  have hcz31_5 : wr.cell? ⟨gb179, 5, none⟩ = some (.int .u64 a1_5) := (blk_cell BK179.out 5).trans rfl
                  have hcz31_6 : wr.cell? ⟨gb179, 6, none⟩ = some (.int .u64 a1_6) := (blk_cell BK179.out 6).trans rfl
                  have hcz31_7 : wr.cell? ⟨gb179, 7, none⟩ = some (.int .u64 a1_7) := (blk_cell BK179.out 7).trans rfl
                  have hfz31_0 := blk_frozen BK179.out 0
                  have hfz31_1 := blk_frozen BK179.out 1
                  have hfz31_2 := blk_frozen BK179.out 2
                  have hfz31_3 := blk_frozen BK179.out 3
                  have hfz31_4 := blk_frozen BK179.out 4
                  have hfz31_5 := blk_frozen BK179.out 5
                  have hfz31_6 := blk_frozen BK179.out 6
                  have hfz31_7 := blk_frozen BK179.out 7
                  have hcz32_0 : wr.cell? ⟨gb190, 0, none⟩ = some (.int .i64 t181) := (blk_cell BK190.out 0).trans rfl
                  have hcz32_1 : wr.cell? ⟨gb190, 1, none⟩ = some (.int .i64 t182) := (blk_cell BK190.out 1).trans rfl
                  have hcz32_2 : wr.cell? ⟨gb190, 2, none⟩ = some (.int .i64 t183) := (blk_cell BK190.out 2).trans rfl
                  have hcz32_3 : wr.cell? ⟨gb190, 3, none⟩ = some (.int .i64 t184) := (blk_cell BK190.out 3).trans rfl
                  have hcz32_4 : wr.cell? ⟨gb190, 4, none⟩ = some (.int .i64 t185) := (blk_cell BK190.out 4).trans rfl
                  have hcz32_5 : wr.cell? ⟨gb190, 5, none⟩ = some (.int .u64 t186) := (blk_cell BK190.out 5).trans rfl
                  have hcz32_6 : wr.cell? ⟨gb190, 6, none⟩ = some (.int .u64 t187) := (blk_cell BK190.out 6).trans rfl
                  have hcz32_7 : wr.cell? ⟨gb190, 7, none⟩ = some (.int .u64 t188) := (blk_cell BK190.out 7).trans rfl
                  have hfz32_0 := blk_frozen BK190.out 0
                  have hfz32_1 := blk_frozen BK190.out 1
                  have hfz32_2 := blk_frozen BK190.out 2
                  have hfz32_3 := blk_frozen BK190.out 3
                  have hfz32_4 := blk_frozen BK190.out 4
                  have hfz32_5 := blk_frozen BK190.out 5
                  have hfz32_6 := blk_frozen BK190.out 6
                  have hfz32_7 := blk_frozen BK190.out 7
                  go_wp2_with (first | (go_at_call 14; (with_reducible refine (relax_Covers.calls a1_0 a1_1 a1_2 a1_3 a1_4 a1_5 a1_6 a1_7 t181 t182 t183 t184 t185 t186 t187 t188 t191 _ A29.out).mono ?_); rintro e w33 ⟨rfl, hb⟩; have n0_ := Aside0.mk (blk_below (g := gb179) (o := .cells #[.int .i64 a1_0, .int .i64 a1_1, .int .i64 a1_2, .int .i64 a1_3, .int .i64 a1_4, .int .u64 a1_5, .int .u64 a1_6, .int .u64 a1_7] 24 (0, 0)) (by (with_reducible repeat (first | refine blk_drewN ?_ _ | refine blk_drew ?_ | refine blk_alloc ?_ _)); exact BK179.out) hb); have n1_ := Aside0.mk (blk_below (g := gb190) (o := .cells #[.int .i64 t181, .int .i64 t182, .int .i64 t183, .int .i64 t184, .int .i64 t185, .int .u64 t186, .int .u64 t187, .int .u64 t188] 24 (0, 0)) (by (with_reducible repeat (first | refine blk_drewN ?_ _ | refine blk_drew ?_ | refine blk_alloc ?_ _)); exact BK190.out) hb); have n2_ := Aside0.mk (below_step (by repeat (first | (with_reducible first | exact HB.out | apply below_alloc | apply pw_below_drewN | apply below_drew1 | refine below_set ?_ GE179.out | refine below_set ?_ GE190.out) | exact HB.out)) hb); clear BK179; clear BK190; clear HB; have BK179 := n0_; have BK190 := n1_; have HB := n2_; clear n0_ n1_ n2_; (try clear hb); (try clear hb2); (try clear hk); (try clear hi)))
                  go_ret
                  exact ⟨by first | rfl | (simp [errW_none, errW_some] <;> rfl) | (simp [*, errW_none, errW_some] <;> rfl), by repeat (first | (with_reducible first | exact HB.out | apply below_alloc | apply pw_below_drewN | apply below_drew1 | refine below_set ?_ GE179.out | refine below_set ?_ GE190.out) | exact HB.out)⟩
                · replace c28 := Bool.eq_false_iff.mpr c28
                  subst c28
                  have H1 : (some true) = some r := by rw [if_neg (show ¬ (false = true) by decide)] at H; exact H
                  clear H
                  have H := H1
                  clear H1
                  obtain rfl := Option.some.inj H
                  go_wp2
                  go_ret
                  exact ⟨by first | rfl | (simp [errW_none, errW_some] <;> rfl) | (simp [*, errW_none, errW_some] <;> rfl), by repeat (first | (with_reducible first | exact HB.out | apply below_alloc | apply pw_below_drewN | apply below_drew1 | refine below_set ?_ GE179.out | refine below_set ?_ GE190.out) | exact HB.out)⟩
        · replace c10 := Bool.eq_false_iff.mpr c10
          subst c10
          have H1 : (some (t181 == 0 && (t182 == 0 && (t183 == 0 && (t184 == 0 && (t185 == 0 && (t186 == 0 && (t187 == 0 && (t188 == 0))))))))) = some r := by rw [if_neg (show ¬ (false = true) by decide)] at H; exact H
          clear H
          have H := H1
          clear H1
          obtain rfl := Option.some.inj H
          go_wp2_with (first | ((with_reducible refine gate_callee (f := 12) rfl ?_); refine goesL_ (some 21) rfl rfl Try.func12 (by kernel_rfl) rfl #[.slice A0 l0.length c0] rfl (by (try simp only [List.map_toArray, List.map_cons, List.map_nil]); first | done | rfl | (simp only [List.length_drop, List.length_take]; rfl)) ?_; (with_reducible refine (relax_Join.calls _ _ l0 t181 t182 t183 t184 t185 t186 t187 t188 false _ ?side1 ?side2 A9.out).mono ?_); (case side1 => repeat (first | exact (Kd.C_below HR0.out HB.out) | (with_reducible refine Kd.C_alloc ?_ _) | (with_reducible refine Kd.C_drewN ?_ _) | (with_reducible refine Kd.C_drew ?_))); (case side2 => exact HC0.out); rintro e w34 ⟨rfl, hb⟩; refine ⟨_, rfl, ?_⟩; have n0_ := Aside0.mk (blk_below (g := gb179) (o := .cells #[.int .i64 a1_0, .int .i64 a1_1, .int .i64 a1_2, .int .i64 a1_3, .int .i64 a1_4, .int .u64 a1_5, .int .u64 a1_6, .int .u64 a1_7] 24 (0, 0)) (by (with_reducible repeat (first | refine blk_drewN ?_ _ | refine blk_drew ?_ | refine blk_alloc ?_ _)); exact BK179.out) hb); have n1_ := Aside0.mk (below_step (by repeat (first | (with_reducible first | exact HB.out | apply below_alloc | apply pw_below_drewN | apply below_drew1 | refine below_set ?_ GE179.out) | exact HB.out)) hb); clear BK179; clear HB; have BK179 := n0_; have HB := n1_; clear n0_ n1_; (try clear hb); (try clear hb2); (try clear hk); (try clear hi)) | ((with_reducible refine gate_dst (N := 6) rfl ?_); (try (refine gate_guard (by rfl) ?_; dsimp only)); refine box_event ?hg (N := 6) ?hd (cs := #[.int .i64 0, .int .i64 0, .int .i64 0, .int .i64 0, .int .i64 0, .int .u64 0, .int .u64 0, .int .u64 0]) (t := 24) ?hr ?_; (case hd => rfl); (case hg => rfl); (case hr => first | (go_simp; done) | (go_simp; rfl)); intro gb190 hg w35 hbox hb; have n0_ := Aside0.mk (blk_below (g := gb179) (o := .cells #[.int .i64 a1_0, .int .i64 a1_1, .int .i64 a1_2, .int .i64 a1_3, .int .i64 a1_4, .int .u64 a1_5, .int .u64 a1_6, .int .u64 a1_7] 24 (0, 0)) (by (with_reducible repeat (first | refine blk_drewN ?_ _ | refine blk_drew ?_ | refine blk_alloc ?_ _)); exact BK179.out) hb); have n1_ := Aside0.mk (below_step (by repeat (first | (with_reducible first | exact HB.out | apply below_alloc | apply pw_below_drewN | apply below_drew1 | refine below_set ?_ GE179.out) | exact HB.out)) hb); have n2_ := Aside0.mk (hbox); have n3_ := Aside0.mk ((by rw [hg]; exact (below_size (by repeat (first | (with_reducible first | exact HB.out | apply below_alloc | apply pw_below_drewN | apply below_drew1 | refine below_set ?_ GE179.out) | exact HB.out))) : w.heap.size ≤ gb190)); have n4_ := Aside0.mk ((by rw [hg]; exact (below_size (by repeat (first | (with_reducible first | exact HB.out | apply below_alloc | apply pw_below_drewN | apply below_drew1 | refine below_set ?_ GE179.out) | exact HB.out))) : w.heap.size ≤ gb190)); have n5_ := Aside0.mk ((by rw [hg]; exact Nat.ne_of_lt (blk_lt (g := gb179) (o := .cells #[.int .i64 a1_0, .int .i64 a1_1, .int .i64 a1_2, .int .i64 a1_3, .int .i64 a1_4, .int .u64 a1_5, .int .u64 a1_6, .int .u64 a1_7] 24 (0, 0)) (by (with_reducible repeat (first | refine blk_drewN ?_ _ | refine blk_drew ?_ | refine blk_alloc ?_ _)); exact BK179.out)) : gb179 ≠ gb190)); have n6_ := Aside0.mk ((by rw [hg]; exact Nat.ne_of_gt (blk_lt (g := gb179) (o := .cells #[.int .i64 a1_0, .int .i64 a1_1, .int .i64 a1_2, .int .i64 a1_3, .int .i64 a1_4, .int .u64 a1_5, .int .u64 a1_6, .int .u64 a1_7] 24 (0, 0)) (by (with_reducible repeat (first | refine blk_drewN ?_ _ | refine blk_drew ?_ | refine blk_alloc ?_ _)); exact BK179.out)) : gb190 ≠ gb179)); clear BK179; clear HB; have BK179 := n0_; have HB := n1_; have BK190 := n2_; have GW190 := n3_; have GE190 := n4_; have NB179_190 := n5_; have NB190_179 := n6_; clear n0_ n1_ n2_ n3_ n4_ n5_ n6_; clear hb hbox hg; have hnb36 := NB190_179.out; have hnc36 := NB179_190.out; have hcz37_0 : w35.cell? ⟨gb190, 0, none⟩ = some (.int .i64 0) := (blk_cell BK190.out 0).trans rfl; have hcz37_1 : w35.cell? ⟨gb190, 1, none⟩ = some (.int .i64 0) := (blk_cell BK190.out 1).trans rfl; have hcz37_2 : w35.cell? ⟨gb190, 2, none⟩ = some (.int .i64 0) := (blk_cell BK190.out 2).trans rfl; have hcz37_3 : w35.cell? ⟨gb190, 3, none⟩ = some (.int .i64 0) := (blk_cell BK190.out 3).trans rfl; have hcz37_4 : w35.cell? ⟨gb190, 4, none⟩ = some (.int .i64 0) := (blk_cell BK190.out 4).trans rfl; have hcz37_5 : w35.cell? ⟨gb190, 5, none⟩ = some (.int .u64 0) := (blk_cell BK190.out 5).trans rfl; have hcz37_6 : w35.cell? ⟨gb190, 6, none⟩ = some (.int .u64 0) := (blk_cell BK190.out 6).trans rfl; have hcz37_7 : w35.cell? ⟨gb190, 7, none⟩ = some (.int .u64 0) := (blk_cell BK190.out 7).trans rfl; have hfz37_0 := blk_frozen BK190.out 0; have hfz37_1 := blk_frozen BK190.out 1; have hfz37_2 := blk_frozen BK190.out 2; have hfz37_3 := blk_frozen BK190.out 3; have hfz37_4 := blk_frozen BK190.out 4; have hfz37_5 := blk_frozen BK190.out 5; have hfz37_6 := blk_frozen BK190.out 6; have hfz37_7 := blk_frozen BK190.out 7))
          go_ret
          exact ⟨by first | rfl | (simp [errW_none, errW_some] <;> rfl) | (simp [*, errW_none, errW_some] <;> rfl), by repeat (first | (with_reducible first | exact HB.out | apply below_alloc | apply pw_below_drewN | apply below_drew1 | refine below_set ?_ GE179.out | refine below_set ?_ GE190.out) | exact HB.out)⟩

end Go.Proofs.Ytkcdpnigcbcalaa.PA
