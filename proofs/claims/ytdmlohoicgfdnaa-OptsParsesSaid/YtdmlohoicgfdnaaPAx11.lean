-- Printed for this claim by wip/tools/xprint.py over the kit's print; the contracts marked BY HAND are this session's own.
import Derived.Test.YtdmlohoicgfdnaaPAx0
import Derived.Test.YtdmlohoicgfdnaaPAx1
import Derived.Test.YtdmlohoicgfdnaaPAx9
import Derived.Test.YtdmlohoicgfdnaaPAx10
namespace Go.Proofs.Ytdmlohoicgfdnaa.PA
open Go.RowKit Go.Proofs.YtdmlohoicgfdnaaW.PrintWords Go.Proofs.YtdmlohoicgfdnaaW.PrintLast Go.Proofs.YtdmlohoicgfdnaaW.PrintMore
attribute [local go_sem] max2_int min2_int max_two min_two max_three min_three max_four min_four   -- for this text's walks alone
set_option linter.unusedVariables false
set_option linter.unusedSimpArgs false

attribute [local go_sem high] eqA33
/-! ### haulierlaw18_OptsParses: function 7 -/
def haulierlaw18_OptsParses.j0 : Nat → List Int → Bool → Bool → Option (Bool)
  | 0, _, _, _ => none
  | k + 1, x0, x3, x15 => if x15 = true then (some x3) else ((opts_Parse.f x0).bind fun bt273 => ((haulierref18_Parse.f k x0).bind fun bt278 => (if (bt273.1 == bt278.1 && (bt273.2.1 == bt278.2.1 && (bt273.2.2.1 == bt278.2.2.1))) = true then (some (bt273.2.2.2 == bt278.2.2.2)) else (none))))
def haulierlaw18_OptsParses.f (k : Nat) (l0 : List Int) : Option (Bool) := (haulierlaw18_awake.f).bind fun t272 => (if t272 = true then (haulierlaw18_OptsParses.j0 k l0 t272 (decide ((l0.length : Int) > 6000))) else (haulierlaw18_OptsParses.j0 k l0 t272 true))
theorem haulierlaw18_OptsParses.mono_l : ∀ k, (∀ y0 y1 y2, LeO (haulierlaw18_OptsParses.j0 k y0 y1 y2) (haulierlaw18_OptsParses.j0 (k + 1) y0 y1 y2))
  | 0 => fun _ _ _ r h => by simp [haulierlaw18_OptsParses.j0] at h
  | k + 1 => by
    have ih0 := haulierlaw18_OptsParses.mono_l k
    · intro y0 y1 y2
      unfold haulierlaw18_OptsParses.j0
      repeat' first
      | (with_reducible exact ih0 _ _ _)
      | (with_reducible exact haulierref18_Parse.mono _ _)
      | (with_reducible exact LeO.refl _)
      | (with_reducible exact LeO.none _)
      | (with_reducible refine LeO.ite ?_ ?_)
      | (with_reducible refine LeO.bind ?_ (fun _ => ?_))
      | exact ih0 _ _ _
      | exact haulierref18_Parse.mono _ _
      | exact LeO.none _
      | refine LeO.ite ?_ ?_
      | refine LeO.bind ?_ (fun _ => ?_)
theorem haulierlaw18_OptsParses.mono : ∀ a0 k, LeO (haulierlaw18_OptsParses.f k a0) (haulierlaw18_OptsParses.f (k + 1) a0) := by
  intro a0 k
  have ih0 := haulierlaw18_OptsParses.mono_l k
  unfold haulierlaw18_OptsParses.f
  repeat' first
      | (with_reducible exact ih0 _ _ _)
      | (with_reducible exact haulierref18_Parse.mono _ _)
      | (with_reducible exact LeO.refl _)
      | (with_reducible exact LeO.none _)
      | (with_reducible refine LeO.ite ?_ ?_)
      | (with_reducible refine LeO.bind ?_ (fun _ => ?_))
      | exact ih0 _ _ _
      | exact haulierref18_Parse.mono _ _
      | exact LeO.none _
      | refine LeO.ite ?_ ?_
      | refine LeO.bind ?_ (fun _ => ?_)
set_option maxHeartbeats 8000000 in
set_option maxRecDepth 100000 in
theorem haulierlaw18_OptsParses.calls (k : Nat) (A0 : Option Addr) (c0 : Nat) (l0 : List Int) (r : Bool) (w : World) (hr0 : Kd.C (Kd.int .u8) w A0 l0.length l0) (hc0 : l0.length ≤ c0) (h : haulierlaw18_OptsParses.f k l0 = some r) :
    Calls Try.prog 7 #[.slice A0 l0.length c0] w fun e w' => e = .returned (.bool r) ∧ Below w.heap.size w w' := by
  have hu33 := Try.underlying33
  have HR0 := Aside0.mk hr0
  have HC0 := Aside0.mk hc0
  clear hr0 hc0
  have HB := Aside0.mk (Below.refl w.heap.size w)
  have H : ((haulierlaw18_awake.f).bind fun t272 => (if t272 = true then (haulierlaw18_OptsParses.j0 k l0 t272 (decide ((l0.length : Int) > 6000))) else (haulierlaw18_OptsParses.j0 k l0 t272 true))) = some r := h
  clear h
  replace H := Option.bind_eq_some_iff.mp H
  obtain ⟨t272, A20, H⟩ := H
  replace H : (if t272 = true then (haulierlaw18_OptsParses.j0 k l0 t272 (decide ((l0.length : Int) > 6000))) else (haulierlaw18_OptsParses.j0 k l0 t272 true)) = some r := H
  have A2 := Aside0.mk A20
  clear A20
  have HC3 := Aside0.mk H
  clear H
  go_enter Try.func7, Try.ntmps7
  go_upto_region 2 with (first | ((with_reducible refine gate_callee (f := 12) rfl ?_); refine goesL_ (some 8) rfl rfl Try.func12 (by kernel_rfl) rfl #[] rfl (by (try simp only [List.map_toArray, List.map_cons, List.map_nil]); first | done | rfl | (simp only [List.length_drop, List.length_take]; rfl)) ?_; (with_reducible refine (haulierlaw18_awake.calls  t272 _ A2.out).mono ?_); rintro e w4 ⟨rfl, hb⟩; refine ⟨_, rfl, ?_⟩; have n0_ := Aside0.mk (below_step (by repeat (first | (with_reducible first | exact HB.out | apply below_alloc | apply pw_below_drewN | apply below_drew1) | exact HB.out)) hb); clear HB; have HB := n0_; clear n0_; (try clear hb); (try clear hb2); (try clear hk); (try clear hi)))
  (try simp only [Act.put, List.setIfInBounds_toArray, List.set_cons_zero, List.set_cons_succ])
  go_cut [15] (fun v15 wc => ∃ (kq : Nat) (x15_2 : Bool), v15 = .bool x15_2 ∧ Aside0 (haulierlaw18_OptsParses.j0 kq l0 t272 x15_2 = some r) ∧ Aside0 (kq ≤ k) ∧ Aside0 (Below w.heap.size w wc))
  case first =>
    have H := HC3.out
    clear HC3
    by_cases c5 : t272 = true
    · subst c5
      have H1 : (haulierlaw18_OptsParses.j0 k l0 true (decide ((l0.length : Int) > 6000))) = some r := by rw [if_pos rfl] at H; exact H
      clear H
      have H := H1
      clear H1
      have H' := Aside0.mk H
      clear H
      go_wp2
      go_meet
      case rel => exact ⟨_, (decide ((l0.length : Int) > 6000)), (by first | rfl | (simp; done) | (simp [*]; done)), H', ⟨by first | omega | exact Nat.le_refl _⟩, ⟨by repeat (first | (with_reducible first | exact HB.out | apply below_alloc | apply pw_below_drewN | apply below_drew1) | exact HB.out)⟩⟩
    · replace c5 := Bool.eq_false_iff.mpr c5
      subst c5
      have H1 : (haulierlaw18_OptsParses.j0 k l0 false true) = some r := by rw [if_neg (show ¬ (false = true) by decide)] at H; exact H
      clear H
      have H := H1
      clear H1
      have H' := Aside0.mk H
      clear H
      go_wp2
      go_meet
      case rel => exact ⟨_, (true), (by first | rfl | (simp; done) | (simp [*]; done)), H', ⟨by first | omega | exact Nat.le_refl _⟩, ⟨by repeat (first | (with_reducible first | exact HB.out | apply below_alloc | apply pw_below_drewN | apply below_drew1) | exact HB.out)⟩⟩
  case rest =>
    clear HC3
    try clear c1
    try clear p2
    try clear c5
    obtain ⟨kq, x15_2, rfl, HA, HJ2, HB⟩ := hcut
    cases kq with
    | zero => exact absurd HA.out (by simp [haulierlaw18_OptsParses.j0])
    | succ kj2 =>
      have H := HA.out
      clear HA
      simp only [haulierlaw18_OptsParses.j0] at H
      by_cases c6 : x15_2 = true
      · subst c6
        have H1 : (some t272) = some r := by rw [if_pos rfl] at H; exact H
        clear H
        have H := H1
        clear H1
        obtain rfl := Option.some.inj H
        go_wp2
        go_ret
        exact ⟨by first | rfl | (simp [errW_none, errW_some] <;> rfl) | (simp [*, errW_none, errW_some] <;> rfl), by repeat (first | (with_reducible first | exact HB.out | apply below_alloc | apply pw_below_drewN | apply below_drew1) | exact HB.out)⟩
      · replace c6 := Bool.eq_false_iff.mpr c6
        subst c6
        have H1 : ((opts_Parse.f l0).bind fun bt273 => ((haulierref18_Parse.f kj2 l0).bind fun bt278 => (if (bt273.1 == bt278.1 && (bt273.2.1 == bt278.2.1 && (bt273.2.2.1 == bt278.2.2.1))) = true then (some (bt273.2.2.2 == bt278.2.2.2)) else (none)))) = some r := by rw [if_neg (show ¬ (false = true) by decide)] at H; exact H
        clear H
        have H := H1
        clear H1
        replace H := Option.bind_eq_some_iff.mp H
        obtain ⟨⟨t273, t274, t275, t276⟩, A70, H⟩ := H
        replace H : ((haulierref18_Parse.f kj2 l0).bind fun bt278 => (if (t273 == bt278.1 && (t274 == bt278.2.1 && (t275 == bt278.2.2.1))) = true then (some (t276 == bt278.2.2.2)) else (none))) = some r := H
        have A7 := Aside0.mk A70
        clear A70
        replace H := Option.bind_eq_some_iff.mp H
        obtain ⟨⟨t278, t279, t280, t281⟩, A80, H⟩ := H
        replace H : (if (t273 == t278 && (t274 == t279 && (t275 == t280))) = true then (some (t276 == t281)) else (none)) = some r := H
        have A8 := Aside0.mk A80
        clear A80
        by_cases c9 : (t273 == t278 && (t274 == t279 && (t275 == t280))) = true
        · rw [if_pos c9] at H
          have c9b0 : (t273 == t278 && (t274 == t279 && (t275 == t280))) = true := c9
          (try (have c9b1 : decide (t273 = t278 && (t274 == t279 && (t275 == t280))) = true := by simpa using c9))
          (try (have c9b2 : (t273 == t278 && (t274 == t279 && (t275 == t280))) = true := by simpa using c9))
          clear c9
          obtain rfl := Option.some.inj H
          go_wp2_with (first | ((with_reducible refine gate_callee (f := 13) rfl ?_); refine goesL_ (some 19) rfl rfl Try.func13 (by kernel_rfl) rfl #[.slice A0 l0.length c0] rfl (by (try simp only [List.map_toArray, List.map_cons, List.map_nil]); first | done | rfl | (simp only [List.length_drop, List.length_take]; rfl)) ?_; (with_reducible refine (opts_Parse.calls _ _ l0 t273 t274 t275 t276 _ ?side1 ?side2 A7.out).mono ?_); (case side1 => repeat (first | exact (Kd.C_below HR0.out HB.out) | (with_reducible refine Kd.C_alloc ?_ _) | (with_reducible refine Kd.C_drewN ?_ _) | (with_reducible refine Kd.C_drew ?_))); (case side2 => exact HC0.out); rintro e w10 ⟨rfl, hb⟩; refine ⟨_, rfl, ?_⟩; have n0_ := Aside0.mk (below_step (by repeat (first | (with_reducible first | exact HB.out | apply below_alloc | apply pw_below_drewN | apply below_drew1) | exact HB.out)) hb); clear HB; have HB := n0_; clear n0_; (try clear hb); (try clear hb2); (try clear hk); (try clear hi)) | ((with_reducible refine gate_dst (N := 4) rfl ?_); (try (refine gate_guard (by rfl) ?_; dsimp only)); refine box_event ?hg (N := 4) ?hd (cs := #[.int .i64 0, .int .i64 0, .int .i64 0]) (t := 33) ?hr ?_; (case hd => rfl); (case hg => rfl); (case hr => first | (go_simp; done) | (go_simp; rfl)); intro gb277 hg w11 hbox hb; have n0_ := Aside0.mk (below_step (by repeat (first | (with_reducible first | exact HB.out | apply below_alloc | apply pw_below_drewN | apply below_drew1) | exact HB.out)) hb); have n1_ := Aside0.mk (hbox); have n2_ := Aside0.mk ((by rw [hg]; exact (below_size (by repeat (first | (with_reducible first | exact HB.out | apply below_alloc | apply pw_below_drewN | apply below_drew1) | exact HB.out))) : w.heap.size ≤ gb277)); have n3_ := Aside0.mk ((by rw [hg]; exact (below_size (by repeat (first | (with_reducible first | exact HB.out | apply below_alloc | apply pw_below_drewN | apply below_drew1) | exact HB.out))) : w.heap.size ≤ gb277)); clear HB; have HB := n0_; have BK277 := n1_; have GW277 := n2_; have GE277 := n3_; clear n0_ n1_ n2_ n3_; clear hb hbox hg; have hcz12_0 : w11.cell? ⟨gb277, 0, none⟩ = some (.int .i64 0) := (blk_cell BK277.out 0).trans rfl; have hcz12_1 : w11.cell? ⟨gb277, 1, none⟩ = some (.int .i64 0) := (blk_cell BK277.out 1).trans rfl; have hcz12_2 : w11.cell? ⟨gb277, 2, none⟩ = some (.int .i64 0) := (blk_cell BK277.out 2).trans rfl; have hfz12_0 := blk_frozen BK277.out 0; have hfz12_1 := blk_frozen BK277.out 1; have hfz12_2 := blk_frozen BK277.out 2) | ((with_reducible refine gate_callee (f := 14) rfl ?_); refine goesL_ (some 24) rfl rfl Try.func14 (by kernel_rfl) rfl #[.slice A0 l0.length c0] rfl (by (try simp only [List.map_toArray, List.map_cons, List.map_nil]); first | done | rfl | (simp only [List.length_drop, List.length_take]; rfl)) ?_; (with_reducible refine (haulierref18_Parse.calls kj2 _ _ l0 t278 t279 t280 t281 _ ?side1 ?side2 A8.out).mono ?_); (case side1 => exact Kd.C_below HR0.out (by repeat (first | (with_reducible first | exact HB.out | apply below_alloc | apply pw_below_drewN | apply below_drew1 | refine below_set ?_ GE277.out) | exact HB.out))); (case side2 => exact HC0.out); rintro e w13 ⟨rfl, hb⟩; refine ⟨_, rfl, ?_⟩; have n0_ := Aside0.mk (blk_below (g := gb277) (o := .cells #[.int .i64 t273, .int .i64 t274, .int .i64 t275] 33 (0, 0)) (by (with_reducible repeat (first | refine blk_drewN ?_ _ | refine blk_drew ?_ | refine blk_alloc ?_ _)); refine blk_put (cs := #[.int .i64 t273, .int .i64 t274, .int .i64 0]) ?_ 2 _ rfl; (with_reducible repeat (first | refine blk_drewN ?_ _ | refine blk_drew ?_ | refine blk_alloc ?_ _)); refine blk_put (cs := #[.int .i64 t273, .int .i64 0, .int .i64 0]) ?_ 1 _ rfl; (with_reducible repeat (first | refine blk_drewN ?_ _ | refine blk_drew ?_ | refine blk_alloc ?_ _)); refine blk_put (cs := #[.int .i64 0, .int .i64 0, .int .i64 0]) ?_ 0 _ rfl; (with_reducible repeat (first | refine blk_drewN ?_ _ | refine blk_drew ?_ | refine blk_alloc ?_ _)); exact BK277.out) hb); have n1_ := Aside0.mk (below_step (by repeat (first | (with_reducible first | exact HB.out | apply below_alloc | apply pw_below_drewN | apply below_drew1 | refine below_set ?_ GE277.out) | exact HB.out)) hb); clear BK277; clear HB; have BK277 := n0_; have HB := n1_; clear n0_ n1_; (try clear hb); (try clear hb2); (try clear hk); (try clear hi)) | ((with_reducible refine gate_dst (N := 6) rfl ?_); (try (refine gate_guard (by rfl) ?_; dsimp only)); refine box_event ?hg (N := 6) ?hd (cs := #[.int .i64 0, .int .i64 0, .int .i64 0]) (t := 33) ?hr ?_; (case hd => rfl); (case hg => rfl); (case hr => first | (go_simp; done) | (go_simp; rfl)); intro gb282 hg w14 hbox hb; have n0_ := Aside0.mk (blk_below (g := gb277) (o := .cells #[.int .i64 t273, .int .i64 t274, .int .i64 t275] 33 (0, 0)) (by (with_reducible repeat (first | refine blk_drewN ?_ _ | refine blk_drew ?_ | refine blk_alloc ?_ _)); exact BK277.out) hb); have n1_ := Aside0.mk (below_step (by repeat (first | (with_reducible first | exact HB.out | apply below_alloc | apply pw_below_drewN | apply below_drew1 | refine below_set ?_ GE277.out) | exact HB.out)) hb); have n2_ := Aside0.mk (hbox); have n3_ := Aside0.mk ((by rw [hg]; exact (below_size (by repeat (first | (with_reducible first | exact HB.out | apply below_alloc | apply pw_below_drewN | apply below_drew1 | refine below_set ?_ GE277.out) | exact HB.out))) : w.heap.size ≤ gb282)); have n4_ := Aside0.mk ((by rw [hg]; exact (below_size (by repeat (first | (with_reducible first | exact HB.out | apply below_alloc | apply pw_below_drewN | apply below_drew1 | refine below_set ?_ GE277.out) | exact HB.out))) : w.heap.size ≤ gb282)); have n5_ := Aside0.mk ((by rw [hg]; exact Nat.ne_of_lt (blk_lt (g := gb277) (o := .cells #[.int .i64 t273, .int .i64 t274, .int .i64 t275] 33 (0, 0)) (by (with_reducible repeat (first | refine blk_drewN ?_ _ | refine blk_drew ?_ | refine blk_alloc ?_ _)); exact BK277.out)) : gb277 ≠ gb282)); have n6_ := Aside0.mk ((by rw [hg]; exact Nat.ne_of_gt (blk_lt (g := gb277) (o := .cells #[.int .i64 t273, .int .i64 t274, .int .i64 t275] 33 (0, 0)) (by (with_reducible repeat (first | refine blk_drewN ?_ _ | refine blk_drew ?_ | refine blk_alloc ?_ _)); exact BK277.out)) : gb282 ≠ gb277)); clear BK277; clear HB; have BK277 := n0_; have HB := n1_; have BK282 := n2_; have GW282 := n3_; have GE282 := n4_; have NB277_282 := n5_; have NB282_277 := n6_; clear n0_ n1_ n2_ n3_ n4_ n5_ n6_; clear hb hbox hg; have hnb15 := NB282_277.out; have hnc15 := NB277_282.out; have hcz16_0 : w14.cell? ⟨gb282, 0, none⟩ = some (.int .i64 0) := (blk_cell BK282.out 0).trans rfl; have hcz16_1 : w14.cell? ⟨gb282, 1, none⟩ = some (.int .i64 0) := (blk_cell BK282.out 1).trans rfl; have hcz16_2 : w14.cell? ⟨gb282, 2, none⟩ = some (.int .i64 0) := (blk_cell BK282.out 2).trans rfl; have hfz16_0 := blk_frozen BK282.out 0; have hfz16_1 := blk_frozen BK282.out 1; have hfz16_2 := blk_frozen BK282.out 2; have hcz17_0 : w14.cell? ⟨gb277, 0, none⟩ = some (.int .i64 t273) := (blk_cell BK277.out 0).trans rfl; have hcz17_1 : w14.cell? ⟨gb277, 1, none⟩ = some (.int .i64 t274) := (blk_cell BK277.out 1).trans rfl; have hcz17_2 : w14.cell? ⟨gb277, 2, none⟩ = some (.int .i64 t275) := (blk_cell BK277.out 2).trans rfl; have hfz17_0 := blk_frozen BK277.out 0; have hfz17_1 := blk_frozen BK277.out 1; have hfz17_2 := blk_frozen BK277.out 2))
          go_ret
          exact ⟨by first | rfl | (simp [errW_none, errW_some] <;> rfl) | (simp [*, errW_none, errW_some] <;> rfl), by repeat (first | (with_reducible first | exact HB.out | apply below_alloc | apply pw_below_drewN | apply below_drew1 | refine below_set ?_ GE277.out | refine below_set ?_ GE282.out) | exact HB.out)⟩
        · rw [if_neg c9] at H
          exact absurd H (by simp)

/-- THE ONE PURE STATEMENT of haulierlaw18_OptsParses: yours. -/
def haulierlaw18_OptsParses.Pure : Prop := ∀ (l0 : List Int), l0.length ≤ maxLen → l0.length * 1 ≤ 140737488351232 → (∀ x ∈ l0, (Lit.int .u8 x).wf = true) → ∃ k, haulierlaw18_OptsParses.f k l0 = some true
theorem haulierlaw18_OptsParses.walk (P : haulierlaw18_OptsParses.Pure) (a0 : Option Addr) (len0 cap0 : Nat) (z0 : List Int) (w : World) (w0 : (a0 = none ∧ len0 = 0 ∧ cap0 = 0 ∧ z0 = []) ∨ ∃ x, a0 = some x ∧ len0 ≤ cap0 ∧ cap0 ≤ maxLen ∧ z0.length = cap0 ∧ (∀ i, i < z0.length → w.cell? (x.add i) = some (.int .u8 (z0.getD i 0))) ∧ ∀ n ∈ z0, (Lit.int .u8 n).wf = true) (y0 : len0 * 1 ≤ 140737488351232) :
    Calls Try.prog 7 #[.slice a0 len0 cap0] w fun e w' => e = .returned (.bool true) ∧ Below w.heap.size w w' := by
  obtain ⟨l0, rfl, hr0, hm0, hw0, hc0⟩ := ReadsInt.ofRowC w0
  obtain ⟨k, h⟩ := P l0 hm0 y0 hw0
  refine (haulierlaw18_OptsParses.calls k _ _ l0 true w (Kd.C_of_reads (d := (0 : Int)) (h1 := fun _ => rfl) hr0) hc0 h).mono ?_
  rintro e w' ⟨rfl, hd⟩
  exact ⟨rfl, hd⟩

end Go.Proofs.Ytdmlohoicgfdnaa.PA
