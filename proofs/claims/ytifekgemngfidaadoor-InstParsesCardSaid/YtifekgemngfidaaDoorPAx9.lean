-- Printed for this claim by wip/tools/xprint.py over the kit's print; the contracts marked BY HAND are this session's own.
import Derived.Test.YtifekgemngfidaaDoorPAx0
import Derived.Test.YtifekgemngfidaaDoorPAx8
namespace Go.Proofs.YtifekgemngfidaaDoor.PA
open Go.RowKit Go.Proofs.YtifekgemngfidaaDoorW.PrintWords Go.Proofs.YtifekgemngfidaaDoorW.PrintLast Go.Proofs.YtifekgemngfidaaDoorW.PrintMore
attribute [local go_sem] max2_int min2_int max_two min_two max_three min_three max_four min_four   -- for this text's walks alone
set_option linter.unusedVariables false
set_option linter.unusedSimpArgs false

/-! ### haulierref05_May: function 16 -/
mutual
def haulierref05_May.j0 : Nat → Bool → Int → Int → Int → List (S34) → Option (Bool)
  | 0, _, _, _, _, _ => none
  | k + 1, x38, x218000, x218001, x218002, x218003 => if x38 = true then (some false) else (haulierref05_May.l0 k 0 x218000 x218001 x218002 x218003)
def haulierref05_May.l0 : Nat → Int → Int → Int → Int → List (S34) → Option (Bool)
  | 0, _, _, _, _, _ => none
  | k + 1, x6, x218000, x218001, x218002, x218003 => if x6 < (x218003.length : Int) then (if 0 ≤ x6 then ((haulierref05_stop.f ((rd_T34 x218003 x6).f0) ((rd_T34 x218003 x6).f1) ((rd_T34 x218003 x6).f2) ((rd_T34 x218003 x6).f3) ((rd_T34 x218003 x6).f4) ((rd_T34 x218003 x6).f5)).bind fun t223 => ((haulierref05_in.f ((rd_T34 x218003 x6).f2) 1 1000).bind fun t224 => (if t223 = true then (if x6 = 0 then (if ((rd_T34 x218003 x6).f2) = 0 then (if ((rd_T34 x218003 x6).f5) = 0 then (if x6 > 0 then (if x6 ≤ x218000 then (if t224 = true then (if x6 > x218000 then (if 0 ≤ (wrap64 (x6 - x218000)) then (if (wrap64 (x6 - x218000)) < (x218003.length : Int) then (haulierref05_May.j2 k x6 (((rd_T34 x218003 x6).f2) != (wrap64 (-((rd_T34 x218003 (wrap64 (x6 - x218000))).f2)))) x218000 x218001 x218002 x218003) else (none)) else (none)) else (haulierref05_May.j2 k x6 false x218000 x218001 x218002 x218003)) else (haulierref05_May.j2 k x6 true x218000 x218001 x218002 x218003)) else (if x6 > x218000 then (if 0 ≤ (wrap64 (x6 - x218000)) then (if (wrap64 (x6 - x218000)) < (x218003.length : Int) then (haulierref05_May.j2 k x6 (((rd_T34 x218003 x6).f2) != (wrap64 (-((rd_T34 x218003 (wrap64 (x6 - x218000))).f2)))) x218000 x218001 x218002 x218003) else (none)) else (none)) else (haulierref05_May.j2 k x6 false x218000 x218001 x218002 x218003))) else (if x6 > x218000 then (if 0 ≤ (wrap64 (x6 - x218000)) then (if (wrap64 (x6 - x218000)) < (x218003.length : Int) then (haulierref05_May.j2 k x6 (((rd_T34 x218003 x6).f2) != (wrap64 (-((rd_T34 x218003 (wrap64 (x6 - x218000))).f2)))) x218000 x218001 x218002 x218003) else (none)) else (none)) else (haulierref05_May.j2 k x6 false x218000 x218001 x218002 x218003))) else (haulierref05_May.j2 k x6 true x218000 x218001 x218002 x218003)) else (haulierref05_May.j2 k x6 true x218000 x218001 x218002 x218003)) else (if x6 > 0 then (if x6 ≤ x218000 then (if t224 = true then (if x6 > x218000 then (if 0 ≤ (wrap64 (x6 - x218000)) then (if (wrap64 (x6 - x218000)) < (x218003.length : Int) then (haulierref05_May.j2 k x6 (((rd_T34 x218003 x6).f2) != (wrap64 (-((rd_T34 x218003 (wrap64 (x6 - x218000))).f2)))) x218000 x218001 x218002 x218003) else (none)) else (none)) else (haulierref05_May.j2 k x6 false x218000 x218001 x218002 x218003)) else (haulierref05_May.j2 k x6 true x218000 x218001 x218002 x218003)) else (if x6 > x218000 then (if 0 ≤ (wrap64 (x6 - x218000)) then (if (wrap64 (x6 - x218000)) < (x218003.length : Int) then (haulierref05_May.j2 k x6 (((rd_T34 x218003 x6).f2) != (wrap64 (-((rd_T34 x218003 (wrap64 (x6 - x218000))).f2)))) x218000 x218001 x218002 x218003) else (none)) else (none)) else (haulierref05_May.j2 k x6 false x218000 x218001 x218002 x218003))) else (if x6 > x218000 then (if 0 ≤ (wrap64 (x6 - x218000)) then (if (wrap64 (x6 - x218000)) < (x218003.length : Int) then (haulierref05_May.j2 k x6 (((rd_T34 x218003 x6).f2) != (wrap64 (-((rd_T34 x218003 (wrap64 (x6 - x218000))).f2)))) x218000 x218001 x218002 x218003) else (none)) else (none)) else (haulierref05_May.j2 k x6 false x218000 x218001 x218002 x218003)))) else (haulierref05_May.j2 k x6 true x218000 x218001 x218002 x218003)))) else (none)) else (some true)
def haulierref05_May.j2 : Nat → Int → Bool → Int → Int → Int → List (S34) → Option (Bool)
  | 0, _, _, _, _, _, _ => none
  | k + 1, x6, x106, x218000, x218001, x218002, x218003 => if x106 = true then (some false) else (haulierref05_May.l0 k (wrap64 (x6 + 1)) x218000 x218001 x218002 x218003)
end
def haulierref05_May.f (k : Nat) (a0_0 : Int) (a0_1 : Int) (a0_2 : Int) (l0_3 : List (S34)) : Option (Bool) := (haulierref05_in.f a0_0 0 16).bind fun t218 => ((haulierref05_in.f a0_1 1 8).bind fun t219 => ((haulierref05_in.f a0_2 1 1000).bind fun t220 => (if t218 = true then (if t219 = true then (if t220 = true then (haulierref05_May.j0 k ((l0_3.length : Int) != (wrap64 ((wrap64 (2 * a0_0)) + 1))) a0_0 a0_1 a0_2 l0_3) else (haulierref05_May.j0 k true a0_0 a0_1 a0_2 l0_3)) else (haulierref05_May.j0 k true a0_0 a0_1 a0_2 l0_3)) else (haulierref05_May.j0 k true a0_0 a0_1 a0_2 l0_3))))
theorem haulierref05_May.mono_l : ∀ k, (∀ y0 y1 y2 y3 y4, LeO (haulierref05_May.j0 k y0 y1 y2 y3 y4) (haulierref05_May.j0 (k + 1) y0 y1 y2 y3 y4)) ∧ (∀ y0 y1 y2 y3 y4, LeO (haulierref05_May.l0 k y0 y1 y2 y3 y4) (haulierref05_May.l0 (k + 1) y0 y1 y2 y3 y4)) ∧ (∀ y0 y1 y2 y3 y4 y5, LeO (haulierref05_May.j2 k y0 y1 y2 y3 y4 y5) (haulierref05_May.j2 (k + 1) y0 y1 y2 y3 y4 y5))
  | 0 => ⟨fun _ _ _ _ _ r h => by simp [haulierref05_May.j0] at h, fun _ _ _ _ _ r h => by simp [haulierref05_May.l0] at h, fun _ _ _ _ _ _ r h => by simp [haulierref05_May.j2] at h⟩
  | k + 1 => by
    obtain ⟨ih0, ih1, ih2⟩ := haulierref05_May.mono_l k
    refine ⟨?_, ?_, ?_⟩
    · intro y0 y1 y2 y3 y4
      unfold haulierref05_May.j0
      repeat' first
      | (with_reducible exact ih0 _ _ _ _ _)
      | (with_reducible exact ih1 _ _ _ _ _)
      | (with_reducible exact ih2 _ _ _ _ _ _)
      | (with_reducible exact LeO.refl _)
      | (with_reducible exact LeO.none _)
      | (with_reducible refine LeO.ite ?_ ?_)
      | (with_reducible refine LeO.bind ?_ (fun _ => ?_))
      | exact ih0 _ _ _ _ _
      | exact ih1 _ _ _ _ _
      | exact ih2 _ _ _ _ _ _
      | exact LeO.none _
      | refine LeO.ite ?_ ?_
      | refine LeO.bind ?_ (fun _ => ?_)
    · intro y0 y1 y2 y3 y4
      unfold haulierref05_May.l0
      repeat' first
      | (with_reducible exact ih0 _ _ _ _ _)
      | (with_reducible exact ih1 _ _ _ _ _)
      | (with_reducible exact ih2 _ _ _ _ _ _)
      | (with_reducible exact LeO.refl _)
      | (with_reducible exact LeO.none _)
      | (with_reducible refine LeO.ite ?_ ?_)
      | (with_reducible refine LeO.bind ?_ (fun _ => ?_))
      | exact ih0 _ _ _ _ _
      | exact ih1 _ _ _ _ _
      | exact ih2 _ _ _ _ _ _
      | exact LeO.none _
      | refine LeO.ite ?_ ?_
      | refine LeO.bind ?_ (fun _ => ?_)
    · intro y0 y1 y2 y3 y4 y5
      unfold haulierref05_May.j2
      repeat' first
      | (with_reducible exact ih0 _ _ _ _ _)
      | (with_reducible exact ih1 _ _ _ _ _)
      | (with_reducible exact ih2 _ _ _ _ _ _)
      | (with_reducible exact LeO.refl _)
      | (with_reducible exact LeO.none _)
      | (with_reducible refine LeO.ite ?_ ?_)
      | (with_reducible refine LeO.bind ?_ (fun _ => ?_))
      | exact ih0 _ _ _ _ _
      | exact ih1 _ _ _ _ _
      | exact ih2 _ _ _ _ _ _
      | exact LeO.none _
      | refine LeO.ite ?_ ?_
      | refine LeO.bind ?_ (fun _ => ?_)
theorem haulierref05_May.mono : ∀ a0 a1 a2 a3 k, LeO (haulierref05_May.f k a0 a1 a2 a3) (haulierref05_May.f (k + 1) a0 a1 a2 a3) := by
  intro a0 a1 a2 a3 k
  obtain ⟨ih0, ih1, ih2⟩ := haulierref05_May.mono_l k
  unfold haulierref05_May.f
  repeat' first
      | (with_reducible exact ih0 _ _ _ _ _)
      | (with_reducible exact ih1 _ _ _ _ _)
      | (with_reducible exact ih2 _ _ _ _ _ _)
      | (with_reducible exact LeO.refl _)
      | (with_reducible exact LeO.none _)
      | (with_reducible refine LeO.ite ?_ ?_)
      | (with_reducible refine LeO.bind ?_ (fun _ => ?_))
      | exact ih0 _ _ _ _ _
      | exact ih1 _ _ _ _ _
      | exact ih2 _ _ _ _ _ _
      | exact LeO.none _
      | refine LeO.ite ?_ ?_
      | refine LeO.bind ?_ (fun _ => ?_)
set_option maxHeartbeats 8000000 in
set_option maxRecDepth 100000 in
theorem haulierref05_May.calls (k : Nat) (a0_0 : Int) (a0_1 : Int) (a0_2 : Int) (A0_3 : Option Addr) (c0_3 : Nat) (l0_3 : List (S34)) (r : Bool) (w : World) (hr0_3 : Kd.C k34 w A0_3 l0_3.length l0_3) (hc0_3 : l0_3.length ≤ c0_3) (h : haulierref05_May.f k a0_0 a0_1 a0_2 l0_3 = some r) :
  Calls Tryd.prog 16 #[.agg #[.int .i64 a0_0, .int .i64 a0_1, .int .i64 a0_2, .slice A0_3 l0_3.length c0_3]] w fun e w' => e = .returned (.bool r) ∧ Below w.heap.size w w' := by
 have hu26 := Tryd.underlying26
 have hu34 := Tryd.underlying34
 have HR0_3 := zqi hr0_3
 have HC0_3 := zqi hc0_3
 clear hr0_3 hc0_3
 have HB := zqi (Below.refl w.heap.size w)
 have H : ((haulierref05_in.f a0_0 0 16).bind fun t218 => ((haulierref05_in.f a0_1 1 8).bind fun t219 => ((haulierref05_in.f a0_2 1 1000).bind fun t220 => (if t218 = true then (if t219 = true then (if t220 = true then (haulierref05_May.j0 k ((l0_3.length : Int) != (wrap64 ((wrap64 (2 * a0_0)) + 1))) a0_0 a0_1 a0_2 l0_3) else (haulierref05_May.j0 k true a0_0 a0_1 a0_2 l0_3)) else (haulierref05_May.j0 k true a0_0 a0_1 a0_2 l0_3)) else (haulierref05_May.j0 k true a0_0 a0_1 a0_2 l0_3))))) = some r := h
 clear h
 replace H := Option.bind_eq_some_iff.mp H
 obtain ⟨t218, A20, H⟩ := H
 replace H : ((haulierref05_in.f a0_1 1 8).bind fun t219 => ((haulierref05_in.f a0_2 1 1000).bind fun t220 => (if t218 = true then (if t219 = true then (if t220 = true then (haulierref05_May.j0 k ((l0_3.length : Int) != (wrap64 ((wrap64 (2 * a0_0)) + 1))) a0_0 a0_1 a0_2 l0_3) else (haulierref05_May.j0 k true a0_0 a0_1 a0_2 l0_3)) else (haulierref05_May.j0 k true a0_0 a0_1 a0_2 l0_3)) else (haulierref05_May.j0 k true a0_0 a0_1 a0_2 l0_3)))) = some r := H
 have A2 := zqi A20
 clear A20
 replace H := Option.bind_eq_some_iff.mp H
 obtain ⟨t219, A30, H⟩ := H
 replace H : ((haulierref05_in.f a0_2 1 1000).bind fun t220 => (if t218 = true then (if t219 = true then (if t220 = true then (haulierref05_May.j0 k ((l0_3.length : Int) != (wrap64 ((wrap64 (2 * a0_0)) + 1))) a0_0 a0_1 a0_2 l0_3) else (haulierref05_May.j0 k true a0_0 a0_1 a0_2 l0_3)) else (haulierref05_May.j0 k true a0_0 a0_1 a0_2 l0_3)) else (haulierref05_May.j0 k true a0_0 a0_1 a0_2 l0_3))) = some r := H
 have A3 := zqi A30
 clear A30
 replace H := Option.bind_eq_some_iff.mp H
 obtain ⟨t220, A40, H⟩ := H
 replace H : (if t218 = true then (if t219 = true then (if t220 = true then (haulierref05_May.j0 k ((l0_3.length : Int) != (wrap64 ((wrap64 (2 * a0_0)) + 1))) a0_0 a0_1 a0_2 l0_3) else (haulierref05_May.j0 k true a0_0 a0_1 a0_2 l0_3)) else (haulierref05_May.j0 k true a0_0 a0_1 a0_2 l0_3)) else (haulierref05_May.j0 k true a0_0 a0_1 a0_2 l0_3)) = some r := H
 have A4 := zqi A40
 clear A40
 have HC5 := zqi H
 clear H
 go_enter Tryd.func16, Tryd.ntmps16
 go_upto_region 4 with (first | ((with_reducible refine gate_dst (N := 1) rfl ?_); (try (refine gate_guard (by rfl) ?_; dsimp only)); refine box_event ?hg (N := 1) ?hd (cs := #[.int .i64 a0_0, .int .i64 a0_1, .int .i64 a0_2, .slice A0_3 l0_3.length c0_3]) (t := 26) ?hr ?_; (case hd => rfl); (case hg => rfl); (case hr => first | (go_simp; done) | (go_simp; rfl)); intro gb217 hg w6 hbox hb; have n0_ := zqi (below_step (by repeat (first | (with_reducible first | exact HB.out | apply zqg | apply zqf | apply zqh) | exact HB.out)) hb); have n1_ := zqi (hbox); have n2_ := zqi ((by rw [hg]; exact (below_size (by repeat (first | (with_reducible first | exact HB.out | apply zqg | apply zqf | apply zqh) | exact HB.out))) : w.heap.size ≤ gb217)); have n3_ := zqi ((by rw [hg]; exact (below_size (by repeat (first | (with_reducible first | exact HB.out | apply zqg | apply zqf | apply zqh) | exact HB.out))) : w.heap.size ≤ gb217)); clear HB; have HB := n0_; have BK217 := n1_; have GW217 := n2_; have GE217 := n3_; clear n0_ n1_ n2_ n3_; clear hb hbox hg; have hcz7_0 : w6.cell? ⟨gb217, 0, none⟩ = some (.int .i64 a0_0) := (zqe BK217.out 0).trans rfl; have hcz7_1 : w6.cell? ⟨gb217, 1, none⟩ = some (.int .i64 a0_1) := (zqe BK217.out 1).trans rfl; have hcz7_2 : w6.cell? ⟨gb217, 2, none⟩ = some (.int .i64 a0_2) := (zqe BK217.out 2).trans rfl; have hcz7_3 : w6.cell? ⟨gb217, 3, none⟩ = some (.slice A0_3 l0_3.length c0_3) := (zqe BK217.out 3).trans rfl; have hfz7_0 := zqd BK217.out 0; have hfz7_1 := zqd BK217.out 1; have hfz7_2 := zqd BK217.out 2; have hfz7_3 := zqd BK217.out 3) | (go_at_call 28; (with_reducible refine (haulierref05_in.calls a0_0 0 16 t218 _ A2.out).mono ?_); rintro e w' ⟨rfl, ⟨nd, rfl⟩⟩; (try first | exact ⟨rfl, _, zqj⟩ | exact ⟨rfl, _, Eq.trans (zqj) (congrArg (World.drewN _) (Nat.add_assoc _ _ _))⟩)) | (go_at_call 28; (with_reducible refine (haulierref05_in.calls a0_1 1 8 t219 _ A3.out).mono ?_); rintro e w' ⟨rfl, ⟨nd, rfl⟩⟩; (try first | exact ⟨rfl, _, zqj⟩ | exact ⟨rfl, _, Eq.trans (zqj) (congrArg (World.drewN _) (Nat.add_assoc _ _ _))⟩)) | (go_at_call 28; (with_reducible refine (haulierref05_in.calls a0_2 1 1000 t220 _ A4.out).mono ?_); rintro e w' ⟨rfl, ⟨nd, rfl⟩⟩; (try first | exact ⟨rfl, _, zqj⟩ | exact ⟨rfl, _, Eq.trans (zqj) (congrArg (World.drewN _) (Nat.add_assoc _ _ _))⟩)))
 repeat (go_quiet (first | ((with_reducible refine gate_dst (N := 1) rfl ?_); (try (refine gate_guard (by rfl) ?_; dsimp only)); refine box_event ?hg (N := 1) ?hd (cs := #[.int .i64 a0_0, .int .i64 a0_1, .int .i64 a0_2, .slice A0_3 l0_3.length c0_3]) (t := 26) ?hr ?_; (case hd => rfl); (case hg => rfl); (case hr => first | (go_simp; done) | (go_simp; rfl)); intro gb217 hg w6 hbox hb; have n0_ := zqi (below_step (by repeat (first | (with_reducible first | exact HB.out | apply zqg | apply zqf | apply zqh) | exact HB.out)) hb); have n1_ := zqi (hbox); have n2_ := zqi ((by rw [hg]; exact (below_size (by repeat (first | (with_reducible first | exact HB.out | apply zqg | apply zqf | apply zqh) | exact HB.out))) : w.heap.size ≤ gb217)); have n3_ := zqi ((by rw [hg]; exact (below_size (by repeat (first | (with_reducible first | exact HB.out | apply zqg | apply zqf | apply zqh) | exact HB.out))) : w.heap.size ≤ gb217)); clear HB; have HB := n0_; have BK217 := n1_; have GW217 := n2_; have GE217 := n3_; clear n0_ n1_ n2_ n3_; clear hb hbox hg; have hcz7_0 : w6.cell? ⟨gb217, 0, none⟩ = some (.int .i64 a0_0) := (zqe BK217.out 0).trans rfl; have hcz7_1 : w6.cell? ⟨gb217, 1, none⟩ = some (.int .i64 a0_1) := (zqe BK217.out 1).trans rfl; have hcz7_2 : w6.cell? ⟨gb217, 2, none⟩ = some (.int .i64 a0_2) := (zqe BK217.out 2).trans rfl; have hcz7_3 : w6.cell? ⟨gb217, 3, none⟩ = some (.slice A0_3 l0_3.length c0_3) := (zqe BK217.out 3).trans rfl; have hfz7_0 := zqd BK217.out 0; have hfz7_1 := zqd BK217.out 1; have hfz7_2 := zqd BK217.out 2; have hfz7_3 := zqd BK217.out 3) | (go_at_call 28; (with_reducible refine (haulierref05_in.calls a0_0 0 16 t218 _ A2.out).mono ?_); rintro e w' ⟨rfl, ⟨nd, rfl⟩⟩; (try first | exact ⟨rfl, _, zqj⟩ | exact ⟨rfl, _, Eq.trans (zqj) (congrArg (World.drewN _) (Nat.add_assoc _ _ _))⟩)) | (go_at_call 28; (with_reducible refine (haulierref05_in.calls a0_1 1 8 t219 _ A3.out).mono ?_); rintro e w' ⟨rfl, ⟨nd, rfl⟩⟩; (try first | exact ⟨rfl, _, zqj⟩ | exact ⟨rfl, _, Eq.trans (zqj) (congrArg (World.drewN _) (Nat.add_assoc _ _ _))⟩)) | (go_at_call 28; (with_reducible refine (haulierref05_in.calls a0_2 1 1000 t220 _ A4.out).mono ?_); rintro e w' ⟨rfl, ⟨nd, rfl⟩⟩; (try first | exact ⟨rfl, _, zqj⟩ | exact ⟨rfl, _, Eq.trans (zqj) (congrArg (World.drewN _) (Nat.add_assoc _ _ _))⟩))); go_upto_region 4 with (first | ((with_reducible refine gate_dst (N := 1) rfl ?_); (try (refine gate_guard (by rfl) ?_; dsimp only)); refine box_event ?hg (N := 1) ?hd (cs := #[.int .i64 a0_0, .int .i64 a0_1, .int .i64 a0_2, .slice A0_3 l0_3.length c0_3]) (t := 26) ?hr ?_; (case hd => rfl); (case hg => rfl); (case hr => first | (go_simp; done) | (go_simp; rfl)); intro gb217 hg w6 hbox hb; have n0_ := zqi (below_step (by repeat (first | (with_reducible first | exact HB.out | apply zqg | apply zqf | apply zqh) | exact HB.out)) hb); have n1_ := zqi (hbox); have n2_ := zqi ((by rw [hg]; exact (below_size (by repeat (first | (with_reducible first | exact HB.out | apply zqg | apply zqf | apply zqh) | exact HB.out))) : w.heap.size ≤ gb217)); have n3_ := zqi ((by rw [hg]; exact (below_size (by repeat (first | (with_reducible first | exact HB.out | apply zqg | apply zqf | apply zqh) | exact HB.out))) : w.heap.size ≤ gb217)); clear HB; have HB := n0_; have BK217 := n1_; have GW217 := n2_; have GE217 := n3_; clear n0_ n1_ n2_ n3_; clear hb hbox hg; have hcz7_0 : w6.cell? ⟨gb217, 0, none⟩ = some (.int .i64 a0_0) := (zqe BK217.out 0).trans rfl; have hcz7_1 : w6.cell? ⟨gb217, 1, none⟩ = some (.int .i64 a0_1) := (zqe BK217.out 1).trans rfl; have hcz7_2 : w6.cell? ⟨gb217, 2, none⟩ = some (.int .i64 a0_2) := (zqe BK217.out 2).trans rfl; have hcz7_3 : w6.cell? ⟨gb217, 3, none⟩ = some (.slice A0_3 l0_3.length c0_3) := (zqe BK217.out 3).trans rfl; have hfz7_0 := zqd BK217.out 0; have hfz7_1 := zqd BK217.out 1; have hfz7_2 := zqd BK217.out 2; have hfz7_3 := zqd BK217.out 3) | (go_at_call 28; (with_reducible refine (haulierref05_in.calls a0_0 0 16 t218 _ A2.out).mono ?_); rintro e w' ⟨rfl, ⟨nd, rfl⟩⟩; (try first | exact ⟨rfl, _, zqj⟩ | exact ⟨rfl, _, Eq.trans (zqj) (congrArg (World.drewN _) (Nat.add_assoc _ _ _))⟩)) | (go_at_call 28; (with_reducible refine (haulierref05_in.calls a0_1 1 8 t219 _ A3.out).mono ?_); rintro e w' ⟨rfl, ⟨nd, rfl⟩⟩; (try first | exact ⟨rfl, _, zqj⟩ | exact ⟨rfl, _, Eq.trans (zqj) (congrArg (World.drewN _) (Nat.add_assoc _ _ _))⟩)) | (go_at_call 28; (with_reducible refine (haulierref05_in.calls a0_2 1 1000 t220 _ A4.out).mono ?_); rintro e w' ⟨rfl, ⟨nd, rfl⟩⟩; (try first | exact ⟨rfl, _, zqj⟩ | exact ⟨rfl, _, Eq.trans (zqj) (congrArg (World.drewN _) (Nat.add_assoc _ _ _))⟩))))
 (try simp only [Act.put, List.setIfInBounds_toArray, List.set_cons_zero, List.set_cons_succ])
 go_cut [38] (fun v38 wc => ∃ (kq : Nat) (x38_4 : Bool), v38 = .bool x38_4 ∧ Aside0 (haulierref05_May.j0 kq x38_4 a0_0 a0_1 a0_2 l0_3 = some r) ∧ Aside0 (kq ≤ k) ∧ Aside0 (wc.heap[gb217]? = some (.cells #[.int .i64 a0_0, .int .i64 a0_1, .int .i64 a0_2, (.slice A0_3 l0_3.length c0_3)] 26 (0, 0))) ∧ Aside0 (Below w.heap.size w wc))
 case first =>
  have H := HC5.out
  clear HC5
  by_cases c8 : t218 = true
  ·
   subst c8
   have H1 : (if t219 = true then (if t220 = true then (haulierref05_May.j0 k ((l0_3.length : Int) != (wrap64 ((wrap64 (2 * a0_0)) + 1))) a0_0 a0_1 a0_2 l0_3) else (haulierref05_May.j0 k true a0_0 a0_1 a0_2 l0_3)) else (haulierref05_May.j0 k true a0_0 a0_1 a0_2 l0_3)) = some r := by rw [if_pos rfl] at H; exact H
   clear H
   have H := H1
   clear H1
   by_cases c9 : t219 = true
   ·
    subst c9
    have H1 : (if t220 = true then (haulierref05_May.j0 k ((l0_3.length : Int) != (wrap64 ((wrap64 (2 * a0_0)) + 1))) a0_0 a0_1 a0_2 l0_3) else (haulierref05_May.j0 k true a0_0 a0_1 a0_2 l0_3)) = some r := by rw [if_pos rfl] at H; exact H
    clear H
    have H := H1
    clear H1
    by_cases c10 : t220 = true
    ·
     subst c10
     have H1 : (haulierref05_May.j0 k ((l0_3.length : Int) != (wrap64 ((wrap64 (2 * a0_0)) + 1))) a0_0 a0_1 a0_2 l0_3) = some r := by rw [if_pos rfl] at H; exact H
     clear H
     have H := H1
     clear H1
     have H' := zqi H
     clear H
     have hcz11_0 : w6.cell? ⟨gb217, 0, none⟩ = some (.int .i64 a0_0) := (zqe BK217.out 0).trans rfl
     have hcz11_1 : w6.cell? ⟨gb217, 1, none⟩ = some (.int .i64 a0_1) := (zqe BK217.out 1).trans rfl
     have hcz11_2 : w6.cell? ⟨gb217, 2, none⟩ = some (.int .i64 a0_2) := (zqe BK217.out 2).trans rfl
     have hcz11_3 : w6.cell? ⟨gb217, 3, none⟩ = some (.slice A0_3 l0_3.length c0_3) := (zqe BK217.out 3).trans rfl
     have hfz11_0 := zqd BK217.out 0
     have hfz11_1 := zqd BK217.out 1
     have hfz11_2 := zqd BK217.out 2
     have hfz11_3 := zqd BK217.out 3
     go_wp2
     repeat (go_quiet (fail); try go_wp2)
     go_meet
     case rel => exact ⟨_, (((l0_3.length : Int) != (wrap64 ((wrap64 (2 * a0_0)) + 1)))), (by first | rfl | (simp; done) | (simp [*]; done)), H', ⟨by first | omega | exact Nat.le_refl _⟩, ⟨by (with_reducible repeat (first | apply zqa | apply zqb | apply zqc)); exact BK217.out⟩, ⟨by repeat (first | (with_reducible first | exact HB.out | apply zqg | apply zqf | apply zqh | refine below_set ?_ GE217.out) | exact HB.out)⟩⟩
    ·
     replace c10 := Bool.eq_false_iff.mpr c10
     subst c10
     have H1 : (haulierref05_May.j0 k true a0_0 a0_1 a0_2 l0_3) = some r := by rw [if_neg (show ¬ (false = true) by decide)] at H; exact H
     clear H
     have H := H1
     clear H1
     have H' := zqi H
     clear H
     go_wp2
     repeat (go_quiet (fail); try go_wp2)
     go_meet
     case rel => exact ⟨_, (true), (by first | rfl | (simp; done) | (simp [*]; done)), H', ⟨by first | omega | exact Nat.le_refl _⟩, ⟨by (with_reducible repeat (first | apply zqa | apply zqb | apply zqc)); exact BK217.out⟩, ⟨by repeat (first | (with_reducible first | exact HB.out | apply zqg | apply zqf | apply zqh | refine below_set ?_ GE217.out) | exact HB.out)⟩⟩
   ·
    replace c9 := Bool.eq_false_iff.mpr c9
    subst c9
    have H1 : (haulierref05_May.j0 k true a0_0 a0_1 a0_2 l0_3) = some r := by rw [if_neg (show ¬ (false = true) by decide)] at H; exact H
    clear H
    have H := H1
    clear H1
    have H' := zqi H
    clear H
    go_wp2
    repeat (go_quiet (fail); try go_wp2)
    go_meet
    case rel => exact ⟨_, (true), (by first | rfl | (simp; done) | (simp [*]; done)), H', ⟨by first | omega | exact Nat.le_refl _⟩, ⟨by (with_reducible repeat (first | apply zqa | apply zqb | apply zqc)); exact BK217.out⟩, ⟨by repeat (first | (with_reducible first | exact HB.out | apply zqg | apply zqf | apply zqh | refine below_set ?_ GE217.out) | exact HB.out)⟩⟩
  ·
   replace c8 := Bool.eq_false_iff.mpr c8
   subst c8
   have H1 : (haulierref05_May.j0 k true a0_0 a0_1 a0_2 l0_3) = some r := by rw [if_neg (show ¬ (false = true) by decide)] at H; exact H
   clear H
   have H := H1
   clear H1
   have H' := zqi H
   clear H
   go_wp2
   repeat (go_quiet (fail); try go_wp2)
   go_meet
   case rel => exact ⟨_, (true), (by first | rfl | (simp; done) | (simp [*]; done)), H', ⟨by first | omega | exact Nat.le_refl _⟩, ⟨by (with_reducible repeat (first | apply zqa | apply zqb | apply zqc)); exact BK217.out⟩, ⟨by repeat (first | (with_reducible first | exact HB.out | apply zqg | apply zqf | apply zqh | refine below_set ?_ GE217.out) | exact HB.out)⟩⟩
 case rest =>
  clear HC5
  try clear c1
  try clear p2
  try clear p6
  try clear c8
  try clear c9
  try clear c10
  try clear hcz11_0
  try clear hcz11_1
  try clear hcz11_2
  try clear hcz11_3
  try clear hcz7_0
  try clear hcz7_1
  try clear hcz7_2
  try clear hcz7_3
  try clear hfz11_0
  try clear hfz11_1
  try clear hfz11_2
  try clear hfz11_3
  try clear hfz7_0
  try clear hfz7_1
  try clear hfz7_2
  try clear hfz7_3
  obtain ⟨kq, x38_4, rfl, HA, HJ4, BK217, HB⟩ := hcut
  cases kq with
  | zero => exact absurd HA.out (by simp [haulierref05_May.j0])
  | succ kj4 =>
   have H := HA.out
   clear HA
   simp only [haulierref05_May.j0] at H
   by_cases c12 : x38_4 = true
   ·
    subst c12
    have H1 : (some false) = some r := by rw [if_pos rfl] at H; exact H
    clear H
    have H := H1
    clear H1
    obtain rfl := Option.some.inj H
    go_wp2
    repeat (go_quiet (fail); try go_wp2)
    go_ret
    exact ⟨by first | rfl | (simp [errW_none, errW_some] <;> rfl) | (simp [*, errW_none, errW_some] <;> rfl), by repeat (first | (with_reducible first | exact HB.out | apply zqg | apply zqf | apply zqh | refine below_set ?_ GE217.out) | exact HB.out)⟩
   ·
    replace c12 := Bool.eq_false_iff.mpr c12
    subst c12
    have H1 : (haulierref05_May.l0 kj4 0 a0_0 a0_1 a0_2 l0_3) = some r := by rw [if_neg (show ¬ (false = true) by decide)] at H; exact H
    clear H
    have H := H1
    clear H1
    have H' := zqi H
    clear H
    go_wp2
    repeat (go_quiet (fail); try go_wp2)
    go_loopg [6] kj4 (fun kq v6 w' => ∃ (x6_2 : Int), v6 = .int .i64 x6_2 ∧ Aside0 (haulierref05_May.l0 kq x6_2 a0_0 a0_1 a0_2 l0_3 = some r) ∧ Aside0 (kq ≤ kj4) ∧ Aside0 (w'.heap[gb217]? = some (.cells #[.int .i64 a0_0, .int .i64 a0_1, .int .i64 a0_2, (.slice A0_3 l0_3.length c0_3)] 26 (0, 0))) ∧ Aside0 (Below w.heap.size w w'))
    case atStart => exact ⟨(0), (by first | rfl | (simp; done) | (simp [*]; done)), H', ⟨Nat.le_refl _⟩, ⟨by (with_reducible repeat (first | apply zqa | apply zqb | apply zqc)); exact BK217.out⟩, ⟨by repeat (first | (with_reducible first | exact HB.out | apply zqg | apply zqf | apply zqh | refine below_set ?_ GE217.out) | exact HB.out)⟩⟩
    case round =>
     clear H'
     try clear c1
     try clear p2
     try clear p6
     try clear c8
     try clear c9
     try clear c10
     try clear c12
     try clear hcz11_0
     try clear hcz11_1
     try clear hcz11_2
     try clear hcz11_3
     try clear hcz7_0
     try clear hcz7_1
     try clear hcz7_2
     try clear hcz7_3
     try clear hfz11_0
     try clear hfz11_1
     try clear hfz11_2
     try clear hfz11_3
     try clear hfz7_0
     try clear hfz7_1
     try clear hfz7_2
     try clear hfz7_3
     try clear p2
     try clear p6
     obtain ⟨x6_2, rfl, HA, HK2, BK217, HB⟩ := hrel
     cases gk with
     | zero => exact absurd HA.out (by simp [haulierref05_May.l0])
     | succ k2 =>
      have H := HA.out
      clear HA
      simp only [haulierref05_May.l0] at H
      by_cases c13 : x6_2 < (l0_3.length : Int)
      ·
       rw [if_pos c13] at H
       have c13b0 : decide (x6_2 < (l0_3.length : Int)) = true := decide_eq_true c13
       clear c13
       by_cases c14 : 0 ≤ x6_2
       ·
        rw [if_pos c14] at H
        have c14b0 : decide (0 ≤ x6_2) = true := decide_eq_true c14
        clear c14
        replace H := Option.bind_eq_some_iff.mp H
        obtain ⟨t223, A150, H⟩ := H
        replace H : ((haulierref05_in.f ((rd_T34 l0_3 x6_2).f2) 1 1000).bind fun t224 => (if t223 = true then (if x6_2 = 0 then (if ((rd_T34 l0_3 x6_2).f2) = 0 then (if ((rd_T34 l0_3 x6_2).f5) = 0 then (if x6_2 > 0 then (if x6_2 ≤ a0_0 then (if t224 = true then (if x6_2 > a0_0 then (if 0 ≤ (wrap64 (x6_2 - a0_0)) then (if (wrap64 (x6_2 - a0_0)) < (l0_3.length : Int) then (haulierref05_May.j2 k2 x6_2 (((rd_T34 l0_3 x6_2).f2) != (wrap64 (-((rd_T34 l0_3 (wrap64 (x6_2 - a0_0))).f2)))) a0_0 a0_1 a0_2 l0_3) else (none)) else (none)) else (haulierref05_May.j2 k2 x6_2 false a0_0 a0_1 a0_2 l0_3)) else (haulierref05_May.j2 k2 x6_2 true a0_0 a0_1 a0_2 l0_3)) else (if x6_2 > a0_0 then (if 0 ≤ (wrap64 (x6_2 - a0_0)) then (if (wrap64 (x6_2 - a0_0)) < (l0_3.length : Int) then (haulierref05_May.j2 k2 x6_2 (((rd_T34 l0_3 x6_2).f2) != (wrap64 (-((rd_T34 l0_3 (wrap64 (x6_2 - a0_0))).f2)))) a0_0 a0_1 a0_2 l0_3) else (none)) else (none)) else (haulierref05_May.j2 k2 x6_2 false a0_0 a0_1 a0_2 l0_3))) else (if x6_2 > a0_0 then (if 0 ≤ (wrap64 (x6_2 - a0_0)) then (if (wrap64 (x6_2 - a0_0)) < (l0_3.length : Int) then (haulierref05_May.j2 k2 x6_2 (((rd_T34 l0_3 x6_2).f2) != (wrap64 (-((rd_T34 l0_3 (wrap64 (x6_2 - a0_0))).f2)))) a0_0 a0_1 a0_2 l0_3) else (none)) else (none)) else (haulierref05_May.j2 k2 x6_2 false a0_0 a0_1 a0_2 l0_3))) else (haulierref05_May.j2 k2 x6_2 true a0_0 a0_1 a0_2 l0_3)) else (haulierref05_May.j2 k2 x6_2 true a0_0 a0_1 a0_2 l0_3)) else (if x6_2 > 0 then (if x6_2 ≤ a0_0 then (if t224 = true then (if x6_2 > a0_0 then (if 0 ≤ (wrap64 (x6_2 - a0_0)) then (if (wrap64 (x6_2 - a0_0)) < (l0_3.length : Int) then (haulierref05_May.j2 k2 x6_2 (((rd_T34 l0_3 x6_2).f2) != (wrap64 (-((rd_T34 l0_3 (wrap64 (x6_2 - a0_0))).f2)))) a0_0 a0_1 a0_2 l0_3) else (none)) else (none)) else (haulierref05_May.j2 k2 x6_2 false a0_0 a0_1 a0_2 l0_3)) else (haulierref05_May.j2 k2 x6_2 true a0_0 a0_1 a0_2 l0_3)) else (if x6_2 > a0_0 then (if 0 ≤ (wrap64 (x6_2 - a0_0)) then (if (wrap64 (x6_2 - a0_0)) < (l0_3.length : Int) then (haulierref05_May.j2 k2 x6_2 (((rd_T34 l0_3 x6_2).f2) != (wrap64 (-((rd_T34 l0_3 (wrap64 (x6_2 - a0_0))).f2)))) a0_0 a0_1 a0_2 l0_3) else (none)) else (none)) else (haulierref05_May.j2 k2 x6_2 false a0_0 a0_1 a0_2 l0_3))) else (if x6_2 > a0_0 then (if 0 ≤ (wrap64 (x6_2 - a0_0)) then (if (wrap64 (x6_2 - a0_0)) < (l0_3.length : Int) then (haulierref05_May.j2 k2 x6_2 (((rd_T34 l0_3 x6_2).f2) != (wrap64 (-((rd_T34 l0_3 (wrap64 (x6_2 - a0_0))).f2)))) a0_0 a0_1 a0_2 l0_3) else (none)) else (none)) else (haulierref05_May.j2 k2 x6_2 false a0_0 a0_1 a0_2 l0_3)))) else (haulierref05_May.j2 k2 x6_2 true a0_0 a0_1 a0_2 l0_3))) = some r := H
        have A15 := zqi A150
        clear A150
        replace H := Option.bind_eq_some_iff.mp H
        obtain ⟨t224, A160, H⟩ := H
        replace H : (if t223 = true then (if x6_2 = 0 then (if ((rd_T34 l0_3 x6_2).f2) = 0 then (if ((rd_T34 l0_3 x6_2).f5) = 0 then (if x6_2 > 0 then (if x6_2 ≤ a0_0 then (if t224 = true then (if x6_2 > a0_0 then (if 0 ≤ (wrap64 (x6_2 - a0_0)) then (if (wrap64 (x6_2 - a0_0)) < (l0_3.length : Int) then (haulierref05_May.j2 k2 x6_2 (((rd_T34 l0_3 x6_2).f2) != (wrap64 (-((rd_T34 l0_3 (wrap64 (x6_2 - a0_0))).f2)))) a0_0 a0_1 a0_2 l0_3) else (none)) else (none)) else (haulierref05_May.j2 k2 x6_2 false a0_0 a0_1 a0_2 l0_3)) else (haulierref05_May.j2 k2 x6_2 true a0_0 a0_1 a0_2 l0_3)) else (if x6_2 > a0_0 then (if 0 ≤ (wrap64 (x6_2 - a0_0)) then (if (wrap64 (x6_2 - a0_0)) < (l0_3.length : Int) then (haulierref05_May.j2 k2 x6_2 (((rd_T34 l0_3 x6_2).f2) != (wrap64 (-((rd_T34 l0_3 (wrap64 (x6_2 - a0_0))).f2)))) a0_0 a0_1 a0_2 l0_3) else (none)) else (none)) else (haulierref05_May.j2 k2 x6_2 false a0_0 a0_1 a0_2 l0_3))) else (if x6_2 > a0_0 then (if 0 ≤ (wrap64 (x6_2 - a0_0)) then (if (wrap64 (x6_2 - a0_0)) < (l0_3.length : Int) then (haulierref05_May.j2 k2 x6_2 (((rd_T34 l0_3 x6_2).f2) != (wrap64 (-((rd_T34 l0_3 (wrap64 (x6_2 - a0_0))).f2)))) a0_0 a0_1 a0_2 l0_3) else (none)) else (none)) else (haulierref05_May.j2 k2 x6_2 false a0_0 a0_1 a0_2 l0_3))) else (haulierref05_May.j2 k2 x6_2 true a0_0 a0_1 a0_2 l0_3)) else (haulierref05_May.j2 k2 x6_2 true a0_0 a0_1 a0_2 l0_3)) else (if x6_2 > 0 then (if x6_2 ≤ a0_0 then (if t224 = true then (if x6_2 > a0_0 then (if 0 ≤ (wrap64 (x6_2 - a0_0)) then (if (wrap64 (x6_2 - a0_0)) < (l0_3.length : Int) then (haulierref05_May.j2 k2 x6_2 (((rd_T34 l0_3 x6_2).f2) != (wrap64 (-((rd_T34 l0_3 (wrap64 (x6_2 - a0_0))).f2)))) a0_0 a0_1 a0_2 l0_3) else (none)) else (none)) else (haulierref05_May.j2 k2 x6_2 false a0_0 a0_1 a0_2 l0_3)) else (haulierref05_May.j2 k2 x6_2 true a0_0 a0_1 a0_2 l0_3)) else (if x6_2 > a0_0 then (if 0 ≤ (wrap64 (x6_2 - a0_0)) then (if (wrap64 (x6_2 - a0_0)) < (l0_3.length : Int) then (haulierref05_May.j2 k2 x6_2 (((rd_T34 l0_3 x6_2).f2) != (wrap64 (-((rd_T34 l0_3 (wrap64 (x6_2 - a0_0))).f2)))) a0_0 a0_1 a0_2 l0_3) else (none)) else (none)) else (haulierref05_May.j2 k2 x6_2 false a0_0 a0_1 a0_2 l0_3))) else (if x6_2 > a0_0 then (if 0 ≤ (wrap64 (x6_2 - a0_0)) then (if (wrap64 (x6_2 - a0_0)) < (l0_3.length : Int) then (haulierref05_May.j2 k2 x6_2 (((rd_T34 l0_3 x6_2).f2) != (wrap64 (-((rd_T34 l0_3 (wrap64 (x6_2 - a0_0))).f2)))) a0_0 a0_1 a0_2 l0_3) else (none)) else (none)) else (haulierref05_May.j2 k2 x6_2 false a0_0 a0_1 a0_2 l0_3)))) else (haulierref05_May.j2 k2 x6_2 true a0_0 a0_1 a0_2 l0_3)) = some r := H
        have A16 := zqi A160
        clear A160
        have HC17 := zqi H
        clear H
        have hcz18_0 : wr.cell? ⟨gb217, 0, none⟩ = some (.int .i64 a0_0) := (zqe BK217.out 0).trans rfl
        have hcz18_1 : wr.cell? ⟨gb217, 1, none⟩ = some (.int .i64 a0_1) := (zqe BK217.out 1).trans rfl
        have hcz18_2 : wr.cell? ⟨gb217, 2, none⟩ = some (.int .i64 a0_2) := (zqe BK217.out 2).trans rfl
        have hcz18_3 : wr.cell? ⟨gb217, 3, none⟩ = some (.slice A0_3 l0_3.length c0_3) := (zqe BK217.out 3).trans rfl
        have hfz18_0 := zqd BK217.out 0
        have hfz18_1 := zqd BK217.out 1
        have hfz18_2 := zqd BK217.out 2
        have hfz18_3 := zqd BK217.out 3
        have p221 : 0 ≤ (x6_2 : Int) := of_decide_eq_true (by first | (with_reducible assumption) | assumption)
        have q221 : x6_2 < (l0_3.length : Int) := of_decide_eq_true (by first | (with_reducible assumption) | assumption)
        obtain ⟨ad221, e221, hx221_0, hx221_1, hx221_2, hx221_3, hx221_4, hx221_5⟩ := at_T34 HR0_3.out x6_2 p221 q221
        cases e221
        replace hx221_0 := (HB.out.cell (World.block_lt_of_cell? w _ hx221_0)).trans hx221_0
        replace hx221_1 := (HB.out.cell (World.block_lt_of_cell? w _ hx221_1)).trans hx221_1
        replace hx221_2 := (HB.out.cell (World.block_lt_of_cell? w _ hx221_2)).trans hx221_2
        replace hx221_3 := (HB.out.cell (World.block_lt_of_cell? w _ hx221_3)).trans hx221_3
        replace hx221_4 := (HB.out.cell (World.block_lt_of_cell? w _ hx221_4)).trans hx221_4
        replace hx221_5 := (HB.out.cell (World.block_lt_of_cell? w _ hx221_5)).trans hx221_5
        replace p221 := eq_true p221
        replace q221 := eq_true q221
        go_upto_region 12 with (first | ((with_reducible refine gate_dst (N := 7) rfl ?_); (try (refine gate_guard (by rfl) ?_; dsimp only)); refine box_event ?hg (N := 7) ?hd (cs := #[.int .i64 0, .int .i64 0, .int .i64 0, .int .i64 0, .int .i64 0, .int .i64 0]) (t := 34) ?hr ?_; (case hd => rfl); (case hg => rfl); (case hr => first | (go_simp; done) | (go_simp; rfl)); intro gb222 hg w19 hbox hb; have n0_ := zqi (blk_below (g := gb217) (o := .cells #[.int .i64 a0_0, .int .i64 a0_1, .int .i64 a0_2, .slice (some ad221) l0_3.length c0_3] 26 (0, 0)) (by (with_reducible repeat (first | apply zqa | apply zqb | apply zqc)); exact BK217.out) hb); have n1_ := zqi (below_step (by repeat (first | (with_reducible first | exact HB.out | apply zqg | apply zqf | apply zqh | refine below_set ?_ GE217.out) | exact HB.out)) hb); have n2_ := zqi (hbox); have n3_ := zqi ((by rw [hg]; exact (below_size (by repeat (first | (with_reducible first | exact HB.out | apply zqg | apply zqf | apply zqh | refine below_set ?_ GE217.out) | exact HB.out))) : w.heap.size ≤ gb222)); have n4_ := zqi ((by rw [hg]; exact (below_size (by repeat (first | (with_reducible first | exact HB.out | apply zqg | apply zqf | apply zqh | refine below_set ?_ GE217.out) | exact HB.out))) : w.heap.size ≤ gb222)); have n5_ := zqi ((by rw [hg]; exact Nat.ne_of_lt (blk_lt (g := gb217) (o := .cells #[.int .i64 a0_0, .int .i64 a0_1, .int .i64 a0_2, .slice (some ad221) l0_3.length c0_3] 26 (0, 0)) (by (with_reducible repeat (first | apply zqa | apply zqb | apply zqc)); exact BK217.out)) : gb217 ≠ gb222)); have n6_ := zqi ((by rw [hg]; exact Nat.ne_of_gt (blk_lt (g := gb217) (o := .cells #[.int .i64 a0_0, .int .i64 a0_1, .int .i64 a0_2, .slice (some ad221) l0_3.length c0_3] 26 (0, 0)) (by (with_reducible repeat (first | apply zqa | apply zqb | apply zqc)); exact BK217.out)) : gb222 ≠ gb217)); clear BK217; clear HB; have BK217 := n0_; have HB := n1_; have BK222 := n2_; have GW222 := n3_; have GE222 := n4_; have NB217_222 := n5_; have NB222_217 := n6_; clear n0_ n1_ n2_ n3_ n4_ n5_ n6_; clear hb hbox hg; have hnb20 := NB222_217.out; have hnc20 := NB217_222.out; have hcz21_0 : w19.cell? ⟨gb222, 0, none⟩ = some (.int .i64 0) := (zqe BK222.out 0).trans rfl; have hcz21_1 : w19.cell? ⟨gb222, 1, none⟩ = some (.int .i64 0) := (zqe BK222.out 1).trans rfl; have hcz21_2 : w19.cell? ⟨gb222, 2, none⟩ = some (.int .i64 0) := (zqe BK222.out 2).trans rfl; have hcz21_3 : w19.cell? ⟨gb222, 3, none⟩ = some (.int .i64 0) := (zqe BK222.out 3).trans rfl; have hcz21_4 : w19.cell? ⟨gb222, 4, none⟩ = some (.int .i64 0) := (zqe BK222.out 4).trans rfl; have hcz21_5 : w19.cell? ⟨gb222, 5, none⟩ = some (.int .i64 0) := (zqe BK222.out 5).trans rfl; have hfz21_0 := zqd BK222.out 0; have hfz21_1 := zqd BK222.out 1; have hfz21_2 := zqd BK222.out 2; have hfz21_3 := zqd BK222.out 3; have hfz21_4 := zqd BK222.out 4; have hfz21_5 := zqd BK222.out 5) | (go_at_call 29; (with_reducible refine (haulierref05_stop.calls ((rd_T34 l0_3 x6_2).f0) ((rd_T34 l0_3 x6_2).f1) ((rd_T34 l0_3 x6_2).f2) ((rd_T34 l0_3 x6_2).f3) ((rd_T34 l0_3 x6_2).f4) ((rd_T34 l0_3 x6_2).f5) t223 _ A15.out).mono ?_); rintro e w22 ⟨rfl, hb⟩; have n0_ := zqi (blk_below (g := gb217) (o := .cells #[.int .i64 a0_0, .int .i64 a0_1, .int .i64 a0_2, .slice (some ad221) l0_3.length c0_3] 26 (0, 0)) (by (with_reducible repeat (first | apply zqa | apply zqb | apply zqc)); refine blk_far ?_ NB217_222.out _; (with_reducible repeat (first | apply zqa | apply zqb | apply zqc)); refine blk_far ?_ NB217_222.out _; (with_reducible repeat (first | apply zqa | apply zqb | apply zqc)); refine blk_far ?_ NB217_222.out _; (with_reducible repeat (first | apply zqa | apply zqb | apply zqc)); refine blk_far ?_ NB217_222.out _; (with_reducible repeat (first | apply zqa | apply zqb | apply zqc)); refine blk_far ?_ NB217_222.out _; (with_reducible repeat (first | apply zqa | apply zqb | apply zqc)); refine blk_far ?_ NB217_222.out _; (with_reducible repeat (first | apply zqa | apply zqb | apply zqc)); exact BK217.out) hb); have n1_ := zqi (blk_below (g := gb222) (o := .cells #[.int .i64 ((rd_T34 l0_3 x6_2).f0), .int .i64 ((rd_T34 l0_3 x6_2).f1), .int .i64 ((rd_T34 l0_3 x6_2).f2), .int .i64 ((rd_T34 l0_3 x6_2).f3), .int .i64 ((rd_T34 l0_3 x6_2).f4), .int .i64 ((rd_T34 l0_3 x6_2).f5)] 34 (0, 0)) (by (with_reducible repeat (first | apply zqa | apply zqb | apply zqc)); refine blk_put (cs := #[.int .i64 ((rd_T34 l0_3 x6_2).f0), .int .i64 ((rd_T34 l0_3 x6_2).f1), .int .i64 ((rd_T34 l0_3 x6_2).f2), .int .i64 ((rd_T34 l0_3 x6_2).f3), .int .i64 ((rd_T34 l0_3 x6_2).f4), .int .i64 0]) ?_ 5 _ rfl; (with_reducible repeat (first | apply zqa | apply zqb | apply zqc)); refine blk_put (cs := #[.int .i64 ((rd_T34 l0_3 x6_2).f0), .int .i64 ((rd_T34 l0_3 x6_2).f1), .int .i64 ((rd_T34 l0_3 x6_2).f2), .int .i64 ((rd_T34 l0_3 x6_2).f3), .int .i64 0, .int .i64 0]) ?_ 4 _ rfl; (with_reducible repeat (first | apply zqa | apply zqb | apply zqc)); refine blk_put (cs := #[.int .i64 ((rd_T34 l0_3 x6_2).f0), .int .i64 ((rd_T34 l0_3 x6_2).f1), .int .i64 ((rd_T34 l0_3 x6_2).f2), .int .i64 0, .int .i64 0, .int .i64 0]) ?_ 3 _ rfl; (with_reducible repeat (first | apply zqa | apply zqb | apply zqc)); refine blk_put (cs := #[.int .i64 ((rd_T34 l0_3 x6_2).f0), .int .i64 ((rd_T34 l0_3 x6_2).f1), .int .i64 0, .int .i64 0, .int .i64 0, .int .i64 0]) ?_ 2 _ rfl; (with_reducible repeat (first | apply zqa | apply zqb | apply zqc)); refine blk_put (cs := #[.int .i64 ((rd_T34 l0_3 x6_2).f0), .int .i64 0, .int .i64 0, .int .i64 0, .int .i64 0, .int .i64 0]) ?_ 1 _ rfl; (with_reducible repeat (first | apply zqa | apply zqb | apply zqc)); refine blk_put (cs := #[.int .i64 0, .int .i64 0, .int .i64 0, .int .i64 0, .int .i64 0, .int .i64 0]) ?_ 0 _ rfl; (with_reducible repeat (first | apply zqa | apply zqb | apply zqc)); exact BK222.out) hb); have n2_ := zqi (below_step (by repeat (first | (with_reducible first | exact HB.out | apply zqg | apply zqf | apply zqh | refine below_set ?_ GE217.out | refine below_set ?_ GE222.out) | exact HB.out)) hb); clear BK217; clear BK222; clear HB; have BK217 := n0_; have BK222 := n1_; have HB := n2_; clear n0_ n1_ n2_; (try clear hb); (try clear hb2); (try clear hk); (try clear hi); have hcz23_0 : w22.cell? ⟨gb222, 0, none⟩ = some (.int .i64 ((rd_T34 l0_3 x6_2).f0)) := (zqe BK222.out 0).trans rfl; have hcz23_1 : w22.cell? ⟨gb222, 1, none⟩ = some (.int .i64 ((rd_T34 l0_3 x6_2).f1)) := (zqe BK222.out 1).trans rfl; have hcz23_2 : w22.cell? ⟨gb222, 2, none⟩ = some (.int .i64 ((rd_T34 l0_3 x6_2).f2)) := (zqe BK222.out 2).trans rfl; have hcz23_3 : w22.cell? ⟨gb222, 3, none⟩ = some (.int .i64 ((rd_T34 l0_3 x6_2).f3)) := (zqe BK222.out 3).trans rfl; have hcz23_4 : w22.cell? ⟨gb222, 4, none⟩ = some (.int .i64 ((rd_T34 l0_3 x6_2).f4)) := (zqe BK222.out 4).trans rfl; have hcz23_5 : w22.cell? ⟨gb222, 5, none⟩ = some (.int .i64 ((rd_T34 l0_3 x6_2).f5)) := (zqe BK222.out 5).trans rfl; have hfz23_0 := zqd BK222.out 0; have hfz23_1 := zqd BK222.out 1; have hfz23_2 := zqd BK222.out 2; have hfz23_3 := zqd BK222.out 3; have hfz23_4 := zqd BK222.out 4; have hfz23_5 := zqd BK222.out 5) | (go_at_call 28; (with_reducible refine (haulierref05_in.calls ((rd_T34 l0_3 x6_2).f2) 1 1000 t224 _ A16.out).mono ?_); rintro e w' ⟨rfl, ⟨nd, rfl⟩⟩; (try first | exact ⟨rfl, _, zqj⟩ | exact ⟨rfl, _, Eq.trans (zqj) (congrArg (World.drewN _) (Nat.add_assoc _ _ _))⟩)))
        repeat (go_quiet (first | ((with_reducible refine gate_dst (N := 7) rfl ?_); (try (refine gate_guard (by rfl) ?_; dsimp only)); refine box_event ?hg (N := 7) ?hd (cs := #[.int .i64 0, .int .i64 0, .int .i64 0, .int .i64 0, .int .i64 0, .int .i64 0]) (t := 34) ?hr ?_; (case hd => rfl); (case hg => rfl); (case hr => first | (go_simp; done) | (go_simp; rfl)); intro gb222 hg w19 hbox hb; have n0_ := zqi (blk_below (g := gb217) (o := .cells #[.int .i64 a0_0, .int .i64 a0_1, .int .i64 a0_2, .slice (some ad221) l0_3.length c0_3] 26 (0, 0)) (by (with_reducible repeat (first | apply zqa | apply zqb | apply zqc)); exact BK217.out) hb); have n1_ := zqi (below_step (by repeat (first | (with_reducible first | exact HB.out | apply zqg | apply zqf | apply zqh | refine below_set ?_ GE217.out) | exact HB.out)) hb); have n2_ := zqi (hbox); have n3_ := zqi ((by rw [hg]; exact (below_size (by repeat (first | (with_reducible first | exact HB.out | apply zqg | apply zqf | apply zqh | refine below_set ?_ GE217.out) | exact HB.out))) : w.heap.size ≤ gb222)); have n4_ := zqi ((by rw [hg]; exact (below_size (by repeat (first | (with_reducible first | exact HB.out | apply zqg | apply zqf | apply zqh | refine below_set ?_ GE217.out) | exact HB.out))) : w.heap.size ≤ gb222)); have n5_ := zqi ((by rw [hg]; exact Nat.ne_of_lt (blk_lt (g := gb217) (o := .cells #[.int .i64 a0_0, .int .i64 a0_1, .int .i64 a0_2, .slice (some ad221) l0_3.length c0_3] 26 (0, 0)) (by (with_reducible repeat (first | apply zqa | apply zqb | apply zqc)); exact BK217.out)) : gb217 ≠ gb222)); have n6_ := zqi ((by rw [hg]; exact Nat.ne_of_gt (blk_lt (g := gb217) (o := .cells #[.int .i64 a0_0, .int .i64 a0_1, .int .i64 a0_2, .slice (some ad221) l0_3.length c0_3] 26 (0, 0)) (by (with_reducible repeat (first | apply zqa | apply zqb | apply zqc)); exact BK217.out)) : gb222 ≠ gb217)); clear BK217; clear HB; have BK217 := n0_; have HB := n1_; have BK222 := n2_; have GW222 := n3_; have GE222 := n4_; have NB217_222 := n5_; have NB222_217 := n6_; clear n0_ n1_ n2_ n3_ n4_ n5_ n6_; clear hb hbox hg; have hnb20 := NB222_217.out; have hnc20 := NB217_222.out; have hcz21_0 : w19.cell? ⟨gb222, 0, none⟩ = some (.int .i64 0) := (zqe BK222.out 0).trans rfl; have hcz21_1 : w19.cell? ⟨gb222, 1, none⟩ = some (.int .i64 0) := (zqe BK222.out 1).trans rfl; have hcz21_2 : w19.cell? ⟨gb222, 2, none⟩ = some (.int .i64 0) := (zqe BK222.out 2).trans rfl; have hcz21_3 : w19.cell? ⟨gb222, 3, none⟩ = some (.int .i64 0) := (zqe BK222.out 3).trans rfl; have hcz21_4 : w19.cell? ⟨gb222, 4, none⟩ = some (.int .i64 0) := (zqe BK222.out 4).trans rfl; have hcz21_5 : w19.cell? ⟨gb222, 5, none⟩ = some (.int .i64 0) := (zqe BK222.out 5).trans rfl; have hfz21_0 := zqd BK222.out 0; have hfz21_1 := zqd BK222.out 1; have hfz21_2 := zqd BK222.out 2; have hfz21_3 := zqd BK222.out 3; have hfz21_4 := zqd BK222.out 4; have hfz21_5 := zqd BK222.out 5) | (go_at_call 29; (with_reducible refine (haulierref05_stop.calls ((rd_T34 l0_3 x6_2).f0) ((rd_T34 l0_3 x6_2).f1) ((rd_T34 l0_3 x6_2).f2) ((rd_T34 l0_3 x6_2).f3) ((rd_T34 l0_3 x6_2).f4) ((rd_T34 l0_3 x6_2).f5) t223 _ A15.out).mono ?_); rintro e w22 ⟨rfl, hb⟩; have n0_ := zqi (blk_below (g := gb217) (o := .cells #[.int .i64 a0_0, .int .i64 a0_1, .int .i64 a0_2, .slice (some ad221) l0_3.length c0_3] 26 (0, 0)) (by (with_reducible repeat (first | apply zqa | apply zqb | apply zqc)); refine blk_far ?_ NB217_222.out _; (with_reducible repeat (first | apply zqa | apply zqb | apply zqc)); refine blk_far ?_ NB217_222.out _; (with_reducible repeat (first | apply zqa | apply zqb | apply zqc)); refine blk_far ?_ NB217_222.out _; (with_reducible repeat (first | apply zqa | apply zqb | apply zqc)); refine blk_far ?_ NB217_222.out _; (with_reducible repeat (first | apply zqa | apply zqb | apply zqc)); refine blk_far ?_ NB217_222.out _; (with_reducible repeat (first | apply zqa | apply zqb | apply zqc)); refine blk_far ?_ NB217_222.out _; (with_reducible repeat (first | apply zqa | apply zqb | apply zqc)); exact BK217.out) hb); have n1_ := zqi (blk_below (g := gb222) (o := .cells #[.int .i64 ((rd_T34 l0_3 x6_2).f0), .int .i64 ((rd_T34 l0_3 x6_2).f1), .int .i64 ((rd_T34 l0_3 x6_2).f2), .int .i64 ((rd_T34 l0_3 x6_2).f3), .int .i64 ((rd_T34 l0_3 x6_2).f4), .int .i64 ((rd_T34 l0_3 x6_2).f5)] 34 (0, 0)) (by (with_reducible repeat (first | apply zqa | apply zqb | apply zqc)); refine blk_put (cs := #[.int .i64 ((rd_T34 l0_3 x6_2).f0), .int .i64 ((rd_T34 l0_3 x6_2).f1), .int .i64 ((rd_T34 l0_3 x6_2).f2), .int .i64 ((rd_T34 l0_3 x6_2).f3), .int .i64 ((rd_T34 l0_3 x6_2).f4), .int .i64 0]) ?_ 5 _ rfl; (with_reducible repeat (first | apply zqa | apply zqb | apply zqc)); refine blk_put (cs := #[.int .i64 ((rd_T34 l0_3 x6_2).f0), .int .i64 ((rd_T34 l0_3 x6_2).f1), .int .i64 ((rd_T34 l0_3 x6_2).f2), .int .i64 ((rd_T34 l0_3 x6_2).f3), .int .i64 0, .int .i64 0]) ?_ 4 _ rfl; (with_reducible repeat (first | apply zqa | apply zqb | apply zqc)); refine blk_put (cs := #[.int .i64 ((rd_T34 l0_3 x6_2).f0), .int .i64 ((rd_T34 l0_3 x6_2).f1), .int .i64 ((rd_T34 l0_3 x6_2).f2), .int .i64 0, .int .i64 0, .int .i64 0]) ?_ 3 _ rfl; (with_reducible repeat (first | apply zqa | apply zqb | apply zqc)); refine blk_put (cs := #[.int .i64 ((rd_T34 l0_3 x6_2).f0), .int .i64 ((rd_T34 l0_3 x6_2).f1), .int .i64 0, .int .i64 0, .int .i64 0, .int .i64 0]) ?_ 2 _ rfl; (with_reducible repeat (first | apply zqa | apply zqb | apply zqc)); refine blk_put (cs := #[.int .i64 ((rd_T34 l0_3 x6_2).f0), .int .i64 0, .int .i64 0, .int .i64 0, .int .i64 0, .int .i64 0]) ?_ 1 _ rfl; (with_reducible repeat (first | apply zqa | apply zqb | apply zqc)); refine blk_put (cs := #[.int .i64 0, .int .i64 0, .int .i64 0, .int .i64 0, .int .i64 0, .int .i64 0]) ?_ 0 _ rfl; (with_reducible repeat (first | apply zqa | apply zqb | apply zqc)); exact BK222.out) hb); have n2_ := zqi (below_step (by repeat (first | (with_reducible first | exact HB.out | apply zqg | apply zqf | apply zqh | refine below_set ?_ GE217.out | refine below_set ?_ GE222.out) | exact HB.out)) hb); clear BK217; clear BK222; clear HB; have BK217 := n0_; have BK222 := n1_; have HB := n2_; clear n0_ n1_ n2_; (try clear hb); (try clear hb2); (try clear hk); (try clear hi); have hcz23_0 : w22.cell? ⟨gb222, 0, none⟩ = some (.int .i64 ((rd_T34 l0_3 x6_2).f0)) := (zqe BK222.out 0).trans rfl; have hcz23_1 : w22.cell? ⟨gb222, 1, none⟩ = some (.int .i64 ((rd_T34 l0_3 x6_2).f1)) := (zqe BK222.out 1).trans rfl; have hcz23_2 : w22.cell? ⟨gb222, 2, none⟩ = some (.int .i64 ((rd_T34 l0_3 x6_2).f2)) := (zqe BK222.out 2).trans rfl; have hcz23_3 : w22.cell? ⟨gb222, 3, none⟩ = some (.int .i64 ((rd_T34 l0_3 x6_2).f3)) := (zqe BK222.out 3).trans rfl; have hcz23_4 : w22.cell? ⟨gb222, 4, none⟩ = some (.int .i64 ((rd_T34 l0_3 x6_2).f4)) := (zqe BK222.out 4).trans rfl; have hcz23_5 : w22.cell? ⟨gb222, 5, none⟩ = some (.int .i64 ((rd_T34 l0_3 x6_2).f5)) := (zqe BK222.out 5).trans rfl; have hfz23_0 := zqd BK222.out 0; have hfz23_1 := zqd BK222.out 1; have hfz23_2 := zqd BK222.out 2; have hfz23_3 := zqd BK222.out 3; have hfz23_4 := zqd BK222.out 4; have hfz23_5 := zqd BK222.out 5) | (go_at_call 28; (with_reducible refine (haulierref05_in.calls ((rd_T34 l0_3 x6_2).f2) 1 1000 t224 _ A16.out).mono ?_); rintro e w' ⟨rfl, ⟨nd, rfl⟩⟩; (try first | exact ⟨rfl, _, zqj⟩ | exact ⟨rfl, _, Eq.trans (zqj) (congrArg (World.drewN _) (Nat.add_assoc _ _ _))⟩))); go_upto_region 12 with (first | ((with_reducible refine gate_dst (N := 7) rfl ?_); (try (refine gate_guard (by rfl) ?_; dsimp only)); refine box_event ?hg (N := 7) ?hd (cs := #[.int .i64 0, .int .i64 0, .int .i64 0, .int .i64 0, .int .i64 0, .int .i64 0]) (t := 34) ?hr ?_; (case hd => rfl); (case hg => rfl); (case hr => first | (go_simp; done) | (go_simp; rfl)); intro gb222 hg w19 hbox hb; have n0_ := zqi (blk_below (g := gb217) (o := .cells #[.int .i64 a0_0, .int .i64 a0_1, .int .i64 a0_2, .slice (some ad221) l0_3.length c0_3] 26 (0, 0)) (by (with_reducible repeat (first | apply zqa | apply zqb | apply zqc)); exact BK217.out) hb); have n1_ := zqi (below_step (by repeat (first | (with_reducible first | exact HB.out | apply zqg | apply zqf | apply zqh | refine below_set ?_ GE217.out) | exact HB.out)) hb); have n2_ := zqi (hbox); have n3_ := zqi ((by rw [hg]; exact (below_size (by repeat (first | (with_reducible first | exact HB.out | apply zqg | apply zqf | apply zqh | refine below_set ?_ GE217.out) | exact HB.out))) : w.heap.size ≤ gb222)); have n4_ := zqi ((by rw [hg]; exact (below_size (by repeat (first | (with_reducible first | exact HB.out | apply zqg | apply zqf | apply zqh | refine below_set ?_ GE217.out) | exact HB.out))) : w.heap.size ≤ gb222)); have n5_ := zqi ((by rw [hg]; exact Nat.ne_of_lt (blk_lt (g := gb217) (o := .cells #[.int .i64 a0_0, .int .i64 a0_1, .int .i64 a0_2, .slice (some ad221) l0_3.length c0_3] 26 (0, 0)) (by (with_reducible repeat (first | apply zqa | apply zqb | apply zqc)); exact BK217.out)) : gb217 ≠ gb222)); have n6_ := zqi ((by rw [hg]; exact Nat.ne_of_gt (blk_lt (g := gb217) (o := .cells #[.int .i64 a0_0, .int .i64 a0_1, .int .i64 a0_2, .slice (some ad221) l0_3.length c0_3] 26 (0, 0)) (by (with_reducible repeat (first | apply zqa | apply zqb | apply zqc)); exact BK217.out)) : gb222 ≠ gb217)); clear BK217; clear HB; have BK217 := n0_; have HB := n1_; have BK222 := n2_; have GW222 := n3_; have GE222 := n4_; have NB217_222 := n5_; have NB222_217 := n6_; clear n0_ n1_ n2_ n3_ n4_ n5_ n6_; clear hb hbox hg; have hnb20 := NB222_217.out; have hnc20 := NB217_222.out; have hcz21_0 : w19.cell? ⟨gb222, 0, none⟩ = some (.int .i64 0) := (zqe BK222.out 0).trans rfl; have hcz21_1 : w19.cell? ⟨gb222, 1, none⟩ = some (.int .i64 0) := (zqe BK222.out 1).trans rfl; have hcz21_2 : w19.cell? ⟨gb222, 2, none⟩ = some (.int .i64 0) := (zqe BK222.out 2).trans rfl; have hcz21_3 : w19.cell? ⟨gb222, 3, none⟩ = some (.int .i64 0) := (zqe BK222.out 3).trans rfl; have hcz21_4 : w19.cell? ⟨gb222, 4, none⟩ = some (.int .i64 0) := (zqe BK222.out 4).trans rfl; have hcz21_5 : w19.cell? ⟨gb222, 5, none⟩ = some (.int .i64 0) := (zqe BK222.out 5).trans rfl; have hfz21_0 := zqd BK222.out 0; have hfz21_1 := zqd BK222.out 1; have hfz21_2 := zqd BK222.out 2; have hfz21_3 := zqd BK222.out 3; have hfz21_4 := zqd BK222.out 4; have hfz21_5 := zqd BK222.out 5) | (go_at_call 29; (with_reducible refine (haulierref05_stop.calls ((rd_T34 l0_3 x6_2).f0) ((rd_T34 l0_3 x6_2).f1) ((rd_T34 l0_3 x6_2).f2) ((rd_T34 l0_3 x6_2).f3) ((rd_T34 l0_3 x6_2).f4) ((rd_T34 l0_3 x6_2).f5) t223 _ A15.out).mono ?_); rintro e w22 ⟨rfl, hb⟩; have n0_ := zqi (blk_below (g := gb217) (o := .cells #[.int .i64 a0_0, .int .i64 a0_1, .int .i64 a0_2, .slice (some ad221) l0_3.length c0_3] 26 (0, 0)) (by (with_reducible repeat (first | apply zqa | apply zqb | apply zqc)); refine blk_far ?_ NB217_222.out _; (with_reducible repeat (first | apply zqa | apply zqb | apply zqc)); refine blk_far ?_ NB217_222.out _; (with_reducible repeat (first | apply zqa | apply zqb | apply zqc)); refine blk_far ?_ NB217_222.out _; (with_reducible repeat (first | apply zqa | apply zqb | apply zqc)); refine blk_far ?_ NB217_222.out _; (with_reducible repeat (first | apply zqa | apply zqb | apply zqc)); refine blk_far ?_ NB217_222.out _; (with_reducible repeat (first | apply zqa | apply zqb | apply zqc)); refine blk_far ?_ NB217_222.out _; (with_reducible repeat (first | apply zqa | apply zqb | apply zqc)); exact BK217.out) hb); have n1_ := zqi (blk_below (g := gb222) (o := .cells #[.int .i64 ((rd_T34 l0_3 x6_2).f0), .int .i64 ((rd_T34 l0_3 x6_2).f1), .int .i64 ((rd_T34 l0_3 x6_2).f2), .int .i64 ((rd_T34 l0_3 x6_2).f3), .int .i64 ((rd_T34 l0_3 x6_2).f4), .int .i64 ((rd_T34 l0_3 x6_2).f5)] 34 (0, 0)) (by (with_reducible repeat (first | apply zqa | apply zqb | apply zqc)); refine blk_put (cs := #[.int .i64 ((rd_T34 l0_3 x6_2).f0), .int .i64 ((rd_T34 l0_3 x6_2).f1), .int .i64 ((rd_T34 l0_3 x6_2).f2), .int .i64 ((rd_T34 l0_3 x6_2).f3), .int .i64 ((rd_T34 l0_3 x6_2).f4), .int .i64 0]) ?_ 5 _ rfl; (with_reducible repeat (first | apply zqa | apply zqb | apply zqc)); refine blk_put (cs := #[.int .i64 ((rd_T34 l0_3 x6_2).f0), .int .i64 ((rd_T34 l0_3 x6_2).f1), .int .i64 ((rd_T34 l0_3 x6_2).f2), .int .i64 ((rd_T34 l0_3 x6_2).f3), .int .i64 0, .int .i64 0]) ?_ 4 _ rfl; (with_reducible repeat (first | apply zqa | apply zqb | apply zqc)); refine blk_put (cs := #[.int .i64 ((rd_T34 l0_3 x6_2).f0), .int .i64 ((rd_T34 l0_3 x6_2).f1), .int .i64 ((rd_T34 l0_3 x6_2).f2), .int .i64 0, .int .i64 0, .int .i64 0]) ?_ 3 _ rfl; (with_reducible repeat (first | apply zqa | apply zqb | apply zqc)); refine blk_put (cs := #[.int .i64 ((rd_T34 l0_3 x6_2).f0), .int .i64 ((rd_T34 l0_3 x6_2).f1), .int .i64 0, .int .i64 0, .int .i64 0, .int .i64 0]) ?_ 2 _ rfl; (with_reducible repeat (first | apply zqa | apply zqb | apply zqc)); refine blk_put (cs := #[.int .i64 ((rd_T34 l0_3 x6_2).f0), .int .i64 0, .int .i64 0, .int .i64 0, .int .i64 0, .int .i64 0]) ?_ 1 _ rfl; (with_reducible repeat (first | apply zqa | apply zqb | apply zqc)); refine blk_put (cs := #[.int .i64 0, .int .i64 0, .int .i64 0, .int .i64 0, .int .i64 0, .int .i64 0]) ?_ 0 _ rfl; (with_reducible repeat (first | apply zqa | apply zqb | apply zqc)); exact BK222.out) hb); have n2_ := zqi (below_step (by repeat (first | (with_reducible first | exact HB.out | apply zqg | apply zqf | apply zqh | refine below_set ?_ GE217.out | refine below_set ?_ GE222.out) | exact HB.out)) hb); clear BK217; clear BK222; clear HB; have BK217 := n0_; have BK222 := n1_; have HB := n2_; clear n0_ n1_ n2_; (try clear hb); (try clear hb2); (try clear hk); (try clear hi); have hcz23_0 : w22.cell? ⟨gb222, 0, none⟩ = some (.int .i64 ((rd_T34 l0_3 x6_2).f0)) := (zqe BK222.out 0).trans rfl; have hcz23_1 : w22.cell? ⟨gb222, 1, none⟩ = some (.int .i64 ((rd_T34 l0_3 x6_2).f1)) := (zqe BK222.out 1).trans rfl; have hcz23_2 : w22.cell? ⟨gb222, 2, none⟩ = some (.int .i64 ((rd_T34 l0_3 x6_2).f2)) := (zqe BK222.out 2).trans rfl; have hcz23_3 : w22.cell? ⟨gb222, 3, none⟩ = some (.int .i64 ((rd_T34 l0_3 x6_2).f3)) := (zqe BK222.out 3).trans rfl; have hcz23_4 : w22.cell? ⟨gb222, 4, none⟩ = some (.int .i64 ((rd_T34 l0_3 x6_2).f4)) := (zqe BK222.out 4).trans rfl; have hcz23_5 : w22.cell? ⟨gb222, 5, none⟩ = some (.int .i64 ((rd_T34 l0_3 x6_2).f5)) := (zqe BK222.out 5).trans rfl; have hfz23_0 := zqd BK222.out 0; have hfz23_1 := zqd BK222.out 1; have hfz23_2 := zqd BK222.out 2; have hfz23_3 := zqd BK222.out 3; have hfz23_4 := zqd BK222.out 4; have hfz23_5 := zqd BK222.out 5) | (go_at_call 28; (with_reducible refine (haulierref05_in.calls ((rd_T34 l0_3 x6_2).f2) 1 1000 t224 _ A16.out).mono ?_); rintro e w' ⟨rfl, ⟨nd, rfl⟩⟩; (try first | exact ⟨rfl, _, zqj⟩ | exact ⟨rfl, _, Eq.trans (zqj) (congrArg (World.drewN _) (Nat.add_assoc _ _ _))⟩))))
        (try simp only [Act.put, List.setIfInBounds_toArray, List.set_cons_zero, List.set_cons_succ])
        go_cut [106] (fun v106 wc => ∃ (kq : Nat) (x106_16 : Bool), v106 = .bool x106_16 ∧ Aside0 (haulierref05_May.j2 kq x6_2 x106_16 a0_0 a0_1 a0_2 l0_3 = some r) ∧ Aside0 (kq ≤ k2) ∧ Aside0 (wc.heap[gb217]? = some (.cells #[.int .i64 a0_0, .int .i64 a0_1, .int .i64 a0_2, (.slice (some ad221) l0_3.length c0_3)] 26 (0, 0))) ∧ Aside0 (wc.heap[gb222]? = some (.cells #[.int .i64 ((rd_T34 l0_3 x6_2).f0), .int .i64 ((rd_T34 l0_3 x6_2).f1), .int .i64 ((rd_T34 l0_3 x6_2).f2), .int .i64 ((rd_T34 l0_3 x6_2).f3), .int .i64 ((rd_T34 l0_3 x6_2).f4), .int .i64 ((rd_T34 l0_3 x6_2).f5)] 34 (0, 0))) ∧ Aside0 (Below w.heap.size w wc))
        case first =>
         have H := HC17.out
         clear HC17
         by_cases c24 : t223 = true
         ·
          subst c24
          have H1 : (if x6_2 = 0 then (if ((rd_T34 l0_3 x6_2).f2) = 0 then (if ((rd_T34 l0_3 x6_2).f5) = 0 then (if x6_2 > 0 then (if x6_2 ≤ a0_0 then (if t224 = true then (if x6_2 > a0_0 then (if 0 ≤ (wrap64 (x6_2 - a0_0)) then (if (wrap64 (x6_2 - a0_0)) < (l0_3.length : Int) then (haulierref05_May.j2 k2 x6_2 (((rd_T34 l0_3 x6_2).f2) != (wrap64 (-((rd_T34 l0_3 (wrap64 (x6_2 - a0_0))).f2)))) a0_0 a0_1 a0_2 l0_3) else (none)) else (none)) else (haulierref05_May.j2 k2 x6_2 false a0_0 a0_1 a0_2 l0_3)) else (haulierref05_May.j2 k2 x6_2 true a0_0 a0_1 a0_2 l0_3)) else (if x6_2 > a0_0 then (if 0 ≤ (wrap64 (x6_2 - a0_0)) then (if (wrap64 (x6_2 - a0_0)) < (l0_3.length : Int) then (haulierref05_May.j2 k2 x6_2 (((rd_T34 l0_3 x6_2).f2) != (wrap64 (-((rd_T34 l0_3 (wrap64 (x6_2 - a0_0))).f2)))) a0_0 a0_1 a0_2 l0_3) else (none)) else (none)) else (haulierref05_May.j2 k2 x6_2 false a0_0 a0_1 a0_2 l0_3))) else (if x6_2 > a0_0 then (if 0 ≤ (wrap64 (x6_2 - a0_0)) then (if (wrap64 (x6_2 - a0_0)) < (l0_3.length : Int) then (haulierref05_May.j2 k2 x6_2 (((rd_T34 l0_3 x6_2).f2) != (wrap64 (-((rd_T34 l0_3 (wrap64 (x6_2 - a0_0))).f2)))) a0_0 a0_1 a0_2 l0_3) else (none)) else (none)) else (haulierref05_May.j2 k2 x6_2 false a0_0 a0_1 a0_2 l0_3))) else (haulierref05_May.j2 k2 x6_2 true a0_0 a0_1 a0_2 l0_3)) else (haulierref05_May.j2 k2 x6_2 true a0_0 a0_1 a0_2 l0_3)) else (if x6_2 > 0 then (if x6_2 ≤ a0_0 then (if t224 = true then (if x6_2 > a0_0 then (if 0 ≤ (wrap64 (x6_2 - a0_0)) then (if (wrap64 (x6_2 - a0_0)) < (l0_3.length : Int) then (haulierref05_May.j2 k2 x6_2 (((rd_T34 l0_3 x6_2).f2) != (wrap64 (-((rd_T34 l0_3 (wrap64 (x6_2 - a0_0))).f2)))) a0_0 a0_1 a0_2 l0_3) else (none)) else (none)) else (haulierref05_May.j2 k2 x6_2 false a0_0 a0_1 a0_2 l0_3)) else (haulierref05_May.j2 k2 x6_2 true a0_0 a0_1 a0_2 l0_3)) else (if x6_2 > a0_0 then (if 0 ≤ (wrap64 (x6_2 - a0_0)) then (if (wrap64 (x6_2 - a0_0)) < (l0_3.length : Int) then (haulierref05_May.j2 k2 x6_2 (((rd_T34 l0_3 x6_2).f2) != (wrap64 (-((rd_T34 l0_3 (wrap64 (x6_2 - a0_0))).f2)))) a0_0 a0_1 a0_2 l0_3) else (none)) else (none)) else (haulierref05_May.j2 k2 x6_2 false a0_0 a0_1 a0_2 l0_3))) else (if x6_2 > a0_0 then (if 0 ≤ (wrap64 (x6_2 - a0_0)) then (if (wrap64 (x6_2 - a0_0)) < (l0_3.length : Int) then (haulierref05_May.j2 k2 x6_2 (((rd_T34 l0_3 x6_2).f2) != (wrap64 (-((rd_T34 l0_3 (wrap64 (x6_2 - a0_0))).f2)))) a0_0 a0_1 a0_2 l0_3) else (none)) else (none)) else (haulierref05_May.j2 k2 x6_2 false a0_0 a0_1 a0_2 l0_3)))) = some r := by rw [if_pos rfl] at H; exact H
          clear H
          have H := H1
          clear H1
          by_cases c25 : x6_2 = 0
          ·
           rw [if_pos c25] at H
           have c25b0 : (x6_2 == 0) = true := beq_iff_eq.mpr c25
           have c25b1 : (x6_2 != 0) = false := bne_eq_false_iff_eq.mpr c25
           clear c25
           (first | rw [c25b0] | (simp only [i64_w, i32_w]; rw [c25b0]) | skip)
           by_cases c26 : ((rd_T34 l0_3 x6_2).f2) = 0
           ·
            rw [if_pos c26] at H
            have c26b0 : (((rd_T34 l0_3 x6_2).f2) == 0) = true := beq_iff_eq.mpr c26
            have c26b1 : (((rd_T34 l0_3 x6_2).f2) != 0) = false := bne_eq_false_iff_eq.mpr c26
            clear c26
            by_cases c27 : ((rd_T34 l0_3 x6_2).f5) = 0
            ·
             rw [if_pos c27] at H
             have c27b0 : (((rd_T34 l0_3 x6_2).f5) == 0) = true := beq_iff_eq.mpr c27
             have c27b1 : (((rd_T34 l0_3 x6_2).f5) != 0) = false := bne_eq_false_iff_eq.mpr c27
             clear c27
             by_cases c28 : x6_2 > 0
             ·
              rw [if_pos c28] at H
              have c28b0 : decide (0 < x6_2) = true := decide_eq_true c28
              clear c28
              by_cases c29 : x6_2 ≤ a0_0
              ·
               rw [if_pos c29] at H
               have c29b0 : decide (x6_2 ≤ a0_0) = true := decide_eq_true c29
               clear c29
               by_cases c30 : t224 = true
               ·
                subst c30
                have H1 : (if x6_2 > a0_0 then (if 0 ≤ (wrap64 (x6_2 - a0_0)) then (if (wrap64 (x6_2 - a0_0)) < (l0_3.length : Int) then (haulierref05_May.j2 k2 x6_2 (((rd_T34 l0_3 x6_2).f2) != (wrap64 (-((rd_T34 l0_3 (wrap64 (x6_2 - a0_0))).f2)))) a0_0 a0_1 a0_2 l0_3) else (none)) else (none)) else (haulierref05_May.j2 k2 x6_2 false a0_0 a0_1 a0_2 l0_3)) = some r := by rw [if_pos rfl] at H; exact H
                clear H
                have H := H1
                clear H1
                by_cases c31 : x6_2 > a0_0
                ·
                 rw [if_pos c31] at H
                 have c31b0 : decide (a0_0 < x6_2) = true := decide_eq_true c31
                 clear c31
                 obtain ⟨ji32, hji32⟩ : ∃ j_ : Int, (wrap64 (x6_2 - a0_0)) = j_ := ⟨_, rfl⟩
                 replace H : (if 0 ≤ (ji32) then (if (ji32) < (l0_3.length : Int) then (haulierref05_May.j2 k2 x6_2 (((rd_T34 l0_3 x6_2).f2) != (wrap64 (-((rd_T34 l0_3 (ji32)).f2)))) a0_0 a0_1 a0_2 l0_3) else (none)) else (none)) = some r := by first | (rw [hji32] at H; exact H) | (simp only [hji32] at H ⊢; exact H)
                 have hji32w : (IntKind.i64.wrap (x6_2 - a0_0)) = ji32 := (i64_w _).trans hji32
                 by_cases c33 : 0 ≤ (ji32)
                 ·
                  rw [if_pos c33] at H
                  have c33b0 : decide (0 ≤ (ji32)) = true := decide_eq_true c33
                  clear c33
                  by_cases c34 : (ji32) < (l0_3.length : Int)
                  ·
                   rw [if_pos c34] at H
                   have c34b0 : decide ((ji32) < (l0_3.length : Int)) = true := decide_eq_true c34
                   clear c34
                   have H' := zqi H
                   clear H
                   have hnb35 := NB222_217.out
                   have hnc35 := NB217_222.out
                   have hcz36_0 : w22.cell? ⟨gb222, 0, none⟩ = some (.int .i64 ((rd_T34 l0_3 x6_2).f0)) := (zqe BK222.out 0).trans rfl
                   have hcz36_1 : w22.cell? ⟨gb222, 1, none⟩ = some (.int .i64 ((rd_T34 l0_3 x6_2).f1)) := (zqe BK222.out 1).trans rfl
                   have hcz36_2 : w22.cell? ⟨gb222, 2, none⟩ = some (.int .i64 ((rd_T34 l0_3 x6_2).f2)) := (zqe BK222.out 2).trans rfl
                   have hcz36_3 : w22.cell? ⟨gb222, 3, none⟩ = some (.int .i64 ((rd_T34 l0_3 x6_2).f3)) := (zqe BK222.out 3).trans rfl
                   have hcz36_4 : w22.cell? ⟨gb222, 4, none⟩ = some (.int .i64 ((rd_T34 l0_3 x6_2).f4)) := (zqe BK222.out 4).trans rfl
                   have hcz36_5 : w22.cell? ⟨gb222, 5, none⟩ = some (.int .i64 ((rd_T34 l0_3 x6_2).f5)) := (zqe BK222.out 5).trans rfl
                   have hfz36_0 := zqd BK222.out 0
                   have hfz36_1 := zqd BK222.out 1
                   have hfz36_2 := zqd BK222.out 2
                   have hfz36_3 := zqd BK222.out 3
                   have hfz36_4 := zqd BK222.out 4
                   have hfz36_5 := zqd BK222.out 5
                   have hcz37_0 : w22.cell? ⟨gb217, 0, none⟩ = some (.int .i64 a0_0) := (zqe BK217.out 0).trans rfl
                   have hcz37_1 : w22.cell? ⟨gb217, 1, none⟩ = some (.int .i64 a0_1) := (zqe BK217.out 1).trans rfl
                   have hcz37_2 : w22.cell? ⟨gb217, 2, none⟩ = some (.int .i64 a0_2) := (zqe BK217.out 2).trans rfl
                   have hcz37_3 : w22.cell? ⟨gb217, 3, none⟩ = some (.slice (some ad221) l0_3.length c0_3) := (zqe BK217.out 3).trans rfl
                   have hfz37_0 := zqd BK217.out 0
                   have hfz37_1 := zqd BK217.out 1
                   have hfz37_2 := zqd BK217.out 2
                   have hfz37_3 := zqd BK217.out 3
                   have p225 : 0 ≤ ((ji32) : Int) := of_decide_eq_true (by first | (with_reducible assumption) | assumption)
                   have q225 : (ji32) < (l0_3.length : Int) := of_decide_eq_true (by first | (with_reducible assumption) | assumption)
                   obtain ⟨ad225, e225, hx225_0, hx225_1, hx225_2, hx225_3, hx225_4, hx225_5⟩ := at_T34 HR0_3.out (ji32) p225 q225
                   obtain rfl : ad221 = ad225 := (by injection e225)
                   replace hx225_0 := (HB.out.cell (World.block_lt_of_cell? w _ hx225_0)).trans hx225_0
                   replace hx225_1 := (HB.out.cell (World.block_lt_of_cell? w _ hx225_1)).trans hx225_1
                   replace hx225_2 := (HB.out.cell (World.block_lt_of_cell? w _ hx225_2)).trans hx225_2
                   replace hx225_3 := (HB.out.cell (World.block_lt_of_cell? w _ hx225_3)).trans hx225_3
                   replace hx225_4 := (HB.out.cell (World.block_lt_of_cell? w _ hx225_4)).trans hx225_4
                   replace hx225_5 := (HB.out.cell (World.block_lt_of_cell? w _ hx225_5)).trans hx225_5
                   replace p225 := eq_true p225
                   replace q225 := eq_true q225
                   go_wp2
                   repeat (go_quiet (fail); try go_wp2)
                   go_meet
                   case rel => exact ⟨_, ((((rd_T34 l0_3 x6_2).f2) != (wrap64 (-((rd_T34 l0_3 (ji32)).f2))))), (by first | rfl | (simp; done) | (simp only [← hji32] <;> (first | rfl | simp)) | (simp [*]; done)), H', ⟨by have := HJ4.out; have := HK2.out; first | omega | exact Nat.le_refl _⟩, ⟨by (with_reducible repeat (first | apply zqa | apply zqb | apply zqc)); exact BK217.out⟩, ⟨by (with_reducible repeat (first | apply zqa | apply zqb | apply zqc)); exact BK222.out⟩, ⟨by repeat (first | (with_reducible first | exact HB.out | apply zqg | apply zqf | apply zqh | refine below_set ?_ GE217.out | refine below_set ?_ GE222.out) | exact HB.out)⟩⟩
                  ·
                   rw [if_neg c34] at H
                   exact absurd H (by simp)
                 ·
                  rw [if_neg c33] at H
                  exact absurd H (by simp)
                ·
                 rw [if_neg c31] at H
                 have c31b0 : decide (a0_0 < x6_2) = false := decide_eq_false c31
                 clear c31
                 have H' := zqi H
                 clear H
                 have hnb38 := NB222_217.out
                 have hnc38 := NB217_222.out
                 have hcz39_0 : w22.cell? ⟨gb222, 0, none⟩ = some (.int .i64 ((rd_T34 l0_3 x6_2).f0)) := (zqe BK222.out 0).trans rfl
                 have hcz39_1 : w22.cell? ⟨gb222, 1, none⟩ = some (.int .i64 ((rd_T34 l0_3 x6_2).f1)) := (zqe BK222.out 1).trans rfl
                 have hcz39_2 : w22.cell? ⟨gb222, 2, none⟩ = some (.int .i64 ((rd_T34 l0_3 x6_2).f2)) := (zqe BK222.out 2).trans rfl
                 have hcz39_3 : w22.cell? ⟨gb222, 3, none⟩ = some (.int .i64 ((rd_T34 l0_3 x6_2).f3)) := (zqe BK222.out 3).trans rfl
                 have hcz39_4 : w22.cell? ⟨gb222, 4, none⟩ = some (.int .i64 ((rd_T34 l0_3 x6_2).f4)) := (zqe BK222.out 4).trans rfl
                 have hcz39_5 : w22.cell? ⟨gb222, 5, none⟩ = some (.int .i64 ((rd_T34 l0_3 x6_2).f5)) := (zqe BK222.out 5).trans rfl
                 have hfz39_0 := zqd BK222.out 0
                 have hfz39_1 := zqd BK222.out 1
                 have hfz39_2 := zqd BK222.out 2
                 have hfz39_3 := zqd BK222.out 3
                 have hfz39_4 := zqd BK222.out 4
                 have hfz39_5 := zqd BK222.out 5
                 have hcz40_0 : w22.cell? ⟨gb217, 0, none⟩ = some (.int .i64 a0_0) := (zqe BK217.out 0).trans rfl
                 have hcz40_1 : w22.cell? ⟨gb217, 1, none⟩ = some (.int .i64 a0_1) := (zqe BK217.out 1).trans rfl
                 have hcz40_2 : w22.cell? ⟨gb217, 2, none⟩ = some (.int .i64 a0_2) := (zqe BK217.out 2).trans rfl
                 have hcz40_3 : w22.cell? ⟨gb217, 3, none⟩ = some (.slice (some ad221) l0_3.length c0_3) := (zqe BK217.out 3).trans rfl
                 have hfz40_0 := zqd BK217.out 0
                 have hfz40_1 := zqd BK217.out 1
                 have hfz40_2 := zqd BK217.out 2
                 have hfz40_3 := zqd BK217.out 3
                 go_wp2
                 repeat (go_quiet (fail); try go_wp2)
                 go_meet
                 case rel => exact ⟨_, (false), (by first | rfl | (simp; done) | (simp [*]; done)), H', ⟨by have := HJ4.out; have := HK2.out; first | omega | exact Nat.le_refl _⟩, ⟨by (with_reducible repeat (first | apply zqa | apply zqb | apply zqc)); exact BK217.out⟩, ⟨by (with_reducible repeat (first | apply zqa | apply zqb | apply zqc)); exact BK222.out⟩, ⟨by repeat (first | (with_reducible first | exact HB.out | apply zqg | apply zqf | apply zqh | refine below_set ?_ GE217.out | refine below_set ?_ GE222.out) | exact HB.out)⟩⟩
               ·
                replace c30 := Bool.eq_false_iff.mpr c30
                subst c30
                have H1 : (haulierref05_May.j2 k2 x6_2 true a0_0 a0_1 a0_2 l0_3) = some r := by rw [if_neg (show ¬ (false = true) by decide)] at H; exact H
                clear H
                have H := H1
                clear H1
                have H' := zqi H
                clear H
                have hnb41 := NB222_217.out
                have hnc41 := NB217_222.out
                have hcz42_0 : w22.cell? ⟨gb222, 0, none⟩ = some (.int .i64 ((rd_T34 l0_3 x6_2).f0)) := (zqe BK222.out 0).trans rfl
                have hcz42_1 : w22.cell? ⟨gb222, 1, none⟩ = some (.int .i64 ((rd_T34 l0_3 x6_2).f1)) := (zqe BK222.out 1).trans rfl
                have hcz42_2 : w22.cell? ⟨gb222, 2, none⟩ = some (.int .i64 ((rd_T34 l0_3 x6_2).f2)) := (zqe BK222.out 2).trans rfl
                have hcz42_3 : w22.cell? ⟨gb222, 3, none⟩ = some (.int .i64 ((rd_T34 l0_3 x6_2).f3)) := (zqe BK222.out 3).trans rfl
                have hcz42_4 : w22.cell? ⟨gb222, 4, none⟩ = some (.int .i64 ((rd_T34 l0_3 x6_2).f4)) := (zqe BK222.out 4).trans rfl
                have hcz42_5 : w22.cell? ⟨gb222, 5, none⟩ = some (.int .i64 ((rd_T34 l0_3 x6_2).f5)) := (zqe BK222.out 5).trans rfl
                have hfz42_0 := zqd BK222.out 0
                have hfz42_1 := zqd BK222.out 1
                have hfz42_2 := zqd BK222.out 2
                have hfz42_3 := zqd BK222.out 3
                have hfz42_4 := zqd BK222.out 4
                have hfz42_5 := zqd BK222.out 5
                have hcz43_0 : w22.cell? ⟨gb217, 0, none⟩ = some (.int .i64 a0_0) := (zqe BK217.out 0).trans rfl
                have hcz43_1 : w22.cell? ⟨gb217, 1, none⟩ = some (.int .i64 a0_1) := (zqe BK217.out 1).trans rfl
                have hcz43_2 : w22.cell? ⟨gb217, 2, none⟩ = some (.int .i64 a0_2) := (zqe BK217.out 2).trans rfl
                have hcz43_3 : w22.cell? ⟨gb217, 3, none⟩ = some (.slice (some ad221) l0_3.length c0_3) := (zqe BK217.out 3).trans rfl
                have hfz43_0 := zqd BK217.out 0
                have hfz43_1 := zqd BK217.out 1
                have hfz43_2 := zqd BK217.out 2
                have hfz43_3 := zqd BK217.out 3
                go_wp2
                repeat (go_quiet (fail); try go_wp2)
                go_meet
                case rel => exact ⟨_, (true), (by first | rfl | (simp; done) | (simp [*]; done)), H', ⟨by have := HJ4.out; have := HK2.out; first | omega | exact Nat.le_refl _⟩, ⟨by (with_reducible repeat (first | apply zqa | apply zqb | apply zqc)); exact BK217.out⟩, ⟨by (with_reducible repeat (first | apply zqa | apply zqb | apply zqc)); exact BK222.out⟩, ⟨by repeat (first | (with_reducible first | exact HB.out | apply zqg | apply zqf | apply zqh | refine below_set ?_ GE217.out | refine below_set ?_ GE222.out) | exact HB.out)⟩⟩
              ·
               rw [if_neg c29] at H
               have c29b0 : decide (x6_2 ≤ a0_0) = false := decide_eq_false c29
               clear c29
               by_cases c44 : x6_2 > a0_0
               ·
                rw [if_pos c44] at H
                have c44b0 : decide (a0_0 < x6_2) = true := decide_eq_true c44
                clear c44
                obtain ⟨ji45, hji45⟩ : ∃ j_ : Int, (wrap64 (x6_2 - a0_0)) = j_ := ⟨_, rfl⟩
                replace H : (if 0 ≤ (ji45) then (if (ji45) < (l0_3.length : Int) then (haulierref05_May.j2 k2 x6_2 (((rd_T34 l0_3 x6_2).f2) != (wrap64 (-((rd_T34 l0_3 (ji45)).f2)))) a0_0 a0_1 a0_2 l0_3) else (none)) else (none)) = some r := by first | (rw [hji45] at H; exact H) | (simp only [hji45] at H ⊢; exact H)
                have hji45w : (IntKind.i64.wrap (x6_2 - a0_0)) = ji45 := (i64_w _).trans hji45
                by_cases c46 : 0 ≤ (ji45)
                ·
                 rw [if_pos c46] at H
                 have c46b0 : decide (0 ≤ (ji45)) = true := decide_eq_true c46
                 clear c46
                 by_cases c47 : (ji45) < (l0_3.length : Int)
                 ·
                  rw [if_pos c47] at H
                  have c47b0 : decide ((ji45) < (l0_3.length : Int)) = true := decide_eq_true c47
                  clear c47
                  have H' := zqi H
                  clear H
                  have hnb48 := NB222_217.out
                  have hnc48 := NB217_222.out
                  have hcz49_0 : w22.cell? ⟨gb222, 0, none⟩ = some (.int .i64 ((rd_T34 l0_3 x6_2).f0)) := (zqe BK222.out 0).trans rfl
                  have hcz49_1 : w22.cell? ⟨gb222, 1, none⟩ = some (.int .i64 ((rd_T34 l0_3 x6_2).f1)) := (zqe BK222.out 1).trans rfl
                  have hcz49_2 : w22.cell? ⟨gb222, 2, none⟩ = some (.int .i64 ((rd_T34 l0_3 x6_2).f2)) := (zqe BK222.out 2).trans rfl
                  have hcz49_3 : w22.cell? ⟨gb222, 3, none⟩ = some (.int .i64 ((rd_T34 l0_3 x6_2).f3)) := (zqe BK222.out 3).trans rfl
                  have hcz49_4 : w22.cell? ⟨gb222, 4, none⟩ = some (.int .i64 ((rd_T34 l0_3 x6_2).f4)) := (zqe BK222.out 4).trans rfl
                  have hcz49_5 : w22.cell? ⟨gb222, 5, none⟩ = some (.int .i64 ((rd_T34 l0_3 x6_2).f5)) := (zqe BK222.out 5).trans rfl
                  have hfz49_0 := zqd BK222.out 0
                  have hfz49_1 := zqd BK222.out 1
                  have hfz49_2 := zqd BK222.out 2
                  have hfz49_3 := zqd BK222.out 3
                  have hfz49_4 := zqd BK222.out 4
                  have hfz49_5 := zqd BK222.out 5
                  have hcz50_0 : w22.cell? ⟨gb217, 0, none⟩ = some (.int .i64 a0_0) := (zqe BK217.out 0).trans rfl
                  have hcz50_1 : w22.cell? ⟨gb217, 1, none⟩ = some (.int .i64 a0_1) := (zqe BK217.out 1).trans rfl
                  have hcz50_2 : w22.cell? ⟨gb217, 2, none⟩ = some (.int .i64 a0_2) := (zqe BK217.out 2).trans rfl
                  have hcz50_3 : w22.cell? ⟨gb217, 3, none⟩ = some (.slice (some ad221) l0_3.length c0_3) := (zqe BK217.out 3).trans rfl
                  have hfz50_0 := zqd BK217.out 0
                  have hfz50_1 := zqd BK217.out 1
                  have hfz50_2 := zqd BK217.out 2
                  have hfz50_3 := zqd BK217.out 3
                  have p226 : 0 ≤ ((ji45) : Int) := of_decide_eq_true (by first | (with_reducible assumption) | assumption)
                  have q226 : (ji45) < (l0_3.length : Int) := of_decide_eq_true (by first | (with_reducible assumption) | assumption)
                  obtain ⟨ad226, e226, hx226_0, hx226_1, hx226_2, hx226_3, hx226_4, hx226_5⟩ := at_T34 HR0_3.out (ji45) p226 q226
                  obtain rfl : ad221 = ad226 := (by injection e226)
                  replace hx226_0 := (HB.out.cell (World.block_lt_of_cell? w _ hx226_0)).trans hx226_0
                  replace hx226_1 := (HB.out.cell (World.block_lt_of_cell? w _ hx226_1)).trans hx226_1
                  replace hx226_2 := (HB.out.cell (World.block_lt_of_cell? w _ hx226_2)).trans hx226_2
                  replace hx226_3 := (HB.out.cell (World.block_lt_of_cell? w _ hx226_3)).trans hx226_3
                  replace hx226_4 := (HB.out.cell (World.block_lt_of_cell? w _ hx226_4)).trans hx226_4
                  replace hx226_5 := (HB.out.cell (World.block_lt_of_cell? w _ hx226_5)).trans hx226_5
                  replace p226 := eq_true p226
                  replace q226 := eq_true q226
                  go_wp2
                  repeat (go_quiet (fail); try go_wp2)
                  go_meet
                  case rel => exact ⟨_, ((((rd_T34 l0_3 x6_2).f2) != (wrap64 (-((rd_T34 l0_3 (ji45)).f2))))), (by first | rfl | (simp; done) | (simp only [← hji45] <;> (first | rfl | simp)) | (simp [*]; done)), H', ⟨by have := HJ4.out; have := HK2.out; first | omega | exact Nat.le_refl _⟩, ⟨by (with_reducible repeat (first | apply zqa | apply zqb | apply zqc)); exact BK217.out⟩, ⟨by (with_reducible repeat (first | apply zqa | apply zqb | apply zqc)); exact BK222.out⟩, ⟨by repeat (first | (with_reducible first | exact HB.out | apply zqg | apply zqf | apply zqh | refine below_set ?_ GE217.out | refine below_set ?_ GE222.out) | exact HB.out)⟩⟩
                 ·
                  rw [if_neg c47] at H
                  exact absurd H (by simp)
                ·
                 rw [if_neg c46] at H
                 exact absurd H (by simp)
               ·
                rw [if_neg c44] at H
                have c44b0 : decide (a0_0 < x6_2) = false := decide_eq_false c44
                clear c44
                have H' := zqi H
                clear H
                have hnb51 := NB222_217.out
                have hnc51 := NB217_222.out
                have hcz52_0 : w22.cell? ⟨gb222, 0, none⟩ = some (.int .i64 ((rd_T34 l0_3 x6_2).f0)) := (zqe BK222.out 0).trans rfl
                have hcz52_1 : w22.cell? ⟨gb222, 1, none⟩ = some (.int .i64 ((rd_T34 l0_3 x6_2).f1)) := (zqe BK222.out 1).trans rfl
                have hcz52_2 : w22.cell? ⟨gb222, 2, none⟩ = some (.int .i64 ((rd_T34 l0_3 x6_2).f2)) := (zqe BK222.out 2).trans rfl
                have hcz52_3 : w22.cell? ⟨gb222, 3, none⟩ = some (.int .i64 ((rd_T34 l0_3 x6_2).f3)) := (zqe BK222.out 3).trans rfl
                have hcz52_4 : w22.cell? ⟨gb222, 4, none⟩ = some (.int .i64 ((rd_T34 l0_3 x6_2).f4)) := (zqe BK222.out 4).trans rfl
                have hcz52_5 : w22.cell? ⟨gb222, 5, none⟩ = some (.int .i64 ((rd_T34 l0_3 x6_2).f5)) := (zqe BK222.out 5).trans rfl
                have hfz52_0 := zqd BK222.out 0
                have hfz52_1 := zqd BK222.out 1
                have hfz52_2 := zqd BK222.out 2
                have hfz52_3 := zqd BK222.out 3
                have hfz52_4 := zqd BK222.out 4
                have hfz52_5 := zqd BK222.out 5
                have hcz53_0 : w22.cell? ⟨gb217, 0, none⟩ = some (.int .i64 a0_0) := (zqe BK217.out 0).trans rfl
                have hcz53_1 : w22.cell? ⟨gb217, 1, none⟩ = some (.int .i64 a0_1) := (zqe BK217.out 1).trans rfl
                have hcz53_2 : w22.cell? ⟨gb217, 2, none⟩ = some (.int .i64 a0_2) := (zqe BK217.out 2).trans rfl
                have hcz53_3 : w22.cell? ⟨gb217, 3, none⟩ = some (.slice (some ad221) l0_3.length c0_3) := (zqe BK217.out 3).trans rfl
                have hfz53_0 := zqd BK217.out 0
                have hfz53_1 := zqd BK217.out 1
                have hfz53_2 := zqd BK217.out 2
                have hfz53_3 := zqd BK217.out 3
                go_wp2
                repeat (go_quiet (fail); try go_wp2)
                go_meet
                case rel => exact ⟨_, (false), (by first | rfl | (simp; done) | (simp [*]; done)), H', ⟨by have := HJ4.out; have := HK2.out; first | omega | exact Nat.le_refl _⟩, ⟨by (with_reducible repeat (first | apply zqa | apply zqb | apply zqc)); exact BK217.out⟩, ⟨by (with_reducible repeat (first | apply zqa | apply zqb | apply zqc)); exact BK222.out⟩, ⟨by repeat (first | (with_reducible first | exact HB.out | apply zqg | apply zqf | apply zqh | refine below_set ?_ GE217.out | refine below_set ?_ GE222.out) | exact HB.out)⟩⟩
             ·
              rw [if_neg c28] at H
              have c28b0 : decide (0 < x6_2) = false := decide_eq_false c28
              clear c28
              by_cases c54 : x6_2 > a0_0
              ·
               rw [if_pos c54] at H
               have c54b0 : decide (a0_0 < x6_2) = true := decide_eq_true c54
               clear c54
               obtain ⟨ji55, hji55⟩ : ∃ j_ : Int, (wrap64 (x6_2 - a0_0)) = j_ := ⟨_, rfl⟩
               replace H : (if 0 ≤ (ji55) then (if (ji55) < (l0_3.length : Int) then (haulierref05_May.j2 k2 x6_2 (((rd_T34 l0_3 x6_2).f2) != (wrap64 (-((rd_T34 l0_3 (ji55)).f2)))) a0_0 a0_1 a0_2 l0_3) else (none)) else (none)) = some r := by first | (rw [hji55] at H; exact H) | (simp only [hji55] at H ⊢; exact H)
               have hji55w : (IntKind.i64.wrap (x6_2 - a0_0)) = ji55 := (i64_w _).trans hji55
               by_cases c56 : 0 ≤ (ji55)
               ·
                rw [if_pos c56] at H
                have c56b0 : decide (0 ≤ (ji55)) = true := decide_eq_true c56
                clear c56
                by_cases c57 : (ji55) < (l0_3.length : Int)
                ·
                 rw [if_pos c57] at H
                 have c57b0 : decide ((ji55) < (l0_3.length : Int)) = true := decide_eq_true c57
                 clear c57
                 have H' := zqi H
                 clear H
                 have hnb58 := NB222_217.out
                 have hnc58 := NB217_222.out
                 have hcz59_0 : w22.cell? ⟨gb222, 0, none⟩ = some (.int .i64 ((rd_T34 l0_3 x6_2).f0)) := (zqe BK222.out 0).trans rfl
                 have hcz59_1 : w22.cell? ⟨gb222, 1, none⟩ = some (.int .i64 ((rd_T34 l0_3 x6_2).f1)) := (zqe BK222.out 1).trans rfl
                 have hcz59_2 : w22.cell? ⟨gb222, 2, none⟩ = some (.int .i64 ((rd_T34 l0_3 x6_2).f2)) := (zqe BK222.out 2).trans rfl
                 have hcz59_3 : w22.cell? ⟨gb222, 3, none⟩ = some (.int .i64 ((rd_T34 l0_3 x6_2).f3)) := (zqe BK222.out 3).trans rfl
                 have hcz59_4 : w22.cell? ⟨gb222, 4, none⟩ = some (.int .i64 ((rd_T34 l0_3 x6_2).f4)) := (zqe BK222.out 4).trans rfl
                 have hcz59_5 : w22.cell? ⟨gb222, 5, none⟩ = some (.int .i64 ((rd_T34 l0_3 x6_2).f5)) := (zqe BK222.out 5).trans rfl
                 have hfz59_0 := zqd BK222.out 0
                 have hfz59_1 := zqd BK222.out 1
                 have hfz59_2 := zqd BK222.out 2
                 have hfz59_3 := zqd BK222.out 3
                 have hfz59_4 := zqd BK222.out 4
                 have hfz59_5 := zqd BK222.out 5
                 have hcz60_0 : w22.cell? ⟨gb217, 0, none⟩ = some (.int .i64 a0_0) := (zqe BK217.out 0).trans rfl
                 have hcz60_1 : w22.cell? ⟨gb217, 1, none⟩ = some (.int .i64 a0_1) := (zqe BK217.out 1).trans rfl
                 have hcz60_2 : w22.cell? ⟨gb217, 2, none⟩ = some (.int .i64 a0_2) := (zqe BK217.out 2).trans rfl
                 have hcz60_3 : w22.cell? ⟨gb217, 3, none⟩ = some (.slice (some ad221) l0_3.length c0_3) := (zqe BK217.out 3).trans rfl
                 have hfz60_0 := zqd BK217.out 0
                 have hfz60_1 := zqd BK217.out 1
                 have hfz60_2 := zqd BK217.out 2
                 have hfz60_3 := zqd BK217.out 3
                 have p227 : 0 ≤ ((ji55) : Int) := of_decide_eq_true (by first | (with_reducible assumption) | assumption)
                 have q227 : (ji55) < (l0_3.length : Int) := of_decide_eq_true (by first | (with_reducible assumption) | assumption)
                 obtain ⟨ad227, e227, hx227_0, hx227_1, hx227_2, hx227_3, hx227_4, hx227_5⟩ := at_T34 HR0_3.out (ji55) p227 q227
                 obtain rfl : ad221 = ad227 := (by injection e227)
                 replace hx227_0 := (HB.out.cell (World.block_lt_of_cell? w _ hx227_0)).trans hx227_0
                 replace hx227_1 := (HB.out.cell (World.block_lt_of_cell? w _ hx227_1)).trans hx227_1
                 replace hx227_2 := (HB.out.cell (World.block_lt_of_cell? w _ hx227_2)).trans hx227_2
                 replace hx227_3 := (HB.out.cell (World.block_lt_of_cell? w _ hx227_3)).trans hx227_3
                 replace hx227_4 := (HB.out.cell (World.block_lt_of_cell? w _ hx227_4)).trans hx227_4
                 replace hx227_5 := (HB.out.cell (World.block_lt_of_cell? w _ hx227_5)).trans hx227_5
                 replace p227 := eq_true p227
                 replace q227 := eq_true q227
                 go_wp2
                 repeat (go_quiet (fail); try go_wp2)
                 go_meet
                 case rel => exact ⟨_, ((((rd_T34 l0_3 x6_2).f2) != (wrap64 (-((rd_T34 l0_3 (ji55)).f2))))), (by first | rfl | (simp; done) | (simp only [← hji55] <;> (first | rfl | simp)) | (simp [*]; done)), H', ⟨by have := HJ4.out; have := HK2.out; first | omega | exact Nat.le_refl _⟩, ⟨by (with_reducible repeat (first | apply zqa | apply zqb | apply zqc)); exact BK217.out⟩, ⟨by (with_reducible repeat (first | apply zqa | apply zqb | apply zqc)); exact BK222.out⟩, ⟨by repeat (first | (with_reducible first | exact HB.out | apply zqg | apply zqf | apply zqh | refine below_set ?_ GE217.out | refine below_set ?_ GE222.out) | exact HB.out)⟩⟩
                ·
                 rw [if_neg c57] at H
                 exact absurd H (by simp)
               ·
                rw [if_neg c56] at H
                exact absurd H (by simp)
              ·
               rw [if_neg c54] at H
               have c54b0 : decide (a0_0 < x6_2) = false := decide_eq_false c54
               clear c54
               have H' := zqi H
               clear H
               have hnb61 := NB222_217.out
               have hnc61 := NB217_222.out
               have hcz62_0 : w22.cell? ⟨gb222, 0, none⟩ = some (.int .i64 ((rd_T34 l0_3 x6_2).f0)) := (zqe BK222.out 0).trans rfl
               have hcz62_1 : w22.cell? ⟨gb222, 1, none⟩ = some (.int .i64 ((rd_T34 l0_3 x6_2).f1)) := (zqe BK222.out 1).trans rfl
               have hcz62_2 : w22.cell? ⟨gb222, 2, none⟩ = some (.int .i64 ((rd_T34 l0_3 x6_2).f2)) := (zqe BK222.out 2).trans rfl
               have hcz62_3 : w22.cell? ⟨gb222, 3, none⟩ = some (.int .i64 ((rd_T34 l0_3 x6_2).f3)) := (zqe BK222.out 3).trans rfl
               have hcz62_4 : w22.cell? ⟨gb222, 4, none⟩ = some (.int .i64 ((rd_T34 l0_3 x6_2).f4)) := (zqe BK222.out 4).trans rfl
               have hcz62_5 : w22.cell? ⟨gb222, 5, none⟩ = some (.int .i64 ((rd_T34 l0_3 x6_2).f5)) := (zqe BK222.out 5).trans rfl
               have hfz62_0 := zqd BK222.out 0
               have hfz62_1 := zqd BK222.out 1
               have hfz62_2 := zqd BK222.out 2
               have hfz62_3 := zqd BK222.out 3
               have hfz62_4 := zqd BK222.out 4
               have hfz62_5 := zqd BK222.out 5
               have hcz63_0 : w22.cell? ⟨gb217, 0, none⟩ = some (.int .i64 a0_0) := (zqe BK217.out 0).trans rfl
               have hcz63_1 : w22.cell? ⟨gb217, 1, none⟩ = some (.int .i64 a0_1) := (zqe BK217.out 1).trans rfl
               have hcz63_2 : w22.cell? ⟨gb217, 2, none⟩ = some (.int .i64 a0_2) := (zqe BK217.out 2).trans rfl
               have hcz63_3 : w22.cell? ⟨gb217, 3, none⟩ = some (.slice (some ad221) l0_3.length c0_3) := (zqe BK217.out 3).trans rfl
               have hfz63_0 := zqd BK217.out 0
               have hfz63_1 := zqd BK217.out 1
               have hfz63_2 := zqd BK217.out 2
               have hfz63_3 := zqd BK217.out 3
               go_wp2
               repeat (go_quiet (fail); try go_wp2)
               go_meet
               case rel => exact ⟨_, (false), (by first | rfl | (simp; done) | (simp [*]; done)), H', ⟨by have := HJ4.out; have := HK2.out; first | omega | exact Nat.le_refl _⟩, ⟨by (with_reducible repeat (first | apply zqa | apply zqb | apply zqc)); exact BK217.out⟩, ⟨by (with_reducible repeat (first | apply zqa | apply zqb | apply zqc)); exact BK222.out⟩, ⟨by repeat (first | (with_reducible first | exact HB.out | apply zqg | apply zqf | apply zqh | refine below_set ?_ GE217.out | refine below_set ?_ GE222.out) | exact HB.out)⟩⟩
            ·
             rw [if_neg c27] at H
             have c27b0 : (((rd_T34 l0_3 x6_2).f5) == 0) = false := beq_eq_false_iff_ne.mpr c27
             have c27b1 : (((rd_T34 l0_3 x6_2).f5) != 0) = true := bne_iff_ne.mpr c27
             have H' := zqi H
             clear H
             have hnb64 := NB222_217.out
             have hnc64 := NB217_222.out
             have hcz65_0 : w22.cell? ⟨gb222, 0, none⟩ = some (.int .i64 ((rd_T34 l0_3 x6_2).f0)) := (zqe BK222.out 0).trans rfl
             have hcz65_1 : w22.cell? ⟨gb222, 1, none⟩ = some (.int .i64 ((rd_T34 l0_3 x6_2).f1)) := (zqe BK222.out 1).trans rfl
             have hcz65_2 : w22.cell? ⟨gb222, 2, none⟩ = some (.int .i64 ((rd_T34 l0_3 x6_2).f2)) := (zqe BK222.out 2).trans rfl
             have hcz65_3 : w22.cell? ⟨gb222, 3, none⟩ = some (.int .i64 ((rd_T34 l0_3 x6_2).f3)) := (zqe BK222.out 3).trans rfl
             have hcz65_4 : w22.cell? ⟨gb222, 4, none⟩ = some (.int .i64 ((rd_T34 l0_3 x6_2).f4)) := (zqe BK222.out 4).trans rfl
             have hcz65_5 : w22.cell? ⟨gb222, 5, none⟩ = some (.int .i64 ((rd_T34 l0_3 x6_2).f5)) := (zqe BK222.out 5).trans rfl
             have hfz65_0 := zqd BK222.out 0
             have hfz65_1 := zqd BK222.out 1
             have hfz65_2 := zqd BK222.out 2
             have hfz65_3 := zqd BK222.out 3
             have hfz65_4 := zqd BK222.out 4
             have hfz65_5 := zqd BK222.out 5
             go_wp2
             repeat (go_quiet (fail); try go_wp2)
             go_meet
             case rel => exact ⟨_, (true), (by first | rfl | (simp; done) | (simp [*]; done)), H', ⟨by have := HJ4.out; have := HK2.out; first | omega | exact Nat.le_refl _⟩, ⟨by (with_reducible repeat (first | apply zqa | apply zqb | apply zqc)); exact BK217.out⟩, ⟨by (with_reducible repeat (first | apply zqa | apply zqb | apply zqc)); exact BK222.out⟩, ⟨by repeat (first | (with_reducible first | exact HB.out | apply zqg | apply zqf | apply zqh | refine below_set ?_ GE217.out | refine below_set ?_ GE222.out) | exact HB.out)⟩⟩
           ·
            rw [if_neg c26] at H
            have c26b0 : (((rd_T34 l0_3 x6_2).f2) == 0) = false := beq_eq_false_iff_ne.mpr c26
            have c26b1 : (((rd_T34 l0_3 x6_2).f2) != 0) = true := bne_iff_ne.mpr c26
            have H' := zqi H
            clear H
            have hnb66 := NB222_217.out
            have hnc66 := NB217_222.out
            have hcz67_0 : w22.cell? ⟨gb222, 0, none⟩ = some (.int .i64 ((rd_T34 l0_3 x6_2).f0)) := (zqe BK222.out 0).trans rfl
            have hcz67_1 : w22.cell? ⟨gb222, 1, none⟩ = some (.int .i64 ((rd_T34 l0_3 x6_2).f1)) := (zqe BK222.out 1).trans rfl
            have hcz67_2 : w22.cell? ⟨gb222, 2, none⟩ = some (.int .i64 ((rd_T34 l0_3 x6_2).f2)) := (zqe BK222.out 2).trans rfl
            have hcz67_3 : w22.cell? ⟨gb222, 3, none⟩ = some (.int .i64 ((rd_T34 l0_3 x6_2).f3)) := (zqe BK222.out 3).trans rfl
            have hcz67_4 : w22.cell? ⟨gb222, 4, none⟩ = some (.int .i64 ((rd_T34 l0_3 x6_2).f4)) := (zqe BK222.out 4).trans rfl
            have hcz67_5 : w22.cell? ⟨gb222, 5, none⟩ = some (.int .i64 ((rd_T34 l0_3 x6_2).f5)) := (zqe BK222.out 5).trans rfl
            have hfz67_0 := zqd BK222.out 0
            have hfz67_1 := zqd BK222.out 1
            have hfz67_2 := zqd BK222.out 2
            have hfz67_3 := zqd BK222.out 3
            have hfz67_4 := zqd BK222.out 4
            have hfz67_5 := zqd BK222.out 5
            go_wp2
            repeat (go_quiet (fail); try go_wp2)
            go_meet
            case rel => exact ⟨_, (true), (by first | rfl | (simp; done) | (simp [*]; done)), H', ⟨by have := HJ4.out; have := HK2.out; first | omega | exact Nat.le_refl _⟩, ⟨by (with_reducible repeat (first | apply zqa | apply zqb | apply zqc)); exact BK217.out⟩, ⟨by (with_reducible repeat (first | apply zqa | apply zqb | apply zqc)); exact BK222.out⟩, ⟨by repeat (first | (with_reducible first | exact HB.out | apply zqg | apply zqf | apply zqh | refine below_set ?_ GE217.out | refine below_set ?_ GE222.out) | exact HB.out)⟩⟩
          ·
           rw [if_neg c25] at H
           have c25b0 : (x6_2 == 0) = false := beq_eq_false_iff_ne.mpr c25
           have c25b1 : (x6_2 != 0) = true := bne_iff_ne.mpr c25
           (first | rw [c25b0] | (simp only [i64_w, i32_w]; rw [c25b0]) | skip)
           by_cases c68 : x6_2 > 0
           ·
            rw [if_pos c68] at H
            have c68b0 : decide (0 < x6_2) = true := decide_eq_true c68
            clear c68
            by_cases c69 : x6_2 ≤ a0_0
            ·
             rw [if_pos c69] at H
             have c69b0 : decide (x6_2 ≤ a0_0) = true := decide_eq_true c69
             clear c69
             by_cases c70 : t224 = true
             ·
              subst c70
              have H1 : (if x6_2 > a0_0 then (if 0 ≤ (wrap64 (x6_2 - a0_0)) then (if (wrap64 (x6_2 - a0_0)) < (l0_3.length : Int) then (haulierref05_May.j2 k2 x6_2 (((rd_T34 l0_3 x6_2).f2) != (wrap64 (-((rd_T34 l0_3 (wrap64 (x6_2 - a0_0))).f2)))) a0_0 a0_1 a0_2 l0_3) else (none)) else (none)) else (haulierref05_May.j2 k2 x6_2 false a0_0 a0_1 a0_2 l0_3)) = some r := by rw [if_pos rfl] at H; exact H
              clear H
              have H := H1
              clear H1
              by_cases c71 : x6_2 > a0_0
              ·
               rw [if_pos c71] at H
               have c71b0 : decide (a0_0 < x6_2) = true := decide_eq_true c71
               clear c71
               obtain ⟨ji72, hji72⟩ : ∃ j_ : Int, (wrap64 (x6_2 - a0_0)) = j_ := ⟨_, rfl⟩
               replace H : (if 0 ≤ (ji72) then (if (ji72) < (l0_3.length : Int) then (haulierref05_May.j2 k2 x6_2 (((rd_T34 l0_3 x6_2).f2) != (wrap64 (-((rd_T34 l0_3 (ji72)).f2)))) a0_0 a0_1 a0_2 l0_3) else (none)) else (none)) = some r := by first | (rw [hji72] at H; exact H) | (simp only [hji72] at H ⊢; exact H)
               have hji72w : (IntKind.i64.wrap (x6_2 - a0_0)) = ji72 := (i64_w _).trans hji72
               by_cases c73 : 0 ≤ (ji72)
               ·
                rw [if_pos c73] at H
                have c73b0 : decide (0 ≤ (ji72)) = true := decide_eq_true c73
                clear c73
                by_cases c74 : (ji72) < (l0_3.length : Int)
                ·
                 rw [if_pos c74] at H
                 have c74b0 : decide ((ji72) < (l0_3.length : Int)) = true := decide_eq_true c74
                 clear c74
                 have H' := zqi H
                 clear H
                 have hnb75 := NB217_222.out
                 have hnc75 := NB222_217.out
                 have hcz76_0 : w22.cell? ⟨gb217, 0, none⟩ = some (.int .i64 a0_0) := (zqe BK217.out 0).trans rfl
                 have hcz76_1 : w22.cell? ⟨gb217, 1, none⟩ = some (.int .i64 a0_1) := (zqe BK217.out 1).trans rfl
                 have hcz76_2 : w22.cell? ⟨gb217, 2, none⟩ = some (.int .i64 a0_2) := (zqe BK217.out 2).trans rfl
                 have hcz76_3 : w22.cell? ⟨gb217, 3, none⟩ = some (.slice (some ad221) l0_3.length c0_3) := (zqe BK217.out 3).trans rfl
                 have hfz76_0 := zqd BK217.out 0
                 have hfz76_1 := zqd BK217.out 1
                 have hfz76_2 := zqd BK217.out 2
                 have hfz76_3 := zqd BK217.out 3
                 have hcz77_0 : w22.cell? ⟨gb222, 0, none⟩ = some (.int .i64 ((rd_T34 l0_3 x6_2).f0)) := (zqe BK222.out 0).trans rfl
                 have hcz77_1 : w22.cell? ⟨gb222, 1, none⟩ = some (.int .i64 ((rd_T34 l0_3 x6_2).f1)) := (zqe BK222.out 1).trans rfl
                 have hcz77_2 : w22.cell? ⟨gb222, 2, none⟩ = some (.int .i64 ((rd_T34 l0_3 x6_2).f2)) := (zqe BK222.out 2).trans rfl
                 have hcz77_3 : w22.cell? ⟨gb222, 3, none⟩ = some (.int .i64 ((rd_T34 l0_3 x6_2).f3)) := (zqe BK222.out 3).trans rfl
                 have hcz77_4 : w22.cell? ⟨gb222, 4, none⟩ = some (.int .i64 ((rd_T34 l0_3 x6_2).f4)) := (zqe BK222.out 4).trans rfl
                 have hcz77_5 : w22.cell? ⟨gb222, 5, none⟩ = some (.int .i64 ((rd_T34 l0_3 x6_2).f5)) := (zqe BK222.out 5).trans rfl
                 have hfz77_0 := zqd BK222.out 0
                 have hfz77_1 := zqd BK222.out 1
                 have hfz77_2 := zqd BK222.out 2
                 have hfz77_3 := zqd BK222.out 3
                 have hfz77_4 := zqd BK222.out 4
                 have hfz77_5 := zqd BK222.out 5
                 have p228 : 0 ≤ ((ji72) : Int) := of_decide_eq_true (by first | (with_reducible assumption) | assumption)
                 have q228 : (ji72) < (l0_3.length : Int) := of_decide_eq_true (by first | (with_reducible assumption) | assumption)
                 obtain ⟨ad228, e228, hx228_0, hx228_1, hx228_2, hx228_3, hx228_4, hx228_5⟩ := at_T34 HR0_3.out (ji72) p228 q228
                 obtain rfl : ad221 = ad228 := (by injection e228)
                 replace hx228_0 := (HB.out.cell (World.block_lt_of_cell? w _ hx228_0)).trans hx228_0
                 replace hx228_1 := (HB.out.cell (World.block_lt_of_cell? w _ hx228_1)).trans hx228_1
                 replace hx228_2 := (HB.out.cell (World.block_lt_of_cell? w _ hx228_2)).trans hx228_2
                 replace hx228_3 := (HB.out.cell (World.block_lt_of_cell? w _ hx228_3)).trans hx228_3
                 replace hx228_4 := (HB.out.cell (World.block_lt_of_cell? w _ hx228_4)).trans hx228_4
                 replace hx228_5 := (HB.out.cell (World.block_lt_of_cell? w _ hx228_5)).trans hx228_5
                 replace p228 := eq_true p228
                 replace q228 := eq_true q228
                 go_wp2
                 repeat (go_quiet (fail); try go_wp2)
                 go_meet
                 case rel => exact ⟨_, ((((rd_T34 l0_3 x6_2).f2) != (wrap64 (-((rd_T34 l0_3 (ji72)).f2))))), (by first | rfl | (simp; done) | (simp only [← hji72] <;> (first | rfl | simp)) | (simp [*]; done)), H', ⟨by have := HJ4.out; have := HK2.out; first | omega | exact Nat.le_refl _⟩, ⟨by (with_reducible repeat (first | apply zqa | apply zqb | apply zqc)); exact BK217.out⟩, ⟨by (with_reducible repeat (first | apply zqa | apply zqb | apply zqc)); exact BK222.out⟩, ⟨by repeat (first | (with_reducible first | exact HB.out | apply zqg | apply zqf | apply zqh | refine below_set ?_ GE217.out | refine below_set ?_ GE222.out) | exact HB.out)⟩⟩
                ·
                 rw [if_neg c74] at H
                 exact absurd H (by simp)
               ·
                rw [if_neg c73] at H
                exact absurd H (by simp)
              ·
               rw [if_neg c71] at H
               have c71b0 : decide (a0_0 < x6_2) = false := decide_eq_false c71
               clear c71
               have H' := zqi H
               clear H
               have hnb78 := NB217_222.out
               have hnc78 := NB222_217.out
               have hcz79_0 : w22.cell? ⟨gb217, 0, none⟩ = some (.int .i64 a0_0) := (zqe BK217.out 0).trans rfl
               have hcz79_1 : w22.cell? ⟨gb217, 1, none⟩ = some (.int .i64 a0_1) := (zqe BK217.out 1).trans rfl
               have hcz79_2 : w22.cell? ⟨gb217, 2, none⟩ = some (.int .i64 a0_2) := (zqe BK217.out 2).trans rfl
               have hcz79_3 : w22.cell? ⟨gb217, 3, none⟩ = some (.slice (some ad221) l0_3.length c0_3) := (zqe BK217.out 3).trans rfl
               have hfz79_0 := zqd BK217.out 0
               have hfz79_1 := zqd BK217.out 1
               have hfz79_2 := zqd BK217.out 2
               have hfz79_3 := zqd BK217.out 3
               go_wp2
               repeat (go_quiet (fail); try go_wp2)
               go_meet
               case rel => exact ⟨_, (false), (by first | rfl | (simp; done) | (simp [*]; done)), H', ⟨by have := HJ4.out; have := HK2.out; first | omega | exact Nat.le_refl _⟩, ⟨by (with_reducible repeat (first | apply zqa | apply zqb | apply zqc)); exact BK217.out⟩, ⟨by (with_reducible repeat (first | apply zqa | apply zqb | apply zqc)); exact BK222.out⟩, ⟨by repeat (first | (with_reducible first | exact HB.out | apply zqg | apply zqf | apply zqh | refine below_set ?_ GE217.out | refine below_set ?_ GE222.out) | exact HB.out)⟩⟩
             ·
              replace c70 := Bool.eq_false_iff.mpr c70
              subst c70
              have H1 : (haulierref05_May.j2 k2 x6_2 true a0_0 a0_1 a0_2 l0_3) = some r := by rw [if_neg (show ¬ (false = true) by decide)] at H; exact H
              clear H
              have H := H1
              clear H1
              have H' := zqi H
              clear H
              have hnb80 := NB217_222.out
              have hnc80 := NB222_217.out
              have hcz81_0 : w22.cell? ⟨gb217, 0, none⟩ = some (.int .i64 a0_0) := (zqe BK217.out 0).trans rfl
              have hcz81_1 : w22.cell? ⟨gb217, 1, none⟩ = some (.int .i64 a0_1) := (zqe BK217.out 1).trans rfl
              have hcz81_2 : w22.cell? ⟨gb217, 2, none⟩ = some (.int .i64 a0_2) := (zqe BK217.out 2).trans rfl
              have hcz81_3 : w22.cell? ⟨gb217, 3, none⟩ = some (.slice (some ad221) l0_3.length c0_3) := (zqe BK217.out 3).trans rfl
              have hfz81_0 := zqd BK217.out 0
              have hfz81_1 := zqd BK217.out 1
              have hfz81_2 := zqd BK217.out 2
              have hfz81_3 := zqd BK217.out 3
              go_wp2
              repeat (go_quiet (fail); try go_wp2)
              go_meet
              case rel => exact ⟨_, (true), (by first | rfl | (simp; done) | (simp [*]; done)), H', ⟨by have := HJ4.out; have := HK2.out; first | omega | exact Nat.le_refl _⟩, ⟨by (with_reducible repeat (first | apply zqa | apply zqb | apply zqc)); exact BK217.out⟩, ⟨by (with_reducible repeat (first | apply zqa | apply zqb | apply zqc)); exact BK222.out⟩, ⟨by repeat (first | (with_reducible first | exact HB.out | apply zqg | apply zqf | apply zqh | refine below_set ?_ GE217.out | refine below_set ?_ GE222.out) | exact HB.out)⟩⟩
            ·
             rw [if_neg c69] at H
             have c69b0 : decide (x6_2 ≤ a0_0) = false := decide_eq_false c69
             clear c69
             by_cases c82 : x6_2 > a0_0
             ·
              rw [if_pos c82] at H
              have c82b0 : decide (a0_0 < x6_2) = true := decide_eq_true c82
              clear c82
              obtain ⟨ji83, hji83⟩ : ∃ j_ : Int, (wrap64 (x6_2 - a0_0)) = j_ := ⟨_, rfl⟩
              replace H : (if 0 ≤ (ji83) then (if (ji83) < (l0_3.length : Int) then (haulierref05_May.j2 k2 x6_2 (((rd_T34 l0_3 x6_2).f2) != (wrap64 (-((rd_T34 l0_3 (ji83)).f2)))) a0_0 a0_1 a0_2 l0_3) else (none)) else (none)) = some r := by first | (rw [hji83] at H; exact H) | (simp only [hji83] at H ⊢; exact H)
              have hji83w : (IntKind.i64.wrap (x6_2 - a0_0)) = ji83 := (i64_w _).trans hji83
              by_cases c84 : 0 ≤ (ji83)
              ·
               rw [if_pos c84] at H
               have c84b0 : decide (0 ≤ (ji83)) = true := decide_eq_true c84
               clear c84
               by_cases c85 : (ji83) < (l0_3.length : Int)
               ·
                rw [if_pos c85] at H
                have c85b0 : decide ((ji83) < (l0_3.length : Int)) = true := decide_eq_true c85
                clear c85
                have H' := zqi H
                clear H
                have hnb86 := NB217_222.out
                have hnc86 := NB222_217.out
                have hcz87_0 : w22.cell? ⟨gb217, 0, none⟩ = some (.int .i64 a0_0) := (zqe BK217.out 0).trans rfl
                have hcz87_1 : w22.cell? ⟨gb217, 1, none⟩ = some (.int .i64 a0_1) := (zqe BK217.out 1).trans rfl
                have hcz87_2 : w22.cell? ⟨gb217, 2, none⟩ = some (.int .i64 a0_2) := (zqe BK217.out 2).trans rfl
                have hcz87_3 : w22.cell? ⟨gb217, 3, none⟩ = some (.slice (some ad221) l0_3.length c0_3) := (zqe BK217.out 3).trans rfl
                have hfz87_0 := zqd BK217.out 0
                have hfz87_1 := zqd BK217.out 1
                have hfz87_2 := zqd BK217.out 2
                have hfz87_3 := zqd BK217.out 3
                have hcz88_0 : w22.cell? ⟨gb222, 0, none⟩ = some (.int .i64 ((rd_T34 l0_3 x6_2).f0)) := (zqe BK222.out 0).trans rfl
                have hcz88_1 : w22.cell? ⟨gb222, 1, none⟩ = some (.int .i64 ((rd_T34 l0_3 x6_2).f1)) := (zqe BK222.out 1).trans rfl
                have hcz88_2 : w22.cell? ⟨gb222, 2, none⟩ = some (.int .i64 ((rd_T34 l0_3 x6_2).f2)) := (zqe BK222.out 2).trans rfl
                have hcz88_3 : w22.cell? ⟨gb222, 3, none⟩ = some (.int .i64 ((rd_T34 l0_3 x6_2).f3)) := (zqe BK222.out 3).trans rfl
                have hcz88_4 : w22.cell? ⟨gb222, 4, none⟩ = some (.int .i64 ((rd_T34 l0_3 x6_2).f4)) := (zqe BK222.out 4).trans rfl
                have hcz88_5 : w22.cell? ⟨gb222, 5, none⟩ = some (.int .i64 ((rd_T34 l0_3 x6_2).f5)) := (zqe BK222.out 5).trans rfl
                have hfz88_0 := zqd BK222.out 0
                have hfz88_1 := zqd BK222.out 1
                have hfz88_2 := zqd BK222.out 2
                have hfz88_3 := zqd BK222.out 3
                have hfz88_4 := zqd BK222.out 4
                have hfz88_5 := zqd BK222.out 5
                have p229 : 0 ≤ ((ji83) : Int) := of_decide_eq_true (by first | (with_reducible assumption) | assumption)
                have q229 : (ji83) < (l0_3.length : Int) := of_decide_eq_true (by first | (with_reducible assumption) | assumption)
                obtain ⟨ad229, e229, hx229_0, hx229_1, hx229_2, hx229_3, hx229_4, hx229_5⟩ := at_T34 HR0_3.out (ji83) p229 q229
                obtain rfl : ad221 = ad229 := (by injection e229)
                replace hx229_0 := (HB.out.cell (World.block_lt_of_cell? w _ hx229_0)).trans hx229_0
                replace hx229_1 := (HB.out.cell (World.block_lt_of_cell? w _ hx229_1)).trans hx229_1
                replace hx229_2 := (HB.out.cell (World.block_lt_of_cell? w _ hx229_2)).trans hx229_2
                replace hx229_3 := (HB.out.cell (World.block_lt_of_cell? w _ hx229_3)).trans hx229_3
                replace hx229_4 := (HB.out.cell (World.block_lt_of_cell? w _ hx229_4)).trans hx229_4
                replace hx229_5 := (HB.out.cell (World.block_lt_of_cell? w _ hx229_5)).trans hx229_5
                replace p229 := eq_true p229
                replace q229 := eq_true q229
                go_wp2
                repeat (go_quiet (fail); try go_wp2)
                go_meet
                case rel => exact ⟨_, ((((rd_T34 l0_3 x6_2).f2) != (wrap64 (-((rd_T34 l0_3 (ji83)).f2))))), (by first | rfl | (simp; done) | (simp only [← hji83] <;> (first | rfl | simp)) | (simp [*]; done)), H', ⟨by have := HJ4.out; have := HK2.out; first | omega | exact Nat.le_refl _⟩, ⟨by (with_reducible repeat (first | apply zqa | apply zqb | apply zqc)); exact BK217.out⟩, ⟨by (with_reducible repeat (first | apply zqa | apply zqb | apply zqc)); exact BK222.out⟩, ⟨by repeat (first | (with_reducible first | exact HB.out | apply zqg | apply zqf | apply zqh | refine below_set ?_ GE217.out | refine below_set ?_ GE222.out) | exact HB.out)⟩⟩
               ·
                rw [if_neg c85] at H
                exact absurd H (by simp)
              ·
               rw [if_neg c84] at H
               exact absurd H (by simp)
             ·
              rw [if_neg c82] at H
              have c82b0 : decide (a0_0 < x6_2) = false := decide_eq_false c82
              clear c82
              have H' := zqi H
              clear H
              have hnb89 := NB217_222.out
              have hnc89 := NB222_217.out
              have hcz90_0 : w22.cell? ⟨gb217, 0, none⟩ = some (.int .i64 a0_0) := (zqe BK217.out 0).trans rfl
              have hcz90_1 : w22.cell? ⟨gb217, 1, none⟩ = some (.int .i64 a0_1) := (zqe BK217.out 1).trans rfl
              have hcz90_2 : w22.cell? ⟨gb217, 2, none⟩ = some (.int .i64 a0_2) := (zqe BK217.out 2).trans rfl
              have hcz90_3 : w22.cell? ⟨gb217, 3, none⟩ = some (.slice (some ad221) l0_3.length c0_3) := (zqe BK217.out 3).trans rfl
              have hfz90_0 := zqd BK217.out 0
              have hfz90_1 := zqd BK217.out 1
              have hfz90_2 := zqd BK217.out 2
              have hfz90_3 := zqd BK217.out 3
              go_wp2
              repeat (go_quiet (fail); try go_wp2)
              go_meet
              case rel => exact ⟨_, (false), (by first | rfl | (simp; done) | (simp [*]; done)), H', ⟨by have := HJ4.out; have := HK2.out; first | omega | exact Nat.le_refl _⟩, ⟨by (with_reducible repeat (first | apply zqa | apply zqb | apply zqc)); exact BK217.out⟩, ⟨by (with_reducible repeat (first | apply zqa | apply zqb | apply zqc)); exact BK222.out⟩, ⟨by repeat (first | (with_reducible first | exact HB.out | apply zqg | apply zqf | apply zqh | refine below_set ?_ GE217.out | refine below_set ?_ GE222.out) | exact HB.out)⟩⟩
           ·
            rw [if_neg c68] at H
            have c68b0 : decide (0 < x6_2) = false := decide_eq_false c68
            clear c68
            by_cases c91 : x6_2 > a0_0
            ·
             rw [if_pos c91] at H
             have c91b0 : decide (a0_0 < x6_2) = true := decide_eq_true c91
             clear c91
             obtain ⟨ji92, hji92⟩ : ∃ j_ : Int, (wrap64 (x6_2 - a0_0)) = j_ := ⟨_, rfl⟩
             replace H : (if 0 ≤ (ji92) then (if (ji92) < (l0_3.length : Int) then (haulierref05_May.j2 k2 x6_2 (((rd_T34 l0_3 x6_2).f2) != (wrap64 (-((rd_T34 l0_3 (ji92)).f2)))) a0_0 a0_1 a0_2 l0_3) else (none)) else (none)) = some r := by first | (rw [hji92] at H; exact H) | (simp only [hji92] at H ⊢; exact H)
             have hji92w : (IntKind.i64.wrap (x6_2 - a0_0)) = ji92 := (i64_w _).trans hji92
             by_cases c93 : 0 ≤ (ji92)
             ·
              rw [if_pos c93] at H
              have c93b0 : decide (0 ≤ (ji92)) = true := decide_eq_true c93
              clear c93
              by_cases c94 : (ji92) < (l0_3.length : Int)
              ·
               rw [if_pos c94] at H
               have c94b0 : decide ((ji92) < (l0_3.length : Int)) = true := decide_eq_true c94
               clear c94
               have H' := zqi H
               clear H
               have hnb95 := NB217_222.out
               have hnc95 := NB222_217.out
               have hcz96_0 : w22.cell? ⟨gb217, 0, none⟩ = some (.int .i64 a0_0) := (zqe BK217.out 0).trans rfl
               have hcz96_1 : w22.cell? ⟨gb217, 1, none⟩ = some (.int .i64 a0_1) := (zqe BK217.out 1).trans rfl
               have hcz96_2 : w22.cell? ⟨gb217, 2, none⟩ = some (.int .i64 a0_2) := (zqe BK217.out 2).trans rfl
               have hcz96_3 : w22.cell? ⟨gb217, 3, none⟩ = some (.slice (some ad221) l0_3.length c0_3) := (zqe BK217.out 3).trans rfl
               have hfz96_0 := zqd BK217.out 0
               have hfz96_1 := zqd BK217.out 1
               have hfz96_2 := zqd BK217.out 2
               have hfz96_3 := zqd BK217.out 3
               have hcz97_0 : w22.cell? ⟨gb222, 0, none⟩ = some (.int .i64 ((rd_T34 l0_3 x6_2).f0)) := (zqe BK222.out 0).trans rfl
               have hcz97_1 : w22.cell? ⟨gb222, 1, none⟩ = some (.int .i64 ((rd_T34 l0_3 x6_2).f1)) := (zqe BK222.out 1).trans rfl
               have hcz97_2 : w22.cell? ⟨gb222, 2, none⟩ = some (.int .i64 ((rd_T34 l0_3 x6_2).f2)) := (zqe BK222.out 2).trans rfl
               have hcz97_3 : w22.cell? ⟨gb222, 3, none⟩ = some (.int .i64 ((rd_T34 l0_3 x6_2).f3)) := (zqe BK222.out 3).trans rfl
               have hcz97_4 : w22.cell? ⟨gb222, 4, none⟩ = some (.int .i64 ((rd_T34 l0_3 x6_2).f4)) := (zqe BK222.out 4).trans rfl
               have hcz97_5 : w22.cell? ⟨gb222, 5, none⟩ = some (.int .i64 ((rd_T34 l0_3 x6_2).f5)) := (zqe BK222.out 5).trans rfl
               have hfz97_0 := zqd BK222.out 0
               have hfz97_1 := zqd BK222.out 1
               have hfz97_2 := zqd BK222.out 2
               have hfz97_3 := zqd BK222.out 3
               have hfz97_4 := zqd BK222.out 4
               have hfz97_5 := zqd BK222.out 5
               have p230 : 0 ≤ ((ji92) : Int) := of_decide_eq_true (by first | (with_reducible assumption) | assumption)
               have q230 : (ji92) < (l0_3.length : Int) := of_decide_eq_true (by first | (with_reducible assumption) | assumption)
               obtain ⟨ad230, e230, hx230_0, hx230_1, hx230_2, hx230_3, hx230_4, hx230_5⟩ := at_T34 HR0_3.out (ji92) p230 q230
               obtain rfl : ad221 = ad230 := (by injection e230)
               replace hx230_0 := (HB.out.cell (World.block_lt_of_cell? w _ hx230_0)).trans hx230_0
               replace hx230_1 := (HB.out.cell (World.block_lt_of_cell? w _ hx230_1)).trans hx230_1
               replace hx230_2 := (HB.out.cell (World.block_lt_of_cell? w _ hx230_2)).trans hx230_2
               replace hx230_3 := (HB.out.cell (World.block_lt_of_cell? w _ hx230_3)).trans hx230_3
               replace hx230_4 := (HB.out.cell (World.block_lt_of_cell? w _ hx230_4)).trans hx230_4
               replace hx230_5 := (HB.out.cell (World.block_lt_of_cell? w _ hx230_5)).trans hx230_5
               replace p230 := eq_true p230
               replace q230 := eq_true q230
               go_wp2
               repeat (go_quiet (fail); try go_wp2)
               go_meet
               case rel => exact ⟨_, ((((rd_T34 l0_3 x6_2).f2) != (wrap64 (-((rd_T34 l0_3 (ji92)).f2))))), (by first | rfl | (simp; done) | (simp only [← hji92] <;> (first | rfl | simp)) | (simp [*]; done)), H', ⟨by have := HJ4.out; have := HK2.out; first | omega | exact Nat.le_refl _⟩, ⟨by (with_reducible repeat (first | apply zqa | apply zqb | apply zqc)); exact BK217.out⟩, ⟨by (with_reducible repeat (first | apply zqa | apply zqb | apply zqc)); exact BK222.out⟩, ⟨by repeat (first | (with_reducible first | exact HB.out | apply zqg | apply zqf | apply zqh | refine below_set ?_ GE217.out | refine below_set ?_ GE222.out) | exact HB.out)⟩⟩
              ·
               rw [if_neg c94] at H
               exact absurd H (by simp)
             ·
              rw [if_neg c93] at H
              exact absurd H (by simp)
            ·
             rw [if_neg c91] at H
             have c91b0 : decide (a0_0 < x6_2) = false := decide_eq_false c91
             clear c91
             have H' := zqi H
             clear H
             have hnb98 := NB217_222.out
             have hnc98 := NB222_217.out
             have hcz99_0 : w22.cell? ⟨gb217, 0, none⟩ = some (.int .i64 a0_0) := (zqe BK217.out 0).trans rfl
             have hcz99_1 : w22.cell? ⟨gb217, 1, none⟩ = some (.int .i64 a0_1) := (zqe BK217.out 1).trans rfl
             have hcz99_2 : w22.cell? ⟨gb217, 2, none⟩ = some (.int .i64 a0_2) := (zqe BK217.out 2).trans rfl
             have hcz99_3 : w22.cell? ⟨gb217, 3, none⟩ = some (.slice (some ad221) l0_3.length c0_3) := (zqe BK217.out 3).trans rfl
             have hfz99_0 := zqd BK217.out 0
             have hfz99_1 := zqd BK217.out 1
             have hfz99_2 := zqd BK217.out 2
             have hfz99_3 := zqd BK217.out 3
             go_wp2
             repeat (go_quiet (fail); try go_wp2)
             go_meet
             case rel => exact ⟨_, (false), (by first | rfl | (simp; done) | (simp [*]; done)), H', ⟨by have := HJ4.out; have := HK2.out; first | omega | exact Nat.le_refl _⟩, ⟨by (with_reducible repeat (first | apply zqa | apply zqb | apply zqc)); exact BK217.out⟩, ⟨by (with_reducible repeat (first | apply zqa | apply zqb | apply zqc)); exact BK222.out⟩, ⟨by repeat (first | (with_reducible first | exact HB.out | apply zqg | apply zqf | apply zqh | refine below_set ?_ GE217.out | refine below_set ?_ GE222.out) | exact HB.out)⟩⟩
         ·
          replace c24 := Bool.eq_false_iff.mpr c24
          subst c24
          have H1 : (haulierref05_May.j2 k2 x6_2 true a0_0 a0_1 a0_2 l0_3) = some r := by rw [if_neg (show ¬ (false = true) by decide)] at H; exact H
          clear H
          have H := H1
          clear H1
          have H' := zqi H
          clear H
          go_wp2
          repeat (go_quiet (fail); try go_wp2)
          go_meet
          case rel => exact ⟨_, (true), (by first | rfl | (simp; done) | (simp [*]; done)), H', ⟨by have := HJ4.out; have := HK2.out; first | omega | exact Nat.le_refl _⟩, ⟨by (with_reducible repeat (first | apply zqa | apply zqb | apply zqc)); exact BK217.out⟩, ⟨by (with_reducible repeat (first | apply zqa | apply zqb | apply zqc)); exact BK222.out⟩, ⟨by repeat (first | (with_reducible first | exact HB.out | apply zqg | apply zqf | apply zqh | refine below_set ?_ GE217.out | refine below_set ?_ GE222.out) | exact HB.out)⟩⟩
        case rest =>
         clear HC17
         try clear c2
         try clear p2
         try clear q2
         try clear hx2
         try clear c3
         try clear c4
         try clear c5
         try clear c6
         try clear p6
         try clear c7
         try clear c8
         try clear c9
         try clear p22
         try clear q22
         try clear hx22
         try clear p23
         try clear q23
         try clear hx23
         try clear c24
         try clear c25
         try clear c25b0
         try clear c25b1
         try clear c26
         try clear c26b0
         try clear c26b1
         try clear c27
         try clear c27b0
         try clear c27b1
         try clear c28
         try clear c28b0
         try clear c29
         try clear c29b0
         try clear c30
         try clear c31
         try clear c31b0
         try clear c33
         try clear c34
         try clear c38
         try clear c41
         try clear c44
         try clear c44b0
         try clear c46
         try clear c46b0
         try clear c47
         try clear c47b0
         try clear c48
         try clear c51
         try clear c54
         try clear c54b0
         try clear c56
         try clear c56b0
         try clear c57
         try clear c57b0
         try clear c58
         try clear c61
         try clear c64
         try clear p64
         try clear c66
         try clear c68
         try clear c68b0
         try clear c69
         try clear c69b0
         try clear c70
         try clear c71
         try clear c71b0
         try clear c73
         try clear c73b0
         try clear c74
         try clear c74b0
         try clear c75
         try clear c78
         try clear c80
         try clear c82
         try clear c82b0
         try clear c84
         try clear c84b0
         try clear c85
         try clear c85b0
         try clear c86
         try clear c89
         try clear c91
         try clear c91b0
         try clear c93
         try clear c93b0
         try clear c94
         try clear c94b0
         try clear c95
         try clear c98
         try clear hcz39_0
         try clear hcz39_1
         try clear hcz39_2
         try clear hcz39_3
         try clear hcz39_4
         try clear hcz39_5
         try clear hcz40_0
         try clear hcz40_1
         try clear hcz40_2
         try clear hcz40_3
         try clear hcz42_0
         try clear hcz42_1
         try clear hcz42_2
         try clear hcz42_3
         try clear hcz42_4
         try clear hcz42_5
         try clear hcz43_0
         try clear hcz43_1
         try clear hcz43_2
         try clear hcz43_3
         try clear hcz49_0
         try clear hcz49_1
         try clear hcz49_2
         try clear hcz49_3
         try clear hcz49_4
         try clear hcz49_5
         try clear hcz50_0
         try clear hcz50_1
         try clear hcz50_2
         try clear hcz50_3
         try clear hcz52_0
         try clear hcz52_1
         try clear hcz52_2
         try clear hcz52_3
         try clear hcz52_4
         try clear hcz52_5
         try clear hcz53_0
         try clear hcz53_1
         try clear hcz53_2
         try clear hcz53_3
         try clear hcz59_0
         try clear hcz59_1
         try clear hcz59_2
         try clear hcz59_3
         try clear hcz59_4
         try clear hcz59_5
         try clear hcz60_0
         try clear hcz60_1
         try clear hcz60_2
         try clear hcz60_3
         try clear hcz62_0
         try clear hcz62_1
         try clear hcz62_2
         try clear hcz62_3
         try clear hcz62_4
         try clear hcz62_5
         try clear hcz63_0
         try clear hcz63_1
         try clear hcz63_2
         try clear hcz63_3
         try clear hcz65_0
         try clear hcz65_1
         try clear hcz65_2
         try clear hcz65_3
         try clear hcz65_4
         try clear hcz65_5
         try clear hcz67_0
         try clear hcz67_1
         try clear hcz67_2
         try clear hcz67_3
         try clear hcz67_4
         try clear hcz67_5
         try clear hcz76_0
         try clear hcz76_1
         try clear hcz76_2
         try clear hcz76_3
         try clear hcz77_0
         try clear hcz77_1
         try clear hcz77_2
         try clear hcz77_3
         try clear hcz77_4
         try clear hcz77_5
         try clear hcz79_0
         try clear hcz79_1
         try clear hcz79_2
         try clear hcz79_3
         try clear hcz81_0
         try clear hcz81_1
         try clear hcz81_2
         try clear hcz81_3
         try clear hcz87_0
         try clear hcz87_1
         try clear hcz87_2
         try clear hcz87_3
         try clear hcz88_0
         try clear hcz88_1
         try clear hcz88_2
         try clear hcz88_3
         try clear hcz88_4
         try clear hcz88_5
         try clear hcz90_0
         try clear hcz90_1
         try clear hcz90_2
         try clear hcz90_3
         try clear hcz96_0
         try clear hcz96_1
         try clear hcz96_2
         try clear hcz96_3
         try clear hcz97_0
         try clear hcz97_1
         try clear hcz97_2
         try clear hcz97_3
         try clear hcz97_4
         try clear hcz97_5
         try clear hcz99_0
         try clear hcz99_1
         try clear hcz99_2
         try clear hcz99_3
         try clear hfz39_0
         try clear hfz39_1
         try clear hfz39_2
         try clear hfz39_3
         try clear hfz39_4
         try clear hfz39_5
         try clear hfz40_0
         try clear hfz40_1
         try clear hfz40_2
         try clear hfz40_3
         try clear hfz42_0
         try clear hfz42_1
         try clear hfz42_2
         try clear hfz42_3
         try clear hfz42_4
         try clear hfz42_5
         try clear hfz43_0
         try clear hfz43_1
         try clear hfz43_2
         try clear hfz43_3
         try clear hfz49_0
         try clear hfz49_1
         try clear hfz49_2
         try clear hfz49_3
         try clear hfz49_4
         try clear hfz49_5
         try clear hfz50_0
         try clear hfz50_1
         try clear hfz50_2
         try clear hfz50_3
         try clear hfz52_0
         try clear hfz52_1
         try clear hfz52_2
         try clear hfz52_3
         try clear hfz52_4
         try clear hfz52_5
         try clear hfz53_0
         try clear hfz53_1
         try clear hfz53_2
         try clear hfz53_3
         try clear hfz59_0
         try clear hfz59_1
         try clear hfz59_2
         try clear hfz59_3
         try clear hfz59_4
         try clear hfz59_5
         try clear hfz60_0
         try clear hfz60_1
         try clear hfz60_2
         try clear hfz60_3
         try clear hfz62_0
         try clear hfz62_1
         try clear hfz62_2
         try clear hfz62_3
         try clear hfz62_4
         try clear hfz62_5
         try clear hfz63_0
         try clear hfz63_1
         try clear hfz63_2
         try clear hfz63_3
         try clear hfz65_0
         try clear hfz65_1
         try clear hfz65_2
         try clear hfz65_3
         try clear hfz65_4
         try clear hfz65_5
         try clear hfz67_0
         try clear hfz67_1
         try clear hfz67_2
         try clear hfz67_3
         try clear hfz67_4
         try clear hfz67_5
         try clear hfz76_0
         try clear hfz76_1
         try clear hfz76_2
         try clear hfz76_3
         try clear hfz77_0
         try clear hfz77_1
         try clear hfz77_2
         try clear hfz77_3
         try clear hfz77_4
         try clear hfz77_5
         try clear hfz79_0
         try clear hfz79_1
         try clear hfz79_2
         try clear hfz79_3
         try clear hfz81_0
         try clear hfz81_1
         try clear hfz81_2
         try clear hfz81_3
         try clear hfz87_0
         try clear hfz87_1
         try clear hfz87_2
         try clear hfz87_3
         try clear hfz88_0
         try clear hfz88_1
         try clear hfz88_2
         try clear hfz88_3
         try clear hfz88_4
         try clear hfz88_5
         try clear hfz90_0
         try clear hfz90_1
         try clear hfz90_2
         try clear hfz90_3
         try clear hfz96_0
         try clear hfz96_1
         try clear hfz96_2
         try clear hfz96_3
         try clear hfz97_0
         try clear hfz97_1
         try clear hfz97_2
         try clear hfz97_3
         try clear hfz97_4
         try clear hfz97_5
         try clear hfz99_0
         try clear hfz99_1
         try clear hfz99_2
         try clear hfz99_3
         try clear hx226_0
         try clear hx226_1
         try clear hx226_2
         try clear hx226_3
         try clear hx226_4
         try clear hx226_5
         try clear hx227_0
         try clear hx227_1
         try clear hx227_2
         try clear hx227_3
         try clear hx227_4
         try clear hx227_5
         try clear hx228_0
         try clear hx228_1
         try clear hx228_2
         try clear hx228_3
         try clear hx228_4
         try clear hx228_5
         try clear hx229_0
         try clear hx229_1
         try clear hx229_2
         try clear hx229_3
         try clear hx229_4
         try clear hx229_5
         try clear hx230_0
         try clear hx230_1
         try clear hx230_2
         try clear hx230_3
         try clear hx230_4
         try clear hx230_5
         try clear p226
         try clear p227
         try clear p228
         try clear p229
         try clear p230
         try clear q225
         try clear q226
         try clear q227
         try clear q228
         try clear q229
         try clear q230
         obtain ⟨kq, x106_16, rfl, HA, HJ16, BK217, BK222, HB⟩ := hcut
         cases kq with
         | zero => exact absurd HA.out (by simp [haulierref05_May.j2])
         | succ kj16 =>
          have H := HA.out
          clear HA
          simp only [haulierref05_May.j2] at H
          by_cases c100 : x106_16 = true
          ·
           subst c100
           have H1 : (some false) = some r := by rw [if_pos rfl] at H; exact H
           clear H
           have H := H1
           clear H1
           obtain rfl := Option.some.inj H
           go_wp2
           repeat (go_quiet (fail); try go_wp2)
           go_ret
           exact ⟨by first | rfl | (simp [errW_none, errW_some] <;> rfl) | (simp [*, errW_none, errW_some] <;> rfl), by repeat (first | (with_reducible first | exact HB.out | apply zqg | apply zqf | apply zqh | refine below_set ?_ GE217.out | refine below_set ?_ GE222.out) | exact HB.out)⟩
          ·
           replace c100 := Bool.eq_false_iff.mpr c100
           subst c100
           have H1 : (haulierref05_May.l0 kj16 (wrap64 (x6_2 + 1)) a0_0 a0_1 a0_2 l0_3) = some r := by rw [if_neg (show ¬ (false = true) by decide)] at H; exact H
           clear H
           have H := H1
           clear H1
           have H' := zqi H
           clear H
           go_wp2
           repeat (go_quiet (fail); try go_wp2)
           go_roundg kj16
           case measure => have := HJ4.out; have := HK2.out; have := HJ16.out; omega
           case rel => exact ⟨(wrap64 (x6_2 + 1)), (by first | rfl | (simp; done) | (simp [*]; done)), H', ⟨by have := HJ4.out; have := HK2.out; have := HJ16.out; omega⟩, ⟨by (with_reducible repeat (first | apply zqa | apply zqb | apply zqc)); exact BK217.out⟩, ⟨by repeat (first | (with_reducible first | exact HB.out | apply zqg | apply zqf | apply zqh | refine below_set ?_ GE217.out | refine below_set ?_ GE222.out) | exact HB.out)⟩⟩
       ·
        rw [if_neg c14] at H
        exact absurd H (by simp)
      ·
       rw [if_neg c13] at H
       have c13b0 : decide (x6_2 < (l0_3.length : Int)) = false := decide_eq_false c13
       clear c13
       obtain rfl := Option.some.inj H
       have hcz101_0 : wr.cell? ⟨gb217, 0, none⟩ = some (.int .i64 a0_0) := (zqe BK217.out 0).trans rfl
       have hcz101_1 : wr.cell? ⟨gb217, 1, none⟩ = some (.int .i64 a0_1) := (zqe BK217.out 1).trans rfl
       have hcz101_2 : wr.cell? ⟨gb217, 2, none⟩ = some (.int .i64 a0_2) := (zqe BK217.out 2).trans rfl
       have hcz101_3 : wr.cell? ⟨gb217, 3, none⟩ = some (.slice A0_3 l0_3.length c0_3) := (zqe BK217.out 3).trans rfl
       have hfz101_0 := zqd BK217.out 0
       have hfz101_1 := zqd BK217.out 1
       have hfz101_2 := zqd BK217.out 2
       have hfz101_3 := zqd BK217.out 3
       go_wp2
       repeat (go_quiet (fail); try go_wp2)
       go_ret
       exact ⟨by first | rfl | (simp [errW_none, errW_some] <;> rfl) | (simp [*, errW_none, errW_some] <;> rfl), by repeat (first | (with_reducible first | exact HB.out | apply zqg | apply zqf | apply zqh | refine below_set ?_ GE217.out) | exact HB.out)⟩

end Go.Proofs.YtifekgemngfidaaDoor.PA
