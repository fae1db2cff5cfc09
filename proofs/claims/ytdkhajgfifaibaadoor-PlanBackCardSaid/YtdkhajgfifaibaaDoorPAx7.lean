-- Printed for this claim by wip/tools/xprint.py over the kit's print; the contracts marked BY HAND are this session's own.
import Derived.Test.YtdkhajgfifaibaaDoorPAx0
import Derived.Test.YtdkhajgfifaibaaDoorPAx6
namespace Go.Proofs.YtdkhajgfifaibaaDoor.PA
open Go.RowKit Go.Proofs.YtdkhajgfifaibaaDoorW.PrintWords Go.Proofs.YtdkhajgfifaibaaDoorW.PrintLast Go.Proofs.YtdkhajgfifaibaaDoorW.PrintMore
attribute [local go_sem] max2_int min2_int max_two min_two max_three min_three max_four min_four   -- for this text's walks alone
set_option linter.unusedVariables false
set_option linter.unusedSimpArgs false

/-! ### inst_May: function 34 -/
mutual
def inst_May.j0 : Nat → Bool → Int → Int → Int → List (S58) → Option (Bool)
  | 0, _, _, _, _, _ => none
  | k + 1, x33, x128000, x128001, x128002, x128003 => if x33 = true then (some false) else (inst_May.l0 k x128003 (x128003.length : Int) 0 x128000 x128001 x128002 x128003)
def inst_May.l0 : Nat → List (S58) → Int → Int → Int → Int → Int → List (S58) → Option (Bool)
  | 0, _, _, _, _, _, _, _ => none
  | k + 1, x35, x36, x37, x128000, x128001, x128002, x128003 => if x37 < x36 then (if 0 ≤ x37 then (if x37 < (x35.length : Int) then ((inst_between.f k 0 10000 (([(rd_T58 x35 x37).f0, (rd_T58 x35 x37).f1] : List Int))).bind fun t145 => (if t145 = true then ((inst_between.f k 0 1048576 (([(rd_T58 x35 x37).f3, (rd_T58 x35 x37).f4] : List Int))).bind fun t149 => (if t149 = true then (if ((rd_T58 x35 x37).f4) < ((rd_T58 x35 x37).f3) then (inst_May.j2 k x37 x35 x36 x37 true x128000 x128001 x128002 x128003 ((rd_T58 x35 x37).f0) ((rd_T58 x35 x37).f1) ((rd_T58 x35 x37).f2) ((rd_T58 x35 x37).f3) ((rd_T58 x35 x37).f4) ((rd_T58 x35 x37).f5)) else ((inst_between.f k 0 1000 (([(rd_T58 x35 x37).f5] : List Int))).bind fun t153 => (inst_May.j2 k x37 x35 x36 x37 (!t153) x128000 x128001 x128002 x128003 ((rd_T58 x35 x37).f0) ((rd_T58 x35 x37).f1) ((rd_T58 x35 x37).f2) ((rd_T58 x35 x37).f3) ((rd_T58 x35 x37).f4) ((rd_T58 x35 x37).f5)))) else (inst_May.j2 k x37 x35 x36 x37 true x128000 x128001 x128002 x128003 ((rd_T58 x35 x37).f0) ((rd_T58 x35 x37).f1) ((rd_T58 x35 x37).f2) ((rd_T58 x35 x37).f3) ((rd_T58 x35 x37).f4) ((rd_T58 x35 x37).f5)))) else (inst_May.j2 k x37 x35 x36 x37 true x128000 x128001 x128002 x128003 ((rd_T58 x35 x37).f0) ((rd_T58 x35 x37).f1) ((rd_T58 x35 x37).f2) ((rd_T58 x35 x37).f3) ((rd_T58 x35 x37).f4) ((rd_T58 x35 x37).f5)))) else (none)) else (none)) else (some true)
def inst_May.j2 : Nat → Int → List (S58) → Int → Int → Bool → Int → Int → Int → List (S58) → Int → Int → Int → Int → Int → Int → Option (Bool)
  | 0, _, _, _, _, _, _, _, _, _, _, _, _, _, _, _ => none
  | k + 1, x3, x35, x36, x37, x71, x128000, x128001, x128002, x128003, x142000, x142001, x142002, x142003, x142004, x142005 => if x71 = true then (some false) else (if x3 = 0 then (if x142002 = 0 then (if x142005 = 0 then (inst_May.l0 k x35 x36 (wrap64 (x37 + 1)) x128000 x128001 x128002 x128003) else (some false)) else (some false)) else (if x3 ≤ x128000 then ((inst_between.f k 1 1000 (([x142002] : List Int))).bind fun t157 => (if t157 = true then (inst_May.l0 k x35 x36 (wrap64 (x37 + 1)) x128000 x128001 x128002 x128003) else (some false))) else (if 0 ≤ (wrap64 (x3 - x128000)) then (if (wrap64 (x3 - x128000)) < (x128003.length : Int) then (if x142002 = (wrap64 (-((rd_T58 x128003 (wrap64 (x3 - x128000))).f2))) then (inst_May.l0 k x35 x36 (wrap64 (x37 + 1)) x128000 x128001 x128002 x128003) else (some false)) else (none)) else (none))))
end
def inst_May.f (k : Nat) (a0_0 : Int) (a0_1 : Int) (a0_2 : Int) (l0_3 : List (S58)) : Option (Bool) := (inst_between.f k 0 16 (([a0_0] : List Int))).bind fun t131 => (if t131 = true then ((inst_between.f k 1 8 (([a0_1] : List Int))).bind fun t135 => (if t135 = true then ((inst_between.f k 1 1000 (([a0_2] : List Int))).bind fun t139 => (if t139 = true then (inst_May.j0 k ((l0_3.length : Int) != (wrap64 ((wrap64 (2 * a0_0)) + 1))) a0_0 a0_1 a0_2 l0_3) else (inst_May.j0 k true a0_0 a0_1 a0_2 l0_3))) else (inst_May.j0 k true a0_0 a0_1 a0_2 l0_3))) else (inst_May.j0 k true a0_0 a0_1 a0_2 l0_3))
theorem inst_May.mono_l : ∀ k, (∀ y0 y1 y2 y3 y4, LeO (inst_May.j0 k y0 y1 y2 y3 y4) (inst_May.j0 (k + 1) y0 y1 y2 y3 y4)) ∧ (∀ y0 y1 y2 y3 y4 y5 y6, LeO (inst_May.l0 k y0 y1 y2 y3 y4 y5 y6) (inst_May.l0 (k + 1) y0 y1 y2 y3 y4 y5 y6)) ∧ (∀ y0 y1 y2 y3 y4 y5 y6 y7 y8 y9 y10 y11 y12 y13 y14, LeO (inst_May.j2 k y0 y1 y2 y3 y4 y5 y6 y7 y8 y9 y10 y11 y12 y13 y14) (inst_May.j2 (k + 1) y0 y1 y2 y3 y4 y5 y6 y7 y8 y9 y10 y11 y12 y13 y14))
  | 0 => ⟨fun _ _ _ _ _ r h => by simp [inst_May.j0] at h, fun _ _ _ _ _ _ _ r h => by simp [inst_May.l0] at h, fun _ _ _ _ _ _ _ _ _ _ _ _ _ _ _ r h => by simp [inst_May.j2] at h⟩
  | k + 1 => by
    obtain ⟨ih0, ih1, ih2⟩ := inst_May.mono_l k
    refine ⟨?_, ?_, ?_⟩
    · intro y0 y1 y2 y3 y4
      unfold inst_May.j0
      repeat' first
      | (with_reducible exact ih0 _ _ _ _ _)
      | (with_reducible exact ih1 _ _ _ _ _ _ _)
      | (with_reducible exact ih2 _ _ _ _ _ _ _ _ _ _ _ _ _ _ _)
      | (with_reducible exact inst_between.mono _ _ _ _)
      | (with_reducible exact LeO.refl _)
      | (with_reducible exact LeO.none _)
      | (with_reducible refine LeO.ite ?_ ?_)
      | (with_reducible refine LeO.bind ?_ (fun _ => ?_))
      | exact ih0 _ _ _ _ _
      | exact ih1 _ _ _ _ _ _ _
      | exact ih2 _ _ _ _ _ _ _ _ _ _ _ _ _ _ _
      | exact inst_between.mono _ _ _ _
      | exact LeO.none _
      | refine LeO.ite ?_ ?_
      | refine LeO.bind ?_ (fun _ => ?_)
    · intro y0 y1 y2 y3 y4 y5 y6
      unfold inst_May.l0
      repeat' first
      | (with_reducible exact ih0 _ _ _ _ _)
      | (with_reducible exact ih1 _ _ _ _ _ _ _)
      | (with_reducible exact ih2 _ _ _ _ _ _ _ _ _ _ _ _ _ _ _)
      | (with_reducible exact inst_between.mono _ _ _ _)
      | (with_reducible exact LeO.refl _)
      | (with_reducible exact LeO.none _)
      | (with_reducible refine LeO.ite ?_ ?_)
      | (with_reducible refine LeO.bind ?_ (fun _ => ?_))
      | exact ih0 _ _ _ _ _
      | exact ih1 _ _ _ _ _ _ _
      | exact ih2 _ _ _ _ _ _ _ _ _ _ _ _ _ _ _
      | exact inst_between.mono _ _ _ _
      | exact LeO.none _
      | refine LeO.ite ?_ ?_
      | refine LeO.bind ?_ (fun _ => ?_)
    · intro y0 y1 y2 y3 y4 y5 y6 y7 y8 y9 y10 y11 y12 y13 y14
      unfold inst_May.j2
      repeat' first
      | (with_reducible exact ih0 _ _ _ _ _)
      | (with_reducible exact ih1 _ _ _ _ _ _ _)
      | (with_reducible exact ih2 _ _ _ _ _ _ _ _ _ _ _ _ _ _ _)
      | (with_reducible exact inst_between.mono _ _ _ _)
      | (with_reducible exact LeO.refl _)
      | (with_reducible exact LeO.none _)
      | (with_reducible refine LeO.ite ?_ ?_)
      | (with_reducible refine LeO.bind ?_ (fun _ => ?_))
      | exact ih0 _ _ _ _ _
      | exact ih1 _ _ _ _ _ _ _
      | exact ih2 _ _ _ _ _ _ _ _ _ _ _ _ _ _ _
      | exact inst_between.mono _ _ _ _
      | exact LeO.none _
      | refine LeO.ite ?_ ?_
      | refine LeO.bind ?_ (fun _ => ?_)
theorem inst_May.mono : ∀ a0 a1 a2 a3 k, LeO (inst_May.f k a0 a1 a2 a3) (inst_May.f (k + 1) a0 a1 a2 a3) := by
  intro a0 a1 a2 a3 k
  obtain ⟨ih0, ih1, ih2⟩ := inst_May.mono_l k
  unfold inst_May.f
  repeat' first
      | (with_reducible exact ih0 _ _ _ _ _)
      | (with_reducible exact ih1 _ _ _ _ _ _ _)
      | (with_reducible exact ih2 _ _ _ _ _ _ _ _ _ _ _ _ _ _ _)
      | (with_reducible exact inst_between.mono _ _ _ _)
      | (with_reducible exact LeO.refl _)
      | (with_reducible exact LeO.none _)
      | (with_reducible refine LeO.ite ?_ ?_)
      | (with_reducible refine LeO.bind ?_ (fun _ => ?_))
      | exact ih0 _ _ _ _ _
      | exact ih1 _ _ _ _ _ _ _
      | exact ih2 _ _ _ _ _ _ _ _ _ _ _ _ _ _ _
      | exact inst_between.mono _ _ _ _
      | exact LeO.none _
      | refine LeO.ite ?_ ?_
      | refine LeO.bind ?_ (fun _ => ?_)
set_option maxHeartbeats 16000000 in
set_option maxRecDepth 100000 in
theorem inst_May.calls (k : Nat) (a0_0 : Int) (a0_1 : Int) (a0_2 : Int) (A0_3 : Option Addr) (c0_3 : Nat) (l0_3 : List (S58)) (r : Bool) (w : World) (hr0_3 : Kd.C k58 w A0_3 l0_3.length l0_3) (hc0_3 : l0_3.length ≤ c0_3) (h : inst_May.f k a0_0 a0_1 a0_2 l0_3 = some r) :
  Calls Tryd.prog 34 #[.agg #[.int .i64 a0_0, .int .i64 a0_1, .int .i64 a0_2, .slice A0_3 l0_3.length c0_3]] w fun e w' => e = .returned (.bool r) ∧ Below w.heap.size w w' := by
 have hu39 := Tryd.underlying39
 have hu58 := Tryd.underlying58
 have HR0_3 := zqi hr0_3
 have HC0_3 := zqi hc0_3
 clear hr0_3 hc0_3
 have HB := zqi (Below.refl w.heap.size w)
 have H : ((inst_between.f k 0 16 (([a0_0] : List Int))).bind fun t131 => (if t131 = true then ((inst_between.f k 1 8 (([a0_1] : List Int))).bind fun t135 => (if t135 = true then ((inst_between.f k 1 1000 (([a0_2] : List Int))).bind fun t139 => (if t139 = true then (inst_May.j0 k ((l0_3.length : Int) != (wrap64 ((wrap64 (2 * a0_0)) + 1))) a0_0 a0_1 a0_2 l0_3) else (inst_May.j0 k true a0_0 a0_1 a0_2 l0_3))) else (inst_May.j0 k true a0_0 a0_1 a0_2 l0_3))) else (inst_May.j0 k true a0_0 a0_1 a0_2 l0_3))) = some r := h
 clear h
 have HC2 := zqi H
 clear H
 go_enter Tryd.func34, Tryd.ntmps34
 go_upto_region 1 with (first | ((with_reducible refine gate_dst (N := 1) rfl ?_); (try (refine gate_guard (by rfl) ?_; dsimp only)); refine box_event ?hg (N := 1) ?hd (cs := #[.int .i64 a0_0, .int .i64 a0_1, .int .i64 a0_2, .slice A0_3 l0_3.length c0_3]) (t := 39) ?hr ?_; (case hd => rfl); (case hg => rfl); (case hr => first | (go_simp; done) | (go_simp; rfl)); intro gb127 hg w3 hbox hb; have n0_ := zqi (below_step (zqn HB.out) hb); have n1_ := zqi (hbox); have n2_ := zqi (zqo hg HB.out); have n3_ := zqi (zqo hg HB.out); clear HB; have HB := n0_; have BK127 := n1_; have GW127 := n2_; have GE127 := n3_; clear n0_ n1_ n2_ n3_; clear hb hbox hg))
 repeat (go_quiet (first | ((with_reducible refine gate_dst (N := 1) rfl ?_); (try (refine gate_guard (by rfl) ?_; dsimp only)); refine box_event ?hg (N := 1) ?hd (cs := #[.int .i64 a0_0, .int .i64 a0_1, .int .i64 a0_2, .slice A0_3 l0_3.length c0_3]) (t := 39) ?hr ?_; (case hd => rfl); (case hg => rfl); (case hr => first | (go_simp; done) | (go_simp; rfl)); intro gb127 hg w3 hbox hb; have n0_ := zqi (below_step (zqn HB.out) hb); have n1_ := zqi (hbox); have n2_ := zqi (zqo hg HB.out); have n3_ := zqi (zqo hg HB.out); clear HB; have HB := n0_; have BK127 := n1_; have GW127 := n2_; have GE127 := n3_; clear n0_ n1_ n2_ n3_; clear hb hbox hg)); go_upto_region 1 with (first | ((with_reducible refine gate_dst (N := 1) rfl ?_); (try (refine gate_guard (by rfl) ?_; dsimp only)); refine box_event ?hg (N := 1) ?hd (cs := #[.int .i64 a0_0, .int .i64 a0_1, .int .i64 a0_2, .slice A0_3 l0_3.length c0_3]) (t := 39) ?hr ?_; (case hd => rfl); (case hg => rfl); (case hr => first | (go_simp; done) | (go_simp; rfl)); intro gb127 hg w3 hbox hb; have n0_ := zqi (below_step (zqn HB.out) hb); have n1_ := zqi (hbox); have n2_ := zqi (zqo hg HB.out); have n3_ := zqi (zqo hg HB.out); clear HB; have HB := n0_; have BK127 := n1_; have GW127 := n2_; have GE127 := n3_; clear n0_ n1_ n2_ n3_; clear hb hbox hg)))
 (try simp only [Act.put, List.setIfInBounds_toArray, List.set_cons_zero, List.set_cons_succ])
 go_cut [33] (fun v33 wc => ∃ (kq : Nat) (x33_1 : Bool), v33 = .bool x33_1 ∧ Aside0 (inst_May.j0 kq x33_1 a0_0 a0_1 a0_2 l0_3 = some r) ∧ Aside0 (kq ≤ k) ∧ Aside0 (wc.heap[gb127]? = some (.cells #[.int .i64 a0_0, .int .i64 a0_1, .int .i64 a0_2, (.slice A0_3 l0_3.length c0_3)] 39 (0, 0))) ∧ Aside0 (Below w.heap.size w wc))
 case first =>
  have H := HC2.out
  clear HC2
  obtain ⟨y128, hy128⟩ : ∃ y_ : List Int, y_ = (([a0_0] : List Int)) := ⟨_, rfl⟩
  replace H : ((inst_between.f k 0 16 y128).bind fun t131 => (if t131 = true then ((inst_between.f k 1 8 (([a0_1] : List Int))).bind fun t135 => (if t135 = true then ((inst_between.f k 1 1000 (([a0_2] : List Int))).bind fun t139 => (if t139 = true then (inst_May.j0 k ((l0_3.length : Int) != (wrap64 ((wrap64 (2 * a0_0)) + 1))) a0_0 a0_1 a0_2 l0_3) else (inst_May.j0 k true a0_0 a0_1 a0_2 l0_3))) else (inst_May.j0 k true a0_0 a0_1 a0_2 l0_3))) else (inst_May.j0 k true a0_0 a0_1 a0_2 l0_3))) = some r := by first | (rw [hy128]; with_reducible exact H) | (have H2_ := (Option.bind_some _ _).symm.trans H; rw [hy128]; with_reducible exact H2_) | (have H2_ := (Option.bind_some _ _).symm.trans H; with_reducible exact H2_) | with_reducible exact H | (rw [hy128]; exact H) | exact H
  have Ny128 := zqi hy128
  clear hy128
  replace H := Option.bind_eq_some_iff.mp H
  obtain ⟨t131, A40, H⟩ := H
  replace H : (if t131 = true then ((inst_between.f k 1 8 (([a0_1] : List Int))).bind fun t135 => (if t135 = true then ((inst_between.f k 1 1000 (([a0_2] : List Int))).bind fun t139 => (if t139 = true then (inst_May.j0 k ((l0_3.length : Int) != (wrap64 ((wrap64 (2 * a0_0)) + 1))) a0_0 a0_1 a0_2 l0_3) else (inst_May.j0 k true a0_0 a0_1 a0_2 l0_3))) else (inst_May.j0 k true a0_0 a0_1 a0_2 l0_3))) else (inst_May.j0 k true a0_0 a0_1 a0_2 l0_3)) = some r := H
  have A4 := zqi A40
  clear A40
  by_cases c5 : t131 = true
  ·
   subst c5
   have H1 : ((inst_between.f k 1 8 (([a0_1] : List Int))).bind fun t135 => (if t135 = true then ((inst_between.f k 1 1000 (([a0_2] : List Int))).bind fun t139 => (if t139 = true then (inst_May.j0 k ((l0_3.length : Int) != (wrap64 ((wrap64 (2 * a0_0)) + 1))) a0_0 a0_1 a0_2 l0_3) else (inst_May.j0 k true a0_0 a0_1 a0_2 l0_3))) else (inst_May.j0 k true a0_0 a0_1 a0_2 l0_3))) = some r := by rw [if_pos rfl] at H; exact H
   clear H
   have H := H1
   clear H1
   obtain ⟨y132, hy132⟩ : ∃ y_ : List Int, y_ = (([a0_1] : List Int)) := ⟨_, rfl⟩
   replace H : ((inst_between.f k 1 8 y132).bind fun t135 => (if t135 = true then ((inst_between.f k 1 1000 (([a0_2] : List Int))).bind fun t139 => (if t139 = true then (inst_May.j0 k ((l0_3.length : Int) != (wrap64 ((wrap64 (2 * a0_0)) + 1))) a0_0 a0_1 a0_2 l0_3) else (inst_May.j0 k true a0_0 a0_1 a0_2 l0_3))) else (inst_May.j0 k true a0_0 a0_1 a0_2 l0_3))) = some r := by first | (rw [hy132]; with_reducible exact H) | (have H2_ := (Option.bind_some _ _).symm.trans H; rw [hy132]; with_reducible exact H2_) | (have H2_ := (Option.bind_some _ _).symm.trans H; with_reducible exact H2_) | with_reducible exact H | (rw [hy132]; exact H) | exact H
   have Ny132 := zqi hy132
   clear hy132
   replace H := Option.bind_eq_some_iff.mp H
   obtain ⟨t135, A60, H⟩ := H
   replace H : (if t135 = true then ((inst_between.f k 1 1000 (([a0_2] : List Int))).bind fun t139 => (if t139 = true then (inst_May.j0 k ((l0_3.length : Int) != (wrap64 ((wrap64 (2 * a0_0)) + 1))) a0_0 a0_1 a0_2 l0_3) else (inst_May.j0 k true a0_0 a0_1 a0_2 l0_3))) else (inst_May.j0 k true a0_0 a0_1 a0_2 l0_3)) = some r := H
   have A6 := zqi A60
   clear A60
   by_cases c7 : t135 = true
   ·
    subst c7
    have H1 : ((inst_between.f k 1 1000 (([a0_2] : List Int))).bind fun t139 => (if t139 = true then (inst_May.j0 k ((l0_3.length : Int) != (wrap64 ((wrap64 (2 * a0_0)) + 1))) a0_0 a0_1 a0_2 l0_3) else (inst_May.j0 k true a0_0 a0_1 a0_2 l0_3))) = some r := by rw [if_pos rfl] at H; exact H
    clear H
    have H := H1
    clear H1
    obtain ⟨y136, hy136⟩ : ∃ y_ : List Int, y_ = (([a0_2] : List Int)) := ⟨_, rfl⟩
    replace H : ((inst_between.f k 1 1000 y136).bind fun t139 => (if t139 = true then (inst_May.j0 k ((l0_3.length : Int) != (wrap64 ((wrap64 (2 * a0_0)) + 1))) a0_0 a0_1 a0_2 l0_3) else (inst_May.j0 k true a0_0 a0_1 a0_2 l0_3))) = some r := by first | (rw [hy136]; with_reducible exact H) | (have H2_ := (Option.bind_some _ _).symm.trans H; rw [hy136]; with_reducible exact H2_) | (have H2_ := (Option.bind_some _ _).symm.trans H; with_reducible exact H2_) | with_reducible exact H | (rw [hy136]; exact H) | exact H
    have Ny136 := zqi hy136
    clear hy136
    replace H := Option.bind_eq_some_iff.mp H
    obtain ⟨t139, A80, H⟩ := H
    replace H : (if t139 = true then (inst_May.j0 k ((l0_3.length : Int) != (wrap64 ((wrap64 (2 * a0_0)) + 1))) a0_0 a0_1 a0_2 l0_3) else (inst_May.j0 k true a0_0 a0_1 a0_2 l0_3)) = some r := H
    have A8 := zqi A80
    clear A80
    by_cases c9 : t139 = true
    ·
     subst c9
     have H1 : (inst_May.j0 k ((l0_3.length : Int) != (wrap64 ((wrap64 (2 * a0_0)) + 1))) a0_0 a0_1 a0_2 l0_3) = some r := by rw [if_pos rfl] at H; exact H
     clear H
     have H := H1
     clear H1
     have H' := zqi H
     clear H
     obtain ⟨hcz10_0, hcz10_1, hcz10_2, hcz10_3, hfz10_0, hfz10_1, hfz10_2, hfz10_3⟩ := zqz4 BK127.out
     go_wp2_with (first | ((with_reducible refine gate_dst (N := 7) rfl ?_); (try (refine gate_guard (by rfl) ?_; dsimp only)); refine Kd.R_lit (Kd.int .i64) _ 3 ?hg (N := 7) ?hd (xs := ([a0_0] : List Int)) (inner := [.int .i64 a0_0]) (ok := fun _ => True) (okp := fun _ => True) ?hr ?hp (fun _ hk => hk) trivial (Below.refl _ _) (Nat.le_refl _) (by simp) ?_; (case hd => rfl); (case hg => rfl); (case hr => first | (go_simp; done) | (go_simp; rfl)); (case hp => exact (Reps.one (show Kd.M (Kd.int .i64) _ _ _ a0_0 [.int .i64 a0_0] from rfl) (Reps.none _ _))); intro v129 w11 ho12 hb hg_ hnew_; clear hg_ hnew_; (first | rw [← Ny128.out] at ho12 | (simp only [Int.reduceToNat] at ho12; rw [← Ny128.out] at ho12)); have n0_ := zqi (Kd.R_lower ho12 (below_size (zqn HB.out))); have n1_ := zqi (zqy BK127.out hb); have n2_ := zqi (below_step (zqn HB.out) hb); clear BK127; clear HB; have HO130 := n0_; have BK127 := n1_; have HB := n2_; clear n0_ n1_ n2_; clear hb ho12; obtain ⟨Ao13, co13, eo13⟩ := Kd.R_slice HO130.out; subst eo13) | (go_at_call 46; (with_reducible refine (inst_between.calls k 0 16 _ _ y128 true _ ?side1 ?side2 A4.out).mono ?_); (case side1 => repeat (first | exact (Kd.R_reads' HO130.out).2.2 | (with_reducible refine Kd.C_alloc ?_ _) | (with_reducible refine Kd.C_drewN ?_ _) | (with_reducible refine Kd.C_drew ?_))); (case side2 => exact (Kd.R_reads' HO130.out).2.1); rintro e w' ⟨rfl, ⟨nd, rfl⟩⟩; (try first | exact ⟨rfl, _, zqj⟩ | exact ⟨rfl, _, Eq.trans (zqj) (congrArg (World.drewN _) (Nat.add_assoc _ _ _))⟩); obtain ⟨hcz14_0, hcz14_1, hcz14_2, hcz14_3, hfz14_0, hfz14_1, hfz14_2, hfz14_3⟩ := zqz4 BK127.out) | ((with_reducible refine gate_dst (N := 13) rfl ?_); (try (refine gate_guard (by rfl) ?_; dsimp only)); refine Kd.R_lit (Kd.int .i64) _ 3 ?hg (N := 13) ?hd (xs := ([a0_1] : List Int)) (inner := [.int .i64 a0_1]) (ok := fun _ => True) (okp := fun _ => True) ?hr ?hp (fun _ hk => hk) trivial (Below.refl _ _) (Nat.le_refl _) (by simp) ?_; (case hd => rfl); (case hg => rfl); (case hr => first | (go_simp; done) | (go_simp; rfl)); (case hp => exact (Reps.one (show Kd.M (Kd.int .i64) _ _ _ a0_1 [.int .i64 a0_1] from rfl) (Reps.none _ _))); intro v133 w15 ho16 hb hg_ hnew_; clear hg_ hnew_; (first | rw [← Ny132.out] at ho16 | (simp only [Int.reduceToNat] at ho16; rw [← Ny132.out] at ho16)); have n0_ := zqi (Kd.R_elder' (by (with_reducible repeat (first | apply Kd.R_alloc | apply Kd.R_drewN | apply Kd.R_drew)); exact HO130.out) (Kd.R_base ho16) hb); have n1_ := zqi (Kd.R_lower (Kd.R_new' ho16 (Kd.R_lt (by (with_reducible repeat (first | apply Kd.R_alloc | apply Kd.R_drewN | apply Kd.R_drew)); exact HO130.out))) (below_size (zqn HB.out))); have n2_ := zqi (zqy BK127.out hb); have n3_ := zqi (below_step (zqn HB.out) hb); clear HO130; clear BK127; clear HB; have HO130 := n0_; have HO134 := n1_; have BK127 := n2_; have HB := n3_; clear n0_ n1_ n2_ n3_; clear hb ho16; obtain ⟨Ao17, co17, eo17⟩ := Kd.R_slice HO134.out; subst eo17) | (go_at_call 46; (with_reducible refine (inst_between.calls k 1 8 _ _ y132 true _ ?side1 ?side2 A6.out).mono ?_); (case side1 => repeat (first | exact (Kd.R_reads' HO134.out).2.2 | (with_reducible refine Kd.C_alloc ?_ _) | (with_reducible refine Kd.C_drewN ?_ _) | (with_reducible refine Kd.C_drew ?_))); (case side2 => exact (Kd.R_reads' HO134.out).2.1); rintro e w' ⟨rfl, ⟨nd, rfl⟩⟩; (try first | exact ⟨rfl, _, zqj⟩ | exact ⟨rfl, _, Eq.trans (zqj) (congrArg (World.drewN _) (Nat.add_assoc _ _ _))⟩); obtain ⟨hcz18_0, hcz18_1, hcz18_2, hcz18_3, hfz18_0, hfz18_1, hfz18_2, hfz18_3⟩ := zqz4 BK127.out) | ((with_reducible refine gate_dst (N := 20) rfl ?_); (try (refine gate_guard (by rfl) ?_; dsimp only)); refine Kd.R_lit (Kd.int .i64) _ 3 ?hg (N := 20) ?hd (xs := ([a0_2] : List Int)) (inner := [.int .i64 a0_2]) (ok := fun _ => True) (okp := fun _ => True) ?hr ?hp (fun _ hk => hk) trivial (Below.refl _ _) (Nat.le_refl _) (by simp) ?_; (case hd => rfl); (case hg => rfl); (case hr => first | (go_simp; done) | (go_simp; rfl)); (case hp => exact (Reps.one (show Kd.M (Kd.int .i64) _ _ _ a0_2 [.int .i64 a0_2] from rfl) (Reps.none _ _))); intro v137 w19 ho20 hb hg_ hnew_; clear hg_ hnew_; (first | rw [← Ny136.out] at ho20 | (simp only [Int.reduceToNat] at ho20; rw [← Ny136.out] at ho20)); have n0_ := zqi (Kd.R_elder' (by (with_reducible repeat (first | apply Kd.R_alloc | apply Kd.R_drewN | apply Kd.R_drew)); exact HO130.out) (Kd.R_base ho20) hb); have n1_ := zqi (Kd.R_elder' (by (with_reducible repeat (first | apply Kd.R_alloc | apply Kd.R_drewN | apply Kd.R_drew)); exact HO134.out) (Kd.R_base ho20) hb); have n2_ := zqi (Kd.R_lower (Kd.R_new' (Kd.R_new' ho20 (Kd.R_lt (by (with_reducible repeat (first | apply Kd.R_alloc | apply Kd.R_drewN | apply Kd.R_drew)); exact HO130.out))) (Kd.R_lt (by (with_reducible repeat (first | apply Kd.R_alloc | apply Kd.R_drewN | apply Kd.R_drew)); exact HO134.out))) (below_size (zqn HB.out))); have n3_ := zqi (zqy BK127.out hb); have n4_ := zqi (below_step (zqn HB.out) hb); clear HO130; clear HO134; clear BK127; clear HB; have HO130 := n0_; have HO134 := n1_; have HO138 := n2_; have BK127 := n3_; have HB := n4_; clear n0_ n1_ n2_ n3_ n4_; clear hb ho20; obtain ⟨Ao21, co21, eo21⟩ := Kd.R_slice HO138.out; subst eo21) | (go_at_call 46; (with_reducible refine (inst_between.calls k 1 1000 _ _ y136 true _ ?side1 ?side2 A8.out).mono ?_); (case side1 => repeat (first | exact (Kd.R_reads' HO138.out).2.2 | (with_reducible refine Kd.C_alloc ?_ _) | (with_reducible refine Kd.C_drewN ?_ _) | (with_reducible refine Kd.C_drew ?_))); (case side2 => exact (Kd.R_reads' HO138.out).2.1); rintro e w' ⟨rfl, ⟨nd, rfl⟩⟩; (try first | exact ⟨rfl, _, zqj⟩ | exact ⟨rfl, _, Eq.trans (zqj) (congrArg (World.drewN _) (Nat.add_assoc _ _ _))⟩); obtain ⟨hcz22_0, hcz22_1, hcz22_2, hcz22_3, hfz22_0, hfz22_1, hfz22_2, hfz22_3⟩ := zqz4 BK127.out))
     repeat (go_quiet (first | ((with_reducible refine gate_dst (N := 7) rfl ?_); (try (refine gate_guard (by rfl) ?_; dsimp only)); refine Kd.R_lit (Kd.int .i64) _ 3 ?hg (N := 7) ?hd (xs := ([a0_0] : List Int)) (inner := [.int .i64 a0_0]) (ok := fun _ => True) (okp := fun _ => True) ?hr ?hp (fun _ hk => hk) trivial (Below.refl _ _) (Nat.le_refl _) (by simp) ?_; (case hd => rfl); (case hg => rfl); (case hr => first | (go_simp; done) | (go_simp; rfl)); (case hp => exact (Reps.one (show Kd.M (Kd.int .i64) _ _ _ a0_0 [.int .i64 a0_0] from rfl) (Reps.none _ _))); intro v129 w11 ho12 hb hg_ hnew_; clear hg_ hnew_; (first | rw [← Ny128.out] at ho12 | (simp only [Int.reduceToNat] at ho12; rw [← Ny128.out] at ho12)); have n0_ := zqi (Kd.R_lower ho12 (below_size (zqn HB.out))); have n1_ := zqi (zqy BK127.out hb); have n2_ := zqi (below_step (zqn HB.out) hb); clear BK127; clear HB; have HO130 := n0_; have BK127 := n1_; have HB := n2_; clear n0_ n1_ n2_; clear hb ho12; obtain ⟨Ao13, co13, eo13⟩ := Kd.R_slice HO130.out; subst eo13) | (go_at_call 46; (with_reducible refine (inst_between.calls k 0 16 _ _ y128 true _ ?side1 ?side2 A4.out).mono ?_); (case side1 => repeat (first | exact (Kd.R_reads' HO130.out).2.2 | (with_reducible refine Kd.C_alloc ?_ _) | (with_reducible refine Kd.C_drewN ?_ _) | (with_reducible refine Kd.C_drew ?_))); (case side2 => exact (Kd.R_reads' HO130.out).2.1); rintro e w' ⟨rfl, ⟨nd, rfl⟩⟩; (try first | exact ⟨rfl, _, zqj⟩ | exact ⟨rfl, _, Eq.trans (zqj) (congrArg (World.drewN _) (Nat.add_assoc _ _ _))⟩); obtain ⟨hcz14_0, hcz14_1, hcz14_2, hcz14_3, hfz14_0, hfz14_1, hfz14_2, hfz14_3⟩ := zqz4 BK127.out) | ((with_reducible refine gate_dst (N := 13) rfl ?_); (try (refine gate_guard (by rfl) ?_; dsimp only)); refine Kd.R_lit (Kd.int .i64) _ 3 ?hg (N := 13) ?hd (xs := ([a0_1] : List Int)) (inner := [.int .i64 a0_1]) (ok := fun _ => True) (okp := fun _ => True) ?hr ?hp (fun _ hk => hk) trivial (Below.refl _ _) (Nat.le_refl _) (by simp) ?_; (case hd => rfl); (case hg => rfl); (case hr => first | (go_simp; done) | (go_simp; rfl)); (case hp => exact (Reps.one (show Kd.M (Kd.int .i64) _ _ _ a0_1 [.int .i64 a0_1] from rfl) (Reps.none _ _))); intro v133 w15 ho16 hb hg_ hnew_; clear hg_ hnew_; (first | rw [← Ny132.out] at ho16 | (simp only [Int.reduceToNat] at ho16; rw [← Ny132.out] at ho16)); have n0_ := zqi (Kd.R_elder' (by (with_reducible repeat (first | apply Kd.R_alloc | apply Kd.R_drewN | apply Kd.R_drew)); exact HO130.out) (Kd.R_base ho16) hb); have n1_ := zqi (Kd.R_lower (Kd.R_new' ho16 (Kd.R_lt (by (with_reducible repeat (first | apply Kd.R_alloc | apply Kd.R_drewN | apply Kd.R_drew)); exact HO130.out))) (below_size (zqn HB.out))); have n2_ := zqi (zqy BK127.out hb); have n3_ := zqi (below_step (zqn HB.out) hb); clear HO130; clear BK127; clear HB; have HO130 := n0_; have HO134 := n1_; have BK127 := n2_; have HB := n3_; clear n0_ n1_ n2_ n3_; clear hb ho16; obtain ⟨Ao17, co17, eo17⟩ := Kd.R_slice HO134.out; subst eo17) | (go_at_call 46; (with_reducible refine (inst_between.calls k 1 8 _ _ y132 true _ ?side1 ?side2 A6.out).mono ?_); (case side1 => repeat (first | exact (Kd.R_reads' HO134.out).2.2 | (with_reducible refine Kd.C_alloc ?_ _) | (with_reducible refine Kd.C_drewN ?_ _) | (with_reducible refine Kd.C_drew ?_))); (case side2 => exact (Kd.R_reads' HO134.out).2.1); rintro e w' ⟨rfl, ⟨nd, rfl⟩⟩; (try first | exact ⟨rfl, _, zqj⟩ | exact ⟨rfl, _, Eq.trans (zqj) (congrArg (World.drewN _) (Nat.add_assoc _ _ _))⟩); obtain ⟨hcz18_0, hcz18_1, hcz18_2, hcz18_3, hfz18_0, hfz18_1, hfz18_2, hfz18_3⟩ := zqz4 BK127.out) | ((with_reducible refine gate_dst (N := 20) rfl ?_); (try (refine gate_guard (by rfl) ?_; dsimp only)); refine Kd.R_lit (Kd.int .i64) _ 3 ?hg (N := 20) ?hd (xs := ([a0_2] : List Int)) (inner := [.int .i64 a0_2]) (ok := fun _ => True) (okp := fun _ => True) ?hr ?hp (fun _ hk => hk) trivial (Below.refl _ _) (Nat.le_refl _) (by simp) ?_; (case hd => rfl); (case hg => rfl); (case hr => first | (go_simp; done) | (go_simp; rfl)); (case hp => exact (Reps.one (show Kd.M (Kd.int .i64) _ _ _ a0_2 [.int .i64 a0_2] from rfl) (Reps.none _ _))); intro v137 w19 ho20 hb hg_ hnew_; clear hg_ hnew_; (first | rw [← Ny136.out] at ho20 | (simp only [Int.reduceToNat] at ho20; rw [← Ny136.out] at ho20)); have n0_ := zqi (Kd.R_elder' (by (with_reducible repeat (first | apply Kd.R_alloc | apply Kd.R_drewN | apply Kd.R_drew)); exact HO130.out) (Kd.R_base ho20) hb); have n1_ := zqi (Kd.R_elder' (by (with_reducible repeat (first | apply Kd.R_alloc | apply Kd.R_drewN | apply Kd.R_drew)); exact HO134.out) (Kd.R_base ho20) hb); have n2_ := zqi (Kd.R_lower (Kd.R_new' (Kd.R_new' ho20 (Kd.R_lt (by (with_reducible repeat (first | apply Kd.R_alloc | apply Kd.R_drewN | apply Kd.R_drew)); exact HO130.out))) (Kd.R_lt (by (with_reducible repeat (first | apply Kd.R_alloc | apply Kd.R_drewN | apply Kd.R_drew)); exact HO134.out))) (below_size (zqn HB.out))); have n3_ := zqi (zqy BK127.out hb); have n4_ := zqi (below_step (zqn HB.out) hb); clear HO130; clear HO134; clear BK127; clear HB; have HO130 := n0_; have HO134 := n1_; have HO138 := n2_; have BK127 := n3_; have HB := n4_; clear n0_ n1_ n2_ n3_ n4_; clear hb ho20; obtain ⟨Ao21, co21, eo21⟩ := Kd.R_slice HO138.out; subst eo21) | (go_at_call 46; (with_reducible refine (inst_between.calls k 1 1000 _ _ y136 true _ ?side1 ?side2 A8.out).mono ?_); (case side1 => repeat (first | exact (Kd.R_reads' HO138.out).2.2 | (with_reducible refine Kd.C_alloc ?_ _) | (with_reducible refine Kd.C_drewN ?_ _) | (with_reducible refine Kd.C_drew ?_))); (case side2 => exact (Kd.R_reads' HO138.out).2.1); rintro e w' ⟨rfl, ⟨nd, rfl⟩⟩; (try first | exact ⟨rfl, _, zqj⟩ | exact ⟨rfl, _, Eq.trans (zqj) (congrArg (World.drewN _) (Nat.add_assoc _ _ _))⟩); obtain ⟨hcz22_0, hcz22_1, hcz22_2, hcz22_3, hfz22_0, hfz22_1, hfz22_2, hfz22_3⟩ := zqz4 BK127.out)); try go_wp2_with (first | ((with_reducible refine gate_dst (N := 7) rfl ?_); (try (refine gate_guard (by rfl) ?_; dsimp only)); refine Kd.R_lit (Kd.int .i64) _ 3 ?hg (N := 7) ?hd (xs := ([a0_0] : List Int)) (inner := [.int .i64 a0_0]) (ok := fun _ => True) (okp := fun _ => True) ?hr ?hp (fun _ hk => hk) trivial (Below.refl _ _) (Nat.le_refl _) (by simp) ?_; (case hd => rfl); (case hg => rfl); (case hr => first | (go_simp; done) | (go_simp; rfl)); (case hp => exact (Reps.one (show Kd.M (Kd.int .i64) _ _ _ a0_0 [.int .i64 a0_0] from rfl) (Reps.none _ _))); intro v129 w11 ho12 hb hg_ hnew_; clear hg_ hnew_; (first | rw [← Ny128.out] at ho12 | (simp only [Int.reduceToNat] at ho12; rw [← Ny128.out] at ho12)); have n0_ := zqi (Kd.R_lower ho12 (below_size (zqn HB.out))); have n1_ := zqi (zqy BK127.out hb); have n2_ := zqi (below_step (zqn HB.out) hb); clear BK127; clear HB; have HO130 := n0_; have BK127 := n1_; have HB := n2_; clear n0_ n1_ n2_; clear hb ho12; obtain ⟨Ao13, co13, eo13⟩ := Kd.R_slice HO130.out; subst eo13) | (go_at_call 46; (with_reducible refine (inst_between.calls k 0 16 _ _ y128 true _ ?side1 ?side2 A4.out).mono ?_); (case side1 => repeat (first | exact (Kd.R_reads' HO130.out).2.2 | (with_reducible refine Kd.C_alloc ?_ _) | (with_reducible refine Kd.C_drewN ?_ _) | (with_reducible refine Kd.C_drew ?_))); (case side2 => exact (Kd.R_reads' HO130.out).2.1); rintro e w' ⟨rfl, ⟨nd, rfl⟩⟩; (try first | exact ⟨rfl, _, zqj⟩ | exact ⟨rfl, _, Eq.trans (zqj) (congrArg (World.drewN _) (Nat.add_assoc _ _ _))⟩); obtain ⟨hcz14_0, hcz14_1, hcz14_2, hcz14_3, hfz14_0, hfz14_1, hfz14_2, hfz14_3⟩ := zqz4 BK127.out) | ((with_reducible refine gate_dst (N := 13) rfl ?_); (try (refine gate_guard (by rfl) ?_; dsimp only)); refine Kd.R_lit (Kd.int .i64) _ 3 ?hg (N := 13) ?hd (xs := ([a0_1] : List Int)) (inner := [.int .i64 a0_1]) (ok := fun _ => True) (okp := fun _ => True) ?hr ?hp (fun _ hk => hk) trivial (Below.refl _ _) (Nat.le_refl _) (by simp) ?_; (case hd => rfl); (case hg => rfl); (case hr => first | (go_simp; done) | (go_simp; rfl)); (case hp => exact (Reps.one (show Kd.M (Kd.int .i64) _ _ _ a0_1 [.int .i64 a0_1] from rfl) (Reps.none _ _))); intro v133 w15 ho16 hb hg_ hnew_; clear hg_ hnew_; (first | rw [← Ny132.out] at ho16 | (simp only [Int.reduceToNat] at ho16; rw [← Ny132.out] at ho16)); have n0_ := zqi (Kd.R_elder' (by (with_reducible repeat (first | apply Kd.R_alloc | apply Kd.R_drewN | apply Kd.R_drew)); exact HO130.out) (Kd.R_base ho16) hb); have n1_ := zqi (Kd.R_lower (Kd.R_new' ho16 (Kd.R_lt (by (with_reducible repeat (first | apply Kd.R_alloc | apply Kd.R_drewN | apply Kd.R_drew)); exact HO130.out))) (below_size (zqn HB.out))); have n2_ := zqi (zqy BK127.out hb); have n3_ := zqi (below_step (zqn HB.out) hb); clear HO130; clear BK127; clear HB; have HO130 := n0_; have HO134 := n1_; have BK127 := n2_; have HB := n3_; clear n0_ n1_ n2_ n3_; clear hb ho16; obtain ⟨Ao17, co17, eo17⟩ := Kd.R_slice HO134.out; subst eo17) | (go_at_call 46; (with_reducible refine (inst_between.calls k 1 8 _ _ y132 true _ ?side1 ?side2 A6.out).mono ?_); (case side1 => repeat (first | exact (Kd.R_reads' HO134.out).2.2 | (with_reducible refine Kd.C_alloc ?_ _) | (with_reducible refine Kd.C_drewN ?_ _) | (with_reducible refine Kd.C_drew ?_))); (case side2 => exact (Kd.R_reads' HO134.out).2.1); rintro e w' ⟨rfl, ⟨nd, rfl⟩⟩; (try first | exact ⟨rfl, _, zqj⟩ | exact ⟨rfl, _, Eq.trans (zqj) (congrArg (World.drewN _) (Nat.add_assoc _ _ _))⟩); obtain ⟨hcz18_0, hcz18_1, hcz18_2, hcz18_3, hfz18_0, hfz18_1, hfz18_2, hfz18_3⟩ := zqz4 BK127.out) | ((with_reducible refine gate_dst (N := 20) rfl ?_); (try (refine gate_guard (by rfl) ?_; dsimp only)); refine Kd.R_lit (Kd.int .i64) _ 3 ?hg (N := 20) ?hd (xs := ([a0_2] : List Int)) (inner := [.int .i64 a0_2]) (ok := fun _ => True) (okp := fun _ => True) ?hr ?hp (fun _ hk => hk) trivial (Below.refl _ _) (Nat.le_refl _) (by simp) ?_; (case hd => rfl); (case hg => rfl); (case hr => first | (go_simp; done) | (go_simp; rfl)); (case hp => exact (Reps.one (show Kd.M (Kd.int .i64) _ _ _ a0_2 [.int .i64 a0_2] from rfl) (Reps.none _ _))); intro v137 w19 ho20 hb hg_ hnew_; clear hg_ hnew_; (first | rw [← Ny136.out] at ho20 | (simp only [Int.reduceToNat] at ho20; rw [← Ny136.out] at ho20)); have n0_ := zqi (Kd.R_elder' (by (with_reducible repeat (first | apply Kd.R_alloc | apply Kd.R_drewN | apply Kd.R_drew)); exact HO130.out) (Kd.R_base ho20) hb); have n1_ := zqi (Kd.R_elder' (by (with_reducible repeat (first | apply Kd.R_alloc | apply Kd.R_drewN | apply Kd.R_drew)); exact HO134.out) (Kd.R_base ho20) hb); have n2_ := zqi (Kd.R_lower (Kd.R_new' (Kd.R_new' ho20 (Kd.R_lt (by (with_reducible repeat (first | apply Kd.R_alloc | apply Kd.R_drewN | apply Kd.R_drew)); exact HO130.out))) (Kd.R_lt (by (with_reducible repeat (first | apply Kd.R_alloc | apply Kd.R_drewN | apply Kd.R_drew)); exact HO134.out))) (below_size (zqn HB.out))); have n3_ := zqi (zqy BK127.out hb); have n4_ := zqi (below_step (zqn HB.out) hb); clear HO130; clear HO134; clear BK127; clear HB; have HO130 := n0_; have HO134 := n1_; have HO138 := n2_; have BK127 := n3_; have HB := n4_; clear n0_ n1_ n2_ n3_ n4_; clear hb ho20; obtain ⟨Ao21, co21, eo21⟩ := Kd.R_slice HO138.out; subst eo21) | (go_at_call 46; (with_reducible refine (inst_between.calls k 1 1000 _ _ y136 true _ ?side1 ?side2 A8.out).mono ?_); (case side1 => repeat (first | exact (Kd.R_reads' HO138.out).2.2 | (with_reducible refine Kd.C_alloc ?_ _) | (with_reducible refine Kd.C_drewN ?_ _) | (with_reducible refine Kd.C_drew ?_))); (case side2 => exact (Kd.R_reads' HO138.out).2.1); rintro e w' ⟨rfl, ⟨nd, rfl⟩⟩; (try first | exact ⟨rfl, _, zqj⟩ | exact ⟨rfl, _, Eq.trans (zqj) (congrArg (World.drewN _) (Nat.add_assoc _ _ _))⟩); obtain ⟨hcz22_0, hcz22_1, hcz22_2, hcz22_3, hfz22_0, hfz22_1, hfz22_2, hfz22_3⟩ := zqz4 BK127.out)))
     go_meet
     case rel => exact ⟨_, (((l0_3.length : Int) != (wrap64 ((wrap64 (2 * a0_0)) + 1)))), (by first | rfl | (simp; done) | (simp [*]; done)), H', ⟨by first | omega | exact Nat.le_refl _⟩, ⟨by (with_reducible repeat (first | apply zqa | apply zqb | apply zqc)); exact BK127.out⟩, ⟨by repeat (first | (with_reducible first | exact HB.out | apply zqg | apply zqf | apply zqh | refine below_set ?_ GE127.out) | exact HB.out)⟩⟩
    ·
     replace c9 := Bool.eq_false_iff.mpr c9
     subst c9
     have H1 : (inst_May.j0 k true a0_0 a0_1 a0_2 l0_3) = some r := by rw [if_neg (show ¬ (false = true) by decide)] at H; exact H
     clear H
     have H := H1
     clear H1
     have H' := zqi H
     clear H
     obtain ⟨hcz23_0, hcz23_1, hcz23_2, hcz23_3, hfz23_0, hfz23_1, hfz23_2, hfz23_3⟩ := zqz4 BK127.out
     go_wp2_with (first | ((with_reducible refine gate_dst (N := 7) rfl ?_); (try (refine gate_guard (by rfl) ?_; dsimp only)); refine Kd.R_lit (Kd.int .i64) _ 3 ?hg (N := 7) ?hd (xs := ([a0_0] : List Int)) (inner := [.int .i64 a0_0]) (ok := fun _ => True) (okp := fun _ => True) ?hr ?hp (fun _ hk => hk) trivial (Below.refl _ _) (Nat.le_refl _) (by simp) ?_; (case hd => rfl); (case hg => rfl); (case hr => first | (go_simp; done) | (go_simp; rfl)); (case hp => exact (Reps.one (show Kd.M (Kd.int .i64) _ _ _ a0_0 [.int .i64 a0_0] from rfl) (Reps.none _ _))); intro v129 w24 ho25 hb hg_ hnew_; clear hg_ hnew_; (first | rw [← Ny128.out] at ho25 | (simp only [Int.reduceToNat] at ho25; rw [← Ny128.out] at ho25)); have n0_ := zqi (Kd.R_lower ho25 (below_size (zqn HB.out))); have n1_ := zqi (zqy BK127.out hb); have n2_ := zqi (below_step (zqn HB.out) hb); clear BK127; clear HB; have HO130 := n0_; have BK127 := n1_; have HB := n2_; clear n0_ n1_ n2_; clear hb ho25; obtain ⟨Ao26, co26, eo26⟩ := Kd.R_slice HO130.out; subst eo26) | (go_at_call 46; (with_reducible refine (inst_between.calls k 0 16 _ _ y128 true _ ?side1 ?side2 A4.out).mono ?_); (case side1 => repeat (first | exact (Kd.R_reads' HO130.out).2.2 | (with_reducible refine Kd.C_alloc ?_ _) | (with_reducible refine Kd.C_drewN ?_ _) | (with_reducible refine Kd.C_drew ?_))); (case side2 => exact (Kd.R_reads' HO130.out).2.1); rintro e w' ⟨rfl, ⟨nd, rfl⟩⟩; (try first | exact ⟨rfl, _, zqj⟩ | exact ⟨rfl, _, Eq.trans (zqj) (congrArg (World.drewN _) (Nat.add_assoc _ _ _))⟩); obtain ⟨hcz27_0, hcz27_1, hcz27_2, hcz27_3, hfz27_0, hfz27_1, hfz27_2, hfz27_3⟩ := zqz4 BK127.out) | ((with_reducible refine gate_dst (N := 13) rfl ?_); (try (refine gate_guard (by rfl) ?_; dsimp only)); refine Kd.R_lit (Kd.int .i64) _ 3 ?hg (N := 13) ?hd (xs := ([a0_1] : List Int)) (inner := [.int .i64 a0_1]) (ok := fun _ => True) (okp := fun _ => True) ?hr ?hp (fun _ hk => hk) trivial (Below.refl _ _) (Nat.le_refl _) (by simp) ?_; (case hd => rfl); (case hg => rfl); (case hr => first | (go_simp; done) | (go_simp; rfl)); (case hp => exact (Reps.one (show Kd.M (Kd.int .i64) _ _ _ a0_1 [.int .i64 a0_1] from rfl) (Reps.none _ _))); intro v133 w28 ho29 hb hg_ hnew_; clear hg_ hnew_; (first | rw [← Ny132.out] at ho29 | (simp only [Int.reduceToNat] at ho29; rw [← Ny132.out] at ho29)); have n0_ := zqi (Kd.R_elder' (by (with_reducible repeat (first | apply Kd.R_alloc | apply Kd.R_drewN | apply Kd.R_drew)); exact HO130.out) (Kd.R_base ho29) hb); have n1_ := zqi (Kd.R_lower (Kd.R_new' ho29 (Kd.R_lt (by (with_reducible repeat (first | apply Kd.R_alloc | apply Kd.R_drewN | apply Kd.R_drew)); exact HO130.out))) (below_size (zqn HB.out))); have n2_ := zqi (zqy BK127.out hb); have n3_ := zqi (below_step (zqn HB.out) hb); clear HO130; clear BK127; clear HB; have HO130 := n0_; have HO134 := n1_; have BK127 := n2_; have HB := n3_; clear n0_ n1_ n2_ n3_; clear hb ho29; obtain ⟨Ao30, co30, eo30⟩ := Kd.R_slice HO134.out; subst eo30) | (go_at_call 46; (with_reducible refine (inst_between.calls k 1 8 _ _ y132 true _ ?side1 ?side2 A6.out).mono ?_); (case side1 => repeat (first | exact (Kd.R_reads' HO134.out).2.2 | (with_reducible refine Kd.C_alloc ?_ _) | (with_reducible refine Kd.C_drewN ?_ _) | (with_reducible refine Kd.C_drew ?_))); (case side2 => exact (Kd.R_reads' HO134.out).2.1); rintro e w' ⟨rfl, ⟨nd, rfl⟩⟩; (try first | exact ⟨rfl, _, zqj⟩ | exact ⟨rfl, _, Eq.trans (zqj) (congrArg (World.drewN _) (Nat.add_assoc _ _ _))⟩); obtain ⟨hcz31_0, hcz31_1, hcz31_2, hcz31_3, hfz31_0, hfz31_1, hfz31_2, hfz31_3⟩ := zqz4 BK127.out) | ((with_reducible refine gate_dst (N := 20) rfl ?_); (try (refine gate_guard (by rfl) ?_; dsimp only)); refine Kd.R_lit (Kd.int .i64) _ 3 ?hg (N := 20) ?hd (xs := ([a0_2] : List Int)) (inner := [.int .i64 a0_2]) (ok := fun _ => True) (okp := fun _ => True) ?hr ?hp (fun _ hk => hk) trivial (Below.refl _ _) (Nat.le_refl _) (by simp) ?_; (case hd => rfl); (case hg => rfl); (case hr => first | (go_simp; done) | (go_simp; rfl)); (case hp => exact (Reps.one (show Kd.M (Kd.int .i64) _ _ _ a0_2 [.int .i64 a0_2] from rfl) (Reps.none _ _))); intro v137 w32 ho33 hb hg_ hnew_; clear hg_ hnew_; (first | rw [← Ny136.out] at ho33 | (simp only [Int.reduceToNat] at ho33; rw [← Ny136.out] at ho33)); have n0_ := zqi (Kd.R_elder' (by (with_reducible repeat (first | apply Kd.R_alloc | apply Kd.R_drewN | apply Kd.R_drew)); exact HO130.out) (Kd.R_base ho33) hb); have n1_ := zqi (Kd.R_elder' (by (with_reducible repeat (first | apply Kd.R_alloc | apply Kd.R_drewN | apply Kd.R_drew)); exact HO134.out) (Kd.R_base ho33) hb); have n2_ := zqi (Kd.R_lower (Kd.R_new' (Kd.R_new' ho33 (Kd.R_lt (by (with_reducible repeat (first | apply Kd.R_alloc | apply Kd.R_drewN | apply Kd.R_drew)); exact HO130.out))) (Kd.R_lt (by (with_reducible repeat (first | apply Kd.R_alloc | apply Kd.R_drewN | apply Kd.R_drew)); exact HO134.out))) (below_size (zqn HB.out))); have n3_ := zqi (zqy BK127.out hb); have n4_ := zqi (below_step (zqn HB.out) hb); clear HO130; clear HO134; clear BK127; clear HB; have HO130 := n0_; have HO134 := n1_; have HO138 := n2_; have BK127 := n3_; have HB := n4_; clear n0_ n1_ n2_ n3_ n4_; clear hb ho33; obtain ⟨Ao34, co34, eo34⟩ := Kd.R_slice HO138.out; subst eo34) | (go_at_call 46; (with_reducible refine (inst_between.calls k 1 1000 _ _ y136 false _ ?side1 ?side2 A8.out).mono ?_); (case side1 => repeat (first | exact (Kd.R_reads' HO138.out).2.2 | (with_reducible refine Kd.C_alloc ?_ _) | (with_reducible refine Kd.C_drewN ?_ _) | (with_reducible refine Kd.C_drew ?_))); (case side2 => exact (Kd.R_reads' HO138.out).2.1); rintro e w' ⟨rfl, ⟨nd, rfl⟩⟩; (try first | exact ⟨rfl, _, zqj⟩ | exact ⟨rfl, _, Eq.trans (zqj) (congrArg (World.drewN _) (Nat.add_assoc _ _ _))⟩)))
     repeat (go_quiet (first | ((with_reducible refine gate_dst (N := 7) rfl ?_); (try (refine gate_guard (by rfl) ?_; dsimp only)); refine Kd.R_lit (Kd.int .i64) _ 3 ?hg (N := 7) ?hd (xs := ([a0_0] : List Int)) (inner := [.int .i64 a0_0]) (ok := fun _ => True) (okp := fun _ => True) ?hr ?hp (fun _ hk => hk) trivial (Below.refl _ _) (Nat.le_refl _) (by simp) ?_; (case hd => rfl); (case hg => rfl); (case hr => first | (go_simp; done) | (go_simp; rfl)); (case hp => exact (Reps.one (show Kd.M (Kd.int .i64) _ _ _ a0_0 [.int .i64 a0_0] from rfl) (Reps.none _ _))); intro v129 w24 ho25 hb hg_ hnew_; clear hg_ hnew_; (first | rw [← Ny128.out] at ho25 | (simp only [Int.reduceToNat] at ho25; rw [← Ny128.out] at ho25)); have n0_ := zqi (Kd.R_lower ho25 (below_size (zqn HB.out))); have n1_ := zqi (zqy BK127.out hb); have n2_ := zqi (below_step (zqn HB.out) hb); clear BK127; clear HB; have HO130 := n0_; have BK127 := n1_; have HB := n2_; clear n0_ n1_ n2_; clear hb ho25; obtain ⟨Ao26, co26, eo26⟩ := Kd.R_slice HO130.out; subst eo26) | (go_at_call 46; (with_reducible refine (inst_between.calls k 0 16 _ _ y128 true _ ?side1 ?side2 A4.out).mono ?_); (case side1 => repeat (first | exact (Kd.R_reads' HO130.out).2.2 | (with_reducible refine Kd.C_alloc ?_ _) | (with_reducible refine Kd.C_drewN ?_ _) | (with_reducible refine Kd.C_drew ?_))); (case side2 => exact (Kd.R_reads' HO130.out).2.1); rintro e w' ⟨rfl, ⟨nd, rfl⟩⟩; (try first | exact ⟨rfl, _, zqj⟩ | exact ⟨rfl, _, Eq.trans (zqj) (congrArg (World.drewN _) (Nat.add_assoc _ _ _))⟩); obtain ⟨hcz27_0, hcz27_1, hcz27_2, hcz27_3, hfz27_0, hfz27_1, hfz27_2, hfz27_3⟩ := zqz4 BK127.out) | ((with_reducible refine gate_dst (N := 13) rfl ?_); (try (refine gate_guard (by rfl) ?_; dsimp only)); refine Kd.R_lit (Kd.int .i64) _ 3 ?hg (N := 13) ?hd (xs := ([a0_1] : List Int)) (inner := [.int .i64 a0_1]) (ok := fun _ => True) (okp := fun _ => True) ?hr ?hp (fun _ hk => hk) trivial (Below.refl _ _) (Nat.le_refl _) (by simp) ?_; (case hd => rfl); (case hg => rfl); (case hr => first | (go_simp; done) | (go_simp; rfl)); (case hp => exact (Reps.one (show Kd.M (Kd.int .i64) _ _ _ a0_1 [.int .i64 a0_1] from rfl) (Reps.none _ _))); intro v133 w28 ho29 hb hg_ hnew_; clear hg_ hnew_; (first | rw [← Ny132.out] at ho29 | (simp only [Int.reduceToNat] at ho29; rw [← Ny132.out] at ho29)); have n0_ := zqi (Kd.R_elder' (by (with_reducible repeat (first | apply Kd.R_alloc | apply Kd.R_drewN | apply Kd.R_drew)); exact HO130.out) (Kd.R_base ho29) hb); have n1_ := zqi (Kd.R_lower (Kd.R_new' ho29 (Kd.R_lt (by (with_reducible repeat (first | apply Kd.R_alloc | apply Kd.R_drewN | apply Kd.R_drew)); exact HO130.out))) (below_size (zqn HB.out))); have n2_ := zqi (zqy BK127.out hb); have n3_ := zqi (below_step (zqn HB.out) hb); clear HO130; clear BK127; clear HB; have HO130 := n0_; have HO134 := n1_; have BK127 := n2_; have HB := n3_; clear n0_ n1_ n2_ n3_; clear hb ho29; obtain ⟨Ao30, co30, eo30⟩ := Kd.R_slice HO134.out; subst eo30) | (go_at_call 46; (with_reducible refine (inst_between.calls k 1 8 _ _ y132 true _ ?side1 ?side2 A6.out).mono ?_); (case side1 => repeat (first | exact (Kd.R_reads' HO134.out).2.2 | (with_reducible refine Kd.C_alloc ?_ _) | (with_reducible refine Kd.C_drewN ?_ _) | (with_reducible refine Kd.C_drew ?_))); (case side2 => exact (Kd.R_reads' HO134.out).2.1); rintro e w' ⟨rfl, ⟨nd, rfl⟩⟩; (try first | exact ⟨rfl, _, zqj⟩ | exact ⟨rfl, _, Eq.trans (zqj) (congrArg (World.drewN _) (Nat.add_assoc _ _ _))⟩); obtain ⟨hcz31_0, hcz31_1, hcz31_2, hcz31_3, hfz31_0, hfz31_1, hfz31_2, hfz31_3⟩ := zqz4 BK127.out) | ((with_reducible refine gate_dst (N := 20) rfl ?_); (try (refine gate_guard (by rfl) ?_; dsimp only)); refine Kd.R_lit (Kd.int .i64) _ 3 ?hg (N := 20) ?hd (xs := ([a0_2] : List Int)) (inner := [.int .i64 a0_2]) (ok := fun _ => True) (okp := fun _ => True) ?hr ?hp (fun _ hk => hk) trivial (Below.refl _ _) (Nat.le_refl _) (by simp) ?_; (case hd => rfl); (case hg => rfl); (case hr => first | (go_simp; done) | (go_simp; rfl)); (case hp => exact (Reps.one (show Kd.M (Kd.int .i64) _ _ _ a0_2 [.int .i64 a0_2] from rfl) (Reps.none _ _))); intro v137 w32 ho33 hb hg_ hnew_; clear hg_ hnew_; (first | rw [← Ny136.out] at ho33 | (simp only [Int.reduceToNat] at ho33; rw [← Ny136.out] at ho33)); have n0_ := zqi (Kd.R_elder' (by (with_reducible repeat (first | apply Kd.R_alloc | apply Kd.R_drewN | apply Kd.R_drew)); exact HO130.out) (Kd.R_base ho33) hb); have n1_ := zqi (Kd.R_elder' (by (with_reducible repeat (first | apply Kd.R_alloc | apply Kd.R_drewN | apply Kd.R_drew)); exact HO134.out) (Kd.R_base ho33) hb); have n2_ := zqi (Kd.R_lower (Kd.R_new' (Kd.R_new' ho33 (Kd.R_lt (by (with_reducible repeat (first | apply Kd.R_alloc | apply Kd.R_drewN | apply Kd.R_drew)); exact HO130.out))) (Kd.R_lt (by (with_reducible repeat (first | apply Kd.R_alloc | apply Kd.R_drewN | apply Kd.R_drew)); exact HO134.out))) (below_size (zqn HB.out))); have n3_ := zqi (zqy BK127.out hb); have n4_ := zqi (below_step (zqn HB.out) hb); clear HO130; clear HO134; clear BK127; clear HB; have HO130 := n0_; have HO134 := n1_; have HO138 := n2_; have BK127 := n3_; have HB := n4_; clear n0_ n1_ n2_ n3_ n4_; clear hb ho33; obtain ⟨Ao34, co34, eo34⟩ := Kd.R_slice HO138.out; subst eo34) | (go_at_call 46; (with_reducible refine (inst_between.calls k 1 1000 _ _ y136 false _ ?side1 ?side2 A8.out).mono ?_); (case side1 => repeat (first | exact (Kd.R_reads' HO138.out).2.2 | (with_reducible refine Kd.C_alloc ?_ _) | (with_reducible refine Kd.C_drewN ?_ _) | (with_reducible refine Kd.C_drew ?_))); (case side2 => exact (Kd.R_reads' HO138.out).2.1); rintro e w' ⟨rfl, ⟨nd, rfl⟩⟩; (try first | exact ⟨rfl, _, zqj⟩ | exact ⟨rfl, _, Eq.trans (zqj) (congrArg (World.drewN _) (Nat.add_assoc _ _ _))⟩))); try go_wp2_with (first | ((with_reducible refine gate_dst (N := 7) rfl ?_); (try (refine gate_guard (by rfl) ?_; dsimp only)); refine Kd.R_lit (Kd.int .i64) _ 3 ?hg (N := 7) ?hd (xs := ([a0_0] : List Int)) (inner := [.int .i64 a0_0]) (ok := fun _ => True) (okp := fun _ => True) ?hr ?hp (fun _ hk => hk) trivial (Below.refl _ _) (Nat.le_refl _) (by simp) ?_; (case hd => rfl); (case hg => rfl); (case hr => first | (go_simp; done) | (go_simp; rfl)); (case hp => exact (Reps.one (show Kd.M (Kd.int .i64) _ _ _ a0_0 [.int .i64 a0_0] from rfl) (Reps.none _ _))); intro v129 w24 ho25 hb hg_ hnew_; clear hg_ hnew_; (first | rw [← Ny128.out] at ho25 | (simp only [Int.reduceToNat] at ho25; rw [← Ny128.out] at ho25)); have n0_ := zqi (Kd.R_lower ho25 (below_size (zqn HB.out))); have n1_ := zqi (zqy BK127.out hb); have n2_ := zqi (below_step (zqn HB.out) hb); clear BK127; clear HB; have HO130 := n0_; have BK127 := n1_; have HB := n2_; clear n0_ n1_ n2_; clear hb ho25; obtain ⟨Ao26, co26, eo26⟩ := Kd.R_slice HO130.out; subst eo26) | (go_at_call 46; (with_reducible refine (inst_between.calls k 0 16 _ _ y128 true _ ?side1 ?side2 A4.out).mono ?_); (case side1 => repeat (first | exact (Kd.R_reads' HO130.out).2.2 | (with_reducible refine Kd.C_alloc ?_ _) | (with_reducible refine Kd.C_drewN ?_ _) | (with_reducible refine Kd.C_drew ?_))); (case side2 => exact (Kd.R_reads' HO130.out).2.1); rintro e w' ⟨rfl, ⟨nd, rfl⟩⟩; (try first | exact ⟨rfl, _, zqj⟩ | exact ⟨rfl, _, Eq.trans (zqj) (congrArg (World.drewN _) (Nat.add_assoc _ _ _))⟩); obtain ⟨hcz27_0, hcz27_1, hcz27_2, hcz27_3, hfz27_0, hfz27_1, hfz27_2, hfz27_3⟩ := zqz4 BK127.out) | ((with_reducible refine gate_dst (N := 13) rfl ?_); (try (refine gate_guard (by rfl) ?_; dsimp only)); refine Kd.R_lit (Kd.int .i64) _ 3 ?hg (N := 13) ?hd (xs := ([a0_1] : List Int)) (inner := [.int .i64 a0_1]) (ok := fun _ => True) (okp := fun _ => True) ?hr ?hp (fun _ hk => hk) trivial (Below.refl _ _) (Nat.le_refl _) (by simp) ?_; (case hd => rfl); (case hg => rfl); (case hr => first | (go_simp; done) | (go_simp; rfl)); (case hp => exact (Reps.one (show Kd.M (Kd.int .i64) _ _ _ a0_1 [.int .i64 a0_1] from rfl) (Reps.none _ _))); intro v133 w28 ho29 hb hg_ hnew_; clear hg_ hnew_; (first | rw [← Ny132.out] at ho29 | (simp only [Int.reduceToNat] at ho29; rw [← Ny132.out] at ho29)); have n0_ := zqi (Kd.R_elder' (by (with_reducible repeat (first | apply Kd.R_alloc | apply Kd.R_drewN | apply Kd.R_drew)); exact HO130.out) (Kd.R_base ho29) hb); have n1_ := zqi (Kd.R_lower (Kd.R_new' ho29 (Kd.R_lt (by (with_reducible repeat (first | apply Kd.R_alloc | apply Kd.R_drewN | apply Kd.R_drew)); exact HO130.out))) (below_size (zqn HB.out))); have n2_ := zqi (zqy BK127.out hb); have n3_ := zqi (below_step (zqn HB.out) hb); clear HO130; clear BK127; clear HB; have HO130 := n0_; have HO134 := n1_; have BK127 := n2_; have HB := n3_; clear n0_ n1_ n2_ n3_; clear hb ho29; obtain ⟨Ao30, co30, eo30⟩ := Kd.R_slice HO134.out; subst eo30) | (go_at_call 46; (with_reducible refine (inst_between.calls k 1 8 _ _ y132 true _ ?side1 ?side2 A6.out).mono ?_); (case side1 => repeat (first | exact (Kd.R_reads' HO134.out).2.2 | (with_reducible refine Kd.C_alloc ?_ _) | (with_reducible refine Kd.C_drewN ?_ _) | (with_reducible refine Kd.C_drew ?_))); (case side2 => exact (Kd.R_reads' HO134.out).2.1); rintro e w' ⟨rfl, ⟨nd, rfl⟩⟩; (try first | exact ⟨rfl, _, zqj⟩ | exact ⟨rfl, _, Eq.trans (zqj) (congrArg (World.drewN _) (Nat.add_assoc _ _ _))⟩); obtain ⟨hcz31_0, hcz31_1, hcz31_2, hcz31_3, hfz31_0, hfz31_1, hfz31_2, hfz31_3⟩ := zqz4 BK127.out) | ((with_reducible refine gate_dst (N := 20) rfl ?_); (try (refine gate_guard (by rfl) ?_; dsimp only)); refine Kd.R_lit (Kd.int .i64) _ 3 ?hg (N := 20) ?hd (xs := ([a0_2] : List Int)) (inner := [.int .i64 a0_2]) (ok := fun _ => True) (okp := fun _ => True) ?hr ?hp (fun _ hk => hk) trivial (Below.refl _ _) (Nat.le_refl _) (by simp) ?_; (case hd => rfl); (case hg => rfl); (case hr => first | (go_simp; done) | (go_simp; rfl)); (case hp => exact (Reps.one (show Kd.M (Kd.int .i64) _ _ _ a0_2 [.int .i64 a0_2] from rfl) (Reps.none _ _))); intro v137 w32 ho33 hb hg_ hnew_; clear hg_ hnew_; (first | rw [← Ny136.out] at ho33 | (simp only [Int.reduceToNat] at ho33; rw [← Ny136.out] at ho33)); have n0_ := zqi (Kd.R_elder' (by (with_reducible repeat (first | apply Kd.R_alloc | apply Kd.R_drewN | apply Kd.R_drew)); exact HO130.out) (Kd.R_base ho33) hb); have n1_ := zqi (Kd.R_elder' (by (with_reducible repeat (first | apply Kd.R_alloc | apply Kd.R_drewN | apply Kd.R_drew)); exact HO134.out) (Kd.R_base ho33) hb); have n2_ := zqi (Kd.R_lower (Kd.R_new' (Kd.R_new' ho33 (Kd.R_lt (by (with_reducible repeat (first | apply Kd.R_alloc | apply Kd.R_drewN | apply Kd.R_drew)); exact HO130.out))) (Kd.R_lt (by (with_reducible repeat (first | apply Kd.R_alloc | apply Kd.R_drewN | apply Kd.R_drew)); exact HO134.out))) (below_size (zqn HB.out))); have n3_ := zqi (zqy BK127.out hb); have n4_ := zqi (below_step (zqn HB.out) hb); clear HO130; clear HO134; clear BK127; clear HB; have HO130 := n0_; have HO134 := n1_; have HO138 := n2_; have BK127 := n3_; have HB := n4_; clear n0_ n1_ n2_ n3_ n4_; clear hb ho33; obtain ⟨Ao34, co34, eo34⟩ := Kd.R_slice HO138.out; subst eo34) | (go_at_call 46; (with_reducible refine (inst_between.calls k 1 1000 _ _ y136 false _ ?side1 ?side2 A8.out).mono ?_); (case side1 => repeat (first | exact (Kd.R_reads' HO138.out).2.2 | (with_reducible refine Kd.C_alloc ?_ _) | (with_reducible refine Kd.C_drewN ?_ _) | (with_reducible refine Kd.C_drew ?_))); (case side2 => exact (Kd.R_reads' HO138.out).2.1); rintro e w' ⟨rfl, ⟨nd, rfl⟩⟩; (try first | exact ⟨rfl, _, zqj⟩ | exact ⟨rfl, _, Eq.trans (zqj) (congrArg (World.drewN _) (Nat.add_assoc _ _ _))⟩))))
     go_meet
     case rel => exact ⟨_, (true), (by first | rfl | (simp; done) | (simp [*]; done)), H', ⟨by first | omega | exact Nat.le_refl _⟩, ⟨by (with_reducible repeat (first | apply zqa | apply zqb | apply zqc)); exact BK127.out⟩, ⟨by repeat (first | (with_reducible first | exact HB.out | apply zqg | apply zqf | apply zqh | refine below_set ?_ GE127.out) | exact HB.out)⟩⟩
   ·
    replace c7 := Bool.eq_false_iff.mpr c7
    subst c7
    have H1 : (inst_May.j0 k true a0_0 a0_1 a0_2 l0_3) = some r := by rw [if_neg (show ¬ (false = true) by decide)] at H; exact H
    clear H
    have H := H1
    clear H1
    have H' := zqi H
    clear H
    obtain ⟨hcz35_0, hcz35_1, hcz35_2, hcz35_3, hfz35_0, hfz35_1, hfz35_2, hfz35_3⟩ := zqz4 BK127.out
    go_wp2_with (first | ((with_reducible refine gate_dst (N := 7) rfl ?_); (try (refine gate_guard (by rfl) ?_; dsimp only)); refine Kd.R_lit (Kd.int .i64) _ 3 ?hg (N := 7) ?hd (xs := ([a0_0] : List Int)) (inner := [.int .i64 a0_0]) (ok := fun _ => True) (okp := fun _ => True) ?hr ?hp (fun _ hk => hk) trivial (Below.refl _ _) (Nat.le_refl _) (by simp) ?_; (case hd => rfl); (case hg => rfl); (case hr => first | (go_simp; done) | (go_simp; rfl)); (case hp => exact (Reps.one (show Kd.M (Kd.int .i64) _ _ _ a0_0 [.int .i64 a0_0] from rfl) (Reps.none _ _))); intro v129 w36 ho37 hb hg_ hnew_; clear hg_ hnew_; (first | rw [← Ny128.out] at ho37 | (simp only [Int.reduceToNat] at ho37; rw [← Ny128.out] at ho37)); have n0_ := zqi (Kd.R_lower ho37 (below_size (zqn HB.out))); have n1_ := zqi (zqy BK127.out hb); have n2_ := zqi (below_step (zqn HB.out) hb); clear BK127; clear HB; have HO130 := n0_; have BK127 := n1_; have HB := n2_; clear n0_ n1_ n2_; clear hb ho37; obtain ⟨Ao38, co38, eo38⟩ := Kd.R_slice HO130.out; subst eo38) | (go_at_call 46; (with_reducible refine (inst_between.calls k 0 16 _ _ y128 true _ ?side1 ?side2 A4.out).mono ?_); (case side1 => repeat (first | exact (Kd.R_reads' HO130.out).2.2 | (with_reducible refine Kd.C_alloc ?_ _) | (with_reducible refine Kd.C_drewN ?_ _) | (with_reducible refine Kd.C_drew ?_))); (case side2 => exact (Kd.R_reads' HO130.out).2.1); rintro e w' ⟨rfl, ⟨nd, rfl⟩⟩; (try first | exact ⟨rfl, _, zqj⟩ | exact ⟨rfl, _, Eq.trans (zqj) (congrArg (World.drewN _) (Nat.add_assoc _ _ _))⟩); obtain ⟨hcz39_0, hcz39_1, hcz39_2, hcz39_3, hfz39_0, hfz39_1, hfz39_2, hfz39_3⟩ := zqz4 BK127.out) | ((with_reducible refine gate_dst (N := 13) rfl ?_); (try (refine gate_guard (by rfl) ?_; dsimp only)); refine Kd.R_lit (Kd.int .i64) _ 3 ?hg (N := 13) ?hd (xs := ([a0_1] : List Int)) (inner := [.int .i64 a0_1]) (ok := fun _ => True) (okp := fun _ => True) ?hr ?hp (fun _ hk => hk) trivial (Below.refl _ _) (Nat.le_refl _) (by simp) ?_; (case hd => rfl); (case hg => rfl); (case hr => first | (go_simp; done) | (go_simp; rfl)); (case hp => exact (Reps.one (show Kd.M (Kd.int .i64) _ _ _ a0_1 [.int .i64 a0_1] from rfl) (Reps.none _ _))); intro v133 w40 ho41 hb hg_ hnew_; clear hg_ hnew_; (first | rw [← Ny132.out] at ho41 | (simp only [Int.reduceToNat] at ho41; rw [← Ny132.out] at ho41)); have n0_ := zqi (Kd.R_elder' (by (with_reducible repeat (first | apply Kd.R_alloc | apply Kd.R_drewN | apply Kd.R_drew)); exact HO130.out) (Kd.R_base ho41) hb); have n1_ := zqi (Kd.R_lower (Kd.R_new' ho41 (Kd.R_lt (by (with_reducible repeat (first | apply Kd.R_alloc | apply Kd.R_drewN | apply Kd.R_drew)); exact HO130.out))) (below_size (zqn HB.out))); have n2_ := zqi (zqy BK127.out hb); have n3_ := zqi (below_step (zqn HB.out) hb); clear HO130; clear BK127; clear HB; have HO130 := n0_; have HO134 := n1_; have BK127 := n2_; have HB := n3_; clear n0_ n1_ n2_ n3_; clear hb ho41; obtain ⟨Ao42, co42, eo42⟩ := Kd.R_slice HO134.out; subst eo42) | (go_at_call 46; (with_reducible refine (inst_between.calls k 1 8 _ _ y132 false _ ?side1 ?side2 A6.out).mono ?_); (case side1 => repeat (first | exact (Kd.R_reads' HO134.out).2.2 | (with_reducible refine Kd.C_alloc ?_ _) | (with_reducible refine Kd.C_drewN ?_ _) | (with_reducible refine Kd.C_drew ?_))); (case side2 => exact (Kd.R_reads' HO134.out).2.1); rintro e w' ⟨rfl, ⟨nd, rfl⟩⟩; (try first | exact ⟨rfl, _, zqj⟩ | exact ⟨rfl, _, Eq.trans (zqj) (congrArg (World.drewN _) (Nat.add_assoc _ _ _))⟩)))
    repeat (go_quiet (first | ((with_reducible refine gate_dst (N := 7) rfl ?_); (try (refine gate_guard (by rfl) ?_; dsimp only)); refine Kd.R_lit (Kd.int .i64) _ 3 ?hg (N := 7) ?hd (xs := ([a0_0] : List Int)) (inner := [.int .i64 a0_0]) (ok := fun _ => True) (okp := fun _ => True) ?hr ?hp (fun _ hk => hk) trivial (Below.refl _ _) (Nat.le_refl _) (by simp) ?_; (case hd => rfl); (case hg => rfl); (case hr => first | (go_simp; done) | (go_simp; rfl)); (case hp => exact (Reps.one (show Kd.M (Kd.int .i64) _ _ _ a0_0 [.int .i64 a0_0] from rfl) (Reps.none _ _))); intro v129 w36 ho37 hb hg_ hnew_; clear hg_ hnew_; (first | rw [← Ny128.out] at ho37 | (simp only [Int.reduceToNat] at ho37; rw [← Ny128.out] at ho37)); have n0_ := zqi (Kd.R_lower ho37 (below_size (zqn HB.out))); have n1_ := zqi (zqy BK127.out hb); have n2_ := zqi (below_step (zqn HB.out) hb); clear BK127; clear HB; have HO130 := n0_; have BK127 := n1_; have HB := n2_; clear n0_ n1_ n2_; clear hb ho37; obtain ⟨Ao38, co38, eo38⟩ := Kd.R_slice HO130.out; subst eo38) | (go_at_call 46; (with_reducible refine (inst_between.calls k 0 16 _ _ y128 true _ ?side1 ?side2 A4.out).mono ?_); (case side1 => repeat (first | exact (Kd.R_reads' HO130.out).2.2 | (with_reducible refine Kd.C_alloc ?_ _) | (with_reducible refine Kd.C_drewN ?_ _) | (with_reducible refine Kd.C_drew ?_))); (case side2 => exact (Kd.R_reads' HO130.out).2.1); rintro e w' ⟨rfl, ⟨nd, rfl⟩⟩; (try first | exact ⟨rfl, _, zqj⟩ | exact ⟨rfl, _, Eq.trans (zqj) (congrArg (World.drewN _) (Nat.add_assoc _ _ _))⟩); obtain ⟨hcz39_0, hcz39_1, hcz39_2, hcz39_3, hfz39_0, hfz39_1, hfz39_2, hfz39_3⟩ := zqz4 BK127.out) | ((with_reducible refine gate_dst (N := 13) rfl ?_); (try (refine gate_guard (by rfl) ?_; dsimp only)); refine Kd.R_lit (Kd.int .i64) _ 3 ?hg (N := 13) ?hd (xs := ([a0_1] : List Int)) (inner := [.int .i64 a0_1]) (ok := fun _ => True) (okp := fun _ => True) ?hr ?hp (fun _ hk => hk) trivial (Below.refl _ _) (Nat.le_refl _) (by simp) ?_; (case hd => rfl); (case hg => rfl); (case hr => first | (go_simp; done) | (go_simp; rfl)); (case hp => exact (Reps.one (show Kd.M (Kd.int .i64) _ _ _ a0_1 [.int .i64 a0_1] from rfl) (Reps.none _ _))); intro v133 w40 ho41 hb hg_ hnew_; clear hg_ hnew_; (first | rw [← Ny132.out] at ho41 | (simp only [Int.reduceToNat] at ho41; rw [← Ny132.out] at ho41)); have n0_ := zqi (Kd.R_elder' (by (with_reducible repeat (first | apply Kd.R_alloc | apply Kd.R_drewN | apply Kd.R_drew)); exact HO130.out) (Kd.R_base ho41) hb); have n1_ := zqi (Kd.R_lower (Kd.R_new' ho41 (Kd.R_lt (by (with_reducible repeat (first | apply Kd.R_alloc | apply Kd.R_drewN | apply Kd.R_drew)); exact HO130.out))) (below_size (zqn HB.out))); have n2_ := zqi (zqy BK127.out hb); have n3_ := zqi (below_step (zqn HB.out) hb); clear HO130; clear BK127; clear HB; have HO130 := n0_; have HO134 := n1_; have BK127 := n2_; have HB := n3_; clear n0_ n1_ n2_ n3_; clear hb ho41; obtain ⟨Ao42, co42, eo42⟩ := Kd.R_slice HO134.out; subst eo42) | (go_at_call 46; (with_reducible refine (inst_between.calls k 1 8 _ _ y132 false _ ?side1 ?side2 A6.out).mono ?_); (case side1 => repeat (first | exact (Kd.R_reads' HO134.out).2.2 | (with_reducible refine Kd.C_alloc ?_ _) | (with_reducible refine Kd.C_drewN ?_ _) | (with_reducible refine Kd.C_drew ?_))); (case side2 => exact (Kd.R_reads' HO134.out).2.1); rintro e w' ⟨rfl, ⟨nd, rfl⟩⟩; (try first | exact ⟨rfl, _, zqj⟩ | exact ⟨rfl, _, Eq.trans (zqj) (congrArg (World.drewN _) (Nat.add_assoc _ _ _))⟩))); try go_wp2_with (first | ((with_reducible refine gate_dst (N := 7) rfl ?_); (try (refine gate_guard (by rfl) ?_; dsimp only)); refine Kd.R_lit (Kd.int .i64) _ 3 ?hg (N := 7) ?hd (xs := ([a0_0] : List Int)) (inner := [.int .i64 a0_0]) (ok := fun _ => True) (okp := fun _ => True) ?hr ?hp (fun _ hk => hk) trivial (Below.refl _ _) (Nat.le_refl _) (by simp) ?_; (case hd => rfl); (case hg => rfl); (case hr => first | (go_simp; done) | (go_simp; rfl)); (case hp => exact (Reps.one (show Kd.M (Kd.int .i64) _ _ _ a0_0 [.int .i64 a0_0] from rfl) (Reps.none _ _))); intro v129 w36 ho37 hb hg_ hnew_; clear hg_ hnew_; (first | rw [← Ny128.out] at ho37 | (simp only [Int.reduceToNat] at ho37; rw [← Ny128.out] at ho37)); have n0_ := zqi (Kd.R_lower ho37 (below_size (zqn HB.out))); have n1_ := zqi (zqy BK127.out hb); have n2_ := zqi (below_step (zqn HB.out) hb); clear BK127; clear HB; have HO130 := n0_; have BK127 := n1_; have HB := n2_; clear n0_ n1_ n2_; clear hb ho37; obtain ⟨Ao38, co38, eo38⟩ := Kd.R_slice HO130.out; subst eo38) | (go_at_call 46; (with_reducible refine (inst_between.calls k 0 16 _ _ y128 true _ ?side1 ?side2 A4.out).mono ?_); (case side1 => repeat (first | exact (Kd.R_reads' HO130.out).2.2 | (with_reducible refine Kd.C_alloc ?_ _) | (with_reducible refine Kd.C_drewN ?_ _) | (with_reducible refine Kd.C_drew ?_))); (case side2 => exact (Kd.R_reads' HO130.out).2.1); rintro e w' ⟨rfl, ⟨nd, rfl⟩⟩; (try first | exact ⟨rfl, _, zqj⟩ | exact ⟨rfl, _, Eq.trans (zqj) (congrArg (World.drewN _) (Nat.add_assoc _ _ _))⟩); obtain ⟨hcz39_0, hcz39_1, hcz39_2, hcz39_3, hfz39_0, hfz39_1, hfz39_2, hfz39_3⟩ := zqz4 BK127.out) | ((with_reducible refine gate_dst (N := 13) rfl ?_); (try (refine gate_guard (by rfl) ?_; dsimp only)); refine Kd.R_lit (Kd.int .i64) _ 3 ?hg (N := 13) ?hd (xs := ([a0_1] : List Int)) (inner := [.int .i64 a0_1]) (ok := fun _ => True) (okp := fun _ => True) ?hr ?hp (fun _ hk => hk) trivial (Below.refl _ _) (Nat.le_refl _) (by simp) ?_; (case hd => rfl); (case hg => rfl); (case hr => first | (go_simp; done) | (go_simp; rfl)); (case hp => exact (Reps.one (show Kd.M (Kd.int .i64) _ _ _ a0_1 [.int .i64 a0_1] from rfl) (Reps.none _ _))); intro v133 w40 ho41 hb hg_ hnew_; clear hg_ hnew_; (first | rw [← Ny132.out] at ho41 | (simp only [Int.reduceToNat] at ho41; rw [← Ny132.out] at ho41)); have n0_ := zqi (Kd.R_elder' (by (with_reducible repeat (first | apply Kd.R_alloc | apply Kd.R_drewN | apply Kd.R_drew)); exact HO130.out) (Kd.R_base ho41) hb); have n1_ := zqi (Kd.R_lower (Kd.R_new' ho41 (Kd.R_lt (by (with_reducible repeat (first | apply Kd.R_alloc | apply Kd.R_drewN | apply Kd.R_drew)); exact HO130.out))) (below_size (zqn HB.out))); have n2_ := zqi (zqy BK127.out hb); have n3_ := zqi (below_step (zqn HB.out) hb); clear HO130; clear BK127; clear HB; have HO130 := n0_; have HO134 := n1_; have BK127 := n2_; have HB := n3_; clear n0_ n1_ n2_ n3_; clear hb ho41; obtain ⟨Ao42, co42, eo42⟩ := Kd.R_slice HO134.out; subst eo42) | (go_at_call 46; (with_reducible refine (inst_between.calls k 1 8 _ _ y132 false _ ?side1 ?side2 A6.out).mono ?_); (case side1 => repeat (first | exact (Kd.R_reads' HO134.out).2.2 | (with_reducible refine Kd.C_alloc ?_ _) | (with_reducible refine Kd.C_drewN ?_ _) | (with_reducible refine Kd.C_drew ?_))); (case side2 => exact (Kd.R_reads' HO134.out).2.1); rintro e w' ⟨rfl, ⟨nd, rfl⟩⟩; (try first | exact ⟨rfl, _, zqj⟩ | exact ⟨rfl, _, Eq.trans (zqj) (congrArg (World.drewN _) (Nat.add_assoc _ _ _))⟩))))
    go_meet
    case rel => exact ⟨_, (true), (by first | rfl | (simp; done) | (simp [*]; done)), H', ⟨by first | omega | exact Nat.le_refl _⟩, ⟨by (with_reducible repeat (first | apply zqa | apply zqb | apply zqc)); exact BK127.out⟩, ⟨by repeat (first | (with_reducible first | exact HB.out | apply zqg | apply zqf | apply zqh | refine below_set ?_ GE127.out) | exact HB.out)⟩⟩
  ·
   replace c5 := Bool.eq_false_iff.mpr c5
   subst c5
   have H1 : (inst_May.j0 k true a0_0 a0_1 a0_2 l0_3) = some r := by rw [if_neg (show ¬ (false = true) by decide)] at H; exact H
   clear H
   have H := H1
   clear H1
   have H' := zqi H
   clear H
   obtain ⟨hcz43_0, hcz43_1, hcz43_2, hcz43_3, hfz43_0, hfz43_1, hfz43_2, hfz43_3⟩ := zqz4 BK127.out
   go_wp2_with (first | ((with_reducible refine gate_dst (N := 7) rfl ?_); (try (refine gate_guard (by rfl) ?_; dsimp only)); refine Kd.R_lit (Kd.int .i64) _ 3 ?hg (N := 7) ?hd (xs := ([a0_0] : List Int)) (inner := [.int .i64 a0_0]) (ok := fun _ => True) (okp := fun _ => True) ?hr ?hp (fun _ hk => hk) trivial (Below.refl _ _) (Nat.le_refl _) (by simp) ?_; (case hd => rfl); (case hg => rfl); (case hr => first | (go_simp; done) | (go_simp; rfl)); (case hp => exact (Reps.one (show Kd.M (Kd.int .i64) _ _ _ a0_0 [.int .i64 a0_0] from rfl) (Reps.none _ _))); intro v129 w44 ho45 hb hg_ hnew_; clear hg_ hnew_; (first | rw [← Ny128.out] at ho45 | (simp only [Int.reduceToNat] at ho45; rw [← Ny128.out] at ho45)); have n0_ := zqi (Kd.R_lower ho45 (below_size (zqn HB.out))); have n1_ := zqi (zqy BK127.out hb); have n2_ := zqi (below_step (zqn HB.out) hb); clear BK127; clear HB; have HO130 := n0_; have BK127 := n1_; have HB := n2_; clear n0_ n1_ n2_; clear hb ho45; obtain ⟨Ao46, co46, eo46⟩ := Kd.R_slice HO130.out; subst eo46) | (go_at_call 46; (with_reducible refine (inst_between.calls k 0 16 _ _ y128 false _ ?side1 ?side2 A4.out).mono ?_); (case side1 => repeat (first | exact (Kd.R_reads' HO130.out).2.2 | (with_reducible refine Kd.C_alloc ?_ _) | (with_reducible refine Kd.C_drewN ?_ _) | (with_reducible refine Kd.C_drew ?_))); (case side2 => exact (Kd.R_reads' HO130.out).2.1); rintro e w' ⟨rfl, ⟨nd, rfl⟩⟩; (try first | exact ⟨rfl, _, zqj⟩ | exact ⟨rfl, _, Eq.trans (zqj) (congrArg (World.drewN _) (Nat.add_assoc _ _ _))⟩)))
   repeat (go_quiet (first | ((with_reducible refine gate_dst (N := 7) rfl ?_); (try (refine gate_guard (by rfl) ?_; dsimp only)); refine Kd.R_lit (Kd.int .i64) _ 3 ?hg (N := 7) ?hd (xs := ([a0_0] : List Int)) (inner := [.int .i64 a0_0]) (ok := fun _ => True) (okp := fun _ => True) ?hr ?hp (fun _ hk => hk) trivial (Below.refl _ _) (Nat.le_refl _) (by simp) ?_; (case hd => rfl); (case hg => rfl); (case hr => first | (go_simp; done) | (go_simp; rfl)); (case hp => exact (Reps.one (show Kd.M (Kd.int .i64) _ _ _ a0_0 [.int .i64 a0_0] from rfl) (Reps.none _ _))); intro v129 w44 ho45 hb hg_ hnew_; clear hg_ hnew_; (first | rw [← Ny128.out] at ho45 | (simp only [Int.reduceToNat] at ho45; rw [← Ny128.out] at ho45)); have n0_ := zqi (Kd.R_lower ho45 (below_size (zqn HB.out))); have n1_ := zqi (zqy BK127.out hb); have n2_ := zqi (below_step (zqn HB.out) hb); clear BK127; clear HB; have HO130 := n0_; have BK127 := n1_; have HB := n2_; clear n0_ n1_ n2_; clear hb ho45; obtain ⟨Ao46, co46, eo46⟩ := Kd.R_slice HO130.out; subst eo46) | (go_at_call 46; (with_reducible refine (inst_between.calls k 0 16 _ _ y128 false _ ?side1 ?side2 A4.out).mono ?_); (case side1 => repeat (first | exact (Kd.R_reads' HO130.out).2.2 | (with_reducible refine Kd.C_alloc ?_ _) | (with_reducible refine Kd.C_drewN ?_ _) | (with_reducible refine Kd.C_drew ?_))); (case side2 => exact (Kd.R_reads' HO130.out).2.1); rintro e w' ⟨rfl, ⟨nd, rfl⟩⟩; (try first | exact ⟨rfl, _, zqj⟩ | exact ⟨rfl, _, Eq.trans (zqj) (congrArg (World.drewN _) (Nat.add_assoc _ _ _))⟩))); try go_wp2_with (first | ((with_reducible refine gate_dst (N := 7) rfl ?_); (try (refine gate_guard (by rfl) ?_; dsimp only)); refine Kd.R_lit (Kd.int .i64) _ 3 ?hg (N := 7) ?hd (xs := ([a0_0] : List Int)) (inner := [.int .i64 a0_0]) (ok := fun _ => True) (okp := fun _ => True) ?hr ?hp (fun _ hk => hk) trivial (Below.refl _ _) (Nat.le_refl _) (by simp) ?_; (case hd => rfl); (case hg => rfl); (case hr => first | (go_simp; done) | (go_simp; rfl)); (case hp => exact (Reps.one (show Kd.M (Kd.int .i64) _ _ _ a0_0 [.int .i64 a0_0] from rfl) (Reps.none _ _))); intro v129 w44 ho45 hb hg_ hnew_; clear hg_ hnew_; (first | rw [← Ny128.out] at ho45 | (simp only [Int.reduceToNat] at ho45; rw [← Ny128.out] at ho45)); have n0_ := zqi (Kd.R_lower ho45 (below_size (zqn HB.out))); have n1_ := zqi (zqy BK127.out hb); have n2_ := zqi (below_step (zqn HB.out) hb); clear BK127; clear HB; have HO130 := n0_; have BK127 := n1_; have HB := n2_; clear n0_ n1_ n2_; clear hb ho45; obtain ⟨Ao46, co46, eo46⟩ := Kd.R_slice HO130.out; subst eo46) | (go_at_call 46; (with_reducible refine (inst_between.calls k 0 16 _ _ y128 false _ ?side1 ?side2 A4.out).mono ?_); (case side1 => repeat (first | exact (Kd.R_reads' HO130.out).2.2 | (with_reducible refine Kd.C_alloc ?_ _) | (with_reducible refine Kd.C_drewN ?_ _) | (with_reducible refine Kd.C_drew ?_))); (case side2 => exact (Kd.R_reads' HO130.out).2.1); rintro e w' ⟨rfl, ⟨nd, rfl⟩⟩; (try first | exact ⟨rfl, _, zqj⟩ | exact ⟨rfl, _, Eq.trans (zqj) (congrArg (World.drewN _) (Nat.add_assoc _ _ _))⟩))))
   go_meet
   case rel => exact ⟨_, (true), (by first | rfl | (simp; done) | (simp [*]; done)), H', ⟨by first | omega | exact Nat.le_refl _⟩, ⟨by (with_reducible repeat (first | apply zqa | apply zqb | apply zqc)); exact BK127.out⟩, ⟨by repeat (first | (with_reducible first | exact HB.out | apply zqg | apply zqf | apply zqh | refine below_set ?_ GE127.out) | exact HB.out)⟩⟩
 case rest =>
  clear HC2
  try clear p2
  try clear c3
  try clear c5
  try clear p6
  try clear c7
  try clear c9
  try clear c34
  try clear hcz10_0
  try clear hcz10_1
  try clear hcz10_2
  try clear hcz10_3
  try clear hcz14_0
  try clear hcz14_1
  try clear hcz14_2
  try clear hcz14_3
  try clear hcz18_0
  try clear hcz18_1
  try clear hcz18_2
  try clear hcz18_3
  try clear hcz22_0
  try clear hcz22_1
  try clear hcz22_2
  try clear hcz22_3
  try clear hcz23_0
  try clear hcz23_1
  try clear hcz23_2
  try clear hcz23_3
  try clear hcz27_0
  try clear hcz27_1
  try clear hcz27_2
  try clear hcz27_3
  try clear hcz31_0
  try clear hcz31_1
  try clear hcz31_2
  try clear hcz31_3
  try clear hcz35_0
  try clear hcz35_1
  try clear hcz35_2
  try clear hcz35_3
  try clear hcz39_0
  try clear hcz39_1
  try clear hcz39_2
  try clear hcz39_3
  try clear hcz43_0
  try clear hcz43_1
  try clear hcz43_2
  try clear hcz43_3
  try clear hfz10_0
  try clear hfz10_1
  try clear hfz10_2
  try clear hfz10_3
  try clear hfz14_0
  try clear hfz14_1
  try clear hfz14_2
  try clear hfz14_3
  try clear hfz18_0
  try clear hfz18_1
  try clear hfz18_2
  try clear hfz18_3
  try clear hfz22_0
  try clear hfz22_1
  try clear hfz22_2
  try clear hfz22_3
  try clear hfz23_0
  try clear hfz23_1
  try clear hfz23_2
  try clear hfz23_3
  try clear hfz27_0
  try clear hfz27_1
  try clear hfz27_2
  try clear hfz27_3
  try clear hfz31_0
  try clear hfz31_1
  try clear hfz31_2
  try clear hfz31_3
  try clear hfz35_0
  try clear hfz35_1
  try clear hfz35_2
  try clear hfz35_3
  try clear hfz39_0
  try clear hfz39_1
  try clear hfz39_2
  try clear hfz39_3
  try clear hfz43_0
  try clear hfz43_1
  try clear hfz43_2
  try clear hfz43_3
  obtain ⟨kq, x33_1, rfl, HA, HJ1, BK127, HB⟩ := hcut
  cases kq with
  | zero => exact absurd HA.out (by simp [inst_May.j0])
  | succ kj1 =>
   have H := HA.out
   clear HA
   simp only [inst_May.j0] at H
   by_cases c47 : x33_1 = true
   ·
    subst c47
    have H1 : (some false) = some r := by rw [if_pos rfl] at H; exact H
    clear H
    have H := H1
    clear H1
    obtain rfl := Option.some.inj H
    go_wp2
    repeat (go_quiet (fail); try go_wp2)
    go_ret
    exact ⟨by first | rfl | (simp [errW_none, errW_some] <;> rfl) | (simp [*, errW_none, errW_some] <;> rfl), by repeat (first | (with_reducible first | exact HB.out | apply zqg | apply zqf | apply zqh | refine below_set ?_ GE127.out) | exact HB.out)⟩
   ·
    replace c47 := Bool.eq_false_iff.mpr c47
    subst c47
    have H1 : (inst_May.l0 kj1 l0_3 (l0_3.length : Int) 0 a0_0 a0_1 a0_2 l0_3) = some r := by rw [if_neg (show ¬ (false = true) by decide)] at H; exact H
    clear H
    have H := H1
    clear H1
    have H' := zqi H
    clear H
    obtain ⟨hcz48_0, hcz48_1, hcz48_2, hcz48_3, hfz48_0, hfz48_1, hfz48_2, hfz48_3⟩ := zqz4 BK127.out
    go_wp2
    repeat (go_quiet (fail); try go_wp2)
    go_loopg [37] kj1 (fun kq v37 w' => ∃ (x37_2 : Int), v37 = .int .i64 x37_2 ∧ Aside0 (inst_May.l0 kq l0_3 (l0_3.length : Int) x37_2 a0_0 a0_1 a0_2 l0_3 = some r) ∧ Aside0 (kq ≤ kj1) ∧ Aside0 (w'.heap[gb127]? = some (.cells #[.int .i64 a0_0, .int .i64 a0_1, .int .i64 a0_2, (.slice A0_3 l0_3.length c0_3)] 39 (0, 0))) ∧ Aside0 (Below w.heap.size w w'))
    case atStart => exact ⟨(0), (by first | rfl | (simp; done) | (simp [*]; done)), H', ⟨Nat.le_refl _⟩, ⟨by (with_reducible repeat (first | apply zqa | apply zqb | apply zqc)); exact BK127.out⟩, ⟨by repeat (first | (with_reducible first | exact HB.out | apply zqg | apply zqf | apply zqh | refine below_set ?_ GE127.out) | exact HB.out)⟩⟩
    case round =>
     clear H'
     try clear p2
     try clear c3
     try clear c4
     try clear c5
     try clear p6
     try clear c7
     try clear c9
     try clear c34
     try clear c47
     try clear hcz10_0
     try clear hcz10_1
     try clear hcz10_2
     try clear hcz10_3
     try clear hcz14_0
     try clear hcz14_1
     try clear hcz14_2
     try clear hcz14_3
     try clear hcz18_0
     try clear hcz18_1
     try clear hcz18_2
     try clear hcz18_3
     try clear hcz22_0
     try clear hcz22_1
     try clear hcz22_2
     try clear hcz22_3
     try clear hcz23_0
     try clear hcz23_1
     try clear hcz23_2
     try clear hcz23_3
     try clear hcz27_0
     try clear hcz27_1
     try clear hcz27_2
     try clear hcz27_3
     try clear hcz31_0
     try clear hcz31_1
     try clear hcz31_2
     try clear hcz31_3
     try clear hcz35_0
     try clear hcz35_1
     try clear hcz35_2
     try clear hcz35_3
     try clear hcz39_0
     try clear hcz39_1
     try clear hcz39_2
     try clear hcz39_3
     try clear hcz43_0
     try clear hcz43_1
     try clear hcz43_2
     try clear hcz43_3
     try clear hcz48_0
     try clear hcz48_1
     try clear hcz48_2
     try clear hcz48_3
     try clear hfz10_0
     try clear hfz10_1
     try clear hfz10_2
     try clear hfz10_3
     try clear hfz14_0
     try clear hfz14_1
     try clear hfz14_2
     try clear hfz14_3
     try clear hfz18_0
     try clear hfz18_1
     try clear hfz18_2
     try clear hfz18_3
     try clear hfz22_0
     try clear hfz22_1
     try clear hfz22_2
     try clear hfz22_3
     try clear hfz23_0
     try clear hfz23_1
     try clear hfz23_2
     try clear hfz23_3
     try clear hfz27_0
     try clear hfz27_1
     try clear hfz27_2
     try clear hfz27_3
     try clear hfz31_0
     try clear hfz31_1
     try clear hfz31_2
     try clear hfz31_3
     try clear hfz35_0
     try clear hfz35_1
     try clear hfz35_2
     try clear hfz35_3
     try clear hfz39_0
     try clear hfz39_1
     try clear hfz39_2
     try clear hfz39_3
     try clear hfz43_0
     try clear hfz43_1
     try clear hfz43_2
     try clear hfz43_3
     try clear hfz48_0
     try clear hfz48_1
     try clear hfz48_2
     try clear hfz48_3
     try clear p2
     try clear p6
     obtain ⟨x37_2, rfl, HA, HK2, BK127, HB⟩ := hrel
     cases gk with
     | zero => exact absurd HA.out (by simp [inst_May.l0])
     | succ k2 =>
      have H := HA.out
      clear HA
      simp only [inst_May.l0] at H
      by_cases c49 : x37_2 < (l0_3.length : Int)
      ·
       rw [if_pos c49] at H
       have c49b0 : decide (x37_2 < (l0_3.length : Int)) = true := decide_eq_true c49
       clear c49
       by_cases c50 : 0 ≤ x37_2
       ·
        rw [if_pos c50] at H
        have c50b0 : decide (0 ≤ x37_2) = true := decide_eq_true c50
        clear c50
        by_cases c51 : x37_2 < (l0_3.length : Int)
        ·
         rw [if_pos c51] at H
         have c51b0 : decide (x37_2 < (l0_3.length : Int)) = true := decide_eq_true c51
         clear c51
         have HC52 := zqi H
         clear H
         have p140 : 0 ≤ (x37_2 : Int) := of_decide_eq_true (by first | (with_reducible assumption) | assumption)
         have q140 : x37_2 < (l0_3.length : Int) := of_decide_eq_true (by first | (with_reducible assumption) | assumption)
         obtain ⟨ad140, e140, hx140_0, hx140_1, hx140_2, hx140_3, hx140_4, hx140_5⟩ := at_T58 HR0_3.out x37_2 p140 q140
         cases e140
         replace hx140_0 := (HB.out.cell (World.block_lt_of_cell? w _ hx140_0)).trans hx140_0
         replace hx140_1 := (HB.out.cell (World.block_lt_of_cell? w _ hx140_1)).trans hx140_1
         replace hx140_2 := (HB.out.cell (World.block_lt_of_cell? w _ hx140_2)).trans hx140_2
         replace hx140_3 := (HB.out.cell (World.block_lt_of_cell? w _ hx140_3)).trans hx140_3
         replace hx140_4 := (HB.out.cell (World.block_lt_of_cell? w _ hx140_4)).trans hx140_4
         replace hx140_5 := (HB.out.cell (World.block_lt_of_cell? w _ hx140_5)).trans hx140_5
         replace p140 := eq_true p140
         replace q140 := eq_true q140
         go_upto_region 6 with (first | ((with_reducible refine gate_dst (N := 4) rfl ?_); (try (refine gate_guard (by rfl) ?_; dsimp only)); refine box_event ?hg (N := 4) ?hd (cs := #[.int .i64 0, .int .i64 0, .int .i64 0, .int .i64 0, .int .i64 0, .int .i64 0]) (t := 58) ?hr ?_; (case hd => rfl); (case hg => rfl); (case hr => first | (go_simp; done) | (go_simp; rfl)); intro gb141 hg w53 hbox hb; have n0_ := zqi (zqy BK127.out hb); have n1_ := zqi (below_step (zqn HB.out) hb); have n2_ := zqi (hbox); have n3_ := zqi (zqo hg HB.out); have n4_ := zqi (zqo hg HB.out); have n5_ := zqi ((zqq hg BK127.out)); have n6_ := zqi ((zqr hg BK127.out)); clear BK127; clear HB; have BK127 := n0_; have HB := n1_; have BK141 := n2_; have GW141 := n3_; have GE141 := n4_; have NB127_141 := n5_; have NB141_127 := n6_; clear n0_ n1_ n2_ n3_ n4_ n5_ n6_; clear hb hbox hg; have hnb54 := NB141_127.out; have hnc54 := NB127_141.out; obtain ⟨hcz55_0, hcz55_1, hcz55_2, hcz55_3, hcz55_4, hcz55_5, hfz55_0, hfz55_1, hfz55_2, hfz55_3, hfz55_4, hfz55_5⟩ := zqz6 BK141.out))
         repeat (go_quiet (first | ((with_reducible refine gate_dst (N := 4) rfl ?_); (try (refine gate_guard (by rfl) ?_; dsimp only)); refine box_event ?hg (N := 4) ?hd (cs := #[.int .i64 0, .int .i64 0, .int .i64 0, .int .i64 0, .int .i64 0, .int .i64 0]) (t := 58) ?hr ?_; (case hd => rfl); (case hg => rfl); (case hr => first | (go_simp; done) | (go_simp; rfl)); intro gb141 hg w53 hbox hb; have n0_ := zqi (zqy BK127.out hb); have n1_ := zqi (below_step (zqn HB.out) hb); have n2_ := zqi (hbox); have n3_ := zqi (zqo hg HB.out); have n4_ := zqi (zqo hg HB.out); have n5_ := zqi ((zqq hg BK127.out)); have n6_ := zqi ((zqr hg BK127.out)); clear BK127; clear HB; have BK127 := n0_; have HB := n1_; have BK141 := n2_; have GW141 := n3_; have GE141 := n4_; have NB127_141 := n5_; have NB141_127 := n6_; clear n0_ n1_ n2_ n3_ n4_ n5_ n6_; clear hb hbox hg; have hnb54 := NB141_127.out; have hnc54 := NB127_141.out; obtain ⟨hcz55_0, hcz55_1, hcz55_2, hcz55_3, hcz55_4, hcz55_5, hfz55_0, hfz55_1, hfz55_2, hfz55_3, hfz55_4, hfz55_5⟩ := zqz6 BK141.out)); go_upto_region 6 with (first | ((with_reducible refine gate_dst (N := 4) rfl ?_); (try (refine gate_guard (by rfl) ?_; dsimp only)); refine box_event ?hg (N := 4) ?hd (cs := #[.int .i64 0, .int .i64 0, .int .i64 0, .int .i64 0, .int .i64 0, .int .i64 0]) (t := 58) ?hr ?_; (case hd => rfl); (case hg => rfl); (case hr => first | (go_simp; done) | (go_simp; rfl)); intro gb141 hg w53 hbox hb; have n0_ := zqi (zqy BK127.out hb); have n1_ := zqi (below_step (zqn HB.out) hb); have n2_ := zqi (hbox); have n3_ := zqi (zqo hg HB.out); have n4_ := zqi (zqo hg HB.out); have n5_ := zqi ((zqq hg BK127.out)); have n6_ := zqi ((zqr hg BK127.out)); clear BK127; clear HB; have BK127 := n0_; have HB := n1_; have BK141 := n2_; have GW141 := n3_; have GE141 := n4_; have NB127_141 := n5_; have NB141_127 := n6_; clear n0_ n1_ n2_ n3_ n4_ n5_ n6_; clear hb hbox hg; have hnb54 := NB141_127.out; have hnc54 := NB127_141.out; obtain ⟨hcz55_0, hcz55_1, hcz55_2, hcz55_3, hcz55_4, hcz55_5, hfz55_0, hfz55_1, hfz55_2, hfz55_3, hfz55_4, hfz55_5⟩ := zqz6 BK141.out)))
         (try simp only [Act.put, List.setIfInBounds_toArray, List.set_cons_zero, List.set_cons_succ])
         go_cut [71] (fun v71 wc => ∃ (kq : Nat) (x71_51 : Bool), v71 = .bool x71_51 ∧ Aside0 (inst_May.j2 kq x37_2 l0_3 (l0_3.length : Int) x37_2 x71_51 a0_0 a0_1 a0_2 l0_3 ((rd_T58 l0_3 x37_2).f0) ((rd_T58 l0_3 x37_2).f1) ((rd_T58 l0_3 x37_2).f2) ((rd_T58 l0_3 x37_2).f3) ((rd_T58 l0_3 x37_2).f4) ((rd_T58 l0_3 x37_2).f5) = some r) ∧ Aside0 (kq ≤ k2) ∧ Aside0 (wc.heap[gb127]? = some (.cells #[.int .i64 a0_0, .int .i64 a0_1, .int .i64 a0_2, (.slice (some ad140) l0_3.length c0_3)] 39 (0, 0))) ∧ Aside0 (wc.heap[gb141]? = some (.cells #[.int .i64 ((rd_T58 l0_3 x37_2).f0), .int .i64 ((rd_T58 l0_3 x37_2).f1), .int .i64 ((rd_T58 l0_3 x37_2).f2), .int .i64 ((rd_T58 l0_3 x37_2).f3), .int .i64 ((rd_T58 l0_3 x37_2).f4), .int .i64 ((rd_T58 l0_3 x37_2).f5)] 58 (0, 0))) ∧ Aside0 (Below w.heap.size w wc))
         case first =>
          have H := HC52.out
          clear HC52
          obtain ⟨y142, hy142⟩ : ∃ y_ : List Int, y_ = (([(rd_T58 l0_3 x37_2).f0, (rd_T58 l0_3 x37_2).f1] : List Int)) := ⟨_, rfl⟩
          replace H : ((inst_between.f k2 0 10000 y142).bind fun t145 => (if t145 = true then ((inst_between.f k2 0 1048576 (([(rd_T58 l0_3 x37_2).f3, (rd_T58 l0_3 x37_2).f4] : List Int))).bind fun t149 => (if t149 = true then (if ((rd_T58 l0_3 x37_2).f4) < ((rd_T58 l0_3 x37_2).f3) then (inst_May.j2 k2 x37_2 l0_3 (l0_3.length : Int) x37_2 true a0_0 a0_1 a0_2 l0_3 ((rd_T58 l0_3 x37_2).f0) ((rd_T58 l0_3 x37_2).f1) ((rd_T58 l0_3 x37_2).f2) ((rd_T58 l0_3 x37_2).f3) ((rd_T58 l0_3 x37_2).f4) ((rd_T58 l0_3 x37_2).f5)) else ((inst_between.f k2 0 1000 (([(rd_T58 l0_3 x37_2).f5] : List Int))).bind fun t153 => (inst_May.j2 k2 x37_2 l0_3 (l0_3.length : Int) x37_2 (!t153) a0_0 a0_1 a0_2 l0_3 ((rd_T58 l0_3 x37_2).f0) ((rd_T58 l0_3 x37_2).f1) ((rd_T58 l0_3 x37_2).f2) ((rd_T58 l0_3 x37_2).f3) ((rd_T58 l0_3 x37_2).f4) ((rd_T58 l0_3 x37_2).f5)))) else (inst_May.j2 k2 x37_2 l0_3 (l0_3.length : Int) x37_2 true a0_0 a0_1 a0_2 l0_3 ((rd_T58 l0_3 x37_2).f0) ((rd_T58 l0_3 x37_2).f1) ((rd_T58 l0_3 x37_2).f2) ((rd_T58 l0_3 x37_2).f3) ((rd_T58 l0_3 x37_2).f4) ((rd_T58 l0_3 x37_2).f5)))) else (inst_May.j2 k2 x37_2 l0_3 (l0_3.length : Int) x37_2 true a0_0 a0_1 a0_2 l0_3 ((rd_T58 l0_3 x37_2).f0) ((rd_T58 l0_3 x37_2).f1) ((rd_T58 l0_3 x37_2).f2) ((rd_T58 l0_3 x37_2).f3) ((rd_T58 l0_3 x37_2).f4) ((rd_T58 l0_3 x37_2).f5)))) = some r := by first | (rw [hy142]; with_reducible exact H) | (have H2_ := (Option.bind_some _ _).symm.trans H; rw [hy142]; with_reducible exact H2_) | (have H2_ := (Option.bind_some _ _).symm.trans H; with_reducible exact H2_) | with_reducible exact H | (rw [hy142]; exact H) | exact H
          have Ny142 := zqi hy142
          clear hy142
          replace H := Option.bind_eq_some_iff.mp H
          obtain ⟨t145, A560, H⟩ := H
          replace H : (if t145 = true then ((inst_between.f k2 0 1048576 (([(rd_T58 l0_3 x37_2).f3, (rd_T58 l0_3 x37_2).f4] : List Int))).bind fun t149 => (if t149 = true then (if ((rd_T58 l0_3 x37_2).f4) < ((rd_T58 l0_3 x37_2).f3) then (inst_May.j2 k2 x37_2 l0_3 (l0_3.length : Int) x37_2 true a0_0 a0_1 a0_2 l0_3 ((rd_T58 l0_3 x37_2).f0) ((rd_T58 l0_3 x37_2).f1) ((rd_T58 l0_3 x37_2).f2) ((rd_T58 l0_3 x37_2).f3) ((rd_T58 l0_3 x37_2).f4) ((rd_T58 l0_3 x37_2).f5)) else ((inst_between.f k2 0 1000 (([(rd_T58 l0_3 x37_2).f5] : List Int))).bind fun t153 => (inst_May.j2 k2 x37_2 l0_3 (l0_3.length : Int) x37_2 (!t153) a0_0 a0_1 a0_2 l0_3 ((rd_T58 l0_3 x37_2).f0) ((rd_T58 l0_3 x37_2).f1) ((rd_T58 l0_3 x37_2).f2) ((rd_T58 l0_3 x37_2).f3) ((rd_T58 l0_3 x37_2).f4) ((rd_T58 l0_3 x37_2).f5)))) else (inst_May.j2 k2 x37_2 l0_3 (l0_3.length : Int) x37_2 true a0_0 a0_1 a0_2 l0_3 ((rd_T58 l0_3 x37_2).f0) ((rd_T58 l0_3 x37_2).f1) ((rd_T58 l0_3 x37_2).f2) ((rd_T58 l0_3 x37_2).f3) ((rd_T58 l0_3 x37_2).f4) ((rd_T58 l0_3 x37_2).f5)))) else (inst_May.j2 k2 x37_2 l0_3 (l0_3.length : Int) x37_2 true a0_0 a0_1 a0_2 l0_3 ((rd_T58 l0_3 x37_2).f0) ((rd_T58 l0_3 x37_2).f1) ((rd_T58 l0_3 x37_2).f2) ((rd_T58 l0_3 x37_2).f3) ((rd_T58 l0_3 x37_2).f4) ((rd_T58 l0_3 x37_2).f5))) = some r := H
          have A56 := zqi A560
          clear A560
          by_cases c57 : t145 = true
          ·
           subst c57
           have H1 : ((inst_between.f k2 0 1048576 (([(rd_T58 l0_3 x37_2).f3, (rd_T58 l0_3 x37_2).f4] : List Int))).bind fun t149 => (if t149 = true then (if ((rd_T58 l0_3 x37_2).f4) < ((rd_T58 l0_3 x37_2).f3) then (inst_May.j2 k2 x37_2 l0_3 (l0_3.length : Int) x37_2 true a0_0 a0_1 a0_2 l0_3 ((rd_T58 l0_3 x37_2).f0) ((rd_T58 l0_3 x37_2).f1) ((rd_T58 l0_3 x37_2).f2) ((rd_T58 l0_3 x37_2).f3) ((rd_T58 l0_3 x37_2).f4) ((rd_T58 l0_3 x37_2).f5)) else ((inst_between.f k2 0 1000 (([(rd_T58 l0_3 x37_2).f5] : List Int))).bind fun t153 => (inst_May.j2 k2 x37_2 l0_3 (l0_3.length : Int) x37_2 (!t153) a0_0 a0_1 a0_2 l0_3 ((rd_T58 l0_3 x37_2).f0) ((rd_T58 l0_3 x37_2).f1) ((rd_T58 l0_3 x37_2).f2) ((rd_T58 l0_3 x37_2).f3) ((rd_T58 l0_3 x37_2).f4) ((rd_T58 l0_3 x37_2).f5)))) else (inst_May.j2 k2 x37_2 l0_3 (l0_3.length : Int) x37_2 true a0_0 a0_1 a0_2 l0_3 ((rd_T58 l0_3 x37_2).f0) ((rd_T58 l0_3 x37_2).f1) ((rd_T58 l0_3 x37_2).f2) ((rd_T58 l0_3 x37_2).f3) ((rd_T58 l0_3 x37_2).f4) ((rd_T58 l0_3 x37_2).f5)))) = some r := by rw [if_pos rfl] at H; exact H
           clear H
           have H := H1
           clear H1
           obtain ⟨y146, hy146⟩ : ∃ y_ : List Int, y_ = (([(rd_T58 l0_3 x37_2).f3, (rd_T58 l0_3 x37_2).f4] : List Int)) := ⟨_, rfl⟩
           replace H : ((inst_between.f k2 0 1048576 y146).bind fun t149 => (if t149 = true then (if ((rd_T58 l0_3 x37_2).f4) < ((rd_T58 l0_3 x37_2).f3) then (inst_May.j2 k2 x37_2 l0_3 (l0_3.length : Int) x37_2 true a0_0 a0_1 a0_2 l0_3 ((rd_T58 l0_3 x37_2).f0) ((rd_T58 l0_3 x37_2).f1) ((rd_T58 l0_3 x37_2).f2) ((rd_T58 l0_3 x37_2).f3) ((rd_T58 l0_3 x37_2).f4) ((rd_T58 l0_3 x37_2).f5)) else ((inst_between.f k2 0 1000 (([(rd_T58 l0_3 x37_2).f5] : List Int))).bind fun t153 => (inst_May.j2 k2 x37_2 l0_3 (l0_3.length : Int) x37_2 (!t153) a0_0 a0_1 a0_2 l0_3 ((rd_T58 l0_3 x37_2).f0) ((rd_T58 l0_3 x37_2).f1) ((rd_T58 l0_3 x37_2).f2) ((rd_T58 l0_3 x37_2).f3) ((rd_T58 l0_3 x37_2).f4) ((rd_T58 l0_3 x37_2).f5)))) else (inst_May.j2 k2 x37_2 l0_3 (l0_3.length : Int) x37_2 true a0_0 a0_1 a0_2 l0_3 ((rd_T58 l0_3 x37_2).f0) ((rd_T58 l0_3 x37_2).f1) ((rd_T58 l0_3 x37_2).f2) ((rd_T58 l0_3 x37_2).f3) ((rd_T58 l0_3 x37_2).f4) ((rd_T58 l0_3 x37_2).f5)))) = some r := by first | (rw [hy146]; with_reducible exact H) | (have H2_ := (Option.bind_some _ _).symm.trans H; rw [hy146]; with_reducible exact H2_) | (have H2_ := (Option.bind_some _ _).symm.trans H; with_reducible exact H2_) | with_reducible exact H | (rw [hy146]; exact H) | exact H
           have Ny146 := zqi hy146
           clear hy146
           replace H := Option.bind_eq_some_iff.mp H
           obtain ⟨t149, A580, H⟩ := H
           replace H : (if t149 = true then (if ((rd_T58 l0_3 x37_2).f4) < ((rd_T58 l0_3 x37_2).f3) then (inst_May.j2 k2 x37_2 l0_3 (l0_3.length : Int) x37_2 true a0_0 a0_1 a0_2 l0_3 ((rd_T58 l0_3 x37_2).f0) ((rd_T58 l0_3 x37_2).f1) ((rd_T58 l0_3 x37_2).f2) ((rd_T58 l0_3 x37_2).f3) ((rd_T58 l0_3 x37_2).f4) ((rd_T58 l0_3 x37_2).f5)) else ((inst_between.f k2 0 1000 (([(rd_T58 l0_3 x37_2).f5] : List Int))).bind fun t153 => (inst_May.j2 k2 x37_2 l0_3 (l0_3.length : Int) x37_2 (!t153) a0_0 a0_1 a0_2 l0_3 ((rd_T58 l0_3 x37_2).f0) ((rd_T58 l0_3 x37_2).f1) ((rd_T58 l0_3 x37_2).f2) ((rd_T58 l0_3 x37_2).f3) ((rd_T58 l0_3 x37_2).f4) ((rd_T58 l0_3 x37_2).f5)))) else (inst_May.j2 k2 x37_2 l0_3 (l0_3.length : Int) x37_2 true a0_0 a0_1 a0_2 l0_3 ((rd_T58 l0_3 x37_2).f0) ((rd_T58 l0_3 x37_2).f1) ((rd_T58 l0_3 x37_2).f2) ((rd_T58 l0_3 x37_2).f3) ((rd_T58 l0_3 x37_2).f4) ((rd_T58 l0_3 x37_2).f5))) = some r := H
           have A58 := zqi A580
           clear A580
           by_cases c59 : t149 = true
           ·
            subst c59
            have H1 : (if ((rd_T58 l0_3 x37_2).f4) < ((rd_T58 l0_3 x37_2).f3) then (inst_May.j2 k2 x37_2 l0_3 (l0_3.length : Int) x37_2 true a0_0 a0_1 a0_2 l0_3 ((rd_T58 l0_3 x37_2).f0) ((rd_T58 l0_3 x37_2).f1) ((rd_T58 l0_3 x37_2).f2) ((rd_T58 l0_3 x37_2).f3) ((rd_T58 l0_3 x37_2).f4) ((rd_T58 l0_3 x37_2).f5)) else ((inst_between.f k2 0 1000 (([(rd_T58 l0_3 x37_2).f5] : List Int))).bind fun t153 => (inst_May.j2 k2 x37_2 l0_3 (l0_3.length : Int) x37_2 (!t153) a0_0 a0_1 a0_2 l0_3 ((rd_T58 l0_3 x37_2).f0) ((rd_T58 l0_3 x37_2).f1) ((rd_T58 l0_3 x37_2).f2) ((rd_T58 l0_3 x37_2).f3) ((rd_T58 l0_3 x37_2).f4) ((rd_T58 l0_3 x37_2).f5)))) = some r := by rw [if_pos rfl] at H; exact H
            clear H
            have H := H1
            clear H1
            by_cases c60 : ((rd_T58 l0_3 x37_2).f4) < ((rd_T58 l0_3 x37_2).f3)
            ·
             rw [if_pos c60] at H
             have c60b0 : decide (((rd_T58 l0_3 x37_2).f4) < ((rd_T58 l0_3 x37_2).f3)) = true := decide_eq_true c60
             clear c60
             (first | rw [c60b0] | (simp only [i64_w, i32_w]; rw [c60b0]) | skip)
             have H' := zqi H
             clear H
             have hnb61 := NB141_127.out
             have hnc61 := NB127_141.out
             obtain ⟨hcz62_0, hcz62_1, hcz62_2, hcz62_3, hcz62_4, hcz62_5, hfz62_0, hfz62_1, hfz62_2, hfz62_3, hfz62_4, hfz62_5⟩ := zqz6 BK141.out
             go_wp2_with (first | ((with_reducible refine gate_dst (N := 46) rfl ?_); (try (refine gate_guard (by rfl) ?_; dsimp only)); refine Kd.R_lit (Kd.int .i64) _ 3 ?hg (N := 46) ?hd (xs := ([(rd_T58 l0_3 x37_2).f0, (rd_T58 l0_3 x37_2).f1] : List Int)) (inner := [.int .i64 ((rd_T58 l0_3 x37_2).f0), .int .i64 ((rd_T58 l0_3 x37_2).f1)]) (ok := fun _ => True) (okp := fun _ => True) ?hr ?hp (fun _ hk => hk) trivial (Below.refl _ _) (Nat.le_refl _) (by simp) ?_; (case hd => rfl); (case hg => rfl); (case hr => first | (go_simp; done) | (go_simp; rfl)); (case hp => exact (Reps.one (show Kd.M (Kd.int .i64) _ _ _ ((rd_T58 l0_3 x37_2).f0) [.int .i64 ((rd_T58 l0_3 x37_2).f0)] from rfl) (Reps.one (show Kd.M (Kd.int .i64) _ _ _ ((rd_T58 l0_3 x37_2).f1) [.int .i64 ((rd_T58 l0_3 x37_2).f1)] from rfl) (Reps.none _ _)))); intro v143 w63 ho64 hb hg_ hnew_; clear hg_ hnew_; (first | rw [← Ny142.out] at ho64 | (simp only [Int.reduceToNat] at ho64; rw [← Ny142.out] at ho64)); have n0_ := zqi (Kd.R_lower ho64 (below_size (zqn HB.out))); have n1_ := zqi (blk_below (g := gb127) (o := .cells #[.int .i64 a0_0, .int .i64 a0_1, .int .i64 a0_2, .slice (some ad140) l0_3.length c0_3] 39 (0, 0)) (by (repeat (with_reducible first | apply zqa | apply zqb | apply zqc | refine blk_far ?_ NB127_141.out _)); exact BK127.out) hb); have n2_ := zqi (blk_below (g := gb141) (o := .cells #[.int .i64 ((rd_T58 l0_3 x37_2).f0), .int .i64 ((rd_T58 l0_3 x37_2).f1), .int .i64 ((rd_T58 l0_3 x37_2).f2), .int .i64 ((rd_T58 l0_3 x37_2).f3), .int .i64 ((rd_T58 l0_3 x37_2).f4), .int .i64 ((rd_T58 l0_3 x37_2).f5)] 58 (0, 0)) (by exact zqC (blk_set (blk_set (blk_set (blk_set (blk_set (blk_set BK141.out 0 _) 1 _) 2 _) 3 _) 4 _) 5 _) (by simp only [List.setIfInBounds_toArray, List.set_cons_zero, List.set_cons_succ])) hb); have n3_ := zqi (below_step (zqn HB.out) hb); clear BK127; clear BK141; clear HB; have HO144 := n0_; have BK127 := n1_; have BK141 := n2_; have HB := n3_; clear n0_ n1_ n2_ n3_; clear hb ho64; obtain ⟨Ao65, co65, eo65⟩ := Kd.R_slice HO144.out; subst eo65) | (go_at_call 46; (with_reducible refine (inst_between.calls k2 0 10000 _ _ y142 true _ ?side1 ?side2 A56.out).mono ?_); (case side1 => repeat (first | exact (Kd.R_reads' HO144.out).2.2 | (with_reducible refine Kd.C_alloc ?_ _) | (with_reducible refine Kd.C_drewN ?_ _) | (with_reducible refine Kd.C_drew ?_))); (case side2 => exact (Kd.R_reads' HO144.out).2.1); rintro e w' ⟨rfl, ⟨nd, rfl⟩⟩; (try first | exact ⟨rfl, _, zqj⟩ | exact ⟨rfl, _, Eq.trans (zqj) (congrArg (World.drewN _) (Nat.add_assoc _ _ _))⟩); obtain ⟨hcz66_0, hcz66_1, hcz66_2, hcz66_3, hcz66_4, hcz66_5, hfz66_0, hfz66_1, hfz66_2, hfz66_3, hfz66_4, hfz66_5⟩ := zqz6 BK141.out) | ((with_reducible refine gate_dst (N := 54) rfl ?_); (try (refine gate_guard (by rfl) ?_; dsimp only)); refine Kd.R_lit (Kd.int .i64) _ 3 ?hg (N := 54) ?hd (xs := ([(rd_T58 l0_3 x37_2).f3, (rd_T58 l0_3 x37_2).f4] : List Int)) (inner := [.int .i64 ((rd_T58 l0_3 x37_2).f3), .int .i64 ((rd_T58 l0_3 x37_2).f4)]) (ok := fun _ => True) (okp := fun _ => True) ?hr ?hp (fun _ hk => hk) trivial (Below.refl _ _) (Nat.le_refl _) (by simp) ?_; (case hd => rfl); (case hg => rfl); (case hr => first | (go_simp; done) | (go_simp; rfl)); (case hp => exact (Reps.one (show Kd.M (Kd.int .i64) _ _ _ ((rd_T58 l0_3 x37_2).f3) [.int .i64 ((rd_T58 l0_3 x37_2).f3)] from rfl) (Reps.one (show Kd.M (Kd.int .i64) _ _ _ ((rd_T58 l0_3 x37_2).f4) [.int .i64 ((rd_T58 l0_3 x37_2).f4)] from rfl) (Reps.none _ _)))); intro v147 w67 ho68 hb hg_ hnew_; clear hg_ hnew_; (first | rw [← Ny146.out] at ho68 | (simp only [Int.reduceToNat] at ho68; rw [← Ny146.out] at ho68)); have n0_ := zqi (Kd.R_elder' (by (with_reducible repeat (first | apply Kd.R_alloc | apply Kd.R_drewN | apply Kd.R_drew)); exact HO144.out) (Kd.R_base ho68) hb); have n1_ := zqi (Kd.R_lower (Kd.R_new' ho68 (Kd.R_lt (by (with_reducible repeat (first | apply Kd.R_alloc | apply Kd.R_drewN | apply Kd.R_drew)); exact HO144.out))) (below_size (zqn HB.out))); have n2_ := zqi (zqy BK127.out hb); have n3_ := zqi (zqy BK141.out hb); have n4_ := zqi (below_step (zqn HB.out) hb); clear HO144; clear BK127; clear BK141; clear HB; have HO144 := n0_; have HO148 := n1_; have BK127 := n2_; have BK141 := n3_; have HB := n4_; clear n0_ n1_ n2_ n3_ n4_; clear hb ho68; obtain ⟨Ao69, co69, eo69⟩ := Kd.R_slice HO148.out; subst eo69) | (go_at_call 46; (with_reducible refine (inst_between.calls k2 0 1048576 _ _ y146 true _ ?side1 ?side2 A58.out).mono ?_); (case side1 => repeat (first | exact (Kd.R_reads' HO148.out).2.2 | (with_reducible refine Kd.C_alloc ?_ _) | (with_reducible refine Kd.C_drewN ?_ _) | (with_reducible refine Kd.C_drew ?_))); (case side2 => exact (Kd.R_reads' HO148.out).2.1); rintro e w' ⟨rfl, ⟨nd, rfl⟩⟩; (try first | exact ⟨rfl, _, zqj⟩ | exact ⟨rfl, _, Eq.trans (zqj) (congrArg (World.drewN _) (Nat.add_assoc _ _ _))⟩); obtain ⟨hcz70_0, hcz70_1, hcz70_2, hcz70_3, hcz70_4, hcz70_5, hfz70_0, hfz70_1, hfz70_2, hfz70_3, hfz70_4, hfz70_5⟩ := zqz6 BK141.out))
             repeat (go_quiet (first | ((with_reducible refine gate_dst (N := 46) rfl ?_); (try (refine gate_guard (by rfl) ?_; dsimp only)); refine Kd.R_lit (Kd.int .i64) _ 3 ?hg (N := 46) ?hd (xs := ([(rd_T58 l0_3 x37_2).f0, (rd_T58 l0_3 x37_2).f1] : List Int)) (inner := [.int .i64 ((rd_T58 l0_3 x37_2).f0), .int .i64 ((rd_T58 l0_3 x37_2).f1)]) (ok := fun _ => True) (okp := fun _ => True) ?hr ?hp (fun _ hk => hk) trivial (Below.refl _ _) (Nat.le_refl _) (by simp) ?_; (case hd => rfl); (case hg => rfl); (case hr => first | (go_simp; done) | (go_simp; rfl)); (case hp => exact (Reps.one (show Kd.M (Kd.int .i64) _ _ _ ((rd_T58 l0_3 x37_2).f0) [.int .i64 ((rd_T58 l0_3 x37_2).f0)] from rfl) (Reps.one (show Kd.M (Kd.int .i64) _ _ _ ((rd_T58 l0_3 x37_2).f1) [.int .i64 ((rd_T58 l0_3 x37_2).f1)] from rfl) (Reps.none _ _)))); intro v143 w63 ho64 hb hg_ hnew_; clear hg_ hnew_; (first | rw [← Ny142.out] at ho64 | (simp only [Int.reduceToNat] at ho64; rw [← Ny142.out] at ho64)); have n0_ := zqi (Kd.R_lower ho64 (below_size (zqn HB.out))); have n1_ := zqi (blk_below (g := gb127) (o := .cells #[.int .i64 a0_0, .int .i64 a0_1, .int .i64 a0_2, .slice (some ad140) l0_3.length c0_3] 39 (0, 0)) (by (repeat (with_reducible first | apply zqa | apply zqb | apply zqc | refine blk_far ?_ NB127_141.out _)); exact BK127.out) hb); have n2_ := zqi (blk_below (g := gb141) (o := .cells #[.int .i64 ((rd_T58 l0_3 x37_2).f0), .int .i64 ((rd_T58 l0_3 x37_2).f1), .int .i64 ((rd_T58 l0_3 x37_2).f2), .int .i64 ((rd_T58 l0_3 x37_2).f3), .int .i64 ((rd_T58 l0_3 x37_2).f4), .int .i64 ((rd_T58 l0_3 x37_2).f5)] 58 (0, 0)) (by exact zqC (blk_set (blk_set (blk_set (blk_set (blk_set (blk_set BK141.out 0 _) 1 _) 2 _) 3 _) 4 _) 5 _) (by simp only [List.setIfInBounds_toArray, List.set_cons_zero, List.set_cons_succ])) hb); have n3_ := zqi (below_step (zqn HB.out) hb); clear BK127; clear BK141; clear HB; have HO144 := n0_; have BK127 := n1_; have BK141 := n2_; have HB := n3_; clear n0_ n1_ n2_ n3_; clear hb ho64; obtain ⟨Ao65, co65, eo65⟩ := Kd.R_slice HO144.out; subst eo65) | (go_at_call 46; (with_reducible refine (inst_between.calls k2 0 10000 _ _ y142 true _ ?side1 ?side2 A56.out).mono ?_); (case side1 => repeat (first | exact (Kd.R_reads' HO144.out).2.2 | (with_reducible refine Kd.C_alloc ?_ _) | (with_reducible refine Kd.C_drewN ?_ _) | (with_reducible refine Kd.C_drew ?_))); (case side2 => exact (Kd.R_reads' HO144.out).2.1); rintro e w' ⟨rfl, ⟨nd, rfl⟩⟩; (try first | exact ⟨rfl, _, zqj⟩ | exact ⟨rfl, _, Eq.trans (zqj) (congrArg (World.drewN _) (Nat.add_assoc _ _ _))⟩); obtain ⟨hcz66_0, hcz66_1, hcz66_2, hcz66_3, hcz66_4, hcz66_5, hfz66_0, hfz66_1, hfz66_2, hfz66_3, hfz66_4, hfz66_5⟩ := zqz6 BK141.out) | ((with_reducible refine gate_dst (N := 54) rfl ?_); (try (refine gate_guard (by rfl) ?_; dsimp only)); refine Kd.R_lit (Kd.int .i64) _ 3 ?hg (N := 54) ?hd (xs := ([(rd_T58 l0_3 x37_2).f3, (rd_T58 l0_3 x37_2).f4] : List Int)) (inner := [.int .i64 ((rd_T58 l0_3 x37_2).f3), .int .i64 ((rd_T58 l0_3 x37_2).f4)]) (ok := fun _ => True) (okp := fun _ => True) ?hr ?hp (fun _ hk => hk) trivial (Below.refl _ _) (Nat.le_refl _) (by simp) ?_; (case hd => rfl); (case hg => rfl); (case hr => first | (go_simp; done) | (go_simp; rfl)); (case hp => exact (Reps.one (show Kd.M (Kd.int .i64) _ _ _ ((rd_T58 l0_3 x37_2).f3) [.int .i64 ((rd_T58 l0_3 x37_2).f3)] from rfl) (Reps.one (show Kd.M (Kd.int .i64) _ _ _ ((rd_T58 l0_3 x37_2).f4) [.int .i64 ((rd_T58 l0_3 x37_2).f4)] from rfl) (Reps.none _ _)))); intro v147 w67 ho68 hb hg_ hnew_; clear hg_ hnew_; (first | rw [← Ny146.out] at ho68 | (simp only [Int.reduceToNat] at ho68; rw [← Ny146.out] at ho68)); have n0_ := zqi (Kd.R_elder' (by (with_reducible repeat (first | apply Kd.R_alloc | apply Kd.R_drewN | apply Kd.R_drew)); exact HO144.out) (Kd.R_base ho68) hb); have n1_ := zqi (Kd.R_lower (Kd.R_new' ho68 (Kd.R_lt (by (with_reducible repeat (first | apply Kd.R_alloc | apply Kd.R_drewN | apply Kd.R_drew)); exact HO144.out))) (below_size (zqn HB.out))); have n2_ := zqi (zqy BK127.out hb); have n3_ := zqi (zqy BK141.out hb); have n4_ := zqi (below_step (zqn HB.out) hb); clear HO144; clear BK127; clear BK141; clear HB; have HO144 := n0_; have HO148 := n1_; have BK127 := n2_; have BK141 := n3_; have HB := n4_; clear n0_ n1_ n2_ n3_ n4_; clear hb ho68; obtain ⟨Ao69, co69, eo69⟩ := Kd.R_slice HO148.out; subst eo69) | (go_at_call 46; (with_reducible refine (inst_between.calls k2 0 1048576 _ _ y146 true _ ?side1 ?side2 A58.out).mono ?_); (case side1 => repeat (first | exact (Kd.R_reads' HO148.out).2.2 | (with_reducible refine Kd.C_alloc ?_ _) | (with_reducible refine Kd.C_drewN ?_ _) | (with_reducible refine Kd.C_drew ?_))); (case side2 => exact (Kd.R_reads' HO148.out).2.1); rintro e w' ⟨rfl, ⟨nd, rfl⟩⟩; (try first | exact ⟨rfl, _, zqj⟩ | exact ⟨rfl, _, Eq.trans (zqj) (congrArg (World.drewN _) (Nat.add_assoc _ _ _))⟩); obtain ⟨hcz70_0, hcz70_1, hcz70_2, hcz70_3, hcz70_4, hcz70_5, hfz70_0, hfz70_1, hfz70_2, hfz70_3, hfz70_4, hfz70_5⟩ := zqz6 BK141.out)); try go_wp2_with (first | ((with_reducible refine gate_dst (N := 46) rfl ?_); (try (refine gate_guard (by rfl) ?_; dsimp only)); refine Kd.R_lit (Kd.int .i64) _ 3 ?hg (N := 46) ?hd (xs := ([(rd_T58 l0_3 x37_2).f0, (rd_T58 l0_3 x37_2).f1] : List Int)) (inner := [.int .i64 ((rd_T58 l0_3 x37_2).f0), .int .i64 ((rd_T58 l0_3 x37_2).f1)]) (ok := fun _ => True) (okp := fun _ => True) ?hr ?hp (fun _ hk => hk) trivial (Below.refl _ _) (Nat.le_refl _) (by simp) ?_; (case hd => rfl); (case hg => rfl); (case hr => first | (go_simp; done) | (go_simp; rfl)); (case hp => exact (Reps.one (show Kd.M (Kd.int .i64) _ _ _ ((rd_T58 l0_3 x37_2).f0) [.int .i64 ((rd_T58 l0_3 x37_2).f0)] from rfl) (Reps.one (show Kd.M (Kd.int .i64) _ _ _ ((rd_T58 l0_3 x37_2).f1) [.int .i64 ((rd_T58 l0_3 x37_2).f1)] from rfl) (Reps.none _ _)))); intro v143 w63 ho64 hb hg_ hnew_; clear hg_ hnew_; (first | rw [← Ny142.out] at ho64 | (simp only [Int.reduceToNat] at ho64; rw [← Ny142.out] at ho64)); have n0_ := zqi (Kd.R_lower ho64 (below_size (zqn HB.out))); have n1_ := zqi (blk_below (g := gb127) (o := .cells #[.int .i64 a0_0, .int .i64 a0_1, .int .i64 a0_2, .slice (some ad140) l0_3.length c0_3] 39 (0, 0)) (by (repeat (with_reducible first | apply zqa | apply zqb | apply zqc | refine blk_far ?_ NB127_141.out _)); exact BK127.out) hb); have n2_ := zqi (blk_below (g := gb141) (o := .cells #[.int .i64 ((rd_T58 l0_3 x37_2).f0), .int .i64 ((rd_T58 l0_3 x37_2).f1), .int .i64 ((rd_T58 l0_3 x37_2).f2), .int .i64 ((rd_T58 l0_3 x37_2).f3), .int .i64 ((rd_T58 l0_3 x37_2).f4), .int .i64 ((rd_T58 l0_3 x37_2).f5)] 58 (0, 0)) (by exact zqC (blk_set (blk_set (blk_set (blk_set (blk_set (blk_set BK141.out 0 _) 1 _) 2 _) 3 _) 4 _) 5 _) (by simp only [List.setIfInBounds_toArray, List.set_cons_zero, List.set_cons_succ])) hb); have n3_ := zqi (below_step (zqn HB.out) hb); clear BK127; clear BK141; clear HB; have HO144 := n0_; have BK127 := n1_; have BK141 := n2_; have HB := n3_; clear n0_ n1_ n2_ n3_; clear hb ho64; obtain ⟨Ao65, co65, eo65⟩ := Kd.R_slice HO144.out; subst eo65) | (go_at_call 46; (with_reducible refine (inst_between.calls k2 0 10000 _ _ y142 true _ ?side1 ?side2 A56.out).mono ?_); (case side1 => repeat (first | exact (Kd.R_reads' HO144.out).2.2 | (with_reducible refine Kd.C_alloc ?_ _) | (with_reducible refine Kd.C_drewN ?_ _) | (with_reducible refine Kd.C_drew ?_))); (case side2 => exact (Kd.R_reads' HO144.out).2.1); rintro e w' ⟨rfl, ⟨nd, rfl⟩⟩; (try first | exact ⟨rfl, _, zqj⟩ | exact ⟨rfl, _, Eq.trans (zqj) (congrArg (World.drewN _) (Nat.add_assoc _ _ _))⟩); obtain ⟨hcz66_0, hcz66_1, hcz66_2, hcz66_3, hcz66_4, hcz66_5, hfz66_0, hfz66_1, hfz66_2, hfz66_3, hfz66_4, hfz66_5⟩ := zqz6 BK141.out) | ((with_reducible refine gate_dst (N := 54) rfl ?_); (try (refine gate_guard (by rfl) ?_; dsimp only)); refine Kd.R_lit (Kd.int .i64) _ 3 ?hg (N := 54) ?hd (xs := ([(rd_T58 l0_3 x37_2).f3, (rd_T58 l0_3 x37_2).f4] : List Int)) (inner := [.int .i64 ((rd_T58 l0_3 x37_2).f3), .int .i64 ((rd_T58 l0_3 x37_2).f4)]) (ok := fun _ => True) (okp := fun _ => True) ?hr ?hp (fun _ hk => hk) trivial (Below.refl _ _) (Nat.le_refl _) (by simp) ?_; (case hd => rfl); (case hg => rfl); (case hr => first | (go_simp; done) | (go_simp; rfl)); (case hp => exact (Reps.one (show Kd.M (Kd.int .i64) _ _ _ ((rd_T58 l0_3 x37_2).f3) [.int .i64 ((rd_T58 l0_3 x37_2).f3)] from rfl) (Reps.one (show Kd.M (Kd.int .i64) _ _ _ ((rd_T58 l0_3 x37_2).f4) [.int .i64 ((rd_T58 l0_3 x37_2).f4)] from rfl) (Reps.none _ _)))); intro v147 w67 ho68 hb hg_ hnew_; clear hg_ hnew_; (first | rw [← Ny146.out] at ho68 | (simp only [Int.reduceToNat] at ho68; rw [← Ny146.out] at ho68)); have n0_ := zqi (Kd.R_elder' (by (with_reducible repeat (first | apply Kd.R_alloc | apply Kd.R_drewN | apply Kd.R_drew)); exact HO144.out) (Kd.R_base ho68) hb); have n1_ := zqi (Kd.R_lower (Kd.R_new' ho68 (Kd.R_lt (by (with_reducible repeat (first | apply Kd.R_alloc | apply Kd.R_drewN | apply Kd.R_drew)); exact HO144.out))) (below_size (zqn HB.out))); have n2_ := zqi (zqy BK127.out hb); have n3_ := zqi (zqy BK141.out hb); have n4_ := zqi (below_step (zqn HB.out) hb); clear HO144; clear BK127; clear BK141; clear HB; have HO144 := n0_; have HO148 := n1_; have BK127 := n2_; have BK141 := n3_; have HB := n4_; clear n0_ n1_ n2_ n3_ n4_; clear hb ho68; obtain ⟨Ao69, co69, eo69⟩ := Kd.R_slice HO148.out; subst eo69) | (go_at_call 46; (with_reducible refine (inst_between.calls k2 0 1048576 _ _ y146 true _ ?side1 ?side2 A58.out).mono ?_); (case side1 => repeat (first | exact (Kd.R_reads' HO148.out).2.2 | (with_reducible refine Kd.C_alloc ?_ _) | (with_reducible refine Kd.C_drewN ?_ _) | (with_reducible refine Kd.C_drew ?_))); (case side2 => exact (Kd.R_reads' HO148.out).2.1); rintro e w' ⟨rfl, ⟨nd, rfl⟩⟩; (try first | exact ⟨rfl, _, zqj⟩ | exact ⟨rfl, _, Eq.trans (zqj) (congrArg (World.drewN _) (Nat.add_assoc _ _ _))⟩); obtain ⟨hcz70_0, hcz70_1, hcz70_2, hcz70_3, hcz70_4, hcz70_5, hfz70_0, hfz70_1, hfz70_2, hfz70_3, hfz70_4, hfz70_5⟩ := zqz6 BK141.out)))
             go_meet
             case rel => exact ⟨_, (true), (by first | rfl | (simp; done) | (simp [*]; done)), H', ⟨by have := HJ1.out; have := HK2.out; first | omega | exact Nat.le_refl _⟩, ⟨by (with_reducible repeat (first | apply zqa | apply zqb | apply zqc)); exact BK127.out⟩, ⟨by (with_reducible repeat (first | apply zqa | apply zqb | apply zqc)); exact BK141.out⟩, ⟨by repeat (first | (with_reducible first | exact HB.out | apply zqg | apply zqf | apply zqh | refine below_set ?_ GE127.out | refine below_set ?_ GE141.out) | exact HB.out)⟩⟩
            ·
             rw [if_neg c60] at H
             have c60b0 : decide (((rd_T58 l0_3 x37_2).f4) < ((rd_T58 l0_3 x37_2).f3)) = false := decide_eq_false c60
             clear c60
             (first | rw [c60b0] | (simp only [i64_w, i32_w]; rw [c60b0]) | skip)
             obtain ⟨y150, hy150⟩ : ∃ y_ : List Int, y_ = (([(rd_T58 l0_3 x37_2).f5] : List Int)) := ⟨_, rfl⟩
             replace H : ((inst_between.f k2 0 1000 y150).bind fun t153 => (inst_May.j2 k2 x37_2 l0_3 (l0_3.length : Int) x37_2 (!t153) a0_0 a0_1 a0_2 l0_3 ((rd_T58 l0_3 x37_2).f0) ((rd_T58 l0_3 x37_2).f1) ((rd_T58 l0_3 x37_2).f2) ((rd_T58 l0_3 x37_2).f3) ((rd_T58 l0_3 x37_2).f4) ((rd_T58 l0_3 x37_2).f5))) = some r := by first | (rw [hy150]; with_reducible exact H) | (have H2_ := (Option.bind_some _ _).symm.trans H; rw [hy150]; with_reducible exact H2_) | (have H2_ := (Option.bind_some _ _).symm.trans H; with_reducible exact H2_) | with_reducible exact H | (rw [hy150]; exact H) | exact H
             have Ny150 := zqi hy150
             clear hy150
             replace H := Option.bind_eq_some_iff.mp H
             obtain ⟨t153, A710, H⟩ := H
             replace H : (inst_May.j2 k2 x37_2 l0_3 (l0_3.length : Int) x37_2 (!t153) a0_0 a0_1 a0_2 l0_3 ((rd_T58 l0_3 x37_2).f0) ((rd_T58 l0_3 x37_2).f1) ((rd_T58 l0_3 x37_2).f2) ((rd_T58 l0_3 x37_2).f3) ((rd_T58 l0_3 x37_2).f4) ((rd_T58 l0_3 x37_2).f5)) = some r := H
             have A71 := zqi A710
             clear A710
             have H' := zqi H
             clear H
             have hnb72 := NB141_127.out
             have hnc72 := NB127_141.out
             obtain ⟨hcz73_0, hcz73_1, hcz73_2, hcz73_3, hcz73_4, hcz73_5, hfz73_0, hfz73_1, hfz73_2, hfz73_3, hfz73_4, hfz73_5⟩ := zqz6 BK141.out
             go_wp2_with (first | ((with_reducible refine gate_dst (N := 46) rfl ?_); (try (refine gate_guard (by rfl) ?_; dsimp only)); refine Kd.R_lit (Kd.int .i64) _ 3 ?hg (N := 46) ?hd (xs := ([(rd_T58 l0_3 x37_2).f0, (rd_T58 l0_3 x37_2).f1] : List Int)) (inner := [.int .i64 ((rd_T58 l0_3 x37_2).f0), .int .i64 ((rd_T58 l0_3 x37_2).f1)]) (ok := fun _ => True) (okp := fun _ => True) ?hr ?hp (fun _ hk => hk) trivial (Below.refl _ _) (Nat.le_refl _) (by simp) ?_; (case hd => rfl); (case hg => rfl); (case hr => first | (go_simp; done) | (go_simp; rfl)); (case hp => exact (Reps.one (show Kd.M (Kd.int .i64) _ _ _ ((rd_T58 l0_3 x37_2).f0) [.int .i64 ((rd_T58 l0_3 x37_2).f0)] from rfl) (Reps.one (show Kd.M (Kd.int .i64) _ _ _ ((rd_T58 l0_3 x37_2).f1) [.int .i64 ((rd_T58 l0_3 x37_2).f1)] from rfl) (Reps.none _ _)))); intro v143 w74 ho75 hb hg_ hnew_; clear hg_ hnew_; (first | rw [← Ny142.out] at ho75 | (simp only [Int.reduceToNat] at ho75; rw [← Ny142.out] at ho75)); have n0_ := zqi (Kd.R_lower ho75 (below_size (zqn HB.out))); have n1_ := zqi (blk_below (g := gb127) (o := .cells #[.int .i64 a0_0, .int .i64 a0_1, .int .i64 a0_2, .slice (some ad140) l0_3.length c0_3] 39 (0, 0)) (by (repeat (with_reducible first | apply zqa | apply zqb | apply zqc | refine blk_far ?_ NB127_141.out _)); exact BK127.out) hb); have n2_ := zqi (blk_below (g := gb141) (o := .cells #[.int .i64 ((rd_T58 l0_3 x37_2).f0), .int .i64 ((rd_T58 l0_3 x37_2).f1), .int .i64 ((rd_T58 l0_3 x37_2).f2), .int .i64 ((rd_T58 l0_3 x37_2).f3), .int .i64 ((rd_T58 l0_3 x37_2).f4), .int .i64 ((rd_T58 l0_3 x37_2).f5)] 58 (0, 0)) (by exact zqC (blk_set (blk_set (blk_set (blk_set (blk_set (blk_set BK141.out 0 _) 1 _) 2 _) 3 _) 4 _) 5 _) (by simp only [List.setIfInBounds_toArray, List.set_cons_zero, List.set_cons_succ])) hb); have n3_ := zqi (below_step (zqn HB.out) hb); clear BK127; clear BK141; clear HB; have HO144 := n0_; have BK127 := n1_; have BK141 := n2_; have HB := n3_; clear n0_ n1_ n2_ n3_; clear hb ho75; obtain ⟨Ao76, co76, eo76⟩ := Kd.R_slice HO144.out; subst eo76) | (go_at_call 46; (with_reducible refine (inst_between.calls k2 0 10000 _ _ y142 true _ ?side1 ?side2 A56.out).mono ?_); (case side1 => repeat (first | exact (Kd.R_reads' HO144.out).2.2 | (with_reducible refine Kd.C_alloc ?_ _) | (with_reducible refine Kd.C_drewN ?_ _) | (with_reducible refine Kd.C_drew ?_))); (case side2 => exact (Kd.R_reads' HO144.out).2.1); rintro e w' ⟨rfl, ⟨nd, rfl⟩⟩; (try first | exact ⟨rfl, _, zqj⟩ | exact ⟨rfl, _, Eq.trans (zqj) (congrArg (World.drewN _) (Nat.add_assoc _ _ _))⟩); obtain ⟨hcz77_0, hcz77_1, hcz77_2, hcz77_3, hcz77_4, hcz77_5, hfz77_0, hfz77_1, hfz77_2, hfz77_3, hfz77_4, hfz77_5⟩ := zqz6 BK141.out) | ((with_reducible refine gate_dst (N := 54) rfl ?_); (try (refine gate_guard (by rfl) ?_; dsimp only)); refine Kd.R_lit (Kd.int .i64) _ 3 ?hg (N := 54) ?hd (xs := ([(rd_T58 l0_3 x37_2).f3, (rd_T58 l0_3 x37_2).f4] : List Int)) (inner := [.int .i64 ((rd_T58 l0_3 x37_2).f3), .int .i64 ((rd_T58 l0_3 x37_2).f4)]) (ok := fun _ => True) (okp := fun _ => True) ?hr ?hp (fun _ hk => hk) trivial (Below.refl _ _) (Nat.le_refl _) (by simp) ?_; (case hd => rfl); (case hg => rfl); (case hr => first | (go_simp; done) | (go_simp; rfl)); (case hp => exact (Reps.one (show Kd.M (Kd.int .i64) _ _ _ ((rd_T58 l0_3 x37_2).f3) [.int .i64 ((rd_T58 l0_3 x37_2).f3)] from rfl) (Reps.one (show Kd.M (Kd.int .i64) _ _ _ ((rd_T58 l0_3 x37_2).f4) [.int .i64 ((rd_T58 l0_3 x37_2).f4)] from rfl) (Reps.none _ _)))); intro v147 w78 ho79 hb hg_ hnew_; clear hg_ hnew_; (first | rw [← Ny146.out] at ho79 | (simp only [Int.reduceToNat] at ho79; rw [← Ny146.out] at ho79)); have n0_ := zqi (Kd.R_elder' (by (with_reducible repeat (first | apply Kd.R_alloc | apply Kd.R_drewN | apply Kd.R_drew)); exact HO144.out) (Kd.R_base ho79) hb); have n1_ := zqi (Kd.R_lower (Kd.R_new' ho79 (Kd.R_lt (by (with_reducible repeat (first | apply Kd.R_alloc | apply Kd.R_drewN | apply Kd.R_drew)); exact HO144.out))) (below_size (zqn HB.out))); have n2_ := zqi (zqy BK127.out hb); have n3_ := zqi (zqy BK141.out hb); have n4_ := zqi (below_step (zqn HB.out) hb); clear HO144; clear BK127; clear BK141; clear HB; have HO144 := n0_; have HO148 := n1_; have BK127 := n2_; have BK141 := n3_; have HB := n4_; clear n0_ n1_ n2_ n3_ n4_; clear hb ho79; obtain ⟨Ao80, co80, eo80⟩ := Kd.R_slice HO148.out; subst eo80) | (go_at_call 46; (with_reducible refine (inst_between.calls k2 0 1048576 _ _ y146 true _ ?side1 ?side2 A58.out).mono ?_); (case side1 => repeat (first | exact (Kd.R_reads' HO148.out).2.2 | (with_reducible refine Kd.C_alloc ?_ _) | (with_reducible refine Kd.C_drewN ?_ _) | (with_reducible refine Kd.C_drew ?_))); (case side2 => exact (Kd.R_reads' HO148.out).2.1); rintro e w' ⟨rfl, ⟨nd, rfl⟩⟩; (try first | exact ⟨rfl, _, zqj⟩ | exact ⟨rfl, _, Eq.trans (zqj) (congrArg (World.drewN _) (Nat.add_assoc _ _ _))⟩); obtain ⟨hcz81_0, hcz81_1, hcz81_2, hcz81_3, hcz81_4, hcz81_5, hfz81_0, hfz81_1, hfz81_2, hfz81_3, hfz81_4, hfz81_5⟩ := zqz6 BK141.out) | ((with_reducible refine gate_dst (N := 68) rfl ?_); (try (refine gate_guard (by rfl) ?_; dsimp only)); refine Kd.R_lit (Kd.int .i64) _ 3 ?hg (N := 68) ?hd (xs := ([(rd_T58 l0_3 x37_2).f5] : List Int)) (inner := [.int .i64 ((rd_T58 l0_3 x37_2).f5)]) (ok := fun _ => True) (okp := fun _ => True) ?hr ?hp (fun _ hk => hk) trivial (Below.refl _ _) (Nat.le_refl _) (by simp) ?_; (case hd => rfl); (case hg => rfl); (case hr => first | (go_simp; done) | (go_simp; rfl)); (case hp => exact (Reps.one (show Kd.M (Kd.int .i64) _ _ _ ((rd_T58 l0_3 x37_2).f5) [.int .i64 ((rd_T58 l0_3 x37_2).f5)] from rfl) (Reps.none _ _))); intro v151 w82 ho83 hb hg_ hnew_; clear hg_ hnew_; (first | rw [← Ny150.out] at ho83 | (simp only [Int.reduceToNat] at ho83; rw [← Ny150.out] at ho83)); have n0_ := zqi (Kd.R_elder' (by (with_reducible repeat (first | apply Kd.R_alloc | apply Kd.R_drewN | apply Kd.R_drew)); exact HO144.out) (Kd.R_base ho83) hb); have n1_ := zqi (Kd.R_elder' (by (with_reducible repeat (first | apply Kd.R_alloc | apply Kd.R_drewN | apply Kd.R_drew)); exact HO148.out) (Kd.R_base ho83) hb); have n2_ := zqi (Kd.R_lower (Kd.R_new' (Kd.R_new' ho83 (Kd.R_lt (by (with_reducible repeat (first | apply Kd.R_alloc | apply Kd.R_drewN | apply Kd.R_drew)); exact HO144.out))) (Kd.R_lt (by (with_reducible repeat (first | apply Kd.R_alloc | apply Kd.R_drewN | apply Kd.R_drew)); exact HO148.out))) (below_size (zqn HB.out))); have n3_ := zqi (zqy BK127.out hb); have n4_ := zqi (zqy BK141.out hb); have n5_ := zqi (below_step (zqn HB.out) hb); clear HO144; clear HO148; clear BK127; clear BK141; clear HB; have HO144 := n0_; have HO148 := n1_; have HO152 := n2_; have BK127 := n3_; have BK141 := n4_; have HB := n5_; clear n0_ n1_ n2_ n3_ n4_ n5_; clear hb ho83; obtain ⟨Ao84, co84, eo84⟩ := Kd.R_slice HO152.out; subst eo84) | (go_at_call 46; (with_reducible refine (inst_between.calls k2 0 1000 _ _ y150 t153 _ ?side1 ?side2 A71.out).mono ?_); (case side1 => repeat (first | exact (Kd.R_reads' HO152.out).2.2 | (with_reducible refine Kd.C_alloc ?_ _) | (with_reducible refine Kd.C_drewN ?_ _) | (with_reducible refine Kd.C_drew ?_))); (case side2 => exact (Kd.R_reads' HO152.out).2.1); rintro e w' ⟨rfl, ⟨nd, rfl⟩⟩; (try first | exact ⟨rfl, _, zqj⟩ | exact ⟨rfl, _, Eq.trans (zqj) (congrArg (World.drewN _) (Nat.add_assoc _ _ _))⟩)))
             repeat (go_quiet (first | ((with_reducible refine gate_dst (N := 46) rfl ?_); (try (refine gate_guard (by rfl) ?_; dsimp only)); refine Kd.R_lit (Kd.int .i64) _ 3 ?hg (N := 46) ?hd (xs := ([(rd_T58 l0_3 x37_2).f0, (rd_T58 l0_3 x37_2).f1] : List Int)) (inner := [.int .i64 ((rd_T58 l0_3 x37_2).f0), .int .i64 ((rd_T58 l0_3 x37_2).f1)]) (ok := fun _ => True) (okp := fun _ => True) ?hr ?hp (fun _ hk => hk) trivial (Below.refl _ _) (Nat.le_refl _) (by simp) ?_; (case hd => rfl); (case hg => rfl); (case hr => first | (go_simp; done) | (go_simp; rfl)); (case hp => exact (Reps.one (show Kd.M (Kd.int .i64) _ _ _ ((rd_T58 l0_3 x37_2).f0) [.int .i64 ((rd_T58 l0_3 x37_2).f0)] from rfl) (Reps.one (show Kd.M (Kd.int .i64) _ _ _ ((rd_T58 l0_3 x37_2).f1) [.int .i64 ((rd_T58 l0_3 x37_2).f1)] from rfl) (Reps.none _ _)))); intro v143 w74 ho75 hb hg_ hnew_; clear hg_ hnew_; (first | rw [← Ny142.out] at ho75 | (simp only [Int.reduceToNat] at ho75; rw [← Ny142.out] at ho75)); have n0_ := zqi (Kd.R_lower ho75 (below_size (zqn HB.out))); have n1_ := zqi (blk_below (g := gb127) (o := .cells #[.int .i64 a0_0, .int .i64 a0_1, .int .i64 a0_2, .slice (some ad140) l0_3.length c0_3] 39 (0, 0)) (by (repeat (with_reducible first | apply zqa | apply zqb | apply zqc | refine blk_far ?_ NB127_141.out _)); exact BK127.out) hb); have n2_ := zqi (blk_below (g := gb141) (o := .cells #[.int .i64 ((rd_T58 l0_3 x37_2).f0), .int .i64 ((rd_T58 l0_3 x37_2).f1), .int .i64 ((rd_T58 l0_3 x37_2).f2), .int .i64 ((rd_T58 l0_3 x37_2).f3), .int .i64 ((rd_T58 l0_3 x37_2).f4), .int .i64 ((rd_T58 l0_3 x37_2).f5)] 58 (0, 0)) (by exact zqC (blk_set (blk_set (blk_set (blk_set (blk_set (blk_set BK141.out 0 _) 1 _) 2 _) 3 _) 4 _) 5 _) (by simp only [List.setIfInBounds_toArray, List.set_cons_zero, List.set_cons_succ])) hb); have n3_ := zqi (below_step (zqn HB.out) hb); clear BK127; clear BK141; clear HB; have HO144 := n0_; have BK127 := n1_; have BK141 := n2_; have HB := n3_; clear n0_ n1_ n2_ n3_; clear hb ho75; obtain ⟨Ao76, co76, eo76⟩ := Kd.R_slice HO144.out; subst eo76) | (go_at_call 46; (with_reducible refine (inst_between.calls k2 0 10000 _ _ y142 true _ ?side1 ?side2 A56.out).mono ?_); (case side1 => repeat (first | exact (Kd.R_reads' HO144.out).2.2 | (with_reducible refine Kd.C_alloc ?_ _) | (with_reducible refine Kd.C_drewN ?_ _) | (with_reducible refine Kd.C_drew ?_))); (case side2 => exact (Kd.R_reads' HO144.out).2.1); rintro e w' ⟨rfl, ⟨nd, rfl⟩⟩; (try first | exact ⟨rfl, _, zqj⟩ | exact ⟨rfl, _, Eq.trans (zqj) (congrArg (World.drewN _) (Nat.add_assoc _ _ _))⟩); obtain ⟨hcz77_0, hcz77_1, hcz77_2, hcz77_3, hcz77_4, hcz77_5, hfz77_0, hfz77_1, hfz77_2, hfz77_3, hfz77_4, hfz77_5⟩ := zqz6 BK141.out) | ((with_reducible refine gate_dst (N := 54) rfl ?_); (try (refine gate_guard (by rfl) ?_; dsimp only)); refine Kd.R_lit (Kd.int .i64) _ 3 ?hg (N := 54) ?hd (xs := ([(rd_T58 l0_3 x37_2).f3, (rd_T58 l0_3 x37_2).f4] : List Int)) (inner := [.int .i64 ((rd_T58 l0_3 x37_2).f3), .int .i64 ((rd_T58 l0_3 x37_2).f4)]) (ok := fun _ => True) (okp := fun _ => True) ?hr ?hp (fun _ hk => hk) trivial (Below.refl _ _) (Nat.le_refl _) (by simp) ?_; (case hd => rfl); (case hg => rfl); (case hr => first | (go_simp; done) | (go_simp; rfl)); (case hp => exact (Reps.one (show Kd.M (Kd.int .i64) _ _ _ ((rd_T58 l0_3 x37_2).f3) [.int .i64 ((rd_T58 l0_3 x37_2).f3)] from rfl) (Reps.one (show Kd.M (Kd.int .i64) _ _ _ ((rd_T58 l0_3 x37_2).f4) [.int .i64 ((rd_T58 l0_3 x37_2).f4)] from rfl) (Reps.none _ _)))); intro v147 w78 ho79 hb hg_ hnew_; clear hg_ hnew_; (first | rw [← Ny146.out] at ho79 | (simp only [Int.reduceToNat] at ho79; rw [← Ny146.out] at ho79)); have n0_ := zqi (Kd.R_elder' (by (with_reducible repeat (first | apply Kd.R_alloc | apply Kd.R_drewN | apply Kd.R_drew)); exact HO144.out) (Kd.R_base ho79) hb); have n1_ := zqi (Kd.R_lower (Kd.R_new' ho79 (Kd.R_lt (by (with_reducible repeat (first | apply Kd.R_alloc | apply Kd.R_drewN | apply Kd.R_drew)); exact HO144.out))) (below_size (zqn HB.out))); have n2_ := zqi (zqy BK127.out hb); have n3_ := zqi (zqy BK141.out hb); have n4_ := zqi (below_step (zqn HB.out) hb); clear HO144; clear BK127; clear BK141; clear HB; have HO144 := n0_; have HO148 := n1_; have BK127 := n2_; have BK141 := n3_; have HB := n4_; clear n0_ n1_ n2_ n3_ n4_; clear hb ho79; obtain ⟨Ao80, co80, eo80⟩ := Kd.R_slice HO148.out; subst eo80) | (go_at_call 46; (with_reducible refine (inst_between.calls k2 0 1048576 _ _ y146 true _ ?side1 ?side2 A58.out).mono ?_); (case side1 => repeat (first | exact (Kd.R_reads' HO148.out).2.2 | (with_reducible refine Kd.C_alloc ?_ _) | (with_reducible refine Kd.C_drewN ?_ _) | (with_reducible refine Kd.C_drew ?_))); (case side2 => exact (Kd.R_reads' HO148.out).2.1); rintro e w' ⟨rfl, ⟨nd, rfl⟩⟩; (try first | exact ⟨rfl, _, zqj⟩ | exact ⟨rfl, _, Eq.trans (zqj) (congrArg (World.drewN _) (Nat.add_assoc _ _ _))⟩); obtain ⟨hcz81_0, hcz81_1, hcz81_2, hcz81_3, hcz81_4, hcz81_5, hfz81_0, hfz81_1, hfz81_2, hfz81_3, hfz81_4, hfz81_5⟩ := zqz6 BK141.out) | ((with_reducible refine gate_dst (N := 68) rfl ?_); (try (refine gate_guard (by rfl) ?_; dsimp only)); refine Kd.R_lit (Kd.int .i64) _ 3 ?hg (N := 68) ?hd (xs := ([(rd_T58 l0_3 x37_2).f5] : List Int)) (inner := [.int .i64 ((rd_T58 l0_3 x37_2).f5)]) (ok := fun _ => True) (okp := fun _ => True) ?hr ?hp (fun _ hk => hk) trivial (Below.refl _ _) (Nat.le_refl _) (by simp) ?_; (case hd => rfl); (case hg => rfl); (case hr => first | (go_simp; done) | (go_simp; rfl)); (case hp => exact (Reps.one (show Kd.M (Kd.int .i64) _ _ _ ((rd_T58 l0_3 x37_2).f5) [.int .i64 ((rd_T58 l0_3 x37_2).f5)] from rfl) (Reps.none _ _))); intro v151 w82 ho83 hb hg_ hnew_; clear hg_ hnew_; (first | rw [← Ny150.out] at ho83 | (simp only [Int.reduceToNat] at ho83; rw [← Ny150.out] at ho83)); have n0_ := zqi (Kd.R_elder' (by (with_reducible repeat (first | apply Kd.R_alloc | apply Kd.R_drewN | apply Kd.R_drew)); exact HO144.out) (Kd.R_base ho83) hb); have n1_ := zqi (Kd.R_elder' (by (with_reducible repeat (first | apply Kd.R_alloc | apply Kd.R_drewN | apply Kd.R_drew)); exact HO148.out) (Kd.R_base ho83) hb); have n2_ := zqi (Kd.R_lower (Kd.R_new' (Kd.R_new' ho83 (Kd.R_lt (by (with_reducible repeat (first | apply Kd.R_alloc | apply Kd.R_drewN | apply Kd.R_drew)); exact HO144.out))) (Kd.R_lt (by (with_reducible repeat (first | apply Kd.R_alloc | apply Kd.R_drewN | apply Kd.R_drew)); exact HO148.out))) (below_size (zqn HB.out))); have n3_ := zqi (zqy BK127.out hb); have n4_ := zqi (zqy BK141.out hb); have n5_ := zqi (below_step (zqn HB.out) hb); clear HO144; clear HO148; clear BK127; clear BK141; clear HB; have HO144 := n0_; have HO148 := n1_; have HO152 := n2_; have BK127 := n3_; have BK141 := n4_; have HB := n5_; clear n0_ n1_ n2_ n3_ n4_ n5_; clear hb ho83; obtain ⟨Ao84, co84, eo84⟩ := Kd.R_slice HO152.out; subst eo84) | (go_at_call 46; (with_reducible refine (inst_between.calls k2 0 1000 _ _ y150 t153 _ ?side1 ?side2 A71.out).mono ?_); (case side1 => repeat (first | exact (Kd.R_reads' HO152.out).2.2 | (with_reducible refine Kd.C_alloc ?_ _) | (with_reducible refine Kd.C_drewN ?_ _) | (with_reducible refine Kd.C_drew ?_))); (case side2 => exact (Kd.R_reads' HO152.out).2.1); rintro e w' ⟨rfl, ⟨nd, rfl⟩⟩; (try first | exact ⟨rfl, _, zqj⟩ | exact ⟨rfl, _, Eq.trans (zqj) (congrArg (World.drewN _) (Nat.add_assoc _ _ _))⟩))); try go_wp2_with (first | ((with_reducible refine gate_dst (N := 46) rfl ?_); (try (refine gate_guard (by rfl) ?_; dsimp only)); refine Kd.R_lit (Kd.int .i64) _ 3 ?hg (N := 46) ?hd (xs := ([(rd_T58 l0_3 x37_2).f0, (rd_T58 l0_3 x37_2).f1] : List Int)) (inner := [.int .i64 ((rd_T58 l0_3 x37_2).f0), .int .i64 ((rd_T58 l0_3 x37_2).f1)]) (ok := fun _ => True) (okp := fun _ => True) ?hr ?hp (fun _ hk => hk) trivial (Below.refl _ _) (Nat.le_refl _) (by simp) ?_; (case hd => rfl); (case hg => rfl); (case hr => first | (go_simp; done) | (go_simp; rfl)); (case hp => exact (Reps.one (show Kd.M (Kd.int .i64) _ _ _ ((rd_T58 l0_3 x37_2).f0) [.int .i64 ((rd_T58 l0_3 x37_2).f0)] from rfl) (Reps.one (show Kd.M (Kd.int .i64) _ _ _ ((rd_T58 l0_3 x37_2).f1) [.int .i64 ((rd_T58 l0_3 x37_2).f1)] from rfl) (Reps.none _ _)))); intro v143 w74 ho75 hb hg_ hnew_; clear hg_ hnew_; (first | rw [← Ny142.out] at ho75 | (simp only [Int.reduceToNat] at ho75; rw [← Ny142.out] at ho75)); have n0_ := zqi (Kd.R_lower ho75 (below_size (zqn HB.out))); have n1_ := zqi (blk_below (g := gb127) (o := .cells #[.int .i64 a0_0, .int .i64 a0_1, .int .i64 a0_2, .slice (some ad140) l0_3.length c0_3] 39 (0, 0)) (by (repeat (with_reducible first | apply zqa | apply zqb | apply zqc | refine blk_far ?_ NB127_141.out _)); exact BK127.out) hb); have n2_ := zqi (blk_below (g := gb141) (o := .cells #[.int .i64 ((rd_T58 l0_3 x37_2).f0), .int .i64 ((rd_T58 l0_3 x37_2).f1), .int .i64 ((rd_T58 l0_3 x37_2).f2), .int .i64 ((rd_T58 l0_3 x37_2).f3), .int .i64 ((rd_T58 l0_3 x37_2).f4), .int .i64 ((rd_T58 l0_3 x37_2).f5)] 58 (0, 0)) (by exact zqC (blk_set (blk_set (blk_set (blk_set (blk_set (blk_set BK141.out 0 _) 1 _) 2 _) 3 _) 4 _) 5 _) (by simp only [List.setIfInBounds_toArray, List.set_cons_zero, List.set_cons_succ])) hb); have n3_ := zqi (below_step (zqn HB.out) hb); clear BK127; clear BK141; clear HB; have HO144 := n0_; have BK127 := n1_; have BK141 := n2_; have HB := n3_; clear n0_ n1_ n2_ n3_; clear hb ho75; obtain ⟨Ao76, co76, eo76⟩ := Kd.R_slice HO144.out; subst eo76) | (go_at_call 46; (with_reducible refine (inst_between.calls k2 0 10000 _ _ y142 true _ ?side1 ?side2 A56.out).mono ?_); (case side1 => repeat (first | exact (Kd.R_reads' HO144.out).2.2 | (with_reducible refine Kd.C_alloc ?_ _) | (with_reducible refine Kd.C_drewN ?_ _) | (with_reducible refine Kd.C_drew ?_))); (case side2 => exact (Kd.R_reads' HO144.out).2.1); rintro e w' ⟨rfl, ⟨nd, rfl⟩⟩; (try first | exact ⟨rfl, _, zqj⟩ | exact ⟨rfl, _, Eq.trans (zqj) (congrArg (World.drewN _) (Nat.add_assoc _ _ _))⟩); obtain ⟨hcz77_0, hcz77_1, hcz77_2, hcz77_3, hcz77_4, hcz77_5, hfz77_0, hfz77_1, hfz77_2, hfz77_3, hfz77_4, hfz77_5⟩ := zqz6 BK141.out) | ((with_reducible refine gate_dst (N := 54) rfl ?_); (try (refine gate_guard (by rfl) ?_; dsimp only)); refine Kd.R_lit (Kd.int .i64) _ 3 ?hg (N := 54) ?hd (xs := ([(rd_T58 l0_3 x37_2).f3, (rd_T58 l0_3 x37_2).f4] : List Int)) (inner := [.int .i64 ((rd_T58 l0_3 x37_2).f3), .int .i64 ((rd_T58 l0_3 x37_2).f4)]) (ok := fun _ => True) (okp := fun _ => True) ?hr ?hp (fun _ hk => hk) trivial (Below.refl _ _) (Nat.le_refl _) (by simp) ?_; (case hd => rfl); (case hg => rfl); (case hr => first | (go_simp; done) | (go_simp; rfl)); (case hp => exact (Reps.one (show Kd.M (Kd.int .i64) _ _ _ ((rd_T58 l0_3 x37_2).f3) [.int .i64 ((rd_T58 l0_3 x37_2).f3)] from rfl) (Reps.one (show Kd.M (Kd.int .i64) _ _ _ ((rd_T58 l0_3 x37_2).f4) [.int .i64 ((rd_T58 l0_3 x37_2).f4)] from rfl) (Reps.none _ _)))); intro v147 w78 ho79 hb hg_ hnew_; clear hg_ hnew_; (first | rw [← Ny146.out] at ho79 | (simp only [Int.reduceToNat] at ho79; rw [← Ny146.out] at ho79)); have n0_ := zqi (Kd.R_elder' (by (with_reducible repeat (first | apply Kd.R_alloc | apply Kd.R_drewN | apply Kd.R_drew)); exact HO144.out) (Kd.R_base ho79) hb); have n1_ := zqi (Kd.R_lower (Kd.R_new' ho79 (Kd.R_lt (by (with_reducible repeat (first | apply Kd.R_alloc | apply Kd.R_drewN | apply Kd.R_drew)); exact HO144.out))) (below_size (zqn HB.out))); have n2_ := zqi (zqy BK127.out hb); have n3_ := zqi (zqy BK141.out hb); have n4_ := zqi (below_step (zqn HB.out) hb); clear HO144; clear BK127; clear BK141; clear HB; have HO144 := n0_; have HO148 := n1_; have BK127 := n2_; have BK141 := n3_; have HB := n4_; clear n0_ n1_ n2_ n3_ n4_; clear hb ho79; obtain ⟨Ao80, co80, eo80⟩ := Kd.R_slice HO148.out; subst eo80) | (go_at_call 46; (with_reducible refine (inst_between.calls k2 0 1048576 _ _ y146 true _ ?side1 ?side2 A58.out).mono ?_); (case side1 => repeat (first | exact (Kd.R_reads' HO148.out).2.2 | (with_reducible refine Kd.C_alloc ?_ _) | (with_reducible refine Kd.C_drewN ?_ _) | (with_reducible refine Kd.C_drew ?_))); (case side2 => exact (Kd.R_reads' HO148.out).2.1); rintro e w' ⟨rfl, ⟨nd, rfl⟩⟩; (try first | exact ⟨rfl, _, zqj⟩ | exact ⟨rfl, _, Eq.trans (zqj) (congrArg (World.drewN _) (Nat.add_assoc _ _ _))⟩); obtain ⟨hcz81_0, hcz81_1, hcz81_2, hcz81_3, hcz81_4, hcz81_5, hfz81_0, hfz81_1, hfz81_2, hfz81_3, hfz81_4, hfz81_5⟩ := zqz6 BK141.out) | ((with_reducible refine gate_dst (N := 68) rfl ?_); (try (refine gate_guard (by rfl) ?_; dsimp only)); refine Kd.R_lit (Kd.int .i64) _ 3 ?hg (N := 68) ?hd (xs := ([(rd_T58 l0_3 x37_2).f5] : List Int)) (inner := [.int .i64 ((rd_T58 l0_3 x37_2).f5)]) (ok := fun _ => True) (okp := fun _ => True) ?hr ?hp (fun _ hk => hk) trivial (Below.refl _ _) (Nat.le_refl _) (by simp) ?_; (case hd => rfl); (case hg => rfl); (case hr => first | (go_simp; done) | (go_simp; rfl)); (case hp => exact (Reps.one (show Kd.M (Kd.int .i64) _ _ _ ((rd_T58 l0_3 x37_2).f5) [.int .i64 ((rd_T58 l0_3 x37_2).f5)] from rfl) (Reps.none _ _))); intro v151 w82 ho83 hb hg_ hnew_; clear hg_ hnew_; (first | rw [← Ny150.out] at ho83 | (simp only [Int.reduceToNat] at ho83; rw [← Ny150.out] at ho83)); have n0_ := zqi (Kd.R_elder' (by (with_reducible repeat (first | apply Kd.R_alloc | apply Kd.R_drewN | apply Kd.R_drew)); exact HO144.out) (Kd.R_base ho83) hb); have n1_ := zqi (Kd.R_elder' (by (with_reducible repeat (first | apply Kd.R_alloc | apply Kd.R_drewN | apply Kd.R_drew)); exact HO148.out) (Kd.R_base ho83) hb); have n2_ := zqi (Kd.R_lower (Kd.R_new' (Kd.R_new' ho83 (Kd.R_lt (by (with_reducible repeat (first | apply Kd.R_alloc | apply Kd.R_drewN | apply Kd.R_drew)); exact HO144.out))) (Kd.R_lt (by (with_reducible repeat (first | apply Kd.R_alloc | apply Kd.R_drewN | apply Kd.R_drew)); exact HO148.out))) (below_size (zqn HB.out))); have n3_ := zqi (zqy BK127.out hb); have n4_ := zqi (zqy BK141.out hb); have n5_ := zqi (below_step (zqn HB.out) hb); clear HO144; clear HO148; clear BK127; clear BK141; clear HB; have HO144 := n0_; have HO148 := n1_; have HO152 := n2_; have BK127 := n3_; have BK141 := n4_; have HB := n5_; clear n0_ n1_ n2_ n3_ n4_ n5_; clear hb ho83; obtain ⟨Ao84, co84, eo84⟩ := Kd.R_slice HO152.out; subst eo84) | (go_at_call 46; (with_reducible refine (inst_between.calls k2 0 1000 _ _ y150 t153 _ ?side1 ?side2 A71.out).mono ?_); (case side1 => repeat (first | exact (Kd.R_reads' HO152.out).2.2 | (with_reducible refine Kd.C_alloc ?_ _) | (with_reducible refine Kd.C_drewN ?_ _) | (with_reducible refine Kd.C_drew ?_))); (case side2 => exact (Kd.R_reads' HO152.out).2.1); rintro e w' ⟨rfl, ⟨nd, rfl⟩⟩; (try first | exact ⟨rfl, _, zqj⟩ | exact ⟨rfl, _, Eq.trans (zqj) (congrArg (World.drewN _) (Nat.add_assoc _ _ _))⟩))))
             go_meet
             case rel => exact ⟨_, (!t153), (by first | rfl | (simp; done) | (simp [*]; done)), H', ⟨by have := HJ1.out; have := HK2.out; first | omega | exact Nat.le_refl _⟩, ⟨by (with_reducible repeat (first | apply zqa | apply zqb | apply zqc)); exact BK127.out⟩, ⟨by (with_reducible repeat (first | apply zqa | apply zqb | apply zqc)); exact BK141.out⟩, ⟨by repeat (first | (with_reducible first | exact HB.out | apply zqg | apply zqf | apply zqh | refine below_set ?_ GE127.out | refine below_set ?_ GE141.out) | exact HB.out)⟩⟩
           ·
            replace c59 := Bool.eq_false_iff.mpr c59
            subst c59
            have H1 : (inst_May.j2 k2 x37_2 l0_3 (l0_3.length : Int) x37_2 true a0_0 a0_1 a0_2 l0_3 ((rd_T58 l0_3 x37_2).f0) ((rd_T58 l0_3 x37_2).f1) ((rd_T58 l0_3 x37_2).f2) ((rd_T58 l0_3 x37_2).f3) ((rd_T58 l0_3 x37_2).f4) ((rd_T58 l0_3 x37_2).f5)) = some r := by rw [if_neg (show ¬ (false = true) by decide)] at H; exact H
            clear H
            have H := H1
            clear H1
            have H' := zqi H
            clear H
            have hnb85 := NB141_127.out
            have hnc85 := NB127_141.out
            obtain ⟨hcz86_0, hcz86_1, hcz86_2, hcz86_3, hcz86_4, hcz86_5, hfz86_0, hfz86_1, hfz86_2, hfz86_3, hfz86_4, hfz86_5⟩ := zqz6 BK141.out
            go_wp2_with (first | ((with_reducible refine gate_dst (N := 46) rfl ?_); (try (refine gate_guard (by rfl) ?_; dsimp only)); refine Kd.R_lit (Kd.int .i64) _ 3 ?hg (N := 46) ?hd (xs := ([(rd_T58 l0_3 x37_2).f0, (rd_T58 l0_3 x37_2).f1] : List Int)) (inner := [.int .i64 ((rd_T58 l0_3 x37_2).f0), .int .i64 ((rd_T58 l0_3 x37_2).f1)]) (ok := fun _ => True) (okp := fun _ => True) ?hr ?hp (fun _ hk => hk) trivial (Below.refl _ _) (Nat.le_refl _) (by simp) ?_; (case hd => rfl); (case hg => rfl); (case hr => first | (go_simp; done) | (go_simp; rfl)); (case hp => exact (Reps.one (show Kd.M (Kd.int .i64) _ _ _ ((rd_T58 l0_3 x37_2).f0) [.int .i64 ((rd_T58 l0_3 x37_2).f0)] from rfl) (Reps.one (show Kd.M (Kd.int .i64) _ _ _ ((rd_T58 l0_3 x37_2).f1) [.int .i64 ((rd_T58 l0_3 x37_2).f1)] from rfl) (Reps.none _ _)))); intro v143 w87 ho88 hb hg_ hnew_; clear hg_ hnew_; (first | rw [← Ny142.out] at ho88 | (simp only [Int.reduceToNat] at ho88; rw [← Ny142.out] at ho88)); have n0_ := zqi (Kd.R_lower ho88 (below_size (zqn HB.out))); have n1_ := zqi (blk_below (g := gb127) (o := .cells #[.int .i64 a0_0, .int .i64 a0_1, .int .i64 a0_2, .slice (some ad140) l0_3.length c0_3] 39 (0, 0)) (by (repeat (with_reducible first | apply zqa | apply zqb | apply zqc | refine blk_far ?_ NB127_141.out _)); exact BK127.out) hb); have n2_ := zqi (blk_below (g := gb141) (o := .cells #[.int .i64 ((rd_T58 l0_3 x37_2).f0), .int .i64 ((rd_T58 l0_3 x37_2).f1), .int .i64 ((rd_T58 l0_3 x37_2).f2), .int .i64 ((rd_T58 l0_3 x37_2).f3), .int .i64 ((rd_T58 l0_3 x37_2).f4), .int .i64 ((rd_T58 l0_3 x37_2).f5)] 58 (0, 0)) (by exact zqC (blk_set (blk_set (blk_set (blk_set (blk_set (blk_set BK141.out 0 _) 1 _) 2 _) 3 _) 4 _) 5 _) (by simp only [List.setIfInBounds_toArray, List.set_cons_zero, List.set_cons_succ])) hb); have n3_ := zqi (below_step (zqn HB.out) hb); clear BK127; clear BK141; clear HB; have HO144 := n0_; have BK127 := n1_; have BK141 := n2_; have HB := n3_; clear n0_ n1_ n2_ n3_; clear hb ho88; obtain ⟨Ao89, co89, eo89⟩ := Kd.R_slice HO144.out; subst eo89) | (go_at_call 46; (with_reducible refine (inst_between.calls k2 0 10000 _ _ y142 true _ ?side1 ?side2 A56.out).mono ?_); (case side1 => repeat (first | exact (Kd.R_reads' HO144.out).2.2 | (with_reducible refine Kd.C_alloc ?_ _) | (with_reducible refine Kd.C_drewN ?_ _) | (with_reducible refine Kd.C_drew ?_))); (case side2 => exact (Kd.R_reads' HO144.out).2.1); rintro e w' ⟨rfl, ⟨nd, rfl⟩⟩; (try first | exact ⟨rfl, _, zqj⟩ | exact ⟨rfl, _, Eq.trans (zqj) (congrArg (World.drewN _) (Nat.add_assoc _ _ _))⟩); obtain ⟨hcz90_0, hcz90_1, hcz90_2, hcz90_3, hcz90_4, hcz90_5, hfz90_0, hfz90_1, hfz90_2, hfz90_3, hfz90_4, hfz90_5⟩ := zqz6 BK141.out) | ((with_reducible refine gate_dst (N := 54) rfl ?_); (try (refine gate_guard (by rfl) ?_; dsimp only)); refine Kd.R_lit (Kd.int .i64) _ 3 ?hg (N := 54) ?hd (xs := ([(rd_T58 l0_3 x37_2).f3, (rd_T58 l0_3 x37_2).f4] : List Int)) (inner := [.int .i64 ((rd_T58 l0_3 x37_2).f3), .int .i64 ((rd_T58 l0_3 x37_2).f4)]) (ok := fun _ => True) (okp := fun _ => True) ?hr ?hp (fun _ hk => hk) trivial (Below.refl _ _) (Nat.le_refl _) (by simp) ?_; (case hd => rfl); (case hg => rfl); (case hr => first | (go_simp; done) | (go_simp; rfl)); (case hp => exact (Reps.one (show Kd.M (Kd.int .i64) _ _ _ ((rd_T58 l0_3 x37_2).f3) [.int .i64 ((rd_T58 l0_3 x37_2).f3)] from rfl) (Reps.one (show Kd.M (Kd.int .i64) _ _ _ ((rd_T58 l0_3 x37_2).f4) [.int .i64 ((rd_T58 l0_3 x37_2).f4)] from rfl) (Reps.none _ _)))); intro v147 w91 ho92 hb hg_ hnew_; clear hg_ hnew_; (first | rw [← Ny146.out] at ho92 | (simp only [Int.reduceToNat] at ho92; rw [← Ny146.out] at ho92)); have n0_ := zqi (Kd.R_elder' (by (with_reducible repeat (first | apply Kd.R_alloc | apply Kd.R_drewN | apply Kd.R_drew)); exact HO144.out) (Kd.R_base ho92) hb); have n1_ := zqi (Kd.R_lower (Kd.R_new' ho92 (Kd.R_lt (by (with_reducible repeat (first | apply Kd.R_alloc | apply Kd.R_drewN | apply Kd.R_drew)); exact HO144.out))) (below_size (zqn HB.out))); have n2_ := zqi (zqy BK127.out hb); have n3_ := zqi (zqy BK141.out hb); have n4_ := zqi (below_step (zqn HB.out) hb); clear HO144; clear BK127; clear BK141; clear HB; have HO144 := n0_; have HO148 := n1_; have BK127 := n2_; have BK141 := n3_; have HB := n4_; clear n0_ n1_ n2_ n3_ n4_; clear hb ho92; obtain ⟨Ao93, co93, eo93⟩ := Kd.R_slice HO148.out; subst eo93) | (go_at_call 46; (with_reducible refine (inst_between.calls k2 0 1048576 _ _ y146 false _ ?side1 ?side2 A58.out).mono ?_); (case side1 => repeat (first | exact (Kd.R_reads' HO148.out).2.2 | (with_reducible refine Kd.C_alloc ?_ _) | (with_reducible refine Kd.C_drewN ?_ _) | (with_reducible refine Kd.C_drew ?_))); (case side2 => exact (Kd.R_reads' HO148.out).2.1); rintro e w' ⟨rfl, ⟨nd, rfl⟩⟩; (try first | exact ⟨rfl, _, zqj⟩ | exact ⟨rfl, _, Eq.trans (zqj) (congrArg (World.drewN _) (Nat.add_assoc _ _ _))⟩)))
            repeat (go_quiet (first | ((with_reducible refine gate_dst (N := 46) rfl ?_); (try (refine gate_guard (by rfl) ?_; dsimp only)); refine Kd.R_lit (Kd.int .i64) _ 3 ?hg (N := 46) ?hd (xs := ([(rd_T58 l0_3 x37_2).f0, (rd_T58 l0_3 x37_2).f1] : List Int)) (inner := [.int .i64 ((rd_T58 l0_3 x37_2).f0), .int .i64 ((rd_T58 l0_3 x37_2).f1)]) (ok := fun _ => True) (okp := fun _ => True) ?hr ?hp (fun _ hk => hk) trivial (Below.refl _ _) (Nat.le_refl _) (by simp) ?_; (case hd => rfl); (case hg => rfl); (case hr => first | (go_simp; done) | (go_simp; rfl)); (case hp => exact (Reps.one (show Kd.M (Kd.int .i64) _ _ _ ((rd_T58 l0_3 x37_2).f0) [.int .i64 ((rd_T58 l0_3 x37_2).f0)] from rfl) (Reps.one (show Kd.M (Kd.int .i64) _ _ _ ((rd_T58 l0_3 x37_2).f1) [.int .i64 ((rd_T58 l0_3 x37_2).f1)] from rfl) (Reps.none _ _)))); intro v143 w87 ho88 hb hg_ hnew_; clear hg_ hnew_; (first | rw [← Ny142.out] at ho88 | (simp only [Int.reduceToNat] at ho88; rw [← Ny142.out] at ho88)); have n0_ := zqi (Kd.R_lower ho88 (below_size (zqn HB.out))); have n1_ := zqi (blk_below (g := gb127) (o := .cells #[.int .i64 a0_0, .int .i64 a0_1, .int .i64 a0_2, .slice (some ad140) l0_3.length c0_3] 39 (0, 0)) (by (repeat (with_reducible first | apply zqa | apply zqb | apply zqc | refine blk_far ?_ NB127_141.out _)); exact BK127.out) hb); have n2_ := zqi (blk_below (g := gb141) (o := .cells #[.int .i64 ((rd_T58 l0_3 x37_2).f0), .int .i64 ((rd_T58 l0_3 x37_2).f1), .int .i64 ((rd_T58 l0_3 x37_2).f2), .int .i64 ((rd_T58 l0_3 x37_2).f3), .int .i64 ((rd_T58 l0_3 x37_2).f4), .int .i64 ((rd_T58 l0_3 x37_2).f5)] 58 (0, 0)) (by exact zqC (blk_set (blk_set (blk_set (blk_set (blk_set (blk_set BK141.out 0 _) 1 _) 2 _) 3 _) 4 _) 5 _) (by simp only [List.setIfInBounds_toArray, List.set_cons_zero, List.set_cons_succ])) hb); have n3_ := zqi (below_step (zqn HB.out) hb); clear BK127; clear BK141; clear HB; have HO144 := n0_; have BK127 := n1_; have BK141 := n2_; have HB := n3_; clear n0_ n1_ n2_ n3_; clear hb ho88; obtain ⟨Ao89, co89, eo89⟩ := Kd.R_slice HO144.out; subst eo89) | (go_at_call 46; (with_reducible refine (inst_between.calls k2 0 10000 _ _ y142 true _ ?side1 ?side2 A56.out).mono ?_); (case side1 => repeat (first | exact (Kd.R_reads' HO144.out).2.2 | (with_reducible refine Kd.C_alloc ?_ _) | (with_reducible refine Kd.C_drewN ?_ _) | (with_reducible refine Kd.C_drew ?_))); (case side2 => exact (Kd.R_reads' HO144.out).2.1); rintro e w' ⟨rfl, ⟨nd, rfl⟩⟩; (try first | exact ⟨rfl, _, zqj⟩ | exact ⟨rfl, _, Eq.trans (zqj) (congrArg (World.drewN _) (Nat.add_assoc _ _ _))⟩); obtain ⟨hcz90_0, hcz90_1, hcz90_2, hcz90_3, hcz90_4, hcz90_5, hfz90_0, hfz90_1, hfz90_2, hfz90_3, hfz90_4, hfz90_5⟩ := zqz6 BK141.out) | ((with_reducible refine gate_dst (N := 54) rfl ?_); (try (refine gate_guard (by rfl) ?_; dsimp only)); refine Kd.R_lit (Kd.int .i64) _ 3 ?hg (N := 54) ?hd (xs := ([(rd_T58 l0_3 x37_2).f3, (rd_T58 l0_3 x37_2).f4] : List Int)) (inner := [.int .i64 ((rd_T58 l0_3 x37_2).f3), .int .i64 ((rd_T58 l0_3 x37_2).f4)]) (ok := fun _ => True) (okp := fun _ => True) ?hr ?hp (fun _ hk => hk) trivial (Below.refl _ _) (Nat.le_refl _) (by simp) ?_; (case hd => rfl); (case hg => rfl); (case hr => first | (go_simp; done) | (go_simp; rfl)); (case hp => exact (Reps.one (show Kd.M (Kd.int .i64) _ _ _ ((rd_T58 l0_3 x37_2).f3) [.int .i64 ((rd_T58 l0_3 x37_2).f3)] from rfl) (Reps.one (show Kd.M (Kd.int .i64) _ _ _ ((rd_T58 l0_3 x37_2).f4) [.int .i64 ((rd_T58 l0_3 x37_2).f4)] from rfl) (Reps.none _ _)))); intro v147 w91 ho92 hb hg_ hnew_; clear hg_ hnew_; (first | rw [← Ny146.out] at ho92 | (simp only [Int.reduceToNat] at ho92; rw [← Ny146.out] at ho92)); have n0_ := zqi (Kd.R_elder' (by (with_reducible repeat (first | apply Kd.R_alloc | apply Kd.R_drewN | apply Kd.R_drew)); exact HO144.out) (Kd.R_base ho92) hb); have n1_ := zqi (Kd.R_lower (Kd.R_new' ho92 (Kd.R_lt (by (with_reducible repeat (first | apply Kd.R_alloc | apply Kd.R_drewN | apply Kd.R_drew)); exact HO144.out))) (below_size (zqn HB.out))); have n2_ := zqi (zqy BK127.out hb); have n3_ := zqi (zqy BK141.out hb); have n4_ := zqi (below_step (zqn HB.out) hb); clear HO144; clear BK127; clear BK141; clear HB; have HO144 := n0_; have HO148 := n1_; have BK127 := n2_; have BK141 := n3_; have HB := n4_; clear n0_ n1_ n2_ n3_ n4_; clear hb ho92; obtain ⟨Ao93, co93, eo93⟩ := Kd.R_slice HO148.out; subst eo93) | (go_at_call 46; (with_reducible refine (inst_between.calls k2 0 1048576 _ _ y146 false _ ?side1 ?side2 A58.out).mono ?_); (case side1 => repeat (first | exact (Kd.R_reads' HO148.out).2.2 | (with_reducible refine Kd.C_alloc ?_ _) | (with_reducible refine Kd.C_drewN ?_ _) | (with_reducible refine Kd.C_drew ?_))); (case side2 => exact (Kd.R_reads' HO148.out).2.1); rintro e w' ⟨rfl, ⟨nd, rfl⟩⟩; (try first | exact ⟨rfl, _, zqj⟩ | exact ⟨rfl, _, Eq.trans (zqj) (congrArg (World.drewN _) (Nat.add_assoc _ _ _))⟩))); try go_wp2_with (first | ((with_reducible refine gate_dst (N := 46) rfl ?_); (try (refine gate_guard (by rfl) ?_; dsimp only)); refine Kd.R_lit (Kd.int .i64) _ 3 ?hg (N := 46) ?hd (xs := ([(rd_T58 l0_3 x37_2).f0, (rd_T58 l0_3 x37_2).f1] : List Int)) (inner := [.int .i64 ((rd_T58 l0_3 x37_2).f0), .int .i64 ((rd_T58 l0_3 x37_2).f1)]) (ok := fun _ => True) (okp := fun _ => True) ?hr ?hp (fun _ hk => hk) trivial (Below.refl _ _) (Nat.le_refl _) (by simp) ?_; (case hd => rfl); (case hg => rfl); (case hr => first | (go_simp; done) | (go_simp; rfl)); (case hp => exact (Reps.one (show Kd.M (Kd.int .i64) _ _ _ ((rd_T58 l0_3 x37_2).f0) [.int .i64 ((rd_T58 l0_3 x37_2).f0)] from rfl) (Reps.one (show Kd.M (Kd.int .i64) _ _ _ ((rd_T58 l0_3 x37_2).f1) [.int .i64 ((rd_T58 l0_3 x37_2).f1)] from rfl) (Reps.none _ _)))); intro v143 w87 ho88 hb hg_ hnew_; clear hg_ hnew_; (first | rw [← Ny142.out] at ho88 | (simp only [Int.reduceToNat] at ho88; rw [← Ny142.out] at ho88)); have n0_ := zqi (Kd.R_lower ho88 (below_size (zqn HB.out))); have n1_ := zqi (blk_below (g := gb127) (o := .cells #[.int .i64 a0_0, .int .i64 a0_1, .int .i64 a0_2, .slice (some ad140) l0_3.length c0_3] 39 (0, 0)) (by (repeat (with_reducible first | apply zqa | apply zqb | apply zqc | refine blk_far ?_ NB127_141.out _)); exact BK127.out) hb); have n2_ := zqi (blk_below (g := gb141) (o := .cells #[.int .i64 ((rd_T58 l0_3 x37_2).f0), .int .i64 ((rd_T58 l0_3 x37_2).f1), .int .i64 ((rd_T58 l0_3 x37_2).f2), .int .i64 ((rd_T58 l0_3 x37_2).f3), .int .i64 ((rd_T58 l0_3 x37_2).f4), .int .i64 ((rd_T58 l0_3 x37_2).f5)] 58 (0, 0)) (by exact zqC (blk_set (blk_set (blk_set (blk_set (blk_set (blk_set BK141.out 0 _) 1 _) 2 _) 3 _) 4 _) 5 _) (by simp only [List.setIfInBounds_toArray, List.set_cons_zero, List.set_cons_succ])) hb); have n3_ := zqi (below_step (zqn HB.out) hb); clear BK127; clear BK141; clear HB; have HO144 := n0_; have BK127 := n1_; have BK141 := n2_; have HB := n3_; clear n0_ n1_ n2_ n3_; clear hb ho88; obtain ⟨Ao89, co89, eo89⟩ := Kd.R_slice HO144.out; subst eo89) | (go_at_call 46; (with_reducible refine (inst_between.calls k2 0 10000 _ _ y142 true _ ?side1 ?side2 A56.out).mono ?_); (case side1 => repeat (first | exact (Kd.R_reads' HO144.out).2.2 | (with_reducible refine Kd.C_alloc ?_ _) | (with_reducible refine Kd.C_drewN ?_ _) | (with_reducible refine Kd.C_drew ?_))); (case side2 => exact (Kd.R_reads' HO144.out).2.1); rintro e w' ⟨rfl, ⟨nd, rfl⟩⟩; (try first | exact ⟨rfl, _, zqj⟩ | exact ⟨rfl, _, Eq.trans (zqj) (congrArg (World.drewN _) (Nat.add_assoc _ _ _))⟩); obtain ⟨hcz90_0, hcz90_1, hcz90_2, hcz90_3, hcz90_4, hcz90_5, hfz90_0, hfz90_1, hfz90_2, hfz90_3, hfz90_4, hfz90_5⟩ := zqz6 BK141.out) | ((with_reducible refine gate_dst (N := 54) rfl ?_); (try (refine gate_guard (by rfl) ?_; dsimp only)); refine Kd.R_lit (Kd.int .i64) _ 3 ?hg (N := 54) ?hd (xs := ([(rd_T58 l0_3 x37_2).f3, (rd_T58 l0_3 x37_2).f4] : List Int)) (inner := [.int .i64 ((rd_T58 l0_3 x37_2).f3), .int .i64 ((rd_T58 l0_3 x37_2).f4)]) (ok := fun _ => True) (okp := fun _ => True) ?hr ?hp (fun _ hk => hk) trivial (Below.refl _ _) (Nat.le_refl _) (by simp) ?_; (case hd => rfl); (case hg => rfl); (case hr => first | (go_simp; done) | (go_simp; rfl)); (case hp => exact (Reps.one (show Kd.M (Kd.int .i64) _ _ _ ((rd_T58 l0_3 x37_2).f3) [.int .i64 ((rd_T58 l0_3 x37_2).f3)] from rfl) (Reps.one (show Kd.M (Kd.int .i64) _ _ _ ((rd_T58 l0_3 x37_2).f4) [.int .i64 ((rd_T58 l0_3 x37_2).f4)] from rfl) (Reps.none _ _)))); intro v147 w91 ho92 hb hg_ hnew_; clear hg_ hnew_; (first | rw [← Ny146.out] at ho92 | (simp only [Int.reduceToNat] at ho92; rw [← Ny146.out] at ho92)); have n0_ := zqi (Kd.R_elder' (by (with_reducible repeat (first | apply Kd.R_alloc | apply Kd.R_drewN | apply Kd.R_drew)); exact HO144.out) (Kd.R_base ho92) hb); have n1_ := zqi (Kd.R_lower (Kd.R_new' ho92 (Kd.R_lt (by (with_reducible repeat (first | apply Kd.R_alloc | apply Kd.R_drewN | apply Kd.R_drew)); exact HO144.out))) (below_size (zqn HB.out))); have n2_ := zqi (zqy BK127.out hb); have n3_ := zqi (zqy BK141.out hb); have n4_ := zqi (below_step (zqn HB.out) hb); clear HO144; clear BK127; clear BK141; clear HB; have HO144 := n0_; have HO148 := n1_; have BK127 := n2_; have BK141 := n3_; have HB := n4_; clear n0_ n1_ n2_ n3_ n4_; clear hb ho92; obtain ⟨Ao93, co93, eo93⟩ := Kd.R_slice HO148.out; subst eo93) | (go_at_call 46; (with_reducible refine (inst_between.calls k2 0 1048576 _ _ y146 false _ ?side1 ?side2 A58.out).mono ?_); (case side1 => repeat (first | exact (Kd.R_reads' HO148.out).2.2 | (with_reducible refine Kd.C_alloc ?_ _) | (with_reducible refine Kd.C_drewN ?_ _) | (with_reducible refine Kd.C_drew ?_))); (case side2 => exact (Kd.R_reads' HO148.out).2.1); rintro e w' ⟨rfl, ⟨nd, rfl⟩⟩; (try first | exact ⟨rfl, _, zqj⟩ | exact ⟨rfl, _, Eq.trans (zqj) (congrArg (World.drewN _) (Nat.add_assoc _ _ _))⟩))))
            go_meet
            case rel => exact ⟨_, (true), (by first | rfl | (simp; done) | (simp [*]; done)), H', ⟨by have := HJ1.out; have := HK2.out; first | omega | exact Nat.le_refl _⟩, ⟨by (with_reducible repeat (first | apply zqa | apply zqb | apply zqc)); exact BK127.out⟩, ⟨by (with_reducible repeat (first | apply zqa | apply zqb | apply zqc)); exact BK141.out⟩, ⟨by repeat (first | (with_reducible first | exact HB.out | apply zqg | apply zqf | apply zqh | refine below_set ?_ GE127.out | refine below_set ?_ GE141.out) | exact HB.out)⟩⟩
          ·
           replace c57 := Bool.eq_false_iff.mpr c57
           subst c57
           have H1 : (inst_May.j2 k2 x37_2 l0_3 (l0_3.length : Int) x37_2 true a0_0 a0_1 a0_2 l0_3 ((rd_T58 l0_3 x37_2).f0) ((rd_T58 l0_3 x37_2).f1) ((rd_T58 l0_3 x37_2).f2) ((rd_T58 l0_3 x37_2).f3) ((rd_T58 l0_3 x37_2).f4) ((rd_T58 l0_3 x37_2).f5)) = some r := by rw [if_neg (show ¬ (false = true) by decide)] at H; exact H
           clear H
           have H := H1
           clear H1
           have H' := zqi H
           clear H
           have hnb94 := NB141_127.out
           have hnc94 := NB127_141.out
           obtain ⟨hcz95_0, hcz95_1, hcz95_2, hcz95_3, hcz95_4, hcz95_5, hfz95_0, hfz95_1, hfz95_2, hfz95_3, hfz95_4, hfz95_5⟩ := zqz6 BK141.out
           go_wp2_with (first | ((with_reducible refine gate_dst (N := 46) rfl ?_); (try (refine gate_guard (by rfl) ?_; dsimp only)); refine Kd.R_lit (Kd.int .i64) _ 3 ?hg (N := 46) ?hd (xs := ([(rd_T58 l0_3 x37_2).f0, (rd_T58 l0_3 x37_2).f1] : List Int)) (inner := [.int .i64 ((rd_T58 l0_3 x37_2).f0), .int .i64 ((rd_T58 l0_3 x37_2).f1)]) (ok := fun _ => True) (okp := fun _ => True) ?hr ?hp (fun _ hk => hk) trivial (Below.refl _ _) (Nat.le_refl _) (by simp) ?_; (case hd => rfl); (case hg => rfl); (case hr => first | (go_simp; done) | (go_simp; rfl)); (case hp => exact (Reps.one (show Kd.M (Kd.int .i64) _ _ _ ((rd_T58 l0_3 x37_2).f0) [.int .i64 ((rd_T58 l0_3 x37_2).f0)] from rfl) (Reps.one (show Kd.M (Kd.int .i64) _ _ _ ((rd_T58 l0_3 x37_2).f1) [.int .i64 ((rd_T58 l0_3 x37_2).f1)] from rfl) (Reps.none _ _)))); intro v143 w96 ho97 hb hg_ hnew_; clear hg_ hnew_; (first | rw [← Ny142.out] at ho97 | (simp only [Int.reduceToNat] at ho97; rw [← Ny142.out] at ho97)); have n0_ := zqi (Kd.R_lower ho97 (below_size (zqn HB.out))); have n1_ := zqi (blk_below (g := gb127) (o := .cells #[.int .i64 a0_0, .int .i64 a0_1, .int .i64 a0_2, .slice (some ad140) l0_3.length c0_3] 39 (0, 0)) (by (repeat (with_reducible first | apply zqa | apply zqb | apply zqc | refine blk_far ?_ NB127_141.out _)); exact BK127.out) hb); have n2_ := zqi (blk_below (g := gb141) (o := .cells #[.int .i64 ((rd_T58 l0_3 x37_2).f0), .int .i64 ((rd_T58 l0_3 x37_2).f1), .int .i64 ((rd_T58 l0_3 x37_2).f2), .int .i64 ((rd_T58 l0_3 x37_2).f3), .int .i64 ((rd_T58 l0_3 x37_2).f4), .int .i64 ((rd_T58 l0_3 x37_2).f5)] 58 (0, 0)) (by exact zqC (blk_set (blk_set (blk_set (blk_set (blk_set (blk_set BK141.out 0 _) 1 _) 2 _) 3 _) 4 _) 5 _) (by simp only [List.setIfInBounds_toArray, List.set_cons_zero, List.set_cons_succ])) hb); have n3_ := zqi (below_step (zqn HB.out) hb); clear BK127; clear BK141; clear HB; have HO144 := n0_; have BK127 := n1_; have BK141 := n2_; have HB := n3_; clear n0_ n1_ n2_ n3_; clear hb ho97; obtain ⟨Ao98, co98, eo98⟩ := Kd.R_slice HO144.out; subst eo98) | (go_at_call 46; (with_reducible refine (inst_between.calls k2 0 10000 _ _ y142 false _ ?side1 ?side2 A56.out).mono ?_); (case side1 => repeat (first | exact (Kd.R_reads' HO144.out).2.2 | (with_reducible refine Kd.C_alloc ?_ _) | (with_reducible refine Kd.C_drewN ?_ _) | (with_reducible refine Kd.C_drew ?_))); (case side2 => exact (Kd.R_reads' HO144.out).2.1); rintro e w' ⟨rfl, ⟨nd, rfl⟩⟩; (try first | exact ⟨rfl, _, zqj⟩ | exact ⟨rfl, _, Eq.trans (zqj) (congrArg (World.drewN _) (Nat.add_assoc _ _ _))⟩)))
           repeat (go_quiet (first | ((with_reducible refine gate_dst (N := 46) rfl ?_); (try (refine gate_guard (by rfl) ?_; dsimp only)); refine Kd.R_lit (Kd.int .i64) _ 3 ?hg (N := 46) ?hd (xs := ([(rd_T58 l0_3 x37_2).f0, (rd_T58 l0_3 x37_2).f1] : List Int)) (inner := [.int .i64 ((rd_T58 l0_3 x37_2).f0), .int .i64 ((rd_T58 l0_3 x37_2).f1)]) (ok := fun _ => True) (okp := fun _ => True) ?hr ?hp (fun _ hk => hk) trivial (Below.refl _ _) (Nat.le_refl _) (by simp) ?_; (case hd => rfl); (case hg => rfl); (case hr => first | (go_simp; done) | (go_simp; rfl)); (case hp => exact (Reps.one (show Kd.M (Kd.int .i64) _ _ _ ((rd_T58 l0_3 x37_2).f0) [.int .i64 ((rd_T58 l0_3 x37_2).f0)] from rfl) (Reps.one (show Kd.M (Kd.int .i64) _ _ _ ((rd_T58 l0_3 x37_2).f1) [.int .i64 ((rd_T58 l0_3 x37_2).f1)] from rfl) (Reps.none _ _)))); intro v143 w96 ho97 hb hg_ hnew_; clear hg_ hnew_; (first | rw [← Ny142.out] at ho97 | (simp only [Int.reduceToNat] at ho97; rw [← Ny142.out] at ho97)); have n0_ := zqi (Kd.R_lower ho97 (below_size (zqn HB.out))); have n1_ := zqi (blk_below (g := gb127) (o := .cells #[.int .i64 a0_0, .int .i64 a0_1, .int .i64 a0_2, .slice (some ad140) l0_3.length c0_3] 39 (0, 0)) (by (repeat (with_reducible first | apply zqa | apply zqb | apply zqc | refine blk_far ?_ NB127_141.out _)); exact BK127.out) hb); have n2_ := zqi (blk_below (g := gb141) (o := .cells #[.int .i64 ((rd_T58 l0_3 x37_2).f0), .int .i64 ((rd_T58 l0_3 x37_2).f1), .int .i64 ((rd_T58 l0_3 x37_2).f2), .int .i64 ((rd_T58 l0_3 x37_2).f3), .int .i64 ((rd_T58 l0_3 x37_2).f4), .int .i64 ((rd_T58 l0_3 x37_2).f5)] 58 (0, 0)) (by exact zqC (blk_set (blk_set (blk_set (blk_set (blk_set (blk_set BK141.out 0 _) 1 _) 2 _) 3 _) 4 _) 5 _) (by simp only [List.setIfInBounds_toArray, List.set_cons_zero, List.set_cons_succ])) hb); have n3_ := zqi (below_step (zqn HB.out) hb); clear BK127; clear BK141; clear HB; have HO144 := n0_; have BK127 := n1_; have BK141 := n2_; have HB := n3_; clear n0_ n1_ n2_ n3_; clear hb ho97; obtain ⟨Ao98, co98, eo98⟩ := Kd.R_slice HO144.out; subst eo98) | (go_at_call 46; (with_reducible refine (inst_between.calls k2 0 10000 _ _ y142 false _ ?side1 ?side2 A56.out).mono ?_); (case side1 => repeat (first | exact (Kd.R_reads' HO144.out).2.2 | (with_reducible refine Kd.C_alloc ?_ _) | (with_reducible refine Kd.C_drewN ?_ _) | (with_reducible refine Kd.C_drew ?_))); (case side2 => exact (Kd.R_reads' HO144.out).2.1); rintro e w' ⟨rfl, ⟨nd, rfl⟩⟩; (try first | exact ⟨rfl, _, zqj⟩ | exact ⟨rfl, _, Eq.trans (zqj) (congrArg (World.drewN _) (Nat.add_assoc _ _ _))⟩))); try go_wp2_with (first | ((with_reducible refine gate_dst (N := 46) rfl ?_); (try (refine gate_guard (by rfl) ?_; dsimp only)); refine Kd.R_lit (Kd.int .i64) _ 3 ?hg (N := 46) ?hd (xs := ([(rd_T58 l0_3 x37_2).f0, (rd_T58 l0_3 x37_2).f1] : List Int)) (inner := [.int .i64 ((rd_T58 l0_3 x37_2).f0), .int .i64 ((rd_T58 l0_3 x37_2).f1)]) (ok := fun _ => True) (okp := fun _ => True) ?hr ?hp (fun _ hk => hk) trivial (Below.refl _ _) (Nat.le_refl _) (by simp) ?_; (case hd => rfl); (case hg => rfl); (case hr => first | (go_simp; done) | (go_simp; rfl)); (case hp => exact (Reps.one (show Kd.M (Kd.int .i64) _ _ _ ((rd_T58 l0_3 x37_2).f0) [.int .i64 ((rd_T58 l0_3 x37_2).f0)] from rfl) (Reps.one (show Kd.M (Kd.int .i64) _ _ _ ((rd_T58 l0_3 x37_2).f1) [.int .i64 ((rd_T58 l0_3 x37_2).f1)] from rfl) (Reps.none _ _)))); intro v143 w96 ho97 hb hg_ hnew_; clear hg_ hnew_; (first | rw [← Ny142.out] at ho97 | (simp only [Int.reduceToNat] at ho97; rw [← Ny142.out] at ho97)); have n0_ := zqi (Kd.R_lower ho97 (below_size (zqn HB.out))); have n1_ := zqi (blk_below (g := gb127) (o := .cells #[.int .i64 a0_0, .int .i64 a0_1, .int .i64 a0_2, .slice (some ad140) l0_3.length c0_3] 39 (0, 0)) (by (repeat (with_reducible first | apply zqa | apply zqb | apply zqc | refine blk_far ?_ NB127_141.out _)); exact BK127.out) hb); have n2_ := zqi (blk_below (g := gb141) (o := .cells #[.int .i64 ((rd_T58 l0_3 x37_2).f0), .int .i64 ((rd_T58 l0_3 x37_2).f1), .int .i64 ((rd_T58 l0_3 x37_2).f2), .int .i64 ((rd_T58 l0_3 x37_2).f3), .int .i64 ((rd_T58 l0_3 x37_2).f4), .int .i64 ((rd_T58 l0_3 x37_2).f5)] 58 (0, 0)) (by exact zqC (blk_set (blk_set (blk_set (blk_set (blk_set (blk_set BK141.out 0 _) 1 _) 2 _) 3 _) 4 _) 5 _) (by simp only [List.setIfInBounds_toArray, List.set_cons_zero, List.set_cons_succ])) hb); have n3_ := zqi (below_step (zqn HB.out) hb); clear BK127; clear BK141; clear HB; have HO144 := n0_; have BK127 := n1_; have BK141 := n2_; have HB := n3_; clear n0_ n1_ n2_ n3_; clear hb ho97; obtain ⟨Ao98, co98, eo98⟩ := Kd.R_slice HO144.out; subst eo98) | (go_at_call 46; (with_reducible refine (inst_between.calls k2 0 10000 _ _ y142 false _ ?side1 ?side2 A56.out).mono ?_); (case side1 => repeat (first | exact (Kd.R_reads' HO144.out).2.2 | (with_reducible refine Kd.C_alloc ?_ _) | (with_reducible refine Kd.C_drewN ?_ _) | (with_reducible refine Kd.C_drew ?_))); (case side2 => exact (Kd.R_reads' HO144.out).2.1); rintro e w' ⟨rfl, ⟨nd, rfl⟩⟩; (try first | exact ⟨rfl, _, zqj⟩ | exact ⟨rfl, _, Eq.trans (zqj) (congrArg (World.drewN _) (Nat.add_assoc _ _ _))⟩))))
           go_meet
           case rel => exact ⟨_, (true), (by first | rfl | (simp; done) | (simp [*]; done)), H', ⟨by have := HJ1.out; have := HK2.out; first | omega | exact Nat.le_refl _⟩, ⟨by (with_reducible repeat (first | apply zqa | apply zqb | apply zqc)); exact BK127.out⟩, ⟨by (with_reducible repeat (first | apply zqa | apply zqb | apply zqc)); exact BK141.out⟩, ⟨by repeat (first | (with_reducible first | exact HB.out | apply zqg | apply zqf | apply zqh | refine below_set ?_ GE127.out | refine below_set ?_ GE141.out) | exact HB.out)⟩⟩
         case rest =>
          clear HC52
          try clear p1
          try clear q1
          try clear hx1
          try clear p2
          try clear c3
          try clear c4
          try clear c5
          try clear c6
          try clear p6
          try clear c7
          try clear c8
          try clear c9
          try clear p14
          try clear q14
          try clear hx14
          try clear c34
          try clear c47
          try clear c49
          try clear c49b0
          try clear c50
          try clear c50b0
          try clear c51
          try clear c51b0
          try clear c54
          try clear c57
          try clear c59
          try clear c60
          try clear c60b0
          try clear c61
          try clear p64
          try clear c72
          try clear c85
          try clear c94
          try clear hcz10_0
          try clear hcz10_1
          try clear hcz10_2
          try clear hcz10_3
          try clear hcz14_0
          try clear hcz14_1
          try clear hcz14_2
          try clear hcz14_3
          try clear hcz18_0
          try clear hcz18_1
          try clear hcz18_2
          try clear hcz18_3
          try clear hcz22_0
          try clear hcz22_1
          try clear hcz22_2
          try clear hcz22_3
          try clear hcz23_0
          try clear hcz23_1
          try clear hcz23_2
          try clear hcz23_3
          try clear hcz27_0
          try clear hcz27_1
          try clear hcz27_2
          try clear hcz27_3
          try clear hcz31_0
          try clear hcz31_1
          try clear hcz31_2
          try clear hcz31_3
          try clear hcz35_0
          try clear hcz35_1
          try clear hcz35_2
          try clear hcz35_3
          try clear hcz39_0
          try clear hcz39_1
          try clear hcz39_2
          try clear hcz39_3
          try clear hcz43_0
          try clear hcz43_1
          try clear hcz43_2
          try clear hcz43_3
          try clear hcz48_0
          try clear hcz48_1
          try clear hcz48_2
          try clear hcz48_3
          try clear hcz55_0
          try clear hcz55_1
          try clear hcz55_2
          try clear hcz55_3
          try clear hcz55_4
          try clear hcz55_5
          try clear hcz62_0
          try clear hcz62_1
          try clear hcz62_2
          try clear hcz62_3
          try clear hcz62_4
          try clear hcz62_5
          try clear hcz66_0
          try clear hcz66_1
          try clear hcz66_2
          try clear hcz66_3
          try clear hcz66_4
          try clear hcz66_5
          try clear hcz70_0
          try clear hcz70_1
          try clear hcz70_2
          try clear hcz70_3
          try clear hcz70_4
          try clear hcz70_5
          try clear hcz73_0
          try clear hcz73_1
          try clear hcz73_2
          try clear hcz73_3
          try clear hcz73_4
          try clear hcz73_5
          try clear hcz77_0
          try clear hcz77_1
          try clear hcz77_2
          try clear hcz77_3
          try clear hcz77_4
          try clear hcz77_5
          try clear hcz81_0
          try clear hcz81_1
          try clear hcz81_2
          try clear hcz81_3
          try clear hcz81_4
          try clear hcz81_5
          try clear hcz86_0
          try clear hcz86_1
          try clear hcz86_2
          try clear hcz86_3
          try clear hcz86_4
          try clear hcz86_5
          try clear hcz90_0
          try clear hcz90_1
          try clear hcz90_2
          try clear hcz90_3
          try clear hcz90_4
          try clear hcz90_5
          try clear hcz95_0
          try clear hcz95_1
          try clear hcz95_2
          try clear hcz95_3
          try clear hcz95_4
          try clear hcz95_5
          try clear hfz10_0
          try clear hfz10_1
          try clear hfz10_2
          try clear hfz10_3
          try clear hfz14_0
          try clear hfz14_1
          try clear hfz14_2
          try clear hfz14_3
          try clear hfz18_0
          try clear hfz18_1
          try clear hfz18_2
          try clear hfz18_3
          try clear hfz22_0
          try clear hfz22_1
          try clear hfz22_2
          try clear hfz22_3
          try clear hfz23_0
          try clear hfz23_1
          try clear hfz23_2
          try clear hfz23_3
          try clear hfz27_0
          try clear hfz27_1
          try clear hfz27_2
          try clear hfz27_3
          try clear hfz31_0
          try clear hfz31_1
          try clear hfz31_2
          try clear hfz31_3
          try clear hfz35_0
          try clear hfz35_1
          try clear hfz35_2
          try clear hfz35_3
          try clear hfz39_0
          try clear hfz39_1
          try clear hfz39_2
          try clear hfz39_3
          try clear hfz43_0
          try clear hfz43_1
          try clear hfz43_2
          try clear hfz43_3
          try clear hfz48_0
          try clear hfz48_1
          try clear hfz48_2
          try clear hfz48_3
          try clear hfz55_0
          try clear hfz55_1
          try clear hfz55_2
          try clear hfz55_3
          try clear hfz55_4
          try clear hfz55_5
          try clear hfz62_0
          try clear hfz62_1
          try clear hfz62_2
          try clear hfz62_3
          try clear hfz62_4
          try clear hfz62_5
          try clear hfz66_0
          try clear hfz66_1
          try clear hfz66_2
          try clear hfz66_3
          try clear hfz66_4
          try clear hfz66_5
          try clear hfz70_0
          try clear hfz70_1
          try clear hfz70_2
          try clear hfz70_3
          try clear hfz70_4
          try clear hfz70_5
          try clear hfz73_0
          try clear hfz73_1
          try clear hfz73_2
          try clear hfz73_3
          try clear hfz73_4
          try clear hfz73_5
          try clear hfz77_0
          try clear hfz77_1
          try clear hfz77_2
          try clear hfz77_3
          try clear hfz77_4
          try clear hfz77_5
          try clear hfz81_0
          try clear hfz81_1
          try clear hfz81_2
          try clear hfz81_3
          try clear hfz81_4
          try clear hfz81_5
          try clear hfz86_0
          try clear hfz86_1
          try clear hfz86_2
          try clear hfz86_3
          try clear hfz86_4
          try clear hfz86_5
          try clear hfz90_0
          try clear hfz90_1
          try clear hfz90_2
          try clear hfz90_3
          try clear hfz90_4
          try clear hfz90_5
          try clear hfz95_0
          try clear hfz95_1
          try clear hfz95_2
          try clear hfz95_3
          try clear hfz95_4
          try clear hfz95_5
          try clear hx140_0
          try clear hx140_1
          try clear hx140_2
          try clear hx140_3
          try clear hx140_4
          try clear hx140_5
          try clear p140
          try clear p2
          try clear p6
          try clear q140
          obtain ⟨kq, x71_51, rfl, HA, HJ51, BK127, BK141, HB⟩ := hcut
          cases kq with
          | zero => exact absurd HA.out (by simp [inst_May.j2])
          | succ kj51 =>
           have H := HA.out
           clear HA
           simp only [inst_May.j2] at H
           by_cases c99 : x71_51 = true
           ·
            subst c99
            have H1 : (some false) = some r := by rw [if_pos rfl] at H; exact H
            clear H
            have H := H1
            clear H1
            obtain rfl := Option.some.inj H
            go_wp2
            repeat (go_quiet (fail); try go_wp2)
            go_ret
            exact ⟨by first | rfl | (simp [errW_none, errW_some] <;> rfl) | (simp [*, errW_none, errW_some] <;> rfl), by repeat (first | (with_reducible first | exact HB.out | apply zqg | apply zqf | apply zqh | refine below_set ?_ GE127.out | refine below_set ?_ GE141.out) | exact HB.out)⟩
           ·
            replace c99 := Bool.eq_false_iff.mpr c99
            subst c99
            have H1 : (if x37_2 = 0 then (if ((rd_T58 l0_3 x37_2).f2) = 0 then (if ((rd_T58 l0_3 x37_2).f5) = 0 then (inst_May.l0 kj51 l0_3 (l0_3.length : Int) (wrap64 (x37_2 + 1)) a0_0 a0_1 a0_2 l0_3) else (some false)) else (some false)) else (if x37_2 ≤ a0_0 then ((inst_between.f kj51 1 1000 (([((rd_T58 l0_3 x37_2).f2)] : List Int))).bind fun t157 => (if t157 = true then (inst_May.l0 kj51 l0_3 (l0_3.length : Int) (wrap64 (x37_2 + 1)) a0_0 a0_1 a0_2 l0_3) else (some false))) else (if 0 ≤ (wrap64 (x37_2 - a0_0)) then (if (wrap64 (x37_2 - a0_0)) < (l0_3.length : Int) then (if ((rd_T58 l0_3 x37_2).f2) = (wrap64 (-((rd_T58 l0_3 (wrap64 (x37_2 - a0_0))).f2))) then (inst_May.l0 kj51 l0_3 (l0_3.length : Int) (wrap64 (x37_2 + 1)) a0_0 a0_1 a0_2 l0_3) else (some false)) else (none)) else (none)))) = some r := by rw [if_neg (show ¬ (false = true) by decide)] at H; exact H
            clear H
            have H := H1
            clear H1
            by_cases c100 : x37_2 = 0
            ·
             rw [if_pos c100] at H
             have c100b0 : (x37_2 == 0) = true := beq_iff_eq.mpr c100
             have c100b1 : (x37_2 != 0) = false := bne_eq_false_iff_eq.mpr c100
             clear c100
             by_cases c101 : ((rd_T58 l0_3 x37_2).f2) = 0
             ·
              rw [if_pos c101] at H
              have c101b0 : (((rd_T58 l0_3 x37_2).f2) == 0) = true := beq_iff_eq.mpr c101
              have c101b1 : (((rd_T58 l0_3 x37_2).f2) != 0) = false := bne_eq_false_iff_eq.mpr c101
              clear c101
              by_cases c102 : ((rd_T58 l0_3 x37_2).f5) = 0
              ·
               rw [if_pos c102] at H
               have c102b0 : (((rd_T58 l0_3 x37_2).f5) == 0) = true := beq_iff_eq.mpr c102
               have c102b1 : (((rd_T58 l0_3 x37_2).f5) != 0) = false := bne_eq_false_iff_eq.mpr c102
               clear c102
               have H' := zqi H
               clear H
               have hnb103 := NB141_127.out
               have hnc103 := NB127_141.out
               obtain ⟨hcz104_0, hcz104_1, hcz104_2, hcz104_3, hcz104_4, hcz104_5, hfz104_0, hfz104_1, hfz104_2, hfz104_3, hfz104_4, hfz104_5⟩ := zqz6 BK141.out
               go_wp2
               repeat (go_quiet (fail); try go_wp2)
               go_roundg kj51
               case measure => have := HJ1.out; have := HK2.out; have := HJ51.out; omega
               case rel => exact ⟨(wrap64 (x37_2 + 1)), (by first | rfl | (simp; done) | (simp [*]; done)), H', ⟨by have := HJ1.out; have := HK2.out; have := HJ51.out; omega⟩, ⟨by (with_reducible repeat (first | apply zqa | apply zqb | apply zqc)); exact BK127.out⟩, ⟨by repeat (first | (with_reducible first | exact HB.out | apply zqg | apply zqf | apply zqh | refine below_set ?_ GE127.out | refine below_set ?_ GE141.out) | exact HB.out)⟩⟩
              ·
               rw [if_neg c102] at H
               have c102b0 : (((rd_T58 l0_3 x37_2).f5) == 0) = false := beq_eq_false_iff_ne.mpr c102
               have c102b1 : (((rd_T58 l0_3 x37_2).f5) != 0) = true := bne_iff_ne.mpr c102
               obtain rfl := Option.some.inj H
               have hnb105 := NB141_127.out
               have hnc105 := NB127_141.out
               obtain ⟨hcz106_0, hcz106_1, hcz106_2, hcz106_3, hcz106_4, hcz106_5, hfz106_0, hfz106_1, hfz106_2, hfz106_3, hfz106_4, hfz106_5⟩ := zqz6 BK141.out
               go_wp2
               repeat (go_quiet (fail); try go_wp2)
               go_ret
               exact ⟨by first | rfl | (simp [errW_none, errW_some] <;> rfl) | (simp [*, errW_none, errW_some] <;> rfl), by repeat (first | (with_reducible first | exact HB.out | apply zqg | apply zqf | apply zqh | refine below_set ?_ GE127.out | refine below_set ?_ GE141.out) | exact HB.out)⟩
             ·
              rw [if_neg c101] at H
              have c101b0 : (((rd_T58 l0_3 x37_2).f2) == 0) = false := beq_eq_false_iff_ne.mpr c101
              have c101b1 : (((rd_T58 l0_3 x37_2).f2) != 0) = true := bne_iff_ne.mpr c101
              obtain rfl := Option.some.inj H
              have hnb107 := NB141_127.out
              have hnc107 := NB127_141.out
              obtain ⟨hcz108_0, hcz108_1, hcz108_2, hcz108_3, hcz108_4, hcz108_5, hfz108_0, hfz108_1, hfz108_2, hfz108_3, hfz108_4, hfz108_5⟩ := zqz6 BK141.out
              go_wp2
              repeat (go_quiet (fail); try go_wp2)
              go_ret
              exact ⟨by first | rfl | (simp [errW_none, errW_some] <;> rfl) | (simp [*, errW_none, errW_some] <;> rfl), by repeat (first | (with_reducible first | exact HB.out | apply zqg | apply zqf | apply zqh | refine below_set ?_ GE127.out | refine below_set ?_ GE141.out) | exact HB.out)⟩
            ·
             rw [if_neg c100] at H
             have c100b0 : (x37_2 == 0) = false := beq_eq_false_iff_ne.mpr c100
             have c100b1 : (x37_2 != 0) = true := bne_iff_ne.mpr c100
             by_cases c109 : x37_2 ≤ a0_0
             ·
              rw [if_pos c109] at H
              have c109b0 : decide (x37_2 ≤ a0_0) = true := decide_eq_true c109
              clear c109
              obtain ⟨y154, hy154⟩ : ∃ y_ : List Int, y_ = (([((rd_T58 l0_3 x37_2).f2)] : List Int)) := ⟨_, rfl⟩
              replace H : ((inst_between.f kj51 1 1000 y154).bind fun t157 => (if t157 = true then (inst_May.l0 kj51 l0_3 (l0_3.length : Int) (wrap64 (x37_2 + 1)) a0_0 a0_1 a0_2 l0_3) else (some false))) = some r := by first | (rw [hy154]; with_reducible exact H) | (have H2_ := (Option.bind_some _ _).symm.trans H; rw [hy154]; with_reducible exact H2_) | (have H2_ := (Option.bind_some _ _).symm.trans H; with_reducible exact H2_) | with_reducible exact H | (rw [hy154]; exact H) | exact H
              have Ny154 := zqi hy154
              clear hy154
              replace H := Option.bind_eq_some_iff.mp H
              obtain ⟨t157, A1100, H⟩ := H
              replace H : (if t157 = true then (inst_May.l0 kj51 l0_3 (l0_3.length : Int) (wrap64 (x37_2 + 1)) a0_0 a0_1 a0_2 l0_3) else (some false)) = some r := H
              have A110 := zqi A1100
              clear A1100
              by_cases c111 : t157 = true
              ·
               subst c111
               have H1 : (inst_May.l0 kj51 l0_3 (l0_3.length : Int) (wrap64 (x37_2 + 1)) a0_0 a0_1 a0_2 l0_3) = some r := by rw [if_pos rfl] at H; exact H
               clear H
               have H := H1
               clear H1
               have H' := zqi H
               clear H
               have hnb112 := NB127_141.out
               have hnc112 := NB141_127.out
               obtain ⟨hcz113_0, hcz113_1, hcz113_2, hcz113_3, hfz113_0, hfz113_1, hfz113_2, hfz113_3⟩ := zqz4 BK127.out
               obtain ⟨hcz114_0, hcz114_1, hcz114_2, hcz114_3, hcz114_4, hcz114_5, hfz114_0, hfz114_1, hfz114_2, hfz114_3, hfz114_4, hfz114_5⟩ := zqz6 BK141.out
               go_wp2_with (first | ((with_reducible refine gate_dst (N := 90) rfl ?_); (try (refine gate_guard (by rfl) ?_; dsimp only)); refine Kd.R_lit (Kd.int .i64) _ 3 ?hg (N := 90) ?hd (xs := ([((rd_T58 l0_3 x37_2).f2)] : List Int)) (inner := [.int .i64 ((rd_T58 l0_3 x37_2).f2)]) (ok := fun _ => True) (okp := fun _ => True) ?hr ?hp (fun _ hk => hk) trivial (Below.refl _ _) (Nat.le_refl _) (by simp) ?_; (case hd => rfl); (case hg => rfl); (case hr => first | (go_simp; done) | (go_simp; rfl)); (case hp => exact (Reps.one (show Kd.M (Kd.int .i64) _ _ _ ((rd_T58 l0_3 x37_2).f2) [.int .i64 ((rd_T58 l0_3 x37_2).f2)] from rfl) (Reps.none _ _))); intro v155 w115 ho116 hb hg_ hnew_; clear hg_ hnew_; (first | rw [← Ny154.out] at ho116 | (simp only [Int.reduceToNat] at ho116; rw [← Ny154.out] at ho116)); have n0_ := zqi (Kd.R_lower ho116 (below_size (zqn HB.out))); have n1_ := zqi (zqy BK127.out hb); have n2_ := zqi (zqy BK141.out hb); have n3_ := zqi (below_step (zqn HB.out) hb); clear BK127; clear BK141; clear HB; have HO156 := n0_; have BK127 := n1_; have BK141 := n2_; have HB := n3_; clear n0_ n1_ n2_ n3_; clear hb ho116; obtain ⟨Ao117, co117, eo117⟩ := Kd.R_slice HO156.out; subst eo117) | (go_at_call 46; (with_reducible refine (inst_between.calls kj51 1 1000 _ _ y154 true _ ?side1 ?side2 A110.out).mono ?_); (case side1 => repeat (first | exact (Kd.R_reads' HO156.out).2.2 | (with_reducible refine Kd.C_alloc ?_ _) | (with_reducible refine Kd.C_drewN ?_ _) | (with_reducible refine Kd.C_drew ?_))); (case side2 => exact (Kd.R_reads' HO156.out).2.1); rintro e w' ⟨rfl, ⟨nd, rfl⟩⟩; (try first | exact ⟨rfl, _, zqj⟩ | exact ⟨rfl, _, Eq.trans (zqj) (congrArg (World.drewN _) (Nat.add_assoc _ _ _))⟩)))
               repeat (go_quiet (first | ((with_reducible refine gate_dst (N := 90) rfl ?_); (try (refine gate_guard (by rfl) ?_; dsimp only)); refine Kd.R_lit (Kd.int .i64) _ 3 ?hg (N := 90) ?hd (xs := ([((rd_T58 l0_3 x37_2).f2)] : List Int)) (inner := [.int .i64 ((rd_T58 l0_3 x37_2).f2)]) (ok := fun _ => True) (okp := fun _ => True) ?hr ?hp (fun _ hk => hk) trivial (Below.refl _ _) (Nat.le_refl _) (by simp) ?_; (case hd => rfl); (case hg => rfl); (case hr => first | (go_simp; done) | (go_simp; rfl)); (case hp => exact (Reps.one (show Kd.M (Kd.int .i64) _ _ _ ((rd_T58 l0_3 x37_2).f2) [.int .i64 ((rd_T58 l0_3 x37_2).f2)] from rfl) (Reps.none _ _))); intro v155 w115 ho116 hb hg_ hnew_; clear hg_ hnew_; (first | rw [← Ny154.out] at ho116 | (simp only [Int.reduceToNat] at ho116; rw [← Ny154.out] at ho116)); have n0_ := zqi (Kd.R_lower ho116 (below_size (zqn HB.out))); have n1_ := zqi (zqy BK127.out hb); have n2_ := zqi (zqy BK141.out hb); have n3_ := zqi (below_step (zqn HB.out) hb); clear BK127; clear BK141; clear HB; have HO156 := n0_; have BK127 := n1_; have BK141 := n2_; have HB := n3_; clear n0_ n1_ n2_ n3_; clear hb ho116; obtain ⟨Ao117, co117, eo117⟩ := Kd.R_slice HO156.out; subst eo117) | (go_at_call 46; (with_reducible refine (inst_between.calls kj51 1 1000 _ _ y154 true _ ?side1 ?side2 A110.out).mono ?_); (case side1 => repeat (first | exact (Kd.R_reads' HO156.out).2.2 | (with_reducible refine Kd.C_alloc ?_ _) | (with_reducible refine Kd.C_drewN ?_ _) | (with_reducible refine Kd.C_drew ?_))); (case side2 => exact (Kd.R_reads' HO156.out).2.1); rintro e w' ⟨rfl, ⟨nd, rfl⟩⟩; (try first | exact ⟨rfl, _, zqj⟩ | exact ⟨rfl, _, Eq.trans (zqj) (congrArg (World.drewN _) (Nat.add_assoc _ _ _))⟩))); try go_wp2_with (first | ((with_reducible refine gate_dst (N := 90) rfl ?_); (try (refine gate_guard (by rfl) ?_; dsimp only)); refine Kd.R_lit (Kd.int .i64) _ 3 ?hg (N := 90) ?hd (xs := ([((rd_T58 l0_3 x37_2).f2)] : List Int)) (inner := [.int .i64 ((rd_T58 l0_3 x37_2).f2)]) (ok := fun _ => True) (okp := fun _ => True) ?hr ?hp (fun _ hk => hk) trivial (Below.refl _ _) (Nat.le_refl _) (by simp) ?_; (case hd => rfl); (case hg => rfl); (case hr => first | (go_simp; done) | (go_simp; rfl)); (case hp => exact (Reps.one (show Kd.M (Kd.int .i64) _ _ _ ((rd_T58 l0_3 x37_2).f2) [.int .i64 ((rd_T58 l0_3 x37_2).f2)] from rfl) (Reps.none _ _))); intro v155 w115 ho116 hb hg_ hnew_; clear hg_ hnew_; (first | rw [← Ny154.out] at ho116 | (simp only [Int.reduceToNat] at ho116; rw [← Ny154.out] at ho116)); have n0_ := zqi (Kd.R_lower ho116 (below_size (zqn HB.out))); have n1_ := zqi (zqy BK127.out hb); have n2_ := zqi (zqy BK141.out hb); have n3_ := zqi (below_step (zqn HB.out) hb); clear BK127; clear BK141; clear HB; have HO156 := n0_; have BK127 := n1_; have BK141 := n2_; have HB := n3_; clear n0_ n1_ n2_ n3_; clear hb ho116; obtain ⟨Ao117, co117, eo117⟩ := Kd.R_slice HO156.out; subst eo117) | (go_at_call 46; (with_reducible refine (inst_between.calls kj51 1 1000 _ _ y154 true _ ?side1 ?side2 A110.out).mono ?_); (case side1 => repeat (first | exact (Kd.R_reads' HO156.out).2.2 | (with_reducible refine Kd.C_alloc ?_ _) | (with_reducible refine Kd.C_drewN ?_ _) | (with_reducible refine Kd.C_drew ?_))); (case side2 => exact (Kd.R_reads' HO156.out).2.1); rintro e w' ⟨rfl, ⟨nd, rfl⟩⟩; (try first | exact ⟨rfl, _, zqj⟩ | exact ⟨rfl, _, Eq.trans (zqj) (congrArg (World.drewN _) (Nat.add_assoc _ _ _))⟩))))
               go_roundg kj51
               case measure => have := HJ1.out; have := HK2.out; have := HJ51.out; omega
               case rel => exact ⟨(wrap64 (x37_2 + 1)), (by first | rfl | (simp; done) | (simp [*]; done)), H', ⟨by have := HJ1.out; have := HK2.out; have := HJ51.out; omega⟩, ⟨by (with_reducible repeat (first | apply zqa | apply zqb | apply zqc)); exact BK127.out⟩, ⟨by repeat (first | (with_reducible first | exact HB.out | apply zqg | apply zqf | apply zqh | refine below_set ?_ GE127.out | refine below_set ?_ GE141.out) | exact HB.out)⟩⟩
              ·
               replace c111 := Bool.eq_false_iff.mpr c111
               subst c111
               have H1 : (some false) = some r := by rw [if_neg (show ¬ (false = true) by decide)] at H; exact H
               clear H
               have H := H1
               clear H1
               obtain rfl := Option.some.inj H
               have hnb118 := NB127_141.out
               have hnc118 := NB141_127.out
               obtain ⟨hcz119_0, hcz119_1, hcz119_2, hcz119_3, hfz119_0, hfz119_1, hfz119_2, hfz119_3⟩ := zqz4 BK127.out
               obtain ⟨hcz120_0, hcz120_1, hcz120_2, hcz120_3, hcz120_4, hcz120_5, hfz120_0, hfz120_1, hfz120_2, hfz120_3, hfz120_4, hfz120_5⟩ := zqz6 BK141.out
               go_wp2_with (first | ((with_reducible refine gate_dst (N := 90) rfl ?_); (try (refine gate_guard (by rfl) ?_; dsimp only)); refine Kd.R_lit (Kd.int .i64) _ 3 ?hg (N := 90) ?hd (xs := ([((rd_T58 l0_3 x37_2).f2)] : List Int)) (inner := [.int .i64 ((rd_T58 l0_3 x37_2).f2)]) (ok := fun _ => True) (okp := fun _ => True) ?hr ?hp (fun _ hk => hk) trivial (Below.refl _ _) (Nat.le_refl _) (by simp) ?_; (case hd => rfl); (case hg => rfl); (case hr => first | (go_simp; done) | (go_simp; rfl)); (case hp => exact (Reps.one (show Kd.M (Kd.int .i64) _ _ _ ((rd_T58 l0_3 x37_2).f2) [.int .i64 ((rd_T58 l0_3 x37_2).f2)] from rfl) (Reps.none _ _))); intro v155 w121 ho122 hb hg_ hnew_; clear hg_ hnew_; (first | rw [← Ny154.out] at ho122 | (simp only [Int.reduceToNat] at ho122; rw [← Ny154.out] at ho122)); have n0_ := zqi (Kd.R_lower ho122 (below_size (zqn HB.out))); have n1_ := zqi (zqy BK127.out hb); have n2_ := zqi (zqy BK141.out hb); have n3_ := zqi (below_step (zqn HB.out) hb); clear BK127; clear BK141; clear HB; have HO156 := n0_; have BK127 := n1_; have BK141 := n2_; have HB := n3_; clear n0_ n1_ n2_ n3_; clear hb ho122; obtain ⟨Ao123, co123, eo123⟩ := Kd.R_slice HO156.out; subst eo123) | (go_at_call 46; (with_reducible refine (inst_between.calls kj51 1 1000 _ _ y154 false _ ?side1 ?side2 A110.out).mono ?_); (case side1 => repeat (first | exact (Kd.R_reads' HO156.out).2.2 | (with_reducible refine Kd.C_alloc ?_ _) | (with_reducible refine Kd.C_drewN ?_ _) | (with_reducible refine Kd.C_drew ?_))); (case side2 => exact (Kd.R_reads' HO156.out).2.1); rintro e w' ⟨rfl, ⟨nd, rfl⟩⟩; (try first | exact ⟨rfl, _, zqj⟩ | exact ⟨rfl, _, Eq.trans (zqj) (congrArg (World.drewN _) (Nat.add_assoc _ _ _))⟩)))
               repeat (go_quiet (first | ((with_reducible refine gate_dst (N := 90) rfl ?_); (try (refine gate_guard (by rfl) ?_; dsimp only)); refine Kd.R_lit (Kd.int .i64) _ 3 ?hg (N := 90) ?hd (xs := ([((rd_T58 l0_3 x37_2).f2)] : List Int)) (inner := [.int .i64 ((rd_T58 l0_3 x37_2).f2)]) (ok := fun _ => True) (okp := fun _ => True) ?hr ?hp (fun _ hk => hk) trivial (Below.refl _ _) (Nat.le_refl _) (by simp) ?_; (case hd => rfl); (case hg => rfl); (case hr => first | (go_simp; done) | (go_simp; rfl)); (case hp => exact (Reps.one (show Kd.M (Kd.int .i64) _ _ _ ((rd_T58 l0_3 x37_2).f2) [.int .i64 ((rd_T58 l0_3 x37_2).f2)] from rfl) (Reps.none _ _))); intro v155 w121 ho122 hb hg_ hnew_; clear hg_ hnew_; (first | rw [← Ny154.out] at ho122 | (simp only [Int.reduceToNat] at ho122; rw [← Ny154.out] at ho122)); have n0_ := zqi (Kd.R_lower ho122 (below_size (zqn HB.out))); have n1_ := zqi (zqy BK127.out hb); have n2_ := zqi (zqy BK141.out hb); have n3_ := zqi (below_step (zqn HB.out) hb); clear BK127; clear BK141; clear HB; have HO156 := n0_; have BK127 := n1_; have BK141 := n2_; have HB := n3_; clear n0_ n1_ n2_ n3_; clear hb ho122; obtain ⟨Ao123, co123, eo123⟩ := Kd.R_slice HO156.out; subst eo123) | (go_at_call 46; (with_reducible refine (inst_between.calls kj51 1 1000 _ _ y154 false _ ?side1 ?side2 A110.out).mono ?_); (case side1 => repeat (first | exact (Kd.R_reads' HO156.out).2.2 | (with_reducible refine Kd.C_alloc ?_ _) | (with_reducible refine Kd.C_drewN ?_ _) | (with_reducible refine Kd.C_drew ?_))); (case side2 => exact (Kd.R_reads' HO156.out).2.1); rintro e w' ⟨rfl, ⟨nd, rfl⟩⟩; (try first | exact ⟨rfl, _, zqj⟩ | exact ⟨rfl, _, Eq.trans (zqj) (congrArg (World.drewN _) (Nat.add_assoc _ _ _))⟩))); try go_wp2_with (first | ((with_reducible refine gate_dst (N := 90) rfl ?_); (try (refine gate_guard (by rfl) ?_; dsimp only)); refine Kd.R_lit (Kd.int .i64) _ 3 ?hg (N := 90) ?hd (xs := ([((rd_T58 l0_3 x37_2).f2)] : List Int)) (inner := [.int .i64 ((rd_T58 l0_3 x37_2).f2)]) (ok := fun _ => True) (okp := fun _ => True) ?hr ?hp (fun _ hk => hk) trivial (Below.refl _ _) (Nat.le_refl _) (by simp) ?_; (case hd => rfl); (case hg => rfl); (case hr => first | (go_simp; done) | (go_simp; rfl)); (case hp => exact (Reps.one (show Kd.M (Kd.int .i64) _ _ _ ((rd_T58 l0_3 x37_2).f2) [.int .i64 ((rd_T58 l0_3 x37_2).f2)] from rfl) (Reps.none _ _))); intro v155 w121 ho122 hb hg_ hnew_; clear hg_ hnew_; (first | rw [← Ny154.out] at ho122 | (simp only [Int.reduceToNat] at ho122; rw [← Ny154.out] at ho122)); have n0_ := zqi (Kd.R_lower ho122 (below_size (zqn HB.out))); have n1_ := zqi (zqy BK127.out hb); have n2_ := zqi (zqy BK141.out hb); have n3_ := zqi (below_step (zqn HB.out) hb); clear BK127; clear BK141; clear HB; have HO156 := n0_; have BK127 := n1_; have BK141 := n2_; have HB := n3_; clear n0_ n1_ n2_ n3_; clear hb ho122; obtain ⟨Ao123, co123, eo123⟩ := Kd.R_slice HO156.out; subst eo123) | (go_at_call 46; (with_reducible refine (inst_between.calls kj51 1 1000 _ _ y154 false _ ?side1 ?side2 A110.out).mono ?_); (case side1 => repeat (first | exact (Kd.R_reads' HO156.out).2.2 | (with_reducible refine Kd.C_alloc ?_ _) | (with_reducible refine Kd.C_drewN ?_ _) | (with_reducible refine Kd.C_drew ?_))); (case side2 => exact (Kd.R_reads' HO156.out).2.1); rintro e w' ⟨rfl, ⟨nd, rfl⟩⟩; (try first | exact ⟨rfl, _, zqj⟩ | exact ⟨rfl, _, Eq.trans (zqj) (congrArg (World.drewN _) (Nat.add_assoc _ _ _))⟩))))
               go_ret
               exact ⟨by first | rfl | (simp [errW_none, errW_some] <;> rfl) | (simp [*, errW_none, errW_some] <;> rfl), by repeat (first | (with_reducible first | exact HB.out | apply zqg | apply zqf | apply zqh | refine below_set ?_ GE127.out | refine below_set ?_ GE141.out) | exact HB.out)⟩
             ·
              rw [if_neg c109] at H
              have c109b0 : decide (x37_2 ≤ a0_0) = false := decide_eq_false c109
              clear c109
              obtain ⟨ji124, hji124⟩ : ∃ j_ : Int, (wrap64 (x37_2 - a0_0)) = j_ := ⟨_, rfl⟩
              replace H : (if 0 ≤ (ji124) then (if (ji124) < (l0_3.length : Int) then (if ((rd_T58 l0_3 x37_2).f2) = (wrap64 (-((rd_T58 l0_3 (ji124)).f2))) then (inst_May.l0 kj51 l0_3 (l0_3.length : Int) (wrap64 (x37_2 + 1)) a0_0 a0_1 a0_2 l0_3) else (some false)) else (none)) else (none)) = some r := by first | (rw [hji124] at H; exact H) | (simp only [hji124] at H ⊢; exact H)
              have hji124w : (IntKind.i64.wrap (x37_2 - a0_0)) = ji124 := (i64_w _).trans hji124
              by_cases c125 : 0 ≤ (ji124)
              ·
               rw [if_pos c125] at H
               have c125b0 : decide (0 ≤ (ji124)) = true := decide_eq_true c125
               clear c125
               by_cases c126 : (ji124) < (l0_3.length : Int)
               ·
                rw [if_pos c126] at H
                have c126b0 : decide ((ji124) < (l0_3.length : Int)) = true := decide_eq_true c126
                clear c126
                by_cases c127 : ((rd_T58 l0_3 x37_2).f2) = (wrap64 (-((rd_T58 l0_3 (ji124)).f2)))
                ·
                 rw [if_pos c127] at H
                 have c127b0 : (((rd_T58 l0_3 x37_2).f2) == (wrap64 (-((rd_T58 l0_3 (ji124)).f2)))) = true := beq_iff_eq.mpr c127
                 have c127b1 : (((rd_T58 l0_3 x37_2).f2) != (wrap64 (-((rd_T58 l0_3 (ji124)).f2)))) = false := bne_eq_false_iff_eq.mpr c127
                 clear c127
                 have H' := zqi H
                 clear H
                 have hnb128 := NB127_141.out
                 have hnc128 := NB141_127.out
                 obtain ⟨hcz129_0, hcz129_1, hcz129_2, hcz129_3, hfz129_0, hfz129_1, hfz129_2, hfz129_3⟩ := zqz4 BK127.out
                 obtain ⟨hcz130_0, hcz130_1, hcz130_2, hcz130_3, hcz130_4, hcz130_5, hfz130_0, hfz130_1, hfz130_2, hfz130_3, hfz130_4, hfz130_5⟩ := zqz6 BK141.out
                 have p158 : 0 ≤ ((ji124) : Int) := of_decide_eq_true (by first | (with_reducible assumption) | assumption)
                 have q158 : (ji124) < (l0_3.length : Int) := of_decide_eq_true (by first | (with_reducible assumption) | assumption)
                 obtain ⟨ad158, e158, hx158_0, hx158_1, hx158_2, hx158_3, hx158_4, hx158_5⟩ := at_T58 HR0_3.out (ji124) p158 q158
                 obtain rfl : ad140 = ad158 := (by injection e158)
                 replace hx158_0 := (HB.out.cell (World.block_lt_of_cell? w _ hx158_0)).trans hx158_0
                 replace hx158_1 := (HB.out.cell (World.block_lt_of_cell? w _ hx158_1)).trans hx158_1
                 replace hx158_2 := (HB.out.cell (World.block_lt_of_cell? w _ hx158_2)).trans hx158_2
                 replace hx158_3 := (HB.out.cell (World.block_lt_of_cell? w _ hx158_3)).trans hx158_3
                 replace hx158_4 := (HB.out.cell (World.block_lt_of_cell? w _ hx158_4)).trans hx158_4
                 replace hx158_5 := (HB.out.cell (World.block_lt_of_cell? w _ hx158_5)).trans hx158_5
                 replace p158 := eq_true p158
                 replace q158 := eq_true q158
                 go_wp2
                 repeat (go_quiet (fail); try go_wp2)
                 go_roundg kj51
                 case measure => have := HJ1.out; have := HK2.out; have := HJ51.out; omega
                 case rel => exact ⟨(wrap64 (x37_2 + 1)), (by first | rfl | (simp; done) | (simp [*]; done)), H', ⟨by have := HJ1.out; have := HK2.out; have := HJ51.out; omega⟩, ⟨by (with_reducible repeat (first | apply zqa | apply zqb | apply zqc)); exact BK127.out⟩, ⟨by repeat (first | (with_reducible first | exact HB.out | apply zqg | apply zqf | apply zqh | refine below_set ?_ GE127.out | refine below_set ?_ GE141.out) | exact HB.out)⟩⟩
                ·
                 rw [if_neg c127] at H
                 have c127b0 : (((rd_T58 l0_3 x37_2).f2) == (wrap64 (-((rd_T58 l0_3 (ji124)).f2)))) = false := beq_eq_false_iff_ne.mpr c127
                 have c127b1 : (((rd_T58 l0_3 x37_2).f2) != (wrap64 (-((rd_T58 l0_3 (ji124)).f2)))) = true := bne_iff_ne.mpr c127
                 obtain rfl := Option.some.inj H
                 have hnb131 := NB127_141.out
                 have hnc131 := NB141_127.out
                 obtain ⟨hcz132_0, hcz132_1, hcz132_2, hcz132_3, hfz132_0, hfz132_1, hfz132_2, hfz132_3⟩ := zqz4 BK127.out
                 obtain ⟨hcz133_0, hcz133_1, hcz133_2, hcz133_3, hcz133_4, hcz133_5, hfz133_0, hfz133_1, hfz133_2, hfz133_3, hfz133_4, hfz133_5⟩ := zqz6 BK141.out
                 have p158 : 0 ≤ ((ji124) : Int) := of_decide_eq_true (by first | (with_reducible assumption) | assumption)
                 have q158 : (ji124) < (l0_3.length : Int) := of_decide_eq_true (by first | (with_reducible assumption) | assumption)
                 obtain ⟨ad158, e158, hx158_0, hx158_1, hx158_2, hx158_3, hx158_4, hx158_5⟩ := at_T58 HR0_3.out (ji124) p158 q158
                 obtain rfl : ad140 = ad158 := (by injection e158)
                 replace hx158_0 := (HB.out.cell (World.block_lt_of_cell? w _ hx158_0)).trans hx158_0
                 replace hx158_1 := (HB.out.cell (World.block_lt_of_cell? w _ hx158_1)).trans hx158_1
                 replace hx158_2 := (HB.out.cell (World.block_lt_of_cell? w _ hx158_2)).trans hx158_2
                 replace hx158_3 := (HB.out.cell (World.block_lt_of_cell? w _ hx158_3)).trans hx158_3
                 replace hx158_4 := (HB.out.cell (World.block_lt_of_cell? w _ hx158_4)).trans hx158_4
                 replace hx158_5 := (HB.out.cell (World.block_lt_of_cell? w _ hx158_5)).trans hx158_5
                 replace p158 := eq_true p158
                 replace q158 := eq_true q158
                 go_wp2
                 repeat (go_quiet (fail); try go_wp2)
                 go_ret
                 exact ⟨by first | rfl | (simp [errW_none, errW_some] <;> rfl) | (simp only [← hji124]; first | rfl | (simp [errW_none, errW_some] <;> rfl)) | (simp [*, errW_none, errW_some] <;> rfl), by repeat (first | (with_reducible first | exact HB.out | apply zqg | apply zqf | apply zqh | refine below_set ?_ GE127.out | refine below_set ?_ GE141.out) | exact HB.out)⟩
               ·
                rw [if_neg c126] at H
                exact absurd H (by simp)
              ·
               rw [if_neg c125] at H
               exact absurd H (by simp)
        ·
         rw [if_neg c51] at H
         exact absurd H (by simp)
       ·
        rw [if_neg c50] at H
        exact absurd H (by simp)
      ·
       rw [if_neg c49] at H
       have c49b0 : decide (x37_2 < (l0_3.length : Int)) = false := decide_eq_false c49
       clear c49
       obtain rfl := Option.some.inj H
       go_wp2
       repeat (go_quiet (fail); try go_wp2)
       go_ret
       exact ⟨by first | rfl | (simp [errW_none, errW_some] <;> rfl) | (simp [*, errW_none, errW_some] <;> rfl), by repeat (first | (with_reducible first | exact HB.out | apply zqg | apply zqf | apply zqh | refine below_set ?_ GE127.out) | exact HB.out)⟩

end Go.Proofs.YtdkhajgfifaibaaDoor.PA
