-- Printed for this claim by wip/tools/xprint.py over the kit's print; the contracts marked BY HAND are this session's own.
import Derived.Test.YtjiammiihamkiaaPCx0
import Derived.Test.YtjiammiihamkiaaPCx1
import Derived.Test.YtjiammiihamkiaaPCx3
import Derived.Test.YtjiammiihamkiaaPCx5
import Derived.Test.YtjiammiihamkiaaPCx8
import Derived.Test.YtjiammiihamkiaaPCx9
import Derived.Test.YtjiammiihamkiaaPCx11
namespace Go.Proofs.Ytjiammiihamkiaa.PC
open Go.RowKit Go.Proofs.YtjiammiihamkiaaW.PrintWords Go.Proofs.YtjiammiihamkiaaW.PrintLast Go.Proofs.YtjiammiihamkiaaW.PrintMore
attribute [local go_sem] max2_int min2_int max_two min_two max_three min_three max_four min_four   -- for this text's walks alone
set_option linter.unusedVariables false
set_option linter.unusedSimpArgs false

attribute [local go_sem high] eqA40
/-! ### state_End: function 23 -/
def state_End.j0 : Nat → Bool → Int → Int → Int → List (S23) → Int → Int → Int → Int → Int → Int → Int → Int → Int → Int → Int → List (S23) → Int → Int → Int → Int → Int → Int → Int → Int → Option (Int × Bool)
  | 0, _, _, _, _, _, _, _, _, _, _, _, _, _, _, _, _, _, _, _, _, _, _, _, _, _ => none
  | k + 1, x13, x232000, x232001, x232002, x232003, x233000, x233001, x233002, x233003, x233004, x233005, x233006, x233007, x235000, x235001, x235002, x235003, x235004, x235005, x235006, x235007, x235008, x235009, x235010, x235011 => if x13 = true then (some (0, true)) else ((state_here_may.f x235000 x235001 x235002 x235003 x235004 x235005 x235006 x235007 x235008 x235009 x235010 x235011).bind fun t243 => (if t243 = true then (if x233000 = 0 then (some (0, false)) else (if x233007 = 0 then ((state_here_all.f k x235000 x235001 x235002 x235003 x235004 x235005 x235006 x235007 x235008 x235009 x235010 x235011 x233006).bind fun t244 => (if t244 = true then ((state_here_far.f x235000 x235001 x235002 x235003 x235004 x235005 x235006 x235007 x235008 x235009 x235010 x235011 0).bind fun t245 => (if 0 < (x232003.length : Int) then (if (wrap64 (x233002 + t245)) > ((rd_T23 x232003 0).f4) then (some (0, false)) else ((state_here_far.f x235000 x235001 x235002 x235003 x235004 x235005 x235006 x235007 x235008 x235009 x235010 x235011 0).bind fun t247 => (some (t247, true)))) else (none))) else (some (0, false)))) else (some (0, false)))) else (some (0, false))))
def state_End.f (k : Nat) (a0_0 : Int) (a0_1 : Int) (a0_2 : Int) (l0_3 : List (S23)) (a1_0 : Int) (a1_1 : Int) (a1_2 : Int) (a1_3 : Int) (a1_4 : Int) (a1_5 : Int) (a1_6 : Int) (a1_7 : Int) : Option (Int × Bool) := (inst_May.f k a0_0 a0_1 a0_2 l0_3).bind fun t233 => (if t233 = true then (if a0_0 = 0 then ((state_Root.f k a0_0 a0_1 a0_2 l0_3).bind fun bt235 => (state_End.j0 k (a1_0 == bt235.1 && (a1_1 == bt235.2.1 && (a1_2 == bt235.2.2.1 && (a1_3 == bt235.2.2.2.1 && (a1_4 == bt235.2.2.2.2.1 && (a1_5 == bt235.2.2.2.2.2.1 && (a1_6 == bt235.2.2.2.2.2.2.1 && (a1_7 == bt235.2.2.2.2.2.2.2)))))))) a0_0 a0_1 a0_2 l0_3 a1_0 a1_1 a1_2 a1_3 a1_4 a1_5 a1_6 a1_7 a0_0 a0_1 a0_2 l0_3 a1_0 a1_1 a1_2 a1_3 a1_4 a1_5 a1_6 a1_7)) else (state_End.j0 k false a0_0 a0_1 a0_2 l0_3 a1_0 a1_1 a1_2 a1_3 a1_4 a1_5 a1_6 a1_7 a0_0 a0_1 a0_2 l0_3 a1_0 a1_1 a1_2 a1_3 a1_4 a1_5 a1_6 a1_7)) else (some (0, false)))
theorem state_End.mono_l : ∀ k, (∀ y0 y1 y2 y3 y4 y5 y6 y7 y8 y9 y10 y11 y12 y13 y14 y15 y16 y17 y18 y19 y20 y21 y22 y23 y24, LeO (state_End.j0 k y0 y1 y2 y3 y4 y5 y6 y7 y8 y9 y10 y11 y12 y13 y14 y15 y16 y17 y18 y19 y20 y21 y22 y23 y24) (state_End.j0 (k + 1) y0 y1 y2 y3 y4 y5 y6 y7 y8 y9 y10 y11 y12 y13 y14 y15 y16 y17 y18 y19 y20 y21 y22 y23 y24))
  | 0 => fun _ _ _ _ _ _ _ _ _ _ _ _ _ _ _ _ _ _ _ _ _ _ _ _ _ r h => by simp [state_End.j0] at h
  | k + 1 => by
    have ih0 := state_End.mono_l k
    · intro y0 y1 y2 y3 y4 y5 y6 y7 y8 y9 y10 y11 y12 y13 y14 y15 y16 y17 y18 y19 y20 y21 y22 y23 y24
      unfold state_End.j0
      repeat' first
      | (with_reducible exact ih0 _ _ _ _ _ _ _ _ _ _ _ _ _ _ _ _ _ _ _ _ _ _ _ _ _)
      | (with_reducible exact inst_May.mono _ _ _ _ _)
      | (with_reducible exact state_Root.mono _ _ _ _ _)
      | (with_reducible exact state_here_all.mono _ _ _ _ _ _ _ _ _ _ _ _ _ _)
      | (with_reducible exact LeO.refl _)
      | (with_reducible exact LeO.none _)
      | (with_reducible refine LeO.ite ?_ ?_)
      | (with_reducible refine LeO.bind ?_ (fun _ => ?_))
      | exact ih0 _ _ _ _ _ _ _ _ _ _ _ _ _ _ _ _ _ _ _ _ _ _ _ _ _
      | exact inst_May.mono _ _ _ _ _
      | exact state_Root.mono _ _ _ _ _
      | exact state_here_all.mono _ _ _ _ _ _ _ _ _ _ _ _ _ _
      | exact LeO.none _
      | refine LeO.ite ?_ ?_
      | refine LeO.bind ?_ (fun _ => ?_)
theorem state_End.mono : ∀ a0 a1 a2 a3 a4 a5 a6 a7 a8 a9 a10 a11 k, LeO (state_End.f k a0 a1 a2 a3 a4 a5 a6 a7 a8 a9 a10 a11) (state_End.f (k + 1) a0 a1 a2 a3 a4 a5 a6 a7 a8 a9 a10 a11) := by
  intro a0 a1 a2 a3 a4 a5 a6 a7 a8 a9 a10 a11 k
  have ih0 := state_End.mono_l k
  unfold state_End.f
  repeat' first
      | (with_reducible exact ih0 _ _ _ _ _ _ _ _ _ _ _ _ _ _ _ _ _ _ _ _ _ _ _ _ _)
      | (with_reducible exact inst_May.mono _ _ _ _ _)
      | (with_reducible exact state_Root.mono _ _ _ _ _)
      | (with_reducible exact state_here_all.mono _ _ _ _ _ _ _ _ _ _ _ _ _ _)
      | (with_reducible exact LeO.refl _)
      | (with_reducible exact LeO.none _)
      | (with_reducible refine LeO.ite ?_ ?_)
      | (with_reducible refine LeO.bind ?_ (fun _ => ?_))
      | exact ih0 _ _ _ _ _ _ _ _ _ _ _ _ _ _ _ _ _ _ _ _ _ _ _ _ _
      | exact inst_May.mono _ _ _ _ _
      | exact state_Root.mono _ _ _ _ _
      | exact state_here_all.mono _ _ _ _ _ _ _ _ _ _ _ _ _ _
      | exact LeO.none _
      | refine LeO.ite ?_ ?_
      | refine LeO.bind ?_ (fun _ => ?_)
def state_End.T4 : Bool × List (List Nat × List Nat) := (true, [([], []), ([0], [0]), ([1], [1]), ([2], [2]), ([3], [3]), ([3], [3]), ([5, 3, 3], [3, 5]), ([4, 6, 3], [3, 4, 6]), ([3, 7], [3, 7]), ([8, 6], [8])])
def state_End.B4 : List Nat := [0, 1, 3, 7, 15, 15, 47, 127, 255, 511]
theorem state_End.tab4 : rtab .any (opsOf Try.f23 4) = state_End.T4 := by kernel_rfl
theorem state_End.bits4 : waitsOk state_End.T4.2 state_End.B4 = true := by kernel_rfl
def state_End.T6 : Bool × List (List Nat × List Nat) := (true, [([], []), ([0], [0]), ([1], [1]), ([2, 1], [2]), ([3], [3]), ([4, 3], [3, 4]), ([5, 3], [3, 5]), ([3, 6], [3, 6]), ([7, 3], [7]), ([8], [8]), ([9, 8], [8, 9]), ([10, 8], [8, 10]), ([8, 11], [8, 11]), ([12, 8], [12]), ([13], [13]), ([13], [13]), ([15, 13], [13, 15]), ([14, 16, 13, 13], [13, 14, 16]), ([17, 13], [13, 17]), ([13, 18], [13, 18]), ([19, 17], [19]), ([20], [20]), ([21, 20], [20, 21]), ([20], [20]), ([23, 20, 20], [20, 23]), ([22, 24, 20], [20, 22, 24]), ([20], [20]), ([26, 20], [20, 26]), ([27, 20], [20, 27]), ([28, 20], [20, 28]), ([29, 20], [20, 29]), ([25, 30, 20], [20, 25, 30]), ([20, 31], [20, 31]), ([32, 24], [32])])
def state_End.B6 : List Nat := [0, 1, 3, 7, 15, 31, 63, 127, 255, 511, 1023, 2047, 4095, 8191, 16383, 16383, 49151, 131071, 262143, 524287, 1048575, 2097151, 4194303, 2097151, 10485759, 33554431, 2097151, 69206015, 203423743, 471859199, 1008730111, 2147483647, 4294967295, 8589934591]
theorem state_End.tab6 : rtab .any (opsOf Try.f23 6) = state_End.T6 := by kernel_rfl
theorem state_End.bits6 : waitsOk state_End.T6.2 state_End.B6 = true := by kernel_rfl
set_option maxHeartbeats 16000000 in
set_option maxRecDepth 100000 in
theorem state_End.calls (k : Nat) (a0_0 : Int) (a0_1 : Int) (a0_2 : Int) (A0_3 : Option Addr) (c0_3 : Nat) (l0_3 : List (S23)) (a1_0 : Int) (a1_1 : Int) (a1_2 : Int) (a1_3 : Int) (a1_4 : Int) (a1_5 : Int) (a1_6 : Int) (a1_7 : Int) (r1 : Int) (r2 : Bool) (w : World) (hr0_3 : Kd.C k23 w A0_3 l0_3.length l0_3) (hc0_3 : l0_3.length ≤ c0_3) (h : state_End.f k a0_0 a0_1 a0_2 l0_3 a1_0 a1_1 a1_2 a1_3 a1_4 a1_5 a1_6 a1_7 = some (r1, r2)) :
  Calls Try.prog 23 #[.agg #[.int .i64 a0_0, .int .i64 a0_1, .int .i64 a0_2, .slice A0_3 l0_3.length c0_3], .agg #[.int .i64 a1_0, .int .i64 a1_1, .int .i64 a1_2, .int .i64 a1_3, .int .i64 a1_4, .int .u64 a1_5, .int .u64 a1_6, .int .u64 a1_7]] w fun e w' => e = .returned (.tuple #[.int .i64 r1, .bool r2]) ∧ Below w.heap.size w w' := by
 have hu26 := Try.underlying26
 have hu40 := Try.underlying40
 have hu69 := Try.underlying69
 have HR0_3 := zqi hr0_3
 have HC0_3 := zqi hc0_3
 clear hr0_3 hc0_3
 have HB := zqi (Below.refl w.heap.size w)
 have H : ((inst_May.f k a0_0 a0_1 a0_2 l0_3).bind fun t233 => (if t233 = true then (if a0_0 = 0 then ((state_Root.f k a0_0 a0_1 a0_2 l0_3).bind fun bt235 => (state_End.j0 k (a1_0 == bt235.1 && (a1_1 == bt235.2.1 && (a1_2 == bt235.2.2.1 && (a1_3 == bt235.2.2.2.1 && (a1_4 == bt235.2.2.2.2.1 && (a1_5 == bt235.2.2.2.2.2.1 && (a1_6 == bt235.2.2.2.2.2.2.1 && (a1_7 == bt235.2.2.2.2.2.2.2)))))))) a0_0 a0_1 a0_2 l0_3 a1_0 a1_1 a1_2 a1_3 a1_4 a1_5 a1_6 a1_7 a0_0 a0_1 a0_2 l0_3 a1_0 a1_1 a1_2 a1_3 a1_4 a1_5 a1_6 a1_7)) else (state_End.j0 k false a0_0 a0_1 a0_2 l0_3 a1_0 a1_1 a1_2 a1_3 a1_4 a1_5 a1_6 a1_7 a0_0 a0_1 a0_2 l0_3 a1_0 a1_1 a1_2 a1_3 a1_4 a1_5 a1_6 a1_7)) else (some (0, false)))) = some (r1, r2) := h
 clear h
 replace H := Option.bind_eq_some_iff.mp H
 obtain ⟨t233, A30, H⟩ := H
 replace H : (if t233 = true then (if a0_0 = 0 then ((state_Root.f k a0_0 a0_1 a0_2 l0_3).bind fun bt235 => (state_End.j0 k (a1_0 == bt235.1 && (a1_1 == bt235.2.1 && (a1_2 == bt235.2.2.1 && (a1_3 == bt235.2.2.2.1 && (a1_4 == bt235.2.2.2.2.1 && (a1_5 == bt235.2.2.2.2.2.1 && (a1_6 == bt235.2.2.2.2.2.2.1 && (a1_7 == bt235.2.2.2.2.2.2.2)))))))) a0_0 a0_1 a0_2 l0_3 a1_0 a1_1 a1_2 a1_3 a1_4 a1_5 a1_6 a1_7 a0_0 a0_1 a0_2 l0_3 a1_0 a1_1 a1_2 a1_3 a1_4 a1_5 a1_6 a1_7)) else (state_End.j0 k false a0_0 a0_1 a0_2 l0_3 a1_0 a1_1 a1_2 a1_3 a1_4 a1_5 a1_6 a1_7 a0_0 a0_1 a0_2 l0_3 a1_0 a1_1 a1_2 a1_3 a1_4 a1_5 a1_6 a1_7)) else (some (0, false))) = some (r1, r2) := H
 have A3 := zqi A30
 clear A30
 by_cases c4 : t233 = true
 ·
  subst c4
  have H1 : (if a0_0 = 0 then ((state_Root.f k a0_0 a0_1 a0_2 l0_3).bind fun bt235 => (state_End.j0 k (a1_0 == bt235.1 && (a1_1 == bt235.2.1 && (a1_2 == bt235.2.2.1 && (a1_3 == bt235.2.2.2.1 && (a1_4 == bt235.2.2.2.2.1 && (a1_5 == bt235.2.2.2.2.2.1 && (a1_6 == bt235.2.2.2.2.2.2.1 && (a1_7 == bt235.2.2.2.2.2.2.2)))))))) a0_0 a0_1 a0_2 l0_3 a1_0 a1_1 a1_2 a1_3 a1_4 a1_5 a1_6 a1_7 a0_0 a0_1 a0_2 l0_3 a1_0 a1_1 a1_2 a1_3 a1_4 a1_5 a1_6 a1_7)) else (state_End.j0 k false a0_0 a0_1 a0_2 l0_3 a1_0 a1_1 a1_2 a1_3 a1_4 a1_5 a1_6 a1_7 a0_0 a0_1 a0_2 l0_3 a1_0 a1_1 a1_2 a1_3 a1_4 a1_5 a1_6 a1_7)) = some (r1, r2) := by rw [if_pos rfl] at H; exact H
  clear H
  have H := H1
  clear H1
  have HC5 := zqi H
  clear H
  go_enter Try.func23, Try.ntmps23
  go_upto_region 4 with (first | ((with_reducible refine gate_dst (N := 2) rfl ?_); refine box_event ?hg (N := 2) ?hd (cs := #[.int .i64 a0_0, .int .i64 a0_1, .int .i64 a0_2, .slice A0_3 l0_3.length c0_3]) (t := 26) ?hr ?_; (case hd => rfl); (case hg => rfl); (case hr => first | (go_simp; done) | (go_simp; rfl)); intro gb231 hg w6 hbox hb; have n0_ := zqi (below_step (zqn HB.out) hb); have n1_ := zqi (hbox); have n2_ := zqi (zqo hg HB.out); have n3_ := zqi (zqo hg HB.out); clear HB; have HB := n0_; have BK231 := n1_; have GW231 := n2_; have GE231 := n3_; clear n0_ n1_ n2_ n3_; clear hb hbox hg) | ((with_reducible refine gate_dst (N := 3) rfl ?_); refine box_event ?hg (N := 3) ?hd (cs := #[.int .i64 a1_0, .int .i64 a1_1, .int .i64 a1_2, .int .i64 a1_3, .int .i64 a1_4, .int .u64 a1_5, .int .u64 a1_6, .int .u64 a1_7]) (t := 40) ?hr ?_; (case hd => rfl); (case hg => rfl); (case hr => first | (go_simp; done) | (go_simp; rfl)); intro gb232 hg w7 hbox hb; have n0_ := zqi (zqy BK231.out hb); have n1_ := zqi (below_step (zqn HB.out) hb); have n2_ := zqi (hbox); have n3_ := zqi (zqo hg HB.out); have n4_ := zqi (zqo hg HB.out); have n5_ := zqi ((zqq hg BK231.out)); have n6_ := zqi ((zqr hg BK231.out)); clear BK231; clear HB; have BK231 := n0_; have HB := n1_; have BK232 := n2_; have GW232 := n3_; have GE232 := n4_; have NB231_232 := n5_; have NB232_231 := n6_; clear n0_ n1_ n2_ n3_ n4_ n5_ n6_; clear hb hbox hg; have hnb8 := NB231_232.out; have hnc8 := NB232_231.out; obtain ⟨hcz9_0, hcz9_1, hcz9_2, hcz9_3, hfz9_0, hfz9_1, hfz9_2, hfz9_3⟩ := zqz4 BK231.out) | ((with_reducible refine gate_callee (f := 19) rfl ?_); refine goesL_ (some 8) rfl rfl Try.func19 (by kernel_rfl) rfl #[.agg #[.int .i64 a0_0, .int .i64 a0_1, .int .i64 a0_2, .slice A0_3 l0_3.length c0_3]] rfl (by (try simp only [List.map_toArray, List.map_cons, List.map_nil]); first | done | rfl | (simp only [List.length_drop, List.length_take]; rfl)) ?_; (with_reducible refine (inst_May.calls k a0_0 a0_1 a0_2 _ _ l0_3 true _ ?side1 ?side2 A3.out).mono ?_); (case side1 => repeat (first | exact (Kd.C_below HR0_3.out HB.out) | (with_reducible refine Kd.C_alloc ?_ _) | (with_reducible refine Kd.C_drewN ?_ _) | (with_reducible refine Kd.C_drew ?_))); (case side2 => exact HC0_3.out); rintro e w10 ⟨rfl, hb⟩; refine ⟨_, rfl, ?_⟩; have n0_ := zqi (zqy BK231.out hb); have n1_ := zqi (zqy BK232.out hb); have n2_ := zqi (below_step (zqn HB.out) hb); clear BK231; clear BK232; clear HB; have BK231 := n0_; have BK232 := n1_; have HB := n2_; clear n0_ n1_ n2_; (try clear hb); (try clear hb2); (try clear hk); (try clear hi); obtain ⟨hcz11_0, hcz11_1, hcz11_2, hcz11_3, hfz11_0, hfz11_1, hfz11_2, hfz11_3⟩ := zqz4 BK231.out; obtain ⟨hcz12_0, hcz12_1, hcz12_2, hcz12_3, hcz12_4, hcz12_5, hcz12_6, hcz12_7, hfz12_0, hfz12_1, hfz12_2, hfz12_3, hfz12_4, hfz12_5, hfz12_6, hfz12_7⟩ := zqz8 BK232.out) | ((with_reducible refine gate_dst (N := 6) rfl ?_); refine box_event ?hg (N := 6) ?hd (cs := #[.int .i64 0, .int .i64 0, .int .i64 0, .slice none 0 0, .int .i64 0, .int .i64 0, .int .i64 0, .int .i64 0, .int .i64 0, .int .u64 0, .int .u64 0, .int .u64 0]) (t := 69) ?hr ?_; (case hd => rfl); (case hg => rfl); (case hr => first | (go_simp; done) | (go_simp; rfl)); intro gb234 hg w13 hbox hb; have n0_ := zqi (zqy BK231.out hb); have n1_ := zqi (zqy BK232.out hb); have n2_ := zqi (below_step (zqn HB.out) hb); have n3_ := zqi (hbox); have n4_ := zqi (zqo hg HB.out); have n5_ := zqi (zqo hg HB.out); have n6_ := zqi ((zqq hg BK231.out)); have n7_ := zqi ((zqr hg BK231.out)); have n8_ := zqi ((zqq hg BK232.out)); have n9_ := zqi ((zqr hg BK232.out)); clear BK231; clear BK232; clear HB; have BK231 := n0_; have BK232 := n1_; have HB := n2_; have BK234 := n3_; have GW234 := n4_; have GE234 := n5_; have NB231_234 := n6_; have NB234_231 := n7_; have NB232_234 := n8_; have NB234_232 := n9_; clear n0_ n1_ n2_ n3_ n4_ n5_ n6_ n7_ n8_ n9_; clear hb hbox hg; have hnb14 := NB234_231.out; have hnc14 := NB231_234.out; have hnb15 := NB234_232.out; have hnc15 := NB232_234.out; obtain ⟨hcz16_0, hcz16_1, hcz16_2, hcz16_3, hcz16_4, hcz16_5, hcz16_6, hcz16_7, hcz16_8, hcz16_9, hcz16_10, hcz16_11, hfz16_0, hfz16_1, hfz16_2, hfz16_3, hfz16_4, hfz16_5, hfz16_6, hfz16_7, hfz16_8, hfz16_9, hfz16_10, hfz16_11⟩ := zqz12 BK234.out))
  (try simp only [Act.put, List.setIfInBounds_toArray, List.set_cons_zero, List.set_cons_succ])
  go_cut [13] (fun v13 wc => ∃ (kq : Nat) (x13_4 : Bool), v13 = .bool x13_4 ∧ Aside0 (state_End.j0 kq x13_4 a0_0 a0_1 a0_2 l0_3 a1_0 a1_1 a1_2 a1_3 a1_4 a1_5 a1_6 a1_7 a0_0 a0_1 a0_2 l0_3 a1_0 a1_1 a1_2 a1_3 a1_4 a1_5 a1_6 a1_7 = some (r1, r2)) ∧ Aside0 (kq ≤ k) ∧ Aside0 (wc.heap[gb231]? = some (.cells #[.int .i64 a0_0, .int .i64 a0_1, .int .i64 a0_2, (.slice A0_3 l0_3.length c0_3)] 26 (0, 0))) ∧ Aside0 (wc.heap[gb232]? = some (.cells #[.int .i64 a1_0, .int .i64 a1_1, .int .i64 a1_2, .int .i64 a1_3, .int .i64 a1_4, .int .u64 a1_5, .int .u64 a1_6, .int .u64 a1_7] 40 (0, 0))) ∧ Aside0 (wc.heap[gb234]? = some (.cells #[.int .i64 a0_0, .int .i64 a0_1, .int .i64 a0_2, (.slice A0_3 l0_3.length c0_3), .int .i64 a1_0, .int .i64 a1_1, .int .i64 a1_2, .int .i64 a1_3, .int .i64 a1_4, .int .u64 a1_5, .int .u64 a1_6, .int .u64 a1_7] 69 (0, 0))) ∧ Aside0 (Below w.heap.size w wc))
  case first =>
   have H := HC5.out
   clear HC5
   by_cases c17 : a0_0 = 0
   ·
    rw [if_pos c17] at H
    have c17b0 : (a0_0 == 0) = true := beq_iff_eq.mpr c17
    have c17b1 : (a0_0 != 0) = false := bne_eq_false_iff_eq.mpr c17
    clear c17
    (first | rw [c17b0] | (simp only [i64_w, i32_w]; rw [c17b0]) | skip)
    replace H := Option.bind_eq_some_iff.mp H
    obtain ⟨⟨t235, t236, t237, t238, t239, t240, t241, t242⟩, A180, H⟩ := H
    replace H : (state_End.j0 k (a1_0 == t235 && (a1_1 == t236 && (a1_2 == t237 && (a1_3 == t238 && (a1_4 == t239 && (a1_5 == t240 && (a1_6 == t241 && (a1_7 == t242)))))))) a0_0 a0_1 a0_2 l0_3 a1_0 a1_1 a1_2 a1_3 a1_4 a1_5 a1_6 a1_7 a0_0 a0_1 a0_2 l0_3 a1_0 a1_1 a1_2 a1_3 a1_4 a1_5 a1_6 a1_7) = some (r1, r2) := H
    have A18 := zqi A180
    clear A180
    have H' := zqi H
    clear H
    try go_wp2
    generalize hW_ : ((((((((((((w13.setCell ⟨gb234, 0, none⟩ (.int .i64 a0_0)).setCell ⟨gb234, 1, none⟩ (.int .i64 a0_1)).setCell ⟨gb234, 2, none⟩ (.int .i64 a0_2)).setCell ⟨gb234, 3, none⟩ (.slice A0_3 l0_3.length c0_3)).setCell ⟨gb234, 4, none⟩ (.int .i64 a1_0)).setCell ⟨gb234, 5, none⟩ (.int .i64 a1_1)).setCell ⟨gb234, 6, none⟩ (.int .i64 a1_2)).setCell ⟨gb234, 7, none⟩ (.int .i64 a1_3)).setCell ⟨gb234, 8, none⟩ (.int .i64 a1_4)).setCell ⟨gb234, 9, none⟩ (.int .u64 a1_5)).setCell ⟨gb234, 10, none⟩ (.int .u64 a1_6)).setCell ⟨gb234, 11, none⟩ (.int .u64 a1_7)) = w19
    have n0_ : Aside0 (w19.heap[gb231]? = some (.cells #[.int .i64 a0_0, .int .i64 a0_1, .int .i64 a0_2, .slice A0_3 l0_3.length c0_3] 26 (0, 0))) := ⟨by subst hW_; (repeat (with_reducible first | apply zqa | apply zqb | apply zqc | refine blk_far ?_ NB231_234.out _)); exact BK231.out⟩
    have n1_ : Aside0 (w19.heap[gb232]? = some (.cells #[.int .i64 a1_0, .int .i64 a1_1, .int .i64 a1_2, .int .i64 a1_3, .int .i64 a1_4, .int .u64 a1_5, .int .u64 a1_6, .int .u64 a1_7] 40 (0, 0))) := ⟨by subst hW_; (repeat (with_reducible first | apply zqa | apply zqb | apply zqc | refine blk_far ?_ NB232_234.out _)); exact BK232.out⟩
    have n2_ : Aside0 (w19.heap[gb234]? = some (.cells #[.int .i64 a0_0, .int .i64 a0_1, .int .i64 a0_2, .slice A0_3 l0_3.length c0_3, .int .i64 a1_0, .int .i64 a1_1, .int .i64 a1_2, .int .i64 a1_3, .int .i64 a1_4, .int .u64 a1_5, .int .u64 a1_6, .int .u64 a1_7] 69 (0, 0))) := ⟨by subst hW_; exact zqC (blk_set (blk_set (blk_set (blk_set (blk_set (blk_set (blk_set (blk_set (blk_set (blk_set (blk_set (blk_set BK234.out 0 _) 1 _) 2 _) 3 _) 4 _) 5 _) 6 _) 7 _) 8 _) 9 _) 10 _) 11 _) (by simp only [List.setIfInBounds_toArray, List.set_cons_zero, List.set_cons_succ])⟩
    have n3_ : Aside0 (Below w.heap.size w w19) := ⟨by subst hW_; repeat (first | (with_reducible first | exact HB.out | apply zqg | apply zqf | apply zqh | refine below_set ?_ GE231.out | refine below_set ?_ GE232.out | refine below_set ?_ GE234.out) | exact HB.out)⟩
    clear hW_
    (try clear BK231)
    (try clear BK232)
    (try clear BK234)
    (try clear HB)
    have BK231 := n0_
    have BK232 := n1_
    have BK234 := n2_
    have HB := n3_
    clear n0_ n1_ n2_ n3_
    have n0_ := zqi (zqb BK231.out)
    have n1_ := zqi (zqb BK232.out)
    have n2_ := zqi (zqb BK234.out)
    have n3_ := zqi (zqh HB.out)
    clear BK231
    clear BK232
    clear BK234
    clear HB
    have BK231 := n0_
    have BK232 := n1_
    have BK234 := n2_
    have HB := n3_
    clear n0_ n1_ n2_ n3_
    refine start_ (n := 10) (S := fun w' => w'.cell? ⟨gb231, 0, none⟩ = some (.int .i64 a0_0) ∧ w'.cell? ⟨gb231, 1, none⟩ = some (.int .i64 a0_1) ∧ w'.cell? ⟨gb231, 2, none⟩ = some (.int .i64 a0_2) ∧ w'.cell? ⟨gb231, 3, none⟩ = some (.slice A0_3 l0_3.length c0_3) ∧ w'.cell? ⟨gb232, 0, none⟩ = some (.int .i64 a1_0) ∧ w'.cell? ⟨gb232, 1, none⟩ = some (.int .i64 a1_1) ∧ w'.cell? ⟨gb232, 2, none⟩ = some (.int .i64 a1_2) ∧ w'.cell? ⟨gb232, 3, none⟩ = some (.int .i64 a1_3) ∧ w'.cell? ⟨gb232, 4, none⟩ = some (.int .i64 a1_4) ∧ w'.cell? ⟨gb232, 5, none⟩ = some (.int .u64 a1_5) ∧ w'.cell? ⟨gb232, 6, none⟩ = some (.int .u64 a1_6) ∧ w'.cell? ⟨gb232, 7, none⟩ = some (.int .u64 a1_7)) (ds := []) (zqB 10 0) (by kernel_rfl) rfl rfl ⟨(zqe BK231.out 0).trans rfl, (zqe BK231.out 1).trans rfl, (zqe BK231.out 2).trans rfl, (zqe BK231.out 3).trans rfl, (zqe BK232.out 0).trans rfl, (zqe BK232.out 1).trans rfl, (zqe BK232.out 2).trans rfl, (zqe BK232.out 3).trans rfl, (zqe BK232.out 4).trans rfl, (zqe BK232.out 5).trans rfl, (zqe BK232.out 6).trans rfl, (zqe BK232.out 7).trans rfl⟩ (fun hHeld => ?_); refine with_tabW state_End.tab4 state_End.bits4 (fun HT_ HW_ => ?_)
    generalize w19.drew = w20 at BK231 BK232 BK234 HB hHeld ⊢
    refine zqp 0 (some 14) (zqB 10 1) (any_of HT_.out (by kernel_rfl)) (h := ?_)
    refine zqt 1 (some 15) (zqB 10 3) (take_ofW HT_.out HW_.out (by kernel_rfl)) hHeld (h := ?_)
    refine zqp 2 (some 16) (zqB 10 7) (any_of HT_.out (by kernel_rfl)) (h := ?_)
    refine zqp 3 (some 17) (zqB 10 15) (any_of HT_.out (by kernel_rfl)) (h := ?_)
    refine zqt 4 (some 18) (zqB 10 31) (take_ofW HT_.out HW_.out (by kernel_rfl)) hHeld (h := ?_)
    refine zqt 5 (some 19) (zqB 10 63) (take_ofW HT_.out HW_.out (by kernel_rfl)) hHeld (h := ?_)
    refine one_ (i := 6) (N := some 20) (zqB 10 127) rfl rfl (one_of HT_.out (by kernel_rfl)) (by decide) (fun K hK => ?_)
    refine goes_ Try.func39 (by kernel_rfl) rfl #[.agg #[.int .i64 a0_0, .int .i64 a0_1, .int .i64 a0_2, .slice A0_3 l0_3.length c0_3]] (by rfl) rfl rfl (by (try simp only [List.map_toArray, List.map_cons, List.map_nil]); first | done | rfl | (simp only [List.length_drop, List.length_take]; rfl)) ?_
    with_reducible refine (state_Root.calls k a0_0 a0_1 a0_2 _ _ l0_3 t235 t236 t237 t238 t239 t240 t241 t242 _ ?side1 ?side2 A18.out).mono ?_
    (case side1 => repeat (first | exact (Kd.C_below HR0_3.out HB.out) | (with_reducible refine Kd.C_alloc ?_ _) | (with_reducible refine Kd.C_drewN ?_ _) | (with_reducible refine Kd.C_drew ?_)))
    (case side2 => exact HC0_3.out)
    rintro e w21 ⟨rfl, hb⟩
    refine ⟨_, rfl, ?_⟩
    have n0_ := zqi (zqy BK231.out hb)
    have n1_ := zqi (zqy BK232.out hb)
    have n2_ := zqi (zqy BK234.out hb)
    have n3_ := zqi (below_step (zqn HB.out) hb)
    clear BK231
    clear BK232
    clear BK234
    clear HB
    have BK231 := n0_
    have BK232 := n1_
    have BK234 := n2_
    have HB := n3_
    clear n0_ n1_ n2_ n3_
    (try clear hb)
    (try clear hb2)
    (try clear hk)
    (try clear hi)
    refine hK.out _ _ ⟨(zqe BK231.out 0).trans rfl, (zqe BK231.out 1).trans rfl, (zqe BK231.out 2).trans rfl, (zqe BK231.out 3).trans rfl, (zqe BK232.out 0).trans rfl, (zqe BK232.out 1).trans rfl, (zqe BK232.out 2).trans rfl, (zqe BK232.out 3).trans rfl, (zqe BK232.out 4).trans rfl, (zqe BK232.out 5).trans rfl, (zqe BK232.out 6).trans rfl, (zqe BK232.out 7).trans rfl⟩ (fun hHeld => ?_)
    clear hK K
    refine norm_ (a' := ?_) ?_ ?_
    rotate_left
    ·
     show Act.put _ (some 20) _ = _
     simp only [Act.put, List.setIfInBounds_toArray, List.set_cons_zero, List.set_cons_succ, i64_w, i32_w]
     rfl
    refine zqp 7 (some 21) (zqB 10 255) (any_of HT_.out (by kernel_rfl)) (h := ?_)
    refine zqp 8 (some 22) (zqB 10 511) (any_of HT_.out (by kernel_rfl)) (h := ?_)
    refine zqp 9 (some 13) (zqB 10 1023) (any_of HT_.out (by kernel_rfl)) (h := ?_)
    refine done_ (done_of HT_.out (by kernel_rfl)) ?_
    try go_wp2
    go_meet
    case rel => exact ⟨_, ((a1_0 == t235 && (a1_1 == t236 && (a1_2 == t237 && (a1_3 == t238 && (a1_4 == t239 && (a1_5 == t240 && (a1_6 == t241 && (a1_7 == t242))))))))), (by first | rfl | (simp; done) | (simp [*]; done)), H', ⟨by first | omega | exact Nat.le_refl _⟩, ⟨by (with_reducible repeat (first | apply zqa | apply zqb | apply zqc)); exact BK231.out⟩, ⟨by (with_reducible repeat (first | apply zqa | apply zqb | apply zqc)); exact BK232.out⟩, ⟨by (with_reducible repeat (first | apply zqa | apply zqb | apply zqc)); exact BK234.out⟩, ⟨by repeat (first | (with_reducible first | exact HB.out | apply zqg | apply zqf | apply zqh | refine below_set ?_ GE231.out | refine below_set ?_ GE232.out | refine below_set ?_ GE234.out) | exact HB.out)⟩⟩
   ·
    rw [if_neg c17] at H
    have c17b0 : (a0_0 == 0) = false := beq_eq_false_iff_ne.mpr c17
    have c17b1 : (a0_0 != 0) = true := bne_iff_ne.mpr c17
    (first | rw [c17b0] | (simp only [i64_w, i32_w]; rw [c17b0]) | skip)
    have H' := zqi H
    clear H
    try go_wp2
    generalize hW_ : ((((((((((((w13.setCell ⟨gb234, 0, none⟩ (.int .i64 a0_0)).setCell ⟨gb234, 1, none⟩ (.int .i64 a0_1)).setCell ⟨gb234, 2, none⟩ (.int .i64 a0_2)).setCell ⟨gb234, 3, none⟩ (.slice A0_3 l0_3.length c0_3)).setCell ⟨gb234, 4, none⟩ (.int .i64 a1_0)).setCell ⟨gb234, 5, none⟩ (.int .i64 a1_1)).setCell ⟨gb234, 6, none⟩ (.int .i64 a1_2)).setCell ⟨gb234, 7, none⟩ (.int .i64 a1_3)).setCell ⟨gb234, 8, none⟩ (.int .i64 a1_4)).setCell ⟨gb234, 9, none⟩ (.int .u64 a1_5)).setCell ⟨gb234, 10, none⟩ (.int .u64 a1_6)).setCell ⟨gb234, 11, none⟩ (.int .u64 a1_7)) = w22
    have n0_ : Aside0 (w22.heap[gb231]? = some (.cells #[.int .i64 a0_0, .int .i64 a0_1, .int .i64 a0_2, .slice A0_3 l0_3.length c0_3] 26 (0, 0))) := ⟨by subst hW_; (repeat (with_reducible first | apply zqa | apply zqb | apply zqc | refine blk_far ?_ NB231_234.out _)); exact BK231.out⟩
    have n1_ : Aside0 (w22.heap[gb232]? = some (.cells #[.int .i64 a1_0, .int .i64 a1_1, .int .i64 a1_2, .int .i64 a1_3, .int .i64 a1_4, .int .u64 a1_5, .int .u64 a1_6, .int .u64 a1_7] 40 (0, 0))) := ⟨by subst hW_; (repeat (with_reducible first | apply zqa | apply zqb | apply zqc | refine blk_far ?_ NB232_234.out _)); exact BK232.out⟩
    have n2_ : Aside0 (w22.heap[gb234]? = some (.cells #[.int .i64 a0_0, .int .i64 a0_1, .int .i64 a0_2, .slice A0_3 l0_3.length c0_3, .int .i64 a1_0, .int .i64 a1_1, .int .i64 a1_2, .int .i64 a1_3, .int .i64 a1_4, .int .u64 a1_5, .int .u64 a1_6, .int .u64 a1_7] 69 (0, 0))) := ⟨by subst hW_; exact zqC (blk_set (blk_set (blk_set (blk_set (blk_set (blk_set (blk_set (blk_set (blk_set (blk_set (blk_set (blk_set BK234.out 0 _) 1 _) 2 _) 3 _) 4 _) 5 _) 6 _) 7 _) 8 _) 9 _) 10 _) 11 _) (by simp only [List.setIfInBounds_toArray, List.set_cons_zero, List.set_cons_succ])⟩
    have n3_ : Aside0 (Below w.heap.size w w22) := ⟨by subst hW_; repeat (first | (with_reducible first | exact HB.out | apply zqg | apply zqf | apply zqh | refine below_set ?_ GE231.out | refine below_set ?_ GE232.out | refine below_set ?_ GE234.out) | exact HB.out)⟩
    clear hW_
    (try clear BK231)
    (try clear BK232)
    (try clear BK234)
    (try clear HB)
    have BK231 := n0_
    have BK232 := n1_
    have BK234 := n2_
    have HB := n3_
    clear n0_ n1_ n2_ n3_
    have n0_ := zqi (zqb BK231.out)
    have n1_ := zqi (zqb BK232.out)
    have n2_ := zqi (zqb BK234.out)
    have n3_ := zqi (zqh HB.out)
    clear BK231
    clear BK232
    clear BK234
    clear HB
    have BK231 := n0_
    have BK232 := n1_
    have BK234 := n2_
    have HB := n3_
    clear n0_ n1_ n2_ n3_
    refine start_ (n := 10) (S := fun w' => w'.cell? ⟨gb231, 0, none⟩ = some (.int .i64 a0_0) ∧ w'.cell? ⟨gb231, 1, none⟩ = some (.int .i64 a0_1) ∧ w'.cell? ⟨gb231, 2, none⟩ = some (.int .i64 a0_2) ∧ w'.cell? ⟨gb231, 3, none⟩ = some (.slice A0_3 l0_3.length c0_3)) (ds := []) (zqB 10 0) (by kernel_rfl) rfl rfl ⟨(zqe BK231.out 0).trans rfl, (zqe BK231.out 1).trans rfl, (zqe BK231.out 2).trans rfl, (zqe BK231.out 3).trans rfl⟩ (fun hHeld => ?_); refine with_tabW state_End.tab4 state_End.bits4 (fun HT_ HW_ => ?_)
    generalize w22.drew = w23 at BK231 BK232 BK234 HB hHeld ⊢
    refine zqp 0 (some 14) (zqB 10 1) (any_of HT_.out (by kernel_rfl)) (h := ?_)
    refine zqt 1 (some 15) (zqB 10 3) (take_ofW HT_.out HW_.out (by kernel_rfl)) hHeld (h := ?_)
    refine zqp 2 (some 16) (zqB 10 7) (any_of HT_.out (by kernel_rfl)) (h := ?_)
    refine zqp 3 (some 17) (zqB 10 15) (any_of HT_.out (by kernel_rfl)) (h := ?_)
    refine zqu 4 (some 18) (zqB 10 31) (any_of HT_.out (by kernel_rfl)) (h := ?_)
    refine zqu 5 (some 19) (zqB 10 63) (any_of HT_.out (by kernel_rfl)) (h := ?_)
    refine zqu 6 (some 20) (zqB 10 127) (any_of HT_.out (by kernel_rfl)) (h := ?_)
    refine zqu 7 (some 21) (zqB 10 255) (any_of HT_.out (by kernel_rfl)) (h := ?_)
    refine zqp 8 (some 22) (zqB 10 511) (any_of HT_.out (by kernel_rfl)) (h := ?_)
    refine zqp 9 (some 13) (zqB 10 1023) (any_of HT_.out (by kernel_rfl)) (h := ?_)
    refine done_ (done_of HT_.out (by kernel_rfl)) ?_
    try go_wp2
    go_meet
    case rel => exact ⟨_, (false), (by first | rfl | (simp; done) | (simp [*]; done)), H', ⟨by first | omega | exact Nat.le_refl _⟩, ⟨by (with_reducible repeat (first | apply zqa | apply zqb | apply zqc)); exact BK231.out⟩, ⟨by (with_reducible repeat (first | apply zqa | apply zqb | apply zqc)); exact BK232.out⟩, ⟨by (with_reducible repeat (first | apply zqa | apply zqb | apply zqc)); exact BK234.out⟩, ⟨by repeat (first | (with_reducible first | exact HB.out | apply zqg | apply zqf | apply zqh | refine below_set ?_ GE231.out | refine below_set ?_ GE232.out | refine below_set ?_ GE234.out) | exact HB.out)⟩⟩
  case rest =>
   clear HC5
   try clear c1
   try clear c2
   try clear p2
   try clear c3
   try clear c4
   try clear c8
   try clear c14
   try clear c15
   try clear c17
   try clear c17b0
   try clear c17b1
   try clear c19
   try clear c23
   try clear hcz11_0
   try clear hcz11_1
   try clear hcz11_2
   try clear hcz11_3
   try clear hcz12_0
   try clear hcz12_1
   try clear hcz12_2
   try clear hcz12_3
   try clear hcz12_4
   try clear hcz12_5
   try clear hcz12_6
   try clear hcz12_7
   try clear hcz16_0
   try clear hcz16_1
   try clear hcz16_10
   try clear hcz16_11
   try clear hcz16_2
   try clear hcz16_3
   try clear hcz16_4
   try clear hcz16_5
   try clear hcz16_6
   try clear hcz16_7
   try clear hcz16_8
   try clear hcz16_9
   try clear hcz9_0
   try clear hcz9_1
   try clear hcz9_2
   try clear hcz9_3
   try clear hfz11_0
   try clear hfz11_1
   try clear hfz11_2
   try clear hfz11_3
   try clear hfz12_0
   try clear hfz12_1
   try clear hfz12_2
   try clear hfz12_3
   try clear hfz12_4
   try clear hfz12_5
   try clear hfz12_6
   try clear hfz12_7
   try clear hfz16_0
   try clear hfz16_1
   try clear hfz16_10
   try clear hfz16_11
   try clear hfz16_2
   try clear hfz16_3
   try clear hfz16_4
   try clear hfz16_5
   try clear hfz16_6
   try clear hfz16_7
   try clear hfz16_8
   try clear hfz16_9
   try clear hfz9_0
   try clear hfz9_1
   try clear hfz9_2
   try clear hfz9_3
   obtain ⟨kq, x13_4, rfl, HA, HJ4, BK231, BK232, BK234, HB⟩ := hcut
   cases kq with
   | zero => exact absurd HA.out (by simp [state_End.j0])
   | succ kj4 =>
    have H := HA.out
    clear HA
    simp only [state_End.j0] at H
    by_cases c24 : x13_4 = true
    ·
     subst c24
     have H1 : (some (0, true)) = some (r1, r2) := by rw [if_pos rfl] at H; exact H
     clear H
     have H := H1
     clear H1
     simp only [Option.some.injEq, Prod.mk.injEq] at H
     obtain ⟨rfl, rfl⟩ := H
     go_wp2
     go_ret2
     exact ⟨by first | rfl | (simp [errW_none, errW_some] <;> rfl) | (simp [*, errW_none, errW_some] <;> rfl), by repeat (first | (with_reducible first | exact HB.out | apply zqg | apply zqf | apply zqh | refine below_set ?_ GE231.out | refine below_set ?_ GE232.out | refine below_set ?_ GE234.out) | exact HB.out)⟩
    ·
     replace c24 := Bool.eq_false_iff.mpr c24
     subst c24
     have H1 : ((state_here_may.f a0_0 a0_1 a0_2 l0_3 a1_0 a1_1 a1_2 a1_3 a1_4 a1_5 a1_6 a1_7).bind fun t243 => (if t243 = true then (if a1_0 = 0 then (some (0, false)) else (if a1_7 = 0 then ((state_here_all.f kj4 a0_0 a0_1 a0_2 l0_3 a1_0 a1_1 a1_2 a1_3 a1_4 a1_5 a1_6 a1_7 a1_6).bind fun t244 => (if t244 = true then ((state_here_far.f a0_0 a0_1 a0_2 l0_3 a1_0 a1_1 a1_2 a1_3 a1_4 a1_5 a1_6 a1_7 0).bind fun t245 => (if 0 < (l0_3.length : Int) then (if (wrap64 (a1_2 + t245)) > ((rd_T23 l0_3 0).f4) then (some (0, false)) else ((state_here_far.f a0_0 a0_1 a0_2 l0_3 a1_0 a1_1 a1_2 a1_3 a1_4 a1_5 a1_6 a1_7 0).bind fun t247 => (some (t247, true)))) else (none))) else (some (0, false)))) else (some (0, false)))) else (some (0, false)))) = some (r1, r2) := by rw [if_neg (show ¬ (false = true) by decide)] at H; exact H
     clear H
     have H := H1
     clear H1
     replace H := Option.bind_eq_some_iff.mp H
     obtain ⟨t243, A250, H⟩ := H
     replace H : (if t243 = true then (if a1_0 = 0 then (some (0, false)) else (if a1_7 = 0 then ((state_here_all.f kj4 a0_0 a0_1 a0_2 l0_3 a1_0 a1_1 a1_2 a1_3 a1_4 a1_5 a1_6 a1_7 a1_6).bind fun t244 => (if t244 = true then ((state_here_far.f a0_0 a0_1 a0_2 l0_3 a1_0 a1_1 a1_2 a1_3 a1_4 a1_5 a1_6 a1_7 0).bind fun t245 => (if 0 < (l0_3.length : Int) then (if (wrap64 (a1_2 + t245)) > ((rd_T23 l0_3 0).f4) then (some (0, false)) else ((state_here_far.f a0_0 a0_1 a0_2 l0_3 a1_0 a1_1 a1_2 a1_3 a1_4 a1_5 a1_6 a1_7 0).bind fun t247 => (some (t247, true)))) else (none))) else (some (0, false)))) else (some (0, false)))) else (some (0, false))) = some (r1, r2) := H
     have A25 := zqi A250
     clear A250
     by_cases c26 : t243 = true
     ·
      subst c26
      have H1 : (if a1_0 = 0 then (some (0, false)) else (if a1_7 = 0 then ((state_here_all.f kj4 a0_0 a0_1 a0_2 l0_3 a1_0 a1_1 a1_2 a1_3 a1_4 a1_5 a1_6 a1_7 a1_6).bind fun t244 => (if t244 = true then ((state_here_far.f a0_0 a0_1 a0_2 l0_3 a1_0 a1_1 a1_2 a1_3 a1_4 a1_5 a1_6 a1_7 0).bind fun t245 => (if 0 < (l0_3.length : Int) then (if (wrap64 (a1_2 + t245)) > ((rd_T23 l0_3 0).f4) then (some (0, false)) else ((state_here_far.f a0_0 a0_1 a0_2 l0_3 a1_0 a1_1 a1_2 a1_3 a1_4 a1_5 a1_6 a1_7 0).bind fun t247 => (some (t247, true)))) else (none))) else (some (0, false)))) else (some (0, false)))) = some (r1, r2) := by rw [if_pos rfl] at H; exact H
      clear H
      have H := H1
      clear H1
      by_cases c27 : a1_0 = 0
      ·
       rw [if_pos c27] at H
       have c27b0 : (a1_0 == 0) = true := beq_iff_eq.mpr c27
       have c27b1 : (a1_0 != 0) = false := bne_eq_false_iff_eq.mpr c27
       clear c27
       simp only [Option.some.injEq, Prod.mk.injEq] at H
       obtain ⟨rfl, rfl⟩ := H
       try go_wp2
       have n0_ := zqi (zqb BK231.out)
       have n1_ := zqi (zqb BK232.out)
       have n2_ := zqi (zqb BK234.out)
       have n3_ := zqi (zqh HB.out)
       clear BK231
       clear BK232
       clear BK234
       clear HB
       have BK231 := n0_
       have BK232 := n1_
       have BK234 := n2_
       have HB := n3_
       clear n0_ n1_ n2_ n3_
       refine start_ (n := 34) (S := fun w' => w'.cell? ⟨gb234, 0, none⟩ = some (.int .i64 a0_0) ∧ w'.cell? ⟨gb234, 1, none⟩ = some (.int .i64 a0_1) ∧ w'.cell? ⟨gb234, 2, none⟩ = some (.int .i64 a0_2) ∧ w'.cell? ⟨gb234, 3, none⟩ = some (.slice A0_3 l0_3.length c0_3) ∧ w'.cell? ⟨gb234, 4, none⟩ = some (.int .i64 a1_0) ∧ w'.cell? ⟨gb234, 5, none⟩ = some (.int .i64 a1_1) ∧ w'.cell? ⟨gb234, 6, none⟩ = some (.int .i64 a1_2) ∧ w'.cell? ⟨gb234, 7, none⟩ = some (.int .i64 a1_3) ∧ w'.cell? ⟨gb234, 8, none⟩ = some (.int .i64 a1_4) ∧ w'.cell? ⟨gb234, 9, none⟩ = some (.int .u64 a1_5) ∧ w'.cell? ⟨gb234, 10, none⟩ = some (.int .u64 a1_6) ∧ w'.cell? ⟨gb234, 11, none⟩ = some (.int .u64 a1_7) ∧ w'.cell? ⟨gb232, 0, none⟩ = some (.int .i64 a1_0) ∧ w'.cell? ⟨gb232, 1, none⟩ = some (.int .i64 a1_1) ∧ w'.cell? ⟨gb232, 2, none⟩ = some (.int .i64 a1_2) ∧ w'.cell? ⟨gb232, 3, none⟩ = some (.int .i64 a1_3) ∧ w'.cell? ⟨gb232, 4, none⟩ = some (.int .i64 a1_4) ∧ w'.cell? ⟨gb232, 5, none⟩ = some (.int .u64 a1_5) ∧ w'.cell? ⟨gb232, 6, none⟩ = some (.int .u64 a1_6) ∧ w'.cell? ⟨gb232, 7, none⟩ = some (.int .u64 a1_7)) (ds := []) (zqB 34 0) (by kernel_rfl) rfl rfl ⟨(zqe BK234.out 0).trans rfl, (zqe BK234.out 1).trans rfl, (zqe BK234.out 2).trans rfl, (zqe BK234.out 3).trans rfl, (zqe BK234.out 4).trans rfl, (zqe BK234.out 5).trans rfl, (zqe BK234.out 6).trans rfl, (zqe BK234.out 7).trans rfl, (zqe BK234.out 8).trans rfl, (zqe BK234.out 9).trans rfl, (zqe BK234.out 10).trans rfl, (zqe BK234.out 11).trans rfl, (zqe BK232.out 0).trans rfl, (zqe BK232.out 1).trans rfl, (zqe BK232.out 2).trans rfl, (zqe BK232.out 3).trans rfl, (zqe BK232.out 4).trans rfl, (zqe BK232.out 5).trans rfl, (zqe BK232.out 6).trans rfl, (zqe BK232.out 7).trans rfl⟩ (fun hHeld => ?_); refine with_tabW state_End.tab6 state_End.bits6 (fun HT_ HW_ => ?_)
       generalize wc.drew = w28 at BK231 BK232 BK234 HB hHeld ⊢
       refine zqt 0 (some 24) (zqB 34 1) (take_ofW HT_.out HW_.out (by kernel_rfl)) hHeld (h := ?_)
       refine one_ (i := 1) (N := some 25) (zqB 34 3) rfl rfl (one_of HT_.out (by kernel_rfl)) (by decide) (fun K hK => ?_)
       refine goes_ Try.func37 (by kernel_rfl) rfl #[.agg #[.int .i64 a0_0, .int .i64 a0_1, .int .i64 a0_2, .slice A0_3 l0_3.length c0_3, .int .i64 a1_0, .int .i64 a1_1, .int .i64 a1_2, .int .i64 a1_3, .int .i64 a1_4, .int .u64 a1_5, .int .u64 a1_6, .int .u64 a1_7]] (by rfl) rfl rfl (by (try simp only [List.map_toArray, List.map_cons, List.map_nil]); first | done | rfl | (simp only [List.length_drop, List.length_take]; rfl)) ?_
       with_reducible refine (state_here_may.calls a0_0 a0_1 a0_2 _ _ l0_3 a1_0 a1_1 a1_2 a1_3 a1_4 a1_5 a1_6 a1_7 true _ ?side1 ?side2 A25.out).mono ?_
       (case side1 => repeat (first | exact (Kd.C_below HR0_3.out HB.out) | (with_reducible refine Kd.C_alloc ?_ _) | (with_reducible refine Kd.C_drewN ?_ _) | (with_reducible refine Kd.C_drew ?_)))
       (case side2 => exact HC0_3.out)
       rintro e w29 ⟨rfl, hb⟩
       refine ⟨_, rfl, ?_⟩
       have n0_ := zqi (zqy BK231.out hb)
       have n1_ := zqi (zqy BK232.out hb)
       have n2_ := zqi (zqy BK234.out hb)
       have n3_ := zqi (below_step (zqn HB.out) hb)
       clear BK231
       clear BK232
       clear BK234
       clear HB
       have BK231 := n0_
       have BK232 := n1_
       have BK234 := n2_
       have HB := n3_
       clear n0_ n1_ n2_ n3_
       (try clear hb)
       (try clear hb2)
       (try clear hk)
       (try clear hi)
       refine hK.out _ _ ⟨(zqe BK234.out 0).trans rfl, (zqe BK234.out 1).trans rfl, (zqe BK234.out 2).trans rfl, (zqe BK234.out 3).trans rfl, (zqe BK234.out 4).trans rfl, (zqe BK234.out 5).trans rfl, (zqe BK234.out 6).trans rfl, (zqe BK234.out 7).trans rfl, (zqe BK234.out 8).trans rfl, (zqe BK234.out 9).trans rfl, (zqe BK234.out 10).trans rfl, (zqe BK234.out 11).trans rfl, (zqe BK232.out 0).trans rfl, (zqe BK232.out 1).trans rfl, (zqe BK232.out 2).trans rfl, (zqe BK232.out 3).trans rfl, (zqe BK232.out 4).trans rfl, (zqe BK232.out 5).trans rfl, (zqe BK232.out 6).trans rfl, (zqe BK232.out 7).trans rfl⟩ (fun hHeld => ?_)
       clear hK K
       refine norm_ (a' := ?_) ?_ ?_
       rotate_left
       ·
        show Act.put _ (some 25) _ = _
        simp only [Act.put, List.setIfInBounds_toArray, List.set_cons_zero, List.set_cons_succ, i64_w, i32_w]
        rfl
       refine zqp 2 (some 26) (zqB 34 7) (any_of HT_.out (by kernel_rfl)) (h := ?_)
       refine zqp 3 (some 27) (zqB 34 15) (any_of HT_.out (by kernel_rfl)) (h := ?_)
       refine zqp 4 (some 28) (zqB 34 31) (any_of HT_.out (by kernel_rfl)) (h := ?_)
       refine zqt 5 (some 29) (zqB 34 63) (take_ofW HT_.out HW_.out (by kernel_rfl)) hHeld (h := ?_)
       refine zqp 6 (some 30) (zqB 34 127) (any_of HT_.out (by kernel_rfl)) (h := ?_)
       refine zqp 7 (some 31) (zqB 34 255) (any_of HT_.out (by kernel_rfl)) (h := ?_)
       refine zqp 8 (some 32) (zqB 34 511) (any_of HT_.out (by kernel_rfl)) (h := ?_)
       refine zqu 9 (some 33) (zqB 34 1023) (any_of HT_.out (by kernel_rfl)) (h := ?_)
       refine zqu 10 (some 34) (zqB 34 2047) (any_of HT_.out (by kernel_rfl)) (h := ?_)
       refine zqu 11 (some 35) (zqB 34 4095) (any_of HT_.out (by kernel_rfl)) (h := ?_)
       refine zqp 12 (some 36) (zqB 34 8191) (any_of HT_.out (by kernel_rfl)) (h := ?_)
       refine zqp 13 (some 37) (zqB 34 16383) (any_of HT_.out (by kernel_rfl)) (h := ?_)
       refine zqu 14 (some 38) (zqB 34 32767) (any_of HT_.out (by kernel_rfl)) (h := ?_)
       refine zqu 15 (some 39) (zqB 34 65535) (any_of HT_.out (by kernel_rfl)) (h := ?_)
       refine zqu 16 (some 40) (zqB 34 131071) (any_of HT_.out (by kernel_rfl)) (h := ?_)
       refine zqu 17 (some 41) (zqB 34 262143) (any_of HT_.out (by kernel_rfl)) (h := ?_)
       refine zqu 18 (some 42) (zqB 34 524287) (any_of HT_.out (by kernel_rfl)) (h := ?_)
       refine zqp 19 (some 43) (zqB 34 1048575) (any_of HT_.out (by kernel_rfl)) (h := ?_)
       refine zqp 20 (some 44) (zqB 34 2097151) (any_of HT_.out (by kernel_rfl)) (h := ?_)
       refine zqu 21 (some 45) (zqB 34 4194303) (any_of HT_.out (by kernel_rfl)) (h := ?_)
       refine zqu 22 (some 46) (zqB 34 8388607) (any_of HT_.out (by kernel_rfl)) (h := ?_)
       refine zqu 23 (some 47) (zqB 34 16777215) (any_of HT_.out (by kernel_rfl)) (h := ?_)
       refine zqu 24 (some 48) (zqB 34 33554431) (any_of HT_.out (by kernel_rfl)) (h := ?_)
       refine zqu 25 (some 49) (zqB 34 67108863) (any_of HT_.out (by kernel_rfl)) (h := ?_)
       refine zqu 26 (some 50) (zqB 34 134217727) (any_of HT_.out (by kernel_rfl)) (h := ?_)
       refine zqu 27 (some 51) (zqB 34 268435455) (any_of HT_.out (by kernel_rfl)) (h := ?_)
       refine zqu 28 (some 52) (zqB 34 536870911) (any_of HT_.out (by kernel_rfl)) (h := ?_)
       refine zqu 29 (some 53) (zqB 34 1073741823) (any_of HT_.out (by kernel_rfl)) (h := ?_)
       refine zqu 30 (some 54) (zqB 34 2147483647) (any_of HT_.out (by kernel_rfl)) (h := ?_)
       refine zqu 31 (some 55) (zqB 34 4294967295) (any_of HT_.out (by kernel_rfl)) (h := ?_)
       refine zqp 32 (some 56) (zqB 34 8589934591) (any_of HT_.out (by kernel_rfl)) (h := ?_)
       refine zqp 33 (some 23) (zqB 34 17179869183) (any_of HT_.out (by kernel_rfl)) (h := ?_)
       refine done_ (done_of HT_.out (by kernel_rfl)) ?_
       try go_wp2
       go_ret2
       exact ⟨by first | rfl | (simp [errW_none, errW_some] <;> rfl) | (simp [*, errW_none, errW_some] <;> rfl), by repeat (first | (with_reducible first | exact HB.out | apply zqg | apply zqf | apply zqh | refine below_set ?_ GE231.out | refine below_set ?_ GE232.out | refine below_set ?_ GE234.out) | exact HB.out)⟩
      ·
       rw [if_neg c27] at H
       have c27b0 : (a1_0 == 0) = false := beq_eq_false_iff_ne.mpr c27
       have c27b1 : (a1_0 != 0) = true := bne_iff_ne.mpr c27
       by_cases c30 : a1_7 = 0
       ·
        rw [if_pos c30] at H
        have c30b0 : (a1_7 == 0) = true := beq_iff_eq.mpr c30
        have c30b1 : (a1_7 != 0) = false := bne_eq_false_iff_eq.mpr c30
        clear c30
        replace H := Option.bind_eq_some_iff.mp H
        obtain ⟨t244, A310, H⟩ := H
        replace H : (if t244 = true then ((state_here_far.f a0_0 a0_1 a0_2 l0_3 a1_0 a1_1 a1_2 a1_3 a1_4 a1_5 a1_6 a1_7 0).bind fun t245 => (if 0 < (l0_3.length : Int) then (if (wrap64 (a1_2 + t245)) > ((rd_T23 l0_3 0).f4) then (some (0, false)) else ((state_here_far.f a0_0 a0_1 a0_2 l0_3 a1_0 a1_1 a1_2 a1_3 a1_4 a1_5 a1_6 a1_7 0).bind fun t247 => (some (t247, true)))) else (none))) else (some (0, false))) = some (r1, r2) := H
        have A31 := zqi A310
        clear A310
        by_cases c32 : t244 = true
        ·
         subst c32
         have H1 : ((state_here_far.f a0_0 a0_1 a0_2 l0_3 a1_0 a1_1 a1_2 a1_3 a1_4 a1_5 a1_6 a1_7 0).bind fun t245 => (if 0 < (l0_3.length : Int) then (if (wrap64 (a1_2 + t245)) > ((rd_T23 l0_3 0).f4) then (some (0, false)) else ((state_here_far.f a0_0 a0_1 a0_2 l0_3 a1_0 a1_1 a1_2 a1_3 a1_4 a1_5 a1_6 a1_7 0).bind fun t247 => (some (t247, true)))) else (none))) = some (r1, r2) := by rw [if_pos rfl] at H; exact H
         clear H
         have H := H1
         clear H1
         replace H := Option.bind_eq_some_iff.mp H
         obtain ⟨t245, A330, H⟩ := H
         replace H : (if 0 < (l0_3.length : Int) then (if (wrap64 (a1_2 + t245)) > ((rd_T23 l0_3 0).f4) then (some (0, false)) else ((state_here_far.f a0_0 a0_1 a0_2 l0_3 a1_0 a1_1 a1_2 a1_3 a1_4 a1_5 a1_6 a1_7 0).bind fun t247 => (some (t247, true)))) else (none)) = some (r1, r2) := H
         have A33 := zqi A330
         clear A330
         by_cases c34 : 0 < (l0_3.length : Int)
         ·
          rw [if_pos c34] at H
          have c34b0 : decide (0 < (l0_3.length : Int)) = true := decide_eq_true c34
          have c34b1 : decide (0 < l0_3.length) = true := decide_eq_true (by omega)
          clear c34
          by_cases c35 : (wrap64 (a1_2 + t245)) > ((rd_T23 l0_3 0).f4)
          ·
           rw [if_pos c35] at H
           have c35b0 : decide (((rd_T23 l0_3 0).f4) < (wrap64 (a1_2 + t245))) = true := decide_eq_true c35
           clear c35
           simp only [Option.some.injEq, Prod.mk.injEq] at H
           obtain ⟨rfl, rfl⟩ := H
           try go_wp2
           have n0_ := zqi (zqb BK231.out)
           have n1_ := zqi (zqb BK232.out)
           have n2_ := zqi (zqb BK234.out)
           have n3_ := zqi (zqh HB.out)
           clear BK231
           clear BK232
           clear BK234
           clear HB
           have BK231 := n0_
           have BK232 := n1_
           have BK234 := n2_
           have HB := n3_
           clear n0_ n1_ n2_ n3_
           have p246 : 0 ≤ (0 : Int) := (by omega)
           have q246 : 0 < (l0_3.length : Int) := of_decide_eq_true (by first | (with_reducible assumption) | assumption)
           obtain ⟨ad246, e246, hx246_0, hx246_1, hx246_2, hx246_3, hx246_4, hx246_5⟩ := at_T23 HR0_3.out 0 p246 q246
           have hw246_5 := hx246_5
           (try rw [show ((0 : Int)).toNat = 0 from rfl] at hw246_5)
           (try rw [show 0 * 6 = 0 from rfl] at hw246_5)
           (try rw [Addr.add_zero'] at hw246_5)
           have hw246_4 := hx246_4
           (try rw [show ((0 : Int)).toNat = 0 from rfl] at hw246_4)
           (try rw [show 0 * 6 = 0 from rfl] at hw246_4)
           (try rw [Addr.add_zero'] at hw246_4)
           have hw246_3 := hx246_3
           (try rw [show ((0 : Int)).toNat = 0 from rfl] at hw246_3)
           (try rw [show 0 * 6 = 0 from rfl] at hw246_3)
           (try rw [Addr.add_zero'] at hw246_3)
           have hw246_2 := hx246_2
           (try rw [show ((0 : Int)).toNat = 0 from rfl] at hw246_2)
           (try rw [show 0 * 6 = 0 from rfl] at hw246_2)
           (try rw [Addr.add_zero'] at hw246_2)
           have hw246_1 := hx246_1
           (try rw [show ((0 : Int)).toNat = 0 from rfl] at hw246_1)
           (try rw [show 0 * 6 = 0 from rfl] at hw246_1)
           (try rw [Addr.add_zero'] at hw246_1)
           have hw246_0 := hx246_0
           (try rw [show ((0 : Int)).toNat = 0 from rfl] at hw246_0)
           (try rw [show 0 * 6 = 0 from rfl] at hw246_0)
           (try rw [Addr.add_zero'] at hw246_0)
           cases e246
           have qi246 : (0 < l0_3.length) = True := eq_true (by omega)
           (try rw [show ((0 : Int)).toNat = 0 from rfl] at hx246_0)
           (try rw [show 0 * 6 = 0 from rfl] at hx246_0)
           (try rw [Addr.add_zero'] at hx246_0)
           (try rw [show ((0 : Int)).toNat = 0 from rfl] at hx246_1)
           (try rw [show 0 * 6 = 0 from rfl] at hx246_1)
           (try rw [Addr.add_zero'] at hx246_1)
           (try rw [show ((0 : Int)).toNat = 0 from rfl] at hx246_2)
           (try rw [show 0 * 6 = 0 from rfl] at hx246_2)
           (try rw [Addr.add_zero'] at hx246_2)
           (try rw [show ((0 : Int)).toNat = 0 from rfl] at hx246_3)
           (try rw [show 0 * 6 = 0 from rfl] at hx246_3)
           (try rw [Addr.add_zero'] at hx246_3)
           (try rw [show ((0 : Int)).toNat = 0 from rfl] at hx246_4)
           (try rw [show 0 * 6 = 0 from rfl] at hx246_4)
           (try rw [Addr.add_zero'] at hx246_4)
           (try rw [show ((0 : Int)).toNat = 0 from rfl] at hx246_5)
           (try rw [show 0 * 6 = 0 from rfl] at hx246_5)
           (try rw [Addr.add_zero'] at hx246_5)
           replace hx246_0 := (HB.out.cell (World.block_lt_of_cell? w _ hx246_0)).trans hx246_0
           replace hx246_1 := (HB.out.cell (World.block_lt_of_cell? w _ hx246_1)).trans hx246_1
           replace hx246_2 := (HB.out.cell (World.block_lt_of_cell? w _ hx246_2)).trans hx246_2
           replace hx246_3 := (HB.out.cell (World.block_lt_of_cell? w _ hx246_3)).trans hx246_3
           replace hx246_4 := (HB.out.cell (World.block_lt_of_cell? w _ hx246_4)).trans hx246_4
           replace hx246_5 := (HB.out.cell (World.block_lt_of_cell? w _ hx246_5)).trans hx246_5
           replace p246 := eq_true p246
           replace q246 := eq_true q246
           refine start_ (n := 34) (S := fun w' => w'.cell? ⟨gb234, 0, none⟩ = some (.int .i64 a0_0) ∧ w'.cell? ⟨gb234, 1, none⟩ = some (.int .i64 a0_1) ∧ w'.cell? ⟨gb234, 2, none⟩ = some (.int .i64 a0_2) ∧ w'.cell? ⟨gb234, 3, none⟩ = some (.slice (some ad246) l0_3.length c0_3) ∧ w'.cell? ⟨gb234, 4, none⟩ = some (.int .i64 a1_0) ∧ w'.cell? ⟨gb234, 5, none⟩ = some (.int .i64 a1_1) ∧ w'.cell? ⟨gb234, 6, none⟩ = some (.int .i64 a1_2) ∧ w'.cell? ⟨gb234, 7, none⟩ = some (.int .i64 a1_3) ∧ w'.cell? ⟨gb234, 8, none⟩ = some (.int .i64 a1_4) ∧ w'.cell? ⟨gb234, 9, none⟩ = some (.int .u64 a1_5) ∧ w'.cell? ⟨gb234, 10, none⟩ = some (.int .u64 a1_6) ∧ w'.cell? ⟨gb234, 11, none⟩ = some (.int .u64 a1_7) ∧ w'.cell? ⟨gb232, 0, none⟩ = some (.int .i64 a1_0) ∧ w'.cell? ⟨gb232, 1, none⟩ = some (.int .i64 a1_1) ∧ w'.cell? ⟨gb232, 2, none⟩ = some (.int .i64 a1_2) ∧ w'.cell? ⟨gb232, 3, none⟩ = some (.int .i64 a1_3) ∧ w'.cell? ⟨gb232, 4, none⟩ = some (.int .i64 a1_4) ∧ w'.cell? ⟨gb232, 5, none⟩ = some (.int .u64 a1_5) ∧ w'.cell? ⟨gb232, 6, none⟩ = some (.int .u64 a1_6) ∧ w'.cell? ⟨gb232, 7, none⟩ = some (.int .u64 a1_7) ∧ w'.cell? ⟨gb231, 0, none⟩ = some (.int .i64 a0_0) ∧ w'.cell? ⟨gb231, 1, none⟩ = some (.int .i64 a0_1) ∧ w'.cell? ⟨gb231, 2, none⟩ = some (.int .i64 a0_2) ∧ w'.cell? ⟨gb231, 3, none⟩ = some (.slice (some ad246) l0_3.length c0_3) ∧ w'.cell? ad246 = some (.int .i64 ((rd_T23 l0_3 0).f0)) ∧ w'.cell? ⟨ad246.block, ad246.off + 1, none⟩ = some (.int .i64 ((rd_T23 l0_3 0).f1)) ∧ w'.cell? ⟨ad246.block, ad246.off + 2, none⟩ = some (.int .i64 ((rd_T23 l0_3 0).f2)) ∧ w'.cell? ⟨ad246.block, ad246.off + 3, none⟩ = some (.int .i64 ((rd_T23 l0_3 0).f3)) ∧ w'.cell? ⟨ad246.block, ad246.off + 4, none⟩ = some (.int .i64 ((rd_T23 l0_3 0).f4)) ∧ w'.cell? ⟨ad246.block, ad246.off + 5, none⟩ = some (.int .i64 ((rd_T23 l0_3 0).f5))) (ds := []) (zqB 34 0) (by kernel_rfl) rfl rfl ⟨(zqe BK234.out 0).trans rfl, (zqe BK234.out 1).trans rfl, (zqe BK234.out 2).trans rfl, (zqe BK234.out 3).trans rfl, (zqe BK234.out 4).trans rfl, (zqe BK234.out 5).trans rfl, (zqe BK234.out 6).trans rfl, (zqe BK234.out 7).trans rfl, (zqe BK234.out 8).trans rfl, (zqe BK234.out 9).trans rfl, (zqe BK234.out 10).trans rfl, (zqe BK234.out 11).trans rfl, (zqe BK232.out 0).trans rfl, (zqe BK232.out 1).trans rfl, (zqe BK232.out 2).trans rfl, (zqe BK232.out 3).trans rfl, (zqe BK232.out 4).trans rfl, (zqe BK232.out 5).trans rfl, (zqe BK232.out 6).trans rfl, (zqe BK232.out 7).trans rfl, (zqe BK231.out 0).trans rfl, (zqe BK231.out 1).trans rfl, (zqe BK231.out 2).trans rfl, (zqe BK231.out 3).trans rfl, ((HB.out.cell (World.block_lt_of_cell? w _ hw246_0)).trans hw246_0), ((HB.out.cell (World.block_lt_of_cell? w _ hw246_1)).trans hw246_1), ((HB.out.cell (World.block_lt_of_cell? w _ hw246_2)).trans hw246_2), ((HB.out.cell (World.block_lt_of_cell? w _ hw246_3)).trans hw246_3), ((HB.out.cell (World.block_lt_of_cell? w _ hw246_4)).trans hw246_4), ((HB.out.cell (World.block_lt_of_cell? w _ hw246_5)).trans hw246_5)⟩ (fun hHeld => ?_); refine with_tabW state_End.tab6 state_End.bits6 (fun HT_ HW_ => ?_)
           generalize wc.drew = w36 at BK231 BK232 BK234 HB hx246_0 hx246_1 hx246_2 hx246_3 hx246_4 hx246_5 hHeld ⊢
           refine zqt 0 (some 24) (zqB 34 1) (take_ofW HT_.out HW_.out (by kernel_rfl)) hHeld (h := ?_)
           refine one_ (i := 1) (N := some 25) (zqB 34 3) rfl rfl (one_of HT_.out (by kernel_rfl)) (by decide) (fun K hK => ?_)
           refine goes_ Try.func37 (by kernel_rfl) rfl #[.agg #[.int .i64 a0_0, .int .i64 a0_1, .int .i64 a0_2, .slice (some ad246) l0_3.length c0_3, .int .i64 a1_0, .int .i64 a1_1, .int .i64 a1_2, .int .i64 a1_3, .int .i64 a1_4, .int .u64 a1_5, .int .u64 a1_6, .int .u64 a1_7]] (by rfl) rfl rfl (by (try simp only [List.map_toArray, List.map_cons, List.map_nil]); first | done | rfl | (simp only [List.length_drop, List.length_take]; rfl)) ?_
           with_reducible refine (state_here_may.calls a0_0 a0_1 a0_2 _ _ l0_3 a1_0 a1_1 a1_2 a1_3 a1_4 a1_5 a1_6 a1_7 true _ ?side1 ?side2 A25.out).mono ?_
           (case side1 => repeat (first | exact (Kd.C_below HR0_3.out HB.out) | (with_reducible refine Kd.C_alloc ?_ _) | (with_reducible refine Kd.C_drewN ?_ _) | (with_reducible refine Kd.C_drew ?_)))
           (case side2 => exact HC0_3.out)
           rintro e w37 ⟨rfl, hb⟩
           refine ⟨_, rfl, ?_⟩
           have n0_ := zqi (zqy BK231.out hb)
           have n1_ := zqi (zqy BK232.out hb)
           have n2_ := zqi (zqy BK234.out hb)
           have n3_ := zqi (below_step (zqn HB.out) hb)
           clear BK231
           clear BK232
           clear BK234
           clear HB
           have BK231 := n0_
           have BK232 := n1_
           have BK234 := n2_
           have HB := n3_
           clear n0_ n1_ n2_ n3_
           (try clear hb)
           (try clear hb2)
           (try clear hk)
           (try clear hi)
           refine hK.out _ _ ⟨(zqe BK234.out 0).trans rfl, (zqe BK234.out 1).trans rfl, (zqe BK234.out 2).trans rfl, (zqe BK234.out 3).trans rfl, (zqe BK234.out 4).trans rfl, (zqe BK234.out 5).trans rfl, (zqe BK234.out 6).trans rfl, (zqe BK234.out 7).trans rfl, (zqe BK234.out 8).trans rfl, (zqe BK234.out 9).trans rfl, (zqe BK234.out 10).trans rfl, (zqe BK234.out 11).trans rfl, (zqe BK232.out 0).trans rfl, (zqe BK232.out 1).trans rfl, (zqe BK232.out 2).trans rfl, (zqe BK232.out 3).trans rfl, (zqe BK232.out 4).trans rfl, (zqe BK232.out 5).trans rfl, (zqe BK232.out 6).trans rfl, (zqe BK232.out 7).trans rfl, (zqe BK231.out 0).trans rfl, (zqe BK231.out 1).trans rfl, (zqe BK231.out 2).trans rfl, (zqe BK231.out 3).trans rfl, ((HB.out.cell (World.block_lt_of_cell? w _ hw246_0)).trans hw246_0), ((HB.out.cell (World.block_lt_of_cell? w _ hw246_1)).trans hw246_1), ((HB.out.cell (World.block_lt_of_cell? w _ hw246_2)).trans hw246_2), ((HB.out.cell (World.block_lt_of_cell? w _ hw246_3)).trans hw246_3), ((HB.out.cell (World.block_lt_of_cell? w _ hw246_4)).trans hw246_4), ((HB.out.cell (World.block_lt_of_cell? w _ hw246_5)).trans hw246_5)⟩ (fun hHeld => ?_)
           clear hK K
           refine norm_ (a' := ?_) ?_ ?_
           rotate_left
           ·
            show Act.put _ (some 25) _ = _
            simp only [Act.put, List.setIfInBounds_toArray, List.set_cons_zero, List.set_cons_succ, i64_w, i32_w]
            rfl
           refine zqp 2 (some 26) (zqB 34 7) (any_of HT_.out (by kernel_rfl)) (h := ?_)
           refine zqp 3 (some 27) (zqB 34 15) (any_of HT_.out (by kernel_rfl)) (h := ?_)
           refine zqp 4 (some 28) (zqB 34 31) (any_of HT_.out (by kernel_rfl)) (h := ?_)
           refine zqt 5 (some 29) (zqB 34 63) (take_ofW HT_.out HW_.out (by kernel_rfl)) hHeld (h := ?_)
           refine zqp 6 (some 30) (zqB 34 127) (any_of HT_.out (by kernel_rfl)) (h := ?_)
           refine zqp 7 (some 31) (zqB 34 255) (any_of HT_.out (by kernel_rfl)) (h := ?_)
           refine zqp 8 (some 32) (zqB 34 511) (any_of HT_.out (by kernel_rfl)) (h := ?_)
           refine zqp 9 (some 33) (zqB 34 1023) (any_of HT_.out (by kernel_rfl)) (h := ?_)
           refine zqt 10 (some 34) (zqB 34 2047) (take_ofW HT_.out HW_.out (by kernel_rfl)) hHeld (h := ?_)
           refine zqp 11 (some 35) (zqB 34 4095) (any_of HT_.out (by kernel_rfl)) (h := ?_)
           refine zqp 12 (some 36) (zqB 34 8191) (any_of HT_.out (by kernel_rfl)) (h := ?_)
           refine zqp 13 (some 37) (zqB 34 16383) (any_of HT_.out (by kernel_rfl)) (h := ?_)
           refine zqp 15 (some 39) (zqB 34 49151) (any_of HT_.out (by kernel_rfl)) (h := ?_)
           refine zqt 14 (some 38) (zqB 34 65535) (take_ofW HT_.out HW_.out (by kernel_rfl)) hHeld (h := ?_)
           refine zqt 16 (some 40) (zqB 34 131071) (take_ofW HT_.out HW_.out (by kernel_rfl)) hHeld (h := ?_)
           refine one_ (i := 17) (N := some 41) (zqB 34 262143) rfl rfl (one_of HT_.out (by kernel_rfl)) (by decide) (fun K hK => ?_)
           refine goes_ Try.func40 (by kernel_rfl) rfl #[.agg #[.int .i64 a0_0, .int .i64 a0_1, .int .i64 a0_2, .slice (some ad246) l0_3.length c0_3, .int .i64 a1_0, .int .i64 a1_1, .int .i64 a1_2, .int .i64 a1_3, .int .i64 a1_4, .int .u64 a1_5, .int .u64 a1_6, .int .u64 a1_7], .int .u64 a1_6] (by rfl) rfl rfl (by (try simp only [List.map_toArray, List.map_cons, List.map_nil]); first | done | rfl | (simp only [List.length_drop, List.length_take]; rfl)) ?_
           with_reducible refine (state_here_all.calls kj4 a0_0 a0_1 a0_2 _ _ l0_3 a1_0 a1_1 a1_2 a1_3 a1_4 a1_5 a1_6 a1_7 a1_6 true _ ?side1 ?side2 A31.out).mono ?_
           (case side1 => repeat (first | exact (Kd.C_below HR0_3.out HB.out) | (with_reducible refine Kd.C_alloc ?_ _) | (with_reducible refine Kd.C_drewN ?_ _) | (with_reducible refine Kd.C_drew ?_)))
           (case side2 => exact HC0_3.out)
           rintro e w38 ⟨rfl, hb⟩
           refine ⟨_, rfl, ?_⟩
           have n0_ := zqi (zqy BK231.out hb)
           have n1_ := zqi (zqy BK232.out hb)
           have n2_ := zqi (zqy BK234.out hb)
           have n3_ := zqi (below_step (zqn HB.out) hb)
           clear BK231
           clear BK232
           clear BK234
           clear HB
           have BK231 := n0_
           have BK232 := n1_
           have BK234 := n2_
           have HB := n3_
           clear n0_ n1_ n2_ n3_
           (try clear hb)
           (try clear hb2)
           (try clear hk)
           (try clear hi)
           refine hK.out _ _ ⟨(zqe BK234.out 0).trans rfl, (zqe BK234.out 1).trans rfl, (zqe BK234.out 2).trans rfl, (zqe BK234.out 3).trans rfl, (zqe BK234.out 4).trans rfl, (zqe BK234.out 5).trans rfl, (zqe BK234.out 6).trans rfl, (zqe BK234.out 7).trans rfl, (zqe BK234.out 8).trans rfl, (zqe BK234.out 9).trans rfl, (zqe BK234.out 10).trans rfl, (zqe BK234.out 11).trans rfl, (zqe BK232.out 0).trans rfl, (zqe BK232.out 1).trans rfl, (zqe BK232.out 2).trans rfl, (zqe BK232.out 3).trans rfl, (zqe BK232.out 4).trans rfl, (zqe BK232.out 5).trans rfl, (zqe BK232.out 6).trans rfl, (zqe BK232.out 7).trans rfl, (zqe BK231.out 0).trans rfl, (zqe BK231.out 1).trans rfl, (zqe BK231.out 2).trans rfl, (zqe BK231.out 3).trans rfl, ((HB.out.cell (World.block_lt_of_cell? w _ hw246_0)).trans hw246_0), ((HB.out.cell (World.block_lt_of_cell? w _ hw246_1)).trans hw246_1), ((HB.out.cell (World.block_lt_of_cell? w _ hw246_2)).trans hw246_2), ((HB.out.cell (World.block_lt_of_cell? w _ hw246_3)).trans hw246_3), ((HB.out.cell (World.block_lt_of_cell? w _ hw246_4)).trans hw246_4), ((HB.out.cell (World.block_lt_of_cell? w _ hw246_5)).trans hw246_5)⟩ (fun hHeld => ?_)
           clear hK K
           refine norm_ (a' := ?_) ?_ ?_
           rotate_left
           ·
            show Act.put _ (some 41) _ = _
            simp only [Act.put, List.setIfInBounds_toArray, List.set_cons_zero, List.set_cons_succ, i64_w, i32_w]
            rfl
           refine zqp 18 (some 42) (zqB 34 524287) (any_of HT_.out (by kernel_rfl)) (h := ?_)
           refine zqp 19 (some 43) (zqB 34 1048575) (any_of HT_.out (by kernel_rfl)) (h := ?_)
           refine zqp 20 (some 44) (zqB 34 2097151) (any_of HT_.out (by kernel_rfl)) (h := ?_)
           refine zqp 21 (some 45) (zqB 34 4194303) (any_of HT_.out (by kernel_rfl)) (h := ?_)
           refine zqp 26 (some 50) (zqB 34 71303167) (any_of HT_.out (by kernel_rfl)) (h := ?_)
           refine zqt 22 (some 46) (zqB 34 75497471) (take_ofW HT_.out HW_.out (by kernel_rfl)) hHeld (h := ?_)
           refine zqt 23 (some 47) (zqB 34 83886079) (take_ofW HT_.out HW_.out (by kernel_rfl)) hHeld (h := ?_)
           refine zqt 27 (some 51) (zqB 34 218103807) (take_ofW HT_.out HW_.out (by kernel_rfl)) hHeld (h := ?_)
           refine zqp 28 (some 52) (zqB 34 486539263) (any_of HT_.out (by kernel_rfl)) (h := ?_)
           refine zqp 29 (some 53) (zqB 34 1023410175) (any_of HT_.out (by kernel_rfl)) (h := ?_)
           refine zqt 30 (some 54) (zqB 34 2097151999) (take_ofW HT_.out HW_.out (by kernel_rfl)) hHeld (h := ?_)
           refine one_ (i := 24) (N := some 48) (zqB 34 2113929215) rfl rfl (one_of HT_.out (by kernel_rfl)) (by decide) (fun K hK => ?_)
           refine goes_ Try.func41 (by kernel_rfl) rfl #[.agg #[.int .i64 a0_0, .int .i64 a0_1, .int .i64 a0_2, .slice (some ad246) l0_3.length c0_3, .int .i64 a1_0, .int .i64 a1_1, .int .i64 a1_2, .int .i64 a1_3, .int .i64 a1_4, .int .u64 a1_5, .int .u64 a1_6, .int .u64 a1_7], .int .i64 0] (by rfl) rfl rfl (by (try simp only [List.map_toArray, List.map_cons, List.map_nil]); first | done | rfl | (simp only [List.length_drop, List.length_take]; rfl)) ?_
           with_reducible refine (state_here_far.calls a0_0 a0_1 a0_2 _ _ l0_3 a1_0 a1_1 a1_2 a1_3 a1_4 a1_5 a1_6 a1_7 0 t245 _ ?side1 ?side2 A33.out).mono ?_
           (case side1 => repeat (first | exact (Kd.C_below HR0_3.out HB.out) | (with_reducible refine Kd.C_alloc ?_ _) | (with_reducible refine Kd.C_drewN ?_ _) | (with_reducible refine Kd.C_drew ?_)))
           (case side2 => exact HC0_3.out)
           rintro e w39 ⟨rfl, hb⟩
           refine ⟨_, rfl, ?_⟩
           have n0_ := zqi (zqy BK231.out hb)
           have n1_ := zqi (zqy BK232.out hb)
           have n2_ := zqi (zqy BK234.out hb)
           have n3_ := zqi (below_step (zqn HB.out) hb)
           clear BK231
           clear BK232
           clear BK234
           clear HB
           have BK231 := n0_
           have BK232 := n1_
           have BK234 := n2_
           have HB := n3_
           clear n0_ n1_ n2_ n3_
           (try clear hb)
           (try clear hb2)
           (try clear hk)
           (try clear hi)
           refine hK.out _ _ ⟨(zqe BK234.out 0).trans rfl, (zqe BK234.out 1).trans rfl, (zqe BK234.out 2).trans rfl, (zqe BK234.out 3).trans rfl, (zqe BK234.out 4).trans rfl, (zqe BK234.out 5).trans rfl, (zqe BK234.out 6).trans rfl, (zqe BK234.out 7).trans rfl, (zqe BK234.out 8).trans rfl, (zqe BK234.out 9).trans rfl, (zqe BK234.out 10).trans rfl, (zqe BK234.out 11).trans rfl, (zqe BK232.out 0).trans rfl, (zqe BK232.out 1).trans rfl, (zqe BK232.out 2).trans rfl, (zqe BK232.out 3).trans rfl, (zqe BK232.out 4).trans rfl, (zqe BK232.out 5).trans rfl, (zqe BK232.out 6).trans rfl, (zqe BK232.out 7).trans rfl, (zqe BK231.out 0).trans rfl, (zqe BK231.out 1).trans rfl, (zqe BK231.out 2).trans rfl, (zqe BK231.out 3).trans rfl, ((HB.out.cell (World.block_lt_of_cell? w _ hw246_0)).trans hw246_0), ((HB.out.cell (World.block_lt_of_cell? w _ hw246_1)).trans hw246_1), ((HB.out.cell (World.block_lt_of_cell? w _ hw246_2)).trans hw246_2), ((HB.out.cell (World.block_lt_of_cell? w _ hw246_3)).trans hw246_3), ((HB.out.cell (World.block_lt_of_cell? w _ hw246_4)).trans hw246_4), ((HB.out.cell (World.block_lt_of_cell? w _ hw246_5)).trans hw246_5)⟩ (fun hHeld => ?_)
           clear hK K
           refine norm_ (a' := ?_) ?_ ?_
           rotate_left
           ·
            show Act.put _ (some 48) _ = _
            simp only [Act.put, List.setIfInBounds_toArray, List.set_cons_zero, List.set_cons_succ, i64_w, i32_w]
            rfl
           refine zqp 25 (some 49) (zqB 34 2147483647) (any_of HT_.out (by kernel_rfl)) (h := ?_)
           refine zqp 31 (some 55) (zqB 34 4294967295) (any_of HT_.out (by kernel_rfl)) (h := ?_)
           refine zqp 32 (some 56) (zqB 34 8589934591) (any_of HT_.out (by kernel_rfl)) (h := ?_)
           refine zqp 33 (some 23) (zqB 34 17179869183) (any_of HT_.out (by kernel_rfl)) (h := ?_)
           refine done_ (done_of HT_.out (by kernel_rfl)) ?_
           try go_wp2
           go_ret2
           exact ⟨by first | rfl | (simp [errW_none, errW_some] <;> rfl) | (simp [*, errW_none, errW_some] <;> rfl), by repeat (first | (with_reducible first | exact HB.out | apply zqg | apply zqf | apply zqh | refine below_set ?_ GE231.out | refine below_set ?_ GE232.out | refine below_set ?_ GE234.out) | exact HB.out)⟩
          ·
           rw [if_neg c35] at H
           have c35b0 : decide (((rd_T23 l0_3 0).f4) < (wrap64 (a1_2 + t245))) = false := decide_eq_false c35
           clear c35
           replace H := Option.bind_eq_some_iff.mp H
           obtain ⟨t247, A400, H⟩ := H
           replace H : (some (t247, true)) = some (r1, r2) := H
           have A40 := zqi A400
           clear A400
           simp only [Option.some.injEq, Prod.mk.injEq] at H
           obtain ⟨rfl, rfl⟩ := H
           try go_wp2
           have n0_ := zqi (zqb BK231.out)
           have n1_ := zqi (zqb BK232.out)
           have n2_ := zqi (zqb BK234.out)
           have n3_ := zqi (zqh HB.out)
           clear BK231
           clear BK232
           clear BK234
           clear HB
           have BK231 := n0_
           have BK232 := n1_
           have BK234 := n2_
           have HB := n3_
           clear n0_ n1_ n2_ n3_
           have p246 : 0 ≤ (0 : Int) := (by omega)
           have q246 : 0 < (l0_3.length : Int) := of_decide_eq_true (by first | (with_reducible assumption) | assumption)
           obtain ⟨ad246, e246, hx246_0, hx246_1, hx246_2, hx246_3, hx246_4, hx246_5⟩ := at_T23 HR0_3.out 0 p246 q246
           have hw246_5 := hx246_5
           (try rw [show ((0 : Int)).toNat = 0 from rfl] at hw246_5)
           (try rw [show 0 * 6 = 0 from rfl] at hw246_5)
           (try rw [Addr.add_zero'] at hw246_5)
           have hw246_4 := hx246_4
           (try rw [show ((0 : Int)).toNat = 0 from rfl] at hw246_4)
           (try rw [show 0 * 6 = 0 from rfl] at hw246_4)
           (try rw [Addr.add_zero'] at hw246_4)
           have hw246_3 := hx246_3
           (try rw [show ((0 : Int)).toNat = 0 from rfl] at hw246_3)
           (try rw [show 0 * 6 = 0 from rfl] at hw246_3)
           (try rw [Addr.add_zero'] at hw246_3)
           have hw246_2 := hx246_2
           (try rw [show ((0 : Int)).toNat = 0 from rfl] at hw246_2)
           (try rw [show 0 * 6 = 0 from rfl] at hw246_2)
           (try rw [Addr.add_zero'] at hw246_2)
           have hw246_1 := hx246_1
           (try rw [show ((0 : Int)).toNat = 0 from rfl] at hw246_1)
           (try rw [show 0 * 6 = 0 from rfl] at hw246_1)
           (try rw [Addr.add_zero'] at hw246_1)
           have hw246_0 := hx246_0
           (try rw [show ((0 : Int)).toNat = 0 from rfl] at hw246_0)
           (try rw [show 0 * 6 = 0 from rfl] at hw246_0)
           (try rw [Addr.add_zero'] at hw246_0)
           cases e246
           have qi246 : (0 < l0_3.length) = True := eq_true (by omega)
           (try rw [show ((0 : Int)).toNat = 0 from rfl] at hx246_0)
           (try rw [show 0 * 6 = 0 from rfl] at hx246_0)
           (try rw [Addr.add_zero'] at hx246_0)
           (try rw [show ((0 : Int)).toNat = 0 from rfl] at hx246_1)
           (try rw [show 0 * 6 = 0 from rfl] at hx246_1)
           (try rw [Addr.add_zero'] at hx246_1)
           (try rw [show ((0 : Int)).toNat = 0 from rfl] at hx246_2)
           (try rw [show 0 * 6 = 0 from rfl] at hx246_2)
           (try rw [Addr.add_zero'] at hx246_2)
           (try rw [show ((0 : Int)).toNat = 0 from rfl] at hx246_3)
           (try rw [show 0 * 6 = 0 from rfl] at hx246_3)
           (try rw [Addr.add_zero'] at hx246_3)
           (try rw [show ((0 : Int)).toNat = 0 from rfl] at hx246_4)
           (try rw [show 0 * 6 = 0 from rfl] at hx246_4)
           (try rw [Addr.add_zero'] at hx246_4)
           (try rw [show ((0 : Int)).toNat = 0 from rfl] at hx246_5)
           (try rw [show 0 * 6 = 0 from rfl] at hx246_5)
           (try rw [Addr.add_zero'] at hx246_5)
           replace hx246_0 := (HB.out.cell (World.block_lt_of_cell? w _ hx246_0)).trans hx246_0
           replace hx246_1 := (HB.out.cell (World.block_lt_of_cell? w _ hx246_1)).trans hx246_1
           replace hx246_2 := (HB.out.cell (World.block_lt_of_cell? w _ hx246_2)).trans hx246_2
           replace hx246_3 := (HB.out.cell (World.block_lt_of_cell? w _ hx246_3)).trans hx246_3
           replace hx246_4 := (HB.out.cell (World.block_lt_of_cell? w _ hx246_4)).trans hx246_4
           replace hx246_5 := (HB.out.cell (World.block_lt_of_cell? w _ hx246_5)).trans hx246_5
           replace p246 := eq_true p246
           replace q246 := eq_true q246
           refine start_ (n := 34) (S := fun w' => w'.cell? ⟨gb234, 0, none⟩ = some (.int .i64 a0_0) ∧ w'.cell? ⟨gb234, 1, none⟩ = some (.int .i64 a0_1) ∧ w'.cell? ⟨gb234, 2, none⟩ = some (.int .i64 a0_2) ∧ w'.cell? ⟨gb234, 3, none⟩ = some (.slice (some ad246) l0_3.length c0_3) ∧ w'.cell? ⟨gb234, 4, none⟩ = some (.int .i64 a1_0) ∧ w'.cell? ⟨gb234, 5, none⟩ = some (.int .i64 a1_1) ∧ w'.cell? ⟨gb234, 6, none⟩ = some (.int .i64 a1_2) ∧ w'.cell? ⟨gb234, 7, none⟩ = some (.int .i64 a1_3) ∧ w'.cell? ⟨gb234, 8, none⟩ = some (.int .i64 a1_4) ∧ w'.cell? ⟨gb234, 9, none⟩ = some (.int .u64 a1_5) ∧ w'.cell? ⟨gb234, 10, none⟩ = some (.int .u64 a1_6) ∧ w'.cell? ⟨gb234, 11, none⟩ = some (.int .u64 a1_7) ∧ w'.cell? ⟨gb232, 0, none⟩ = some (.int .i64 a1_0) ∧ w'.cell? ⟨gb232, 1, none⟩ = some (.int .i64 a1_1) ∧ w'.cell? ⟨gb232, 2, none⟩ = some (.int .i64 a1_2) ∧ w'.cell? ⟨gb232, 3, none⟩ = some (.int .i64 a1_3) ∧ w'.cell? ⟨gb232, 4, none⟩ = some (.int .i64 a1_4) ∧ w'.cell? ⟨gb232, 5, none⟩ = some (.int .u64 a1_5) ∧ w'.cell? ⟨gb232, 6, none⟩ = some (.int .u64 a1_6) ∧ w'.cell? ⟨gb232, 7, none⟩ = some (.int .u64 a1_7) ∧ w'.cell? ⟨gb231, 0, none⟩ = some (.int .i64 a0_0) ∧ w'.cell? ⟨gb231, 1, none⟩ = some (.int .i64 a0_1) ∧ w'.cell? ⟨gb231, 2, none⟩ = some (.int .i64 a0_2) ∧ w'.cell? ⟨gb231, 3, none⟩ = some (.slice (some ad246) l0_3.length c0_3) ∧ w'.cell? ad246 = some (.int .i64 ((rd_T23 l0_3 0).f0)) ∧ w'.cell? ⟨ad246.block, ad246.off + 1, none⟩ = some (.int .i64 ((rd_T23 l0_3 0).f1)) ∧ w'.cell? ⟨ad246.block, ad246.off + 2, none⟩ = some (.int .i64 ((rd_T23 l0_3 0).f2)) ∧ w'.cell? ⟨ad246.block, ad246.off + 3, none⟩ = some (.int .i64 ((rd_T23 l0_3 0).f3)) ∧ w'.cell? ⟨ad246.block, ad246.off + 4, none⟩ = some (.int .i64 ((rd_T23 l0_3 0).f4)) ∧ w'.cell? ⟨ad246.block, ad246.off + 5, none⟩ = some (.int .i64 ((rd_T23 l0_3 0).f5))) (ds := []) (zqB 34 0) (by kernel_rfl) rfl rfl ⟨(zqe BK234.out 0).trans rfl, (zqe BK234.out 1).trans rfl, (zqe BK234.out 2).trans rfl, (zqe BK234.out 3).trans rfl, (zqe BK234.out 4).trans rfl, (zqe BK234.out 5).trans rfl, (zqe BK234.out 6).trans rfl, (zqe BK234.out 7).trans rfl, (zqe BK234.out 8).trans rfl, (zqe BK234.out 9).trans rfl, (zqe BK234.out 10).trans rfl, (zqe BK234.out 11).trans rfl, (zqe BK232.out 0).trans rfl, (zqe BK232.out 1).trans rfl, (zqe BK232.out 2).trans rfl, (zqe BK232.out 3).trans rfl, (zqe BK232.out 4).trans rfl, (zqe BK232.out 5).trans rfl, (zqe BK232.out 6).trans rfl, (zqe BK232.out 7).trans rfl, (zqe BK231.out 0).trans rfl, (zqe BK231.out 1).trans rfl, (zqe BK231.out 2).trans rfl, (zqe BK231.out 3).trans rfl, ((HB.out.cell (World.block_lt_of_cell? w _ hw246_0)).trans hw246_0), ((HB.out.cell (World.block_lt_of_cell? w _ hw246_1)).trans hw246_1), ((HB.out.cell (World.block_lt_of_cell? w _ hw246_2)).trans hw246_2), ((HB.out.cell (World.block_lt_of_cell? w _ hw246_3)).trans hw246_3), ((HB.out.cell (World.block_lt_of_cell? w _ hw246_4)).trans hw246_4), ((HB.out.cell (World.block_lt_of_cell? w _ hw246_5)).trans hw246_5)⟩ (fun hHeld => ?_); refine with_tabW state_End.tab6 state_End.bits6 (fun HT_ HW_ => ?_)
           generalize wc.drew = w41 at BK231 BK232 BK234 HB hx246_0 hx246_1 hx246_2 hx246_3 hx246_4 hx246_5 hHeld ⊢
           refine zqt 0 (some 24) (zqB 34 1) (take_ofW HT_.out HW_.out (by kernel_rfl)) hHeld (h := ?_)
           refine one_ (i := 1) (N := some 25) (zqB 34 3) rfl rfl (one_of HT_.out (by kernel_rfl)) (by decide) (fun K hK => ?_)
           refine goes_ Try.func37 (by kernel_rfl) rfl #[.agg #[.int .i64 a0_0, .int .i64 a0_1, .int .i64 a0_2, .slice (some ad246) l0_3.length c0_3, .int .i64 a1_0, .int .i64 a1_1, .int .i64 a1_2, .int .i64 a1_3, .int .i64 a1_4, .int .u64 a1_5, .int .u64 a1_6, .int .u64 a1_7]] (by rfl) rfl rfl (by (try simp only [List.map_toArray, List.map_cons, List.map_nil]); first | done | rfl | (simp only [List.length_drop, List.length_take]; rfl)) ?_
           with_reducible refine (state_here_may.calls a0_0 a0_1 a0_2 _ _ l0_3 a1_0 a1_1 a1_2 a1_3 a1_4 a1_5 a1_6 a1_7 true _ ?side1 ?side2 A25.out).mono ?_
           (case side1 => repeat (first | exact (Kd.C_below HR0_3.out HB.out) | (with_reducible refine Kd.C_alloc ?_ _) | (with_reducible refine Kd.C_drewN ?_ _) | (with_reducible refine Kd.C_drew ?_)))
           (case side2 => exact HC0_3.out)
           rintro e w42 ⟨rfl, hb⟩
           refine ⟨_, rfl, ?_⟩
           have n0_ := zqi (zqy BK231.out hb)
           have n1_ := zqi (zqy BK232.out hb)
           have n2_ := zqi (zqy BK234.out hb)
           have n3_ := zqi (below_step (zqn HB.out) hb)
           clear BK231
           clear BK232
           clear BK234
           clear HB
           have BK231 := n0_
           have BK232 := n1_
           have BK234 := n2_
           have HB := n3_
           clear n0_ n1_ n2_ n3_
           (try clear hb)
           (try clear hb2)
           (try clear hk)
           (try clear hi)
           refine hK.out _ _ ⟨(zqe BK234.out 0).trans rfl, (zqe BK234.out 1).trans rfl, (zqe BK234.out 2).trans rfl, (zqe BK234.out 3).trans rfl, (zqe BK234.out 4).trans rfl, (zqe BK234.out 5).trans rfl, (zqe BK234.out 6).trans rfl, (zqe BK234.out 7).trans rfl, (zqe BK234.out 8).trans rfl, (zqe BK234.out 9).trans rfl, (zqe BK234.out 10).trans rfl, (zqe BK234.out 11).trans rfl, (zqe BK232.out 0).trans rfl, (zqe BK232.out 1).trans rfl, (zqe BK232.out 2).trans rfl, (zqe BK232.out 3).trans rfl, (zqe BK232.out 4).trans rfl, (zqe BK232.out 5).trans rfl, (zqe BK232.out 6).trans rfl, (zqe BK232.out 7).trans rfl, (zqe BK231.out 0).trans rfl, (zqe BK231.out 1).trans rfl, (zqe BK231.out 2).trans rfl, (zqe BK231.out 3).trans rfl, ((HB.out.cell (World.block_lt_of_cell? w _ hw246_0)).trans hw246_0), ((HB.out.cell (World.block_lt_of_cell? w _ hw246_1)).trans hw246_1), ((HB.out.cell (World.block_lt_of_cell? w _ hw246_2)).trans hw246_2), ((HB.out.cell (World.block_lt_of_cell? w _ hw246_3)).trans hw246_3), ((HB.out.cell (World.block_lt_of_cell? w _ hw246_4)).trans hw246_4), ((HB.out.cell (World.block_lt_of_cell? w _ hw246_5)).trans hw246_5)⟩ (fun hHeld => ?_)
           clear hK K
           refine norm_ (a' := ?_) ?_ ?_
           rotate_left
           ·
            show Act.put _ (some 25) _ = _
            simp only [Act.put, List.setIfInBounds_toArray, List.set_cons_zero, List.set_cons_succ, i64_w, i32_w]
            rfl
           refine zqp 2 (some 26) (zqB 34 7) (any_of HT_.out (by kernel_rfl)) (h := ?_)
           refine zqp 3 (some 27) (zqB 34 15) (any_of HT_.out (by kernel_rfl)) (h := ?_)
           refine zqp 4 (some 28) (zqB 34 31) (any_of HT_.out (by kernel_rfl)) (h := ?_)
           refine zqt 5 (some 29) (zqB 34 63) (take_ofW HT_.out HW_.out (by kernel_rfl)) hHeld (h := ?_)
           refine zqp 6 (some 30) (zqB 34 127) (any_of HT_.out (by kernel_rfl)) (h := ?_)
           refine zqp 7 (some 31) (zqB 34 255) (any_of HT_.out (by kernel_rfl)) (h := ?_)
           refine zqp 8 (some 32) (zqB 34 511) (any_of HT_.out (by kernel_rfl)) (h := ?_)
           refine zqp 9 (some 33) (zqB 34 1023) (any_of HT_.out (by kernel_rfl)) (h := ?_)
           refine zqt 10 (some 34) (zqB 34 2047) (take_ofW HT_.out HW_.out (by kernel_rfl)) hHeld (h := ?_)
           refine zqp 11 (some 35) (zqB 34 4095) (any_of HT_.out (by kernel_rfl)) (h := ?_)
           refine zqp 12 (some 36) (zqB 34 8191) (any_of HT_.out (by kernel_rfl)) (h := ?_)
           refine zqp 13 (some 37) (zqB 34 16383) (any_of HT_.out (by kernel_rfl)) (h := ?_)
           refine zqp 15 (some 39) (zqB 34 49151) (any_of HT_.out (by kernel_rfl)) (h := ?_)
           refine zqt 14 (some 38) (zqB 34 65535) (take_ofW HT_.out HW_.out (by kernel_rfl)) hHeld (h := ?_)
           refine zqt 16 (some 40) (zqB 34 131071) (take_ofW HT_.out HW_.out (by kernel_rfl)) hHeld (h := ?_)
           refine one_ (i := 17) (N := some 41) (zqB 34 262143) rfl rfl (one_of HT_.out (by kernel_rfl)) (by decide) (fun K hK => ?_)
           refine goes_ Try.func40 (by kernel_rfl) rfl #[.agg #[.int .i64 a0_0, .int .i64 a0_1, .int .i64 a0_2, .slice (some ad246) l0_3.length c0_3, .int .i64 a1_0, .int .i64 a1_1, .int .i64 a1_2, .int .i64 a1_3, .int .i64 a1_4, .int .u64 a1_5, .int .u64 a1_6, .int .u64 a1_7], .int .u64 a1_6] (by rfl) rfl rfl (by (try simp only [List.map_toArray, List.map_cons, List.map_nil]); first | done | rfl | (simp only [List.length_drop, List.length_take]; rfl)) ?_
           with_reducible refine (state_here_all.calls kj4 a0_0 a0_1 a0_2 _ _ l0_3 a1_0 a1_1 a1_2 a1_3 a1_4 a1_5 a1_6 a1_7 a1_6 true _ ?side1 ?side2 A31.out).mono ?_
           (case side1 => repeat (first | exact (Kd.C_below HR0_3.out HB.out) | (with_reducible refine Kd.C_alloc ?_ _) | (with_reducible refine Kd.C_drewN ?_ _) | (with_reducible refine Kd.C_drew ?_)))
           (case side2 => exact HC0_3.out)
           rintro e w43 ⟨rfl, hb⟩
           refine ⟨_, rfl, ?_⟩
           have n0_ := zqi (zqy BK231.out hb)
           have n1_ := zqi (zqy BK232.out hb)
           have n2_ := zqi (zqy BK234.out hb)
           have n3_ := zqi (below_step (zqn HB.out) hb)
           clear BK231
           clear BK232
           clear BK234
           clear HB
           have BK231 := n0_
           have BK232 := n1_
           have BK234 := n2_
           have HB := n3_
           clear n0_ n1_ n2_ n3_
           (try clear hb)
           (try clear hb2)
           (try clear hk)
           (try clear hi)
           refine hK.out _ _ ⟨(zqe BK234.out 0).trans rfl, (zqe BK234.out 1).trans rfl, (zqe BK234.out 2).trans rfl, (zqe BK234.out 3).trans rfl, (zqe BK234.out 4).trans rfl, (zqe BK234.out 5).trans rfl, (zqe BK234.out 6).trans rfl, (zqe BK234.out 7).trans rfl, (zqe BK234.out 8).trans rfl, (zqe BK234.out 9).trans rfl, (zqe BK234.out 10).trans rfl, (zqe BK234.out 11).trans rfl, (zqe BK232.out 0).trans rfl, (zqe BK232.out 1).trans rfl, (zqe BK232.out 2).trans rfl, (zqe BK232.out 3).trans rfl, (zqe BK232.out 4).trans rfl, (zqe BK232.out 5).trans rfl, (zqe BK232.out 6).trans rfl, (zqe BK232.out 7).trans rfl, (zqe BK231.out 0).trans rfl, (zqe BK231.out 1).trans rfl, (zqe BK231.out 2).trans rfl, (zqe BK231.out 3).trans rfl, ((HB.out.cell (World.block_lt_of_cell? w _ hw246_0)).trans hw246_0), ((HB.out.cell (World.block_lt_of_cell? w _ hw246_1)).trans hw246_1), ((HB.out.cell (World.block_lt_of_cell? w _ hw246_2)).trans hw246_2), ((HB.out.cell (World.block_lt_of_cell? w _ hw246_3)).trans hw246_3), ((HB.out.cell (World.block_lt_of_cell? w _ hw246_4)).trans hw246_4), ((HB.out.cell (World.block_lt_of_cell? w _ hw246_5)).trans hw246_5)⟩ (fun hHeld => ?_)
           clear hK K
           refine norm_ (a' := ?_) ?_ ?_
           rotate_left
           ·
            show Act.put _ (some 41) _ = _
            simp only [Act.put, List.setIfInBounds_toArray, List.set_cons_zero, List.set_cons_succ, i64_w, i32_w]
            rfl
           refine zqp 18 (some 42) (zqB 34 524287) (any_of HT_.out (by kernel_rfl)) (h := ?_)
           refine zqp 19 (some 43) (zqB 34 1048575) (any_of HT_.out (by kernel_rfl)) (h := ?_)
           refine zqp 20 (some 44) (zqB 34 2097151) (any_of HT_.out (by kernel_rfl)) (h := ?_)
           refine zqp 21 (some 45) (zqB 34 4194303) (any_of HT_.out (by kernel_rfl)) (h := ?_)
           refine zqp 26 (some 50) (zqB 34 71303167) (any_of HT_.out (by kernel_rfl)) (h := ?_)
           refine zqt 22 (some 46) (zqB 34 75497471) (take_ofW HT_.out HW_.out (by kernel_rfl)) hHeld (h := ?_)
           refine zqt 23 (some 47) (zqB 34 83886079) (take_ofW HT_.out HW_.out (by kernel_rfl)) hHeld (h := ?_)
           refine zqt 27 (some 51) (zqB 34 218103807) (take_ofW HT_.out HW_.out (by kernel_rfl)) hHeld (h := ?_)
           refine zqp 28 (some 52) (zqB 34 486539263) (any_of HT_.out (by kernel_rfl)) (h := ?_)
           refine zqp 29 (some 53) (zqB 34 1023410175) (any_of HT_.out (by kernel_rfl)) (h := ?_)
           refine zqt 30 (some 54) (zqB 34 2097151999) (take_ofW HT_.out HW_.out (by kernel_rfl)) hHeld (h := ?_)
           refine one_ (i := 24) (N := some 48) (zqB 34 2113929215) rfl rfl (one_of HT_.out (by kernel_rfl)) (by decide) (fun K hK => ?_)
           refine goes_ Try.func41 (by kernel_rfl) rfl #[.agg #[.int .i64 a0_0, .int .i64 a0_1, .int .i64 a0_2, .slice (some ad246) l0_3.length c0_3, .int .i64 a1_0, .int .i64 a1_1, .int .i64 a1_2, .int .i64 a1_3, .int .i64 a1_4, .int .u64 a1_5, .int .u64 a1_6, .int .u64 a1_7], .int .i64 0] (by rfl) rfl rfl (by (try simp only [List.map_toArray, List.map_cons, List.map_nil]); first | done | rfl | (simp only [List.length_drop, List.length_take]; rfl)) ?_
           with_reducible refine (state_here_far.calls a0_0 a0_1 a0_2 _ _ l0_3 a1_0 a1_1 a1_2 a1_3 a1_4 a1_5 a1_6 a1_7 0 t245 _ ?side1 ?side2 A33.out).mono ?_
           (case side1 => repeat (first | exact (Kd.C_below HR0_3.out HB.out) | (with_reducible refine Kd.C_alloc ?_ _) | (with_reducible refine Kd.C_drewN ?_ _) | (with_reducible refine Kd.C_drew ?_)))
           (case side2 => exact HC0_3.out)
           rintro e w44 ⟨rfl, hb⟩
           refine ⟨_, rfl, ?_⟩
           have n0_ := zqi (zqy BK231.out hb)
           have n1_ := zqi (zqy BK232.out hb)
           have n2_ := zqi (zqy BK234.out hb)
           have n3_ := zqi (below_step (zqn HB.out) hb)
           clear BK231
           clear BK232
           clear BK234
           clear HB
           have BK231 := n0_
           have BK232 := n1_
           have BK234 := n2_
           have HB := n3_
           clear n0_ n1_ n2_ n3_
           (try clear hb)
           (try clear hb2)
           (try clear hk)
           (try clear hi)
           refine hK.out _ _ ⟨(zqe BK234.out 0).trans rfl, (zqe BK234.out 1).trans rfl, (zqe BK234.out 2).trans rfl, (zqe BK234.out 3).trans rfl, (zqe BK234.out 4).trans rfl, (zqe BK234.out 5).trans rfl, (zqe BK234.out 6).trans rfl, (zqe BK234.out 7).trans rfl, (zqe BK234.out 8).trans rfl, (zqe BK234.out 9).trans rfl, (zqe BK234.out 10).trans rfl, (zqe BK234.out 11).trans rfl, (zqe BK232.out 0).trans rfl, (zqe BK232.out 1).trans rfl, (zqe BK232.out 2).trans rfl, (zqe BK232.out 3).trans rfl, (zqe BK232.out 4).trans rfl, (zqe BK232.out 5).trans rfl, (zqe BK232.out 6).trans rfl, (zqe BK232.out 7).trans rfl, (zqe BK231.out 0).trans rfl, (zqe BK231.out 1).trans rfl, (zqe BK231.out 2).trans rfl, (zqe BK231.out 3).trans rfl, ((HB.out.cell (World.block_lt_of_cell? w _ hw246_0)).trans hw246_0), ((HB.out.cell (World.block_lt_of_cell? w _ hw246_1)).trans hw246_1), ((HB.out.cell (World.block_lt_of_cell? w _ hw246_2)).trans hw246_2), ((HB.out.cell (World.block_lt_of_cell? w _ hw246_3)).trans hw246_3), ((HB.out.cell (World.block_lt_of_cell? w _ hw246_4)).trans hw246_4), ((HB.out.cell (World.block_lt_of_cell? w _ hw246_5)).trans hw246_5)⟩ (fun hHeld => ?_)
           clear hK K
           refine norm_ (a' := ?_) ?_ ?_
           rotate_left
           ·
            show Act.put _ (some 48) _ = _
            simp only [Act.put, List.setIfInBounds_toArray, List.set_cons_zero, List.set_cons_succ, i64_w, i32_w]
            rfl
           refine zqp 25 (some 49) (zqB 34 2147483647) (any_of HT_.out (by kernel_rfl)) (h := ?_)
           refine zqp 31 (some 55) (zqB 34 4294967295) (any_of HT_.out (by kernel_rfl)) (h := ?_)
           refine zqp 32 (some 56) (zqB 34 8589934591) (any_of HT_.out (by kernel_rfl)) (h := ?_)
           refine zqp 33 (some 23) (zqB 34 17179869183) (any_of HT_.out (by kernel_rfl)) (h := ?_)
           refine done_ (done_of HT_.out (by kernel_rfl)) ?_
           have hnb45 := NB234_231.out
           have hnc45 := NB231_234.out
           have hnb46 := NB234_232.out
           have hnc46 := NB232_234.out
           obtain ⟨hcz47_0, hcz47_1, hcz47_2, hcz47_3, hcz47_4, hcz47_5, hcz47_6, hcz47_7, hcz47_8, hcz47_9, hcz47_10, hcz47_11, hfz47_0, hfz47_1, hfz47_2, hfz47_3, hfz47_4, hfz47_5, hfz47_6, hfz47_7, hfz47_8, hfz47_9, hfz47_10, hfz47_11⟩ := zqz12 BK234.out
           try go_wp2_with (first | ((with_reducible refine gate_callee (f := 41) rfl ?_); refine goesL_ (some 58) rfl rfl Try.func41 (by kernel_rfl) rfl #[.agg #[.int .i64 a0_0, .int .i64 a0_1, .int .i64 a0_2, .slice (some ad246) l0_3.length c0_3, .int .i64 a1_0, .int .i64 a1_1, .int .i64 a1_2, .int .i64 a1_3, .int .i64 a1_4, .int .u64 a1_5, .int .u64 a1_6, .int .u64 a1_7], .int .i64 0] rfl (by (try simp only [List.map_toArray, List.map_cons, List.map_nil]); first | done | rfl | (simp only [List.length_drop, List.length_take]; rfl)) ?_; (with_reducible refine (state_here_far.calls a0_0 a0_1 a0_2 _ _ l0_3 a1_0 a1_1 a1_2 a1_3 a1_4 a1_5 a1_6 a1_7 0 t247 _ ?side1 ?side2 A40.out).mono ?_); (case side1 => repeat (first | exact (Kd.C_below HR0_3.out HB.out) | (with_reducible refine Kd.C_alloc ?_ _) | (with_reducible refine Kd.C_drewN ?_ _) | (with_reducible refine Kd.C_drew ?_))); (case side2 => exact HC0_3.out); rintro e w48 ⟨rfl, hb⟩; refine ⟨_, rfl, ?_⟩; have n0_ := zqi (zqy BK231.out hb); have n1_ := zqi (zqy BK232.out hb); have n2_ := zqi (zqy BK234.out hb); have n3_ := zqi (below_step (zqn HB.out) hb); clear BK231; clear BK232; clear BK234; clear HB; have BK231 := n0_; have BK232 := n1_; have BK234 := n2_; have HB := n3_; clear n0_ n1_ n2_ n3_; (try clear hb); (try clear hb2); (try clear hk); (try clear hi)))
           go_ret2
           exact ⟨by first | rfl | (simp [errW_none, errW_some] <;> rfl) | (simp [*, errW_none, errW_some] <;> rfl), by repeat (first | (with_reducible first | exact HB.out | apply zqg | apply zqf | apply zqh | refine below_set ?_ GE231.out | refine below_set ?_ GE232.out | refine below_set ?_ GE234.out) | exact HB.out)⟩
         ·
          rw [if_neg c34] at H
          exact absurd H (by simp)
        ·
         replace c32 := Bool.eq_false_iff.mpr c32
         subst c32
         have H1 : (some (0, false)) = some (r1, r2) := by rw [if_neg (show ¬ (false = true) by decide)] at H; exact H
         clear H
         have H := H1
         clear H1
         simp only [Option.some.injEq, Prod.mk.injEq] at H
         obtain ⟨rfl, rfl⟩ := H
         try go_wp2
         have n0_ := zqi (zqb BK231.out)
         have n1_ := zqi (zqb BK232.out)
         have n2_ := zqi (zqb BK234.out)
         have n3_ := zqi (zqh HB.out)
         clear BK231
         clear BK232
         clear BK234
         clear HB
         have BK231 := n0_
         have BK232 := n1_
         have BK234 := n2_
         have HB := n3_
         clear n0_ n1_ n2_ n3_
         refine start_ (n := 34) (S := fun w' => w'.cell? ⟨gb234, 0, none⟩ = some (.int .i64 a0_0) ∧ w'.cell? ⟨gb234, 1, none⟩ = some (.int .i64 a0_1) ∧ w'.cell? ⟨gb234, 2, none⟩ = some (.int .i64 a0_2) ∧ w'.cell? ⟨gb234, 3, none⟩ = some (.slice A0_3 l0_3.length c0_3) ∧ w'.cell? ⟨gb234, 4, none⟩ = some (.int .i64 a1_0) ∧ w'.cell? ⟨gb234, 5, none⟩ = some (.int .i64 a1_1) ∧ w'.cell? ⟨gb234, 6, none⟩ = some (.int .i64 a1_2) ∧ w'.cell? ⟨gb234, 7, none⟩ = some (.int .i64 a1_3) ∧ w'.cell? ⟨gb234, 8, none⟩ = some (.int .i64 a1_4) ∧ w'.cell? ⟨gb234, 9, none⟩ = some (.int .u64 a1_5) ∧ w'.cell? ⟨gb234, 10, none⟩ = some (.int .u64 a1_6) ∧ w'.cell? ⟨gb234, 11, none⟩ = some (.int .u64 a1_7) ∧ w'.cell? ⟨gb232, 0, none⟩ = some (.int .i64 a1_0) ∧ w'.cell? ⟨gb232, 1, none⟩ = some (.int .i64 a1_1) ∧ w'.cell? ⟨gb232, 2, none⟩ = some (.int .i64 a1_2) ∧ w'.cell? ⟨gb232, 3, none⟩ = some (.int .i64 a1_3) ∧ w'.cell? ⟨gb232, 4, none⟩ = some (.int .i64 a1_4) ∧ w'.cell? ⟨gb232, 5, none⟩ = some (.int .u64 a1_5) ∧ w'.cell? ⟨gb232, 6, none⟩ = some (.int .u64 a1_6) ∧ w'.cell? ⟨gb232, 7, none⟩ = some (.int .u64 a1_7)) (ds := []) (zqB 34 0) (by kernel_rfl) rfl rfl ⟨(zqe BK234.out 0).trans rfl, (zqe BK234.out 1).trans rfl, (zqe BK234.out 2).trans rfl, (zqe BK234.out 3).trans rfl, (zqe BK234.out 4).trans rfl, (zqe BK234.out 5).trans rfl, (zqe BK234.out 6).trans rfl, (zqe BK234.out 7).trans rfl, (zqe BK234.out 8).trans rfl, (zqe BK234.out 9).trans rfl, (zqe BK234.out 10).trans rfl, (zqe BK234.out 11).trans rfl, (zqe BK232.out 0).trans rfl, (zqe BK232.out 1).trans rfl, (zqe BK232.out 2).trans rfl, (zqe BK232.out 3).trans rfl, (zqe BK232.out 4).trans rfl, (zqe BK232.out 5).trans rfl, (zqe BK232.out 6).trans rfl, (zqe BK232.out 7).trans rfl⟩ (fun hHeld => ?_); refine with_tabW state_End.tab6 state_End.bits6 (fun HT_ HW_ => ?_)
         generalize wc.drew = w49 at BK231 BK232 BK234 HB hHeld ⊢
         refine zqt 0 (some 24) (zqB 34 1) (take_ofW HT_.out HW_.out (by kernel_rfl)) hHeld (h := ?_)
         refine one_ (i := 1) (N := some 25) (zqB 34 3) rfl rfl (one_of HT_.out (by kernel_rfl)) (by decide) (fun K hK => ?_)
         refine goes_ Try.func37 (by kernel_rfl) rfl #[.agg #[.int .i64 a0_0, .int .i64 a0_1, .int .i64 a0_2, .slice A0_3 l0_3.length c0_3, .int .i64 a1_0, .int .i64 a1_1, .int .i64 a1_2, .int .i64 a1_3, .int .i64 a1_4, .int .u64 a1_5, .int .u64 a1_6, .int .u64 a1_7]] (by rfl) rfl rfl (by (try simp only [List.map_toArray, List.map_cons, List.map_nil]); first | done | rfl | (simp only [List.length_drop, List.length_take]; rfl)) ?_
         with_reducible refine (state_here_may.calls a0_0 a0_1 a0_2 _ _ l0_3 a1_0 a1_1 a1_2 a1_3 a1_4 a1_5 a1_6 a1_7 true _ ?side1 ?side2 A25.out).mono ?_
         (case side1 => repeat (first | exact (Kd.C_below HR0_3.out HB.out) | (with_reducible refine Kd.C_alloc ?_ _) | (with_reducible refine Kd.C_drewN ?_ _) | (with_reducible refine Kd.C_drew ?_)))
         (case side2 => exact HC0_3.out)
         rintro e w50 ⟨rfl, hb⟩
         refine ⟨_, rfl, ?_⟩
         have n0_ := zqi (zqy BK231.out hb)
         have n1_ := zqi (zqy BK232.out hb)
         have n2_ := zqi (zqy BK234.out hb)
         have n3_ := zqi (below_step (zqn HB.out) hb)
         clear BK231
         clear BK232
         clear BK234
         clear HB
         have BK231 := n0_
         have BK232 := n1_
         have BK234 := n2_
         have HB := n3_
         clear n0_ n1_ n2_ n3_
         (try clear hb)
         (try clear hb2)
         (try clear hk)
         (try clear hi)
         refine hK.out _ _ ⟨(zqe BK234.out 0).trans rfl, (zqe BK234.out 1).trans rfl, (zqe BK234.out 2).trans rfl, (zqe BK234.out 3).trans rfl, (zqe BK234.out 4).trans rfl, (zqe BK234.out 5).trans rfl, (zqe BK234.out 6).trans rfl, (zqe BK234.out 7).trans rfl, (zqe BK234.out 8).trans rfl, (zqe BK234.out 9).trans rfl, (zqe BK234.out 10).trans rfl, (zqe BK234.out 11).trans rfl, (zqe BK232.out 0).trans rfl, (zqe BK232.out 1).trans rfl, (zqe BK232.out 2).trans rfl, (zqe BK232.out 3).trans rfl, (zqe BK232.out 4).trans rfl, (zqe BK232.out 5).trans rfl, (zqe BK232.out 6).trans rfl, (zqe BK232.out 7).trans rfl⟩ (fun hHeld => ?_)
         clear hK K
         refine norm_ (a' := ?_) ?_ ?_
         rotate_left
         ·
          show Act.put _ (some 25) _ = _
          simp only [Act.put, List.setIfInBounds_toArray, List.set_cons_zero, List.set_cons_succ, i64_w, i32_w]
          rfl
         refine zqp 2 (some 26) (zqB 34 7) (any_of HT_.out (by kernel_rfl)) (h := ?_)
         refine zqp 3 (some 27) (zqB 34 15) (any_of HT_.out (by kernel_rfl)) (h := ?_)
         refine zqp 4 (some 28) (zqB 34 31) (any_of HT_.out (by kernel_rfl)) (h := ?_)
         refine zqt 5 (some 29) (zqB 34 63) (take_ofW HT_.out HW_.out (by kernel_rfl)) hHeld (h := ?_)
         refine zqp 6 (some 30) (zqB 34 127) (any_of HT_.out (by kernel_rfl)) (h := ?_)
         refine zqp 7 (some 31) (zqB 34 255) (any_of HT_.out (by kernel_rfl)) (h := ?_)
         refine zqp 8 (some 32) (zqB 34 511) (any_of HT_.out (by kernel_rfl)) (h := ?_)
         refine zqp 9 (some 33) (zqB 34 1023) (any_of HT_.out (by kernel_rfl)) (h := ?_)
         refine zqt 10 (some 34) (zqB 34 2047) (take_ofW HT_.out HW_.out (by kernel_rfl)) hHeld (h := ?_)
         refine zqp 11 (some 35) (zqB 34 4095) (any_of HT_.out (by kernel_rfl)) (h := ?_)
         refine zqp 12 (some 36) (zqB 34 8191) (any_of HT_.out (by kernel_rfl)) (h := ?_)
         refine zqp 13 (some 37) (zqB 34 16383) (any_of HT_.out (by kernel_rfl)) (h := ?_)
         refine zqp 15 (some 39) (zqB 34 49151) (any_of HT_.out (by kernel_rfl)) (h := ?_)
         refine zqt 14 (some 38) (zqB 34 65535) (take_ofW HT_.out HW_.out (by kernel_rfl)) hHeld (h := ?_)
         refine zqt 16 (some 40) (zqB 34 131071) (take_ofW HT_.out HW_.out (by kernel_rfl)) hHeld (h := ?_)
         refine one_ (i := 17) (N := some 41) (zqB 34 262143) rfl rfl (one_of HT_.out (by kernel_rfl)) (by decide) (fun K hK => ?_)
         refine goes_ Try.func40 (by kernel_rfl) rfl #[.agg #[.int .i64 a0_0, .int .i64 a0_1, .int .i64 a0_2, .slice A0_3 l0_3.length c0_3, .int .i64 a1_0, .int .i64 a1_1, .int .i64 a1_2, .int .i64 a1_3, .int .i64 a1_4, .int .u64 a1_5, .int .u64 a1_6, .int .u64 a1_7], .int .u64 a1_6] (by rfl) rfl rfl (by (try simp only [List.map_toArray, List.map_cons, List.map_nil]); first | done | rfl | (simp only [List.length_drop, List.length_take]; rfl)) ?_
         with_reducible refine (state_here_all.calls kj4 a0_0 a0_1 a0_2 _ _ l0_3 a1_0 a1_1 a1_2 a1_3 a1_4 a1_5 a1_6 a1_7 a1_6 false _ ?side1 ?side2 A31.out).mono ?_
         (case side1 => repeat (first | exact (Kd.C_below HR0_3.out HB.out) | (with_reducible refine Kd.C_alloc ?_ _) | (with_reducible refine Kd.C_drewN ?_ _) | (with_reducible refine Kd.C_drew ?_)))
         (case side2 => exact HC0_3.out)
         rintro e w51 ⟨rfl, hb⟩
         refine ⟨_, rfl, ?_⟩
         have n0_ := zqi (zqy BK231.out hb)
         have n1_ := zqi (zqy BK232.out hb)
         have n2_ := zqi (zqy BK234.out hb)
         have n3_ := zqi (below_step (zqn HB.out) hb)
         clear BK231
         clear BK232
         clear BK234
         clear HB
         have BK231 := n0_
         have BK232 := n1_
         have BK234 := n2_
         have HB := n3_
         clear n0_ n1_ n2_ n3_
         (try clear hb)
         (try clear hb2)
         (try clear hk)
         (try clear hi)
         refine hK.out _ _ ⟨(zqe BK234.out 0).trans rfl, (zqe BK234.out 1).trans rfl, (zqe BK234.out 2).trans rfl, (zqe BK234.out 3).trans rfl, (zqe BK234.out 4).trans rfl, (zqe BK234.out 5).trans rfl, (zqe BK234.out 6).trans rfl, (zqe BK234.out 7).trans rfl, (zqe BK234.out 8).trans rfl, (zqe BK234.out 9).trans rfl, (zqe BK234.out 10).trans rfl, (zqe BK234.out 11).trans rfl, (zqe BK232.out 0).trans rfl, (zqe BK232.out 1).trans rfl, (zqe BK232.out 2).trans rfl, (zqe BK232.out 3).trans rfl, (zqe BK232.out 4).trans rfl, (zqe BK232.out 5).trans rfl, (zqe BK232.out 6).trans rfl, (zqe BK232.out 7).trans rfl⟩ (fun hHeld => ?_)
         clear hK K
         refine norm_ (a' := ?_) ?_ ?_
         rotate_left
         ·
          show Act.put _ (some 41) _ = _
          simp only [Act.put, List.setIfInBounds_toArray, List.set_cons_zero, List.set_cons_succ, i64_w, i32_w]
          rfl
         refine zqp 18 (some 42) (zqB 34 524287) (any_of HT_.out (by kernel_rfl)) (h := ?_)
         refine zqp 19 (some 43) (zqB 34 1048575) (any_of HT_.out (by kernel_rfl)) (h := ?_)
         refine zqp 20 (some 44) (zqB 34 2097151) (any_of HT_.out (by kernel_rfl)) (h := ?_)
         refine zqu 21 (some 45) (zqB 34 4194303) (any_of HT_.out (by kernel_rfl)) (h := ?_)
         refine zqu 22 (some 46) (zqB 34 8388607) (any_of HT_.out (by kernel_rfl)) (h := ?_)
         refine zqu 23 (some 47) (zqB 34 16777215) (any_of HT_.out (by kernel_rfl)) (h := ?_)
         refine zqu 24 (some 48) (zqB 34 33554431) (any_of HT_.out (by kernel_rfl)) (h := ?_)
         refine zqu 25 (some 49) (zqB 34 67108863) (any_of HT_.out (by kernel_rfl)) (h := ?_)
         refine zqu 26 (some 50) (zqB 34 134217727) (any_of HT_.out (by kernel_rfl)) (h := ?_)
         refine zqu 27 (some 51) (zqB 34 268435455) (any_of HT_.out (by kernel_rfl)) (h := ?_)
         refine zqu 28 (some 52) (zqB 34 536870911) (any_of HT_.out (by kernel_rfl)) (h := ?_)
         refine zqu 29 (some 53) (zqB 34 1073741823) (any_of HT_.out (by kernel_rfl)) (h := ?_)
         refine zqu 30 (some 54) (zqB 34 2147483647) (any_of HT_.out (by kernel_rfl)) (h := ?_)
         refine zqu 31 (some 55) (zqB 34 4294967295) (any_of HT_.out (by kernel_rfl)) (h := ?_)
         refine zqp 32 (some 56) (zqB 34 8589934591) (any_of HT_.out (by kernel_rfl)) (h := ?_)
         refine zqp 33 (some 23) (zqB 34 17179869183) (any_of HT_.out (by kernel_rfl)) (h := ?_)
         refine done_ (done_of HT_.out (by kernel_rfl)) ?_
         try go_wp2
         go_ret2
         exact ⟨by first | rfl | (simp [errW_none, errW_some] <;> rfl) | (simp [*, errW_none, errW_some] <;> rfl), by repeat (first | (with_reducible first | exact HB.out | apply zqg | apply zqf | apply zqh | refine below_set ?_ GE231.out | refine below_set ?_ GE232.out | refine below_set ?_ GE234.out) | exact HB.out)⟩
       ·
        rw [if_neg c30] at H
        have c30b0 : (a1_7 == 0) = false := beq_eq_false_iff_ne.mpr c30
        have c30b1 : (a1_7 != 0) = true := bne_iff_ne.mpr c30
        simp only [Option.some.injEq, Prod.mk.injEq] at H
        obtain ⟨rfl, rfl⟩ := H
        try go_wp2
        have n0_ := zqi (zqb BK231.out)
        have n1_ := zqi (zqb BK232.out)
        have n2_ := zqi (zqb BK234.out)
        have n3_ := zqi (zqh HB.out)
        clear BK231
        clear BK232
        clear BK234
        clear HB
        have BK231 := n0_
        have BK232 := n1_
        have BK234 := n2_
        have HB := n3_
        clear n0_ n1_ n2_ n3_
        refine start_ (n := 34) (S := fun w' => w'.cell? ⟨gb234, 0, none⟩ = some (.int .i64 a0_0) ∧ w'.cell? ⟨gb234, 1, none⟩ = some (.int .i64 a0_1) ∧ w'.cell? ⟨gb234, 2, none⟩ = some (.int .i64 a0_2) ∧ w'.cell? ⟨gb234, 3, none⟩ = some (.slice A0_3 l0_3.length c0_3) ∧ w'.cell? ⟨gb234, 4, none⟩ = some (.int .i64 a1_0) ∧ w'.cell? ⟨gb234, 5, none⟩ = some (.int .i64 a1_1) ∧ w'.cell? ⟨gb234, 6, none⟩ = some (.int .i64 a1_2) ∧ w'.cell? ⟨gb234, 7, none⟩ = some (.int .i64 a1_3) ∧ w'.cell? ⟨gb234, 8, none⟩ = some (.int .i64 a1_4) ∧ w'.cell? ⟨gb234, 9, none⟩ = some (.int .u64 a1_5) ∧ w'.cell? ⟨gb234, 10, none⟩ = some (.int .u64 a1_6) ∧ w'.cell? ⟨gb234, 11, none⟩ = some (.int .u64 a1_7) ∧ w'.cell? ⟨gb232, 0, none⟩ = some (.int .i64 a1_0) ∧ w'.cell? ⟨gb232, 1, none⟩ = some (.int .i64 a1_1) ∧ w'.cell? ⟨gb232, 2, none⟩ = some (.int .i64 a1_2) ∧ w'.cell? ⟨gb232, 3, none⟩ = some (.int .i64 a1_3) ∧ w'.cell? ⟨gb232, 4, none⟩ = some (.int .i64 a1_4) ∧ w'.cell? ⟨gb232, 5, none⟩ = some (.int .u64 a1_5) ∧ w'.cell? ⟨gb232, 6, none⟩ = some (.int .u64 a1_6) ∧ w'.cell? ⟨gb232, 7, none⟩ = some (.int .u64 a1_7)) (ds := []) (zqB 34 0) (by kernel_rfl) rfl rfl ⟨(zqe BK234.out 0).trans rfl, (zqe BK234.out 1).trans rfl, (zqe BK234.out 2).trans rfl, (zqe BK234.out 3).trans rfl, (zqe BK234.out 4).trans rfl, (zqe BK234.out 5).trans rfl, (zqe BK234.out 6).trans rfl, (zqe BK234.out 7).trans rfl, (zqe BK234.out 8).trans rfl, (zqe BK234.out 9).trans rfl, (zqe BK234.out 10).trans rfl, (zqe BK234.out 11).trans rfl, (zqe BK232.out 0).trans rfl, (zqe BK232.out 1).trans rfl, (zqe BK232.out 2).trans rfl, (zqe BK232.out 3).trans rfl, (zqe BK232.out 4).trans rfl, (zqe BK232.out 5).trans rfl, (zqe BK232.out 6).trans rfl, (zqe BK232.out 7).trans rfl⟩ (fun hHeld => ?_); refine with_tabW state_End.tab6 state_End.bits6 (fun HT_ HW_ => ?_)
        generalize wc.drew = w52 at BK231 BK232 BK234 HB hHeld ⊢
        refine zqt 0 (some 24) (zqB 34 1) (take_ofW HT_.out HW_.out (by kernel_rfl)) hHeld (h := ?_)
        refine one_ (i := 1) (N := some 25) (zqB 34 3) rfl rfl (one_of HT_.out (by kernel_rfl)) (by decide) (fun K hK => ?_)
        refine goes_ Try.func37 (by kernel_rfl) rfl #[.agg #[.int .i64 a0_0, .int .i64 a0_1, .int .i64 a0_2, .slice A0_3 l0_3.length c0_3, .int .i64 a1_0, .int .i64 a1_1, .int .i64 a1_2, .int .i64 a1_3, .int .i64 a1_4, .int .u64 a1_5, .int .u64 a1_6, .int .u64 a1_7]] (by rfl) rfl rfl (by (try simp only [List.map_toArray, List.map_cons, List.map_nil]); first | done | rfl | (simp only [List.length_drop, List.length_take]; rfl)) ?_
        with_reducible refine (state_here_may.calls a0_0 a0_1 a0_2 _ _ l0_3 a1_0 a1_1 a1_2 a1_3 a1_4 a1_5 a1_6 a1_7 true _ ?side1 ?side2 A25.out).mono ?_
        (case side1 => repeat (first | exact (Kd.C_below HR0_3.out HB.out) | (with_reducible refine Kd.C_alloc ?_ _) | (with_reducible refine Kd.C_drewN ?_ _) | (with_reducible refine Kd.C_drew ?_)))
        (case side2 => exact HC0_3.out)
        rintro e w53 ⟨rfl, hb⟩
        refine ⟨_, rfl, ?_⟩
        have n0_ := zqi (zqy BK231.out hb)
        have n1_ := zqi (zqy BK232.out hb)
        have n2_ := zqi (zqy BK234.out hb)
        have n3_ := zqi (below_step (zqn HB.out) hb)
        clear BK231
        clear BK232
        clear BK234
        clear HB
        have BK231 := n0_
        have BK232 := n1_
        have BK234 := n2_
        have HB := n3_
        clear n0_ n1_ n2_ n3_
        (try clear hb)
        (try clear hb2)
        (try clear hk)
        (try clear hi)
        refine hK.out _ _ ⟨(zqe BK234.out 0).trans rfl, (zqe BK234.out 1).trans rfl, (zqe BK234.out 2).trans rfl, (zqe BK234.out 3).trans rfl, (zqe BK234.out 4).trans rfl, (zqe BK234.out 5).trans rfl, (zqe BK234.out 6).trans rfl, (zqe BK234.out 7).trans rfl, (zqe BK234.out 8).trans rfl, (zqe BK234.out 9).trans rfl, (zqe BK234.out 10).trans rfl, (zqe BK234.out 11).trans rfl, (zqe BK232.out 0).trans rfl, (zqe BK232.out 1).trans rfl, (zqe BK232.out 2).trans rfl, (zqe BK232.out 3).trans rfl, (zqe BK232.out 4).trans rfl, (zqe BK232.out 5).trans rfl, (zqe BK232.out 6).trans rfl, (zqe BK232.out 7).trans rfl⟩ (fun hHeld => ?_)
        clear hK K
        refine norm_ (a' := ?_) ?_ ?_
        rotate_left
        ·
         show Act.put _ (some 25) _ = _
         simp only [Act.put, List.setIfInBounds_toArray, List.set_cons_zero, List.set_cons_succ, i64_w, i32_w]
         rfl
        refine zqp 2 (some 26) (zqB 34 7) (any_of HT_.out (by kernel_rfl)) (h := ?_)
        refine zqp 3 (some 27) (zqB 34 15) (any_of HT_.out (by kernel_rfl)) (h := ?_)
        refine zqp 4 (some 28) (zqB 34 31) (any_of HT_.out (by kernel_rfl)) (h := ?_)
        refine zqt 5 (some 29) (zqB 34 63) (take_ofW HT_.out HW_.out (by kernel_rfl)) hHeld (h := ?_)
        refine zqp 6 (some 30) (zqB 34 127) (any_of HT_.out (by kernel_rfl)) (h := ?_)
        refine zqp 7 (some 31) (zqB 34 255) (any_of HT_.out (by kernel_rfl)) (h := ?_)
        refine zqp 8 (some 32) (zqB 34 511) (any_of HT_.out (by kernel_rfl)) (h := ?_)
        refine zqp 9 (some 33) (zqB 34 1023) (any_of HT_.out (by kernel_rfl)) (h := ?_)
        refine zqt 10 (some 34) (zqB 34 2047) (take_ofW HT_.out HW_.out (by kernel_rfl)) hHeld (h := ?_)
        refine zqp 11 (some 35) (zqB 34 4095) (any_of HT_.out (by kernel_rfl)) (h := ?_)
        refine zqp 12 (some 36) (zqB 34 8191) (any_of HT_.out (by kernel_rfl)) (h := ?_)
        refine zqp 13 (some 37) (zqB 34 16383) (any_of HT_.out (by kernel_rfl)) (h := ?_)
        refine zqu 14 (some 38) (zqB 34 32767) (any_of HT_.out (by kernel_rfl)) (h := ?_)
        refine zqu 15 (some 39) (zqB 34 65535) (any_of HT_.out (by kernel_rfl)) (h := ?_)
        refine zqu 16 (some 40) (zqB 34 131071) (any_of HT_.out (by kernel_rfl)) (h := ?_)
        refine zqu 17 (some 41) (zqB 34 262143) (any_of HT_.out (by kernel_rfl)) (h := ?_)
        refine zqu 18 (some 42) (zqB 34 524287) (any_of HT_.out (by kernel_rfl)) (h := ?_)
        refine zqp 19 (some 43) (zqB 34 1048575) (any_of HT_.out (by kernel_rfl)) (h := ?_)
        refine zqp 20 (some 44) (zqB 34 2097151) (any_of HT_.out (by kernel_rfl)) (h := ?_)
        refine zqu 21 (some 45) (zqB 34 4194303) (any_of HT_.out (by kernel_rfl)) (h := ?_)
        refine zqu 22 (some 46) (zqB 34 8388607) (any_of HT_.out (by kernel_rfl)) (h := ?_)
        refine zqu 23 (some 47) (zqB 34 16777215) (any_of HT_.out (by kernel_rfl)) (h := ?_)
        refine zqu 24 (some 48) (zqB 34 33554431) (any_of HT_.out (by kernel_rfl)) (h := ?_)
        refine zqu 25 (some 49) (zqB 34 67108863) (any_of HT_.out (by kernel_rfl)) (h := ?_)
        refine zqu 26 (some 50) (zqB 34 134217727) (any_of HT_.out (by kernel_rfl)) (h := ?_)
        refine zqu 27 (some 51) (zqB 34 268435455) (any_of HT_.out (by kernel_rfl)) (h := ?_)
        refine zqu 28 (some 52) (zqB 34 536870911) (any_of HT_.out (by kernel_rfl)) (h := ?_)
        refine zqu 29 (some 53) (zqB 34 1073741823) (any_of HT_.out (by kernel_rfl)) (h := ?_)
        refine zqu 30 (some 54) (zqB 34 2147483647) (any_of HT_.out (by kernel_rfl)) (h := ?_)
        refine zqu 31 (some 55) (zqB 34 4294967295) (any_of HT_.out (by kernel_rfl)) (h := ?_)
        refine zqp 32 (some 56) (zqB 34 8589934591) (any_of HT_.out (by kernel_rfl)) (h := ?_)
        refine zqp 33 (some 23) (zqB 34 17179869183) (any_of HT_.out (by kernel_rfl)) (h := ?_)
        refine done_ (done_of HT_.out (by kernel_rfl)) ?_
        try go_wp2
        go_ret2
        exact ⟨by first | rfl | (simp [errW_none, errW_some] <;> rfl) | (simp [*, errW_none, errW_some] <;> rfl), by repeat (first | (with_reducible first | exact HB.out | apply zqg | apply zqf | apply zqh | refine below_set ?_ GE231.out | refine below_set ?_ GE232.out | refine below_set ?_ GE234.out) | exact HB.out)⟩
     ·
      replace c26 := Bool.eq_false_iff.mpr c26
      subst c26
      have H1 : (some (0, false)) = some (r1, r2) := by rw [if_neg (show ¬ (false = true) by decide)] at H; exact H
      clear H
      have H := H1
      clear H1
      simp only [Option.some.injEq, Prod.mk.injEq] at H
      obtain ⟨rfl, rfl⟩ := H
      try go_wp2
      have n0_ := zqi (zqb BK231.out)
      have n1_ := zqi (zqb BK232.out)
      have n2_ := zqi (zqb BK234.out)
      have n3_ := zqi (zqh HB.out)
      clear BK231
      clear BK232
      clear BK234
      clear HB
      have BK231 := n0_
      have BK232 := n1_
      have BK234 := n2_
      have HB := n3_
      clear n0_ n1_ n2_ n3_
      refine start_ (n := 34) (S := fun w' => w'.cell? ⟨gb234, 0, none⟩ = some (.int .i64 a0_0) ∧ w'.cell? ⟨gb234, 1, none⟩ = some (.int .i64 a0_1) ∧ w'.cell? ⟨gb234, 2, none⟩ = some (.int .i64 a0_2) ∧ w'.cell? ⟨gb234, 3, none⟩ = some (.slice A0_3 l0_3.length c0_3) ∧ w'.cell? ⟨gb234, 4, none⟩ = some (.int .i64 a1_0) ∧ w'.cell? ⟨gb234, 5, none⟩ = some (.int .i64 a1_1) ∧ w'.cell? ⟨gb234, 6, none⟩ = some (.int .i64 a1_2) ∧ w'.cell? ⟨gb234, 7, none⟩ = some (.int .i64 a1_3) ∧ w'.cell? ⟨gb234, 8, none⟩ = some (.int .i64 a1_4) ∧ w'.cell? ⟨gb234, 9, none⟩ = some (.int .u64 a1_5) ∧ w'.cell? ⟨gb234, 10, none⟩ = some (.int .u64 a1_6) ∧ w'.cell? ⟨gb234, 11, none⟩ = some (.int .u64 a1_7)) (ds := []) (zqB 34 0) (by kernel_rfl) rfl rfl ⟨(zqe BK234.out 0).trans rfl, (zqe BK234.out 1).trans rfl, (zqe BK234.out 2).trans rfl, (zqe BK234.out 3).trans rfl, (zqe BK234.out 4).trans rfl, (zqe BK234.out 5).trans rfl, (zqe BK234.out 6).trans rfl, (zqe BK234.out 7).trans rfl, (zqe BK234.out 8).trans rfl, (zqe BK234.out 9).trans rfl, (zqe BK234.out 10).trans rfl, (zqe BK234.out 11).trans rfl⟩ (fun hHeld => ?_); refine with_tabW state_End.tab6 state_End.bits6 (fun HT_ HW_ => ?_)
      generalize wc.drew = w54 at BK231 BK232 BK234 HB hHeld ⊢
      refine zqt 0 (some 24) (zqB 34 1) (take_ofW HT_.out HW_.out (by kernel_rfl)) hHeld (h := ?_)
      refine one_ (i := 1) (N := some 25) (zqB 34 3) rfl rfl (one_of HT_.out (by kernel_rfl)) (by decide) (fun K hK => ?_)
      refine goes_ Try.func37 (by kernel_rfl) rfl #[.agg #[.int .i64 a0_0, .int .i64 a0_1, .int .i64 a0_2, .slice A0_3 l0_3.length c0_3, .int .i64 a1_0, .int .i64 a1_1, .int .i64 a1_2, .int .i64 a1_3, .int .i64 a1_4, .int .u64 a1_5, .int .u64 a1_6, .int .u64 a1_7]] (by rfl) rfl rfl (by (try simp only [List.map_toArray, List.map_cons, List.map_nil]); first | done | rfl | (simp only [List.length_drop, List.length_take]; rfl)) ?_
      with_reducible refine (state_here_may.calls a0_0 a0_1 a0_2 _ _ l0_3 a1_0 a1_1 a1_2 a1_3 a1_4 a1_5 a1_6 a1_7 false _ ?side1 ?side2 A25.out).mono ?_
      (case side1 => repeat (first | exact (Kd.C_below HR0_3.out HB.out) | (with_reducible refine Kd.C_alloc ?_ _) | (with_reducible refine Kd.C_drewN ?_ _) | (with_reducible refine Kd.C_drew ?_)))
      (case side2 => exact HC0_3.out)
      rintro e w55 ⟨rfl, hb⟩
      refine ⟨_, rfl, ?_⟩
      have n0_ := zqi (zqy BK231.out hb)
      have n1_ := zqi (zqy BK232.out hb)
      have n2_ := zqi (zqy BK234.out hb)
      have n3_ := zqi (below_step (zqn HB.out) hb)
      clear BK231
      clear BK232
      clear BK234
      clear HB
      have BK231 := n0_
      have BK232 := n1_
      have BK234 := n2_
      have HB := n3_
      clear n0_ n1_ n2_ n3_
      (try clear hb)
      (try clear hb2)
      (try clear hk)
      (try clear hi)
      refine hK.out _ _ ⟨(zqe BK234.out 0).trans rfl, (zqe BK234.out 1).trans rfl, (zqe BK234.out 2).trans rfl, (zqe BK234.out 3).trans rfl, (zqe BK234.out 4).trans rfl, (zqe BK234.out 5).trans rfl, (zqe BK234.out 6).trans rfl, (zqe BK234.out 7).trans rfl, (zqe BK234.out 8).trans rfl, (zqe BK234.out 9).trans rfl, (zqe BK234.out 10).trans rfl, (zqe BK234.out 11).trans rfl⟩ (fun hHeld => ?_)
      clear hK K
      refine norm_ (a' := ?_) ?_ ?_
      rotate_left
      ·
       show Act.put _ (some 25) _ = _
       simp only [Act.put, List.setIfInBounds_toArray, List.set_cons_zero, List.set_cons_succ, i64_w, i32_w]
       rfl
      refine zqp 2 (some 26) (zqB 34 7) (any_of HT_.out (by kernel_rfl)) (h := ?_)
      refine zqp 3 (some 27) (zqB 34 15) (any_of HT_.out (by kernel_rfl)) (h := ?_)
      refine zqu 4 (some 28) (zqB 34 31) (any_of HT_.out (by kernel_rfl)) (h := ?_)
      refine zqu 5 (some 29) (zqB 34 63) (any_of HT_.out (by kernel_rfl)) (h := ?_)
      refine zqu 6 (some 30) (zqB 34 127) (any_of HT_.out (by kernel_rfl)) (h := ?_)
      refine zqp 7 (some 31) (zqB 34 255) (any_of HT_.out (by kernel_rfl)) (h := ?_)
      refine zqp 8 (some 32) (zqB 34 511) (any_of HT_.out (by kernel_rfl)) (h := ?_)
      refine zqu 9 (some 33) (zqB 34 1023) (any_of HT_.out (by kernel_rfl)) (h := ?_)
      refine zqu 10 (some 34) (zqB 34 2047) (any_of HT_.out (by kernel_rfl)) (h := ?_)
      refine zqu 11 (some 35) (zqB 34 4095) (any_of HT_.out (by kernel_rfl)) (h := ?_)
      refine zqp 12 (some 36) (zqB 34 8191) (any_of HT_.out (by kernel_rfl)) (h := ?_)
      refine zqp 13 (some 37) (zqB 34 16383) (any_of HT_.out (by kernel_rfl)) (h := ?_)
      refine zqu 14 (some 38) (zqB 34 32767) (any_of HT_.out (by kernel_rfl)) (h := ?_)
      refine zqu 15 (some 39) (zqB 34 65535) (any_of HT_.out (by kernel_rfl)) (h := ?_)
      refine zqu 16 (some 40) (zqB 34 131071) (any_of HT_.out (by kernel_rfl)) (h := ?_)
      refine zqu 17 (some 41) (zqB 34 262143) (any_of HT_.out (by kernel_rfl)) (h := ?_)
      refine zqu 18 (some 42) (zqB 34 524287) (any_of HT_.out (by kernel_rfl)) (h := ?_)
      refine zqp 19 (some 43) (zqB 34 1048575) (any_of HT_.out (by kernel_rfl)) (h := ?_)
      refine zqp 20 (some 44) (zqB 34 2097151) (any_of HT_.out (by kernel_rfl)) (h := ?_)
      refine zqu 21 (some 45) (zqB 34 4194303) (any_of HT_.out (by kernel_rfl)) (h := ?_)
      refine zqu 22 (some 46) (zqB 34 8388607) (any_of HT_.out (by kernel_rfl)) (h := ?_)
      refine zqu 23 (some 47) (zqB 34 16777215) (any_of HT_.out (by kernel_rfl)) (h := ?_)
      refine zqu 24 (some 48) (zqB 34 33554431) (any_of HT_.out (by kernel_rfl)) (h := ?_)
      refine zqu 25 (some 49) (zqB 34 67108863) (any_of HT_.out (by kernel_rfl)) (h := ?_)
      refine zqu 26 (some 50) (zqB 34 134217727) (any_of HT_.out (by kernel_rfl)) (h := ?_)
      refine zqu 27 (some 51) (zqB 34 268435455) (any_of HT_.out (by kernel_rfl)) (h := ?_)
      refine zqu 28 (some 52) (zqB 34 536870911) (any_of HT_.out (by kernel_rfl)) (h := ?_)
      refine zqu 29 (some 53) (zqB 34 1073741823) (any_of HT_.out (by kernel_rfl)) (h := ?_)
      refine zqu 30 (some 54) (zqB 34 2147483647) (any_of HT_.out (by kernel_rfl)) (h := ?_)
      refine zqu 31 (some 55) (zqB 34 4294967295) (any_of HT_.out (by kernel_rfl)) (h := ?_)
      refine zqp 32 (some 56) (zqB 34 8589934591) (any_of HT_.out (by kernel_rfl)) (h := ?_)
      refine zqp 33 (some 23) (zqB 34 17179869183) (any_of HT_.out (by kernel_rfl)) (h := ?_)
      refine done_ (done_of HT_.out (by kernel_rfl)) ?_
      try go_wp2
      go_ret2
      exact ⟨by first | rfl | (simp [errW_none, errW_some] <;> rfl) | (simp [*, errW_none, errW_some] <;> rfl), by repeat (first | (with_reducible first | exact HB.out | apply zqg | apply zqf | apply zqh | refine below_set ?_ GE231.out | refine below_set ?_ GE232.out | refine below_set ?_ GE234.out) | exact HB.out)⟩
 ·
  replace c4 := Bool.eq_false_iff.mpr c4
  subst c4
  have H1 : (some (0, false)) = some (r1, r2) := by rw [if_neg (show ¬ (false = true) by decide)] at H; exact H
  clear H
  have H := H1
  clear H1
  simp only [Option.some.injEq, Prod.mk.injEq] at H
  obtain ⟨rfl, rfl⟩ := H
  go_enter Try.func23, Try.ntmps23
  go_wp2_with (first | ((with_reducible refine gate_dst (N := 2) rfl ?_); refine box_event ?hg (N := 2) ?hd (cs := #[.int .i64 a0_0, .int .i64 a0_1, .int .i64 a0_2, .slice A0_3 l0_3.length c0_3]) (t := 26) ?hr ?_; (case hd => rfl); (case hg => rfl); (case hr => first | (go_simp; done) | (go_simp; rfl)); intro gb231 hg w56 hbox hb; have n0_ := zqi (below_step (zqn HB.out) hb); have n1_ := zqi (hbox); have n2_ := zqi (zqo hg HB.out); have n3_ := zqi (zqo hg HB.out); clear HB; have HB := n0_; have BK231 := n1_; have GW231 := n2_; have GE231 := n3_; clear n0_ n1_ n2_ n3_; clear hb hbox hg) | ((with_reducible refine gate_dst (N := 3) rfl ?_); refine box_event ?hg (N := 3) ?hd (cs := #[.int .i64 a1_0, .int .i64 a1_1, .int .i64 a1_2, .int .i64 a1_3, .int .i64 a1_4, .int .u64 a1_5, .int .u64 a1_6, .int .u64 a1_7]) (t := 40) ?hr ?_; (case hd => rfl); (case hg => rfl); (case hr => first | (go_simp; done) | (go_simp; rfl)); intro gb232 hg w57 hbox hb; have n0_ := zqi (zqy BK231.out hb); have n1_ := zqi (below_step (zqn HB.out) hb); have n2_ := zqi (hbox); have n3_ := zqi (zqo hg HB.out); have n4_ := zqi (zqo hg HB.out); have n5_ := zqi ((zqq hg BK231.out)); have n6_ := zqi ((zqr hg BK231.out)); clear BK231; clear HB; have BK231 := n0_; have HB := n1_; have BK232 := n2_; have GW232 := n3_; have GE232 := n4_; have NB231_232 := n5_; have NB232_231 := n6_; clear n0_ n1_ n2_ n3_ n4_ n5_ n6_; clear hb hbox hg; have hnb58 := NB231_232.out; have hnc58 := NB232_231.out; obtain ⟨hcz59_0, hcz59_1, hcz59_2, hcz59_3, hfz59_0, hfz59_1, hfz59_2, hfz59_3⟩ := zqz4 BK231.out) | ((with_reducible refine gate_callee (f := 19) rfl ?_); refine goesL_ (some 8) rfl rfl Try.func19 (by kernel_rfl) rfl #[.agg #[.int .i64 a0_0, .int .i64 a0_1, .int .i64 a0_2, .slice A0_3 l0_3.length c0_3]] rfl (by (try simp only [List.map_toArray, List.map_cons, List.map_nil]); first | done | rfl | (simp only [List.length_drop, List.length_take]; rfl)) ?_; (with_reducible refine (inst_May.calls k a0_0 a0_1 a0_2 _ _ l0_3 false _ ?side1 ?side2 A3.out).mono ?_); (case side1 => repeat (first | exact (Kd.C_below HR0_3.out HB.out) | (with_reducible refine Kd.C_alloc ?_ _) | (with_reducible refine Kd.C_drewN ?_ _) | (with_reducible refine Kd.C_drew ?_))); (case side2 => exact HC0_3.out); rintro e w60 ⟨rfl, hb⟩; refine ⟨_, rfl, ?_⟩; have n0_ := zqi (zqy BK231.out hb); have n1_ := zqi (zqy BK232.out hb); have n2_ := zqi (below_step (zqn HB.out) hb); clear BK231; clear BK232; clear HB; have BK231 := n0_; have BK232 := n1_; have HB := n2_; clear n0_ n1_ n2_; (try clear hb); (try clear hb2); (try clear hk); (try clear hi)))
  go_ret2
  exact ⟨by first | rfl | (simp [errW_none, errW_some] <;> rfl) | (simp [*, errW_none, errW_some] <;> rfl), by repeat (first | (with_reducible first | exact HB.out | apply zqg | apply zqf | apply zqh | refine below_set ?_ GE231.out | refine below_set ?_ GE232.out) | exact HB.out)⟩

end Go.Proofs.Ytjiammiihamkiaa.PC
