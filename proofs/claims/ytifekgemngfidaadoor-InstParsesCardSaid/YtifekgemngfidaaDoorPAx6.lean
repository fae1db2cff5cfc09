-- Printed for this claim by wip/tools/xprint.py over the kit's print; the contracts marked BY HAND are this session's own.
import Derived.Test.YtifekgemngfidaaDoorPAx0
import Derived.Test.YtifekgemngfidaaDoorPAx3
import Derived.Test.YtifekgemngfidaaDoorPAx4
import Derived.Test.YtifekgemngfidaaDoorPAx5
namespace Go.Proofs.YtifekgemngfidaaDoor.PA
open Go.RowKit Go.Proofs.YtifekgemngfidaaDoorW.PrintWords Go.Proofs.YtifekgemngfidaaDoorW.PrintLast Go.Proofs.YtifekgemngfidaaDoorW.PrintMore
attribute [local go_sem] max2_int min2_int max_two min_two max_three min_three max_four min_four   -- for this text's walks alone
set_option linter.unusedVariables false
set_option linter.unusedSimpArgs false

/-! ### inst_Parse: function 10 -/
mutual
def inst_Parse.j0 : Nat → List (List Int) → Bool → Option (Int × Int × Int × (List (S34)) × Int)
  | 0, _, _ => none
  | k + 1, x4, x34 => if x34 = true then (some (0, 0, 0, ([] : List (S34)), 2)) else (if 0 < (x4.length : Int) then (if 0 < ((rd_L3 x4 0).length : Int) then (if 1 < ((rd_L3 x4 0).length : Int) then (if 2 < ((rd_L3 x4 0).length : Int) then (if 1 ≤ (x4.length : Int) then ((some (x4.drop 1 : List (List Int))).bind fun y155 => (inst_Parse.l0 k y155 (y155.length : Int) 0 (rd (rd_L3 x4 0) 0) (rd (rd_L3 x4 0) 1) (rd (rd_L3 x4 0) 2) ([] : List (S34)))) else (none)) else (none)) else (none)) else (none)) else (none))
def inst_Parse.l0 : Nat → List (List Int) → Int → Int → Int → Int → Int → List (S34) → Option (Int × Int × Int × (List (S34)) × Int)
  | 0, _, _, _, _, _, _, _ => none
  | k + 1, x53, x54, x55, x155000, x155001, x155002, x155003 => if x55 < x54 then (if 0 ≤ x55 then (if x55 < (x53.length : Int) then ((inst_stop.f (rd_L3 x53 x55)).bind fun bt160 => (if x155003.length < 2932031007402 then (inst_Parse.l0 k x53 x54 (wrap64 (x55 + 1)) x155000 x155001 x155002 (x155003 ++ [(⟨bt160.1, bt160.2.1, bt160.2.2.1, bt160.2.2.2.1, bt160.2.2.2.2.1, bt160.2.2.2.2.2⟩ : S34)])) else (none))) else (none)) else (none)) else ((inst_May.f k x155000 x155001 x155002 x155003).bind fun t169 => (if t169 = true then (some (x155000, x155001, x155002, x155003, 0)) else (some (0, 0, 0, ([] : List (S34)), 1))))
end
def inst_Parse.f (k : Nat) (l0 : List Int) : Option (Int × Int × Int × (List (S34)) × Int) := (scan_Lines.f l0).bind fun bt138 => (if bt138.2 = 0 then (if (bt138.1.length : Int) = 0 then (inst_Parse.j0 k bt138.1 true) else (if 0 < (bt138.1.length : Int) then (if ((rd_L3 bt138.1 0).length : Int) = 3 then (if 1 ≤ (bt138.1.length : Int) then ((slices_ContainsFunc_int_int.f (bt138.1.drop 1) 999020).bind fun t147 => (inst_Parse.j0 k bt138.1 t147)) else (none)) else (inst_Parse.j0 k bt138.1 true)) else (none))) else (some (0, 0, 0, ([] : List (S34)), bt138.2)))
theorem inst_Parse.mono_l : ∀ k, (∀ y0 y1, LeO (inst_Parse.j0 k y0 y1) (inst_Parse.j0 (k + 1) y0 y1)) ∧ (∀ y0 y1 y2 y3 y4 y5 y6, LeO (inst_Parse.l0 k y0 y1 y2 y3 y4 y5 y6) (inst_Parse.l0 (k + 1) y0 y1 y2 y3 y4 y5 y6))
  | 0 => ⟨fun _ _ r h => by simp [inst_Parse.j0] at h, fun _ _ _ _ _ _ _ r h => by simp [inst_Parse.l0] at h⟩
  | k + 1 => by
    obtain ⟨ih0, ih1⟩ := inst_Parse.mono_l k
    refine ⟨?_, ?_⟩
    · intro y0 y1
      unfold inst_Parse.j0
      repeat' first
      | (with_reducible exact ih0 _ _)
      | (with_reducible exact ih1 _ _ _ _ _ _ _)
      | (with_reducible exact inst_May.mono _ _ _ _ _)
      | (with_reducible exact LeO.refl _)
      | (with_reducible exact LeO.none _)
      | (with_reducible refine LeO.ite ?_ ?_)
      | (with_reducible refine LeO.bind ?_ (fun _ => ?_))
      | exact ih0 _ _
      | exact ih1 _ _ _ _ _ _ _
      | exact inst_May.mono _ _ _ _ _
      | exact LeO.none _
      | refine LeO.ite ?_ ?_
      | refine LeO.bind ?_ (fun _ => ?_)
    · intro y0 y1 y2 y3 y4 y5 y6
      unfold inst_Parse.l0
      repeat' first
      | (with_reducible exact ih0 _ _)
      | (with_reducible exact ih1 _ _ _ _ _ _ _)
      | (with_reducible exact inst_May.mono _ _ _ _ _)
      | (with_reducible exact LeO.refl _)
      | (with_reducible exact LeO.none _)
      | (with_reducible refine LeO.ite ?_ ?_)
      | (with_reducible refine LeO.bind ?_ (fun _ => ?_))
      | exact ih0 _ _
      | exact ih1 _ _ _ _ _ _ _
      | exact inst_May.mono _ _ _ _ _
      | exact LeO.none _
      | refine LeO.ite ?_ ?_
      | refine LeO.bind ?_ (fun _ => ?_)
theorem inst_Parse.mono : ∀ a0 k, LeO (inst_Parse.f k a0) (inst_Parse.f (k + 1) a0) := by
  intro a0 k
  obtain ⟨ih0, ih1⟩ := inst_Parse.mono_l k
  unfold inst_Parse.f
  repeat' first
      | (with_reducible exact ih0 _ _)
      | (with_reducible exact ih1 _ _ _ _ _ _ _)
      | (with_reducible exact inst_May.mono _ _ _ _ _)
      | (with_reducible exact LeO.refl _)
      | (with_reducible exact LeO.none _)
      | (with_reducible refine LeO.ite ?_ ?_)
      | (with_reducible refine LeO.bind ?_ (fun _ => ?_))
      | exact ih0 _ _
      | exact ih1 _ _ _ _ _ _ _
      | exact inst_May.mono _ _ _ _ _
      | exact LeO.none _
      | refine LeO.ite ?_ ?_
      | refine LeO.bind ?_ (fun _ => ?_)
def inst_Parse.T7 : Bool × List (List Nat × List Nat) := (true, [([], []), ([0], [0]), ([1], [1]), ([2], [2]), ([3], [3]), ([], []), ([5], [5]), ([6], [6]), ([7], [7]), ([8], [8]), ([], []), ([10], [10]), ([11], [11]), ([12], [12]), ([13], [13]), ([4, 9, 14], [4, 9, 14]), ([], []), ([16, 15, 0, 1, 2, 3, 4, 5, 6, 7, 8, 9, 10, 11, 12, 13, 14, 15, 16], [15, 16])])
def inst_Parse.B7 : List Nat := [0, 1, 3, 7, 15, 0, 32, 96, 224, 480, 0, 1024, 3072, 7168, 15360, 32767, 0, 131071]
theorem inst_Parse.tab7 : rtab .any (opsOf Tryd.f10 7) = inst_Parse.T7 := by kernel_rfl
theorem inst_Parse.bits7 : waitsOk inst_Parse.T7.2 inst_Parse.B7 = true := by kernel_rfl
def inst_Parse.T11 : Bool × List (List Nat × List Nat) := (true, [([], []), ([0], [0]), ([], []), ([2], [2]), ([3], [3]), ([1, 4, 3], [1, 4]), ([0, 1, 2, 3, 4, 5], []), ([6, 5, 5, 0, 1, 2, 3, 4, 5], [5, 6])])
def inst_Parse.B11 : List Nat := [0, 1, 0, 4, 12, 31, 63, 127]
theorem inst_Parse.tab11 : rtab .any (opsOf Tryd.f10 11) = inst_Parse.T11 := by kernel_rfl
theorem inst_Parse.bits11 : waitsOk inst_Parse.T11.2 inst_Parse.B11 = true := by kernel_rfl
set_option maxHeartbeats 8000000 in
set_option maxRecDepth 100000 in
theorem inst_Parse.calls (k : Nat) (A0 : Option Addr) (c0 : Nat) (l0 : List Int) (r1 : Int) (r2 : Int) (r3 : Int) (r4 : List (S34)) (r5 : Int) (w : World) (hr0 : Kd.C (Kd.int .u8) w A0 l0.length l0) (hc0 : l0.length ≤ c0) (h : inst_Parse.f k l0 = some (r1, r2, r3, r4, r5)) :
  Calls Tryd.prog 10 #[.slice A0 l0.length c0] w fun e w' => ∃ v3_ : Value, e = .returned (.tuple #[.agg #[.int .i64 r1, .int .i64 r2, .int .i64 r3, v3_], .int .i64 r5]) ∧ Kd.R k34 34 w' w.heap.size (fun _ => True) v3_ r4 ∧ Below w.heap.size w w' := by
 have hu26 := Tryd.underlying26
 have HR0 := zqi hr0
 have HC0 := zqi hc0
 clear hr0 hc0
 have HB := zqi (Below.refl w.heap.size w)
 have H : ((scan_Lines.f l0).bind fun bt138 => (if bt138.2 = 0 then (if (bt138.1.length : Int) = 0 then (inst_Parse.j0 k bt138.1 true) else (if 0 < (bt138.1.length : Int) then (if ((rd_L3 bt138.1 0).length : Int) = 3 then (if 1 ≤ (bt138.1.length : Int) then ((slices_ContainsFunc_int_int.f (bt138.1.drop 1) 999020).bind fun t147 => (inst_Parse.j0 k bt138.1 t147)) else (none)) else (inst_Parse.j0 k bt138.1 true)) else (none))) else (some (0, 0, 0, ([] : List (S34)), bt138.2)))) = some (r1, r2, r3, r4, r5) := h
 clear h
 replace H := Option.bind_eq_some_iff.mp H
 obtain ⟨⟨t138, t139⟩, A20, H⟩ := H
 replace H : (if t139 = 0 then (if (t138.length : Int) = 0 then (inst_Parse.j0 k t138 true) else (if 0 < (t138.length : Int) then (if ((rd_L3 t138 0).length : Int) = 3 then (if 1 ≤ (t138.length : Int) then ((slices_ContainsFunc_int_int.f (t138.drop 1) 999020).bind fun t147 => (inst_Parse.j0 k t138 t147)) else (none)) else (inst_Parse.j0 k t138 true)) else (none))) else (some (0, 0, 0, ([] : List (S34)), t139))) = some (r1, r2, r3, r4, r5) := H
 have A2 := zqi A20
 clear A20
 by_cases c3 : t139 = 0
 ·
  rw [if_pos c3] at H
  have c3b0 : (t139 == 0) = true := beq_iff_eq.mpr c3
  have c3b1 : (t139 != 0) = false := bne_eq_false_iff_eq.mpr c3
  clear c3
  have HC4 := zqi H
  clear H
  go_enter Tryd.func10, Tryd.ntmps10
  go_upto_region 5 with (first | ((with_reducible refine gate_dst (N := 2) rfl ?_); (try (refine gate_guard (by rfl) ?_; dsimp only)); refine box_event ?hg (N := 2) ?hd (cs := #[.int .i64 0, .int .i64 0, .int .i64 0, .slice none 0 0]) (t := 26) ?hr ?_; (case hd => rfl); (case hg => rfl); (case hr => first | (go_simp; done) | (go_simp; rfl)); intro gb137 hg w5 hbox hb; have n0_ := zqi (below_step (by repeat (first | (with_reducible first | exact HB.out | apply zqg | apply zqf | apply zqh) | exact HB.out)) hb); have n1_ := zqi (hbox); have n2_ := zqi ((by rw [hg]; exact (below_size (by repeat (first | (with_reducible first | exact HB.out | apply zqg | apply zqf | apply zqh) | exact HB.out))) : w.heap.size ≤ gb137)); have n3_ := zqi ((by rw [hg]; exact (below_size (by repeat (first | (with_reducible first | exact HB.out | apply zqg | apply zqf | apply zqh) | exact HB.out))) : w.heap.size ≤ gb137)); clear HB; have HB := n0_; have BK137 := n1_; have GW137 := n2_; have GE137 := n3_; clear n0_ n1_ n2_ n3_; clear hb hbox hg) | ((with_reducible refine gate_callee (f := 19) rfl ?_); refine goesL_ (some 12) rfl rfl Tryd.func19 (by kernel_rfl) rfl #[.slice A0 l0.length c0] rfl (by (try simp only [List.map_toArray, List.map_cons, List.map_nil]); first | done | rfl | (simp only [List.length_drop, List.length_take]; rfl)) ?_; (with_reducible refine (scan_Lines.calls _ _ l0 t138 t139 _ ?side1 ?side2 A2.out).mono ?_); (case side1 => repeat (first | exact (Kd.C_below HR0.out HB.out) | (with_reducible refine Kd.C_alloc ?_ _) | (with_reducible refine Kd.C_drewN ?_ _) | (with_reducible refine Kd.C_drew ?_))); (case side2 => exact HC0.out); rintro e w6 ⟨v140, rfl, ho0, hb⟩; refine ⟨_, rfl, ?_⟩; have n0_ := zqi (Kd.S_lower ho0 (below_size (by repeat (first | (with_reducible first | exact HB.out | apply zqg | apply zqf | apply zqh | refine below_set ?_ GE137.out) | exact HB.out)))); have n1_ := zqi (blk_below (g := gb137) (o := .cells #[.int .i64 0, .int .i64 0, .int .i64 0, .slice none 0 0] 26 (0, 0)) (by (with_reducible repeat (first | apply zqa | apply zqb | apply zqc)); exact BK137.out) hb); have n2_ := zqi (below_step (by repeat (first | (with_reducible first | exact HB.out | apply zqg | apply zqf | apply zqh | refine below_set ?_ GE137.out) | exact HB.out)) hb); clear BK137; clear HB; have HO141 := n0_; have BK137 := n1_; have HB := n2_; clear n0_ n1_ n2_; (try clear hb); (try clear hb2); (try clear hk); (try clear hi); (try clear ho0)))
  (try simp only [Act.put, List.setIfInBounds_toArray, List.set_cons_zero, List.set_cons_succ])
  go_cut [34] (fun v34 wc => ∃ (kq : Nat) (x34_3 : Bool), v34 = .bool x34_3 ∧ Aside0 (inst_Parse.j0 kq t138 x34_3 = some (r1, r2, r3, r4, r5)) ∧ Aside0 (kq ≤ k) ∧ Aside0 (Kd.S (Kd.slice 3 (Kd.int .i64)) 43 wc w.heap.size (fun _ => True) v140 t138) ∧ Aside0 (wc.heap[gb137]? = some (.cells #[.int .i64 0, .int .i64 0, .int .i64 0, (.slice none 0 0)] 26 (0, 0))) ∧ Aside0 (Below w.heap.size w wc))
  case first =>
   have H := HC4.out
   clear HC4
   by_cases c7 : (t138.length : Int) = 0
   ·
    rw [if_pos c7] at H
    have c7b0 : ((t138.length : Int) == 0) = true := beq_iff_eq.mpr c7
    have c7b1 : ((t138.length : Int) != 0) = false := bne_eq_false_iff_eq.mpr c7
    clear c7
    (first | rw [c7b0] | (simp only [i64_w, i32_w]; rw [c7b0]) | skip)
    have H' := zqi H
    clear H
    obtain ⟨Ao8, co8, eo8⟩ := Kd.S_slice HO141.out
    subst eo8
    go_wp2
    go_meet
    case rel => exact ⟨_, (true), (by first | rfl | (simp; done) | (simp [*]; done)), H', ⟨by first | omega | exact Nat.le_refl _⟩, ⟨by (with_reducible repeat (first | apply Kd.S_alloc | apply Kd.S_drewN | apply Kd.S_drew)); exact HO141.out⟩, ⟨by (with_reducible repeat (first | apply zqa | apply zqb | apply zqc)); exact BK137.out⟩, ⟨by repeat (first | (with_reducible first | exact HB.out | apply zqg | apply zqf | apply zqh | refine below_set ?_ GE137.out) | exact HB.out)⟩⟩
   ·
    rw [if_neg c7] at H
    have c7b0 : ((t138.length : Int) == 0) = false := beq_eq_false_iff_ne.mpr c7
    have c7b1 : ((t138.length : Int) != 0) = true := bne_iff_ne.mpr c7
    have c7b2 : ¬ (t138 = []) := fun h_ => c7 (by rw [h_]; rfl)
    (first | rw [c7b0] | (simp only [i64_w, i32_w]; rw [c7b0]) | skip)
    by_cases c9 : 0 < (t138.length : Int)
    ·
     rw [if_pos c9] at H
     have c9b0 : decide (0 < (t138.length : Int)) = true := decide_eq_true c9
     have c9b1 : decide (0 < t138.length) = true := decide_eq_true (by omega)
     clear c9
     by_cases c10 : ((rd_L3 t138 0).length : Int) = 3
     ·
      rw [if_pos c10] at H
      have c10b0 : (((rd_L3 t138 0).length : Int) == 3) = true := beq_iff_eq.mpr c10
      have c10b1 : (((rd_L3 t138 0).length : Int) != 3) = false := bne_eq_false_iff_eq.mpr c10
      clear c10
      by_cases c11 : 1 ≤ (t138.length : Int)
      ·
       rw [if_pos c11] at H
       have c11b0 := eq_true c11
       have c11b1 : decide (1 ≤ (t138.length : Int)) = true := decide_eq_true c11
       clear c11
       obtain ⟨y143, hy143⟩ : ∃ y_ : List (List Int), y_ = (t138.drop 1) := ⟨_, rfl⟩
       replace H : ((slices_ContainsFunc_int_int.f y143 999020).bind fun t147 => (inst_Parse.j0 k t138 t147)) = some (r1, r2, r3, r4, r5) := by first | (rw [hy143]; with_reducible exact H) | (have H2_ := (Option.bind_some _ _).symm.trans H; rw [hy143]; with_reducible exact H2_) | (have H2_ := (Option.bind_some _ _).symm.trans H; with_reducible exact H2_) | with_reducible exact H | (rw [hy143]; exact H) | exact H
       have Ny143 := zqi hy143
       clear hy143
       replace H := Option.bind_eq_some_iff.mp H
       obtain ⟨t147, A120, H⟩ := H
       replace H : (inst_Parse.j0 k t138 t147) = some (r1, r2, r3, r4, r5) := H
       have A12 := zqi A120
       clear A120
       have H' := zqi H
       clear H
       obtain ⟨Ao13, co13, eo13⟩ := Kd.S_slice HO141.out
       subst eo13
       have p142 : 0 ≤ (0 : Int) := (by omega)
       have q142 : 0 < (t138.length : Int) := of_decide_eq_true (by first | (with_reducible assumption) | assumption)
       obtain ⟨ad142, A142_0, c142_0, e142, hx142_0, hl142_0, hi142_0⟩ := at_L3 (Kd.S_reads' HO141.out).2.2 0 p142 q142
       cases e142
       obtain ⟨ce142, hce142, hMe142, hcc142⟩ := Kd.S_get HO141.out [] 0 p142 (by first | exact q142 | exact of_decide_eq_true (by first | (with_reducible assumption) | assumption) | (have e_ := (Kd.S_reads' HO141.out).1; omega))
       obtain ⟨ve142_0, rfl, ge142_0⟩ := hMe142
       have hv142_0 := hcc142 0 _ rfl
       rw [Nat.add_zero, show ((Kd.slice 3 (Kd.int .i64))).sz = 1 from rfl, Nat.mul_one] at hv142_0
       replace hv142_0 := Option.some.inj (hv142_0.symm.trans hx142_0)
       rw [hv142_0] at ge142_0
       have HL142_0 := zqi (show Kd.R (Kd.int .i64) 3 _ _ _ _ (rd_L3 t138 0) from ge142_0)
       clear hv142_0 ge142_0
       clear hcc142 hce142
       have qi142 : (0 < t138.length) = True := eq_true (by omega)
       (try rw [show ((0 : Int)).toNat = 0 from rfl] at hx142_0)
       (try rw [Addr.add_zero'] at hx142_0)
       have HR142_0 := zqi hi142_0
       have HC142_0 := zqi hl142_0
       clear hi142_0 hl142_0
       replace p142 := eq_true p142
       replace q142 := eq_true q142
       have q14 : (1 : Int) ≤ ((t138.length : Int) : Int) := of_decide_eq_true (by first | (with_reducible assumption) | assumption)
       obtain ⟨i014, hi014, _, hsz14, _⟩ := info_parts info43
       have hroom14 : t138.length ≤ co13 := (Kd.S_reads' HO141.out).2.1
       have hC14 : Kd.C (Kd.slice 3 (Kd.int .i64)) _ (some ad142) t138.length t138 := (Kd.S_reads' HO141.out).2.2
       have hcut14 := cut_from (P := Tryd.prog) 40 43 .i64 Tryd.underlying40 hi014 1 hsz14 (some ad142) t138.length co13 1 (by omega) q14
       have hr14 := Kd.C_drop (m := (1 : Int).toNat) (c := co13) hC14 (by omega) hroom14
       obtain ⟨A14, hA14⟩ : ∃ A1, A1 = (if co13 = (1 : Int).toNat then (some ad142) else ((some ad142) : Option Addr).map (·.add ((1 : Int).toNat * 1))) := ⟨_, rfl⟩
       obtain ⟨c14, hc14⟩ : ∃ c1, c1 = co13 - (1 : Int).toNat := ⟨_, rfl⟩
       have hy14 : y143.length = t138.length - (1 : Int).toNat := (by rw [Ny143.out, List.length_drop] <;> omega)
       rw [show (t138).drop (1 : Int).toNat = y143 from Ny143.out.symm] at hr14
       replace hr14 : Kd.C (Kd.slice 3 (Kd.int .i64)) _ A14 y143.length y143 := (by rw [hA14]; exact hr14)
       rw [← hy14, ← hA14, ← hc14] at hcut14
       have HR146 := zqi hr14
       have HC146 := zqi (show y143.length ≤ c14 from by rw [hy14, hc14]; exact Nat.sub_le_sub_right hroom14 _)
       clear hr14 hC14 hroom14 hi014 hsz14 hc14
       have KY14 := zqi hy14
       have KA14 := zqi hA14
       clear hy14 hA14
       have KL14 := zqi (show 1 ≤ t138.length from by omega)
       replace q14 := eq_true q14
       go_wp2_with (first | (go_at_call 21; (with_reducible refine (slices_ContainsFunc_int_int.calls _ _ y143 999020 t147 _ ?side1 ?side2 A12.out).mono ?_); (case side1 => repeat (first | exact (by repeat (first | (with_reducible exact HR146.out) | (with_reducible refine Kd.C_alloc ?_ _) | (with_reducible refine Kd.C_drewN ?_ _) | (with_reducible refine Kd.C_drew ?_) | exact HR146.out)) | (with_reducible refine Kd.C_alloc ?_ _) | (with_reducible refine Kd.C_drewN ?_ _) | (with_reducible refine Kd.C_drew ?_))); (case side2 => exact HC146.out); rintro e w15 ⟨rfl, hb⟩; have n0_ := zqi (Kd.S_below (by (with_reducible repeat (first | apply Kd.S_alloc | apply Kd.S_drewN | apply Kd.S_drew)); exact HO141.out) hb); have n1_ := zqi (Kd.R_below (by (with_reducible repeat (first | apply Kd.R_alloc | apply Kd.R_drewN | apply Kd.R_drew)); exact HL142_0.out) hb); have n2_ := zqi (blk_below (g := gb137) (o := .cells #[.int .i64 0, .int .i64 0, .int .i64 0, .slice none 0 0] 26 (0, 0)) (by (with_reducible repeat (first | apply zqa | apply zqb | apply zqc)); exact BK137.out) hb); have n3_ := zqi (Kd.C_below (by repeat (first | (with_reducible exact HR142_0.out) | (with_reducible refine Kd.C_alloc ?_ _) | (with_reducible refine Kd.C_drewN ?_ _) | (with_reducible refine Kd.C_drew ?_) | exact HR142_0.out)) hb); have n4_ := zqi (Kd.C_below (by repeat (first | (with_reducible exact HR146.out) | (with_reducible refine Kd.C_alloc ?_ _) | (with_reducible refine Kd.C_drewN ?_ _) | (with_reducible refine Kd.C_drew ?_) | exact HR146.out)) hb); have n5_ := zqi (below_step (by repeat (first | (with_reducible first | exact HB.out | apply zqg | apply zqf | apply zqh | refine below_set ?_ GE137.out) | exact HB.out)) hb); clear HO141; clear HL142_0; clear BK137; clear HR142_0; clear HR146; clear HB; have HO141 := n0_; have HL142_0 := n1_; have BK137 := n2_; have HR142_0 := n3_; have HR146 := n4_; have HB := n5_; clear n0_ n1_ n2_ n3_ n4_ n5_; (try clear hb); (try clear hb2); (try clear hk); (try clear hi)))
       go_meet
       case rel => exact ⟨_, (t147), (by first | rfl | (simp; done) | (simp [*]; done)), H', ⟨by first | omega | exact Nat.le_refl _⟩, ⟨by (with_reducible repeat (first | apply Kd.S_alloc | apply Kd.S_drewN | apply Kd.S_drew)); exact HO141.out⟩, ⟨by (with_reducible repeat (first | apply zqa | apply zqb | apply zqc)); exact BK137.out⟩, ⟨by repeat (first | (with_reducible first | exact HB.out | apply zqg | apply zqf | apply zqh | refine below_set ?_ GE137.out) | exact HB.out)⟩⟩
      ·
       rw [if_neg c11] at H
       exact absurd H (by simp)
     ·
      rw [if_neg c10] at H
      have c10b0 : (((rd_L3 t138 0).length : Int) == 3) = false := beq_eq_false_iff_ne.mpr c10
      have c10b1 : (((rd_L3 t138 0).length : Int) != 3) = true := bne_iff_ne.mpr c10
      have H' := zqi H
      clear H
      obtain ⟨Ao16, co16, eo16⟩ := Kd.S_slice HO141.out
      subst eo16
      have p142 : 0 ≤ (0 : Int) := (by omega)
      have q142 : 0 < (t138.length : Int) := of_decide_eq_true (by first | (with_reducible assumption) | assumption)
      obtain ⟨ad142, A142_0, c142_0, e142, hx142_0, hl142_0, hi142_0⟩ := at_L3 (Kd.S_reads' HO141.out).2.2 0 p142 q142
      cases e142
      obtain ⟨ce142, hce142, hMe142, hcc142⟩ := Kd.S_get HO141.out [] 0 p142 (by first | exact q142 | exact of_decide_eq_true (by first | (with_reducible assumption) | assumption) | (have e_ := (Kd.S_reads' HO141.out).1; omega))
      obtain ⟨ve142_0, rfl, ge142_0⟩ := hMe142
      have hv142_0 := hcc142 0 _ rfl
      rw [Nat.add_zero, show ((Kd.slice 3 (Kd.int .i64))).sz = 1 from rfl, Nat.mul_one] at hv142_0
      replace hv142_0 := Option.some.inj (hv142_0.symm.trans hx142_0)
      rw [hv142_0] at ge142_0
      have HL142_0 := zqi (show Kd.R (Kd.int .i64) 3 _ _ _ _ (rd_L3 t138 0) from ge142_0)
      clear hv142_0 ge142_0
      clear hcc142 hce142
      have qi142 : (0 < t138.length) = True := eq_true (by omega)
      (try rw [show ((0 : Int)).toNat = 0 from rfl] at hx142_0)
      (try rw [Addr.add_zero'] at hx142_0)
      have HR142_0 := zqi hi142_0
      have HC142_0 := zqi hl142_0
      clear hi142_0 hl142_0
      replace p142 := eq_true p142
      replace q142 := eq_true q142
      go_wp2
      go_meet
      case rel => exact ⟨_, (true), (by first | rfl | (simp; done) | (simp [*]; done)), H', ⟨by first | omega | exact Nat.le_refl _⟩, ⟨by (with_reducible repeat (first | apply Kd.S_alloc | apply Kd.S_drewN | apply Kd.S_drew)); exact HO141.out⟩, ⟨by (with_reducible repeat (first | apply zqa | apply zqb | apply zqc)); exact BK137.out⟩, ⟨by repeat (first | (with_reducible first | exact HB.out | apply zqg | apply zqf | apply zqh | refine below_set ?_ GE137.out) | exact HB.out)⟩⟩
    ·
     rw [if_neg c9] at H
     exact absurd H (by simp)
  case rest =>
   clear HC4
   try clear c1
   try clear p1
   try clear q1
   try clear hx1
   try clear qi1
   try clear p2
   try clear c3
   try clear c3b0
   try clear c3b1
   try clear c7
   try clear c7b0
   try clear c7b1
   try clear c7b2
   try clear c9
   try clear c9b0
   try clear c9b1
   try clear c10
   try clear c10b0
   try clear c10b1
   try clear c11
   try clear c11b0
   try clear c11b1
   try clear c14
   try clear p14
   try clear q14
   try clear hx14
   try clear qi14
   try clear hx142_0
   try clear p142
   try clear q14
   try clear q142
   obtain ⟨kq, x34_3, rfl, HA, HJ3, HO_4, BK137, HB⟩ := hcut
   cases kq with
   | zero => exact absurd HA.out (by simp [inst_Parse.j0])
   | succ kj3 =>
    have H := HA.out
    clear HA
    simp only [inst_Parse.j0] at H
    by_cases c17 : x34_3 = true
    ·
     subst c17
     have H1 : (some (0, 0, 0, ([] : List (S34)), 2)) = some (r1, r2, r3, r4, r5) := by rw [if_pos rfl] at H; exact H
     clear H
     have H := H1
     clear H1
     simp only [Option.some.injEq, Prod.mk.injEq] at H
     obtain ⟨rfl, rfl, rfl, rfl, rfl⟩ := H
     have hcz18_0 : wc.cell? ⟨gb137, 0, none⟩ = some (.int .i64 0) := (zqe BK137.out 0).trans rfl
     have hcz18_1 : wc.cell? ⟨gb137, 1, none⟩ = some (.int .i64 0) := (zqe BK137.out 1).trans rfl
     have hcz18_2 : wc.cell? ⟨gb137, 2, none⟩ = some (.int .i64 0) := (zqe BK137.out 2).trans rfl
     have hcz18_3 : wc.cell? ⟨gb137, 3, none⟩ = some (.slice none 0 0) := (zqe BK137.out 3).trans rfl
     have hfz18_0 := zqd BK137.out 0
     have hfz18_1 := zqd BK137.out 1
     have hfz18_2 := zqd BK137.out 2
     have hfz18_3 := zqd BK137.out 3
     go_wp2
     refine bodyPost_ret (results_ct rfl _ _ gb137 26 #[.int .i64 0, .int .i64 0, .int .i64 0, .slice none 0 0] (0, 0) _ rfl (by (with_reducible repeat (first | apply zqa | apply zqb | apply zqc)); refine blk_put (cs := #[.int .i64 0, .int .i64 0, .int .i64 0, .slice none 0 0]) ?_ 3 _ rfl; (with_reducible repeat (first | apply zqa | apply zqb | apply zqc)); refine blk_put (cs := #[.int .i64 0, .int .i64 0, .int .i64 0, .slice none 0 0]) ?_ 2 _ rfl; (with_reducible repeat (first | apply zqa | apply zqb | apply zqc)); refine blk_put (cs := #[.int .i64 0, .int .i64 0, .int .i64 0, .slice none 0 0]) ?_ 1 _ rfl; (with_reducible repeat (first | apply zqa | apply zqb | apply zqc)); refine blk_put (cs := #[.int .i64 0, .int .i64 0, .int .i64 0, .slice none 0 0]) ?_ 0 _ rfl; (with_reducible repeat (first | apply zqa | apply zqb | apply zqc)); exact BK137.out) Tryd.underlying26 rfl (by kernel_rfl)) rfl ?_
     exact ⟨_, by first | rfl | (simp [errW_none, errW_some] <;> rfl) | (simp [*, errW_none, errW_some] <;> rfl), by first | exact Kd.R_nil _ _ _ _ _ | exact Kd.N_nil _ _ _ _ _ | exact Kd.V_nil _ _ _ _ _ | exact Kd.Q_nil _ _ _ _ _ | exact Kd.S_nil _ _ _ _ _, by repeat (first | (with_reducible first | exact HB.out | apply zqg | apply zqf | apply zqh | refine below_set ?_ GE137.out) | exact HB.out)⟩
    ·
     replace c17 := Bool.eq_false_iff.mpr c17
     subst c17
     have H1 : (if 0 < (t138.length : Int) then (if 0 < ((rd_L3 t138 0).length : Int) then (if 1 < ((rd_L3 t138 0).length : Int) then (if 2 < ((rd_L3 t138 0).length : Int) then (if 1 ≤ (t138.length : Int) then ((some (t138.drop 1 : List (List Int))).bind fun y155 => (inst_Parse.l0 kj3 y155 (y155.length : Int) 0 (rd (rd_L3 t138 0) 0) (rd (rd_L3 t138 0) 1) (rd (rd_L3 t138 0) 2) ([] : List (S34)))) else (none)) else (none)) else (none)) else (none)) else (none)) = some (r1, r2, r3, r4, r5) := by rw [if_neg (show ¬ (false = true) by decide)] at H; exact H
     clear H
     have H := H1
     clear H1
     by_cases c19 : 0 < (t138.length : Int)
     ·
      rw [if_pos c19] at H
      have c19b0 : decide (0 < (t138.length : Int)) = true := decide_eq_true c19
      have c19b1 : decide (0 < t138.length) = true := decide_eq_true (by omega)
      clear c19
      by_cases c20 : 0 < ((rd_L3 t138 0).length : Int)
      ·
       rw [if_pos c20] at H
       have c20b0 : decide (0 < ((rd_L3 t138 0).length : Int)) = true := decide_eq_true c20
       have c20b1 : decide (0 < (rd_L3 t138 0).length) = true := decide_eq_true (by omega)
       clear c20
       by_cases c21 : 1 < ((rd_L3 t138 0).length : Int)
       ·
        rw [if_pos c21] at H
        have c21b0 : decide (1 < ((rd_L3 t138 0).length : Int)) = true := decide_eq_true c21
        have c21b1 : decide (1 < (rd_L3 t138 0).length) = true := decide_eq_true (by omega)
        clear c21
        by_cases c22 : 2 < ((rd_L3 t138 0).length : Int)
        ·
         rw [if_pos c22] at H
         have c22b0 : decide (2 < ((rd_L3 t138 0).length : Int)) = true := decide_eq_true c22
         have c22b1 : decide (2 < (rd_L3 t138 0).length) = true := decide_eq_true (by omega)
         clear c22
         by_cases c23 : 1 ≤ (t138.length : Int)
         ·
          rw [if_pos c23] at H
          have c23b0 := eq_true c23
          have c23b1 : decide (1 ≤ (t138.length : Int)) = true := decide_eq_true c23
          clear c23
          obtain ⟨y155, hy155⟩ : ∃ y_ : List (List Int), y_ = (t138.drop 1) := ⟨_, rfl⟩
          replace H : (inst_Parse.l0 kj3 y155 (y155.length : Int) 0 (rd (rd_L3 t138 0) 0) (rd (rd_L3 t138 0) 1) (rd (rd_L3 t138 0) 2) ([] : List (S34))) = some (r1, r2, r3, r4, r5) := by first | (rw [hy155]; with_reducible exact H) | (have H2_ := (Option.bind_some _ _).symm.trans H; rw [hy155]; with_reducible exact H2_) | (have H2_ := (Option.bind_some _ _).symm.trans H; with_reducible exact H2_) | with_reducible exact H | (rw [hy155]; exact H) | exact H
          have Ny155 := zqi hy155
          clear hy155
          have H' := zqi H
          clear H
          try go_wp2
          have n0_ := zqi (Kd.S_drew HO_4.out)
          have n1_ := zqi (zqb BK137.out)
          have n2_ := zqi (zqh HB.out)
          clear HO_4
          clear BK137
          clear HB
          have HO_4 := n0_
          have BK137 := n1_
          have HB := n2_
          clear n0_ n1_ n2_
          obtain ⟨Ao25, co25, eo25⟩ := Kd.S_slice HO_4.out
          (first | subst eo25 | (injection eo25 with f1_ f2_ f3_; have f4_ := f1_.symm; have f5_ := f3_.symm; clear f1_ f2_ f3_; subst f4_; subst f5_))
          have p148 : 0 ≤ (0 : Int) := (by omega)
          have q148 : 0 < (t138.length : Int) := of_decide_eq_true (by first | (with_reducible assumption) | assumption)
          obtain ⟨ad148, A148_0, c148_0, e148, hx148_0, hl148_0, hi148_0⟩ := at_L3 (Kd.S_reads' HO_4.out).2.2 0 p148 q148
          cases e148
          obtain ⟨ce148, hce148, hMe148, hcc148⟩ := Kd.S_get HO_4.out [] 0 p148 (by first | exact q148 | exact of_decide_eq_true (by first | (with_reducible assumption) | assumption) | (have e_ := (Kd.S_reads' HO_4.out).1; omega))
          obtain ⟨ve148_0, rfl, ge148_0⟩ := hMe148
          have hv148_0 := hcc148 0 _ rfl
          rw [Nat.add_zero, show ((Kd.slice 3 (Kd.int .i64))).sz = 1 from rfl, Nat.mul_one] at hv148_0
          replace hv148_0 := Option.some.inj (hv148_0.symm.trans hx148_0)
          rw [hv148_0] at ge148_0
          have HL148_0 := zqi (show Kd.R (Kd.int .i64) 3 _ _ _ _ (rd_L3 t138 0) from ge148_0)
          clear hv148_0 ge148_0
          clear hcc148 hce148
          have qi148 : (0 < t138.length) = True := eq_true (by omega)
          (try rw [show ((0 : Int)).toNat = 0 from rfl] at hx148_0)
          (try rw [Addr.add_zero'] at hx148_0)
          have HR148_0 := zqi hi148_0
          have HC148_0 := zqi hl148_0
          clear hi148_0 hl148_0
          replace p148 := eq_true p148
          replace q148 := eq_true q148
          have p149 : 0 ≤ (0 : Int) := (by omega)
          have q149 : 0 < ((rd_L3 t138 0).length : Int) := of_decide_eq_true (by first | (with_reducible assumption) | assumption)
          obtain ⟨ad149, e149, hx149_0⟩ := Kd.at_int (by repeat (first | (with_reducible exact HR148_0.out) | (with_reducible refine Kd.C_alloc ?_ _) | (with_reducible refine Kd.C_drewN ?_ _) | (with_reducible refine Kd.C_drew ?_) | exact HR148_0.out)) 0 p149 q149
          cases e149
          have qi149 : (0 < (rd_L3 t138 0).length) = True := eq_true (by omega)
          (try rw [show ((0 : Int)).toNat = 0 from rfl] at hx149_0)
          (try rw [Addr.add_zero'] at hx149_0)
          replace p149 := eq_true p149
          replace q149 := eq_true q149
          have p150 : 0 ≤ (0 : Int) := (by omega)
          have q150 : 0 < (t138.length : Int) := of_decide_eq_true (by first | (with_reducible assumption) | assumption)
          obtain ⟨ad150, A150_0, c150_0, e150, hx150_0, hl150_0, hi150_0⟩ := at_L3 (Kd.S_reads' HO_4.out).2.2 0 p150 q150
          obtain rfl : ad148 = ad150 := (by injection e150)
          obtain ⟨ce150, hce150, hMe150, hcc150⟩ := Kd.S_get HO_4.out [] 0 p150 (by first | exact q150 | exact of_decide_eq_true (by first | (with_reducible assumption) | assumption) | (have e_ := (Kd.S_reads' HO_4.out).1; omega))
          obtain ⟨ve150_0, rfl, ge150_0⟩ := hMe150
          have hv150_0 := hcc150 0 _ rfl
          rw [Nat.add_zero, show ((Kd.slice 3 (Kd.int .i64))).sz = 1 from rfl, Nat.mul_one] at hv150_0
          replace hv150_0 := Option.some.inj (hv150_0.symm.trans hx150_0)
          rw [hv150_0] at ge150_0
          have HL150_0 := zqi (show Kd.R (Kd.int .i64) 3 _ _ _ _ (rd_L3 t138 0) from ge150_0)
          clear hv150_0 ge150_0
          clear hcc150 hce150
          have qi150 : (0 < t138.length) = True := eq_true (by omega)
          (try rw [show ((0 : Int)).toNat = 0 from rfl] at hx150_0)
          (try rw [Addr.add_zero'] at hx150_0)
          have HR150_0 := zqi hi150_0
          have HC150_0 := zqi hl150_0
          clear hi150_0 hl150_0
          replace p150 := eq_true p150
          replace q150 := eq_true q150
          have ea_ := Option.some.inj (hx148_0.symm.trans hx150_0)
          injection ea_ with ea_ en_ ec_
          subst ea_
          subst ec_
          clear en_
          have p151 : 0 ≤ (1 : Int) := (by omega)
          have q151 : 1 < ((rd_L3 t138 0).length : Int) := of_decide_eq_true (by first | (with_reducible assumption) | assumption)
          obtain ⟨ad151, e151, hx151_0⟩ := Kd.at_int (by repeat (first | (with_reducible exact HR150_0.out) | (with_reducible refine Kd.C_alloc ?_ _) | (with_reducible refine Kd.C_drewN ?_ _) | (with_reducible refine Kd.C_drew ?_) | exact HR150_0.out)) 1 p151 q151
          cases e151
          (try simp only [show (1 : Int).toNat = 1 from rfl, Nat.reduceMul, Nat.reduceEqDiff, Go.Addr.add, ↓reduceIte] at hx151_0)
          have qi151 : (1 < (rd_L3 t138 0).length) = True := eq_true (by omega)
          (try rw [show ((1 : Int)).toNat = 1 from rfl] at hx151_0)
          replace p151 := eq_true p151
          replace q151 := eq_true q151
          have p152 : 0 ≤ (0 : Int) := (by omega)
          have q152 : 0 < (t138.length : Int) := of_decide_eq_true (by first | (with_reducible assumption) | assumption)
          obtain ⟨ad152, A152_0, c152_0, e152, hx152_0, hl152_0, hi152_0⟩ := at_L3 (Kd.S_reads' HO_4.out).2.2 0 p152 q152
          obtain rfl : ad148 = ad152 := (by injection e152)
          obtain ⟨ce152, hce152, hMe152, hcc152⟩ := Kd.S_get HO_4.out [] 0 p152 (by first | exact q152 | exact of_decide_eq_true (by first | (with_reducible assumption) | assumption) | (have e_ := (Kd.S_reads' HO_4.out).1; omega))
          obtain ⟨ve152_0, rfl, ge152_0⟩ := hMe152
          have hv152_0 := hcc152 0 _ rfl
          rw [Nat.add_zero, show ((Kd.slice 3 (Kd.int .i64))).sz = 1 from rfl, Nat.mul_one] at hv152_0
          replace hv152_0 := Option.some.inj (hv152_0.symm.trans hx152_0)
          rw [hv152_0] at ge152_0
          have HL152_0 := zqi (show Kd.R (Kd.int .i64) 3 _ _ _ _ (rd_L3 t138 0) from ge152_0)
          clear hv152_0 ge152_0
          clear hcc152 hce152
          have qi152 : (0 < t138.length) = True := eq_true (by omega)
          (try rw [show ((0 : Int)).toNat = 0 from rfl] at hx152_0)
          (try rw [Addr.add_zero'] at hx152_0)
          have HR152_0 := zqi hi152_0
          have HC152_0 := zqi hl152_0
          clear hi152_0 hl152_0
          replace p152 := eq_true p152
          replace q152 := eq_true q152
          have ea_ := Option.some.inj (hx148_0.symm.trans hx152_0)
          injection ea_ with ea_ en_ ec_
          subst ea_
          subst ec_
          clear en_
          have p153 : 0 ≤ (2 : Int) := (by omega)
          have q153 : 2 < ((rd_L3 t138 0).length : Int) := of_decide_eq_true (by first | (with_reducible assumption) | assumption)
          obtain ⟨ad153, e153, hx153_0⟩ := Kd.at_int (by repeat (first | (with_reducible exact HR152_0.out) | (with_reducible refine Kd.C_alloc ?_ _) | (with_reducible refine Kd.C_drewN ?_ _) | (with_reducible refine Kd.C_drew ?_) | exact HR152_0.out)) 2 p153 q153
          cases e153
          (try simp only [show (2 : Int).toNat = 2 from rfl, Nat.reduceMul, Nat.reduceEqDiff, Go.Addr.add, ↓reduceIte] at hx153_0)
          have qi153 : (2 < (rd_L3 t138 0).length) = True := eq_true (by omega)
          (try rw [show ((2 : Int)).toNat = 2 from rfl] at hx153_0)
          replace p153 := eq_true p153
          replace q153 := eq_true q153
          refine start_ (n := 18) (S := fun w' => w'.cell? ad148 = some (.slice (some ad149) (rd_L3 t138 0).length c148_0) ∧ w'.cell? ad149 = some (.int .i64 (rd (rd_L3 t138 0) 0)) ∧ w'.cell? ad148 = some (.slice (some ad149) (rd_L3 t138 0).length c148_0) ∧ w'.cell? ⟨ad149.block, ad149.off + 1, none⟩ = some (.int .i64 (rd (rd_L3 t138 0) 1)) ∧ w'.cell? ad148 = some (.slice (some ad149) (rd_L3 t138 0).length c148_0) ∧ w'.cell? ⟨ad149.block, ad149.off + 2, none⟩ = some (.int .i64 (rd (rd_L3 t138 0) 2))) (ds := []) #[false, false, false, false, false, false, false, false, false, false, false, false, false, false, false, false, false, false] (by kernel_rfl) rfl rfl ⟨hx148_0, hx149_0, hx150_0, hx151_0, hx152_0, hx153_0⟩ (fun hHeld => ?_); refine with_tabW inst_Parse.tab7 inst_Parse.bits7 (fun HT_ HW_ => ?_)
          generalize wc.drew = w24 at HO_4 BK137 HB HL148_0 HL150_0 HL152_0 HR148_0 HR150_0 HR152_0 hx148_0 hx149_0 hx150_0 hx151_0 hx152_0 hx153_0 hHeld ⊢
          refine pure_ (i := 0) (N := some 36) (v := ?_) (a' := ?_) #[true, false, false, false, false, false, false, false, false, false, false, false, false, false, false, false, false, false] rfl rfl (any_of HT_.out (by kernel_rfl)) (fun _ _ _ h => h) (Or.inl ⟨by rfl, ?_⟩) ?_ ?_
          rotate_left
          ·
           intro w'
           go_simp
           with_reducible rfl
          rotate_left
          ·
           simp only [Act.put, List.setIfInBounds_toArray, List.set_cons_zero, List.set_cons_succ, i64_w, i32_w]
           rfl
          refine pure_ (i := 1) (N := some 37) (v := ?_) (a' := ?_) #[true, true, false, false, false, false, false, false, false, false, false, false, false, false, false, false, false, false] rfl rfl (any_of HT_.out (by kernel_rfl)) (fun _ _ _ h => h) (Or.inl ⟨by rfl, ?_⟩) ?_ ?_
          rotate_left
          ·
           intro w'
           go_simp
           with_reducible rfl
          rotate_left
          ·
           simp only [Act.put, List.setIfInBounds_toArray, List.set_cons_zero, List.set_cons_succ, i64_w, i32_w]
           rfl
          refine pure_ (i := 5) (N := some 41) (v := ?_) (a' := ?_) #[true, true, false, false, false, true, false, false, false, false, false, false, false, false, false, false, false, false] rfl rfl (any_of HT_.out (by kernel_rfl)) (fun _ _ _ h => h) (Or.inl ⟨by rfl, ?_⟩) ?_ ?_
          rotate_left
          ·
           intro w'
           go_simp
           with_reducible rfl
          rotate_left
          ·
           simp only [Act.put, List.setIfInBounds_toArray, List.set_cons_zero, List.set_cons_succ, i64_w, i32_w]
           rfl
          refine pure_ (i := 6) (N := some 42) (v := ?_) (a' := ?_) #[true, true, false, false, false, true, true, false, false, false, false, false, false, false, false, false, false, false] rfl rfl (any_of HT_.out (by kernel_rfl)) (fun _ _ _ h => h) (Or.inl ⟨by rfl, ?_⟩) ?_ ?_
          rotate_left
          ·
           intro w'
           go_simp
           with_reducible rfl
          rotate_left
          ·
           simp only [Act.put, List.setIfInBounds_toArray, List.set_cons_zero, List.set_cons_succ, i64_w, i32_w]
           rfl
          refine pure_ (i := 10) (N := some 46) (v := ?_) (a' := ?_) #[true, true, false, false, false, true, true, false, false, false, true, false, false, false, false, false, false, false] rfl rfl (any_of HT_.out (by kernel_rfl)) (fun _ _ _ h => h) (Or.inl ⟨by rfl, ?_⟩) ?_ ?_
          rotate_left
          ·
           intro w'
           go_simp
           with_reducible rfl
          rotate_left
          ·
           simp only [Act.put, List.setIfInBounds_toArray, List.set_cons_zero, List.set_cons_succ, i64_w, i32_w]
           rfl
          refine pure_ (i := 11) (N := some 47) (v := ?_) (a' := ?_) #[true, true, false, false, false, true, true, false, false, false, true, true, false, false, false, false, false, false] rfl rfl (any_of HT_.out (by kernel_rfl)) (fun _ _ _ h => h) (Or.inl ⟨by rfl, ?_⟩) ?_ ?_
          rotate_left
          ·
           intro w'
           go_simp
           with_reducible rfl
          rotate_left
          ·
           simp only [Act.put, List.setIfInBounds_toArray, List.set_cons_zero, List.set_cons_succ, i64_w, i32_w]
           rfl
          refine take_ (i := 2) (N := some 38) (v := ?_) (a' := ?_) #[true, true, true, false, false, true, true, false, false, false, true, true, false, false, false, false, false, false] rfl rfl (take_ofW HT_.out HW_.out (by kernel_rfl)) (fun _ _ _ h => h) (Or.inl ⟨by rfl, ?_⟩) hHeld ?_ ?_
          rotate_left
          ·
           rintro w' ⟨s0, s1, s2, s3, s4, s5⟩
           go_simp
           with_reducible rfl
          rotate_left
          ·
           simp only [Act.put, List.setIfInBounds_toArray, List.set_cons_zero, List.set_cons_succ, i64_w, i32_w]
           rfl
          refine pure_ (i := 3) (N := some 39) (v := ?_) (a' := ?_) #[true, true, true, true, false, true, true, false, false, false, true, true, false, false, false, false, false, false] rfl rfl (any_of HT_.out (by kernel_rfl)) (fun _ _ _ h => h) (Or.inl ⟨by rfl, ?_⟩) ?_ ?_
          rotate_left
          ·
           intro w'
           go_simp
           with_reducible rfl
          rotate_left
          ·
           simp only [Act.put, List.setIfInBounds_toArray, List.set_cons_zero, List.set_cons_succ, i64_w, i32_w]
           rfl
          refine take_ (i := 4) (N := some 40) (v := ?_) (a' := ?_) #[true, true, true, true, true, true, true, false, false, false, true, true, false, false, false, false, false, false] rfl rfl (take_ofW HT_.out HW_.out (by kernel_rfl)) (fun _ _ _ h => h) (Or.inl ⟨by rfl, ?_⟩) hHeld ?_ ?_
          rotate_left
          ·
           rintro w' ⟨s0, s1, s2, s3, s4, s5⟩
           go_simp
           with_reducible rfl
          rotate_left
          ·
           simp only [Act.put, List.setIfInBounds_toArray, List.set_cons_zero, List.set_cons_succ, i64_w, i32_w]
           rfl
          refine take_ (i := 7) (N := some 43) (v := ?_) (a' := ?_) #[true, true, true, true, true, true, true, true, false, false, true, true, false, false, false, false, false, false] rfl rfl (take_ofW HT_.out HW_.out (by kernel_rfl)) (fun _ _ _ h => h) (Or.inl ⟨by rfl, ?_⟩) hHeld ?_ ?_
          rotate_left
          ·
           rintro w' ⟨s0, s1, s2, s3, s4, s5⟩
           go_simp
           with_reducible rfl
          rotate_left
          ·
           simp only [Act.put, List.setIfInBounds_toArray, List.set_cons_zero, List.set_cons_succ, i64_w, i32_w]
           rfl
          refine pure_ (i := 8) (N := some 44) (v := ?_) (a' := ?_) #[true, true, true, true, true, true, true, true, true, false, true, true, false, false, false, false, false, false] rfl rfl (any_of HT_.out (by kernel_rfl)) (fun _ _ _ h => h) (Or.inl ⟨by rfl, ?_⟩) ?_ ?_
          rotate_left
          ·
           intro w'
           go_simp
           with_reducible rfl
          rotate_left
          ·
           simp only [Act.put, List.setIfInBounds_toArray, List.set_cons_zero, List.set_cons_succ, i64_w, i32_w]
           rfl
          refine take_ (i := 9) (N := some 45) (v := ?_) (a' := ?_) #[true, true, true, true, true, true, true, true, true, true, true, true, false, false, false, false, false, false] rfl rfl (take_ofW HT_.out HW_.out (by kernel_rfl)) (fun _ _ _ h => h) (Or.inl ⟨by rfl, ?_⟩) hHeld ?_ ?_
          rotate_left
          ·
           rintro w' ⟨s0, s1, s2, s3, s4, s5⟩
           go_simp
           with_reducible rfl
          rotate_left
          ·
           simp only [Act.put, List.setIfInBounds_toArray, List.set_cons_zero, List.set_cons_succ, i64_w, i32_w]
           rfl
          refine take_ (i := 12) (N := some 48) (v := ?_) (a' := ?_) #[true, true, true, true, true, true, true, true, true, true, true, true, true, false, false, false, false, false] rfl rfl (take_ofW HT_.out HW_.out (by kernel_rfl)) (fun _ _ _ h => h) (Or.inl ⟨by rfl, ?_⟩) hHeld ?_ ?_
          rotate_left
          ·
           rintro w' ⟨s0, s1, s2, s3, s4, s5⟩
           go_simp
           with_reducible rfl
          rotate_left
          ·
           simp only [Act.put, List.setIfInBounds_toArray, List.set_cons_zero, List.set_cons_succ, i64_w, i32_w]
           rfl
          refine pure_ (i := 13) (N := some 49) (v := ?_) (a' := ?_) #[true, true, true, true, true, true, true, true, true, true, true, true, true, true, false, false, false, false] rfl rfl (any_of HT_.out (by kernel_rfl)) (fun _ _ _ h => h) (Or.inl ⟨by rfl, ?_⟩) ?_ ?_
          rotate_left
          ·
           intro w'
           go_simp
           with_reducible rfl
          rotate_left
          ·
           simp only [Act.put, List.setIfInBounds_toArray, List.set_cons_zero, List.set_cons_succ, i64_w, i32_w]
           rfl
          refine take_ (i := 14) (N := some 50) (v := ?_) (a' := ?_) #[true, true, true, true, true, true, true, true, true, true, true, true, true, true, true, false, false, false] rfl rfl (take_ofW HT_.out HW_.out (by kernel_rfl)) (fun _ _ _ h => h) (Or.inl ⟨by rfl, ?_⟩) hHeld ?_ ?_
          rotate_left
          ·
           rintro w' ⟨s0, s1, s2, s3, s4, s5⟩
           go_simp
           with_reducible rfl
          rotate_left
          ·
           simp only [Act.put, List.setIfInBounds_toArray, List.set_cons_zero, List.set_cons_succ, i64_w, i32_w]
           rfl
          refine pure_ (i := 15) (N := some 51) (v := ?_) (a' := ?_) #[true, true, true, true, true, true, true, true, true, true, true, true, true, true, true, true, false, false] rfl rfl (any_of HT_.out (by kernel_rfl)) (fun _ _ _ h => h) (Or.inl ⟨by rfl, ?_⟩) ?_ ?_
          rotate_left
          ·
           intro w'
           go_simp
           with_reducible rfl
          rotate_left
          ·
           simp only [Act.put, List.setIfInBounds_toArray, List.set_cons_zero, List.set_cons_succ, i64_w, i32_w]
           rfl
          refine one_ (i := 16) (N := some 7) #[true, true, true, true, true, true, true, true, true, true, true, true, true, true, true, true, true, false] rfl rfl (one_of HT_.out (by kernel_rfl)) (by decide) (fun K hK => ?_)
          refine box_step ?hg (N := 7) ?hd (cs := #[.int .i64 0, .int .i64 0, .int .i64 0, .slice none 0 0]) (t := 26) ?hr ?_; (case hd => rfl); (case hg => rfl); (case hr => first | (go_simp; done) | (go_simp; rfl))
          intro gb154 hg w26 hbox hb
          have HS0_ := (hb.cell (World.block_lt_of_cell? _ _ (hHeld.1))).trans (hHeld.1)
          have HS1_ := (hb.cell (World.block_lt_of_cell? _ _ (hHeld.2.1))).trans (hHeld.2.1)
          have HS2_ := (hb.cell (World.block_lt_of_cell? _ _ (hHeld.2.2.1))).trans (hHeld.2.2.1)
          have HS3_ := (hb.cell (World.block_lt_of_cell? _ _ (hHeld.2.2.2.1))).trans (hHeld.2.2.2.1)
          have HS4_ := (hb.cell (World.block_lt_of_cell? _ _ (hHeld.2.2.2.2.1))).trans (hHeld.2.2.2.2.1)
          have HS5_ := (hb.cell (World.block_lt_of_cell? _ _ (hHeld.2.2.2.2.2))).trans (hHeld.2.2.2.2.2)
          have n0_ := zqi (Kd.S_below (by (with_reducible repeat (first | apply Kd.S_alloc | apply Kd.S_drewN | apply Kd.S_drew)); exact HO_4.out) hb)
          have n1_ := zqi (Kd.R_below (by (with_reducible repeat (first | apply Kd.R_alloc | apply Kd.R_drewN | apply Kd.R_drew)); exact HL148_0.out) hb)
          have n2_ := zqi (Kd.R_below (by (with_reducible repeat (first | apply Kd.R_alloc | apply Kd.R_drewN | apply Kd.R_drew)); exact HL150_0.out) hb)
          have n3_ := zqi (Kd.R_below (by (with_reducible repeat (first | apply Kd.R_alloc | apply Kd.R_drewN | apply Kd.R_drew)); exact HL152_0.out) hb)
          have n4_ := zqi (blk_below (g := gb137) (o := .cells #[.int .i64 0, .int .i64 0, .int .i64 0, .slice none 0 0] 26 (0, 0)) (by (with_reducible repeat (first | apply zqa | apply zqb | apply zqc)); exact BK137.out) hb)
          have n5_ := zqi (Kd.C_below (by repeat (first | (with_reducible exact HR148_0.out) | (with_reducible refine Kd.C_alloc ?_ _) | (with_reducible refine Kd.C_drewN ?_ _) | (with_reducible refine Kd.C_drew ?_) | exact HR148_0.out)) hb)
          have n6_ := zqi (Kd.C_below (by repeat (first | (with_reducible exact HR150_0.out) | (with_reducible refine Kd.C_alloc ?_ _) | (with_reducible refine Kd.C_drewN ?_ _) | (with_reducible refine Kd.C_drew ?_) | exact HR150_0.out)) hb)
          have n7_ := zqi (Kd.C_below (by repeat (first | (with_reducible exact HR152_0.out) | (with_reducible refine Kd.C_alloc ?_ _) | (with_reducible refine Kd.C_drewN ?_ _) | (with_reducible refine Kd.C_drew ?_) | exact HR152_0.out)) hb)
          have n8_ := zqi (below_step (by repeat (first | (with_reducible first | exact HB.out | apply zqg | apply zqf | apply zqh | refine below_set ?_ GE137.out) | exact HB.out)) hb)
          have n9_ := zqi (hbox)
          have n10_ := zqi ((by rw [hg]; exact (below_size (by repeat (first | (with_reducible first | exact HB.out | apply zqg | apply zqf | apply zqh | refine below_set ?_ GE137.out) | exact HB.out))) : w.heap.size ≤ gb154))
          have n11_ := zqi ((by rw [hg]; exact (below_size (by repeat (first | (with_reducible first | exact HB.out | apply zqg | apply zqf | apply zqh | refine below_set ?_ GE137.out) | exact HB.out))) : w.heap.size ≤ gb154))
          have n12_ := zqi ((by rw [hg]; exact Nat.ne_of_lt (blk_lt (g := gb137) (o := .cells #[.int .i64 0, .int .i64 0, .int .i64 0, .slice none 0 0] 26 (0, 0)) (by (with_reducible repeat (first | apply zqa | apply zqb | apply zqc)); exact BK137.out)) : gb137 ≠ gb154))
          have n13_ := zqi ((by rw [hg]; exact Nat.ne_of_gt (blk_lt (g := gb137) (o := .cells #[.int .i64 0, .int .i64 0, .int .i64 0, .slice none 0 0] 26 (0, 0)) (by (with_reducible repeat (first | apply zqa | apply zqb | apply zqc)); exact BK137.out)) : gb154 ≠ gb137))
          clear HO_4
          clear HL148_0
          clear HL150_0
          clear HL152_0
          clear BK137
          clear HR148_0
          clear HR150_0
          clear HR152_0
          clear HB
          have HO_4 := n0_
          have HL148_0 := n1_
          have HL150_0 := n2_
          have HL152_0 := n3_
          have BK137 := n4_
          have HR148_0 := n5_
          have HR150_0 := n6_
          have HR152_0 := n7_
          have HB := n8_
          have BK154 := n9_
          have GW154 := n10_
          have GE154 := n11_
          have NB137_154 := n12_
          have NB154_137 := n13_
          clear n0_ n1_ n2_ n3_ n4_ n5_ n6_ n7_ n8_ n9_ n10_ n11_ n12_ n13_
          clear hb hbox hg
          refine hK.out _ _ ⟨HS0_, HS1_, HS2_, HS3_, HS4_, HS5_⟩ (fun hHeld => ?_)
          clear hK K
          refine norm_ (a' := ?_) ?_ ?_
          rotate_left
          ·
           show Act.put _ (some 7) _ = _
           simp only [Act.put, List.setIfInBounds_toArray, List.set_cons_zero, List.set_cons_succ, i64_w, i32_w]
           rfl
          refine one_ (i := 17) (N := none) #[true, true, true, true, true, true, true, true, true, true, true, true, true, true, true, true, true, true] rfl rfl (one_of HT_.out (by kernel_rfl)) (by decide) (fun K hK => ?_)
          have hs27 : w26.cell? ⟨gb154, 0, none⟩ = some (.int .i64 0) := (zqe BK154.out 0).trans rfl
          have hfs27 := zqd BK154.out 0
          have hns27_0 := NB137_154.out
          have hms27_0 := NB154_137.out
          have hs28 : w26.cell? ⟨gb154, 1, none⟩ = some (.int .i64 0) := (zqe BK154.out 1).trans rfl
          have hfs28 := zqd BK154.out 1
          have hns28_0 := NB137_154.out
          have hms28_0 := NB154_137.out
          have hs29 : w26.cell? ⟨gb154, 2, none⟩ = some (.int .i64 0) := (zqe BK154.out 2).trans rfl
          have hfs29 := zqd BK154.out 2
          have hns29_0 := NB137_154.out
          have hms29_0 := NB154_137.out
          have hs30 : w26.cell? ⟨gb154, 3, none⟩ = some (.slice none 0 0) := (zqe BK154.out 3).trans rfl
          have hfs30 := zqd BK154.out 3
          have hns30_0 := NB137_154.out
          have hms30_0 := NB154_137.out
          refine skip_ (w1 := ?_) (by rfl) rfl ?_ ?_
          rotate_left
          ·
           go_simp
           rfl
          refine hK.out _ _ ⟨((cell_far (p := ⟨gb154, _, none⟩) (by first | exact Kd.own_blk (Kd.S_ne HO_4.out BK154.out (by decide)) | (rw [add_block]; exact Kd.own_blk (Kd.S_ne HO_4.out BK154.out (by decide))) | (show (Addr.add _ _).block ≠ _; rw [add_block]; exact Kd.own_blk (Kd.S_ne HO_4.out BK154.out (by decide))) | (dsimp only; exact Kd.own_blk (Kd.S_ne HO_4.out BK154.out (by decide)))) _).trans (((cell_far (p := ⟨gb154, _, none⟩) (by first | exact Kd.own_blk (Kd.S_ne HO_4.out BK154.out (by decide)) | (rw [add_block]; exact Kd.own_blk (Kd.S_ne HO_4.out BK154.out (by decide))) | (show (Addr.add _ _).block ≠ _; rw [add_block]; exact Kd.own_blk (Kd.S_ne HO_4.out BK154.out (by decide))) | (dsimp only; exact Kd.own_blk (Kd.S_ne HO_4.out BK154.out (by decide)))) _).trans (((cell_far (p := ⟨gb154, _, none⟩) (by first | exact Kd.own_blk (Kd.S_ne HO_4.out BK154.out (by decide)) | (rw [add_block]; exact Kd.own_blk (Kd.S_ne HO_4.out BK154.out (by decide))) | (show (Addr.add _ _).block ≠ _; rw [add_block]; exact Kd.own_blk (Kd.S_ne HO_4.out BK154.out (by decide))) | (dsimp only; exact Kd.own_blk (Kd.S_ne HO_4.out BK154.out (by decide)))) _).trans (((cell_far (p := ⟨gb154, _, none⟩) (by first | exact Kd.own_blk (Kd.S_ne HO_4.out BK154.out (by decide)) | (rw [add_block]; exact Kd.own_blk (Kd.S_ne HO_4.out BK154.out (by decide))) | (show (Addr.add _ _).block ≠ _; rw [add_block]; exact Kd.own_blk (Kd.S_ne HO_4.out BK154.out (by decide))) | (dsimp only; exact Kd.own_blk (Kd.S_ne HO_4.out BK154.out (by decide)))) _).trans (hHeld.1)))))))), ((cell_far (p := ⟨gb154, _, none⟩) (by first | exact Kd.own_blk (Kd.R_ne HL148_0.out BK154.out (by decide)) | (rw [add_block]; exact Kd.own_blk (Kd.R_ne HL148_0.out BK154.out (by decide))) | (show (Addr.add _ _).block ≠ _; rw [add_block]; exact Kd.own_blk (Kd.R_ne HL148_0.out BK154.out (by decide))) | (dsimp only; exact Kd.own_blk (Kd.R_ne HL148_0.out BK154.out (by decide)))) _).trans (((cell_far (p := ⟨gb154, _, none⟩) (by first | exact Kd.own_blk (Kd.R_ne HL148_0.out BK154.out (by decide)) | (rw [add_block]; exact Kd.own_blk (Kd.R_ne HL148_0.out BK154.out (by decide))) | (show (Addr.add _ _).block ≠ _; rw [add_block]; exact Kd.own_blk (Kd.R_ne HL148_0.out BK154.out (by decide))) | (dsimp only; exact Kd.own_blk (Kd.R_ne HL148_0.out BK154.out (by decide)))) _).trans (((cell_far (p := ⟨gb154, _, none⟩) (by first | exact Kd.own_blk (Kd.R_ne HL148_0.out BK154.out (by decide)) | (rw [add_block]; exact Kd.own_blk (Kd.R_ne HL148_0.out BK154.out (by decide))) | (show (Addr.add _ _).block ≠ _; rw [add_block]; exact Kd.own_blk (Kd.R_ne HL148_0.out BK154.out (by decide))) | (dsimp only; exact Kd.own_blk (Kd.R_ne HL148_0.out BK154.out (by decide)))) _).trans (((cell_far (p := ⟨gb154, _, none⟩) (by first | exact Kd.own_blk (Kd.R_ne HL148_0.out BK154.out (by decide)) | (rw [add_block]; exact Kd.own_blk (Kd.R_ne HL148_0.out BK154.out (by decide))) | (show (Addr.add _ _).block ≠ _; rw [add_block]; exact Kd.own_blk (Kd.R_ne HL148_0.out BK154.out (by decide))) | (dsimp only; exact Kd.own_blk (Kd.R_ne HL148_0.out BK154.out (by decide)))) _).trans (hHeld.2.1)))))))), ((cell_far (p := ⟨gb154, _, none⟩) (by first | exact Kd.own_blk (Kd.S_ne HO_4.out BK154.out (by decide)) | (rw [add_block]; exact Kd.own_blk (Kd.S_ne HO_4.out BK154.out (by decide))) | (show (Addr.add _ _).block ≠ _; rw [add_block]; exact Kd.own_blk (Kd.S_ne HO_4.out BK154.out (by decide))) | (dsimp only; exact Kd.own_blk (Kd.S_ne HO_4.out BK154.out (by decide)))) _).trans (((cell_far (p := ⟨gb154, _, none⟩) (by first | exact Kd.own_blk (Kd.S_ne HO_4.out BK154.out (by decide)) | (rw [add_block]; exact Kd.own_blk (Kd.S_ne HO_4.out BK154.out (by decide))) | (show (Addr.add _ _).block ≠ _; rw [add_block]; exact Kd.own_blk (Kd.S_ne HO_4.out BK154.out (by decide))) | (dsimp only; exact Kd.own_blk (Kd.S_ne HO_4.out BK154.out (by decide)))) _).trans (((cell_far (p := ⟨gb154, _, none⟩) (by first | exact Kd.own_blk (Kd.S_ne HO_4.out BK154.out (by decide)) | (rw [add_block]; exact Kd.own_blk (Kd.S_ne HO_4.out BK154.out (by decide))) | (show (Addr.add _ _).block ≠ _; rw [add_block]; exact Kd.own_blk (Kd.S_ne HO_4.out BK154.out (by decide))) | (dsimp only; exact Kd.own_blk (Kd.S_ne HO_4.out BK154.out (by decide)))) _).trans (((cell_far (p := ⟨gb154, _, none⟩) (by first | exact Kd.own_blk (Kd.S_ne HO_4.out BK154.out (by decide)) | (rw [add_block]; exact Kd.own_blk (Kd.S_ne HO_4.out BK154.out (by decide))) | (show (Addr.add _ _).block ≠ _; rw [add_block]; exact Kd.own_blk (Kd.S_ne HO_4.out BK154.out (by decide))) | (dsimp only; exact Kd.own_blk (Kd.S_ne HO_4.out BK154.out (by decide)))) _).trans (hHeld.2.2.1)))))))), ((cell_far (p := ⟨gb154, _, none⟩) (by first | exact Kd.own_blk (Kd.R_ne HL150_0.out BK154.out (by decide)) | (rw [add_block]; exact Kd.own_blk (Kd.R_ne HL150_0.out BK154.out (by decide))) | (show (Addr.add _ _).block ≠ _; rw [add_block]; exact Kd.own_blk (Kd.R_ne HL150_0.out BK154.out (by decide))) | (dsimp only; exact Kd.own_blk (Kd.R_ne HL150_0.out BK154.out (by decide)))) _).trans (((cell_far (p := ⟨gb154, _, none⟩) (by first | exact Kd.own_blk (Kd.R_ne HL150_0.out BK154.out (by decide)) | (rw [add_block]; exact Kd.own_blk (Kd.R_ne HL150_0.out BK154.out (by decide))) | (show (Addr.add _ _).block ≠ _; rw [add_block]; exact Kd.own_blk (Kd.R_ne HL150_0.out BK154.out (by decide))) | (dsimp only; exact Kd.own_blk (Kd.R_ne HL150_0.out BK154.out (by decide)))) _).trans (((cell_far (p := ⟨gb154, _, none⟩) (by first | exact Kd.own_blk (Kd.R_ne HL150_0.out BK154.out (by decide)) | (rw [add_block]; exact Kd.own_blk (Kd.R_ne HL150_0.out BK154.out (by decide))) | (show (Addr.add _ _).block ≠ _; rw [add_block]; exact Kd.own_blk (Kd.R_ne HL150_0.out BK154.out (by decide))) | (dsimp only; exact Kd.own_blk (Kd.R_ne HL150_0.out BK154.out (by decide)))) _).trans (((cell_far (p := ⟨gb154, _, none⟩) (by first | exact Kd.own_blk (Kd.R_ne HL150_0.out BK154.out (by decide)) | (rw [add_block]; exact Kd.own_blk (Kd.R_ne HL150_0.out BK154.out (by decide))) | (show (Addr.add _ _).block ≠ _; rw [add_block]; exact Kd.own_blk (Kd.R_ne HL150_0.out BK154.out (by decide))) | (dsimp only; exact Kd.own_blk (Kd.R_ne HL150_0.out BK154.out (by decide)))) _).trans (hHeld.2.2.2.1)))))))), ((cell_far (p := ⟨gb154, _, none⟩) (by first | exact Kd.own_blk (Kd.S_ne HO_4.out BK154.out (by decide)) | (rw [add_block]; exact Kd.own_blk (Kd.S_ne HO_4.out BK154.out (by decide))) | (show (Addr.add _ _).block ≠ _; rw [add_block]; exact Kd.own_blk (Kd.S_ne HO_4.out BK154.out (by decide))) | (dsimp only; exact Kd.own_blk (Kd.S_ne HO_4.out BK154.out (by decide)))) _).trans (((cell_far (p := ⟨gb154, _, none⟩) (by first | exact Kd.own_blk (Kd.S_ne HO_4.out BK154.out (by decide)) | (rw [add_block]; exact Kd.own_blk (Kd.S_ne HO_4.out BK154.out (by decide))) | (show (Addr.add _ _).block ≠ _; rw [add_block]; exact Kd.own_blk (Kd.S_ne HO_4.out BK154.out (by decide))) | (dsimp only; exact Kd.own_blk (Kd.S_ne HO_4.out BK154.out (by decide)))) _).trans (((cell_far (p := ⟨gb154, _, none⟩) (by first | exact Kd.own_blk (Kd.S_ne HO_4.out BK154.out (by decide)) | (rw [add_block]; exact Kd.own_blk (Kd.S_ne HO_4.out BK154.out (by decide))) | (show (Addr.add _ _).block ≠ _; rw [add_block]; exact Kd.own_blk (Kd.S_ne HO_4.out BK154.out (by decide))) | (dsimp only; exact Kd.own_blk (Kd.S_ne HO_4.out BK154.out (by decide)))) _).trans (((cell_far (p := ⟨gb154, _, none⟩) (by first | exact Kd.own_blk (Kd.S_ne HO_4.out BK154.out (by decide)) | (rw [add_block]; exact Kd.own_blk (Kd.S_ne HO_4.out BK154.out (by decide))) | (show (Addr.add _ _).block ≠ _; rw [add_block]; exact Kd.own_blk (Kd.S_ne HO_4.out BK154.out (by decide))) | (dsimp only; exact Kd.own_blk (Kd.S_ne HO_4.out BK154.out (by decide)))) _).trans (hHeld.2.2.2.2.1)))))))), ((cell_far (p := ⟨gb154, _, none⟩) (by first | exact Kd.own_blk (Kd.R_ne HL152_0.out BK154.out (by decide)) | (rw [add_block]; exact Kd.own_blk (Kd.R_ne HL152_0.out BK154.out (by decide))) | (show (Addr.add _ _).block ≠ _; rw [add_block]; exact Kd.own_blk (Kd.R_ne HL152_0.out BK154.out (by decide))) | (dsimp only; exact Kd.own_blk (Kd.R_ne HL152_0.out BK154.out (by decide)))) _).trans (((cell_far (p := ⟨gb154, _, none⟩) (by first | exact Kd.own_blk (Kd.R_ne HL152_0.out BK154.out (by decide)) | (rw [add_block]; exact Kd.own_blk (Kd.R_ne HL152_0.out BK154.out (by decide))) | (show (Addr.add _ _).block ≠ _; rw [add_block]; exact Kd.own_blk (Kd.R_ne HL152_0.out BK154.out (by decide))) | (dsimp only; exact Kd.own_blk (Kd.R_ne HL152_0.out BK154.out (by decide)))) _).trans (((cell_far (p := ⟨gb154, _, none⟩) (by first | exact Kd.own_blk (Kd.R_ne HL152_0.out BK154.out (by decide)) | (rw [add_block]; exact Kd.own_blk (Kd.R_ne HL152_0.out BK154.out (by decide))) | (show (Addr.add _ _).block ≠ _; rw [add_block]; exact Kd.own_blk (Kd.R_ne HL152_0.out BK154.out (by decide))) | (dsimp only; exact Kd.own_blk (Kd.R_ne HL152_0.out BK154.out (by decide)))) _).trans (((cell_far (p := ⟨gb154, _, none⟩) (by first | exact Kd.own_blk (Kd.R_ne HL152_0.out BK154.out (by decide)) | (rw [add_block]; exact Kd.own_blk (Kd.R_ne HL152_0.out BK154.out (by decide))) | (show (Addr.add _ _).block ≠ _; rw [add_block]; exact Kd.own_blk (Kd.R_ne HL152_0.out BK154.out (by decide))) | (dsimp only; exact Kd.own_blk (Kd.R_ne HL152_0.out BK154.out (by decide)))) _).trans (hHeld.2.2.2.2.2))))))))⟩ (fun hHeld => ?_)
          clear hK K
          refine done_ (done_of HT_.out (by kernel_rfl)) ?_
          have n0_ : Aside0 (Kd.S (Kd.slice 3 (Kd.int .i64)) 43 ((((w26.setCell ⟨gb154, 0, none⟩ (.int .i64 (rd (rd_L3 t138 0) 0))).setCell ⟨gb154, 1, none⟩ (.int .i64 (rd (rd_L3 t138 0) 1))).setCell ⟨gb154, 2, none⟩ (.int .i64 (rd (rd_L3 t138 0) 2))).setCell ⟨gb154, 3, none⟩ (.slice none 0 0)) w.heap.size (fun _ => True) (.slice (some ad148) t138.length co25) t138) := ⟨by (with_reducible repeat (first | apply Kd.S_alloc | apply Kd.S_drewN | apply Kd.S_drew)); exact Kd.S_mono (Kd.S_far (p := ⟨gb154, 3, none⟩) (Kd.S_far (p := ⟨gb154, 2, none⟩) (Kd.S_far (p := ⟨gb154, 1, none⟩) (Kd.S_far (p := ⟨gb154, 0, none⟩) (Kd.S_types HO_4.out BK154.out (by decide)) (fun _ hk => hk.2) (.int .i64 (rd (rd_L3 t138 0) 0))) (fun _ hk => hk.2) (.int .i64 (rd (rd_L3 t138 0) 1))) (fun _ hk => hk.2) (.int .i64 (rd (rd_L3 t138 0) 2))) (fun _ hk => hk.2) (.slice none 0 0)) (fun _ hk => trivial)⟩
          have n1_ : Aside0 (Kd.R (Kd.int .i64) 3 ((((w26.setCell ⟨gb154, 0, none⟩ (.int .i64 (rd (rd_L3 t138 0) 0))).setCell ⟨gb154, 1, none⟩ (.int .i64 (rd (rd_L3 t138 0) 1))).setCell ⟨gb154, 2, none⟩ (.int .i64 (rd (rd_L3 t138 0) 2))).setCell ⟨gb154, 3, none⟩ (.slice none 0 0)) w.heap.size (fun k_ => some k_ ≠ (.slice (some ad148) t138.length co25 : Value).ownBlock) (.slice (some ad149) (rd_L3 t138 0).length c148_0) (rd_L3 t138 0)) := ⟨by (with_reducible repeat (first | apply Kd.R_alloc | apply Kd.R_drewN | apply Kd.R_drew)); exact Kd.R_mono (Kd.R_far (p := ⟨gb154, 3, none⟩) (Kd.R_far (p := ⟨gb154, 2, none⟩) (Kd.R_far (p := ⟨gb154, 1, none⟩) (Kd.R_far (p := ⟨gb154, 0, none⟩) (Kd.R_types HL148_0.out BK154.out (by decide)) (fun _ hk => hk.2) (.int .i64 (rd (rd_L3 t138 0) 0))) (fun _ hk => hk.2) (.int .i64 (rd (rd_L3 t138 0) 1))) (fun _ hk => hk.2) (.int .i64 (rd (rd_L3 t138 0) 2))) (fun _ hk => hk.2) (.slice none 0 0)) (fun _ hk => hk.1.2)⟩
          have n2_ : Aside0 (Kd.R (Kd.int .i64) 3 ((((w26.setCell ⟨gb154, 0, none⟩ (.int .i64 (rd (rd_L3 t138 0) 0))).setCell ⟨gb154, 1, none⟩ (.int .i64 (rd (rd_L3 t138 0) 1))).setCell ⟨gb154, 2, none⟩ (.int .i64 (rd (rd_L3 t138 0) 2))).setCell ⟨gb154, 3, none⟩ (.slice none 0 0)) w.heap.size (fun k_ => some k_ ≠ (.slice (some ad148) t138.length co25 : Value).ownBlock) (.slice (some ad149) (rd_L3 t138 0).length c148_0) (rd_L3 t138 0)) := ⟨by (with_reducible repeat (first | apply Kd.R_alloc | apply Kd.R_drewN | apply Kd.R_drew)); exact Kd.R_mono (Kd.R_far (p := ⟨gb154, 3, none⟩) (Kd.R_far (p := ⟨gb154, 2, none⟩) (Kd.R_far (p := ⟨gb154, 1, none⟩) (Kd.R_far (p := ⟨gb154, 0, none⟩) (Kd.R_types HL150_0.out BK154.out (by decide)) (fun _ hk => hk.2) (.int .i64 (rd (rd_L3 t138 0) 0))) (fun _ hk => hk.2) (.int .i64 (rd (rd_L3 t138 0) 1))) (fun _ hk => hk.2) (.int .i64 (rd (rd_L3 t138 0) 2))) (fun _ hk => hk.2) (.slice none 0 0)) (fun _ hk => hk.1.2)⟩
          have n3_ : Aside0 (Kd.R (Kd.int .i64) 3 ((((w26.setCell ⟨gb154, 0, none⟩ (.int .i64 (rd (rd_L3 t138 0) 0))).setCell ⟨gb154, 1, none⟩ (.int .i64 (rd (rd_L3 t138 0) 1))).setCell ⟨gb154, 2, none⟩ (.int .i64 (rd (rd_L3 t138 0) 2))).setCell ⟨gb154, 3, none⟩ (.slice none 0 0)) w.heap.size (fun k_ => some k_ ≠ (.slice (some ad148) t138.length co25 : Value).ownBlock) (.slice (some ad149) (rd_L3 t138 0).length c148_0) (rd_L3 t138 0)) := ⟨by (with_reducible repeat (first | apply Kd.R_alloc | apply Kd.R_drewN | apply Kd.R_drew)); exact Kd.R_mono (Kd.R_far (p := ⟨gb154, 3, none⟩) (Kd.R_far (p := ⟨gb154, 2, none⟩) (Kd.R_far (p := ⟨gb154, 1, none⟩) (Kd.R_far (p := ⟨gb154, 0, none⟩) (Kd.R_types HL152_0.out BK154.out (by decide)) (fun _ hk => hk.2) (.int .i64 (rd (rd_L3 t138 0) 0))) (fun _ hk => hk.2) (.int .i64 (rd (rd_L3 t138 0) 1))) (fun _ hk => hk.2) (.int .i64 (rd (rd_L3 t138 0) 2))) (fun _ hk => hk.2) (.slice none 0 0)) (fun _ hk => hk.1.2)⟩
          have n4_ : Aside0 (((((w26.setCell ⟨gb154, 0, none⟩ (.int .i64 (rd (rd_L3 t138 0) 0))).setCell ⟨gb154, 1, none⟩ (.int .i64 (rd (rd_L3 t138 0) 1))).setCell ⟨gb154, 2, none⟩ (.int .i64 (rd (rd_L3 t138 0) 2))).setCell ⟨gb154, 3, none⟩ (.slice none 0 0)).heap[gb137]? = some (.cells #[.int .i64 0, .int .i64 0, .int .i64 0, .slice none 0 0] 26 (0, 0))) := ⟨by (with_reducible repeat (first | apply zqa | apply zqb | apply zqc)); refine blk_far ?_ NB137_154.out _; (with_reducible repeat (first | apply zqa | apply zqb | apply zqc)); refine blk_far ?_ NB137_154.out _; (with_reducible repeat (first | apply zqa | apply zqb | apply zqc)); refine blk_far ?_ NB137_154.out _; (with_reducible repeat (first | apply zqa | apply zqb | apply zqc)); refine blk_far ?_ NB137_154.out _; (with_reducible repeat (first | apply zqa | apply zqb | apply zqc)); exact BK137.out⟩
          have n5_ : Aside0 (((((w26.setCell ⟨gb154, 0, none⟩ (.int .i64 (rd (rd_L3 t138 0) 0))).setCell ⟨gb154, 1, none⟩ (.int .i64 (rd (rd_L3 t138 0) 1))).setCell ⟨gb154, 2, none⟩ (.int .i64 (rd (rd_L3 t138 0) 2))).setCell ⟨gb154, 3, none⟩ (.slice none 0 0)).heap[gb154]? = some (.cells #[.int .i64 (rd (rd_L3 t138 0) 0), .int .i64 (rd (rd_L3 t138 0) 1), .int .i64 (rd (rd_L3 t138 0) 2), .slice none 0 0] 26 (0, 0))) := ⟨by (with_reducible repeat (first | apply zqa | apply zqb | apply zqc)); refine blk_put (cs := #[.int .i64 (rd (rd_L3 t138 0) 0), .int .i64 (rd (rd_L3 t138 0) 1), .int .i64 (rd (rd_L3 t138 0) 2), .slice none 0 0]) ?_ 3 _ rfl; (with_reducible repeat (first | apply zqa | apply zqb | apply zqc)); refine blk_put (cs := #[.int .i64 (rd (rd_L3 t138 0) 0), .int .i64 (rd (rd_L3 t138 0) 1), .int .i64 0, .slice none 0 0]) ?_ 2 _ rfl; (with_reducible repeat (first | apply zqa | apply zqb | apply zqc)); refine blk_put (cs := #[.int .i64 (rd (rd_L3 t138 0) 0), .int .i64 0, .int .i64 0, .slice none 0 0]) ?_ 1 _ rfl; (with_reducible repeat (first | apply zqa | apply zqb | apply zqc)); refine blk_put (cs := #[.int .i64 0, .int .i64 0, .int .i64 0, .slice none 0 0]) ?_ 0 _ rfl; (with_reducible repeat (first | apply zqa | apply zqb | apply zqc)); exact BK154.out⟩
          have n6_ : Aside0 (Below w.heap.size w ((((w26.setCell ⟨gb154, 0, none⟩ (.int .i64 (rd (rd_L3 t138 0) 0))).setCell ⟨gb154, 1, none⟩ (.int .i64 (rd (rd_L3 t138 0) 1))).setCell ⟨gb154, 2, none⟩ (.int .i64 (rd (rd_L3 t138 0) 2))).setCell ⟨gb154, 3, none⟩ (.slice none 0 0))) := ⟨by repeat (first | (with_reducible first | exact HB.out | apply zqg | apply zqf | apply zqh | refine below_set ?_ GE137.out | refine below_set ?_ GE154.out) | exact HB.out)⟩
          (try clear HO_4)
          (try clear HL148_0)
          (try clear HL150_0)
          (try clear HL152_0)
          (try clear BK137)
          (try clear BK154)
          (try clear HB)
          generalize ((((w26.setCell ⟨gb154, 0, none⟩ (.int .i64 (rd (rd_L3 t138 0) 0))).setCell ⟨gb154, 1, none⟩ (.int .i64 (rd (rd_L3 t138 0) 1))).setCell ⟨gb154, 2, none⟩ (.int .i64 (rd (rd_L3 t138 0) 2))).setCell ⟨gb154, 3, none⟩ (.slice none 0 0)) = w31 at n0_ n1_ n2_ n3_ n4_ n5_ n6_ ⊢
          have HO_4 := n0_
          have HL148_0 := n1_
          have HL150_0 := n2_
          have HL152_0 := n3_
          have BK137 := n4_
          have BK154 := n5_
          have HB := n6_
          clear n0_ n1_ n2_ n3_ n4_ n5_ n6_
          have q32 : (1 : Int) ≤ ((t138.length : Int) : Int) := of_decide_eq_true (by first | (with_reducible assumption) | assumption)
          obtain ⟨i032, hi032, _, hsz32, _⟩ := info_parts info43
          have hroom32 : t138.length ≤ co25 := (Kd.S_reads' HO_4.out).2.1
          have hC32 : Kd.C (Kd.slice 3 (Kd.int .i64)) _ (some ad148) t138.length t138 := (Kd.S_reads' HO_4.out).2.2
          have hcut32 := cut_from (P := Tryd.prog) 40 43 .i64 Tryd.underlying40 hi032 1 hsz32 (some ad148) t138.length co25 1 (by omega) q32
          have hr32 := Kd.C_drop (m := (1 : Int).toNat) (c := co25) hC32 (by omega) hroom32
          obtain ⟨A32, hA32⟩ : ∃ A1, A1 = (if co25 = (1 : Int).toNat then (some ad148) else ((some ad148) : Option Addr).map (·.add ((1 : Int).toNat * 1))) := ⟨_, rfl⟩
          obtain ⟨c32, hc32⟩ : ∃ c1, c1 = co25 - (1 : Int).toNat := ⟨_, rfl⟩
          have hy32 : y155.length = t138.length - (1 : Int).toNat := (by rw [Ny155.out, List.length_drop] <;> omega)
          rw [show (t138).drop (1 : Int).toNat = y155 from Ny155.out.symm] at hr32
          replace hr32 : Kd.C (Kd.slice 3 (Kd.int .i64)) _ A32 y155.length y155 := (by rw [hA32]; exact hr32)
          rw [← hy32, ← hA32, ← hc32] at hcut32
          have HR158 := zqi hr32
          have HC158 := zqi (show y155.length ≤ c32 from by rw [hy32, hc32]; exact Nat.sub_le_sub_right hroom32 _)
          clear hr32 hC32 hroom32 hi032 hsz32 hc32
          have KY32 := zqi hy32
          have KA32 := zqi hA32
          clear hy32 hA32
          have KL32 := zqi (show 1 ≤ t138.length from by omega)
          have FR0 : Aside0 (Kd.F (Kd.slice 3 (Kd.int .i64)) w31 (fun k => (k ≠ gb137 ∧ k ≠ gb154) ∧ k < w31.heap.size) A32 y155.length y155) := ⟨by
           have f1 := Kd.S_F (Kd.S_types (Kd.S_types HO_4.out BK137.out (by decide)) BK154.out (by decide))
           have f2 := Kd.F_bound (Kd.F_cut (m := (1 : Int).toNat) (c := co25) f1 (by have := KL32.out; omega) (Kd.S_reads' HO_4.out).2.1)
           rw [show (t138).drop (1 : Int).toNat = y155 from Ny155.out.symm] at f2
           rw [KA32.out]
           exact Kd.F_mono f2 (fun k hk => ⟨⟨hk.1.1.2, hk.1.2⟩, hk.2⟩)⟩
          replace q32 := eq_true q32
          try go_wp2
          go_loopg [55] kj3 (fun kq v55 w' => ∃ (x55_2 : Int) (x155003_2 : List (S34)) (u155003 : Value), v55 = .int .i64 x55_2 ∧ Aside0 (inst_Parse.l0 kq y155 (y155.length : Int) x55_2 (rd (rd_L3 t138 0) 0) (rd (rd_L3 t138 0) 1) (rd (rd_L3 t138 0) 2) x155003_2 = some (r1, r2, r3, r4, r5)) ∧ Aside0 (kq ≤ kj3) ∧ Aside0 (Kd.R k34 34 w' w.heap.size (fun _ => True) u155003 x155003_2) ∧ Aside0 (w'.heap[gb137]? = some (.cells #[.int .i64 0, .int .i64 0, .int .i64 0, (.slice none 0 0)] 26 (0, 0))) ∧ Aside0 (w'.heap[gb154]? = some (.cells #[.int .i64 (rd (rd_L3 t138 0) 0), .int .i64 (rd (rd_L3 t138 0) 1), .int .i64 (rd (rd_L3 t138 0) 2), u155003] 26 (0, 0))) ∧ Aside0 (Below w.heap.size w w') ∧ Aside0 (w31.heap.size ≤ w'.heap.size) ∧ Aside0 (∀ k, (u155003 : Value).ownBlock = some k → w31.heap.size ≤ k) ∧ Aside0 (Kd.F (Kd.slice 3 (Kd.int .i64)) w' (fun k => (k ≠ gb137 ∧ k ≠ gb154) ∧ k < w31.heap.size) A32 y155.length y155))
          case atStart => exact ⟨(0), (([] : List (S34))), (.slice none 0 0), (by first | rfl | (simp; done) | (simp [*]; done)), H', ⟨Nat.le_refl _⟩, ⟨by first | exact Kd.R_nil _ _ _ _ _ | exact Kd.N_nil _ _ _ _ _ | exact Kd.V_nil _ _ _ _ _ | exact Kd.Q_nil _ _ _ _ _ | exact Kd.S_nil _ _ _ _ _⟩, ⟨by (with_reducible repeat (first | apply zqa | apply zqb | apply zqc)); exact BK137.out⟩, ⟨by (with_reducible repeat (first | apply zqa | apply zqb | apply zqc)); exact BK154.out⟩, ⟨by repeat (first | (with_reducible first | exact HB.out | apply zqg | apply zqf | apply zqh | refine below_set ?_ GE137.out | refine below_set ?_ GE154.out) | exact HB.out)⟩, ⟨Nat.le_refl _⟩, ⟨fun k hk => by simp [Value.ownBlock] at hk⟩, FR0⟩
          case round =>
           clear H'
           try clear c1
           try clear p1
           try clear q1
           try clear hx1
           try clear qi1
           try clear c2
           try clear p2
           try clear c3
           try clear c3b0
           try clear c3b1
           try clear q3
           try clear c7
           try clear c7b0
           try clear c7b1
           try clear c7b2
           try clear c9
           try clear c9b0
           try clear c9b1
           try clear c10
           try clear c10b0
           try clear c10b1
           try clear c11
           try clear c11b0
           try clear c11b1
           try clear c14
           try clear p14
           try clear q14
           try clear hx14
           try clear qi14
           try clear c15
           try clear p15
           try clear q15
           try clear hx15
           try clear qi15
           try clear c17
           try clear c19
           try clear c19b0
           try clear c19b1
           try clear c20
           try clear c20b0
           try clear c20b1
           try clear c21
           try clear c21b0
           try clear c21b1
           try clear c22
           try clear c22b0
           try clear c22b1
           try clear c23
           try clear c23b0
           try clear c23b1
           try clear c32
           try clear q32
           try clear hcz18_0
           try clear hcz18_1
           try clear hcz18_2
           try clear hcz18_3
           try clear hfz18_0
           try clear hfz18_1
           try clear hfz18_2
           try clear hfz18_3
           try clear hx142_0
           try clear hx148_0
           try clear hx149_0
           try clear hx150_0
           try clear hx151_0
           try clear hx152_0
           try clear hx153_0
           try clear p1
           try clear p14
           try clear p142
           try clear p148
           try clear p149
           try clear p150
           try clear p151
           try clear p152
           try clear p153
           try clear p2
           try clear q1
           try clear q14
           try clear q142
           try clear q148
           try clear q149
           try clear q150
           try clear q151
           try clear q152
           try clear q153
           try clear q32
           obtain ⟨x55_2, x155003_2, u155003, rfl, HA, HK2, HO_155003, BK137, BK154, HB, SZ, UB, FR⟩ := hrel
           cases gk with
           | zero => exact absurd HA.out (by simp [inst_Parse.l0])
           | succ k2 =>
            have H := HA.out
            clear HA
            simp only [inst_Parse.l0] at H
            by_cases c33 : x55_2 < (y155.length : Int)
            ·
             rw [if_pos c33] at H
             have c33b0 : decide (x55_2 < (y155.length : Int)) = true := decide_eq_true c33
             clear c33
             by_cases c34 : 0 ≤ x55_2
             ·
              rw [if_pos c34] at H
              have c34b0 : decide (0 ≤ x55_2) = true := decide_eq_true c34
              clear c34
              by_cases c35 : x55_2 < (y155.length : Int)
              ·
               rw [if_pos c35] at H
               have c35b0 : decide (x55_2 < (y155.length : Int)) = true := decide_eq_true c35
               clear c35
               replace H := Option.bind_eq_some_iff.mp H
               obtain ⟨⟨t160, t161, t162, t163, t164, t165⟩, A360, H⟩ := H
               replace H : (if x155003_2.length < 2932031007402 then (inst_Parse.l0 k2 y155 (y155.length : Int) (wrap64 (x55_2 + 1)) (rd (rd_L3 t138 0) 0) (rd (rd_L3 t138 0) 1) (rd (rd_L3 t138 0) 2) (x155003_2 ++ [(⟨t160, t161, t162, t163, t164, t165⟩ : S34)])) else (none)) = some (r1, r2, r3, r4, r5) := H
               have A36 := zqi A360
               clear A360
               by_cases c37 : x155003_2.length < 2932031007402
               ·
                rw [if_pos c37] at H
                have LMc37 := zqi c37
                clear c37
                obtain ⟨y166, hy166⟩ : ∃ y_ : List (S34), y_ = (x155003_2 ++ [(⟨t160, t161, t162, t163, t164, t165⟩ : S34)]) := ⟨_, rfl⟩
                replace H : (inst_Parse.l0 k2 y155 (y155.length : Int) (wrap64 (x55_2 + 1)) (rd (rd_L3 t138 0) 0) (rd (rd_L3 t138 0) 1) (rd (rd_L3 t138 0) 2) y166) = some (r1, r2, r3, r4, r5) := by first | (rw [hy166]; with_reducible exact H) | (have H2_ := (Option.bind_some _ _).symm.trans H; rw [hy166]; with_reducible exact H2_) | (have H2_ := (Option.bind_some _ _).symm.trans H; with_reducible exact H2_) | with_reducible exact H | (rw [hy166]; exact H) | exact H
                have Ny166 := zqi hy166
                clear hy166
                have H' := zqi H
                clear H
                have p159 : 0 ≤ (x55_2 : Int) := of_decide_eq_true (by first | (with_reducible assumption) | assumption)
                have q159 : x55_2 < (y155.length : Int) := of_decide_eq_true (by first | (with_reducible assumption) | assumption)
                obtain ⟨ad159, cs_, e159, hcl_, hK_, hcc_, -⟩ := Kd.F_get FR.out ([] : List Int) x55_2 p159 q159
                obtain ⟨A159_0, c159_0, rfl, hl159_0, hf_⟩ := Kd.FK_slice_open hK_
                cases e159
                have hx159_0 : wr.cell? (ad159.add x55_2.toNat) = some (.slice A159_0 (rd_L3 y155 x55_2).length c159_0) := by have hq := hcc_ 0 _ rfl; rwa [show (Kd.slice 3 (Kd.int .i64)).sz = 1 from rfl, Nat.mul_one, Nat.add_zero] at hq
                have HF_ : Aside0 (Kd.F (Kd.int .i64) wr (fun k => (k ≠ gb137 ∧ k ≠ gb154) ∧ k < w31.heap.size) A159_0 (rd_L3 y155 x55_2).length (rd_L3 y155 x55_2)) := ⟨hf_⟩
                have HC159_0 := zqi (show (rd_L3 y155 x55_2).length ≤ c159_0 from hl159_0)
                clear hf_ hK_ hcl_ hcc_ hl159_0
                replace p159 := eq_true p159
                replace q159 := eq_true q159
                try go_wp2
                have n0_ := zqi (Kd.R_drew HO_155003.out)
                have n1_ := zqi (zqb BK137.out)
                have n2_ := zqi (zqb BK154.out)
                have n3_ := zqi (zqh HB.out)
                clear HO_155003
                clear BK137
                clear BK154
                clear HB
                have HO_155003 := n0_
                have BK137 := n1_
                have BK154 := n2_
                have HB := n3_
                clear n0_ n1_ n2_ n3_
                have FR := zqi (Kd.F_drew FR.out)
                have HF_ := zqi (Kd.F_drew HF_.out)
                have SZ : Aside0 (w31.heap.size ≤ wr.drew.heap.size) := SZ
                refine start_ (n := 8) (S := fun w' => w'.cell? ⟨gb154, 0, none⟩ = some (.int .i64 (rd (rd_L3 t138 0) 0)) ∧ w'.cell? ⟨gb154, 1, none⟩ = some (.int .i64 (rd (rd_L3 t138 0) 1)) ∧ w'.cell? ⟨gb154, 2, none⟩ = some (.int .i64 (rd (rd_L3 t138 0) 2)) ∧ w'.cell? ⟨gb154, 3, none⟩ = some (u155003)) (ds := [7]) #[false, false, false, false, false, false, false, false] (by kernel_rfl) rfl rfl ⟨(zqe BK154.out 0).trans rfl, (zqe BK154.out 1).trans rfl, (zqe BK154.out 2).trans rfl, (zqe BK154.out 3).trans rfl⟩ (fun hHeld => ?_); refine with_tabW inst_Parse.tab11 inst_Parse.bits11 (fun HT_ HW_ => ?_)
                generalize wr.drew = w38 at HO_155003 BK137 BK154 HB FR HF_ SZ hHeld ⊢
                refine pure_ (i := 0) (N := some 59) (v := ?_) (a' := ?_) #[true, false, false, false, false, false, false, false] rfl rfl (any_of HT_.out (by kernel_rfl)) (fun _ _ _ h => h) (Or.inl ⟨by rfl, ?_⟩) ?_ ?_
                rotate_left
                ·
                 intro w'
                 go_simp
                 with_reducible rfl
                rotate_left
                ·
                 simp only [Act.put, List.setIfInBounds_toArray, List.set_cons_zero, List.set_cons_succ, i64_w, i32_w]
                 rfl
                refine pure_ (i := 2) (N := some 61) (v := ?_) (a' := ?_) #[true, false, true, false, false, false, false, false] rfl rfl (any_of HT_.out (by kernel_rfl)) (fun _ _ _ h => h) (Or.inl ⟨by rfl, ?_⟩) ?_ ?_
                rotate_left
                ·
                 intro w'
                 go_simp
                 with_reducible rfl
                rotate_left
                ·
                 simp only [Act.put, List.setIfInBounds_toArray, List.set_cons_zero, List.set_cons_succ, i64_w, i32_w]
                 rfl
                refine take_ (i := 1) (N := some 60) (v := ?_) (a' := ?_) #[true, true, true, false, false, false, false, false] rfl rfl (take_ofW HT_.out HW_.out (by kernel_rfl)) (fun _ _ _ h => h) (Or.inl ⟨by rfl, ?_⟩) hHeld ?_ ?_
                rotate_left
                ·
                 rintro w' ⟨s0, s1, s2, s3⟩
                 go_simp
                 with_reducible rfl
                rotate_left
                ·
                 simp only [Act.put, List.setIfInBounds_toArray, List.set_cons_zero, List.set_cons_succ, i64_w, i32_w]
                 rfl
                refine one_ (i := 3) (N := some 62) #[true, true, true, true, false, false, false, false] rfl rfl (one_of HT_.out (by kernel_rfl)) (by decide) (fun K hK => ?_)
                refine goes_ Tryd.func22 (by kernel_rfl) rfl #[.slice A159_0 (rd_L3 y155 x55_2).length c159_0] (by rfl) rfl rfl (by (try simp only [List.map_toArray, List.map_cons, List.map_nil]); first | done | rfl | (simp only [List.length_drop, List.length_take]; rfl)) ?_
                with_reducible refine (inst_stop.calls _ _ (rd_L3 y155 x55_2) t160 t161 t162 t163 t164 t165 _ ?side1 ?side2 A36.out).mono ?_
                (case side1 => exact Kd.F_now HF_.out)
                (case side2 => exact HC159_0.out)
                rintro e w39 ⟨rfl, hb⟩
                refine ⟨_, rfl, ?_⟩
                have n0_ := zqi (Kd.R_below (by (with_reducible repeat (first | apply Kd.R_alloc | apply Kd.R_drewN | apply Kd.R_drew)); exact HO_155003.out) hb)
                have n1_ := zqi (blk_below (g := gb137) (o := .cells #[.int .i64 0, .int .i64 0, .int .i64 0, .slice none 0 0] 26 (0, 0)) (by (with_reducible repeat (first | apply zqa | apply zqb | apply zqc)); exact BK137.out) hb)
                have n2_ := zqi (blk_below (g := gb154) (o := .cells #[.int .i64 (rd (rd_L3 t138 0) 0), .int .i64 (rd (rd_L3 t138 0) 1), .int .i64 (rd (rd_L3 t138 0) 2), u155003] 26 (0, 0)) (by (with_reducible repeat (first | apply zqa | apply zqb | apply zqc)); exact BK154.out) hb)
                have n3_ := zqi (below_step (by repeat (first | (with_reducible first | exact HB.out | apply zqg | apply zqf | apply zqh | refine below_set ?_ GE137.out | refine below_set ?_ GE154.out) | exact HB.out)) hb)
                clear HO_155003
                clear BK137
                clear BK154
                clear HB
                have HO_155003 := n0_
                have BK137 := n1_
                have BK154 := n2_
                have HB := n3_
                clear n0_ n1_ n2_ n3_
                have FR := zqi (Kd.F_below FR.out hb)
                have SZ := zqi (Nat.le_trans SZ.out hb.size)
                clear HF_
                (try clear hb)
                (try clear hb2)
                (try clear hk)
                (try clear hi)
                refine hK.out _ _ ⟨(zqe BK154.out 0).trans rfl, (zqe BK154.out 1).trans rfl, (zqe BK154.out 2).trans rfl, (zqe BK154.out 3).trans rfl⟩ (fun hHeld => ?_)
                clear hK K
                refine norm_ (a' := ?_) ?_ ?_
                rotate_left
                ·
                 show Act.put _ (some 62) _ = _
                 simp only [Act.put, List.setIfInBounds_toArray, List.set_cons_zero, List.set_cons_succ, i64_w, i32_w]
                 rfl
                refine one_ (i := 4) (N := some 63) #[true, true, true, true, true, false, false, false] rfl rfl (one_of HT_.out (by kernel_rfl)) (by decide) (fun K hK => ?_)
                refine value_ (w1 := ?_) (v := ?_) (by rfl) rfl ?_ ?_
                rotate_left 2
                ·
                 go_simp
                 constructor
                 ·
                  rfl
                 ·
                  rfl
                refine hK.out _ _ ⟨(zqe (zqc BK154.out _) 0).trans rfl, (zqe (zqc BK154.out _) 1).trans rfl, (zqe (zqc BK154.out _) 2).trans rfl, (zqe (zqc BK154.out _) 3).trans rfl⟩ (fun hHeld => ?_)
                clear hK K
                refine norm_ (a' := ?_) ?_ ?_
                rotate_left
                ·
                 show Act.put _ (some 63) _ = _
                 simp only [Act.put, List.setIfInBounds_toArray, List.set_cons_zero, List.set_cons_succ, i64_w, i32_w]
                 rfl
                refine one_ (i := 5) (N := some 64) #[true, true, true, true, true, true, false, false] rfl rfl (one_of HT_.out (by kernel_rfl)) (by decide) (fun K hK => ?_)
                refine Kd.R_append_step k34 (w0 := w) w.heap.size (by rfl) (.tmp 60) (.tmp 63) 24 34 (.agg #[(.int .i64 0), (.int .i64 0), (.int .i64 0), (.int .i64 0), (.int .i64 0), (.int .i64 0)]) 48 rfl Tryd.underlying24 info34 rfl (by decide) (by omega) u155003 x155003_2 (⟨t160, t161, t162, t163, t164, t165⟩ : S34) [.int .i64 t160, .int .i64 t161, .int .i64 t162, .int .i64 t163, .int .i64 t164, .int .i64 t165] (fun _ => True) (fun _ => False) rfl rfl ?aP (fun _ hk => hk.elim) ?aF ?aO ?aB ?aS ?aL ?_
                (case aP => exact k34_mkM _ _ _ (⟨t160, t161, t162, t163, t164, t165⟩ : S34))
                (case aB => exact (by repeat (first | (with_reducible first | exact HB.out | apply zqg | apply zqf | apply zqh | refine below_set ?_ GE137.out | refine below_set ?_ GE154.out) | exact HB.out)))
                (case aF => exact (fun _ _ => trivial))
                (case aO => exact (by (with_reducible repeat (first | apply Kd.R_alloc | apply Kd.R_drewN | apply Kd.R_drew)); exact HO_155003.out))
                (case aS => exact (below_size (by repeat (first | (with_reducible first | exact HB.out | apply zqg | apply zqf | apply zqh | refine below_set ?_ GE137.out | refine below_set ?_ GE154.out) | exact HB.out))))
                (case aL => have := LMc37.out; omega)
                intro v167 w40 ho hb hg hat
                rw [← Ny166.out] at ho
                have n0_ := zqi (blk_grown (g := gb137) (o := .cells #[.int .i64 0, .int .i64 0, .int .i64 0, .slice none 0 0] 26 (0, 0)) (by (with_reducible repeat (first | apply zqa | apply zqb | apply zqc)); exact BK137.out) hg (Kd.R_ne HO_155003.out BK137.out (by decide)))
                have n1_ := zqi (blk_grown (g := gb154) (o := .cells #[.int .i64 (rd (rd_L3 t138 0) 0), .int .i64 (rd (rd_L3 t138 0) 1), .int .i64 (rd (rd_L3 t138 0) 2), u155003] 26 (0, 0)) (by (with_reducible repeat (first | apply zqa | apply zqb | apply zqc)); exact BK154.out) hg (Kd.R_ne HO_155003.out BK154.out (by decide)))
                have n2_ := zqi (hb)
                have n3_ := zqi (ho)
                clear BK137
                clear BK154
                clear HB
                clear HO_155003
                have BK137 := n0_
                have BK154 := n1_
                have HB := n2_
                have HO168 := n3_
                clear n0_ n1_ n2_ n3_
                have FR := zqi (Kd.F_grown FR.out hg (fun k hk he => Nat.lt_irrefl _ (Nat.lt_of_lt_of_le hk.2 (UB.out k he.symm))))
                have UB2 : Aside0 (∀ k, (v167 : Value).ownBlock = some k → w31.heap.size ≤ k) := ⟨fun k hk => by
                 rcases hat with h_ | ⟨b_, h_, hle_⟩
                 ·
                  exact UB.out k (h_.symm.trans hk)
                 ·
                  rw [h_] at hk; injection hk with hk; subst hk; exact Nat.le_trans SZ.out hle_⟩
                have SZ := zqi (Nat.le_trans SZ.out hg.size)
                clear ho hb hg hat
                obtain ⟨Ao41, co41, eo41⟩ := Kd.R_slice HO168.out
                (first | subst eo41 | (injection eo41 with f1_ f2_ f3_; have f4_ := f1_.symm; have f5_ := f3_.symm; clear f1_ f2_ f3_; subst f4_; subst f5_))
                refine hK.out _ _ ⟨(zqe BK154.out 0).trans rfl, (zqe BK154.out 1).trans rfl, (zqe BK154.out 2).trans rfl, (zqe BK154.out 3).trans rfl⟩ (fun hHeld => ?_)
                clear hK K
                refine norm_ (a' := ?_) ?_ ?_
                rotate_left
                ·
                 show Act.put _ (some 64) _ = _
                 simp only [Act.put, List.setIfInBounds_toArray, List.set_cons_zero, List.set_cons_succ, i64_w, i32_w]
                 rfl
                refine pure_ (i := 6) (N := some 65) (v := ?_) (a' := ?_) #[true, true, true, true, true, true, true, false] rfl rfl (any_of HT_.out (by kernel_rfl)) (fun _ _ _ h => h) (Or.inl ⟨by rfl, ?_⟩) ?_ ?_
                rotate_left
                ·
                 intro w'
                 go_simp
                 with_reducible rfl
                rotate_left
                ·
                 simp only [Act.put, List.setIfInBounds_toArray, List.set_cons_zero, List.set_cons_succ, i64_w, i32_w]
                 rfl
                refine last_ (i := 7) (N := none) #[true, true, true, true, true, true, true, true] rfl rfl (one_of HT_.out (by kernel_rfl)) (by decide) (fun K hK => ?_)
                have hs42 : w40.cell? ⟨gb154, 3, none⟩ = some (u155003) := (zqe BK154.out 3).trans rfl
                have hfs42 := zqd BK154.out 3
                have hns42_0 := NB137_154.out
                have hms42_0 := NB154_137.out
                refine skip_ (w1 := ?_) (by rfl) rfl ?_ ?_
                rotate_left
                ·
                 go_simp
                 rfl
                refine hK.out _ _ ?_
                clear hK K
                refine done_ (done_of HT_.out (by kernel_rfl)) ?_
                try go_wp2
                go_roundg k2
                case measure => have := HJ3.out; have := HK2.out; omega
                case rel => exact ⟨(wrap64 (x55_2 + 1)), (y166), (.slice Ao41 y166.length co41), (by first | rfl | (simp; done) | (simp [*]; done)), H', ⟨by have := HJ3.out; have := HK2.out; omega⟩, ⟨by (with_reducible repeat (first | apply Kd.R_alloc | apply Kd.R_drewN | apply Kd.R_drew)); exact Kd.R_mono (Kd.R_far (p := ⟨gb154, 3, none⟩) (Kd.R_types HO168.out BK154.out (by decide)) (fun _ hk => hk.2) (.slice Ao41 y166.length co41)) (fun _ hk => trivial)⟩, ⟨by (with_reducible repeat (first | apply zqa | apply zqb | apply zqc)); refine blk_far ?_ NB137_154.out _; (with_reducible repeat (first | apply zqa | apply zqb | apply zqc)); exact BK137.out⟩, ⟨by (with_reducible repeat (first | apply zqa | apply zqb | apply zqc)); refine blk_put (cs := #[.int .i64 (rd (rd_L3 t138 0) 0), .int .i64 (rd (rd_L3 t138 0) 1), .int .i64 (rd (rd_L3 t138 0) 2), u155003]) ?_ 3 _ rfl; (with_reducible repeat (first | apply zqa | apply zqb | apply zqc)); exact BK154.out⟩, ⟨by repeat (first | (with_reducible first | exact HB.out | apply zqg | apply zqf | apply zqh | refine below_set ?_ GE137.out | refine below_set ?_ GE154.out) | exact HB.out)⟩, ⟨by have := SZ.out; simpa using this⟩, UB2, ⟨Kd.F_far FR.out (fun k hk => hk.1.2) _⟩⟩
               ·
                rw [if_neg c37] at H
                exact absurd H (by simp)
              ·
               rw [if_neg c35] at H
               exact absurd H (by simp)
             ·
              rw [if_neg c34] at H
              exact absurd H (by simp)
            ·
             rw [if_neg c33] at H
             have c33b0 : decide (x55_2 < (y155.length : Int)) = false := decide_eq_false c33
             clear c33
             replace H := Option.bind_eq_some_iff.mp H
             obtain ⟨t169, A430, H⟩ := H
             replace H : (if t169 = true then (some ((rd (rd_L3 t138 0) 0), (rd (rd_L3 t138 0) 1), (rd (rd_L3 t138 0) 2), x155003_2, 0)) else (some (0, 0, 0, ([] : List (S34)), 1))) = some (r1, r2, r3, r4, r5) := H
             have A43 := zqi A430
             clear A430
             by_cases c44 : t169 = true
             ·
              subst c44
              have H1 : (some ((rd (rd_L3 t138 0) 0), (rd (rd_L3 t138 0) 1), (rd (rd_L3 t138 0) 2), x155003_2, 0)) = some (r1, r2, r3, r4, r5) := by rw [if_pos rfl] at H; exact H
              clear H
              have H := H1
              clear H1
              simp only [Option.some.injEq, Prod.mk.injEq] at H
              obtain ⟨rfl, rfl, rfl, rfl, rfl⟩ := H
              have hnb45 := NB154_137.out
              have hnc45 := NB137_154.out
              have hcz46_0 : wr.cell? ⟨gb154, 0, none⟩ = some (.int .i64 (rd (rd_L3 t138 0) 0)) := (zqe BK154.out 0).trans rfl
              have hcz46_1 : wr.cell? ⟨gb154, 1, none⟩ = some (.int .i64 (rd (rd_L3 t138 0) 1)) := (zqe BK154.out 1).trans rfl
              have hcz46_2 : wr.cell? ⟨gb154, 2, none⟩ = some (.int .i64 (rd (rd_L3 t138 0) 2)) := (zqe BK154.out 2).trans rfl
              have hcz46_3 : wr.cell? ⟨gb154, 3, none⟩ = some (u155003) := (zqe BK154.out 3).trans rfl
              have hfz46_0 := zqd BK154.out 0
              have hfz46_1 := zqd BK154.out 1
              have hfz46_2 := zqd BK154.out 2
              have hfz46_3 := zqd BK154.out 3
              obtain ⟨Ao47, co47, eo47⟩ := Kd.R_slice HO_155003.out
              subst eo47
              go_wp2_with (first | ((with_reducible refine gate_callee (f := 13) rfl ?_); refine goesL_ (some 68) rfl rfl Tryd.func13 (by kernel_rfl) rfl #[.agg #[.int .i64 (rd (rd_L3 t138 0) 0), .int .i64 (rd (rd_L3 t138 0) 1), .int .i64 (rd (rd_L3 t138 0) 2), .slice Ao47 x155003_2.length co47]] rfl (by (try simp only [List.map_toArray, List.map_cons, List.map_nil]); first | done | rfl | (simp only [List.length_drop, List.length_take]; rfl)) ?_; (with_reducible refine (inst_May.calls k2 (rd (rd_L3 t138 0) 0) (rd (rd_L3 t138 0) 1) (rd (rd_L3 t138 0) 2) _ _ x155003_2 true _ ?side1 ?side2 A43.out).mono ?_); (case side1 => repeat (first | exact (Kd.R_reads' HO_155003.out).2.2 | (with_reducible refine Kd.C_alloc ?_ _) | (with_reducible refine Kd.C_drewN ?_ _) | (with_reducible refine Kd.C_drew ?_))); (case side2 => exact (Kd.R_reads' HO_155003.out).2.1); rintro e w48 ⟨rfl, hb⟩; refine ⟨_, rfl, ?_⟩; have n0_ := zqi (Kd.R_below (by (with_reducible repeat (first | apply Kd.R_alloc | apply Kd.R_drewN | apply Kd.R_drew)); exact HO_155003.out) hb); have n1_ := zqi (blk_below (g := gb137) (o := .cells #[.int .i64 0, .int .i64 0, .int .i64 0, .slice none 0 0] 26 (0, 0)) (by (with_reducible repeat (first | apply zqa | apply zqb | apply zqc)); exact BK137.out) hb); have n2_ := zqi (blk_below (g := gb154) (o := .cells #[.int .i64 (rd (rd_L3 t138 0) 0), .int .i64 (rd (rd_L3 t138 0) 1), .int .i64 (rd (rd_L3 t138 0) 2), .slice Ao47 x155003_2.length co47] 26 (0, 0)) (by (with_reducible repeat (first | apply zqa | apply zqb | apply zqc)); exact BK154.out) hb); have n3_ := zqi (below_step (by repeat (first | (with_reducible first | exact HB.out | apply zqg | apply zqf | apply zqh | refine below_set ?_ GE137.out | refine below_set ?_ GE154.out) | exact HB.out)) hb); clear HO_155003; clear BK137; clear BK154; clear HB; have HO_155003 := n0_; have BK137 := n1_; have BK154 := n2_; have HB := n3_; clear n0_ n1_ n2_ n3_; (try clear hb); (try clear hb2); (try clear hk); (try clear hi); have hcz49_0 : w48.cell? ⟨gb154, 0, none⟩ = some (.int .i64 (rd (rd_L3 t138 0) 0)) := (zqe BK154.out 0).trans rfl; have hcz49_1 : w48.cell? ⟨gb154, 1, none⟩ = some (.int .i64 (rd (rd_L3 t138 0) 1)) := (zqe BK154.out 1).trans rfl; have hcz49_2 : w48.cell? ⟨gb154, 2, none⟩ = some (.int .i64 (rd (rd_L3 t138 0) 2)) := (zqe BK154.out 2).trans rfl; have hcz49_3 : w48.cell? ⟨gb154, 3, none⟩ = some (.slice Ao47 x155003_2.length co47) := (zqe BK154.out 3).trans rfl; have hfz49_0 := zqd BK154.out 0; have hfz49_1 := zqd BK154.out 1; have hfz49_2 := zqd BK154.out 2; have hfz49_3 := zqd BK154.out 3; have hcz50_0 : w48.cell? ⟨gb137, 0, none⟩ = some (.int .i64 0) := (zqe BK137.out 0).trans rfl; have hcz50_1 : w48.cell? ⟨gb137, 1, none⟩ = some (.int .i64 0) := (zqe BK137.out 1).trans rfl; have hcz50_2 : w48.cell? ⟨gb137, 2, none⟩ = some (.int .i64 0) := (zqe BK137.out 2).trans rfl; have hcz50_3 : w48.cell? ⟨gb137, 3, none⟩ = some (.slice none 0 0) := (zqe BK137.out 3).trans rfl; have hfz50_0 := zqd BK137.out 0; have hfz50_1 := zqd BK137.out 1; have hfz50_2 := zqd BK137.out 2; have hfz50_3 := zqd BK137.out 3))
              refine bodyPost_ret (results_ct rfl _ _ gb137 26 #[.int .i64 (rd (rd_L3 t138 0) 0), .int .i64 (rd (rd_L3 t138 0) 1), .int .i64 (rd (rd_L3 t138 0) 2), .slice Ao47 x155003_2.length co47] (0, 0) _ rfl (by (with_reducible repeat (first | apply zqa | apply zqb | apply zqc)); refine blk_put (cs := #[.int .i64 (rd (rd_L3 t138 0) 0), .int .i64 (rd (rd_L3 t138 0) 1), .int .i64 (rd (rd_L3 t138 0) 2), .slice none 0 0]) ?_ 3 _ rfl; (with_reducible repeat (first | apply zqa | apply zqb | apply zqc)); refine blk_put (cs := #[.int .i64 (rd (rd_L3 t138 0) 0), .int .i64 (rd (rd_L3 t138 0) 1), .int .i64 0, .slice none 0 0]) ?_ 2 _ rfl; (with_reducible repeat (first | apply zqa | apply zqb | apply zqc)); refine blk_put (cs := #[.int .i64 (rd (rd_L3 t138 0) 0), .int .i64 0, .int .i64 0, .slice none 0 0]) ?_ 1 _ rfl; (with_reducible repeat (first | apply zqa | apply zqb | apply zqc)); refine blk_put (cs := #[.int .i64 0, .int .i64 0, .int .i64 0, .slice none 0 0]) ?_ 0 _ rfl; (with_reducible repeat (first | apply zqa | apply zqb | apply zqc)); exact BK137.out) Tryd.underlying26 rfl (by kernel_rfl)) rfl ?_
              exact ⟨_, by first | rfl | (simp [errW_none, errW_some] <;> rfl) | (simp [*, errW_none, errW_some] <;> rfl), by (with_reducible repeat (first | apply Kd.R_alloc | apply Kd.R_drewN | apply Kd.R_drew)); exact Kd.R_mono (Kd.R_far (p := ⟨gb137, 3, none⟩) (Kd.R_far (p := ⟨gb137, 2, none⟩) (Kd.R_far (p := ⟨gb137, 1, none⟩) (Kd.R_far (p := ⟨gb137, 0, none⟩) (Kd.R_types HO_155003.out BK137.out (by decide)) (fun _ hk => hk.2) (.int .i64 (rd (rd_L3 t138 0) 0))) (fun _ hk => hk.2) (.int .i64 (rd (rd_L3 t138 0) 1))) (fun _ hk => hk.2) (.int .i64 (rd (rd_L3 t138 0) 2))) (fun _ hk => hk.2) (.slice Ao47 x155003_2.length co47)) (fun _ hk => trivial), by repeat (first | (with_reducible first | exact HB.out | apply zqg | apply zqf | apply zqh | refine below_set ?_ GE137.out | refine below_set ?_ GE154.out) | exact HB.out)⟩
             ·
              replace c44 := Bool.eq_false_iff.mpr c44
              subst c44
              have H1 : (some (0, 0, 0, ([] : List (S34)), 1)) = some (r1, r2, r3, r4, r5) := by rw [if_neg (show ¬ (false = true) by decide)] at H; exact H
              clear H
              have H := H1
              clear H1
              simp only [Option.some.injEq, Prod.mk.injEq] at H
              obtain ⟨rfl, rfl, rfl, rfl, rfl⟩ := H
              have hnb51 := NB154_137.out
              have hnc51 := NB137_154.out
              have hcz52_0 : wr.cell? ⟨gb154, 0, none⟩ = some (.int .i64 (rd (rd_L3 t138 0) 0)) := (zqe BK154.out 0).trans rfl
              have hcz52_1 : wr.cell? ⟨gb154, 1, none⟩ = some (.int .i64 (rd (rd_L3 t138 0) 1)) := (zqe BK154.out 1).trans rfl
              have hcz52_2 : wr.cell? ⟨gb154, 2, none⟩ = some (.int .i64 (rd (rd_L3 t138 0) 2)) := (zqe BK154.out 2).trans rfl
              have hcz52_3 : wr.cell? ⟨gb154, 3, none⟩ = some (u155003) := (zqe BK154.out 3).trans rfl
              have hfz52_0 := zqd BK154.out 0
              have hfz52_1 := zqd BK154.out 1
              have hfz52_2 := zqd BK154.out 2
              have hfz52_3 := zqd BK154.out 3
              obtain ⟨Ao53, co53, eo53⟩ := Kd.R_slice HO_155003.out
              subst eo53
              go_wp2_with (first | ((with_reducible refine gate_callee (f := 13) rfl ?_); refine goesL_ (some 68) rfl rfl Tryd.func13 (by kernel_rfl) rfl #[.agg #[.int .i64 (rd (rd_L3 t138 0) 0), .int .i64 (rd (rd_L3 t138 0) 1), .int .i64 (rd (rd_L3 t138 0) 2), .slice Ao53 x155003_2.length co53]] rfl (by (try simp only [List.map_toArray, List.map_cons, List.map_nil]); first | done | rfl | (simp only [List.length_drop, List.length_take]; rfl)) ?_; (with_reducible refine (inst_May.calls k2 (rd (rd_L3 t138 0) 0) (rd (rd_L3 t138 0) 1) (rd (rd_L3 t138 0) 2) _ _ x155003_2 false _ ?side1 ?side2 A43.out).mono ?_); (case side1 => repeat (first | exact (Kd.R_reads' HO_155003.out).2.2 | (with_reducible refine Kd.C_alloc ?_ _) | (with_reducible refine Kd.C_drewN ?_ _) | (with_reducible refine Kd.C_drew ?_))); (case side2 => exact (Kd.R_reads' HO_155003.out).2.1); rintro e w54 ⟨rfl, hb⟩; refine ⟨_, rfl, ?_⟩; have n0_ := zqi (Kd.R_below (by (with_reducible repeat (first | apply Kd.R_alloc | apply Kd.R_drewN | apply Kd.R_drew)); exact HO_155003.out) hb); have n1_ := zqi (blk_below (g := gb137) (o := .cells #[.int .i64 0, .int .i64 0, .int .i64 0, .slice none 0 0] 26 (0, 0)) (by (with_reducible repeat (first | apply zqa | apply zqb | apply zqc)); exact BK137.out) hb); have n2_ := zqi (blk_below (g := gb154) (o := .cells #[.int .i64 (rd (rd_L3 t138 0) 0), .int .i64 (rd (rd_L3 t138 0) 1), .int .i64 (rd (rd_L3 t138 0) 2), .slice Ao53 x155003_2.length co53] 26 (0, 0)) (by (with_reducible repeat (first | apply zqa | apply zqb | apply zqc)); exact BK154.out) hb); have n3_ := zqi (below_step (by repeat (first | (with_reducible first | exact HB.out | apply zqg | apply zqf | apply zqh | refine below_set ?_ GE137.out | refine below_set ?_ GE154.out) | exact HB.out)) hb); clear HO_155003; clear BK137; clear BK154; clear HB; have HO_155003 := n0_; have BK137 := n1_; have BK154 := n2_; have HB := n3_; clear n0_ n1_ n2_ n3_; (try clear hb); (try clear hb2); (try clear hk); (try clear hi); have hcz55_0 : w54.cell? ⟨gb137, 0, none⟩ = some (.int .i64 0) := (zqe BK137.out 0).trans rfl; have hcz55_1 : w54.cell? ⟨gb137, 1, none⟩ = some (.int .i64 0) := (zqe BK137.out 1).trans rfl; have hcz55_2 : w54.cell? ⟨gb137, 2, none⟩ = some (.int .i64 0) := (zqe BK137.out 2).trans rfl; have hcz55_3 : w54.cell? ⟨gb137, 3, none⟩ = some (.slice none 0 0) := (zqe BK137.out 3).trans rfl; have hfz55_0 := zqd BK137.out 0; have hfz55_1 := zqd BK137.out 1; have hfz55_2 := zqd BK137.out 2; have hfz55_3 := zqd BK137.out 3))
              refine bodyPost_ret (results_ct rfl _ _ gb137 26 #[.int .i64 0, .int .i64 0, .int .i64 0, .slice none 0 0] (0, 0) _ rfl (by (with_reducible repeat (first | apply zqa | apply zqb | apply zqc)); refine blk_put (cs := #[.int .i64 0, .int .i64 0, .int .i64 0, .slice none 0 0]) ?_ 3 _ rfl; (with_reducible repeat (first | apply zqa | apply zqb | apply zqc)); refine blk_put (cs := #[.int .i64 0, .int .i64 0, .int .i64 0, .slice none 0 0]) ?_ 2 _ rfl; (with_reducible repeat (first | apply zqa | apply zqb | apply zqc)); refine blk_put (cs := #[.int .i64 0, .int .i64 0, .int .i64 0, .slice none 0 0]) ?_ 1 _ rfl; (with_reducible repeat (first | apply zqa | apply zqb | apply zqc)); refine blk_put (cs := #[.int .i64 0, .int .i64 0, .int .i64 0, .slice none 0 0]) ?_ 0 _ rfl; (with_reducible repeat (first | apply zqa | apply zqb | apply zqc)); exact BK137.out) Tryd.underlying26 rfl (by kernel_rfl)) rfl ?_
              exact ⟨_, by first | rfl | (simp [errW_none, errW_some] <;> rfl) | (simp [*, errW_none, errW_some] <;> rfl), by first | exact Kd.R_nil _ _ _ _ _ | exact Kd.N_nil _ _ _ _ _ | exact Kd.V_nil _ _ _ _ _ | exact Kd.Q_nil _ _ _ _ _ | exact Kd.S_nil _ _ _ _ _, by repeat (first | (with_reducible first | exact HB.out | apply zqg | apply zqf | apply zqh | refine below_set ?_ GE137.out | refine below_set ?_ GE154.out) | exact HB.out)⟩
         ·
          rw [if_neg c23] at H
          exact absurd H (by simp)
        ·
         rw [if_neg c22] at H
         exact absurd H (by simp)
       ·
        rw [if_neg c21] at H
        exact absurd H (by simp)
      ·
       rw [if_neg c20] at H
       exact absurd H (by simp)
     ·
      rw [if_neg c19] at H
      exact absurd H (by simp)
 ·
  rw [if_neg c3] at H
  have c3b0 : (t139 == 0) = false := beq_eq_false_iff_ne.mpr c3
  have c3b1 : (t139 != 0) = true := bne_iff_ne.mpr c3
  simp only [Option.some.injEq, Prod.mk.injEq] at H
  obtain ⟨rfl, rfl, rfl, rfl, rfl⟩ := H
  go_enter Tryd.func10, Tryd.ntmps10
  go_wp2_with (first | ((with_reducible refine gate_dst (N := 2) rfl ?_); (try (refine gate_guard (by rfl) ?_; dsimp only)); refine box_event ?hg (N := 2) ?hd (cs := #[.int .i64 0, .int .i64 0, .int .i64 0, .slice none 0 0]) (t := 26) ?hr ?_; (case hd => rfl); (case hg => rfl); (case hr => first | (go_simp; done) | (go_simp; rfl)); intro gb137 hg w56 hbox hb; have n0_ := zqi (below_step (by repeat (first | (with_reducible first | exact HB.out | apply zqg | apply zqf | apply zqh) | exact HB.out)) hb); have n1_ := zqi (hbox); have n2_ := zqi ((by rw [hg]; exact (below_size (by repeat (first | (with_reducible first | exact HB.out | apply zqg | apply zqf | apply zqh) | exact HB.out))) : w.heap.size ≤ gb137)); have n3_ := zqi ((by rw [hg]; exact (below_size (by repeat (first | (with_reducible first | exact HB.out | apply zqg | apply zqf | apply zqh) | exact HB.out))) : w.heap.size ≤ gb137)); clear HB; have HB := n0_; have BK137 := n1_; have GW137 := n2_; have GE137 := n3_; clear n0_ n1_ n2_ n3_; clear hb hbox hg) | ((with_reducible refine gate_callee (f := 19) rfl ?_); refine goesL_ (some 12) rfl rfl Tryd.func19 (by kernel_rfl) rfl #[.slice A0 l0.length c0] rfl (by (try simp only [List.map_toArray, List.map_cons, List.map_nil]); first | done | rfl | (simp only [List.length_drop, List.length_take]; rfl)) ?_; (with_reducible refine (scan_Lines.calls _ _ l0 t138 t139 _ ?side1 ?side2 A2.out).mono ?_); (case side1 => repeat (first | exact (Kd.C_below HR0.out HB.out) | (with_reducible refine Kd.C_alloc ?_ _) | (with_reducible refine Kd.C_drewN ?_ _) | (with_reducible refine Kd.C_drew ?_))); (case side2 => exact HC0.out); rintro e w57 ⟨v140, rfl, ho0, hb⟩; refine ⟨_, rfl, ?_⟩; have n0_ := zqi (Kd.S_lower ho0 (below_size (by repeat (first | (with_reducible first | exact HB.out | apply zqg | apply zqf | apply zqh | refine below_set ?_ GE137.out) | exact HB.out)))); have n1_ := zqi (blk_below (g := gb137) (o := .cells #[.int .i64 0, .int .i64 0, .int .i64 0, .slice none 0 0] 26 (0, 0)) (by (with_reducible repeat (first | apply zqa | apply zqb | apply zqc)); exact BK137.out) hb); have n2_ := zqi (below_step (by repeat (first | (with_reducible first | exact HB.out | apply zqg | apply zqf | apply zqh | refine below_set ?_ GE137.out) | exact HB.out)) hb); clear BK137; clear HB; have HO141 := n0_; have BK137 := n1_; have HB := n2_; clear n0_ n1_ n2_; (try clear hb); (try clear hb2); (try clear hk); (try clear hi); (try clear ho0); have hcz58_0 : w57.cell? ⟨gb137, 0, none⟩ = some (.int .i64 0) := (zqe BK137.out 0).trans rfl; have hcz58_1 : w57.cell? ⟨gb137, 1, none⟩ = some (.int .i64 0) := (zqe BK137.out 1).trans rfl; have hcz58_2 : w57.cell? ⟨gb137, 2, none⟩ = some (.int .i64 0) := (zqe BK137.out 2).trans rfl; have hcz58_3 : w57.cell? ⟨gb137, 3, none⟩ = some (.slice none 0 0) := (zqe BK137.out 3).trans rfl; have hfz58_0 := zqd BK137.out 0; have hfz58_1 := zqd BK137.out 1; have hfz58_2 := zqd BK137.out 2; have hfz58_3 := zqd BK137.out 3))
  refine bodyPost_ret (results_ct rfl _ _ gb137 26 #[.int .i64 0, .int .i64 0, .int .i64 0, .slice none 0 0] (0, 0) _ rfl (by (with_reducible repeat (first | apply zqa | apply zqb | apply zqc)); refine blk_put (cs := #[.int .i64 0, .int .i64 0, .int .i64 0, .slice none 0 0]) ?_ 3 _ rfl; (with_reducible repeat (first | apply zqa | apply zqb | apply zqc)); refine blk_put (cs := #[.int .i64 0, .int .i64 0, .int .i64 0, .slice none 0 0]) ?_ 2 _ rfl; (with_reducible repeat (first | apply zqa | apply zqb | apply zqc)); refine blk_put (cs := #[.int .i64 0, .int .i64 0, .int .i64 0, .slice none 0 0]) ?_ 1 _ rfl; (with_reducible repeat (first | apply zqa | apply zqb | apply zqc)); refine blk_put (cs := #[.int .i64 0, .int .i64 0, .int .i64 0, .slice none 0 0]) ?_ 0 _ rfl; (with_reducible repeat (first | apply zqa | apply zqb | apply zqc)); exact BK137.out) Tryd.underlying26 rfl (by kernel_rfl)) rfl ?_
  exact ⟨_, by first | rfl | (simp [errW_none, errW_some] <;> rfl) | (simp [*, errW_none, errW_some] <;> rfl), by first | exact Kd.R_nil _ _ _ _ _ | exact Kd.N_nil _ _ _ _ _ | exact Kd.V_nil _ _ _ _ _ | exact Kd.Q_nil _ _ _ _ _ | exact Kd.S_nil _ _ _ _ _, by repeat (first | (with_reducible first | exact HB.out | apply zqg | apply zqf | apply zqh | refine below_set ?_ GE137.out) | exact HB.out)⟩

end Go.Proofs.YtifekgemngfidaaDoor.PA
