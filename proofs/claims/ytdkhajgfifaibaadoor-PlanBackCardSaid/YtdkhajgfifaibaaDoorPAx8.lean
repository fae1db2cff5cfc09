-- Printed for this claim by wip/tools/xprint.py over the kit's print; the contracts marked BY HAND are this session's own.
import Derived.Test.YtdkhajgfifaibaaDoorPAx0
import Derived.Test.YtdkhajgfifaibaaDoorPAx5
import Derived.Test.YtdkhajgfifaibaaDoorPAx7
namespace Go.Proofs.YtdkhajgfifaibaaDoor.PA
open Go.RowKit Go.Proofs.YtdkhajgfifaibaaDoorW.PrintWords Go.Proofs.YtdkhajgfifaibaaDoorW.PrintLast Go.Proofs.YtdkhajgfifaibaaDoorW.PrintMore
attribute [local go_sem] max2_int min2_int max_two min_two max_three min_three max_four min_four   -- for this text's walks alone
set_option linter.unusedVariables false
set_option linter.unusedSimpArgs false

/-! ### inst_Parse: function 16 -/
mutual
def inst_Parse.j0 : Nat → List (List Int) → Bool → Option (Int × Int × Int × (List (S58)) × Int)
  | 0, _, _ => none
  | k + 1, x4, x34 => if x34 = true then (some (0, 0, 0, ([] : List (S58)), 2)) else (if 0 < (x4.length : Int) then (if 0 < ((rd_L1 x4 0).length : Int) then (if 1 < ((rd_L1 x4 0).length : Int) then (if 2 < ((rd_L1 x4 0).length : Int) then (if 1 ≤ (x4.length : Int) then ((some (x4.drop 1 : List (List Int))).bind fun y177 => (inst_Parse.l0 k y177 (y177.length : Int) 0 (rd (rd_L1 x4 0) 0) (rd (rd_L1 x4 0) 1) (rd (rd_L1 x4 0) 2) ([] : List (S58)))) else (none)) else (none)) else (none)) else (none)) else (none))
def inst_Parse.l0 : Nat → List (List Int) → Int → Int → Int → Int → Int → List (S58) → Option (Int × Int × Int × (List (S58)) × Int)
  | 0, _, _, _, _, _, _, _ => none
  | k + 1, x53, x54, x55, x177000, x177001, x177002, x177003 => if x55 < x54 then (if 0 ≤ x55 then (if x55 < (x53.length : Int) then ((inst_stop.f (rd_L1 x53 x55)).bind fun bt182 => (if x177003.length < 2932031007402 then (inst_Parse.l0 k x53 x54 (wrap64 (x55 + 1)) x177000 x177001 x177002 (x177003 ++ [(⟨bt182.1, bt182.2.1, bt182.2.2.1, bt182.2.2.2.1, bt182.2.2.2.2.1, bt182.2.2.2.2.2⟩ : S58)])) else (none))) else (none)) else (none)) else ((inst_May.f k x177000 x177001 x177002 x177003).bind fun t191 => (if t191 = true then (some (x177000, x177001, x177002, x177003, 0)) else (some (0, 0, 0, ([] : List (S58)), 1))))
end
def inst_Parse.f (k : Nat) (l0 : List Int) : Option (Int × Int × Int × (List (S58)) × Int) := (scan_Lines.f l0).bind fun bt160 => (if bt160.2 = 0 then (if (bt160.1.length : Int) = 0 then (inst_Parse.j0 k bt160.1 true) else (if 0 < (bt160.1.length : Int) then (if ((rd_L1 bt160.1 0).length : Int) = 3 then (if 1 ≤ (bt160.1.length : Int) then ((slices_ContainsFunc_int_int_32.f (bt160.1.drop 1) 999020).bind fun t169 => (inst_Parse.j0 k bt160.1 t169)) else (none)) else (inst_Parse.j0 k bt160.1 true)) else (none))) else (some (0, 0, 0, ([] : List (S58)), bt160.2)))
theorem inst_Parse.mono_l : ∀ k, (∀ y0 y1, LeO (inst_Parse.j0 k y0 y1) (inst_Parse.j0 (k + 1) y0 y1)) ∧ (∀ y0 y1 y2 y3 y4 y5 y6, LeO (inst_Parse.l0 k y0 y1 y2 y3 y4 y5 y6) (inst_Parse.l0 (k + 1) y0 y1 y2 y3 y4 y5 y6))
  | 0 => ⟨fun _ _ r h => by simp [inst_Parse.j0] at h, fun _ _ _ _ _ _ _ r h => by simp [inst_Parse.l0] at h⟩
  | k + 1 => by
    obtain ⟨ih0, ih1⟩ := inst_Parse.mono_l k
    refine ⟨?_, ?_⟩
    · intro y0 y1
      unfold inst_Parse.j0
      repeat' first
      | (with_reducible exact ih0 _ _)
      | (with_reducible exact ih1 _ _ _ _ _ _ _)
      | (with_reducible exact inst_May.mono _ _ _ _ _)
      | (with_reducible exact LeO.refl _)
      | (with_reducible exact LeO.none _)
      | (with_reducible refine LeO.ite ?_ ?_)
      | (with_reducible refine LeO.bind ?_ (fun _ => ?_))
      | exact ih0 _ _
      | exact ih1 _ _ _ _ _ _ _
      | exact inst_May.mono _ _ _ _ _
      | exact LeO.none _
      | refine LeO.ite ?_ ?_
      | refine LeO.bind ?_ (fun _ => ?_)
    · intro y0 y1 y2 y3 y4 y5 y6
      unfold inst_Parse.l0
      repeat' first
      | (with_reducible exact ih0 _ _)
      | (with_reducible exact ih1 _ _ _ _ _ _ _)
      | (with_reducible exact inst_May.mono _ _ _ _ _)
      | (with_reducible exact LeO.refl _)
      | (with_reducible exact LeO.none _)
      | (with_reducible refine LeO.ite ?_ ?_)
      | (with_reducible refine LeO.bind ?_ (fun _ => ?_))
      | exact ih0 _ _
      | exact ih1 _ _ _ _ _ _ _
      | exact inst_May.mono _ _ _ _ _
      | exact LeO.none _
      | refine LeO.ite ?_ ?_
      | refine LeO.bind ?_ (fun _ => ?_)
theorem inst_Parse.mono : ∀ a0 k, LeO (inst_Parse.f k a0) (inst_Parse.f (k + 1) a0) := by
  intro a0 k
  obtain ⟨ih0, ih1⟩ := inst_Parse.mono_l k
  unfold inst_Parse.f
  repeat' first
      | (with_reducible exact ih0 _ _)
      | (with_reducible exact ih1 _ _ _ _ _ _ _)
      | (with_reducible exact inst_May.mono _ _ _ _ _)
      | (with_reducible exact LeO.refl _)
      | (with_reducible exact LeO.none _)
      | (with_reducible refine LeO.ite ?_ ?_)
      | (with_reducible refine LeO.bind ?_ (fun _ => ?_))
      | exact ih0 _ _
      | exact ih1 _ _ _ _ _ _ _
      | exact inst_May.mono _ _ _ _ _
      | exact LeO.none _
      | refine LeO.ite ?_ ?_
      | refine LeO.bind ?_ (fun _ => ?_)
def inst_Parse.T7 : Bool × List (List Nat × List Nat) := (true, [([], []), ([0], [0]), ([1], [1]), ([2], [2]), ([3], [3]), ([], []), ([5], [5]), ([6], [6]), ([7], [7]), ([8], [8]), ([], []), ([10], [10]), ([11], [11]), ([12], [12]), ([13], [13]), ([4, 9, 14], [4, 9, 14]), ([], []), ([16, 15, 0, 1, 2, 3, 4, 5, 6, 7, 8, 9, 10, 11, 12, 13, 14, 15, 16], [15, 16])])
def inst_Parse.B7 : List Nat := [0, 1, 3, 7, 15, 0, 32, 96, 224, 480, 0, 1024, 3072, 7168, 15360, 32767, 0, 131071]
theorem inst_Parse.tab7 : rtab .any (opsOf Tryd.f16 7) = inst_Parse.T7 := by kernel_rfl
theorem inst_Parse.bits7 : waitsOk inst_Parse.T7.2 inst_Parse.B7 = true := by kernel_rfl
def inst_Parse.T11 : Bool × List (List Nat × List Nat) := (true, [([], []), ([0], [0]), ([], []), ([2], [2]), ([3], [3]), ([1, 4, 3], [1, 4]), ([0, 1, 2, 3, 4, 5], []), ([6, 5, 5, 0, 1, 2, 3, 4, 5], [5, 6])])
def inst_Parse.B11 : List Nat := [0, 1, 0, 4, 12, 31, 63, 127]
theorem inst_Parse.tab11 : rtab .any (opsOf Tryd.f16 11) = inst_Parse.T11 := by kernel_rfl
theorem inst_Parse.bits11 : waitsOk inst_Parse.T11.2 inst_Parse.B11 = true := by kernel_rfl
set_option maxHeartbeats 16000000 in
set_option maxRecDepth 100000 in
theorem inst_Parse.calls (k : Nat) (A0 : Option Addr) (c0 : Nat) (l0 : List Int) (r1 : Int) (r2 : Int) (r3 : Int) (r4 : List (S58)) (r5 : Int) (w : World) (hr0 : Kd.C (Kd.int .u8) w A0 l0.length l0) (hc0 : l0.length ≤ c0) (h : inst_Parse.f k l0 = some (r1, r2, r3, r4, r5)) :
  Calls Tryd.prog 16 #[.slice A0 l0.length c0] w fun e w' => ∃ v3_ : Value, e = .returned (.tuple #[.agg #[.int .i64 r1, .int .i64 r2, .int .i64 r3, v3_], .int .i64 r5]) ∧ Kd.R k58 58 w' w.heap.size (fun _ => True) v3_ r4 ∧ Below w.heap.size w w' := by
 have hu39 := Tryd.underlying39
 have HR0 := zqi hr0
 have HC0 := zqi hc0
 clear hr0 hc0
 have HB := zqi (Below.refl w.heap.size w)
 have H : ((scan_Lines.f l0).bind fun bt160 => (if bt160.2 = 0 then (if (bt160.1.length : Int) = 0 then (inst_Parse.j0 k bt160.1 true) else (if 0 < (bt160.1.length : Int) then (if ((rd_L1 bt160.1 0).length : Int) = 3 then (if 1 ≤ (bt160.1.length : Int) then ((slices_ContainsFunc_int_int_32.f (bt160.1.drop 1) 999020).bind fun t169 => (inst_Parse.j0 k bt160.1 t169)) else (none)) else (inst_Parse.j0 k bt160.1 true)) else (none))) else (some (0, 0, 0, ([] : List (S58)), bt160.2)))) = some (r1, r2, r3, r4, r5) := h
 clear h
 replace H := Option.bind_eq_some_iff.mp H
 obtain ⟨⟨t160, t161⟩, A20, H⟩ := H
 replace H : (if t161 = 0 then (if (t160.length : Int) = 0 then (inst_Parse.j0 k t160 true) else (if 0 < (t160.length : Int) then (if ((rd_L1 t160 0).length : Int) = 3 then (if 1 ≤ (t160.length : Int) then ((slices_ContainsFunc_int_int_32.f (t160.drop 1) 999020).bind fun t169 => (inst_Parse.j0 k t160 t169)) else (none)) else (inst_Parse.j0 k t160 true)) else (none))) else (some (0, 0, 0, ([] : List (S58)), t161))) = some (r1, r2, r3, r4, r5) := H
 have A2 := zqi A20
 clear A20
 by_cases c3 : t161 = 0
 ·
  rw [if_pos c3] at H
  have c3b0 : (t161 == 0) = true := beq_iff_eq.mpr c3
  have c3b1 : (t161 != 0) = false := bne_eq_false_iff_eq.mpr c3
  clear c3
  have HC4 := zqi H
  clear H
  go_enter Tryd.func16, Tryd.ntmps16
  go_upto_region 5 with (first | ((with_reducible refine gate_dst (N := 2) rfl ?_); (try (refine gate_guard (by rfl) ?_; dsimp only)); refine box_event ?hg (N := 2) ?hd (cs := #[.int .i64 0, .int .i64 0, .int .i64 0, .slice none 0 0]) (t := 39) ?hr ?_; (case hd => rfl); (case hg => rfl); (case hr => first | (go_simp; done) | (go_simp; rfl)); intro gb159 hg w5 hbox hb; have n0_ := zqi (below_step (zqn HB.out) hb); have n1_ := zqi (hbox); have n2_ := zqi (zqo hg HB.out); have n3_ := zqi (zqo hg HB.out); clear HB; have HB := n0_; have BK159 := n1_; have GW159 := n2_; have GE159 := n3_; clear n0_ n1_ n2_ n3_; clear hb hbox hg) | ((with_reducible refine gate_callee (f := 23) rfl ?_); refine goesL_ (some 12) rfl rfl Tryd.func23 (by kernel_rfl) rfl #[.slice A0 l0.length c0] rfl (by (try simp only [List.map_toArray, List.map_cons, List.map_nil]); first | done | rfl | (simp only [List.length_drop, List.length_take]; rfl)) ?_; (with_reducible refine (scan_Lines.calls _ _ l0 t160 t161 _ ?side1 ?side2 A2.out).mono ?_); (case side1 => repeat (first | exact (Kd.C_below HR0.out HB.out) | (with_reducible refine Kd.C_alloc ?_ _) | (with_reducible refine Kd.C_drewN ?_ _) | (with_reducible refine Kd.C_drew ?_))); (case side2 => exact HC0.out); rintro e w6 ⟨v162, rfl, ho0, hb⟩; refine ⟨_, rfl, ?_⟩; have n0_ := zqi (Kd.S_lower ho0 (below_size (zqn HB.out))); have n1_ := zqi (zqy BK159.out hb); have n2_ := zqi (below_step (zqn HB.out) hb); clear BK159; clear HB; have HO163 := n0_; have BK159 := n1_; have HB := n2_; clear n0_ n1_ n2_; (try clear hb); (try clear hb2); (try clear hk); (try clear hi); (try clear ho0)))
  (try simp only [Act.put, List.setIfInBounds_toArray, List.set_cons_zero, List.set_cons_succ])
  go_cut [34] (fun v34 wc => ∃ (kq : Nat) (x34_3 : Bool), v34 = .bool x34_3 ∧ Aside0 (inst_Parse.j0 kq t160 x34_3 = some (r1, r2, r3, r4, r5)) ∧ Aside0 (kq ≤ k) ∧ Aside0 (Kd.S (Kd.slice 3 (Kd.int .i64)) 36 wc w.heap.size (fun _ => True) v162 t160) ∧ Aside0 (wc.heap[gb159]? = some (.cells #[.int .i64 0, .int .i64 0, .int .i64 0, (.slice none 0 0)] 39 (0, 0))) ∧ Aside0 (Below w.heap.size w wc))
  case first =>
   have H := HC4.out
   clear HC4
   by_cases c7 : (t160.length : Int) = 0
   ·
    rw [if_pos c7] at H
    have c7b0 : ((t160.length : Int) == 0) = true := beq_iff_eq.mpr c7
    have c7b1 : ((t160.length : Int) != 0) = false := bne_eq_false_iff_eq.mpr c7
    clear c7
    (first | rw [c7b0] | (simp only [i64_w, i32_w]; rw [c7b0]) | skip)
    have H' := zqi H
    clear H
    obtain ⟨Ao8, co8, eo8⟩ := Kd.S_slice HO163.out
    subst eo8
    go_wp2
    go_meet
    case rel => exact ⟨_, (true), (by first | rfl | (simp; done) | (simp [*]; done)), H', ⟨by first | omega | exact Nat.le_refl _⟩, ⟨by (with_reducible repeat (first | apply Kd.S_alloc | apply Kd.S_drewN | apply Kd.S_drew)); exact HO163.out⟩, ⟨by (with_reducible repeat (first | apply zqa | apply zqb | apply zqc)); exact BK159.out⟩, ⟨by repeat (first | (with_reducible first | exact HB.out | apply zqg | apply zqf | apply zqh | refine below_set ?_ GE159.out) | exact HB.out)⟩⟩
   ·
    rw [if_neg c7] at H
    have c7b0 : ((t160.length : Int) == 0) = false := beq_eq_false_iff_ne.mpr c7
    have c7b1 : ((t160.length : Int) != 0) = true := bne_iff_ne.mpr c7
    have c7b2 : ¬ (t160 = []) := fun h_ => c7 (by rw [h_]; rfl)
    (first | rw [c7b0] | (simp only [i64_w, i32_w]; rw [c7b0]) | skip)
    by_cases c9 : 0 < (t160.length : Int)
    ·
     rw [if_pos c9] at H
     have c9b0 : decide (0 < (t160.length : Int)) = true := decide_eq_true c9
     have c9b1 : decide (0 < t160.length) = true := decide_eq_true (by omega)
     clear c9
     by_cases c10 : ((rd_L1 t160 0).length : Int) = 3
     ·
      rw [if_pos c10] at H
      have c10b0 : (((rd_L1 t160 0).length : Int) == 3) = true := beq_iff_eq.mpr c10
      have c10b1 : (((rd_L1 t160 0).length : Int) != 3) = false := bne_eq_false_iff_eq.mpr c10
      clear c10
      by_cases c11 : 1 ≤ (t160.length : Int)
      ·
       rw [if_pos c11] at H
       have c11b0 := eq_true c11
       have c11b1 : decide (1 ≤ (t160.length : Int)) = true := decide_eq_true c11
       clear c11
       obtain ⟨y165, hy165⟩ : ∃ y_ : List (List Int), y_ = (t160.drop 1) := ⟨_, rfl⟩
       replace H : ((slices_ContainsFunc_int_int_32.f y165 999020).bind fun t169 => (inst_Parse.j0 k t160 t169)) = some (r1, r2, r3, r4, r5) := by first | (rw [hy165]; with_reducible exact H) | (have H2_ := (Option.bind_some _ _).symm.trans H; rw [hy165]; with_reducible exact H2_) | (have H2_ := (Option.bind_some _ _).symm.trans H; with_reducible exact H2_) | with_reducible exact H | (rw [hy165]; exact H) | exact H
       have Ny165 := zqi hy165
       clear hy165
       replace H := Option.bind_eq_some_iff.mp H
       obtain ⟨t169, A120, H⟩ := H
       replace H : (inst_Parse.j0 k t160 t169) = some (r1, r2, r3, r4, r5) := H
       have A12 := zqi A120
       clear A120
       have H' := zqi H
       clear H
       obtain ⟨Ao13, co13, eo13⟩ := Kd.S_slice HO163.out
       subst eo13
       have p164 : 0 ≤ (0 : Int) := (by omega)
       have q164 : 0 < (t160.length : Int) := of_decide_eq_true (by first | (with_reducible assumption) | assumption)
       obtain ⟨ad164, A164_0, c164_0, e164, hx164_0, hl164_0, hi164_0⟩ := at_L1 (Kd.S_reads' HO163.out).2.2 0 p164 q164
       cases e164
       obtain ⟨ce164, hce164, hMe164, hcc164⟩ := Kd.S_get HO163.out [] 0 p164 (by first | exact q164 | exact of_decide_eq_true (by first | (with_reducible assumption) | assumption) | (have e_ := (Kd.S_reads' HO163.out).1; omega))
       obtain ⟨ve164_0, rfl, ge164_0⟩ := hMe164
       have hv164_0 := hcc164 0 _ rfl
       rw [Nat.add_zero, show ((Kd.slice 3 (Kd.int .i64))).sz = 1 from rfl, Nat.mul_one] at hv164_0
       replace hv164_0 := Option.some.inj (hv164_0.symm.trans hx164_0)
       rw [hv164_0] at ge164_0
       have HL164_0 := zqi (show Kd.R (Kd.int .i64) 3 _ _ _ _ (rd_L1 t160 0) from ge164_0)
       clear hv164_0 ge164_0
       clear hcc164 hce164
       have qi164 : (0 < t160.length) = True := eq_true (by omega)
       (try rw [show ((0 : Int)).toNat = 0 from rfl] at hx164_0)
       (try rw [Addr.add_zero'] at hx164_0)
       have HR164_0 := zqi hi164_0
       have HC164_0 := zqi hl164_0
       clear hi164_0 hl164_0
       replace p164 := eq_true p164
       replace q164 := eq_true q164
       have q14 : (1 : Int) ≤ ((t160.length : Int) : Int) := of_decide_eq_true (by first | (with_reducible assumption) | assumption)
       obtain ⟨i014, hi014, _, hsz14, _⟩ := info_parts info36
       have hroom14 : t160.length ≤ co13 := (Kd.S_reads' HO163.out).2.1
       have hC14 : Kd.C (Kd.slice 3 (Kd.int .i64)) _ (some ad164) t160.length t160 := (Kd.S_reads' HO163.out).2.2
       have hcut14 := cut_from (P := Tryd.prog) 22 36 .i64 Tryd.underlying22 hi014 1 hsz14 (some ad164) t160.length co13 1 (by omega) q14
       have hr14 := Kd.C_drop (m := (1 : Int).toNat) (c := co13) hC14 (by omega) hroom14
       obtain ⟨A14, hA14⟩ : ∃ A1, A1 = (if co13 = (1 : Int).toNat then (some ad164) else ((some ad164) : Option Addr).map (·.add ((1 : Int).toNat * 1))) := ⟨_, rfl⟩
       obtain ⟨c14, hc14⟩ : ∃ c1, c1 = co13 - (1 : Int).toNat := ⟨_, rfl⟩
       have hy14 : y165.length = t160.length - (1 : Int).toNat := (by rw [Ny165.out, List.length_drop] <;> omega)
       rw [show (t160).drop (1 : Int).toNat = y165 from Ny165.out.symm] at hr14
       replace hr14 : Kd.C (Kd.slice 3 (Kd.int .i64)) _ A14 y165.length y165 := (by rw [hA14]; exact hr14)
       rw [← hy14, ← hA14, ← hc14] at hcut14
       have HR168 := zqi hr14
       have HC168 := zqi (show y165.length ≤ c14 from by rw [hy14, hc14]; exact Nat.sub_le_sub_right hroom14 _)
       clear hr14 hC14 hroom14 hi014 hsz14 hc14
       have KY14 := zqi hy14
       have KA14 := zqi hA14
       clear hy14 hA14
       have KL14 := zqi (show 1 ≤ t160.length from by omega)
       replace q14 := eq_true q14
       go_wp2_with (first | (go_at_call 32; (with_reducible refine (slices_ContainsFunc_int_int_32.calls _ _ y165 999020 t169 _ ?side1 ?side2 A12.out).mono ?_); (case side1 => repeat (first | exact (by repeat (first | (with_reducible exact HR168.out) | (with_reducible refine Kd.C_alloc ?_ _) | (with_reducible refine Kd.C_drewN ?_ _) | (with_reducible refine Kd.C_drew ?_) | exact HR168.out)) | (with_reducible refine Kd.C_alloc ?_ _) | (with_reducible refine Kd.C_drewN ?_ _) | (with_reducible refine Kd.C_drew ?_))); (case side2 => exact HC168.out); rintro e w15 ⟨rfl, hb⟩; have n0_ := zqi (Kd.S_below (by (with_reducible repeat (first | apply Kd.S_alloc | apply Kd.S_drewN | apply Kd.S_drew)); exact HO163.out) hb); have n1_ := zqi (Kd.R_below (by (with_reducible repeat (first | apply Kd.R_alloc | apply Kd.R_drewN | apply Kd.R_drew)); exact HL164_0.out) hb); have n2_ := zqi (zqy BK159.out hb); have n3_ := zqi (Kd.C_below (by repeat (first | (with_reducible exact HR164_0.out) | (with_reducible refine Kd.C_alloc ?_ _) | (with_reducible refine Kd.C_drewN ?_ _) | (with_reducible refine Kd.C_drew ?_) | exact HR164_0.out)) hb); have n4_ := zqi (Kd.C_below (by repeat (first | (with_reducible exact HR168.out) | (with_reducible refine Kd.C_alloc ?_ _) | (with_reducible refine Kd.C_drewN ?_ _) | (with_reducible refine Kd.C_drew ?_) | exact HR168.out)) hb); have n5_ := zqi (below_step (zqn HB.out) hb); clear HO163; clear HL164_0; clear BK159; clear HR164_0; clear HR168; clear HB; have HO163 := n0_; have HL164_0 := n1_; have BK159 := n2_; have HR164_0 := n3_; have HR168 := n4_; have HB := n5_; clear n0_ n1_ n2_ n3_ n4_ n5_; (try clear hb); (try clear hb2); (try clear hk); (try clear hi)))
       go_meet
       case rel => exact ⟨_, (t169), (by first | rfl | (simp; done) | (simp [*]; done)), H', ⟨by first | omega | exact Nat.le_refl _⟩, ⟨by (with_reducible repeat (first | apply Kd.S_alloc | apply Kd.S_drewN | apply Kd.S_drew)); exact HO163.out⟩, ⟨by (with_reducible repeat (first | apply zqa | apply zqb | apply zqc)); exact BK159.out⟩, ⟨by repeat (first | (with_reducible first | exact HB.out | apply zqg | apply zqf | apply zqh | refine below_set ?_ GE159.out) | exact HB.out)⟩⟩
      ·
       rw [if_neg c11] at H
       exact absurd H (by simp)
     ·
      rw [if_neg c10] at H
      have c10b0 : (((rd_L1 t160 0).length : Int) == 3) = false := beq_eq_false_iff_ne.mpr c10
      have c10b1 : (((rd_L1 t160 0).length : Int) != 3) = true := bne_iff_ne.mpr c10
      have H' := zqi H
      clear H
      obtain ⟨Ao16, co16, eo16⟩ := Kd.S_slice HO163.out
      subst eo16
      have p164 : 0 ≤ (0 : Int) := (by omega)
      have q164 : 0 < (t160.length : Int) := of_decide_eq_true (by first | (with_reducible assumption) | assumption)
      obtain ⟨ad164, A164_0, c164_0, e164, hx164_0, hl164_0, hi164_0⟩ := at_L1 (Kd.S_reads' HO163.out).2.2 0 p164 q164
      cases e164
      obtain ⟨ce164, hce164, hMe164, hcc164⟩ := Kd.S_get HO163.out [] 0 p164 (by first | exact q164 | exact of_decide_eq_true (by first | (with_reducible assumption) | assumption) | (have e_ := (Kd.S_reads' HO163.out).1; omega))
      obtain ⟨ve164_0, rfl, ge164_0⟩ := hMe164
      have hv164_0 := hcc164 0 _ rfl
      rw [Nat.add_zero, show ((Kd.slice 3 (Kd.int .i64))).sz = 1 from rfl, Nat.mul_one] at hv164_0
      replace hv164_0 := Option.some.inj (hv164_0.symm.trans hx164_0)
      rw [hv164_0] at ge164_0
      have HL164_0 := zqi (show Kd.R (Kd.int .i64) 3 _ _ _ _ (rd_L1 t160 0) from ge164_0)
      clear hv164_0 ge164_0
      clear hcc164 hce164
      have qi164 : (0 < t160.length) = True := eq_true (by omega)
      (try rw [show ((0 : Int)).toNat = 0 from rfl] at hx164_0)
      (try rw [Addr.add_zero'] at hx164_0)
      have HR164_0 := zqi hi164_0
      have HC164_0 := zqi hl164_0
      clear hi164_0 hl164_0
      replace p164 := eq_true p164
      replace q164 := eq_true q164
      go_wp2
      go_meet
      case rel => exact ⟨_, (true), (by first | rfl | (simp; done) | (simp [*]; done)), H', ⟨by first | omega | exact Nat.le_refl _⟩, ⟨by (with_reducible repeat (first | apply Kd.S_alloc | apply Kd.S_drewN | apply Kd.S_drew)); exact HO163.out⟩, ⟨by (with_reducible repeat (first | apply zqa | apply zqb | apply zqc)); exact BK159.out⟩, ⟨by repeat (first | (with_reducible first | exact HB.out | apply zqg | apply zqf | apply zqh | refine below_set ?_ GE159.out) | exact HB.out)⟩⟩
    ·
     rw [if_neg c9] at H
     exact absurd H (by simp)
  case rest =>
   clear HC4
   try clear c1
   try clear p1
   try clear q1
   try clear hx1
   try clear qi1
   try clear c2
   try clear p2
   try clear c3
   try clear c3b0
   try clear c3b1
   try clear c7
   try clear c7b0
   try clear c7b1
   try clear c7b2
   try clear c9
   try clear c9b0
   try clear c9b1
   try clear c10
   try clear c10b0
   try clear c10b1
   try clear c11
   try clear c11b0
   try clear c11b1
   try clear c14
   try clear q14
   try clear c16
   try clear p16
   try clear q16
   try clear hx16
   try clear qi16
   try clear hx164_0
   try clear p164
   try clear q14
   try clear q164
   obtain ⟨kq, x34_3, rfl, HA, HJ3, HO_4, BK159, HB⟩ := hcut
   cases kq with
   | zero => exact absurd HA.out (by simp [inst_Parse.j0])
   | succ kj3 =>
    have H := HA.out
    clear HA
    simp only [inst_Parse.j0] at H
    by_cases c17 : x34_3 = true
    ·
     subst c17
     have H1 : (some (0, 0, 0, ([] : List (S58)), 2)) = some (r1, r2, r3, r4, r5) := by rw [if_pos rfl] at H; exact H
     clear H
     have H := H1
     clear H1
     simp only [Option.some.injEq, Prod.mk.injEq] at H
     obtain ⟨rfl, rfl, rfl, rfl, rfl⟩ := H
     obtain ⟨hcz18_0, hcz18_1, hcz18_2, hcz18_3, hfz18_0, hfz18_1, hfz18_2, hfz18_3⟩ := zqz4 BK159.out
     go_wp2
     refine bodyPost_ret (results_ct rfl _ _ gb159 39 #[.int .i64 0, .int .i64 0, .int .i64 0, .slice none 0 0] (0, 0) _ rfl (by (with_reducible repeat (first | apply zqa | apply zqb | apply zqc)); refine blk_put (cs := #[.int .i64 0, .int .i64 0, .int .i64 0, .slice none 0 0]) ?_ 3 _ rfl; (with_reducible repeat (first | apply zqa | apply zqb | apply zqc)); refine blk_put (cs := #[.int .i64 0, .int .i64 0, .int .i64 0, .slice none 0 0]) ?_ 2 _ rfl; (with_reducible repeat (first | apply zqa | apply zqb | apply zqc)); refine blk_put (cs := #[.int .i64 0, .int .i64 0, .int .i64 0, .slice none 0 0]) ?_ 1 _ rfl; (with_reducible repeat (first | apply zqa | apply zqb | apply zqc)); refine blk_put (cs := #[.int .i64 0, .int .i64 0, .int .i64 0, .slice none 0 0]) ?_ 0 _ rfl; (with_reducible repeat (first | apply zqa | apply zqb | apply zqc)); exact BK159.out) Tryd.underlying39 rfl (by kernel_rfl)) rfl ?_
     exact ⟨_, by first | rfl | (simp [errW_none, errW_some] <;> rfl) | (simp [*, errW_none, errW_some] <;> rfl), by first | exact Kd.R_nil _ _ _ _ _ | exact Kd.N_nil _ _ _ _ _ | exact Kd.V_nil _ _ _ _ _ | exact Kd.Q_nil _ _ _ _ _ | exact Kd.S_nil _ _ _ _ _, by repeat (first | (with_reducible first | exact HB.out | apply zqg | apply zqf | apply zqh | refine below_set ?_ GE159.out) | exact HB.out)⟩
    ·
     replace c17 := Bool.eq_false_iff.mpr c17
     subst c17
     have H1 : (if 0 < (t160.length : Int) then (if 0 < ((rd_L1 t160 0).length : Int) then (if 1 < ((rd_L1 t160 0).length : Int) then (if 2 < ((rd_L1 t160 0).length : Int) then (if 1 ≤ (t160.length : Int) then ((some (t160.drop 1 : List (List Int))).bind fun y177 => (inst_Parse.l0 kj3 y177 (y177.length : Int) 0 (rd (rd_L1 t160 0) 0) (rd (rd_L1 t160 0) 1) (rd (rd_L1 t160 0) 2) ([] : List (S58)))) else (none)) else (none)) else (none)) else (none)) else (none)) = some (r1, r2, r3, r4, r5) := by rw [if_neg (show ¬ (false = true) by decide)] at H; exact H
     clear H
     have H := H1
     clear H1
     by_cases c19 : 0 < (t160.length : Int)
     ·
      rw [if_pos c19] at H
      have c19b0 : decide (0 < (t160.length : Int)) = true := decide_eq_true c19
      have c19b1 : decide (0 < t160.length) = true := decide_eq_true (by omega)
      clear c19
      by_cases c20 : 0 < ((rd_L1 t160 0).length : Int)
      ·
       rw [if_pos c20] at H
       have c20b0 : decide (0 < ((rd_L1 t160 0).length : Int)) = true := decide_eq_true c20
       have c20b1 : decide (0 < (rd_L1 t160 0).length) = true := decide_eq_true (by omega)
       clear c20
       by_cases c21 : 1 < ((rd_L1 t160 0).length : Int)
       ·
        rw [if_pos c21] at H
        have c21b0 : decide (1 < ((rd_L1 t160 0).length : Int)) = true := decide_eq_true c21
        have c21b1 : decide (1 < (rd_L1 t160 0).length) = true := decide_eq_true (by omega)
        clear c21
        by_cases c22 : 2 < ((rd_L1 t160 0).length : Int)
        ·
         rw [if_pos c22] at H
         have c22b0 : decide (2 < ((rd_L1 t160 0).length : Int)) = true := decide_eq_true c22
         have c22b1 : decide (2 < (rd_L1 t160 0).length) = true := decide_eq_true (by omega)
         clear c22
         by_cases c23 : 1 ≤ (t160.length : Int)
         ·
          rw [if_pos c23] at H
          have c23b0 := eq_true c23
          have c23b1 : decide (1 ≤ (t160.length : Int)) = true := decide_eq_true c23
          clear c23
          obtain ⟨y177, hy177⟩ : ∃ y_ : List (List Int), y_ = (t160.drop 1) := ⟨_, rfl⟩
          replace H : (inst_Parse.l0 kj3 y177 (y177.length : Int) 0 (rd (rd_L1 t160 0) 0) (rd (rd_L1 t160 0) 1) (rd (rd_L1 t160 0) 2) ([] : List (S58))) = some (r1, r2, r3, r4, r5) := by first | (rw [hy177]; with_reducible exact H) | (have H2_ := (Option.bind_some _ _).symm.trans H; rw [hy177]; with_reducible exact H2_) | (have H2_ := (Option.bind_some _ _).symm.trans H; with_reducible exact H2_) | with_reducible exact H | (rw [hy177]; exact H) | exact H
          have Ny177 := zqi hy177
          clear hy177
          have H' := zqi H
          clear H
          try go_wp2
          have n0_ := zqi (Kd.S_drew HO_4.out)
          have n1_ := zqi (zqb BK159.out)
          have n2_ := zqi (zqh HB.out)
          clear HO_4
          clear BK159
          clear HB
          have HO_4 := n0_
          have BK159 := n1_
          have HB := n2_
          clear n0_ n1_ n2_
          obtain ⟨Ao25, co25, eo25⟩ := Kd.S_slice HO_4.out
          (first | subst eo25 | (injection eo25 with f1_ f2_ f3_; have f4_ := f1_.symm; have f5_ := f3_.symm; clear f1_ f2_ f3_; subst f4_; subst f5_))
          have p170 : 0 ≤ (0 : Int) := (by omega)
          have q170 : 0 < (t160.length : Int) := of_decide_eq_true (by first | (with_reducible assumption) | assumption)
          obtain ⟨ad170, A170_0, c170_0, e170, hx170_0, hl170_0, hi170_0⟩ := at_L1 (Kd.S_reads' HO_4.out).2.2 0 p170 q170
          cases e170
          obtain ⟨ce170, hce170, hMe170, hcc170⟩ := Kd.S_get HO_4.out [] 0 p170 (by first | exact q170 | exact of_decide_eq_true (by first | (with_reducible assumption) | assumption) | (have e_ := (Kd.S_reads' HO_4.out).1; omega))
          obtain ⟨ve170_0, rfl, ge170_0⟩ := hMe170
          have hv170_0 := hcc170 0 _ rfl
          rw [Nat.add_zero, show ((Kd.slice 3 (Kd.int .i64))).sz = 1 from rfl, Nat.mul_one] at hv170_0
          replace hv170_0 := Option.some.inj (hv170_0.symm.trans hx170_0)
          rw [hv170_0] at ge170_0
          have HL170_0 := zqi (show Kd.R (Kd.int .i64) 3 _ _ _ _ (rd_L1 t160 0) from ge170_0)
          clear hv170_0 ge170_0
          clear hcc170 hce170
          have qi170 : (0 < t160.length) = True := eq_true (by omega)
          (try rw [show ((0 : Int)).toNat = 0 from rfl] at hx170_0)
          (try rw [Addr.add_zero'] at hx170_0)
          have HR170_0 := zqi hi170_0
          have HC170_0 := zqi hl170_0
          clear hi170_0 hl170_0
          replace p170 := eq_true p170
          replace q170 := eq_true q170
          have p171 : 0 ≤ (0 : Int) := (by omega)
          have q171 : 0 < ((rd_L1 t160 0).length : Int) := of_decide_eq_true (by first | (with_reducible assumption) | assumption)
          obtain ⟨ad171, e171, hx171_0⟩ := Kd.at_int (by repeat (first | (with_reducible exact HR170_0.out) | (with_reducible refine Kd.C_alloc ?_ _) | (with_reducible refine Kd.C_drewN ?_ _) | (with_reducible refine Kd.C_drew ?_) | exact HR170_0.out)) 0 p171 q171
          cases e171
          have qi171 : (0 < (rd_L1 t160 0).length) = True := eq_true (by omega)
          (try rw [show ((0 : Int)).toNat = 0 from rfl] at hx171_0)
          (try rw [Addr.add_zero'] at hx171_0)
          replace p171 := eq_true p171
          replace q171 := eq_true q171
          have p172 : 0 ≤ (0 : Int) := (by omega)
          have q172 : 0 < (t160.length : Int) := of_decide_eq_true (by first | (with_reducible assumption) | assumption)
          obtain ⟨ad172, A172_0, c172_0, e172, hx172_0, hl172_0, hi172_0⟩ := at_L1 (Kd.S_reads' HO_4.out).2.2 0 p172 q172
          obtain rfl : ad170 = ad172 := (by injection e172)
          obtain ⟨ce172, hce172, hMe172, hcc172⟩ := Kd.S_get HO_4.out [] 0 p172 (by first | exact q172 | exact of_decide_eq_true (by first | (with_reducible assumption) | assumption) | (have e_ := (Kd.S_reads' HO_4.out).1; omega))
          obtain ⟨ve172_0, rfl, ge172_0⟩ := hMe172
          have hv172_0 := hcc172 0 _ rfl
          rw [Nat.add_zero, show ((Kd.slice 3 (Kd.int .i64))).sz = 1 from rfl, Nat.mul_one] at hv172_0
          replace hv172_0 := Option.some.inj (hv172_0.symm.trans hx172_0)
          rw [hv172_0] at ge172_0
          have HL172_0 := zqi (show Kd.R (Kd.int .i64) 3 _ _ _ _ (rd_L1 t160 0) from ge172_0)
          clear hv172_0 ge172_0
          clear hcc172 hce172
          have qi172 : (0 < t160.length) = True := eq_true (by omega)
          (try rw [show ((0 : Int)).toNat = 0 from rfl] at hx172_0)
          (try rw [Addr.add_zero'] at hx172_0)
          have HR172_0 := zqi hi172_0
          have HC172_0 := zqi hl172_0
          clear hi172_0 hl172_0
          replace p172 := eq_true p172
          replace q172 := eq_true q172
          have ea_ := Option.some.inj (hx170_0.symm.trans hx172_0)
          injection ea_ with ea_ en_ ec_
          subst ea_
          subst ec_
          clear en_
          have p173 : 0 ≤ (1 : Int) := (by omega)
          have q173 : 1 < ((rd_L1 t160 0).length : Int) := of_decide_eq_true (by first | (with_reducible assumption) | assumption)
          obtain ⟨ad173, e173, hx173_0⟩ := Kd.at_int (by repeat (first | (with_reducible exact HR172_0.out) | (with_reducible refine Kd.C_alloc ?_ _) | (with_reducible refine Kd.C_drewN ?_ _) | (with_reducible refine Kd.C_drew ?_) | exact HR172_0.out)) 1 p173 q173
          cases e173
          (try simp only [show (1 : Int).toNat = 1 from rfl, Nat.reduceMul, Nat.reduceEqDiff, Go.Addr.add, ↓reduceIte] at hx173_0)
          have qi173 : (1 < (rd_L1 t160 0).length) = True := eq_true (by omega)
          (try rw [show ((1 : Int)).toNat = 1 from rfl] at hx173_0)
          replace p173 := eq_true p173
          replace q173 := eq_true q173
          have p174 : 0 ≤ (0 : Int) := (by omega)
          have q174 : 0 < (t160.length : Int) := of_decide_eq_true (by first | (with_reducible assumption) | assumption)
          obtain ⟨ad174, A174_0, c174_0, e174, hx174_0, hl174_0, hi174_0⟩ := at_L1 (Kd.S_reads' HO_4.out).2.2 0 p174 q174
          obtain rfl : ad170 = ad174 := (by injection e174)
          obtain ⟨ce174, hce174, hMe174, hcc174⟩ := Kd.S_get HO_4.out [] 0 p174 (by first | exact q174 | exact of_decide_eq_true (by first | (with_reducible assumption) | assumption) | (have e_ := (Kd.S_reads' HO_4.out).1; omega))
          obtain ⟨ve174_0, rfl, ge174_0⟩ := hMe174
          have hv174_0 := hcc174 0 _ rfl
          rw [Nat.add_zero, show ((Kd.slice 3 (Kd.int .i64))).sz = 1 from rfl, Nat.mul_one] at hv174_0
          replace hv174_0 := Option.some.inj (hv174_0.symm.trans hx174_0)
          rw [hv174_0] at ge174_0
          have HL174_0 := zqi (show Kd.R (Kd.int .i64) 3 _ _ _ _ (rd_L1 t160 0) from ge174_0)
          clear hv174_0 ge174_0
          clear hcc174 hce174
          have qi174 : (0 < t160.length) = True := eq_true (by omega)
          (try rw [show ((0 : Int)).toNat = 0 from rfl] at hx174_0)
          (try rw [Addr.add_zero'] at hx174_0)
          have HR174_0 := zqi hi174_0
          have HC174_0 := zqi hl174_0
          clear hi174_0 hl174_0
          replace p174 := eq_true p174
          replace q174 := eq_true q174
          have ea_ := Option.some.inj (hx170_0.symm.trans hx174_0)
          injection ea_ with ea_ en_ ec_
          subst ea_
          subst ec_
          clear en_
          have p175 : 0 ≤ (2 : Int) := (by omega)
          have q175 : 2 < ((rd_L1 t160 0).length : Int) := of_decide_eq_true (by first | (with_reducible assumption) | assumption)
          obtain ⟨ad175, e175, hx175_0⟩ := Kd.at_int (by repeat (first | (with_reducible exact HR174_0.out) | (with_reducible refine Kd.C_alloc ?_ _) | (with_reducible refine Kd.C_drewN ?_ _) | (with_reducible refine Kd.C_drew ?_) | exact HR174_0.out)) 2 p175 q175
          cases e175
          (try simp only [show (2 : Int).toNat = 2 from rfl, Nat.reduceMul, Nat.reduceEqDiff, Go.Addr.add, ↓reduceIte] at hx175_0)
          have qi175 : (2 < (rd_L1 t160 0).length) = True := eq_true (by omega)
          (try rw [show ((2 : Int)).toNat = 2 from rfl] at hx175_0)
          replace p175 := eq_true p175
          replace q175 := eq_true q175
          refine start_ (n := 18) (S := fun w' => w'.cell? ad170 = some (.slice (some ad171) (rd_L1 t160 0).length c170_0) ∧ w'.cell? ad171 = some (.int .i64 (rd (rd_L1 t160 0) 0)) ∧ w'.cell? ad170 = some (.slice (some ad171) (rd_L1 t160 0).length c170_0) ∧ w'.cell? ⟨ad171.block, ad171.off + 1, none⟩ = some (.int .i64 (rd (rd_L1 t160 0) 1)) ∧ w'.cell? ad170 = some (.slice (some ad171) (rd_L1 t160 0).length c170_0) ∧ w'.cell? ⟨ad171.block, ad171.off + 2, none⟩ = some (.int .i64 (rd (rd_L1 t160 0) 2))) (ds := []) (zqB 18 0) (by kernel_rfl) rfl rfl ⟨hx170_0, hx171_0, hx172_0, hx173_0, hx174_0, hx175_0⟩ (fun hHeld => ?_); refine with_tabW inst_Parse.tab7 inst_Parse.bits7 (fun HT_ HW_ => ?_)
          generalize wc.drew = w24 at HO_4 BK159 HB HL170_0 HL172_0 HL174_0 HR170_0 HR172_0 HR174_0 hx170_0 hx171_0 hx172_0 hx173_0 hx174_0 hx175_0 hHeld ⊢
          refine zqp 0 (some 36) (zqB 18 1) (any_of HT_.out (by kernel_rfl)) (h := ?_)
          refine zqp 1 (some 37) (zqB 18 3) (any_of HT_.out (by kernel_rfl)) (h := ?_)
          refine zqp 5 (some 41) (zqB 18 35) (any_of HT_.out (by kernel_rfl)) (h := ?_)
          refine zqp 6 (some 42) (zqB 18 99) (any_of HT_.out (by kernel_rfl)) (h := ?_)
          refine zqp 10 (some 46) (zqB 18 1123) (any_of HT_.out (by kernel_rfl)) (h := ?_)
          refine zqp 11 (some 47) (zqB 18 3171) (any_of HT_.out (by kernel_rfl)) (h := ?_)
          refine zqt 2 (some 38) (zqB 18 3175) (take_ofW HT_.out HW_.out (by kernel_rfl)) hHeld (h := ?_)
          refine zqp 3 (some 39) (zqB 18 3183) (any_of HT_.out (by kernel_rfl)) (h := ?_)
          refine zqt 4 (some 40) (zqB 18 3199) (take_ofW HT_.out HW_.out (by kernel_rfl)) hHeld (h := ?_)
          refine zqt 7 (some 43) (zqB 18 3327) (take_ofW HT_.out HW_.out (by kernel_rfl)) hHeld (h := ?_)
          refine zqp 8 (some 44) (zqB 18 3583) (any_of HT_.out (by kernel_rfl)) (h := ?_)
          refine zqt 9 (some 45) (zqB 18 4095) (take_ofW HT_.out HW_.out (by kernel_rfl)) hHeld (h := ?_)
          refine zqt 12 (some 48) (zqB 18 8191) (take_ofW HT_.out HW_.out (by kernel_rfl)) hHeld (h := ?_)
          refine zqp 13 (some 49) (zqB 18 16383) (any_of HT_.out (by kernel_rfl)) (h := ?_)
          refine zqt 14 (some 50) (zqB 18 32767) (take_ofW HT_.out HW_.out (by kernel_rfl)) hHeld (h := ?_)
          refine zqp 15 (some 51) (zqB 18 65535) (any_of HT_.out (by kernel_rfl)) (h := ?_)
          refine one_ (i := 16) (N := some 7) (zqB 18 131071) rfl rfl (one_of HT_.out (by kernel_rfl)) (by decide) (fun K hK => ?_)
          refine box_step ?hg (N := 7) ?hd (cs := #[.int .i64 0, .int .i64 0, .int .i64 0, .slice none 0 0]) (t := 39) ?hr ?_; (case hd => rfl); (case hg => rfl); (case hr => first | (go_simp; done) | (go_simp; rfl))
          intro gb176 hg w26 hbox hb
          have HS0_ := (hb.cell (World.block_lt_of_cell? _ _ (hHeld.1))).trans (hHeld.1)
          have HS1_ := (hb.cell (World.block_lt_of_cell? _ _ (hHeld.2.1))).trans (hHeld.2.1)
          have HS2_ := (hb.cell (World.block_lt_of_cell? _ _ (hHeld.2.2.1))).trans (hHeld.2.2.1)
          have HS3_ := (hb.cell (World.block_lt_of_cell? _ _ (hHeld.2.2.2.1))).trans (hHeld.2.2.2.1)
          have HS4_ := (hb.cell (World.block_lt_of_cell? _ _ (hHeld.2.2.2.2.1))).trans (hHeld.2.2.2.2.1)
          have HS5_ := (hb.cell (World.block_lt_of_cell? _ _ (hHeld.2.2.2.2.2))).trans (hHeld.2.2.2.2.2)
          have n0_ := zqi (Kd.S_below (by (with_reducible repeat (first | apply Kd.S_alloc | apply Kd.S_drewN | apply Kd.S_drew)); exact HO_4.out) hb)
          have n1_ := zqi (Kd.R_below (by (with_reducible repeat (first | apply Kd.R_alloc | apply Kd.R_drewN | apply Kd.R_drew)); exact HL170_0.out) hb)
          have n2_ := zqi (Kd.R_below (by (with_reducible repeat (first | apply Kd.R_alloc | apply Kd.R_drewN | apply Kd.R_drew)); exact HL172_0.out) hb)
          have n3_ := zqi (Kd.R_below (by (with_reducible repeat (first | apply Kd.R_alloc | apply Kd.R_drewN | apply Kd.R_drew)); exact HL174_0.out) hb)
          have n4_ := zqi (zqy BK159.out hb)
          have n5_ := zqi (Kd.C_below (by repeat (first | (with_reducible exact HR170_0.out) | (with_reducible refine Kd.C_alloc ?_ _) | (with_reducible refine Kd.C_drewN ?_ _) | (with_reducible refine Kd.C_drew ?_) | exact HR170_0.out)) hb)
          have n6_ := zqi (Kd.C_below (by repeat (first | (with_reducible exact HR172_0.out) | (with_reducible refine Kd.C_alloc ?_ _) | (with_reducible refine Kd.C_drewN ?_ _) | (with_reducible refine Kd.C_drew ?_) | exact HR172_0.out)) hb)
          have n7_ := zqi (Kd.C_below (by repeat (first | (with_reducible exact HR174_0.out) | (with_reducible refine Kd.C_alloc ?_ _) | (with_reducible refine Kd.C_drewN ?_ _) | (with_reducible refine Kd.C_drew ?_) | exact HR174_0.out)) hb)
          have n8_ := zqi (below_step (zqn HB.out) hb)
          have n9_ := zqi (hbox)
          have n10_ := zqi (zqo hg HB.out)
          have n11_ := zqi (zqo hg HB.out)
          have n12_ := zqi ((zqq hg BK159.out))
          have n13_ := zqi ((zqr hg BK159.out))
          clear HO_4
          clear HL170_0
          clear HL172_0
          clear HL174_0
          clear BK159
          clear HR170_0
          clear HR172_0
          clear HR174_0
          clear HB
          have HO_4 := n0_
          have HL170_0 := n1_
          have HL172_0 := n2_
          have HL174_0 := n3_
          have BK159 := n4_
          have HR170_0 := n5_
          have HR172_0 := n6_
          have HR174_0 := n7_
          have HB := n8_
          have BK176 := n9_
          have GW176 := n10_
          have GE176 := n11_
          have NB159_176 := n12_
          have NB176_159 := n13_
          clear n0_ n1_ n2_ n3_ n4_ n5_ n6_ n7_ n8_ n9_ n10_ n11_ n12_ n13_
          clear hb hbox hg
          refine hK.out _ _ ⟨HS0_, HS1_, HS2_, HS3_, HS4_, HS5_⟩ (fun hHeld => ?_)
          clear hK K
          refine norm_ (a' := ?_) ?_ ?_
          rotate_left
          ·
           show Act.put _ (some 7) _ = _
           simp only [Act.put, List.setIfInBounds_toArray, List.set_cons_zero, List.set_cons_succ, i64_w, i32_w]
           rfl
          refine one_ (i := 17) (N := none) (zqB 18 262143) rfl rfl (one_of HT_.out (by kernel_rfl)) (by decide) (fun K hK => ?_)
          have hs27 : w26.cell? ⟨gb176, 0, none⟩ = some (.int .i64 0) := (zqe BK176.out 0).trans rfl
          have hfs27 := zqd BK176.out 0
          have hns27_0 := NB159_176.out
          have hms27_0 := NB176_159.out
          have hs28 : w26.cell? ⟨gb176, 1, none⟩ = some (.int .i64 0) := (zqe BK176.out 1).trans rfl
          have hfs28 := zqd BK176.out 1
          have hns28_0 := NB159_176.out
          have hms28_0 := NB176_159.out
          have hs29 : w26.cell? ⟨gb176, 2, none⟩ = some (.int .i64 0) := (zqe BK176.out 2).trans rfl
          have hfs29 := zqd BK176.out 2
          have hns29_0 := NB159_176.out
          have hms29_0 := NB176_159.out
          have hs30 : w26.cell? ⟨gb176, 3, none⟩ = some (.slice none 0 0) := (zqe BK176.out 3).trans rfl
          have hfs30 := zqd BK176.out 3
          have hns30_0 := NB159_176.out
          have hms30_0 := NB176_159.out
          refine skip_ (w1 := ?_) (by rfl) rfl ?_ ?_
          rotate_left
          ·
           go_simp
           rfl
          refine hK.out _ _ ⟨((zqk (by first | exact Kd.own_blk (Kd.S_ne HO_4.out BK176.out (by decide)) | (rw [add_block]; exact Kd.own_blk (Kd.S_ne HO_4.out BK176.out (by decide))) | (show (Addr.add _ _).block ≠ _; rw [add_block]; exact Kd.own_blk (Kd.S_ne HO_4.out BK176.out (by decide))) | (dsimp only; exact Kd.own_blk (Kd.S_ne HO_4.out BK176.out (by decide))))).trans (((zqk (by first | exact Kd.own_blk (Kd.S_ne HO_4.out BK176.out (by decide)) | (rw [add_block]; exact Kd.own_blk (Kd.S_ne HO_4.out BK176.out (by decide))) | (show (Addr.add _ _).block ≠ _; rw [add_block]; exact Kd.own_blk (Kd.S_ne HO_4.out BK176.out (by decide))) | (dsimp only; exact Kd.own_blk (Kd.S_ne HO_4.out BK176.out (by decide))))).trans (((zqk (by first | exact Kd.own_blk (Kd.S_ne HO_4.out BK176.out (by decide)) | (rw [add_block]; exact Kd.own_blk (Kd.S_ne HO_4.out BK176.out (by decide))) | (show (Addr.add _ _).block ≠ _; rw [add_block]; exact Kd.own_blk (Kd.S_ne HO_4.out BK176.out (by decide))) | (dsimp only; exact Kd.own_blk (Kd.S_ne HO_4.out BK176.out (by decide))))).trans (((zqk (by first | exact Kd.own_blk (Kd.S_ne HO_4.out BK176.out (by decide)) | (rw [add_block]; exact Kd.own_blk (Kd.S_ne HO_4.out BK176.out (by decide))) | (show (Addr.add _ _).block ≠ _; rw [add_block]; exact Kd.own_blk (Kd.S_ne HO_4.out BK176.out (by decide))) | (dsimp only; exact Kd.own_blk (Kd.S_ne HO_4.out BK176.out (by decide))))).trans (hHeld.1)))))))), ((zqk (by first | exact Kd.own_blk (Kd.R_ne HL170_0.out BK176.out (by decide)) | (rw [add_block]; exact Kd.own_blk (Kd.R_ne HL170_0.out BK176.out (by decide))) | (show (Addr.add _ _).block ≠ _; rw [add_block]; exact Kd.own_blk (Kd.R_ne HL170_0.out BK176.out (by decide))) | (dsimp only; exact Kd.own_blk (Kd.R_ne HL170_0.out BK176.out (by decide))))).trans (((zqk (by first | exact Kd.own_blk (Kd.R_ne HL170_0.out BK176.out (by decide)) | (rw [add_block]; exact Kd.own_blk (Kd.R_ne HL170_0.out BK176.out (by decide))) | (show (Addr.add _ _).block ≠ _; rw [add_block]; exact Kd.own_blk (Kd.R_ne HL170_0.out BK176.out (by decide))) | (dsimp only; exact Kd.own_blk (Kd.R_ne HL170_0.out BK176.out (by decide))))).trans (((zqk (by first | exact Kd.own_blk (Kd.R_ne HL170_0.out BK176.out (by decide)) | (rw [add_block]; exact Kd.own_blk (Kd.R_ne HL170_0.out BK176.out (by decide))) | (show (Addr.add _ _).block ≠ _; rw [add_block]; exact Kd.own_blk (Kd.R_ne HL170_0.out BK176.out (by decide))) | (dsimp only; exact Kd.own_blk (Kd.R_ne HL170_0.out BK176.out (by decide))))).trans (((zqk (by first | exact Kd.own_blk (Kd.R_ne HL170_0.out BK176.out (by decide)) | (rw [add_block]; exact Kd.own_blk (Kd.R_ne HL170_0.out BK176.out (by decide))) | (show (Addr.add _ _).block ≠ _; rw [add_block]; exact Kd.own_blk (Kd.R_ne HL170_0.out BK176.out (by decide))) | (dsimp only; exact Kd.own_blk (Kd.R_ne HL170_0.out BK176.out (by decide))))).trans (hHeld.2.1)))))))), ((zqk (by first | exact Kd.own_blk (Kd.S_ne HO_4.out BK176.out (by decide)) | (rw [add_block]; exact Kd.own_blk (Kd.S_ne HO_4.out BK176.out (by decide))) | (show (Addr.add _ _).block ≠ _; rw [add_block]; exact Kd.own_blk (Kd.S_ne HO_4.out BK176.out (by decide))) | (dsimp only; exact Kd.own_blk (Kd.S_ne HO_4.out BK176.out (by decide))))).trans (((zqk (by first | exact Kd.own_blk (Kd.S_ne HO_4.out BK176.out (by decide)) | (rw [add_block]; exact Kd.own_blk (Kd.S_ne HO_4.out BK176.out (by decide))) | (show (Addr.add _ _).block ≠ _; rw [add_block]; exact Kd.own_blk (Kd.S_ne HO_4.out BK176.out (by decide))) | (dsimp only; exact Kd.own_blk (Kd.S_ne HO_4.out BK176.out (by decide))))).trans (((zqk (by first | exact Kd.own_blk (Kd.S_ne HO_4.out BK176.out (by decide)) | (rw [add_block]; exact Kd.own_blk (Kd.S_ne HO_4.out BK176.out (by decide))) | (show (Addr.add _ _).block ≠ _; rw [add_block]; exact Kd.own_blk (Kd.S_ne HO_4.out BK176.out (by decide))) | (dsimp only; exact Kd.own_blk (Kd.S_ne HO_4.out BK176.out (by decide))))).trans (((zqk (by first | exact Kd.own_blk (Kd.S_ne HO_4.out BK176.out (by decide)) | (rw [add_block]; exact Kd.own_blk (Kd.S_ne HO_4.out BK176.out (by decide))) | (show (Addr.add _ _).block ≠ _; rw [add_block]; exact Kd.own_blk (Kd.S_ne HO_4.out BK176.out (by decide))) | (dsimp only; exact Kd.own_blk (Kd.S_ne HO_4.out BK176.out (by decide))))).trans (hHeld.2.2.1)))))))), ((zqk (by first | exact Kd.own_blk (Kd.R_ne HL172_0.out BK176.out (by decide)) | (rw [add_block]; exact Kd.own_blk (Kd.R_ne HL172_0.out BK176.out (by decide))) | (show (Addr.add _ _).block ≠ _; rw [add_block]; exact Kd.own_blk (Kd.R_ne HL172_0.out BK176.out (by decide))) | (dsimp only; exact Kd.own_blk (Kd.R_ne HL172_0.out BK176.out (by decide))))).trans (((zqk (by first | exact Kd.own_blk (Kd.R_ne HL172_0.out BK176.out (by decide)) | (rw [add_block]; exact Kd.own_blk (Kd.R_ne HL172_0.out BK176.out (by decide))) | (show (Addr.add _ _).block ≠ _; rw [add_block]; exact Kd.own_blk (Kd.R_ne HL172_0.out BK176.out (by decide))) | (dsimp only; exact Kd.own_blk (Kd.R_ne HL172_0.out BK176.out (by decide))))).trans (((zqk (by first | exact Kd.own_blk (Kd.R_ne HL172_0.out BK176.out (by decide)) | (rw [add_block]; exact Kd.own_blk (Kd.R_ne HL172_0.out BK176.out (by decide))) | (show (Addr.add _ _).block ≠ _; rw [add_block]; exact Kd.own_blk (Kd.R_ne HL172_0.out BK176.out (by decide))) | (dsimp only; exact Kd.own_blk (Kd.R_ne HL172_0.out BK176.out (by decide))))).trans (((zqk (by first | exact Kd.own_blk (Kd.R_ne HL172_0.out BK176.out (by decide)) | (rw [add_block]; exact Kd.own_blk (Kd.R_ne HL172_0.out BK176.out (by decide))) | (show (Addr.add _ _).block ≠ _; rw [add_block]; exact Kd.own_blk (Kd.R_ne HL172_0.out BK176.out (by decide))) | (dsimp only; exact Kd.own_blk (Kd.R_ne HL172_0.out BK176.out (by decide))))).trans (hHeld.2.2.2.1)))))))), ((zqk (by first | exact Kd.own_blk (Kd.S_ne HO_4.out BK176.out (by decide)) | (rw [add_block]; exact Kd.own_blk (Kd.S_ne HO_4.out BK176.out (by decide))) | (show (Addr.add _ _).block ≠ _; rw [add_block]; exact Kd.own_blk (Kd.S_ne HO_4.out BK176.out (by decide))) | (dsimp only; exact Kd.own_blk (Kd.S_ne HO_4.out BK176.out (by decide))))).trans (((zqk (by first | exact Kd.own_blk (Kd.S_ne HO_4.out BK176.out (by decide)) | (rw [add_block]; exact Kd.own_blk (Kd.S_ne HO_4.out BK176.out (by decide))) | (show (Addr.add _ _).block ≠ _; rw [add_block]; exact Kd.own_blk (Kd.S_ne HO_4.out BK176.out (by decide))) | (dsimp only; exact Kd.own_blk (Kd.S_ne HO_4.out BK176.out (by decide))))).trans (((zqk (by first | exact Kd.own_blk (Kd.S_ne HO_4.out BK176.out (by decide)) | (rw [add_block]; exact Kd.own_blk (Kd.S_ne HO_4.out BK176.out (by decide))) | (show (Addr.add _ _).block ≠ _; rw [add_block]; exact Kd.own_blk (Kd.S_ne HO_4.out BK176.out (by decide))) | (dsimp only; exact Kd.own_blk (Kd.S_ne HO_4.out BK176.out (by decide))))).trans (((zqk (by first | exact Kd.own_blk (Kd.S_ne HO_4.out BK176.out (by decide)) | (rw [add_block]; exact Kd.own_blk (Kd.S_ne HO_4.out BK176.out (by decide))) | (show (Addr.add _ _).block ≠ _; rw [add_block]; exact Kd.own_blk (Kd.S_ne HO_4.out BK176.out (by decide))) | (dsimp only; exact Kd.own_blk (Kd.S_ne HO_4.out BK176.out (by decide))))).trans (hHeld.2.2.2.2.1)))))))), ((zqk (by first | exact Kd.own_blk (Kd.R_ne HL174_0.out BK176.out (by decide)) | (rw [add_block]; exact Kd.own_blk (Kd.R_ne HL174_0.out BK176.out (by decide))) | (show (Addr.add _ _).block ≠ _; rw [add_block]; exact Kd.own_blk (Kd.R_ne HL174_0.out BK176.out (by decide))) | (dsimp only; exact Kd.own_blk (Kd.R_ne HL174_0.out BK176.out (by decide))))).trans (((zqk (by first | exact Kd.own_blk (Kd.R_ne HL174_0.out BK176.out (by decide)) | (rw [add_block]; exact Kd.own_blk (Kd.R_ne HL174_0.out BK176.out (by decide))) | (show (Addr.add _ _).block ≠ _; rw [add_block]; exact Kd.own_blk (Kd.R_ne HL174_0.out BK176.out (by decide))) | (dsimp only; exact Kd.own_blk (Kd.R_ne HL174_0.out BK176.out (by decide))))).trans (((zqk (by first | exact Kd.own_blk (Kd.R_ne HL174_0.out BK176.out (by decide)) | (rw [add_block]; exact Kd.own_blk (Kd.R_ne HL174_0.out BK176.out (by decide))) | (show (Addr.add _ _).block ≠ _; rw [add_block]; exact Kd.own_blk (Kd.R_ne HL174_0.out BK176.out (by decide))) | (dsimp only; exact Kd.own_blk (Kd.R_ne HL174_0.out BK176.out (by decide))))).trans (((zqk (by first | exact Kd.own_blk (Kd.R_ne HL174_0.out BK176.out (by decide)) | (rw [add_block]; exact Kd.own_blk (Kd.R_ne HL174_0.out BK176.out (by decide))) | (show (Addr.add _ _).block ≠ _; rw [add_block]; exact Kd.own_blk (Kd.R_ne HL174_0.out BK176.out (by decide))) | (dsimp only; exact Kd.own_blk (Kd.R_ne HL174_0.out BK176.out (by decide))))).trans (hHeld.2.2.2.2.2))))))))⟩ (fun hHeld => ?_)
          clear hK K
          refine done_ (done_of HT_.out (by kernel_rfl)) ?_
          have n0_ : Aside0 (Kd.S (Kd.slice 3 (Kd.int .i64)) 36 ((((w26.setCell ⟨gb176, 0, none⟩ (.int .i64 (rd (rd_L1 t160 0) 0))).setCell ⟨gb176, 1, none⟩ (.int .i64 (rd (rd_L1 t160 0) 1))).setCell ⟨gb176, 2, none⟩ (.int .i64 (rd (rd_L1 t160 0) 2))).setCell ⟨gb176, 3, none⟩ (.slice none 0 0)) w.heap.size (fun _ => True) (.slice (some ad170) t160.length co25) t160) := ⟨by (with_reducible repeat (first | apply Kd.S_alloc | apply Kd.S_drewN | apply Kd.S_drew)); exact Kd.S_mono (Kd.S_far (p := ⟨gb176, 3, none⟩) (Kd.S_far (p := ⟨gb176, 2, none⟩) (Kd.S_far (p := ⟨gb176, 1, none⟩) (Kd.S_far (p := ⟨gb176, 0, none⟩) (Kd.S_types HO_4.out BK176.out (by decide)) (fun _ hk => hk.2) (.int .i64 (rd (rd_L1 t160 0) 0))) (fun _ hk => hk.2) (.int .i64 (rd (rd_L1 t160 0) 1))) (fun _ hk => hk.2) (.int .i64 (rd (rd_L1 t160 0) 2))) (fun _ hk => hk.2) (.slice none 0 0)) (fun _ hk => trivial)⟩
          have n1_ : Aside0 (Kd.R (Kd.int .i64) 3 ((((w26.setCell ⟨gb176, 0, none⟩ (.int .i64 (rd (rd_L1 t160 0) 0))).setCell ⟨gb176, 1, none⟩ (.int .i64 (rd (rd_L1 t160 0) 1))).setCell ⟨gb176, 2, none⟩ (.int .i64 (rd (rd_L1 t160 0) 2))).setCell ⟨gb176, 3, none⟩ (.slice none 0 0)) w.heap.size (fun k_ => some k_ ≠ (.slice (some ad170) t160.length co25 : Value).ownBlock) (.slice (some ad171) (rd_L1 t160 0).length c170_0) (rd_L1 t160 0)) := ⟨by (with_reducible repeat (first | apply Kd.R_alloc | apply Kd.R_drewN | apply Kd.R_drew)); exact Kd.R_mono (Kd.R_far (p := ⟨gb176, 3, none⟩) (Kd.R_far (p := ⟨gb176, 2, none⟩) (Kd.R_far (p := ⟨gb176, 1, none⟩) (Kd.R_far (p := ⟨gb176, 0, none⟩) (Kd.R_types HL170_0.out BK176.out (by decide)) (fun _ hk => hk.2) (.int .i64 (rd (rd_L1 t160 0) 0))) (fun _ hk => hk.2) (.int .i64 (rd (rd_L1 t160 0) 1))) (fun _ hk => hk.2) (.int .i64 (rd (rd_L1 t160 0) 2))) (fun _ hk => hk.2) (.slice none 0 0)) (fun _ hk => hk.1.2)⟩
          have n2_ : Aside0 (Kd.R (Kd.int .i64) 3 ((((w26.setCell ⟨gb176, 0, none⟩ (.int .i64 (rd (rd_L1 t160 0) 0))).setCell ⟨gb176, 1, none⟩ (.int .i64 (rd (rd_L1 t160 0) 1))).setCell ⟨gb176, 2, none⟩ (.int .i64 (rd (rd_L1 t160 0) 2))).setCell ⟨gb176, 3, none⟩ (.slice none 0 0)) w.heap.size (fun k_ => some k_ ≠ (.slice (some ad170) t160.length co25 : Value).ownBlock) (.slice (some ad171) (rd_L1 t160 0).length c170_0) (rd_L1 t160 0)) := ⟨by (with_reducible repeat (first | apply Kd.R_alloc | apply Kd.R_drewN | apply Kd.R_drew)); exact Kd.R_mono (Kd.R_far (p := ⟨gb176, 3, none⟩) (Kd.R_far (p := ⟨gb176, 2, none⟩) (Kd.R_far (p := ⟨gb176, 1, none⟩) (Kd.R_far (p := ⟨gb176, 0, none⟩) (Kd.R_types HL172_0.out BK176.out (by decide)) (fun _ hk => hk.2) (.int .i64 (rd (rd_L1 t160 0) 0))) (fun _ hk => hk.2) (.int .i64 (rd (rd_L1 t160 0) 1))) (fun _ hk => hk.2) (.int .i64 (rd (rd_L1 t160 0) 2))) (fun _ hk => hk.2) (.slice none 0 0)) (fun _ hk => hk.1.2)⟩
          have n3_ : Aside0 (Kd.R (Kd.int .i64) 3 ((((w26.setCell ⟨gb176, 0, none⟩ (.int .i64 (rd (rd_L1 t160 0) 0))).setCell ⟨gb176, 1, none⟩ (.int .i64 (rd (rd_L1 t160 0) 1))).setCell ⟨gb176, 2, none⟩ (.int .i64 (rd (rd_L1 t160 0) 2))).setCell ⟨gb176, 3, none⟩ (.slice none 0 0)) w.heap.size (fun k_ => some k_ ≠ (.slice (some ad170) t160.length co25 : Value).ownBlock) (.slice (some ad171) (rd_L1 t160 0).length c170_0) (rd_L1 t160 0)) := ⟨by (with_reducible repeat (first | apply Kd.R_alloc | apply Kd.R_drewN | apply Kd.R_drew)); exact Kd.R_mono (Kd.R_far (p := ⟨gb176, 3, none⟩) (Kd.R_far (p := ⟨gb176, 2, none⟩) (Kd.R_far (p := ⟨gb176, 1, none⟩) (Kd.R_far (p := ⟨gb176, 0, none⟩) (Kd.R_types HL174_0.out BK176.out (by decide)) (fun _ hk => hk.2) (.int .i64 (rd (rd_L1 t160 0) 0))) (fun _ hk => hk.2) (.int .i64 (rd (rd_L1 t160 0) 1))) (fun _ hk => hk.2) (.int .i64 (rd (rd_L1 t160 0) 2))) (fun _ hk => hk.2) (.slice none 0 0)) (fun _ hk => hk.1.2)⟩
          have n4_ : Aside0 (((((w26.setCell ⟨gb176, 0, none⟩ (.int .i64 (rd (rd_L1 t160 0) 0))).setCell ⟨gb176, 1, none⟩ (.int .i64 (rd (rd_L1 t160 0) 1))).setCell ⟨gb176, 2, none⟩ (.int .i64 (rd (rd_L1 t160 0) 2))).setCell ⟨gb176, 3, none⟩ (.slice none 0 0)).heap[gb159]? = some (.cells #[.int .i64 0, .int .i64 0, .int .i64 0, .slice none 0 0] 39 (0, 0))) := ⟨by (with_reducible repeat (first | apply zqa | apply zqb | apply zqc)); refine blk_far ?_ NB159_176.out _; (with_reducible repeat (first | apply zqa | apply zqb | apply zqc)); refine blk_far ?_ NB159_176.out _; (with_reducible repeat (first | apply zqa | apply zqb | apply zqc)); refine blk_far ?_ NB159_176.out _; (with_reducible repeat (first | apply zqa | apply zqb | apply zqc)); refine blk_far ?_ NB159_176.out _; (with_reducible repeat (first | apply zqa | apply zqb | apply zqc)); exact BK159.out⟩
          have n5_ : Aside0 (((((w26.setCell ⟨gb176, 0, none⟩ (.int .i64 (rd (rd_L1 t160 0) 0))).setCell ⟨gb176, 1, none⟩ (.int .i64 (rd (rd_L1 t160 0) 1))).setCell ⟨gb176, 2, none⟩ (.int .i64 (rd (rd_L1 t160 0) 2))).setCell ⟨gb176, 3, none⟩ (.slice none 0 0)).heap[gb176]? = some (.cells #[.int .i64 (rd (rd_L1 t160 0) 0), .int .i64 (rd (rd_L1 t160 0) 1), .int .i64 (rd (rd_L1 t160 0) 2), .slice none 0 0] 39 (0, 0))) := ⟨by (with_reducible repeat (first | apply zqa | apply zqb | apply zqc)); refine blk_put (cs := #[.int .i64 (rd (rd_L1 t160 0) 0), .int .i64 (rd (rd_L1 t160 0) 1), .int .i64 (rd (rd_L1 t160 0) 2), .slice none 0 0]) ?_ 3 _ rfl; (with_reducible repeat (first | apply zqa | apply zqb | apply zqc)); refine blk_put (cs := #[.int .i64 (rd (rd_L1 t160 0) 0), .int .i64 (rd (rd_L1 t160 0) 1), .int .i64 0, .slice none 0 0]) ?_ 2 _ rfl; (with_reducible repeat (first | apply zqa | apply zqb | apply zqc)); refine blk_put (cs := #[.int .i64 (rd (rd_L1 t160 0) 0), .int .i64 0, .int .i64 0, .slice none 0 0]) ?_ 1 _ rfl; (with_reducible repeat (first | apply zqa | apply zqb | apply zqc)); refine blk_put (cs := #[.int .i64 0, .int .i64 0, .int .i64 0, .slice none 0 0]) ?_ 0 _ rfl; (with_reducible repeat (first | apply zqa | apply zqb | apply zqc)); exact BK176.out⟩
          have n6_ : Aside0 (Below w.heap.size w ((((w26.setCell ⟨gb176, 0, none⟩ (.int .i64 (rd (rd_L1 t160 0) 0))).setCell ⟨gb176, 1, none⟩ (.int .i64 (rd (rd_L1 t160 0) 1))).setCell ⟨gb176, 2, none⟩ (.int .i64 (rd (rd_L1 t160 0) 2))).setCell ⟨gb176, 3, none⟩ (.slice none 0 0))) := ⟨by repeat (first | (with_reducible first | exact HB.out | apply zqg | apply zqf | apply zqh | refine below_set ?_ GE159.out | refine below_set ?_ GE176.out) | exact HB.out)⟩
          (try clear HO_4)
          (try clear HL170_0)
          (try clear HL172_0)
          (try clear HL174_0)
          (try clear BK159)
          (try clear BK176)
          (try clear HB)
          generalize ((((w26.setCell ⟨gb176, 0, none⟩ (.int .i64 (rd (rd_L1 t160 0) 0))).setCell ⟨gb176, 1, none⟩ (.int .i64 (rd (rd_L1 t160 0) 1))).setCell ⟨gb176, 2, none⟩ (.int .i64 (rd (rd_L1 t160 0) 2))).setCell ⟨gb176, 3, none⟩ (.slice none 0 0)) = w31 at n0_ n1_ n2_ n3_ n4_ n5_ n6_ ⊢
          have HO_4 := n0_
          have HL170_0 := n1_
          have HL172_0 := n2_
          have HL174_0 := n3_
          have BK159 := n4_
          have BK176 := n5_
          have HB := n6_
          clear n0_ n1_ n2_ n3_ n4_ n5_ n6_
          have q32 : (1 : Int) ≤ ((t160.length : Int) : Int) := of_decide_eq_true (by first | (with_reducible assumption) | assumption)
          obtain ⟨i032, hi032, _, hsz32, _⟩ := info_parts info36
          have hroom32 : t160.length ≤ co25 := (Kd.S_reads' HO_4.out).2.1
          have hC32 : Kd.C (Kd.slice 3 (Kd.int .i64)) _ (some ad170) t160.length t160 := (Kd.S_reads' HO_4.out).2.2
          have hcut32 := cut_from (P := Tryd.prog) 22 36 .i64 Tryd.underlying22 hi032 1 hsz32 (some ad170) t160.length co25 1 (by omega) q32
          have hr32 := Kd.C_drop (m := (1 : Int).toNat) (c := co25) hC32 (by omega) hroom32
          obtain ⟨A32, hA32⟩ : ∃ A1, A1 = (if co25 = (1 : Int).toNat then (some ad170) else ((some ad170) : Option Addr).map (·.add ((1 : Int).toNat * 1))) := ⟨_, rfl⟩
          obtain ⟨c32, hc32⟩ : ∃ c1, c1 = co25 - (1 : Int).toNat := ⟨_, rfl⟩
          have hy32 : y177.length = t160.length - (1 : Int).toNat := (by rw [Ny177.out, List.length_drop] <;> omega)
          rw [show (t160).drop (1 : Int).toNat = y177 from Ny177.out.symm] at hr32
          replace hr32 : Kd.C (Kd.slice 3 (Kd.int .i64)) _ A32 y177.length y177 := (by rw [hA32]; exact hr32)
          rw [← hy32, ← hA32, ← hc32] at hcut32
          have HR180 := zqi hr32
          have HC180 := zqi (show y177.length ≤ c32 from by rw [hy32, hc32]; exact Nat.sub_le_sub_right hroom32 _)
          clear hr32 hC32 hroom32 hi032 hsz32 hc32
          have KY32 := zqi hy32
          have KA32 := zqi hA32
          clear hy32 hA32
          have KL32 := zqi (show 1 ≤ t160.length from by omega)
          have FR0 : Aside0 (Kd.F (Kd.slice 3 (Kd.int .i64)) w31 (fun k => (k ≠ gb159 ∧ k ≠ gb176) ∧ k < w31.heap.size) A32 y177.length y177) := ⟨by
           have f1 := Kd.S_F (Kd.S_types (Kd.S_types HO_4.out BK159.out (by decide)) BK176.out (by decide))
           have f2 := Kd.F_bound (Kd.F_cut (m := (1 : Int).toNat) (c := co25) f1 (by have := KL32.out; omega) (Kd.S_reads' HO_4.out).2.1)
           rw [show (t160).drop (1 : Int).toNat = y177 from Ny177.out.symm] at f2
           rw [KA32.out]
           exact Kd.F_mono f2 (fun k hk => ⟨⟨hk.1.1.2, hk.1.2⟩, hk.2⟩)⟩
          replace q32 := eq_true q32
          try go_wp2
          go_loopg [55] kj3 (fun kq v55 w' => ∃ (x55_2 : Int) (x177003_2 : List (S58)) (u177003 : Value), v55 = .int .i64 x55_2 ∧ Aside0 (inst_Parse.l0 kq y177 (y177.length : Int) x55_2 (rd (rd_L1 t160 0) 0) (rd (rd_L1 t160 0) 1) (rd (rd_L1 t160 0) 2) x177003_2 = some (r1, r2, r3, r4, r5)) ∧ Aside0 (kq ≤ kj3) ∧ Aside0 (Kd.R k58 58 w' w.heap.size (fun _ => True) u177003 x177003_2) ∧ Aside0 (w'.heap[gb159]? = some (.cells #[.int .i64 0, .int .i64 0, .int .i64 0, (.slice none 0 0)] 39 (0, 0))) ∧ Aside0 (w'.heap[gb176]? = some (.cells #[.int .i64 (rd (rd_L1 t160 0) 0), .int .i64 (rd (rd_L1 t160 0) 1), .int .i64 (rd (rd_L1 t160 0) 2), u177003] 39 (0, 0))) ∧ Aside0 (Below w.heap.size w w') ∧ Aside0 (w31.heap.size ≤ w'.heap.size) ∧ Aside0 (∀ k, (u177003 : Value).ownBlock = some k → w31.heap.size ≤ k) ∧ Aside0 (Kd.F (Kd.slice 3 (Kd.int .i64)) w' (fun k => (k ≠ gb159 ∧ k ≠ gb176) ∧ k < w31.heap.size) A32 y177.length y177))
          case atStart => exact ⟨(0), (([] : List (S58))), (.slice none 0 0), (by first | rfl | (simp; done) | (simp [*]; done)), H', ⟨Nat.le_refl _⟩, ⟨by first | exact Kd.R_nil _ _ _ _ _ | exact Kd.N_nil _ _ _ _ _ | exact Kd.V_nil _ _ _ _ _ | exact Kd.Q_nil _ _ _ _ _ | exact Kd.S_nil _ _ _ _ _⟩, ⟨by (with_reducible repeat (first | apply zqa | apply zqb | apply zqc)); exact BK159.out⟩, ⟨by (with_reducible repeat (first | apply zqa | apply zqb | apply zqc)); exact BK176.out⟩, ⟨by repeat (first | (with_reducible first | exact HB.out | apply zqg | apply zqf | apply zqh | refine below_set ?_ GE159.out | refine below_set ?_ GE176.out) | exact HB.out)⟩, ⟨Nat.le_refl _⟩, ⟨fun k hk => by simp [Value.ownBlock] at hk⟩, FR0⟩
          case round =>
           clear H'
           try clear c1
           try clear p1
           try clear q1
           try clear hx1
           try clear qi1
           try clear c2
           try clear p2
           try clear c3
           try clear c3b0
           try clear c3b1
           try clear q3
           try clear c7
           try clear c7b0
           try clear c7b1
           try clear c7b2
           try clear c9
           try clear c9b0
           try clear c9b1
           try clear c10
           try clear c10b0
           try clear c10b1
           try clear c11
           try clear c11b0
           try clear c11b1
           try clear c14
           try clear q14
           try clear c16
           try clear p16
           try clear q16
           try clear hx16
           try clear qi16
           try clear c17
           try clear p17
           try clear q17
           try clear hx17
           try clear qi17
           try clear c19
           try clear c19b0
           try clear c19b1
           try clear c20
           try clear c20b0
           try clear c20b1
           try clear c21
           try clear c21b0
           try clear c21b1
           try clear c22
           try clear c22b0
           try clear c22b1
           try clear c23
           try clear c23b0
           try clear c23b1
           try clear c32
           try clear q32
           try clear hcz18_0
           try clear hcz18_1
           try clear hcz18_2
           try clear hcz18_3
           try clear hfz18_0
           try clear hfz18_1
           try clear hfz18_2
           try clear hfz18_3
           try clear hx164_0
           try clear hx170_0
           try clear hx171_0
           try clear hx172_0
           try clear hx173_0
           try clear hx174_0
           try clear hx175_0
           try clear p1
           try clear p16
           try clear p164
           try clear p170
           try clear p171
           try clear p172
           try clear p173
           try clear p174
           try clear p175
           try clear p2
           try clear q1
           try clear q14
           try clear q16
           try clear q164
           try clear q170
           try clear q171
           try clear q172
           try clear q173
           try clear q174
           try clear q175
           try clear q32
           obtain ⟨x55_2, x177003_2, u177003, rfl, HA, HK2, HO_177003, BK159, BK176, HB, SZ, UB, FR⟩ := hrel
           cases gk with
           | zero => exact absurd HA.out (by simp [inst_Parse.l0])
           | succ k2 =>
            have H := HA.out
            clear HA
            simp only [inst_Parse.l0] at H
            by_cases c33 : x55_2 < (y177.length : Int)
            ·
             rw [if_pos c33] at H
             have c33b0 : decide (x55_2 < (y177.length : Int)) = true := decide_eq_true c33
             clear c33
             by_cases c34 : 0 ≤ x55_2
             ·
              rw [if_pos c34] at H
              have c34b0 : decide (0 ≤ x55_2) = true := decide_eq_true c34
              clear c34
              by_cases c35 : x55_2 < (y177.length : Int)
              ·
               rw [if_pos c35] at H
               have c35b0 : decide (x55_2 < (y177.length : Int)) = true := decide_eq_true c35
               clear c35
               replace H := Option.bind_eq_some_iff.mp H
               obtain ⟨⟨t182, t183, t184, t185, t186, t187⟩, A360, H⟩ := H
               replace H : (if x177003_2.length < 2932031007402 then (inst_Parse.l0 k2 y177 (y177.length : Int) (wrap64 (x55_2 + 1)) (rd (rd_L1 t160 0) 0) (rd (rd_L1 t160 0) 1) (rd (rd_L1 t160 0) 2) (x177003_2 ++ [(⟨t182, t183, t184, t185, t186, t187⟩ : S58)])) else (none)) = some (r1, r2, r3, r4, r5) := H
               have A36 := zqi A360
               clear A360
               by_cases c37 : x177003_2.length < 2932031007402
               ·
                rw [if_pos c37] at H
                have LMc37 := zqi c37
                clear c37
                obtain ⟨y188, hy188⟩ : ∃ y_ : List (S58), y_ = (x177003_2 ++ [(⟨t182, t183, t184, t185, t186, t187⟩ : S58)]) := ⟨_, rfl⟩
                replace H : (inst_Parse.l0 k2 y177 (y177.length : Int) (wrap64 (x55_2 + 1)) (rd (rd_L1 t160 0) 0) (rd (rd_L1 t160 0) 1) (rd (rd_L1 t160 0) 2) y188) = some (r1, r2, r3, r4, r5) := by first | (rw [hy188]; with_reducible exact H) | (have H2_ := (Option.bind_some _ _).symm.trans H; rw [hy188]; with_reducible exact H2_) | (have H2_ := (Option.bind_some _ _).symm.trans H; with_reducible exact H2_) | with_reducible exact H | (rw [hy188]; exact H) | exact H
                have Ny188 := zqi hy188
                clear hy188
                have H' := zqi H
                clear H
                have p181 : 0 ≤ (x55_2 : Int) := of_decide_eq_true (by first | (with_reducible assumption) | assumption)
                have q181 : x55_2 < (y177.length : Int) := of_decide_eq_true (by first | (with_reducible assumption) | assumption)
                obtain ⟨ad181, cs_, e181, hcl_, hK_, hcc_, -⟩ := Kd.F_get FR.out ([] : List Int) x55_2 p181 q181
                obtain ⟨A181_0, c181_0, rfl, hl181_0, hf_⟩ := Kd.FK_slice_open hK_
                cases e181
                have hx181_0 : wr.cell? (ad181.add x55_2.toNat) = some (.slice A181_0 (rd_L1 y177 x55_2).length c181_0) := by have hq := hcc_ 0 _ rfl; rwa [show (Kd.slice 3 (Kd.int .i64)).sz = 1 from rfl, Nat.mul_one, Nat.add_zero] at hq
                have HF_ : Aside0 (Kd.F (Kd.int .i64) wr (fun k => (k ≠ gb159 ∧ k ≠ gb176) ∧ k < w31.heap.size) A181_0 (rd_L1 y177 x55_2).length (rd_L1 y177 x55_2)) := ⟨hf_⟩
                have HC181_0 := zqi (show (rd_L1 y177 x55_2).length ≤ c181_0 from hl181_0)
                clear hf_ hK_ hcl_ hcc_ hl181_0
                replace p181 := eq_true p181
                replace q181 := eq_true q181
                try go_wp2
                have n0_ := zqi (Kd.R_drew HO_177003.out)
                have n1_ := zqi (zqb BK159.out)
                have n2_ := zqi (zqb BK176.out)
                have n3_ := zqi (zqh HB.out)
                clear HO_177003
                clear BK159
                clear BK176
                clear HB
                have HO_177003 := n0_
                have BK159 := n1_
                have BK176 := n2_
                have HB := n3_
                clear n0_ n1_ n2_ n3_
                have FR := zqi (Kd.F_drew FR.out)
                have HF_ := zqi (Kd.F_drew HF_.out)
                have SZ : Aside0 (w31.heap.size ≤ wr.drew.heap.size) := SZ
                refine start_ (n := 8) (S := fun w' => w'.cell? ⟨gb176, 3, none⟩ = some (u177003)) (ds := [7]) (zqB 8 0) (by kernel_rfl) rfl rfl ((zqe BK176.out 3).trans rfl) (fun hHeld => ?_); refine with_tabW inst_Parse.tab11 inst_Parse.bits11 (fun HT_ HW_ => ?_)
                generalize wr.drew = w38 at HO_177003 BK159 BK176 HB FR HF_ SZ hHeld ⊢
                refine zqp 0 (some 59) (zqB 8 1) (any_of HT_.out (by kernel_rfl)) (h := ?_)
                refine zqp 2 (some 61) (zqB 8 5) (any_of HT_.out (by kernel_rfl)) (h := ?_)
                refine zqt 1 (some 60) (zqB 8 7) (take_ofW HT_.out HW_.out (by kernel_rfl)) hHeld (h := ?_)
                refine one_ (i := 3) (N := some 62) (zqB 8 15) rfl rfl (one_of HT_.out (by kernel_rfl)) (by decide) (fun K hK => ?_)
                refine goes_ Tryd.func33 (by kernel_rfl) rfl #[.slice A181_0 (rd_L1 y177 x55_2).length c181_0] (by rfl) rfl rfl (by (try simp only [List.map_toArray, List.map_cons, List.map_nil]); first | done | rfl | (simp only [List.length_drop, List.length_take]; rfl)) ?_
                with_reducible refine (inst_stop.calls _ _ (rd_L1 y177 x55_2) t182 t183 t184 t185 t186 t187 _ ?side1 ?side2 A36.out).mono ?_
                (case side1 => exact Kd.F_now HF_.out)
                (case side2 => exact HC181_0.out)
                rintro e w39 ⟨rfl, hb⟩
                refine ⟨_, rfl, ?_⟩
                have n0_ := zqi (Kd.R_below (by (with_reducible repeat (first | apply Kd.R_alloc | apply Kd.R_drewN | apply Kd.R_drew)); exact HO_177003.out) hb)
                have n1_ := zqi (zqy BK159.out hb)
                have n2_ := zqi (zqy BK176.out hb)
                have n3_ := zqi (below_step (zqn HB.out) hb)
                clear HO_177003
                clear BK159
                clear BK176
                clear HB
                have HO_177003 := n0_
                have BK159 := n1_
                have BK176 := n2_
                have HB := n3_
                clear n0_ n1_ n2_ n3_
                have FR := zqi (Kd.F_below FR.out hb)
                have SZ := zqi (Nat.le_trans SZ.out hb.size)
                clear HF_
                (try clear hb)
                (try clear hb2)
                (try clear hk)
                (try clear hi)
                refine hK.out _ _ ((zqe BK176.out 3).trans rfl) (fun hHeld => ?_)
                clear hK K
                refine norm_ (a' := ?_) ?_ ?_
                rotate_left
                ·
                 show Act.put _ (some 62) _ = _
                 simp only [Act.put, List.setIfInBounds_toArray, List.set_cons_zero, List.set_cons_succ, i64_w, i32_w]
                 rfl
                refine one_ (i := 4) (N := some 63) (zqB 8 31) rfl rfl (one_of HT_.out (by kernel_rfl)) (by decide) (fun K hK => ?_)
                refine value_ (w1 := ?_) (v := ?_) (by rfl) rfl ?_ ?_
                rotate_left 2
                ·
                 go_simp
                 constructor
                 ·
                  rfl
                 ·
                  rfl
                refine hK.out _ _ ((zqe (zqc BK176.out _) 3).trans rfl) (fun hHeld => ?_)
                clear hK K
                refine norm_ (a' := ?_) ?_ ?_
                rotate_left
                ·
                 show Act.put _ (some 63) _ = _
                 simp only [Act.put, List.setIfInBounds_toArray, List.set_cons_zero, List.set_cons_succ, i64_w, i32_w]
                 rfl
                refine one_ (i := 5) (N := some 64) (zqB 8 63) rfl rfl (one_of HT_.out (by kernel_rfl)) (by decide) (fun K hK => ?_)
                refine Kd.R_append_step k58 (w0 := w) w.heap.size (by rfl) (.tmp 60) (.tmp 63) 37 58 (.agg #[(.int .i64 0), (.int .i64 0), (.int .i64 0), (.int .i64 0), (.int .i64 0), (.int .i64 0)]) 48 rfl Tryd.underlying37 info58 rfl (by decide) (by omega) u177003 x177003_2 (⟨t182, t183, t184, t185, t186, t187⟩ : S58) [.int .i64 t182, .int .i64 t183, .int .i64 t184, .int .i64 t185, .int .i64 t186, .int .i64 t187] (fun _ => True) (fun _ => False) rfl rfl ?aP (fun _ hk => hk.elim) ?aF ?aO ?aB ?aS ?aL ?_
                (case aP => exact k58_mkM _ _ _ (⟨t182, t183, t184, t185, t186, t187⟩ : S58))
                (case aB => exact (zqn HB.out))
                (case aF => exact (fun _ _ => trivial))
                (case aO => exact (by (with_reducible repeat (first | apply Kd.R_alloc | apply Kd.R_drewN | apply Kd.R_drew)); exact HO_177003.out))
                (case aS => exact (below_size (zqn HB.out)))
                (case aL => have := LMc37.out; omega)
                intro v189 w40 ho hb hg hat
                rw [← Ny188.out] at ho
                have n0_ := zqi (blk_grown (g := gb159) (o := .cells #[.int .i64 0, .int .i64 0, .int .i64 0, .slice none 0 0] 39 (0, 0)) (zqm BK159.out) hg (Kd.R_ne HO_177003.out BK159.out (by decide)))
                have n1_ := zqi (blk_grown (g := gb176) (o := .cells #[.int .i64 (rd (rd_L1 t160 0) 0), .int .i64 (rd (rd_L1 t160 0) 1), .int .i64 (rd (rd_L1 t160 0) 2), u177003] 39 (0, 0)) (zqm BK176.out) hg (Kd.R_ne HO_177003.out BK176.out (by decide)))
                have n2_ := zqi (hb)
                have n3_ := zqi (ho)
                clear BK159
                clear BK176
                clear HB
                clear HO_177003
                have BK159 := n0_
                have BK176 := n1_
                have HB := n2_
                have HO190 := n3_
                clear n0_ n1_ n2_ n3_
                have FR := zqi (Kd.F_grown FR.out hg (fun k hk he => Nat.lt_irrefl _ (Nat.lt_of_lt_of_le hk.2 (UB.out k he.symm))))
                have UB2 : Aside0 (∀ k, (v189 : Value).ownBlock = some k → w31.heap.size ≤ k) := ⟨fun k hk => by
                 rcases hat with h_ | ⟨b_, h_, hle_⟩
                 ·
                  exact UB.out k (h_.symm.trans hk)
                 ·
                  rw [h_] at hk; injection hk with hk; subst hk; exact Nat.le_trans SZ.out hle_⟩
                have SZ := zqi (Nat.le_trans SZ.out hg.size)
                clear ho hb hg hat
                obtain ⟨Ao41, co41, eo41⟩ := Kd.R_slice HO190.out
                (first | subst eo41 | (injection eo41 with f1_ f2_ f3_; have f4_ := f1_.symm; have f5_ := f3_.symm; clear f1_ f2_ f3_; subst f4_; subst f5_))
                refine hK.out _ _ ((zqe BK176.out 3).trans rfl) (fun hHeld => ?_)
                clear hK K
                refine norm_ (a' := ?_) ?_ ?_
                rotate_left
                ·
                 show Act.put _ (some 64) _ = _
                 simp only [Act.put, List.setIfInBounds_toArray, List.set_cons_zero, List.set_cons_succ, i64_w, i32_w]
                 rfl
                refine zqp 6 (some 65) (zqB 8 127) (any_of HT_.out (by kernel_rfl)) (h := ?_)
                refine last_ (i := 7) (N := none) (zqB 8 255) rfl rfl (one_of HT_.out (by kernel_rfl)) (by decide) (fun K hK => ?_)
                have hs42 : w40.cell? ⟨gb176, 3, none⟩ = some (u177003) := (zqe BK176.out 3).trans rfl
                have hfs42 := zqd BK176.out 3
                have hns42_0 := NB159_176.out
                have hms42_0 := NB176_159.out
                refine skip_ (w1 := ?_) (by rfl) rfl ?_ ?_
                rotate_left
                ·
                 go_simp
                 rfl
                refine hK.out _ _ ?_
                clear hK K
                refine done_ (done_of HT_.out (by kernel_rfl)) ?_
                try go_wp2
                go_roundg k2
                case measure => have := HJ3.out; have := HK2.out; omega
                case rel => exact ⟨(wrap64 (x55_2 + 1)), (y188), (.slice Ao41 y188.length co41), (by first | rfl | (simp; done) | (simp [*]; done)), H', ⟨by have := HJ3.out; have := HK2.out; omega⟩, ⟨by (with_reducible repeat (first | apply Kd.R_alloc | apply Kd.R_drewN | apply Kd.R_drew)); exact Kd.R_mono (Kd.R_far (p := ⟨gb176, 3, none⟩) (Kd.R_types HO190.out BK176.out (by decide)) (fun _ hk => hk.2) (.slice Ao41 y188.length co41)) (fun _ hk => trivial)⟩, ⟨by (with_reducible repeat (first | apply zqa | apply zqb | apply zqc)); refine blk_far ?_ NB159_176.out _; (with_reducible repeat (first | apply zqa | apply zqb | apply zqc)); exact BK159.out⟩, ⟨by (with_reducible repeat (first | apply zqa | apply zqb | apply zqc)); refine blk_put (cs := #[.int .i64 (rd (rd_L1 t160 0) 0), .int .i64 (rd (rd_L1 t160 0) 1), .int .i64 (rd (rd_L1 t160 0) 2), u177003]) ?_ 3 _ rfl; (with_reducible repeat (first | apply zqa | apply zqb | apply zqc)); exact BK176.out⟩, ⟨by repeat (first | (with_reducible first | exact HB.out | apply zqg | apply zqf | apply zqh | refine below_set ?_ GE159.out | refine below_set ?_ GE176.out) | exact HB.out)⟩, ⟨by have := SZ.out; simpa using this⟩, UB2, ⟨Kd.F_far FR.out (fun k hk => hk.1.2) _⟩⟩
               ·
                rw [if_neg c37] at H
                exact absurd H (by simp)
              ·
               rw [if_neg c35] at H
               exact absurd H (by simp)
             ·
              rw [if_neg c34] at H
              exact absurd H (by simp)
            ·
             rw [if_neg c33] at H
             have c33b0 : decide (x55_2 < (y177.length : Int)) = false := decide_eq_false c33
             clear c33
             replace H := Option.bind_eq_some_iff.mp H
             obtain ⟨t191, A430, H⟩ := H
             replace H : (if t191 = true then (some ((rd (rd_L1 t160 0) 0), (rd (rd_L1 t160 0) 1), (rd (rd_L1 t160 0) 2), x177003_2, 0)) else (some (0, 0, 0, ([] : List (S58)), 1))) = some (r1, r2, r3, r4, r5) := H
             have A43 := zqi A430
             clear A430
             by_cases c44 : t191 = true
             ·
              subst c44
              have H1 : (some ((rd (rd_L1 t160 0) 0), (rd (rd_L1 t160 0) 1), (rd (rd_L1 t160 0) 2), x177003_2, 0)) = some (r1, r2, r3, r4, r5) := by rw [if_pos rfl] at H; exact H
              clear H
              have H := H1
              clear H1
              simp only [Option.some.injEq, Prod.mk.injEq] at H
              obtain ⟨rfl, rfl, rfl, rfl, rfl⟩ := H
              have hnb45 := NB176_159.out
              have hnc45 := NB159_176.out
              obtain ⟨hcz46_0, hcz46_1, hcz46_2, hcz46_3, hfz46_0, hfz46_1, hfz46_2, hfz46_3⟩ := zqz4 BK176.out
              obtain ⟨Ao47, co47, eo47⟩ := Kd.R_slice HO_177003.out
              subst eo47
              go_wp2_with (first | ((with_reducible refine gate_callee (f := 34) rfl ?_); refine goesL_ (some 68) rfl rfl Tryd.func34 (by kernel_rfl) rfl #[.agg #[.int .i64 (rd (rd_L1 t160 0) 0), .int .i64 (rd (rd_L1 t160 0) 1), .int .i64 (rd (rd_L1 t160 0) 2), .slice Ao47 x177003_2.length co47]] rfl (by (try simp only [List.map_toArray, List.map_cons, List.map_nil]); first | done | rfl | (simp only [List.length_drop, List.length_take]; rfl)) ?_; (with_reducible refine (inst_May.calls k2 (rd (rd_L1 t160 0) 0) (rd (rd_L1 t160 0) 1) (rd (rd_L1 t160 0) 2) _ _ x177003_2 true _ ?side1 ?side2 A43.out).mono ?_); (case side1 => repeat (first | exact (Kd.R_reads' HO_177003.out).2.2 | (with_reducible refine Kd.C_alloc ?_ _) | (with_reducible refine Kd.C_drewN ?_ _) | (with_reducible refine Kd.C_drew ?_))); (case side2 => exact (Kd.R_reads' HO_177003.out).2.1); rintro e w48 ⟨rfl, hb⟩; refine ⟨_, rfl, ?_⟩; have n0_ := zqi (Kd.R_below (by (with_reducible repeat (first | apply Kd.R_alloc | apply Kd.R_drewN | apply Kd.R_drew)); exact HO_177003.out) hb); have n1_ := zqi (zqy BK159.out hb); have n2_ := zqi (zqy BK176.out hb); have n3_ := zqi (below_step (zqn HB.out) hb); clear HO_177003; clear BK159; clear BK176; clear HB; have HO_177003 := n0_; have BK159 := n1_; have BK176 := n2_; have HB := n3_; clear n0_ n1_ n2_ n3_; (try clear hb); (try clear hb2); (try clear hk); (try clear hi); obtain ⟨hcz49_0, hcz49_1, hcz49_2, hcz49_3, hfz49_0, hfz49_1, hfz49_2, hfz49_3⟩ := zqz4 BK176.out; obtain ⟨hcz50_0, hcz50_1, hcz50_2, hcz50_3, hfz50_0, hfz50_1, hfz50_2, hfz50_3⟩ := zqz4 BK159.out))
              refine bodyPost_ret (results_ct rfl _ _ gb159 39 #[.int .i64 (rd (rd_L1 t160 0) 0), .int .i64 (rd (rd_L1 t160 0) 1), .int .i64 (rd (rd_L1 t160 0) 2), .slice Ao47 x177003_2.length co47] (0, 0) _ rfl (by (with_reducible repeat (first | apply zqa | apply zqb | apply zqc)); refine blk_put (cs := #[.int .i64 (rd (rd_L1 t160 0) 0), .int .i64 (rd (rd_L1 t160 0) 1), .int .i64 (rd (rd_L1 t160 0) 2), .slice none 0 0]) ?_ 3 _ rfl; (with_reducible repeat (first | apply zqa | apply zqb | apply zqc)); refine blk_put (cs := #[.int .i64 (rd (rd_L1 t160 0) 0), .int .i64 (rd (rd_L1 t160 0) 1), .int .i64 0, .slice none 0 0]) ?_ 2 _ rfl; (with_reducible repeat (first | apply zqa | apply zqb | apply zqc)); refine blk_put (cs := #[.int .i64 (rd (rd_L1 t160 0) 0), .int .i64 0, .int .i64 0, .slice none 0 0]) ?_ 1 _ rfl; (with_reducible repeat (first | apply zqa | apply zqb | apply zqc)); refine blk_put (cs := #[.int .i64 0, .int .i64 0, .int .i64 0, .slice none 0 0]) ?_ 0 _ rfl; (with_reducible repeat (first | apply zqa | apply zqb | apply zqc)); exact BK159.out) Tryd.underlying39 rfl (by kernel_rfl)) rfl ?_
              exact ⟨_, by first | rfl | (simp [errW_none, errW_some] <;> rfl) | (simp [*, errW_none, errW_some] <;> rfl), by (with_reducible repeat (first | apply Kd.R_alloc | apply Kd.R_drewN | apply Kd.R_drew)); exact Kd.R_mono (Kd.R_far (p := ⟨gb159, 3, none⟩) (Kd.R_far (p := ⟨gb159, 2, none⟩) (Kd.R_far (p := ⟨gb159, 1, none⟩) (Kd.R_far (p := ⟨gb159, 0, none⟩) (Kd.R_types HO_177003.out BK159.out (by decide)) (fun _ hk => hk.2) (.int .i64 (rd (rd_L1 t160 0) 0))) (fun _ hk => hk.2) (.int .i64 (rd (rd_L1 t160 0) 1))) (fun _ hk => hk.2) (.int .i64 (rd (rd_L1 t160 0) 2))) (fun _ hk => hk.2) (.slice Ao47 x177003_2.length co47)) (fun _ hk => trivial), by repeat (first | (with_reducible first | exact HB.out | apply zqg | apply zqf | apply zqh | refine below_set ?_ GE159.out | refine below_set ?_ GE176.out) | exact HB.out)⟩
             ·
              replace c44 := Bool.eq_false_iff.mpr c44
              subst c44
              have H1 : (some (0, 0, 0, ([] : List (S58)), 1)) = some (r1, r2, r3, r4, r5) := by rw [if_neg (show ¬ (false = true) by decide)] at H; exact H
              clear H
              have H := H1
              clear H1
              simp only [Option.some.injEq, Prod.mk.injEq] at H
              obtain ⟨rfl, rfl, rfl, rfl, rfl⟩ := H
              have hnb51 := NB176_159.out
              have hnc51 := NB159_176.out
              obtain ⟨hcz52_0, hcz52_1, hcz52_2, hcz52_3, hfz52_0, hfz52_1, hfz52_2, hfz52_3⟩ := zqz4 BK176.out
              obtain ⟨Ao53, co53, eo53⟩ := Kd.R_slice HO_177003.out
              subst eo53
              go_wp2_with (first | ((with_reducible refine gate_callee (f := 34) rfl ?_); refine goesL_ (some 68) rfl rfl Tryd.func34 (by kernel_rfl) rfl #[.agg #[.int .i64 (rd (rd_L1 t160 0) 0), .int .i64 (rd (rd_L1 t160 0) 1), .int .i64 (rd (rd_L1 t160 0) 2), .slice Ao53 x177003_2.length co53]] rfl (by (try simp only [List.map_toArray, List.map_cons, List.map_nil]); first | done | rfl | (simp only [List.length_drop, List.length_take]; rfl)) ?_; (with_reducible refine (inst_May.calls k2 (rd (rd_L1 t160 0) 0) (rd (rd_L1 t160 0) 1) (rd (rd_L1 t160 0) 2) _ _ x177003_2 false _ ?side1 ?side2 A43.out).mono ?_); (case side1 => repeat (first | exact (Kd.R_reads' HO_177003.out).2.2 | (with_reducible refine Kd.C_alloc ?_ _) | (with_reducible refine Kd.C_drewN ?_ _) | (with_reducible refine Kd.C_drew ?_))); (case side2 => exact (Kd.R_reads' HO_177003.out).2.1); rintro e w54 ⟨rfl, hb⟩; refine ⟨_, rfl, ?_⟩; have n0_ := zqi (Kd.R_below (by (with_reducible repeat (first | apply Kd.R_alloc | apply Kd.R_drewN | apply Kd.R_drew)); exact HO_177003.out) hb); have n1_ := zqi (zqy BK159.out hb); have n2_ := zqi (zqy BK176.out hb); have n3_ := zqi (below_step (zqn HB.out) hb); clear HO_177003; clear BK159; clear BK176; clear HB; have HO_177003 := n0_; have BK159 := n1_; have BK176 := n2_; have HB := n3_; clear n0_ n1_ n2_ n3_; (try clear hb); (try clear hb2); (try clear hk); (try clear hi); obtain ⟨hcz55_0, hcz55_1, hcz55_2, hcz55_3, hfz55_0, hfz55_1, hfz55_2, hfz55_3⟩ := zqz4 BK159.out))
              refine bodyPost_ret (results_ct rfl _ _ gb159 39 #[.int .i64 0, .int .i64 0, .int .i64 0, .slice none 0 0] (0, 0) _ rfl (by (with_reducible repeat (first | apply zqa | apply zqb | apply zqc)); refine blk_put (cs := #[.int .i64 0, .int .i64 0, .int .i64 0, .slice none 0 0]) ?_ 3 _ rfl; (with_reducible repeat (first | apply zqa | apply zqb | apply zqc)); refine blk_put (cs := #[.int .i64 0, .int .i64 0, .int .i64 0, .slice none 0 0]) ?_ 2 _ rfl; (with_reducible repeat (first | apply zqa | apply zqb | apply zqc)); refine blk_put (cs := #[.int .i64 0, .int .i64 0, .int .i64 0, .slice none 0 0]) ?_ 1 _ rfl; (with_reducible repeat (first | apply zqa | apply zqb | apply zqc)); refine blk_put (cs := #[.int .i64 0, .int .i64 0, .int .i64 0, .slice none 0 0]) ?_ 0 _ rfl; (with_reducible repeat (first | apply zqa | apply zqb | apply zqc)); exact BK159.out) Tryd.underlying39 rfl (by kernel_rfl)) rfl ?_
              exact ⟨_, by first | rfl | (simp [errW_none, errW_some] <;> rfl) | (simp [*, errW_none, errW_some] <;> rfl), by first | exact Kd.R_nil _ _ _ _ _ | exact Kd.N_nil _ _ _ _ _ | exact Kd.V_nil _ _ _ _ _ | exact Kd.Q_nil _ _ _ _ _ | exact Kd.S_nil _ _ _ _ _, by repeat (first | (with_reducible first | exact HB.out | apply zqg | apply zqf | apply zqh | refine below_set ?_ GE159.out | refine below_set ?_ GE176.out) | exact HB.out)⟩
         ·
          rw [if_neg c23] at H
          exact absurd H (by simp)
        ·
         rw [if_neg c22] at H
         exact absurd H (by simp)
       ·
        rw [if_neg c21] at H
        exact absurd H (by simp)
      ·
       rw [if_neg c20] at H
       exact absurd H (by simp)
     ·
      rw [if_neg c19] at H
      exact absurd H (by simp)
 ·
  rw [if_neg c3] at H
  have c3b0 : (t161 == 0) = false := beq_eq_false_iff_ne.mpr c3
  have c3b1 : (t161 != 0) = true := bne_iff_ne.mpr c3
  simp only [Option.some.injEq, Prod.mk.injEq] at H
  obtain ⟨rfl, rfl, rfl, rfl, rfl⟩ := H
  go_enter Tryd.func16, Tryd.ntmps16
  go_wp2_with (first | ((with_reducible refine gate_dst (N := 2) rfl ?_); (try (refine gate_guard (by rfl) ?_; dsimp only)); refine box_event ?hg (N := 2) ?hd (cs := #[.int .i64 0, .int .i64 0, .int .i64 0, .slice none 0 0]) (t := 39) ?hr ?_; (case hd => rfl); (case hg => rfl); (case hr => first | (go_simp; done) | (go_simp; rfl)); intro gb159 hg w56 hbox hb; have n0_ := zqi (below_step (zqn HB.out) hb); have n1_ := zqi (hbox); have n2_ := zqi (zqo hg HB.out); have n3_ := zqi (zqo hg HB.out); clear HB; have HB := n0_; have BK159 := n1_; have GW159 := n2_; have GE159 := n3_; clear n0_ n1_ n2_ n3_; clear hb hbox hg) | ((with_reducible refine gate_callee (f := 23) rfl ?_); refine goesL_ (some 12) rfl rfl Tryd.func23 (by kernel_rfl) rfl #[.slice A0 l0.length c0] rfl (by (try simp only [List.map_toArray, List.map_cons, List.map_nil]); first | done | rfl | (simp only [List.length_drop, List.length_take]; rfl)) ?_; (with_reducible refine (scan_Lines.calls _ _ l0 t160 t161 _ ?side1 ?side2 A2.out).mono ?_); (case side1 => repeat (first | exact (Kd.C_below HR0.out HB.out) | (with_reducible refine Kd.C_alloc ?_ _) | (with_reducible refine Kd.C_drewN ?_ _) | (with_reducible refine Kd.C_drew ?_))); (case side2 => exact HC0.out); rintro e w57 ⟨v162, rfl, ho0, hb⟩; refine ⟨_, rfl, ?_⟩; have n0_ := zqi (Kd.S_lower ho0 (below_size (zqn HB.out))); have n1_ := zqi (zqy BK159.out hb); have n2_ := zqi (below_step (zqn HB.out) hb); clear BK159; clear HB; have HO163 := n0_; have BK159 := n1_; have HB := n2_; clear n0_ n1_ n2_; (try clear hb); (try clear hb2); (try clear hk); (try clear hi); (try clear ho0); obtain ⟨hcz58_0, hcz58_1, hcz58_2, hcz58_3, hfz58_0, hfz58_1, hfz58_2, hfz58_3⟩ := zqz4 BK159.out))
  refine bodyPost_ret (results_ct rfl _ _ gb159 39 #[.int .i64 0, .int .i64 0, .int .i64 0, .slice none 0 0] (0, 0) _ rfl (by (with_reducible repeat (first | apply zqa | apply zqb | apply zqc)); refine blk_put (cs := #[.int .i64 0, .int .i64 0, .int .i64 0, .slice none 0 0]) ?_ 3 _ rfl; (with_reducible repeat (first | apply zqa | apply zqb | apply zqc)); refine blk_put (cs := #[.int .i64 0, .int .i64 0, .int .i64 0, .slice none 0 0]) ?_ 2 _ rfl; (with_reducible repeat (first | apply zqa | apply zqb | apply zqc)); refine blk_put (cs := #[.int .i64 0, .int .i64 0, .int .i64 0, .slice none 0 0]) ?_ 1 _ rfl; (with_reducible repeat (first | apply zqa | apply zqb | apply zqc)); refine blk_put (cs := #[.int .i64 0, .int .i64 0, .int .i64 0, .slice none 0 0]) ?_ 0 _ rfl; (with_reducible repeat (first | apply zqa | apply zqb | apply zqc)); exact BK159.out) Tryd.underlying39 rfl (by kernel_rfl)) rfl ?_
  exact ⟨_, by first | rfl | (simp [errW_none, errW_some] <;> rfl) | (simp [*, errW_none, errW_some] <;> rfl), by first | exact Kd.R_nil _ _ _ _ _ | exact Kd.N_nil _ _ _ _ _ | exact Kd.V_nil _ _ _ _ _ | exact Kd.Q_nil _ _ _ _ _ | exact Kd.S_nil _ _ _ _ _, by repeat (first | (with_reducible first | exact HB.out | apply zqg | apply zqf | apply zqh | refine below_set ?_ GE159.out) | exact HB.out)⟩

end Go.Proofs.YtdkhajgfifaibaaDoor.PA
