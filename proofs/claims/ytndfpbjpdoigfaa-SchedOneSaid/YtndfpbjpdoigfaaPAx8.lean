-- Printed for this claim by wip/tools/xprint.py over the kit's print; the contracts marked BY HAND are this session's own.
import Derived.Test.YtndfpbjpdoigfaaPAx0
import Derived.Test.YtndfpbjpdoigfaaPAx5
import Derived.Test.YtndfpbjpdoigfaaPAx7
namespace Go.Proofs.Ytndfpbjpdoigfaa.PA
open Go.RowKit Go.Proofs.YtndfpbjpdoigfaaW.PrintWords Go.Proofs.YtndfpbjpdoigfaaW.PrintLast Go.Proofs.YtndfpbjpdoigfaaW.PrintMore
attribute [local go_sem] max2_int min2_int max_two min_two max_three min_three max_four min_four   -- for this text's walks alone
set_option linter.unusedVariables false
set_option linter.unusedSimpArgs false

/-! ### haulierlaw05_Small: function 9 -/
def haulierlaw05_Small.f  : Option (ByteArray) := some (⟨#[49, 32, 49, 32, 53, 10, 48, 32, 48, 32, 48, 32, 48, 32, 49, 48, 48, 32, 48, 10, 51, 32, 48, 32, 50, 32, 48, 32, 53, 48, 32, 49, 10, 48, 32, 52, 32, 45, 50, 32, 48, 32, 57, 48, 32, 49, 10]⟩ : ByteArray)
set_option maxHeartbeats 8000000 in
set_option maxRecDepth 100000 in
theorem haulierlaw05_Small.calls  (r : ByteArray) (w : World) (h : haulierlaw05_Small.f  = some r) :
    Calls Try.prog 9 #[] w fun e w' => e = .returned (.string r) ∧ Drawn0 w w' := by
  have H : (some (⟨#[49, 32, 49, 32, 53, 10, 48, 32, 48, 32, 48, 32, 48, 32, 49, 48, 48, 32, 48, 10, 51, 32, 48, 32, 50, 32, 48, 32, 53, 48, 32, 49, 10, 48, 32, 52, 32, 45, 50, 32, 48, 32, 57, 48, 32, 49, 10]⟩ : ByteArray)) = some r := h
  clear h
  obtain rfl := Option.some.inj H
  go_enter Try.func9, Try.ntmps9
  go_wp2
  go_ret
  exact ⟨by first | rfl | (simp; done) | (simp [*]; done), by repeat (first | exact Drawn0.refl _ | apply Drawn0.step)⟩

/-! ### haulierlaw07_awake: function 4 -/
def haulierlaw07_awake.f (k : Nat)  : Option (Bool) := (haulierlaw05_Small.f).bind fun t171 => ((inst_Parse.f k (([49, 32, 49, 32, 53, 10, 48, 32, 48, 32, 48, 32, 48, 32, 49, 48, 48, 32, 48, 10, 51, 32, 48, 32, 50, 32, 48, 32, 53, 48, 32, 49, 10, 48, 32, 52, 32, 45, 50, 32, 48, 32, 57, 48, 32, 49, 10] : List Int))).bind fun bt175 => ((sched_Times.f k bt175.1 bt175.2.1 bt175.2.2.1 bt175.2.2.2.1 (([1, 2] : List Int))).bind fun bt186 => (if bt186.2.2 = 0 then (if (bt186.1.length : Int) = 2 then (if 0 < (bt186.1.length : Int) then (if ((rd_T36 bt186.1 0).f0) = 3 then (if 1 < (bt186.1.length : Int) then (if ((rd_T36 bt186.1 1).f0) = 9 then (some (bt186.2.1 == 12)) else (none)) else (none)) else (none)) else (none)) else (none)) else (none))))
theorem haulierlaw07_awake.mono : ∀ k, LeO (haulierlaw07_awake.f k ) (haulierlaw07_awake.f (k + 1) ) := by
  intro  k
  unfold haulierlaw07_awake.f
  repeat' first
      | (with_reducible exact inst_Parse.mono _ _)
      | (with_reducible exact sched_Times.mono _ _ _ _ _ _)
      | (with_reducible exact LeO.refl _)
      | (with_reducible exact LeO.none _)
      | (with_reducible refine LeO.ite ?_ ?_)
      | (with_reducible refine LeO.bind ?_ (fun _ => ?_))
      | exact inst_Parse.mono _ _
      | exact sched_Times.mono _ _ _ _ _ _
      | exact LeO.none _
      | refine LeO.ite ?_ ?_
      | refine LeO.bind ?_ (fun _ => ?_)
theorem conv_event {P : Program} {ops : Array Oper} {Q : Exit → Act → World → Prop} {rest : List Oper} {o : Oper} {a : Act} {W : World} (base : Nat) (hgd : o.guard = none) {N : Tmp} (_hd : o.dst = some N) {src dst e : TypeId} {x : Operand} {s : ByteArray} (ho : o.op = .convert src dst x) (hx : a.eval x = .string s)
    (hs : P.underlying src = some .string) (hds : P.underlying dst = some (.slice e)) (he : P.underlying e = some (.int .u8)) (hm : s.size ≤ 9223372036854775807)
    (h : ∀ v1 w1, Kd.V (Kd.int .u8) e w1 base (fun _ => True) v1 (bytesOf s) → Below W.heap.size W w1 → wpList P ops Q rest (a.put o.dst v1) w1) : wpList P ops Q (o :: rest) a W := by
  have hrun : (execOp a.eval o).run P W = .ok (.value (.slice (some ⟨W.heap.size, 0, none⟩) s.size (grownCap W s.size 0 e))) (Lib.bytesWorld W e s) := by
    have h0 := Lib.run_convert_string_bytes W src dst e s hs hds he
    unfold execOp
    simp [ho, hx, h0, Result.andThen]
  have hlen := bytesOf_length s
  have hcap : s.size ≤ grownCap W s.size 0 e := grownCap_ge _ _ _ _
  refine Kd.event_run hgd hrun (h _ _ ⟨some ⟨W.heap.size, 0, none⟩, grownCap W s.size 0 e, by rw [hlen], by rw [hlen]; exact hcap, fun W' hW => ?_⟩ ⟨rfl, rfl, rfl, by rw [Lib.bytesWorld_size]; omega, fun k hk => Lib.bytesWorld_at_old W e s k hk⟩)
  refine Kd.C_of_reads (d := 0) ⟨by rw [hlen], by rw [hlen]; exact hm, fun _ => ⟨_, rfl, fun j hj => ?_⟩⟩
  rw [hlen] at hj
  have hb : W'.heap[W.heap.size]? = (Lib.bytesWorld W e s).heap[W.heap.size]? := hW _ trivial (by rw [Lib.bytesWorld_size]; omega)
  have hc := Lib.bytesWorld_cell W e s j hj
  have hc2 : W'.cell? ⟨W.heap.size, j, none⟩ = (Lib.bytesWorld W e s).cell? ⟨W.heap.size, j, none⟩ := by unfold World.cell?; rw [hb]
  rw [add_plain, hc2, hc]
  simp [bytesOf, List.getD, List.getElem?_map, hj]
set_option maxHeartbeats 16000000 in
set_option maxRecDepth 100000 in
theorem haulierlaw07_awake.calls (k : Nat)  (r : Bool) (w : World) (h : haulierlaw07_awake.f k  = some r) :
  Calls Try.prog 4 #[] w fun e w' => e = .returned (.bool r) ∧ Below w.heap.size w w' := by
 have hu24 := Try.underlying24
 have HB := zqi (Below.refl w.heap.size w)
 have H : ((haulierlaw05_Small.f).bind fun t171 => ((inst_Parse.f k (([49, 32, 49, 32, 53, 10, 48, 32, 48, 32, 48, 32, 48, 32, 49, 48, 48, 32, 48, 10, 51, 32, 48, 32, 50, 32, 48, 32, 53, 48, 32, 49, 10, 48, 32, 52, 32, 45, 50, 32, 48, 32, 57, 48, 32, 49, 10] : List Int))).bind fun bt175 => ((sched_Times.f k bt175.1 bt175.2.1 bt175.2.2.1 bt175.2.2.2.1 (([1, 2] : List Int))).bind fun bt186 => (if bt186.2.2 = 0 then (if (bt186.1.length : Int) = 2 then (if 0 < (bt186.1.length : Int) then (if ((rd_T36 bt186.1 0).f0) = 3 then (if 1 < (bt186.1.length : Int) then (if ((rd_T36 bt186.1 1).f0) = 9 then (some (bt186.2.1 == 12)) else (none)) else (none)) else (none)) else (none)) else (none)) else (none))))) = some r := h
 clear h
 replace H := Option.bind_eq_some_iff.mp H
 obtain ⟨t171, A10, H⟩ := H
 replace H : ((inst_Parse.f k (([49, 32, 49, 32, 53, 10, 48, 32, 48, 32, 48, 32, 48, 32, 49, 48, 48, 32, 48, 10, 51, 32, 48, 32, 50, 32, 48, 32, 53, 48, 32, 49, 10, 48, 32, 52, 32, 45, 50, 32, 48, 32, 57, 48, 32, 49, 10] : List Int))).bind fun bt175 => ((sched_Times.f k bt175.1 bt175.2.1 bt175.2.2.1 bt175.2.2.2.1 (([1, 2] : List Int))).bind fun bt186 => (if bt186.2.2 = 0 then (if (bt186.1.length : Int) = 2 then (if 0 < (bt186.1.length : Int) then (if ((rd_T36 bt186.1 0).f0) = 3 then (if 1 < (bt186.1.length : Int) then (if ((rd_T36 bt186.1 1).f0) = 9 then (some (bt186.2.1 == 12)) else (none)) else (none)) else (none)) else (none)) else (none)) else (none)))) = some r := H
 have A1 := zqi A10
 clear A10
 obtain ⟨y172, hy172⟩ : ∃ y_ : List Int, y_ = (([49, 32, 49, 32, 53, 10, 48, 32, 48, 32, 48, 32, 48, 32, 49, 48, 48, 32, 48, 10, 51, 32, 48, 32, 50, 32, 48, 32, 53, 48, 32, 49, 10, 48, 32, 52, 32, 45, 50, 32, 48, 32, 57, 48, 32, 49, 10] : List Int)) := ⟨_, rfl⟩
 replace H : ((inst_Parse.f k y172).bind fun bt175 => ((sched_Times.f k bt175.1 bt175.2.1 bt175.2.2.1 bt175.2.2.2.1 (([1, 2] : List Int))).bind fun bt186 => (if bt186.2.2 = 0 then (if (bt186.1.length : Int) = 2 then (if 0 < (bt186.1.length : Int) then (if ((rd_T36 bt186.1 0).f0) = 3 then (if 1 < (bt186.1.length : Int) then (if ((rd_T36 bt186.1 1).f0) = 9 then (some (bt186.2.1 == 12)) else (none)) else (none)) else (none)) else (none)) else (none)) else (none)))) = some r := by first | (rw [hy172]; with_reducible exact H) | (have H2_ := (Option.bind_some _ _).symm.trans H; rw [hy172]; with_reducible exact H2_) | (have H2_ := (Option.bind_some _ _).symm.trans H; with_reducible exact H2_) | with_reducible exact H | (rw [hy172]; exact H) | exact H
 have Ny172 := zqi hy172
 clear hy172
 replace H := Option.bind_eq_some_iff.mp H
 obtain ⟨⟨t175, t176, t177, t178, t181⟩, A20, H⟩ := H
 replace H : ((sched_Times.f k t175 t176 t177 t178 (([1, 2] : List Int))).bind fun bt186 => (if bt186.2.2 = 0 then (if (bt186.1.length : Int) = 2 then (if 0 < (bt186.1.length : Int) then (if ((rd_T36 bt186.1 0).f0) = 3 then (if 1 < (bt186.1.length : Int) then (if ((rd_T36 bt186.1 1).f0) = 9 then (some (bt186.2.1 == 12)) else (none)) else (none)) else (none)) else (none)) else (none)) else (none))) = some r := H
 have A2 := zqi A20
 clear A20
 obtain ⟨y183, hy183⟩ : ∃ y_ : List Int, y_ = (([1, 2] : List Int)) := ⟨_, rfl⟩
 replace H : ((sched_Times.f k t175 t176 t177 t178 y183).bind fun bt186 => (if bt186.2.2 = 0 then (if (bt186.1.length : Int) = 2 then (if 0 < (bt186.1.length : Int) then (if ((rd_T36 bt186.1 0).f0) = 3 then (if 1 < (bt186.1.length : Int) then (if ((rd_T36 bt186.1 1).f0) = 9 then (some (bt186.2.1 == 12)) else (none)) else (none)) else (none)) else (none)) else (none)) else (none))) = some r := by first | (rw [hy183]; with_reducible exact H) | (have H2_ := (Option.bind_some _ _).symm.trans H; rw [hy183]; with_reducible exact H2_) | (have H2_ := (Option.bind_some _ _).symm.trans H; with_reducible exact H2_) | with_reducible exact H | (rw [hy183]; exact H) | exact H
 have Ny183 := zqi hy183
 clear hy183
 replace H := Option.bind_eq_some_iff.mp H
 obtain ⟨⟨t186, t189, t190⟩, A30, H⟩ := H
 replace H : (if t190 = 0 then (if (t186.length : Int) = 2 then (if 0 < (t186.length : Int) then (if ((rd_T36 t186 0).f0) = 3 then (if 1 < (t186.length : Int) then (if ((rd_T36 t186 1).f0) = 9 then (some (t189 == 12)) else (none)) else (none)) else (none)) else (none)) else (none)) else (none)) = some r := H
 have A3 := zqi A30
 clear A30
 by_cases c4 : t190 = 0
 ·
  rw [if_pos c4] at H
  have c4b0 : (t190 == 0) = true := beq_iff_eq.mpr c4
  have c4b1 : (t190 != 0) = false := bne_eq_false_iff_eq.mpr c4
  clear c4
  by_cases c5 : (t186.length : Int) = 2
  ·
   rw [if_pos c5] at H
   have c5b0 : ((t186.length : Int) == 2) = true := beq_iff_eq.mpr c5
   have c5b1 : ((t186.length : Int) != 2) = false := bne_eq_false_iff_eq.mpr c5
   clear c5
   by_cases c6 : 0 < (t186.length : Int)
   ·
    rw [if_pos c6] at H
    have c6b0 : decide (0 < (t186.length : Int)) = true := decide_eq_true c6
    have c6b1 : decide (0 < t186.length) = true := decide_eq_true (by omega)
    clear c6
    by_cases c7 : ((rd_T36 t186 0).f0) = 3
    ·
     rw [if_pos c7] at H
     have c7b0 : (((rd_T36 t186 0).f0) == 3) = true := beq_iff_eq.mpr c7
     have c7b1 : (((rd_T36 t186 0).f0) != 3) = false := bne_eq_false_iff_eq.mpr c7
     clear c7
     by_cases c8 : 1 < (t186.length : Int)
     ·
      rw [if_pos c8] at H
      have c8b0 : decide (1 < (t186.length : Int)) = true := decide_eq_true c8
      have c8b1 : decide (1 < t186.length) = true := decide_eq_true (by omega)
      clear c8
      by_cases c9 : ((rd_T36 t186 1).f0) = 9
      ·
       rw [if_pos c9] at H
       have c9b0 : (((rd_T36 t186 1).f0) == 9) = true := beq_iff_eq.mpr c9
       have c9b1 : (((rd_T36 t186 1).f0) != 9) = false := bne_eq_false_iff_eq.mpr c9
       clear c9
       obtain rfl := Option.some.inj H
       go_enter Try.func4, Try.ntmps4
       have HBY := zqi (show bytesOf t171 = y172 from by rw [← Option.some.inj (show some _ = some t171 from A1.out), Ny172.out]; rfl)
       have HSZ := zqi (show t171.size ≤ 9223372036854775807 from by rw [← bytesOf_length, HBY.out, Ny172.out]; decide)
       go_wp2_with (first | ((with_reducible refine gate_callee (f := 9) rfl ?_); refine goesL_ (some 7) rfl rfl Try.func9 (by kernel_rfl) rfl #[] rfl (by (try simp only [List.map_toArray, List.map_cons, List.map_nil]); first | done | rfl | (simp only [List.length_drop, List.length_take]; rfl)) ?_; (with_reducible refine (haulierlaw05_Small.calls  t171 _ A1.out).mono ?_); rintro e w' ⟨rfl, ⟨nd, rfl⟩⟩; refine ⟨_, rfl, ?_⟩) | ((with_reducible refine gate_dst (N := 8) rfl ?_); (try (refine gate_guard (by rfl) ?_; dsimp only)); refine conv_event w.heap.size ?hg (N := 8) ?hd (src := 9) (dst := 40) (e := 5) (x := .tmp 7) (s := t171) rfl rfl Try.underlying9 Try.underlying40 Try.underlying5 HSZ.out ?_; (case hd => rfl); (case hg => rfl); intro v173 w10 ho11 hb; rw [HBY.out] at ho11; have n0_ := zqi ho11; have n1_ := zqi (below_step (zqn HB.out) hb); clear HB; have HO174 := n0_; have HB := n1_; clear n0_ n1_; clear hb ho11; obtain ⟨Ao12, co12, eo12⟩ := Kd.V_slice HO174.out; subst eo12) | ((with_reducible refine gate_callee (f := 8) rfl ?_); refine goesL_ (some 9) rfl rfl Try.func8 (by kernel_rfl) rfl #[.slice Ao12 y172.length co12] rfl (by (try simp only [List.map_toArray, List.map_cons, List.map_nil]); first | done | rfl | (simp only [List.length_drop, List.length_take]; rfl)) ?_; (with_reducible refine (inst_Parse.calls k _ _ y172 t175 t176 t177 t178 t181 _ ?side1 ?side2 A2.out).mono ?_); (case side1 => repeat (first | exact (Kd.V_reads' HO174.out).2.2 | (with_reducible refine Kd.C_alloc ?_ _) | (with_reducible refine Kd.C_drewN ?_ _) | (with_reducible refine Kd.C_drew ?_))); (case side2 => exact (Kd.V_reads' HO174.out).2.1); rintro e w13 ⟨v179, rfl, ho0, hb⟩; refine ⟨_, rfl, ?_⟩; have n0_ := zqi (Kd.R_nil (Kd.int .u8) 5 w13 w.heap.size (fun _ => True)); have n1_ := zqi (Kd.R_lower ho0 (below_size (zqn HB.out))); have n2_ := zqi (below_step (zqn HB.out) hb); clear HO174; clear HB; have HO174 := n0_; have HO180 := n1_; have HB := n2_; clear n0_ n1_ n2_; (try clear hb); (try clear hb2); (try clear hk); (try clear hi); (try clear ho0)) | ((with_reducible refine gate_dst (N := 1) rfl ?_); (try (refine gate_guard (by rfl) ?_; dsimp only)); refine box_event ?hg (N := 1) ?hd (cs := #[.int .i64 0, .int .i64 0, .int .i64 0, .slice none 0 0]) (t := 24) ?hr ?_; (case hd => rfl); (case hg => rfl); (case hr => first | (go_simp; done) | (go_simp; rfl)); intro gb182 hg w14 hbox hb; have n0_ := zqi (Kd.R_below (by (with_reducible repeat (first | apply Kd.R_alloc | apply Kd.R_drewN | apply Kd.R_drew)); exact HO174.out) hb); have n1_ := zqi (Kd.R_below (by (with_reducible repeat (first | apply Kd.R_alloc | apply Kd.R_drewN | apply Kd.R_drew)); exact HO180.out) hb); have n2_ := zqi (below_step (zqn HB.out) hb); have n3_ := zqi (hbox); have n4_ := zqi (zqo hg HB.out); have n5_ := zqi (zqo hg HB.out); clear HO174; clear HO180; clear HB; have HO174 := n0_; have HO180 := n1_; have HB := n2_; have BK182 := n3_; have GW182 := n4_; have GE182 := n5_; clear n0_ n1_ n2_ n3_ n4_ n5_; clear hb hbox hg; obtain ⟨hcz15_0, hcz15_1, hcz15_2, hcz15_3, hfz15_0, hfz15_1, hfz15_2, hfz15_3⟩ := zqz4 BK182.out; obtain ⟨Ao16, co16, eo16⟩ := Kd.R_slice HO180.out; subst eo16) | ((with_reducible refine gate_dst (N := 14) rfl ?_); (try (refine gate_guard (by rfl) ?_; dsimp only)); refine Kd.R_lit (Kd.int .i64) _ 3 ?hg (N := 14) ?hd (xs := ([1, 2] : List Int)) (inner := [.int .i64 1, .int .i64 2]) (ok := fun _ => True) (okp := fun _ => True) ?hr ?hp (fun _ hk => hk) trivial (Below.refl _ _) (Nat.le_refl _) (by simp) ?_; (case hd => rfl); (case hg => rfl); (case hr => first | (go_simp; done) | (go_simp; rfl)); (case hp => exact (Reps.one (show Kd.M (Kd.int .i64) _ _ _ 1 [.int .i64 1] from rfl) (Reps.one (show Kd.M (Kd.int .i64) _ _ _ 2 [.int .i64 2] from rfl) (Reps.none _ _)))); intro v184 w17 ho18 hb hg_ hnew_; clear hg_ hnew_; (first | rw [← Ny183.out] at ho18 | (simp only [Int.reduceToNat] at ho18; rw [← Ny183.out] at ho18)); have n0_ := zqi (Kd.R_below (by (with_reducible repeat (first | apply Kd.R_alloc | apply Kd.R_drewN | apply Kd.R_drew)); exact (Kd.R_mono (Kd.R_far (p := ⟨gb182, 3, none⟩) (Kd.R_far (p := ⟨gb182, 2, none⟩) (Kd.R_far (p := ⟨gb182, 1, none⟩) (Kd.R_far (p := ⟨gb182, 0, none⟩) (Kd.R_types HO174.out BK182.out (by decide)) (fun _ hk => hk.2) (.int .i64 t175)) (fun _ hk => hk.2) (.int .i64 t176)) (fun _ hk => hk.2) (.int .i64 t177)) (fun _ hk => hk.2) (.slice Ao16 t178.length co16)) (fun _ h_ => h_.1))) hb); have n1_ := zqi (Kd.R_below (by (with_reducible repeat (first | apply Kd.R_alloc | apply Kd.R_drewN | apply Kd.R_drew)); exact (Kd.R_mono (Kd.R_far (p := ⟨gb182, 3, none⟩) (Kd.R_far (p := ⟨gb182, 2, none⟩) (Kd.R_far (p := ⟨gb182, 1, none⟩) (Kd.R_far (p := ⟨gb182, 0, none⟩) (Kd.R_types HO180.out BK182.out (by decide)) (fun _ hk => hk.2) (.int .i64 t175)) (fun _ hk => hk.2) (.int .i64 t176)) (fun _ hk => hk.2) (.int .i64 t177)) (fun _ hk => hk.2) (.slice Ao16 t178.length co16)) (fun _ h_ => h_.1))) hb); have n2_ := zqi (Kd.R_lower ho18 (below_size (zqn HB.out))); have n3_ := zqi (blk_below (g := gb182) (o := .cells #[.int .i64 t175, .int .i64 t176, .int .i64 t177, .slice Ao16 t178.length co16] 24 (0, 0)) (by exact zqC (blk_set (blk_set (blk_set (blk_set BK182.out 0 _) 1 _) 2 _) 3 _) (by simp only [List.setIfInBounds_toArray, List.set_cons_zero, List.set_cons_succ])) hb); have n4_ := zqi (below_step (zqn HB.out) hb); clear HO174; clear HO180; clear BK182; clear HB; have HO174 := n0_; have HO180 := n1_; have HO185 := n2_; have BK182 := n3_; have HB := n4_; clear n0_ n1_ n2_ n3_ n4_; clear hb ho18; obtain ⟨Ao19, co19, eo19⟩ := Kd.R_slice HO185.out; subst eo19) | ((with_reducible refine gate_callee (f := 6) rfl ?_); refine goesL_ (some 15) rfl rfl Try.func6 (by kernel_rfl) rfl #[.agg #[.int .i64 t175, .int .i64 t176, .int .i64 t177, .slice Ao16 t178.length co16], .slice Ao19 y183.length co19] rfl (by (try simp only [List.map_toArray, List.map_cons, List.map_nil]); first | done | rfl | (simp only [List.length_drop, List.length_take]; rfl)) ?_; (with_reducible refine (sched_Times.calls k t175 t176 t177 _ _ t178 _ _ y183 t186 t189 t190 _ ?side1 ?side2 ?side3 ?side4 A3.out).mono ?_); (case side1 => repeat (first | exact (Kd.R_reads' HO180.out).2.2 | (with_reducible refine Kd.C_alloc ?_ _) | (with_reducible refine Kd.C_drewN ?_ _) | (with_reducible refine Kd.C_drew ?_))); (case side2 => exact (Kd.R_reads' HO180.out).2.1); (case side3 => repeat (first | exact (Kd.R_reads' HO185.out).2.2 | (with_reducible refine Kd.C_alloc ?_ _) | (with_reducible refine Kd.C_drewN ?_ _) | (with_reducible refine Kd.C_drew ?_))); (case side4 => exact (Kd.R_reads' HO185.out).2.1); rintro e w20 ⟨v187, rfl, ho0, hb⟩; refine ⟨_, rfl, ?_⟩; have n0_ := zqi (Kd.R_below (by (with_reducible repeat (first | apply Kd.R_alloc | apply Kd.R_drewN | apply Kd.R_drew)); exact HO174.out) hb); have n1_ := zqi (Kd.R_below (by (with_reducible repeat (first | apply Kd.R_alloc | apply Kd.R_drewN | apply Kd.R_drew)); exact HO180.out) hb); have n2_ := zqi (Kd.R_below (by (with_reducible repeat (first | apply Kd.R_alloc | apply Kd.R_drewN | apply Kd.R_drew)); exact HO185.out) hb); have n3_ := zqi (Kd.R_lower ho0 (below_size (zqn HB.out))); have n4_ := zqi (zqy BK182.out hb); have n5_ := zqi (below_step (zqn HB.out) hb); clear HO174; clear HO180; clear HO185; clear BK182; clear HB; have HO174 := n0_; have HO180 := n1_; have HO185 := n2_; have HO188 := n3_; have BK182 := n4_; have HB := n5_; clear n0_ n1_ n2_ n3_ n4_ n5_; (try clear hb); (try clear hb2); (try clear hk); (try clear hi); (try clear ho0); obtain ⟨Ao21, co21, eo21⟩ := Kd.R_slice HO188.out; subst eo21; have p191 : 0 ≤ (0 : Int) := (by omega); have q191 : 0 < (t186.length : Int) := of_decide_eq_true (by first | (with_reducible assumption) | assumption); obtain ⟨ad191, e191, hx191_0, hx191_1, hx191_2⟩ := at_T36 (Kd.R_reads' HO188.out).2.2 0 p191 q191; cases e191; have qi191 : (0 < t186.length) = True := eq_true (by omega); (try rw [show ((0 : Int)).toNat = 0 from rfl] at hx191_0); (try rw [show 0 * 3 = 0 from rfl] at hx191_0); (try rw [Addr.add_zero'] at hx191_0); (try rw [show ((0 : Int)).toNat = 0 from rfl] at hx191_1); (try rw [show 0 * 3 = 0 from rfl] at hx191_1); (try rw [Addr.add_zero'] at hx191_1); (try rw [show ((0 : Int)).toNat = 0 from rfl] at hx191_2); (try rw [show 0 * 3 = 0 from rfl] at hx191_2); (try rw [Addr.add_zero'] at hx191_2); replace p191 := eq_true p191; replace q191 := eq_true q191; have p192 : 0 ≤ (1 : Int) := (by omega); have q192 : 1 < (t186.length : Int) := of_decide_eq_true (by first | (with_reducible assumption) | assumption); obtain ⟨ad192, e192, hx192_0, hx192_1, hx192_2⟩ := at_T36 (Kd.R_reads' HO188.out).2.2 1 p192 q192; obtain rfl : ad191 = ad192 := (by injection e192); (try simp only [show (1 : Int).toNat = 1 from rfl, Nat.reduceMul, Nat.reduceEqDiff, Go.Addr.add, ↓reduceIte] at hx192_0); (try simp only [show (1 : Int).toNat = 1 from rfl, Nat.reduceMul, Nat.reduceEqDiff, Go.Addr.add, ↓reduceIte] at hx192_1); (try simp only [show (1 : Int).toNat = 1 from rfl, Nat.reduceMul, Nat.reduceEqDiff, Go.Addr.add, ↓reduceIte] at hx192_2); have qi192 : (1 < t186.length) = True := eq_true (by omega); (try rw [show ((1 : Int)).toNat = 1 from rfl] at hx192_0); (try rw [show 1 * 3 = 3 from rfl] at hx192_0); (try rw [show ((1 : Int)).toNat = 1 from rfl] at hx192_1); (try rw [show 1 * 3 = 3 from rfl] at hx192_1); (try rw [show ((1 : Int)).toNat = 1 from rfl] at hx192_2); (try rw [show 1 * 3 = 3 from rfl] at hx192_2); replace p192 := eq_true p192; replace q192 := eq_true q192))
       go_ret
       exact ⟨by first | rfl | (simp [errW_none, errW_some] <;> rfl) | (simp [*, errW_none, errW_some] <;> rfl), by repeat (first | (with_reducible first | exact HB.out | apply zqg | apply zqf | apply zqh | refine below_set ?_ GE182.out) | exact HB.out)⟩
      ·
       rw [if_neg c9] at H
       exact absurd H (by simp)
     ·
      rw [if_neg c8] at H
      exact absurd H (by simp)
    ·
     rw [if_neg c7] at H
     exact absurd H (by simp)
   ·
    rw [if_neg c6] at H
    exact absurd H (by simp)
  ·
   rw [if_neg c5] at H
   exact absurd H (by simp)
 ·
  rw [if_neg c4] at H
  exact absurd H (by simp)

end Go.Proofs.Ytndfpbjpdoigfaa.PA
