-- Printed for this claim by wip/tools/xprint.py over the kit's print; the contracts marked BY HAND are this session's own.
import Derived.Test.YtdkhajgfifaibaaDoorPAx0
import Derived.Test.YtdkhajgfifaibaaDoorPAx4
import Derived.Test.YtdkhajgfifaibaaDoorPAx8
import Derived.Test.YtdkhajgfifaibaaDoorPAx9
import Derived.Test.YtdkhajgfifaibaaDoorPAx12
namespace Go.Proofs.YtdkhajgfifaibaaDoor.PA
open Go.RowKit Go.Proofs.YtdkhajgfifaibaaDoorW.PrintWords Go.Proofs.YtdkhajgfifaibaaDoorW.PrintLast Go.Proofs.YtdkhajgfifaibaaDoorW.PrintMore
attribute [local go_sem] max2_int min2_int max_two min_two max_three min_three max_four min_four   -- for this text's walks alone
set_option linter.unusedVariables false
set_option linter.unusedSimpArgs false

/-! ### haulierlaw08_awake: function 5 -/
def haulierlaw08_awake.f (k : Nat)  : Option (Bool) := (haulierlaw05_Small.f).bind fun t219 => ((inst_Parse.f k (([49, 32, 49, 32, 53, 10, 48, 32, 48, 32, 48, 32, 48, 32, 49, 48, 48, 32, 48, 10, 51, 32, 48, 32, 50, 32, 48, 32, 53, 48, 32, 49, 10, 48, 32, 52, 32, 45, 50, 32, 48, 32, 57, 48, 32, 49, 10] : List Int))).bind fun bt223 => ((plan_Cost.f k bt223.1 bt223.2.1 bt223.2.2.1 bt223.2.2.2.1 (([(([1, 2] : List Int))] : List (List Int)))).bind fun bt237 => (if bt237.2 = 0 then (if bt237.1 = 12 then ((plan_Print.f k (([(([3, 4] : List Int)), (([1, 2] : List Int))] : List (List Int)))).bind fun t248 => (some ((strOfNums t248).toList == ([49, 32, 50, 10, 51, 32, 52, 10] : List UInt8)))) else (none)) else (none))))
theorem haulierlaw08_awake.mono : ∀ k, LeO (haulierlaw08_awake.f k ) (haulierlaw08_awake.f (k + 1) ) := by
  intro  k
  unfold haulierlaw08_awake.f
  repeat' first
      | (with_reducible exact inst_Parse.mono _ _)
      | (with_reducible exact plan_Cost.mono _ _ _ _ _ _)
      | (with_reducible exact plan_Print.mono _ _)
      | (with_reducible exact LeO.refl _)
      | (with_reducible exact LeO.none _)
      | (with_reducible refine LeO.ite ?_ ?_)
      | (with_reducible refine LeO.bind ?_ (fun _ => ?_))
      | exact inst_Parse.mono _ _
      | exact plan_Cost.mono _ _ _ _ _ _
      | exact plan_Print.mono _ _
      | exact LeO.none _
      | refine LeO.ite ?_ ?_
      | refine LeO.bind ?_ (fun _ => ?_)
theorem conv_event {P : Program} {ops : Array Oper} {Q : Exit → Act → World → Prop} {rest : List Oper} {o : Oper} {a : Act} {W : World} (base : Nat) (hgd : o.guard = none) {N : Tmp} (_hd : o.dst = some N) {src dst e : TypeId} {x : Operand} {s : ByteArray} (ho : o.op = .convert src dst x) (hx : a.eval x = .string s)
    (hs : P.underlying src = some .string) (hds : P.underlying dst = some (.slice e)) (he : P.underlying e = some (.int .u8)) (hm : s.size ≤ 9223372036854775807)
    (h : ∀ v1 w1, Kd.V (Kd.int .u8) e w1 base (fun _ => True) v1 (bytesOf s) → Below W.heap.size W w1 → wpList P ops Q rest (a.put o.dst v1) w1) : wpList P ops Q (o :: rest) a W := by
  have hrun : (execOp a.eval o).run P W = .ok (.value (.slice (some ⟨W.heap.size, 0, none⟩) s.size (grownCap W s.size 0 e))) (Lib.bytesWorld W e s) := by
    have h0 := Lib.run_convert_string_bytes W src dst e s hs hds he
    unfold execOp
    simp [ho, hx, h0, Result.andThen]
  have hlen := bytesOf_length s
  have hcap : s.size ≤ grownCap W s.size 0 e := grownCap_ge _ _ _ _
  refine Kd.event_run hgd hrun (h _ _ ⟨some ⟨W.heap.size, 0, none⟩, grownCap W s.size 0 e, by rw [hlen], by rw [hlen]; exact hcap, fun W' hW => ?_⟩ ⟨rfl, rfl, rfl, by rw [Lib.bytesWorld_size]; omega, fun k hk => Lib.bytesWorld_at_old W e s k hk⟩)
  refine Kd.C_of_reads (d := 0) ⟨by rw [hlen], by rw [hlen]; exact hm, fun _ => ⟨_, rfl, fun j hj => ?_⟩⟩
  rw [hlen] at hj
  have hb : W'.heap[W.heap.size]? = (Lib.bytesWorld W e s).heap[W.heap.size]? := hW _ trivial (by rw [Lib.bytesWorld_size]; omega)
  have hc := Lib.bytesWorld_cell W e s j hj
  have hc2 : W'.cell? ⟨W.heap.size, j, none⟩ = (Lib.bytesWorld W e s).cell? ⟨W.heap.size, j, none⟩ := by unfold World.cell?; rw [hb]
  rw [add_plain, hc2, hc]
  simp [bytesOf, List.getD, List.getElem?_map, hj]
set_option maxHeartbeats 16000000 in
set_option maxRecDepth 100000 in
theorem haulierlaw08_awake.calls (k : Nat)  (r : Bool) (w : World) (h : haulierlaw08_awake.f k  = some r) (hT : Go.Proofs.YtdkhajgfifaibaaDoor.Scan.NumTab w) :
  Calls Tryd.prog 5 #[] w fun e w' => e = .returned (.bool r) ∧ Below w.heap.size w w' := by
 have HT := zqi hT
 clear hT
 have hu39 := Tryd.underlying39
 have hu24 := Tryd.underlying24
 have HB := zqi (Below.refl w.heap.size w)
 have H : ((haulierlaw05_Small.f).bind fun t219 => ((inst_Parse.f k (([49, 32, 49, 32, 53, 10, 48, 32, 48, 32, 48, 32, 48, 32, 49, 48, 48, 32, 48, 10, 51, 32, 48, 32, 50, 32, 48, 32, 53, 48, 32, 49, 10, 48, 32, 52, 32, 45, 50, 32, 48, 32, 57, 48, 32, 49, 10] : List Int))).bind fun bt223 => ((plan_Cost.f k bt223.1 bt223.2.1 bt223.2.2.1 bt223.2.2.2.1 (([(([1, 2] : List Int))] : List (List Int)))).bind fun bt237 => (if bt237.2 = 0 then (if bt237.1 = 12 then ((plan_Print.f k (([(([3, 4] : List Int)), (([1, 2] : List Int))] : List (List Int)))).bind fun t248 => (some ((strOfNums t248).toList == ([49, 32, 50, 10, 51, 32, 52, 10] : List UInt8)))) else (none)) else (none))))) = some r := h
 clear h
 replace H := Option.bind_eq_some_iff.mp H
 obtain ⟨t219, A10, H⟩ := H
 replace H : ((inst_Parse.f k (([49, 32, 49, 32, 53, 10, 48, 32, 48, 32, 48, 32, 48, 32, 49, 48, 48, 32, 48, 10, 51, 32, 48, 32, 50, 32, 48, 32, 53, 48, 32, 49, 10, 48, 32, 52, 32, 45, 50, 32, 48, 32, 57, 48, 32, 49, 10] : List Int))).bind fun bt223 => ((plan_Cost.f k bt223.1 bt223.2.1 bt223.2.2.1 bt223.2.2.2.1 (([(([1, 2] : List Int))] : List (List Int)))).bind fun bt237 => (if bt237.2 = 0 then (if bt237.1 = 12 then ((plan_Print.f k (([(([3, 4] : List Int)), (([1, 2] : List Int))] : List (List Int)))).bind fun t248 => (some ((strOfNums t248).toList == ([49, 32, 50, 10, 51, 32, 52, 10] : List UInt8)))) else (none)) else (none)))) = some r := H
 have A1 := zqi A10
 clear A10
 obtain ⟨y220, hy220⟩ : ∃ y_ : List Int, y_ = (([49, 32, 49, 32, 53, 10, 48, 32, 48, 32, 48, 32, 48, 32, 49, 48, 48, 32, 48, 10, 51, 32, 48, 32, 50, 32, 48, 32, 53, 48, 32, 49, 10, 48, 32, 52, 32, 45, 50, 32, 48, 32, 57, 48, 32, 49, 10] : List Int)) := ⟨_, rfl⟩
 replace H : ((inst_Parse.f k y220).bind fun bt223 => ((plan_Cost.f k bt223.1 bt223.2.1 bt223.2.2.1 bt223.2.2.2.1 (([(([1, 2] : List Int))] : List (List Int)))).bind fun bt237 => (if bt237.2 = 0 then (if bt237.1 = 12 then ((plan_Print.f k (([(([3, 4] : List Int)), (([1, 2] : List Int))] : List (List Int)))).bind fun t248 => (some ((strOfNums t248).toList == ([49, 32, 50, 10, 51, 32, 52, 10] : List UInt8)))) else (none)) else (none)))) = some r := by first | (rw [hy220]; with_reducible exact H) | (have H2_ := (Option.bind_some _ _).symm.trans H; rw [hy220]; with_reducible exact H2_) | (have H2_ := (Option.bind_some _ _).symm.trans H; with_reducible exact H2_) | with_reducible exact H | (rw [hy220]; exact H) | exact H
 have Ny220 := zqi hy220
 clear hy220
 replace H := Option.bind_eq_some_iff.mp H
 obtain ⟨⟨t223, t224, t225, t226, t229⟩, A20, H⟩ := H
 replace H : ((plan_Cost.f k t223 t224 t225 t226 (([(([1, 2] : List Int))] : List (List Int)))).bind fun bt237 => (if bt237.2 = 0 then (if bt237.1 = 12 then ((plan_Print.f k (([(([3, 4] : List Int)), (([1, 2] : List Int))] : List (List Int)))).bind fun t248 => (some ((strOfNums t248).toList == ([49, 32, 50, 10, 51, 32, 52, 10] : List UInt8)))) else (none)) else (none))) = some r := H
 have A2 := zqi A20
 clear A20
 obtain ⟨y231, hy231⟩ : ∃ y_ : List Int, y_ = (([1, 2] : List Int)) := ⟨_, rfl⟩
 replace H : ((plan_Cost.f k t223 t224 t225 t226 (([y231] : List (List Int)))).bind fun bt237 => (if bt237.2 = 0 then (if bt237.1 = 12 then ((plan_Print.f k (([(([3, 4] : List Int)), (([1, 2] : List Int))] : List (List Int)))).bind fun t248 => (some ((strOfNums t248).toList == ([49, 32, 50, 10, 51, 32, 52, 10] : List UInt8)))) else (none)) else (none))) = some r := by first | (rw [hy231]; with_reducible exact H) | (have H2_ := (Option.bind_some _ _).symm.trans H; rw [hy231]; with_reducible exact H2_) | (have H2_ := (Option.bind_some _ _).symm.trans H; with_reducible exact H2_) | with_reducible exact H | (rw [hy231]; exact H) | exact H
 have Ny231 := zqi hy231
 clear hy231
 obtain ⟨y234, hy234⟩ : ∃ y_ : List (List Int), y_ = (([y231] : List (List Int))) := ⟨_, rfl⟩
 replace H : ((plan_Cost.f k t223 t224 t225 t226 y234).bind fun bt237 => (if bt237.2 = 0 then (if bt237.1 = 12 then ((plan_Print.f k (([(([3, 4] : List Int)), (([1, 2] : List Int))] : List (List Int)))).bind fun t248 => (some ((strOfNums t248).toList == ([49, 32, 50, 10, 51, 32, 52, 10] : List UInt8)))) else (none)) else (none))) = some r := by first | (rw [hy234]; with_reducible exact H) | (have H2_ := (Option.bind_some _ _).symm.trans H; rw [hy234]; with_reducible exact H2_) | (have H2_ := (Option.bind_some _ _).symm.trans H; with_reducible exact H2_) | with_reducible exact H | (rw [hy234]; exact H) | exact H
 have Ny234 := zqi hy234
 clear hy234
 replace H := Option.bind_eq_some_iff.mp H
 obtain ⟨⟨t237, t238⟩, A30, H⟩ := H
 replace H : (if t238 = 0 then (if t237 = 12 then ((plan_Print.f k (([(([3, 4] : List Int)), (([1, 2] : List Int))] : List (List Int)))).bind fun t248 => (some ((strOfNums t248).toList == ([49, 32, 50, 10, 51, 32, 52, 10] : List UInt8)))) else (none)) else (none)) = some r := H
 have A3 := zqi A30
 clear A30
 by_cases c4 : t238 = 0
 ·
  rw [if_pos c4] at H
  have c4b0 : (t238 == 0) = true := beq_iff_eq.mpr c4
  have c4b1 : (t238 != 0) = false := bne_eq_false_iff_eq.mpr c4
  clear c4
  by_cases c5 : t237 = 12
  ·
   rw [if_pos c5] at H
   have c5b0 : (t237 == 12) = true := beq_iff_eq.mpr c5
   have c5b1 : (t237 != 12) = false := bne_eq_false_iff_eq.mpr c5
   clear c5
   obtain ⟨y239, hy239⟩ : ∃ y_ : List Int, y_ = (([3, 4] : List Int)) := ⟨_, rfl⟩
   replace H : ((plan_Print.f k (([y239, (([1, 2] : List Int))] : List (List Int)))).bind fun t248 => (some ((strOfNums t248).toList == ([49, 32, 50, 10, 51, 32, 52, 10] : List UInt8)))) = some r := by first | (rw [hy239]; with_reducible exact H) | (have H2_ := (Option.bind_some _ _).symm.trans H; rw [hy239]; with_reducible exact H2_) | (have H2_ := (Option.bind_some _ _).symm.trans H; with_reducible exact H2_) | with_reducible exact H | (rw [hy239]; exact H) | exact H
   have Ny239 := zqi hy239
   clear hy239
   obtain ⟨y242, hy242⟩ : ∃ y_ : List Int, y_ = (([1, 2] : List Int)) := ⟨_, rfl⟩
   replace H : ((plan_Print.f k (([y239, y242] : List (List Int)))).bind fun t248 => (some ((strOfNums t248).toList == ([49, 32, 50, 10, 51, 32, 52, 10] : List UInt8)))) = some r := by first | (rw [hy242]; with_reducible exact H) | (have H2_ := (Option.bind_some _ _).symm.trans H; rw [hy242]; with_reducible exact H2_) | (have H2_ := (Option.bind_some _ _).symm.trans H; with_reducible exact H2_) | with_reducible exact H | (rw [hy242]; exact H) | exact H
   have Ny242 := zqi hy242
   clear hy242
   obtain ⟨y245, hy245⟩ : ∃ y_ : List (List Int), y_ = (([y239, y242] : List (List Int))) := ⟨_, rfl⟩
   replace H : ((plan_Print.f k y245).bind fun t248 => (some ((strOfNums t248).toList == ([49, 32, 50, 10, 51, 32, 52, 10] : List UInt8)))) = some r := by first | (rw [hy245]; with_reducible exact H) | (have H2_ := (Option.bind_some _ _).symm.trans H; rw [hy245]; with_reducible exact H2_) | (have H2_ := (Option.bind_some _ _).symm.trans H; with_reducible exact H2_) | with_reducible exact H | (rw [hy245]; exact H) | exact H
   have Ny245 := zqi hy245
   clear hy245
   replace H := Option.bind_eq_some_iff.mp H
   obtain ⟨t248, A60, H⟩ := H
   replace H : (some ((strOfNums t248).toList == ([49, 32, 50, 10, 51, 32, 52, 10] : List UInt8))) = some r := H
   have A6 := zqi A60
   clear A60
   obtain rfl := Option.some.inj H
   go_enter Tryd.func5, Tryd.ntmps5
   have HBY := zqi (show bytesOf t219 = y220 from by rw [← Option.some.inj (show some _ = some t219 from A1.out), Ny220.out]; rfl)
   have HSZ := zqi (show t219.size ≤ 9223372036854775807 from by rw [← bytesOf_length, HBY.out, Ny220.out]; decide)
   go_wp2_with (first | ((with_reducible refine gate_callee (f := 17) rfl ?_); refine goesL_ (some 6) rfl rfl Tryd.func17 (by kernel_rfl) rfl #[] rfl (by (try simp only [List.map_toArray, List.map_cons, List.map_nil]); first | done | rfl | (simp only [List.length_drop, List.length_take]; rfl)) ?_; (with_reducible refine (haulierlaw05_Small.calls  t219 _ A1.out).mono ?_); rintro e w' ⟨rfl, ⟨nd, rfl⟩⟩; refine ⟨_, rfl, ?_⟩) | ((with_reducible refine gate_dst (N := 7) rfl ?_); (try (refine gate_guard (by rfl) ?_; dsimp only)); refine conv_event w.heap.size ?hg (N := 7) ?hd (src := 9) (dst := 25) (e := 5) (x := .tmp 6) (s := t219) rfl rfl Tryd.underlying9 Tryd.underlying25 Tryd.underlying5 HSZ.out ?_; (case hd => rfl); (case hg => rfl); intro v221 w7 ho8 hb; rw [HBY.out] at ho8; have n0_ := zqi ho8; have n1_ := zqi (below_step (zqn HB.out) hb); clear HB; have HO222 := n0_; have HB := n1_; clear n0_ n1_; clear hb ho8; obtain ⟨Ao9, co9, eo9⟩ := Kd.V_slice HO222.out; subst eo9) | ((with_reducible refine gate_callee (f := 16) rfl ?_); refine goesL_ (some 8) rfl rfl Tryd.func16 (by kernel_rfl) rfl #[.slice Ao9 y220.length co9] rfl (by (try simp only [List.map_toArray, List.map_cons, List.map_nil]); first | done | rfl | (simp only [List.length_drop, List.length_take]; rfl)) ?_; (with_reducible refine (inst_Parse.calls k _ _ y220 t223 t224 t225 t226 t229 _ ?side1 ?side2 A2.out).mono ?_); (case side1 => repeat (first | exact (Kd.V_reads' HO222.out).2.2 | (with_reducible refine Kd.C_alloc ?_ _) | (with_reducible refine Kd.C_drewN ?_ _) | (with_reducible refine Kd.C_drew ?_))); (case side2 => exact (Kd.V_reads' HO222.out).2.1); rintro e w10 ⟨v227, rfl, ho0, hb⟩; refine ⟨_, rfl, ?_⟩; have n0_ := zqi (Kd.R_nil (Kd.int .u8) 5 w10 w.heap.size (fun _ => True)); have n1_ := zqi (Kd.R_lower ho0 (below_size (zqn HB.out))); have n2_ := zqi (below_step (zqn HB.out) hb); clear HO222; clear HB; have HO222 := n0_; have HO228 := n1_; have HB := n2_; clear n0_ n1_ n2_; (try clear hb); (try clear hb2); (try clear hk); (try clear hi); (try clear ho0)) | ((with_reducible refine gate_dst (N := 1) rfl ?_); (try (refine gate_guard (by rfl) ?_; dsimp only)); refine box_event ?hg (N := 1) ?hd (cs := #[.int .i64 0, .int .i64 0, .int .i64 0, .slice none 0 0]) (t := 39) ?hr ?_; (case hd => rfl); (case hg => rfl); (case hr => first | (go_simp; done) | (go_simp; rfl)); intro gb230 hg w11 hbox hb; have n0_ := zqi (Kd.R_below (by (with_reducible repeat (first | apply Kd.R_alloc | apply Kd.R_drewN | apply Kd.R_drew)); exact HO222.out) hb); have n1_ := zqi (Kd.R_below (by (with_reducible repeat (first | apply Kd.R_alloc | apply Kd.R_drewN | apply Kd.R_drew)); exact HO228.out) hb); have n2_ := zqi (below_step (zqn HB.out) hb); have n3_ := zqi (hbox); have n4_ := zqi (zqo hg HB.out); have n5_ := zqi (zqo hg HB.out); clear HO222; clear HO228; clear HB; have HO222 := n0_; have HO228 := n1_; have HB := n2_; have BK230 := n3_; have GW230 := n4_; have GE230 := n5_; clear n0_ n1_ n2_ n3_ n4_ n5_; clear hb hbox hg; obtain ⟨hcz12_0, hcz12_1, hcz12_2, hcz12_3, hfz12_0, hfz12_1, hfz12_2, hfz12_3⟩ := zqz4 BK230.out; obtain ⟨Ao13, co13, eo13⟩ := Kd.R_slice HO228.out; subst eo13) | ((with_reducible refine gate_dst (N := 13) rfl ?_); (try (refine gate_guard (by rfl) ?_; dsimp only)); refine Kd.R_lit (Kd.int .i64) _ 3 ?hg (N := 13) ?hd (xs := ([1, 2] : List Int)) (inner := [.int .i64 1, .int .i64 2]) (ok := fun _ => True) (okp := fun _ => True) ?hr ?hp (fun _ hk => hk) trivial (Below.refl _ _) (Nat.le_refl _) (by simp) ?_; (case hd => rfl); (case hg => rfl); (case hr => first | (go_simp; done) | (go_simp; rfl)); (case hp => exact (Reps.one (show Kd.M (Kd.int .i64) _ _ _ 1 [.int .i64 1] from rfl) (Reps.one (show Kd.M (Kd.int .i64) _ _ _ 2 [.int .i64 2] from rfl) (Reps.none _ _)))); intro v232 w14 ho15 hb hg_ hnew_; clear hg_ hnew_; (first | rw [← Ny231.out] at ho15 | (simp only [Int.reduceToNat] at ho15; rw [← Ny231.out] at ho15)); have n0_ := zqi (Kd.R_below (by (with_reducible repeat (first | apply Kd.R_alloc | apply Kd.R_drewN | apply Kd.R_drew)); exact (Kd.R_mono (Kd.R_far (p := ⟨gb230, 3, none⟩) (Kd.R_far (p := ⟨gb230, 2, none⟩) (Kd.R_far (p := ⟨gb230, 1, none⟩) (Kd.R_far (p := ⟨gb230, 0, none⟩) (Kd.R_types HO222.out BK230.out (by decide)) (fun _ hk => hk.2) (.int .i64 t223)) (fun _ hk => hk.2) (.int .i64 t224)) (fun _ hk => hk.2) (.int .i64 t225)) (fun _ hk => hk.2) (.slice Ao13 t226.length co13)) (fun _ h_ => h_.1))) hb); have n1_ := zqi (Kd.R_below (by (with_reducible repeat (first | apply Kd.R_alloc | apply Kd.R_drewN | apply Kd.R_drew)); exact (Kd.R_mono (Kd.R_far (p := ⟨gb230, 3, none⟩) (Kd.R_far (p := ⟨gb230, 2, none⟩) (Kd.R_far (p := ⟨gb230, 1, none⟩) (Kd.R_far (p := ⟨gb230, 0, none⟩) (Kd.R_types HO228.out BK230.out (by decide)) (fun _ hk => hk.2) (.int .i64 t223)) (fun _ hk => hk.2) (.int .i64 t224)) (fun _ hk => hk.2) (.int .i64 t225)) (fun _ hk => hk.2) (.slice Ao13 t226.length co13)) (fun _ h_ => h_.1))) hb); have n2_ := zqi (Kd.R_lower ho15 (below_size (zqn HB.out))); have n3_ := zqi (blk_below (g := gb230) (o := .cells #[.int .i64 t223, .int .i64 t224, .int .i64 t225, .slice Ao13 t226.length co13] 39 (0, 0)) (by exact zqC (blk_set (blk_set (blk_set (blk_set BK230.out 0 _) 1 _) 2 _) 3 _) (by simp only [List.setIfInBounds_toArray, List.set_cons_zero, List.set_cons_succ])) hb); have n4_ := zqi (below_step (zqn HB.out) hb); clear HO222; clear HO228; clear BK230; clear HB; have HO222 := n0_; have HO228 := n1_; have HO233 := n2_; have BK230 := n3_; have HB := n4_; clear n0_ n1_ n2_ n3_ n4_; clear hb ho15; obtain ⟨Ao16, co16, eo16⟩ := Kd.R_slice HO233.out; subst eo16) | ((with_reducible refine gate_dst (N := 14) rfl ?_); (try (refine gate_guard (by rfl) ?_; dsimp only)); refine Kd.N_lit (Kd.slice 3 (Kd.int .i64)) _ 36 ?hg (N' := 14) ?hd (xs := ([y231] : List (List Int))) (inner := [.slice Ao16 y231.length co16]) (ok := (fun k_ => some k_ ≠ (.slice none 0 0 : Value).ownBlock ∧ some k_ ≠ (.slice Ao13 t226.length co13 : Value).ownBlock ∧ k_ ≠ gb230)) (okp := (fun k_ => some k_ ≠ (.slice none 0 0 : Value).ownBlock ∧ some k_ ≠ (.slice Ao13 t226.length co13 : Value).ownBlock ∧ k_ ≠ gb230)) ?hr ?hp (fun _ hk => hk) ((show ∀ k_, w14.heap.size ≤ k_ → (fun k_ => some k_ ≠ (.slice none 0 0 : Value).ownBlock ∧ some k_ ≠ (.slice Ao13 t226.length co13 : Value).ownBlock ∧ k_ ≠ gb230) k_ from fun k_ hk => ⟨Kd.fresh' (Kd.R_lt (by (with_reducible repeat (first | apply Kd.R_alloc | apply Kd.R_drewN | apply Kd.R_drew)); exact HO222.out)) k_ hk, Kd.fresh' (Kd.R_lt (by (with_reducible repeat (first | apply Kd.R_alloc | apply Kd.R_drewN | apply Kd.R_drew)); exact HO228.out)) k_ hk, Kd.freshB (g := gb230) (o := .cells #[.int .i64 t223, .int .i64 t224, .int .i64 t225, .slice Ao13 t226.length co13] 39 (0, 0)) (zqm BK230.out) k_ hk⟩) _ (Nat.le_refl _)) (Below.refl _ _) (Nat.le_refl _) (by simp) ?_; (case hd => rfl); (case hg => rfl); (case hr => first | (go_simp; done) | (go_simp; rfl)); (case hp => exact (Reps.one (show Kd.FK (Kd.slice 3 (Kd.int .i64)) _ _ y231 [.slice Ao16 y231.length co16] from (Kd.FK_slice_mk (Kd.R_reads' (Kd.R_mono (ok' := (fun k_ => some k_ ≠ (.slice none 0 0 : Value).ownBlock ∧ some k_ ≠ (.slice Ao13 t226.length co13 : Value).ownBlock ∧ k_ ≠ gb230)) (Kd.R_types (Kd.R_apart' (Kd.R_apart' (HO233.out) (Kd.R_typed HO222.out) (by decide)) (Kd.R_typed HO228.out) (by decide)) BK230.out (by decide)) (fun k_ hk => ⟨hk.1.1.2, ⟨hk.1.2, hk.2⟩⟩))).2.1 (Kd.R_F (Kd.R_mono (ok' := (fun k_ => some k_ ≠ (.slice none 0 0 : Value).ownBlock ∧ some k_ ≠ (.slice Ao13 t226.length co13 : Value).ownBlock ∧ k_ ≠ gb230)) (Kd.R_types (Kd.R_apart' (Kd.R_apart' (HO233.out) (Kd.R_typed HO222.out) (by decide)) (Kd.R_typed HO228.out) (by decide)) BK230.out (by decide)) (fun k_ hk => ⟨hk.1.1.2, ⟨hk.1.2, hk.2⟩⟩))))) (Reps.none _ _))); intro v235 w17 ho18 hb hg_ hnew_; clear hg_ hnew_; (first | rw [← Ny234.out] at ho18 | (simp only [Int.reduceToNat] at ho18; rw [← Ny234.out] at ho18)); have n0_ := zqi (Kd.R_below (by (with_reducible repeat (first | apply Kd.R_alloc | apply Kd.R_drewN | apply Kd.R_drew)); exact HO222.out) hb); have n1_ := zqi (Kd.R_below (by (with_reducible repeat (first | apply Kd.R_alloc | apply Kd.R_drewN | apply Kd.R_drew)); exact HO228.out) hb); have n2_ := zqi (Kd.N_lower ho18 (below_size (zqn HB.out))); have n3_ := zqi (zqy BK230.out hb); have n4_ := zqi (below_step (zqn HB.out) hb); clear HO222; clear HO228; clear BK230; clear HB; clear HO233; have HO222 := n0_; have HO228 := n1_; have HO236 := n2_; have BK230 := n3_; have HB := n4_; clear n0_ n1_ n2_ n3_ n4_; clear hb ho18; obtain ⟨Ao19, co19, eo19⟩ := Kd.N_slice HO236.out; subst eo19) | ((with_reducible refine gate_callee (f := 18) rfl ?_); refine goesL_ (some 16) rfl rfl Tryd.func18 (by kernel_rfl) rfl #[.agg #[.int .i64 t223, .int .i64 t224, .int .i64 t225, .slice Ao13 t226.length co13], .agg #[.slice Ao19 y234.length co19]] rfl (by (try simp only [List.map_toArray, List.map_cons, List.map_nil]); first | done | rfl | (simp only [List.length_drop, List.length_take]; rfl)) ?_; (with_reducible refine (plan_Cost.calls k t223 t224 t225 _ _ t226 _ _ y234 t237 t238 _ ?side1 ?side2 ?side3 ?side4 A3.out).mono ?_); (case side1 => repeat (first | exact (Kd.R_reads' HO228.out).2.2 | (with_reducible refine Kd.C_alloc ?_ _) | (with_reducible refine Kd.C_drewN ?_ _) | (with_reducible refine Kd.C_drew ?_))); (case side2 => exact (Kd.R_reads' HO228.out).2.1); (case side3 => repeat (first | exact (Kd.N_reads' HO236.out).2.2 | (with_reducible refine Kd.C_alloc ?_ _) | (with_reducible refine Kd.C_drewN ?_ _) | (with_reducible refine Kd.C_drew ?_))); (case side4 => exact (Kd.N_reads' HO236.out).2.1); rintro e w20 ⟨rfl, hb⟩; refine ⟨_, rfl, ?_⟩; have n0_ := zqi (Kd.R_below (by (with_reducible repeat (first | apply Kd.R_alloc | apply Kd.R_drewN | apply Kd.R_drew)); exact HO222.out) hb); have n1_ := zqi (Kd.R_below (by (with_reducible repeat (first | apply Kd.R_alloc | apply Kd.R_drewN | apply Kd.R_drew)); exact HO228.out) hb); have n2_ := zqi (Kd.N_below (by (with_reducible repeat (first | apply Kd.N_alloc | apply Kd.N_drewN | apply Kd.N_drew)); exact HO236.out) hb); have n3_ := zqi (zqy BK230.out hb); have n4_ := zqi (below_step (zqn HB.out) hb); clear HO222; clear HO228; clear HO236; clear BK230; clear HB; have HO222 := n0_; have HO228 := n1_; have HO236 := n2_; have BK230 := n3_; have HB := n4_; clear n0_ n1_ n2_ n3_ n4_; (try clear hb); (try clear hb2); (try clear hk); (try clear hi)) | ((with_reducible refine gate_dst (N := 26) rfl ?_); (try (refine gate_guard (by rfl) ?_; dsimp only)); refine Kd.R_lit (Kd.int .i64) _ 3 ?hg (N := 26) ?hd (xs := ([3, 4] : List Int)) (inner := [.int .i64 3, .int .i64 4]) (ok := fun _ => True) (okp := fun _ => True) ?hr ?hp (fun _ hk => hk) trivial (Below.refl _ _) (Nat.le_refl _) (by simp) ?_; (case hd => rfl); (case hg => rfl); (case hr => first | (go_simp; done) | (go_simp; rfl)); (case hp => exact (Reps.one (show Kd.M (Kd.int .i64) _ _ _ 3 [.int .i64 3] from rfl) (Reps.one (show Kd.M (Kd.int .i64) _ _ _ 4 [.int .i64 4] from rfl) (Reps.none _ _)))); intro v240 w21 ho22 hb hg_ hnew_; clear hg_ hnew_; (first | rw [← Ny239.out] at ho22 | (simp only [Int.reduceToNat] at ho22; rw [← Ny239.out] at ho22)); have n0_ := zqi (Kd.R_below (by (with_reducible repeat (first | apply Kd.R_alloc | apply Kd.R_drewN | apply Kd.R_drew)); exact HO222.out) hb); have n1_ := zqi (Kd.R_below (by (with_reducible repeat (first | apply Kd.R_alloc | apply Kd.R_drewN | apply Kd.R_drew)); exact HO228.out) hb); have n2_ := zqi (Kd.N_elder' (by (with_reducible repeat (first | apply Kd.N_alloc | apply Kd.N_drewN | apply Kd.N_drew)); exact HO236.out) (Kd.R_base ho22) hb); have n3_ := zqi (Kd.R_lower ho22 (below_size (zqn HB.out))); have n4_ := zqi (zqy BK230.out hb); have n5_ := zqi (below_step (zqn HB.out) hb); clear HO222; clear HO228; clear HO236; clear BK230; clear HB; have HO222 := n0_; have HO228 := n1_; have HO236 := n2_; have HO241 := n3_; have BK230 := n4_; have HB := n5_; clear n0_ n1_ n2_ n3_ n4_ n5_; clear hb ho22) | ((with_reducible refine gate_dst (N := 27) rfl ?_); (try (refine gate_guard (by rfl) ?_; dsimp only)); refine Kd.R_lit (Kd.int .i64) _ 3 ?hg (N := 27) ?hd (xs := ([1, 2] : List Int)) (inner := [.int .i64 1, .int .i64 2]) (ok := fun _ => True) (okp := fun _ => True) ?hr ?hp (fun _ hk => hk) trivial (Below.refl _ _) (Nat.le_refl _) (by simp) ?_; (case hd => rfl); (case hg => rfl); (case hr => first | (go_simp; done) | (go_simp; rfl)); (case hp => exact (Reps.one (show Kd.M (Kd.int .i64) _ _ _ 1 [.int .i64 1] from rfl) (Reps.one (show Kd.M (Kd.int .i64) _ _ _ 2 [.int .i64 2] from rfl) (Reps.none _ _)))); intro v243 w23 ho24 hb hg_ hnew_; clear hg_ hnew_; (first | rw [← Ny242.out] at ho24 | (simp only [Int.reduceToNat] at ho24; rw [← Ny242.out] at ho24)); have n0_ := zqi (Kd.R_below (by (with_reducible repeat (first | apply Kd.R_alloc | apply Kd.R_drewN | apply Kd.R_drew)); exact HO222.out) hb); have n1_ := zqi (Kd.R_below (by (with_reducible repeat (first | apply Kd.R_alloc | apply Kd.R_drewN | apply Kd.R_drew)); exact HO228.out) hb); have n2_ := zqi (Kd.N_elder' (by (with_reducible repeat (first | apply Kd.N_alloc | apply Kd.N_drewN | apply Kd.N_drew)); exact HO236.out) (Kd.R_base ho24) hb); have n3_ := zqi (Kd.R_elder' (by (with_reducible repeat (first | apply Kd.R_alloc | apply Kd.R_drewN | apply Kd.R_drew)); exact HO241.out) (Kd.R_base ho24) hb); have n4_ := zqi (Kd.R_lower (Kd.R_new' ho24 (Kd.R_lt (by (with_reducible repeat (first | apply Kd.R_alloc | apply Kd.R_drewN | apply Kd.R_drew)); exact HO241.out))) (below_size (zqn HB.out))); have n5_ := zqi (zqy BK230.out hb); have n6_ := zqi (below_step (zqn HB.out) hb); clear HO222; clear HO228; clear HO236; clear HO241; clear BK230; clear HB; have HO222 := n0_; have HO228 := n1_; have HO236 := n2_; have HO241 := n3_; have HO244 := n4_; have BK230 := n5_; have HB := n6_; clear n0_ n1_ n2_ n3_ n4_ n5_ n6_; clear hb ho24; obtain ⟨Ao25, co25, eo25⟩ := Kd.R_slice HO241.out; subst eo25; obtain ⟨Ao26, co26, eo26⟩ := Kd.R_slice HO244.out; subst eo26) | ((with_reducible refine gate_dst (N := 28) rfl ?_); (try (refine gate_guard (by rfl) ?_; dsimp only)); refine Kd.N_lit (Kd.slice 3 (Kd.int .i64)) _ 36 ?hg (N' := 28) ?hd (xs := ([y239, y242] : List (List Int))) (inner := [.slice Ao25 y239.length co25, .slice Ao26 y242.length co26]) (ok := (fun k_ => some k_ ≠ (.slice none 0 0 : Value).ownBlock ∧ some k_ ≠ (.slice Ao13 t226.length co13 : Value).ownBlock ∧ some k_ ≠ (.slice Ao19 y234.length co19 : Value).ownBlock ∧ k_ ≠ gb230)) (okp := (fun k_ => some k_ ≠ (.slice none 0 0 : Value).ownBlock ∧ some k_ ≠ (.slice Ao13 t226.length co13 : Value).ownBlock ∧ some k_ ≠ (.slice Ao19 y234.length co19 : Value).ownBlock ∧ k_ ≠ gb230)) ?hr ?hp (fun _ hk => hk) ((show ∀ k_, w23.heap.size ≤ k_ → (fun k_ => some k_ ≠ (.slice none 0 0 : Value).ownBlock ∧ some k_ ≠ (.slice Ao13 t226.length co13 : Value).ownBlock ∧ some k_ ≠ (.slice Ao19 y234.length co19 : Value).ownBlock ∧ k_ ≠ gb230) k_ from fun k_ hk => ⟨Kd.fresh' (Kd.R_lt (by (with_reducible repeat (first | apply Kd.R_alloc | apply Kd.R_drewN | apply Kd.R_drew)); exact HO222.out)) k_ hk, Kd.fresh' (Kd.R_lt (by (with_reducible repeat (first | apply Kd.R_alloc | apply Kd.R_drewN | apply Kd.R_drew)); exact HO228.out)) k_ hk, Kd.fresh' (Kd.N_lt (by (with_reducible repeat (first | apply Kd.N_alloc | apply Kd.N_drewN | apply Kd.N_drew)); exact HO236.out)) k_ hk, Kd.freshB (g := gb230) (o := .cells #[.int .i64 t223, .int .i64 t224, .int .i64 t225, .slice Ao13 t226.length co13] 39 (0, 0)) (zqm BK230.out) k_ hk⟩) _ (Nat.le_refl _)) (Below.refl _ _) (Nat.le_refl _) (by simp) ?_; (case hd => rfl); (case hg => rfl); (case hr => first | (go_simp; done) | (go_simp; rfl)); (case hp => exact (Reps.one (show Kd.FK (Kd.slice 3 (Kd.int .i64)) _ _ y239 [.slice Ao25 y239.length co25] from (Kd.FK_slice_mk (Kd.R_reads' (Kd.R_mono (ok' := (fun k_ => some k_ ≠ (.slice none 0 0 : Value).ownBlock ∧ some k_ ≠ (.slice Ao13 t226.length co13 : Value).ownBlock ∧ some k_ ≠ (.slice Ao19 y234.length co19 : Value).ownBlock ∧ k_ ≠ gb230)) (Kd.R_types (Kd.R_apart' (Kd.R_apart' (Kd.R_apart' (HO241.out) (Kd.R_typed HO222.out) (by decide)) (Kd.R_typed HO228.out) (by decide)) (Kd.N_typed HO236.out) (by decide)) BK230.out (by decide)) (fun k_ hk => ⟨hk.1.1.1.2, ⟨hk.1.1.2, ⟨hk.1.2, hk.2⟩⟩⟩))).2.1 (Kd.R_F (Kd.R_mono (ok' := (fun k_ => some k_ ≠ (.slice none 0 0 : Value).ownBlock ∧ some k_ ≠ (.slice Ao13 t226.length co13 : Value).ownBlock ∧ some k_ ≠ (.slice Ao19 y234.length co19 : Value).ownBlock ∧ k_ ≠ gb230)) (Kd.R_types (Kd.R_apart' (Kd.R_apart' (Kd.R_apart' (HO241.out) (Kd.R_typed HO222.out) (by decide)) (Kd.R_typed HO228.out) (by decide)) (Kd.N_typed HO236.out) (by decide)) BK230.out (by decide)) (fun k_ hk => ⟨hk.1.1.1.2, ⟨hk.1.1.2, ⟨hk.1.2, hk.2⟩⟩⟩))))) (Reps.one (show Kd.FK (Kd.slice 3 (Kd.int .i64)) _ _ y242 [.slice Ao26 y242.length co26] from (Kd.FK_slice_mk (Kd.R_reads' (Kd.R_mono (ok' := (fun k_ => some k_ ≠ (.slice none 0 0 : Value).ownBlock ∧ some k_ ≠ (.slice Ao13 t226.length co13 : Value).ownBlock ∧ some k_ ≠ (.slice Ao19 y234.length co19 : Value).ownBlock ∧ k_ ≠ gb230)) (Kd.R_types (Kd.R_apart' (Kd.R_apart' (Kd.R_apart' (HO244.out) (Kd.R_typed HO222.out) (by decide)) (Kd.R_typed HO228.out) (by decide)) (Kd.N_typed HO236.out) (by decide)) BK230.out (by decide)) (fun k_ hk => ⟨hk.1.1.1.2, ⟨hk.1.1.2, ⟨hk.1.2, hk.2⟩⟩⟩))).2.1 (Kd.R_F (Kd.R_mono (ok' := (fun k_ => some k_ ≠ (.slice none 0 0 : Value).ownBlock ∧ some k_ ≠ (.slice Ao13 t226.length co13 : Value).ownBlock ∧ some k_ ≠ (.slice Ao19 y234.length co19 : Value).ownBlock ∧ k_ ≠ gb230)) (Kd.R_types (Kd.R_apart' (Kd.R_apart' (Kd.R_apart' (HO244.out) (Kd.R_typed HO222.out) (by decide)) (Kd.R_typed HO228.out) (by decide)) (Kd.N_typed HO236.out) (by decide)) BK230.out (by decide)) (fun k_ hk => ⟨hk.1.1.1.2, ⟨hk.1.1.2, ⟨hk.1.2, hk.2⟩⟩⟩))))) (Reps.none _ _)))); intro v246 w27 ho28 hb hg_ hnew_; clear hg_ hnew_; (first | rw [← Ny245.out] at ho28 | (simp only [Int.reduceToNat] at ho28; rw [← Ny245.out] at ho28)); have n0_ := zqi (Kd.R_below (by (with_reducible repeat (first | apply Kd.R_alloc | apply Kd.R_drewN | apply Kd.R_drew)); exact HO222.out) hb); have n1_ := zqi (Kd.R_below (by (with_reducible repeat (first | apply Kd.R_alloc | apply Kd.R_drewN | apply Kd.R_drew)); exact HO228.out) hb); have n2_ := zqi (Kd.N_elder' (by (with_reducible repeat (first | apply Kd.N_alloc | apply Kd.N_drewN | apply Kd.N_drew)); exact HO236.out) (Kd.N_base ho28) hb); have n3_ := zqi (Kd.N_lower ho28 (below_size (zqn HB.out))); have n4_ := zqi (zqy BK230.out hb); have n5_ := zqi (below_step (zqn HB.out) hb); clear HO222; clear HO228; clear HO236; clear BK230; clear HB; clear HO241; clear HO244; have HO222 := n0_; have HO228 := n1_; have HO236 := n2_; have HO247 := n3_; have BK230 := n4_; have HB := n5_; clear n0_ n1_ n2_ n3_ n4_ n5_; clear hb ho28; obtain ⟨Ao29, co29, eo29⟩ := Kd.N_slice HO247.out; subst eo29) | (go_at_call 12; (with_reducible refine (plan_Print.calls k _ _ y245 t248 _ ?side1 ?side2 A6.out ?tab).mono ?_); (case tab => exact HT.out.on (zqn HB.out)); (case side1 => repeat (first | exact (Kd.N_reads' HO247.out).2.2 | (with_reducible refine Kd.C_alloc ?_ _) | (with_reducible refine Kd.C_drewN ?_ _) | (with_reducible refine Kd.C_drew ?_))); (case side2 => exact (Kd.N_reads' HO247.out).2.1); rintro e w30 ⟨v249, rfl, ho0, hb⟩; have n0_ := zqi (Kd.R_elder' (by (with_reducible repeat (first | apply Kd.R_alloc | apply Kd.R_drewN | apply Kd.R_drew)); exact HO222.out) (Kd.R_base ho0) hb); have n1_ := zqi (Kd.R_below (by (with_reducible repeat (first | apply Kd.R_alloc | apply Kd.R_drewN | apply Kd.R_drew)); exact HO228.out) hb); have n2_ := zqi (Kd.N_elder' (by (with_reducible repeat (first | apply Kd.N_alloc | apply Kd.N_drewN | apply Kd.N_drew)); exact HO236.out) (Kd.R_base ho0) hb); have n3_ := zqi (Kd.N_elder' (by (with_reducible repeat (first | apply Kd.N_alloc | apply Kd.N_drewN | apply Kd.N_drew)); exact HO247.out) (Kd.R_base ho0) hb); have n4_ := zqi (Kd.R_lower (Kd.R_new' ho0 (Kd.R_lt (by (with_reducible repeat (first | apply Kd.R_alloc | apply Kd.R_drewN | apply Kd.R_drew)); exact HO222.out))) (below_size (zqn HB.out))); have n5_ := zqi (zqy BK230.out hb); have n6_ := zqi (below_step (zqn HB.out) hb); clear HO222; clear HO228; clear HO236; clear HO247; clear BK230; clear HB; have HO222 := n0_; have HO228 := n1_; have HO236 := n2_; have HO247 := n3_; have HO250 := n4_; have BK230 := n5_; have HB := n6_; clear n0_ n1_ n2_ n3_ n4_ n5_ n6_; (try clear hb); (try clear hb2); (try clear hk); (try clear hi); (try clear ho0); have hcv31 := own_string (P := Tryd.prog) Tryd.underlying25 Tryd.underlying5 Tryd.underlying9 (Kd.own_of_R HO250.out)))
   go_ret
   exact ⟨by first | rfl | (simp [errW_none, errW_some] <;> rfl) | (simp [*, errW_none, errW_some] <;> rfl), by repeat (first | (with_reducible first | exact HB.out | apply zqg | apply zqf | apply zqh | refine below_set ?_ GE230.out) | exact HB.out)⟩
  ·
   rw [if_neg c5] at H
   exact absurd H (by simp)
 ·
  rw [if_neg c4] at H
  exact absurd H (by simp)

/-! ### haulierlaw08_Few: function 6 -/
def haulierlaw08_Few.l0 : Nat → Int → List (List Int) → Option (Bool)
  | 0, _, _ => none
  | k + 1, x3, x252000 => if x3 < (x252000.length : Int) then (if 0 ≤ x3 then (if ((rd_L1 x252000 x3).length : Int) > 100 then (some false) else (haulierlaw08_Few.l0 k (wrap64 (x3 + 1)) x252000)) else (none)) else (some true)
def haulierlaw08_Few.f (k : Nat) (l0_0 : List (List Int)) : Option (Bool) := if (l0_0.length : Int) > 40 then (some false) else (haulierlaw08_Few.l0 k 0 l0_0)
theorem haulierlaw08_Few.mono_l : ∀ k, (∀ y0 y1, LeO (haulierlaw08_Few.l0 k y0 y1) (haulierlaw08_Few.l0 (k + 1) y0 y1))
  | 0 => fun _ _ r h => by simp [haulierlaw08_Few.l0] at h
  | k + 1 => by
    have ih0 := haulierlaw08_Few.mono_l k
    · intro y0 y1
      unfold haulierlaw08_Few.l0
      repeat' first
      | (with_reducible exact ih0 _ _)
      | (with_reducible exact LeO.refl _)
      | (with_reducible exact LeO.none _)
      | (with_reducible refine LeO.ite ?_ ?_)
      | (with_reducible refine LeO.bind ?_ (fun _ => ?_))
      | exact ih0 _ _
      | exact LeO.none _
      | refine LeO.ite ?_ ?_
      | refine LeO.bind ?_ (fun _ => ?_)
theorem haulierlaw08_Few.mono : ∀ a0 k, LeO (haulierlaw08_Few.f k a0) (haulierlaw08_Few.f (k + 1) a0) := by
  intro a0 k
  have ih0 := haulierlaw08_Few.mono_l k
  unfold haulierlaw08_Few.f
  repeat' first
      | (with_reducible exact ih0 _ _)
      | (with_reducible exact LeO.refl _)
      | (with_reducible exact LeO.none _)
      | (with_reducible refine LeO.ite ?_ ?_)
      | (with_reducible refine LeO.bind ?_ (fun _ => ?_))
      | exact ih0 _ _
      | exact LeO.none _
      | refine LeO.ite ?_ ?_
      | refine LeO.bind ?_ (fun _ => ?_)
set_option maxHeartbeats 16000000 in
set_option maxRecDepth 100000 in
theorem haulierlaw08_Few.calls (k : Nat) (A0_0 : Option Addr) (c0_0 : Nat) (l0_0 : List (List Int)) (r : Bool) (w : World) (hr0_0 : Kd.C (Kd.slice 3 (Kd.int .i64)) w A0_0 l0_0.length l0_0) (hc0_0 : l0_0.length ≤ c0_0) (h : haulierlaw08_Few.f k l0_0 = some r) :
  Calls Tryd.prog 6 #[.agg #[.slice A0_0 l0_0.length c0_0]] w fun e w' => e = .returned (.bool r) ∧ Below w.heap.size w w' := by
 have hu24 := Tryd.underlying24
 have HR0_0 := zqi hr0_0
 have HC0_0 := zqi hc0_0
 clear hr0_0 hc0_0
 have HB := zqi (Below.refl w.heap.size w)
 have H : (if (l0_0.length : Int) > 40 then (some false) else (haulierlaw08_Few.l0 k 0 l0_0)) = some r := h
 clear h
 by_cases c2 : (l0_0.length : Int) > 40
 ·
  rw [if_pos c2] at H
  have c2b0 : decide (40 < (l0_0.length : Int)) = true := decide_eq_true c2
  have c2b1 : decide (40 < l0_0.length) = true := decide_eq_true (by omega)
  clear c2
  obtain rfl := Option.some.inj H
  go_enter Tryd.func6, Tryd.ntmps6
  go_wp2_with (first | ((with_reducible refine gate_dst (N := 1) rfl ?_); refine box_event ?hg (N := 1) ?hd (cs := #[.slice A0_0 l0_0.length c0_0]) (t := 24) ?hr ?_; (case hd => rfl); (case hg => rfl); (case hr => first | (go_simp; done) | (go_simp; rfl)); intro gb251 hg w3 hbox hb; have n0_ := zqi (below_step (zqn HB.out) hb); have n1_ := zqi (hbox); have n2_ := zqi (zqo hg HB.out); have n3_ := zqi (zqo hg HB.out); clear HB; have HB := n0_; have BK251 := n1_; have GW251 := n2_; have GE251 := n3_; clear n0_ n1_ n2_ n3_; clear hb hbox hg; have hcz4_0 : w3.cell? ⟨gb251, 0, none⟩ = some (.slice A0_0 l0_0.length c0_0) := (zqe BK251.out 0).trans rfl; have hfz4_0 := zqd BK251.out 0))
  go_ret
  exact ⟨by first | rfl | (simp [errW_none, errW_some] <;> rfl) | (simp [*, errW_none, errW_some] <;> rfl), by repeat (first | (with_reducible first | exact HB.out | apply zqg | apply zqf | apply zqh | refine below_set ?_ GE251.out) | exact HB.out)⟩
 ·
  rw [if_neg c2] at H
  have c2b0 : decide (40 < (l0_0.length : Int)) = false := decide_eq_false c2
  have c2b1 : decide (40 < l0_0.length) = false := decide_eq_false (by omega)
  clear c2
  have H' := zqi H
  clear H
  go_enter Tryd.func6, Tryd.ntmps6
  go_wp2_with (first | ((with_reducible refine gate_dst (N := 1) rfl ?_); refine box_event ?hg (N := 1) ?hd (cs := #[.slice A0_0 l0_0.length c0_0]) (t := 24) ?hr ?_; (case hd => rfl); (case hg => rfl); (case hr => first | (go_simp; done) | (go_simp; rfl)); intro gb251 hg w5 hbox hb; have n0_ := zqi (below_step (zqn HB.out) hb); have n1_ := zqi (hbox); have n2_ := zqi (zqo hg HB.out); have n3_ := zqi (zqo hg HB.out); clear HB; have HB := n0_; have BK251 := n1_; have GW251 := n2_; have GE251 := n3_; clear n0_ n1_ n2_ n3_; clear hb hbox hg; have hcz6_0 : w5.cell? ⟨gb251, 0, none⟩ = some (.slice A0_0 l0_0.length c0_0) := (zqe BK251.out 0).trans rfl; have hfz6_0 := zqd BK251.out 0))
  go_loopg [3] k (fun kq v3 w' => ∃ (x3_1 : Int), v3 = .int .i64 x3_1 ∧ Aside0 (haulierlaw08_Few.l0 kq x3_1 l0_0 = some r) ∧ Aside0 (kq ≤ k) ∧ Aside0 (w'.heap[gb251]? = some (.cells #[(.slice A0_0 l0_0.length c0_0)] 24 (0, 0))) ∧ Aside0 (Below w.heap.size w w'))
  case atStart => exact ⟨(0), (by first | rfl | (simp; done) | (simp [*]; done)), H', ⟨Nat.le_refl _⟩, ⟨by (with_reducible repeat (first | apply zqa | apply zqb | apply zqc)); exact BK251.out⟩, ⟨by repeat (first | (with_reducible first | exact HB.out | apply zqg | apply zqf | apply zqh | refine below_set ?_ GE251.out) | exact HB.out)⟩⟩
  case round =>
   clear H'
   try clear c2
   try clear c2b0
   try clear c2b1
   try clear p2
   try clear c6
   try clear hcz4_0
   try clear hcz6_0
   try clear hfz4_0
   try clear hfz6_0
   obtain ⟨x3_1, rfl, HA, HK1, BK251, HB⟩ := hrel
   cases gk with
   | zero => exact absurd HA.out (by simp [haulierlaw08_Few.l0])
   | succ k1 =>
    have H := HA.out
    clear HA
    simp only [haulierlaw08_Few.l0] at H
    by_cases c7 : x3_1 < (l0_0.length : Int)
    ·
     rw [if_pos c7] at H
     have c7b0 : decide (x3_1 < (l0_0.length : Int)) = true := decide_eq_true c7
     clear c7
     by_cases c8 : 0 ≤ x3_1
     ·
      rw [if_pos c8] at H
      have c8b0 : decide (0 ≤ x3_1) = true := decide_eq_true c8
      clear c8
      by_cases c9 : ((rd_L1 l0_0 x3_1).length : Int) > 100
      ·
       rw [if_pos c9] at H
       have c9b0 : decide (100 < ((rd_L1 l0_0 x3_1).length : Int)) = true := decide_eq_true c9
       have c9b1 : decide (100 < (rd_L1 l0_0 x3_1).length) = true := decide_eq_true (by omega)
       clear c9
       obtain rfl := Option.some.inj H
       have hcz10_0 : wr.cell? ⟨gb251, 0, none⟩ = some (.slice A0_0 l0_0.length c0_0) := (zqe BK251.out 0).trans rfl
       have hfz10_0 := zqd BK251.out 0
       have p252 : 0 ≤ (x3_1 : Int) := of_decide_eq_true (by first | (with_reducible assumption) | assumption)
       have q252 : x3_1 < (l0_0.length : Int) := of_decide_eq_true (by first | (with_reducible assumption) | assumption)
       obtain ⟨ad252, A252_0, c252_0, e252, hx252_0, hl252_0, hi252_0⟩ := at_L1 HR0_0.out x3_1 p252 q252
       cases e252
       replace hx252_0 := (HB.out.cell (World.block_lt_of_cell? w _ hx252_0)).trans hx252_0
       have HR252_0 := zqi hi252_0
       have HC252_0 := zqi hl252_0
       clear hi252_0 hl252_0
       replace p252 := eq_true p252
       replace q252 := eq_true q252
       go_wp2
       go_ret
       exact ⟨by first | rfl | (simp [errW_none, errW_some] <;> rfl) | (simp [*, errW_none, errW_some] <;> rfl), by repeat (first | (with_reducible first | exact HB.out | apply zqg | apply zqf | apply zqh | refine below_set ?_ GE251.out) | exact HB.out)⟩
      ·
       rw [if_neg c9] at H
       have c9b0 : decide (100 < ((rd_L1 l0_0 x3_1).length : Int)) = false := decide_eq_false c9
       have c9b1 : decide (100 < (rd_L1 l0_0 x3_1).length) = false := decide_eq_false (by omega)
       clear c9
       have H' := zqi H
       clear H
       have hcz11_0 : wr.cell? ⟨gb251, 0, none⟩ = some (.slice A0_0 l0_0.length c0_0) := (zqe BK251.out 0).trans rfl
       have hfz11_0 := zqd BK251.out 0
       have p252 : 0 ≤ (x3_1 : Int) := of_decide_eq_true (by first | (with_reducible assumption) | assumption)
       have q252 : x3_1 < (l0_0.length : Int) := of_decide_eq_true (by first | (with_reducible assumption) | assumption)
       obtain ⟨ad252, A252_0, c252_0, e252, hx252_0, hl252_0, hi252_0⟩ := at_L1 HR0_0.out x3_1 p252 q252
       cases e252
       replace hx252_0 := (HB.out.cell (World.block_lt_of_cell? w _ hx252_0)).trans hx252_0
       have HR252_0 := zqi hi252_0
       have HC252_0 := zqi hl252_0
       clear hi252_0 hl252_0
       replace p252 := eq_true p252
       replace q252 := eq_true q252
       go_wp2
       go_roundg k1
       case measure => have := HK1.out; omega
       case rel => exact ⟨(wrap64 (x3_1 + 1)), (by first | rfl | (simp; done) | (simp [*]; done)), H', ⟨by have := HK1.out; omega⟩, ⟨by (with_reducible repeat (first | apply zqa | apply zqb | apply zqc)); exact BK251.out⟩, ⟨by repeat (first | (with_reducible first | exact HB.out | apply zqg | apply zqf | apply zqh | refine below_set ?_ GE251.out) | exact HB.out)⟩⟩
     ·
      rw [if_neg c8] at H
      exact absurd H (by simp)
    ·
     rw [if_neg c7] at H
     have c7b0 : decide (x3_1 < (l0_0.length : Int)) = false := decide_eq_false c7
     clear c7
     obtain rfl := Option.some.inj H
     have hcz12_0 : wr.cell? ⟨gb251, 0, none⟩ = some (.slice A0_0 l0_0.length c0_0) := (zqe BK251.out 0).trans rfl
     have hfz12_0 := zqd BK251.out 0
     go_wp2
     go_ret
     exact ⟨by first | rfl | (simp [errW_none, errW_some] <;> rfl) | (simp [*, errW_none, errW_some] <;> rfl), by repeat (first | (with_reducible first | exact HB.out | apply zqg | apply zqf | apply zqh | refine below_set ?_ GE251.out) | exact HB.out)⟩

/-! ### haulierref04_Same: function 9 -/
mutual
def haulierref04_Same.l0 : Nat → List (List Int) → List (List Int) → Int → Option (Bool)
  | 0, _, _, _ => none
  | k + 1, x0, x1, x5 => if x5 < (x0.length : Int) then (if 0 ≤ x5 then (if x5 < (x1.length : Int) then (if ((rd_L1 x0 x5).length : Int) = ((rd_L1 x1 x5).length : Int) then (haulierref04_Same.l1 k x0 x1 x5 0) else (some false)) else (none)) else (none)) else (some true)
def haulierref04_Same.l1 : Nat → List (List Int) → List (List Int) → Int → Int → Option (Bool)
  | 0, _, _, _, _ => none
  | k + 1, x0, x1, x5, x6 => if 0 ≤ x5 then (if x5 < (x0.length : Int) then (if x6 < ((rd_L1 x0 x5).length : Int) then (if 0 ≤ x6 then (if x5 < (x1.length : Int) then (if x6 < ((rd_L1 x1 x5).length : Int) then (if (rd (rd_L1 x0 x5) x6) = (rd (rd_L1 x1 x5) x6) then (haulierref04_Same.l1 k x0 x1 x5 (wrap64 (x6 + 1))) else (some false)) else (none)) else (none)) else (none)) else (haulierref04_Same.l0 k x0 x1 (wrap64 (x5 + 1)))) else (none)) else (none)
end
def haulierref04_Same.f (k : Nat) (l0 : List (List Int)) (l1 : List (List Int)) : Option (Bool) := if (l0.length : Int) = (l1.length : Int) then (haulierref04_Same.l0 k l0 l1 0) else (some false)
theorem haulierref04_Same.mono_l : ∀ k, (∀ y0 y1 y2, LeO (haulierref04_Same.l0 k y0 y1 y2) (haulierref04_Same.l0 (k + 1) y0 y1 y2)) ∧ (∀ y0 y1 y2 y3, LeO (haulierref04_Same.l1 k y0 y1 y2 y3) (haulierref04_Same.l1 (k + 1) y0 y1 y2 y3))
  | 0 => ⟨fun _ _ _ r h => by simp [haulierref04_Same.l0] at h, fun _ _ _ _ r h => by simp [haulierref04_Same.l1] at h⟩
  | k + 1 => by
    obtain ⟨ih0, ih1⟩ := haulierref04_Same.mono_l k
    refine ⟨?_, ?_⟩
    · intro y0 y1 y2
      unfold haulierref04_Same.l0
      repeat' first
      | (with_reducible exact ih0 _ _ _)
      | (with_reducible exact ih1 _ _ _ _)
      | (with_reducible exact LeO.refl _)
      | (with_reducible exact LeO.none _)
      | (with_reducible refine LeO.ite ?_ ?_)
      | (with_reducible refine LeO.bind ?_ (fun _ => ?_))
      | exact ih0 _ _ _
      | exact ih1 _ _ _ _
      | exact LeO.none _
      | refine LeO.ite ?_ ?_
      | refine LeO.bind ?_ (fun _ => ?_)
    · intro y0 y1 y2 y3
      unfold haulierref04_Same.l1
      repeat' first
      | (with_reducible exact ih0 _ _ _)
      | (with_reducible exact ih1 _ _ _ _)
      | (with_reducible exact LeO.refl _)
      | (with_reducible exact LeO.none _)
      | (with_reducible refine LeO.ite ?_ ?_)
      | (with_reducible refine LeO.bind ?_ (fun _ => ?_))
      | exact ih0 _ _ _
      | exact ih1 _ _ _ _
      | exact LeO.none _
      | refine LeO.ite ?_ ?_
      | refine LeO.bind ?_ (fun _ => ?_)
theorem haulierref04_Same.mono : ∀ a0 a1 k, LeO (haulierref04_Same.f k a0 a1) (haulierref04_Same.f (k + 1) a0 a1) := by
  intro a0 a1 k
  obtain ⟨ih0, ih1⟩ := haulierref04_Same.mono_l k
  unfold haulierref04_Same.f
  repeat' first
      | (with_reducible exact ih0 _ _ _)
      | (with_reducible exact ih1 _ _ _ _)
      | (with_reducible exact LeO.refl _)
      | (with_reducible exact LeO.none _)
      | (with_reducible refine LeO.ite ?_ ?_)
      | (with_reducible refine LeO.bind ?_ (fun _ => ?_))
      | exact ih0 _ _ _
      | exact ih1 _ _ _ _
      | exact LeO.none _
      | refine LeO.ite ?_ ?_
      | refine LeO.bind ?_ (fun _ => ?_)
set_option maxHeartbeats 16000000 in
set_option maxRecDepth 100000 in
theorem haulierref04_Same.calls (k : Nat) (A0 : Option Addr) (c0 : Nat) (l0 : List (List Int)) (A1 : Option Addr) (c1 : Nat) (l1 : List (List Int)) (r : Bool) (w : World) (hr0 : Kd.C (Kd.slice 3 (Kd.int .i64)) w A0 l0.length l0) (hc0 : l0.length ≤ c0) (hr1 : Kd.C (Kd.slice 3 (Kd.int .i64)) w A1 l1.length l1) (hc1 : l1.length ≤ c1) (h : haulierref04_Same.f k l0 l1 = some r) :
  Calls Tryd.prog 9 #[.slice A0 l0.length c0, .slice A1 l1.length c1] w fun e w' => e = .returned (.bool r) ∧ Drawn0 w w' := by
 have HR0 := zqi hr0
 have HC0 := zqi hc0
 clear hr0 hc0
 have HR1 := zqi hr1
 have HC1 := zqi hc1
 clear hr1 hc1
 have H : (if (l0.length : Int) = (l1.length : Int) then (haulierref04_Same.l0 k l0 l1 0) else (some false)) = some r := h
 clear h
 by_cases c3 : (l0.length : Int) = (l1.length : Int)
 ·
  rw [if_pos c3] at H
  have c3b0 : ((l0.length : Int) == (l1.length : Int)) = true := beq_iff_eq.mpr c3
  have c3b1 : ((l0.length : Int) != (l1.length : Int)) = false := bne_eq_false_iff_eq.mpr c3
  have c3b2 : (l0.length == l1.length) = true := by first | simpa using c3 | (simp at c3 ⊢; omega)
  clear c3
  have H' := zqi H
  clear H
  go_enter Tryd.func9, Tryd.ntmps9
  go_wp2
  repeat (go_quiet (fail); try go_wp2)
  go_loopg [5] k (fun kq v5 w' => ∃ (x5_1 : Int), v5 = .int .i64 x5_1 ∧ Aside0 (haulierref04_Same.l0 kq l0 l1 x5_1 = some r) ∧ Aside0 (kq ≤ k) ∧ Drawn0 w w')
  case atStart => exact ⟨(0), (by first | rfl | (simp; done) | (simp [*]; done)), H', ⟨Nat.le_refl _⟩, by repeat (first | exact Drawn0.refl _ | apply Drawn0.step)⟩
  case round =>
   clear H'
   try clear c1
   try clear p2
   try clear c3
   try clear c3b0
   try clear c3b1
   try clear c3b2
   obtain ⟨x5_1, rfl, HA, HK1, ⟨m1, rfl⟩⟩ := hrel
   cases gk with
   | zero => exact absurd HA.out (by simp [haulierref04_Same.l0])
   | succ k1 =>
    have H := HA.out
    clear HA
    simp only [haulierref04_Same.l0] at H
    by_cases c4 : x5_1 < (l0.length : Int)
    ·
     rw [if_pos c4] at H
     have c4b0 : decide (x5_1 < (l0.length : Int)) = true := decide_eq_true c4
     clear c4
     by_cases c5 : 0 ≤ x5_1
     ·
      rw [if_pos c5] at H
      have c5b0 : decide (0 ≤ x5_1) = true := decide_eq_true c5
      clear c5
      by_cases c6 : x5_1 < (l1.length : Int)
      ·
       rw [if_pos c6] at H
       have c6b0 : decide (x5_1 < (l1.length : Int)) = true := decide_eq_true c6
       clear c6
       by_cases c7 : ((rd_L1 l0 x5_1).length : Int) = ((rd_L1 l1 x5_1).length : Int)
       ·
        rw [if_pos c7] at H
        have c7b0 : (((rd_L1 l0 x5_1).length : Int) == ((rd_L1 l1 x5_1).length : Int)) = true := beq_iff_eq.mpr c7
        have c7b1 : (((rd_L1 l0 x5_1).length : Int) != ((rd_L1 l1 x5_1).length : Int)) = false := bne_eq_false_iff_eq.mpr c7
        have c7b2 : ((rd_L1 l0 x5_1).length == (rd_L1 l1 x5_1).length) = true := by first | simpa using c7 | (simp at c7 ⊢; omega)
        clear c7
        have H' := zqi H
        clear H
        have p253 : 0 ≤ (x5_1 : Int) := of_decide_eq_true (by first | (with_reducible assumption) | assumption)
        have q253 : x5_1 < (l0.length : Int) := of_decide_eq_true (by first | (with_reducible assumption) | assumption)
        obtain ⟨ad253, A253_0, c253_0, e253, hx253_0, hl253_0, hi253_0⟩ := at_L1 HR0.out x5_1 p253 q253
        cases e253
        have HR253_0 := zqi hi253_0
        have HC253_0 := zqi hl253_0
        clear hi253_0 hl253_0
        replace p253 := eq_true p253
        replace q253 := eq_true q253
        have p254 : 0 ≤ (x5_1 : Int) := of_decide_eq_true (by first | (with_reducible assumption) | assumption)
        have q254 : x5_1 < (l1.length : Int) := of_decide_eq_true (by first | (with_reducible assumption) | assumption)
        obtain ⟨ad254, A254_0, c254_0, e254, hx254_0, hl254_0, hi254_0⟩ := at_L1 HR1.out x5_1 p254 q254
        cases e254
        have HR254_0 := zqi hi254_0
        have HC254_0 := zqi hl254_0
        clear hi254_0 hl254_0
        replace p254 := eq_true p254
        replace q254 := eq_true q254
        go_wp2
        repeat (go_quiet (fail); try go_wp2)
        go_loopg [6] k1 (fun kq v6 w' => ∃ (x6_2 : Int), v6 = .int .i64 x6_2 ∧ Aside0 (haulierref04_Same.l1 kq l0 l1 x5_1 x6_2 = some r) ∧ Aside0 (kq ≤ k1) ∧ Drawn0 w w')
        case atStart => exact ⟨(0), (by first | rfl | (simp; done) | (simp [*]; done)), H', ⟨Nat.le_refl _⟩, by repeat (first | exact Drawn0.refl _ | apply Drawn0.step)⟩
        case round =>
         clear H'
         try clear c1
         try clear c2
         try clear p2
         try clear q2
         try clear hx2
         try clear c3
         try clear c3b0
         try clear c3b1
         try clear c3b2
         try clear c4
         try clear c4b0
         try clear c5
         try clear c5b0
         try clear c6
         try clear c6b0
         try clear c7
         try clear c7b0
         try clear c7b1
         try clear c7b2
         try clear hx253_0
         try clear hx254_0
         try clear p2
         try clear p253
         try clear p254
         try clear q253
         try clear q254
         obtain ⟨x6_2, rfl, HA, HK2, ⟨m2, rfl⟩⟩ := hrel
         cases gk with
         | zero => exact absurd HA.out (by simp [haulierref04_Same.l1])
         | succ k2 =>
          have H := HA.out
          clear HA
          simp only [haulierref04_Same.l1] at H
          by_cases c8 : 0 ≤ x5_1
          ·
           rw [if_pos c8] at H
           have c8b0 : decide (0 ≤ x5_1) = true := decide_eq_true c8
           clear c8
           by_cases c9 : x5_1 < (l0.length : Int)
           ·
            rw [if_pos c9] at H
            have c9b0 : decide (x5_1 < (l0.length : Int)) = true := decide_eq_true c9
            clear c9
            by_cases c10 : x6_2 < ((rd_L1 l0 x5_1).length : Int)
            ·
             rw [if_pos c10] at H
             have c10b0 : decide (x6_2 < ((rd_L1 l0 x5_1).length : Int)) = true := decide_eq_true c10
             clear c10
             by_cases c11 : 0 ≤ x6_2
             ·
              rw [if_pos c11] at H
              have c11b0 : decide (0 ≤ x6_2) = true := decide_eq_true c11
              clear c11
              by_cases c12 : x5_1 < (l1.length : Int)
              ·
               rw [if_pos c12] at H
               have c12b0 : decide (x5_1 < (l1.length : Int)) = true := decide_eq_true c12
               clear c12
               by_cases c13 : x6_2 < ((rd_L1 l1 x5_1).length : Int)
               ·
                rw [if_pos c13] at H
                have c13b0 : decide (x6_2 < ((rd_L1 l1 x5_1).length : Int)) = true := decide_eq_true c13
                clear c13
                by_cases c14 : (rd (rd_L1 l0 x5_1) x6_2) = (rd (rd_L1 l1 x5_1) x6_2)
                ·
                 rw [if_pos c14] at H
                 have c14b0 : ((rd (rd_L1 l0 x5_1) x6_2) == (rd (rd_L1 l1 x5_1) x6_2)) = true := beq_iff_eq.mpr c14
                 have c14b1 : ((rd (rd_L1 l0 x5_1) x6_2) != (rd (rd_L1 l1 x5_1) x6_2)) = false := bne_eq_false_iff_eq.mpr c14
                 clear c14
                 have H' := zqi H
                 clear H
                 have p255 : 0 ≤ (x5_1 : Int) := of_decide_eq_true (by first | (with_reducible assumption) | assumption)
                 have q255 : x5_1 < (l0.length : Int) := of_decide_eq_true (by first | (with_reducible assumption) | assumption)
                 obtain ⟨ad255, A255_0, c255_0, e255, hx255_0, hl255_0, hi255_0⟩ := at_L1 HR0.out x5_1 p255 q255
                 obtain rfl : ad253 = ad255 := (by injection e255)
                 have HR255_0 := zqi hi255_0
                 have HC255_0 := zqi hl255_0
                 clear hi255_0 hl255_0
                 replace p255 := eq_true p255
                 replace q255 := eq_true q255
                 have p256 : 0 ≤ (x5_1 : Int) := of_decide_eq_true (by first | (with_reducible assumption) | assumption)
                 have q256 : x5_1 < (l0.length : Int) := of_decide_eq_true (by first | (with_reducible assumption) | assumption)
                 obtain ⟨ad256, A256_0, c256_0, e256, hx256_0, hl256_0, hi256_0⟩ := at_L1 HR0.out x5_1 p256 q256
                 obtain rfl : ad253 = ad256 := (by injection e256)
                 have HR256_0 := zqi hi256_0
                 have HC256_0 := zqi hl256_0
                 clear hi256_0 hl256_0
                 replace p256 := eq_true p256
                 replace q256 := eq_true q256
                 have ea_ := Option.some.inj (hx255_0.symm.trans hx256_0)
                 injection ea_ with ea_ en_ ec_
                 subst ea_
                 subst ec_
                 clear en_
                 have p257 : 0 ≤ (x6_2 : Int) := of_decide_eq_true (by first | (with_reducible assumption) | assumption)
                 have q257 : x6_2 < ((rd_L1 l0 x5_1).length : Int) := of_decide_eq_true (by first | (with_reducible assumption) | assumption)
                 obtain ⟨ad257, e257, hx257_0⟩ := Kd.at_int HR256_0.out x6_2 p257 q257
                 cases e257
                 replace p257 := eq_true p257
                 replace q257 := eq_true q257
                 have p258 : 0 ≤ (x5_1 : Int) := of_decide_eq_true (by first | (with_reducible assumption) | assumption)
                 have q258 : x5_1 < (l1.length : Int) := of_decide_eq_true (by first | (with_reducible assumption) | assumption)
                 obtain ⟨ad258, A258_0, c258_0, e258, hx258_0, hl258_0, hi258_0⟩ := at_L1 HR1.out x5_1 p258 q258
                 obtain rfl : ad254 = ad258 := (by injection e258)
                 have HR258_0 := zqi hi258_0
                 have HC258_0 := zqi hl258_0
                 clear hi258_0 hl258_0
                 replace p258 := eq_true p258
                 replace q258 := eq_true q258
                 have p259 : 0 ≤ (x6_2 : Int) := of_decide_eq_true (by first | (with_reducible assumption) | assumption)
                 have q259 : x6_2 < ((rd_L1 l1 x5_1).length : Int) := of_decide_eq_true (by first | (with_reducible assumption) | assumption)
                 obtain ⟨ad259, e259, hx259_0⟩ := Kd.at_int HR258_0.out x6_2 p259 q259
                 cases e259
                 replace p259 := eq_true p259
                 replace q259 := eq_true q259
                 go_wp2
                 repeat (go_quiet (fail); try go_wp2)
                 go_roundg k2
                 case measure => have := HK1.out; have := HK2.out; omega
                 case rel => exact ⟨(wrap64 (x6_2 + 1)), (by first | rfl | (simp; done) | (simp [*]; done)), H', ⟨by have := HK1.out; have := HK2.out; omega⟩, by repeat (first | exact Drawn0.refl _ | apply Drawn0.step)⟩
                ·
                 rw [if_neg c14] at H
                 have c14b0 : ((rd (rd_L1 l0 x5_1) x6_2) == (rd (rd_L1 l1 x5_1) x6_2)) = false := beq_eq_false_iff_ne.mpr c14
                 have c14b1 : ((rd (rd_L1 l0 x5_1) x6_2) != (rd (rd_L1 l1 x5_1) x6_2)) = true := bne_iff_ne.mpr c14
                 obtain rfl := Option.some.inj H
                 have p255 : 0 ≤ (x5_1 : Int) := of_decide_eq_true (by first | (with_reducible assumption) | assumption)
                 have q255 : x5_1 < (l0.length : Int) := of_decide_eq_true (by first | (with_reducible assumption) | assumption)
                 obtain ⟨ad255, A255_0, c255_0, e255, hx255_0, hl255_0, hi255_0⟩ := at_L1 HR0.out x5_1 p255 q255
                 obtain rfl : ad253 = ad255 := (by injection e255)
                 have HR255_0 := zqi hi255_0
                 have HC255_0 := zqi hl255_0
                 clear hi255_0 hl255_0
                 replace p255 := eq_true p255
                 replace q255 := eq_true q255
                 have p256 : 0 ≤ (x5_1 : Int) := of_decide_eq_true (by first | (with_reducible assumption) | assumption)
                 have q256 : x5_1 < (l0.length : Int) := of_decide_eq_true (by first | (with_reducible assumption) | assumption)
                 obtain ⟨ad256, A256_0, c256_0, e256, hx256_0, hl256_0, hi256_0⟩ := at_L1 HR0.out x5_1 p256 q256
                 obtain rfl : ad253 = ad256 := (by injection e256)
                 have HR256_0 := zqi hi256_0
                 have HC256_0 := zqi hl256_0
                 clear hi256_0 hl256_0
                 replace p256 := eq_true p256
                 replace q256 := eq_true q256
                 have ea_ := Option.some.inj (hx255_0.symm.trans hx256_0)
                 injection ea_ with ea_ en_ ec_
                 subst ea_
                 subst ec_
                 clear en_
                 have p257 : 0 ≤ (x6_2 : Int) := of_decide_eq_true (by first | (with_reducible assumption) | assumption)
                 have q257 : x6_2 < ((rd_L1 l0 x5_1).length : Int) := of_decide_eq_true (by first | (with_reducible assumption) | assumption)
                 obtain ⟨ad257, e257, hx257_0⟩ := Kd.at_int HR256_0.out x6_2 p257 q257
                 cases e257
                 replace p257 := eq_true p257
                 replace q257 := eq_true q257
                 have p258 : 0 ≤ (x5_1 : Int) := of_decide_eq_true (by first | (with_reducible assumption) | assumption)
                 have q258 : x5_1 < (l1.length : Int) := of_decide_eq_true (by first | (with_reducible assumption) | assumption)
                 obtain ⟨ad258, A258_0, c258_0, e258, hx258_0, hl258_0, hi258_0⟩ := at_L1 HR1.out x5_1 p258 q258
                 obtain rfl : ad254 = ad258 := (by injection e258)
                 have HR258_0 := zqi hi258_0
                 have HC258_0 := zqi hl258_0
                 clear hi258_0 hl258_0
                 replace p258 := eq_true p258
                 replace q258 := eq_true q258
                 have p259 : 0 ≤ (x6_2 : Int) := of_decide_eq_true (by first | (with_reducible assumption) | assumption)
                 have q259 : x6_2 < ((rd_L1 l1 x5_1).length : Int) := of_decide_eq_true (by first | (with_reducible assumption) | assumption)
                 obtain ⟨ad259, e259, hx259_0⟩ := Kd.at_int HR258_0.out x6_2 p259 q259
                 cases e259
                 replace p259 := eq_true p259
                 replace q259 := eq_true q259
                 go_wp2
                 repeat (go_quiet (fail); try go_wp2)
                 go_ret
                 exact ⟨by first | rfl | (simp; done) | (simp [*]; done), by repeat (first | exact Drawn0.refl _ | apply Drawn0.step)⟩
               ·
                rw [if_neg c13] at H
                exact absurd H (by simp)
              ·
               rw [if_neg c12] at H
               exact absurd H (by simp)
             ·
              rw [if_neg c11] at H
              exact absurd H (by simp)
            ·
             rw [if_neg c10] at H
             have c10b0 : decide (x6_2 < ((rd_L1 l0 x5_1).length : Int)) = false := decide_eq_false c10
             clear c10
             have H' := zqi H
             clear H
             have p255 : 0 ≤ (x5_1 : Int) := of_decide_eq_true (by first | (with_reducible assumption) | assumption)
             have q255 : x5_1 < (l0.length : Int) := of_decide_eq_true (by first | (with_reducible assumption) | assumption)
             obtain ⟨ad255, A255_0, c255_0, e255, hx255_0, hl255_0, hi255_0⟩ := at_L1 HR0.out x5_1 p255 q255
             obtain rfl : ad253 = ad255 := (by injection e255)
             have HR255_0 := zqi hi255_0
             have HC255_0 := zqi hl255_0
             clear hi255_0 hl255_0
             replace p255 := eq_true p255
             replace q255 := eq_true q255
             go_wp2
             repeat (go_quiet (fail); try go_wp2)
             go_roundg k2
             case measure => have := HK1.out; have := HK2.out; omega
             case rel => exact ⟨(wrap64 (x5_1 + 1)), (by first | rfl | (simp; done) | (simp [*]; done)), H', ⟨by have := HK1.out; have := HK2.out; omega⟩, by repeat (first | exact Drawn0.refl _ | apply Drawn0.step)⟩
           ·
            rw [if_neg c9] at H
            exact absurd H (by simp)
          ·
           rw [if_neg c8] at H
           exact absurd H (by simp)
       ·
        rw [if_neg c7] at H
        have c7b0 : (((rd_L1 l0 x5_1).length : Int) == ((rd_L1 l1 x5_1).length : Int)) = false := beq_eq_false_iff_ne.mpr c7
        have c7b1 : (((rd_L1 l0 x5_1).length : Int) != ((rd_L1 l1 x5_1).length : Int)) = true := bne_iff_ne.mpr c7
        have c7b2 : ((rd_L1 l0 x5_1).length == (rd_L1 l1 x5_1).length) = false := by first | simpa using c7 | (simp at c7 ⊢; omega)
        obtain rfl := Option.some.inj H
        have p253 : 0 ≤ (x5_1 : Int) := of_decide_eq_true (by first | (with_reducible assumption) | assumption)
        have q253 : x5_1 < (l0.length : Int) := of_decide_eq_true (by first | (with_reducible assumption) | assumption)
        obtain ⟨ad253, A253_0, c253_0, e253, hx253_0, hl253_0, hi253_0⟩ := at_L1 HR0.out x5_1 p253 q253
        cases e253
        have HR253_0 := zqi hi253_0
        have HC253_0 := zqi hl253_0
        clear hi253_0 hl253_0
        replace p253 := eq_true p253
        replace q253 := eq_true q253
        have p254 : 0 ≤ (x5_1 : Int) := of_decide_eq_true (by first | (with_reducible assumption) | assumption)
        have q254 : x5_1 < (l1.length : Int) := of_decide_eq_true (by first | (with_reducible assumption) | assumption)
        obtain ⟨ad254, A254_0, c254_0, e254, hx254_0, hl254_0, hi254_0⟩ := at_L1 HR1.out x5_1 p254 q254
        cases e254
        have HR254_0 := zqi hi254_0
        have HC254_0 := zqi hl254_0
        clear hi254_0 hl254_0
        replace p254 := eq_true p254
        replace q254 := eq_true q254
        go_wp2
        repeat (go_quiet (fail); try go_wp2)
        go_ret
        exact ⟨by first | rfl | (simp; done) | (simp [*]; done), by repeat (first | exact Drawn0.refl _ | apply Drawn0.step)⟩
      ·
       rw [if_neg c6] at H
       exact absurd H (by simp)
     ·
      rw [if_neg c5] at H
      exact absurd H (by simp)
    ·
     rw [if_neg c4] at H
     have c4b0 : decide (x5_1 < (l0.length : Int)) = false := decide_eq_false c4
     clear c4
     obtain rfl := Option.some.inj H
     go_wp2
     repeat (go_quiet (fail); try go_wp2)
     go_ret
     exact ⟨by first | rfl | (simp; done) | (simp [*]; done), by repeat (first | exact Drawn0.refl _ | apply Drawn0.step)⟩
 ·
  rw [if_neg c3] at H
  have c3b0 : ((l0.length : Int) == (l1.length : Int)) = false := beq_eq_false_iff_ne.mpr c3
  have c3b1 : ((l0.length : Int) != (l1.length : Int)) = true := bne_iff_ne.mpr c3
  have c3b2 : (l0.length == l1.length) = false := by first | simpa using c3 | (simp at c3 ⊢; omega)
  obtain rfl := Option.some.inj H
  go_enter Tryd.func9, Tryd.ntmps9
  go_wp2
  repeat (go_quiet (fail); try go_wp2)
  go_ret
  exact ⟨by first | rfl | (simp; done) | (simp [*]; done), by repeat (first | exact Drawn0.refl _ | apply Drawn0.step)⟩

end Go.Proofs.YtdkhajgfifaibaaDoor.PA
