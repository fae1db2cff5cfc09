-- Printed for this claim by wip/tools/xprint.py over the kit's print; the contracts marked BY HAND are this session's own.
import Derived.Test.YtdkhajgfifaibaaDoorPAx0
import Derived.Test.YtdkhajgfifaibaaDoorPAx1
import Derived.Test.YtdkhajgfifaibaaDoorPAx3
import Derived.Test.YtdkhajgfifaibaaDoorPAx5
namespace Go.Proofs.YtdkhajgfifaibaaDoor.PA
open Go.RowKit Go.Proofs.YtdkhajgfifaibaaDoorW.PrintWords Go.Proofs.YtdkhajgfifaibaaDoorW.PrintLast Go.Proofs.YtdkhajgfifaibaaDoorW.PrintMore
attribute [local go_sem] max2_int min2_int max_two min_two max_three min_three max_four min_four   -- for this text's walks alone
set_option linter.unusedVariables false
set_option linter.unusedSimpArgs false

/-! ### slices_Min_int_int: function 24, BY HAND -/
/-- The least of the first i numbers. -/
def minF (l : List Int) (i : Nat) : Int := (l.take i).foldl (fun m x => if x < m then x else m) (l.headD 0)
def slices_Min_int_int.f (l0 : List Int) : Option Int := if 0 < l0.length then some (minF l0 l0.length) else none
theorem minF_one {l : List Int} (h : 0 < l.length) : minF l 1 = l[0] := by
  cases l with
  | nil => simp at h
  | cons x t => simp [minF]
theorem minF_succ {l : List Int} {i : Nat} (h : i < l.length) : minF l (i + 1) = if l[i] < minF l i then l[i] else minF l i := by
  unfold minF; rw [List.take_succ_eq_append_getElem h, List.foldl_append]; rfl
theorem hidM {p : Prop} (h : p) : Hid p := h
theorem intM_at {w : World} {A : Option Addr} {l : List Int} (h : Kd.C (Kd.int .i64) w A l.length l) (i : Nat) (hi : i < l.length) : ∃ ad, A = some ad ∧ w.cell? (ad.add i) = some (.int .i64 l[i]) := by
  obtain ⟨ad, e, hc⟩ := h.2.2 (by omega)
  obtain ⟨c, hs, hr, hcell⟩ := hc i _ (List.getElem?_eq_getElem hi)
  have e1 : c = [.int .i64 l[i]] := hr
  subst e1
  have h0 := hcell 0 _ rfl
  refine ⟨ad, e, ?_⟩
  have e2 : i * (Kd.int .i64).sz + 0 = i := Nat.mul_one i
  rwa [e2] at h0
set_option maxHeartbeats 4000000 in
theorem slices_Min_int_int.calls (A0 : Option Addr) (c0 : Nat) (l0 : List Int) (r : Int) (w : World) (hr0 : Kd.C (Kd.int .i64) w A0 l0.length l0) (hc0 : l0.length ≤ c0) (h : slices_Min_int_int.f l0 = some r) :
    Calls Tryd.prog 24 #[.slice A0 l0.length c0] w fun e w' => e = .returned (.int .i64 r) ∧ w = w' := by
  unfold slices_Min_int_int.f at h
  by_cases hp : 0 < l0.length
  · rw [if_pos hp] at h
    obtain rfl := Option.some.inj h
    clear h hc0
    have hmax0 := Kd.C_max hr0
    have HR0 := hidM hr0
    clear hr0
    have z0 : decide ((l0.length : Int) < 1) = false := decide_eq_false (by omega)
    have z1 : ¬ ((l0.length : Int) < 1) := by omega
    have z2 : (0 : Int) < (l0.length : Int) := by omega
    obtain ⟨ad, e0, hx0⟩ := intM_at HR0.out 0 hp
    cases e0
    rw [show ad.add 0 = ad by cases ad; rfl] at hx0
    obtain ⟨x0, hx0e⟩ : ∃ x, x = l0[0] := ⟨_, rfl⟩
    rw [← hx0e] at hx0
    have HX0 := hidM hx0e
    clear hx0e
    go_enter Tryd.func24, Tryd.ntmps24
    go_wp2
    go_loopg [3, 4] l0.length (fun kq v3 v4 wr => ∃ (i : Nat) (m : Int), Hid (kq = l0.length + 1 - i) ∧ v3 = .int .i64 m ∧ v4 = .int .i64 (i : Int) ∧ 1 ≤ i ∧ i ≤ l0.length ∧ Hid (wr = w) ∧ Hid (m = minF l0 i))
    case atStart => exact ⟨1, x0, hidM (by omega), rfl, rfl, by omega, by omega, hidM rfl, hidM (by rw [minF_one hp]; exact HX0.out)⟩
    case round =>
      obtain ⟨i, m, HI, rfl, rfl, hi1, hi, HW, HM⟩ := hrel
      have hw := HW.out
      subst hw
      by_cases hlt : i < l0.length
      · have t1 : decide ((i : Int) < (l0.length : Int)) = true := decide_eq_true (by omega)
        have t1n : decide (i < l0.length) = true := decide_eq_true (by omega)
        obtain ⟨ad2, e1, hx1⟩ := intM_at HR0.out i hlt
        cases e1
        have p1 : (0 ≤ (i : Int)) = True := eq_true (by omega)
        have q1 : ((i : Int) < (l0.length : Int)) = True := eq_true (by omega)
        obtain ⟨x, hx⟩ : ∃ x, x = l0[i] := ⟨_, rfl⟩
        rw [← hx] at hx1
        have HS := hidM (show (if x < m then x else m) = minF l0 (i + 1) by rw [minF_succ hlt, ← HM.out, ← hx])
        clear hx
        by_cases h6 : x < m
        · have HN := hidM (show x = minF l0 (i + 1) by have := HS.out; rwa [if_pos h6] at this)
          have d1 : ¬ m < x := by omega
          go_wp2
          all_goals (go_roundg (l0.length + 1 - (i + 1)))
          case measure => have := HI.out; omega
          case rel => exact ⟨i + 1, x, hidM rfl, by simp [h6, d1], by go_num, by omega, by omega, hidM rfl, HN⟩
        · have HN := hidM (show m = minF l0 (i + 1) by have := HS.out; rwa [if_neg h6] at this)
          go_wp2
          all_goals (go_roundg (l0.length + 1 - (i + 1)))
          case measure => have := HI.out; omega
          case rel => exact ⟨i + 1, m, hidM rfl, by first | rfl | (simp [h6]; done) | (simp; omega), by go_num, by omega, by omega, hidM rfl, HN⟩
      · have t1 : decide ((i : Int) < (l0.length : Int)) = false := decide_eq_false (by omega)
        have t1n : decide (i < l0.length) = false := decide_eq_false (by omega)
        have hil : i = l0.length := by omega
        go_wp2
        go_ret
        exact ⟨congrArg (fun z => Ending.returned (Value.int .i64 z)) (show m = minF l0 l0.length by rw [HM.out, hil]), rfl⟩
  · rw [if_neg hp] at h; cases h

/-! ### plan_Parse: function 10 -/
def plan_Parse.l0 : Nat → List (List Int) → List (List Int) → Int → Int → Option ((List (List Int)) × Int)
  | 0, _, _, _, _ => none
  | k + 1, x4, x17, x18, x19 => if x19 < x18 then (if 0 ≤ x19 then (if x19 < (x17.length : Int) then ((slices_Min_int_int.f (rd_L1 x17 x19)).bind fun t266 => (if t266 < 1 then (some (([] : List (List Int)), 2)) else (plan_Parse.l0 k x4 x17 x18 (wrap64 (x19 + 1))))) else (none)) else (none)) else (some (x4, 0))
def plan_Parse.f (k : Nat) (l0 : List Int) : Option ((List (List Int)) × Int) := (scan_Lines.f l0).bind fun bt261 => (if bt261.2 = 0 then (plan_Parse.l0 k bt261.1 bt261.1 (bt261.1.length : Int) 0) else (some (([] : List (List Int)), bt261.2)))
theorem plan_Parse.mono_l : ∀ k, (∀ y0 y1 y2 y3, LeO (plan_Parse.l0 k y0 y1 y2 y3) (plan_Parse.l0 (k + 1) y0 y1 y2 y3))
  | 0 => fun _ _ _ _ r h => by simp [plan_Parse.l0] at h
  | k + 1 => by
    have ih0 := plan_Parse.mono_l k
    · intro y0 y1 y2 y3
      unfold plan_Parse.l0
      repeat' first
      | (with_reducible exact ih0 _ _ _ _)
      | (with_reducible exact LeO.refl _)
      | (with_reducible exact LeO.none _)
      | (with_reducible refine LeO.ite ?_ ?_)
      | (with_reducible refine LeO.bind ?_ (fun _ => ?_))
      | exact ih0 _ _ _ _
      | exact LeO.none _
      | refine LeO.ite ?_ ?_
      | refine LeO.bind ?_ (fun _ => ?_)
theorem plan_Parse.mono : ∀ a0 k, LeO (plan_Parse.f k a0) (plan_Parse.f (k + 1) a0) := by
  intro a0 k
  have ih0 := plan_Parse.mono_l k
  unfold plan_Parse.f
  repeat' first
      | (with_reducible exact ih0 _ _ _ _)
      | (with_reducible exact LeO.refl _)
      | (with_reducible exact LeO.none _)
      | (with_reducible refine LeO.ite ?_ ?_)
      | (with_reducible refine LeO.bind ?_ (fun _ => ?_))
      | exact ih0 _ _ _ _
      | exact LeO.none _
      | refine LeO.ite ?_ ?_
      | refine LeO.bind ?_ (fun _ => ?_)
set_option maxHeartbeats 16000000 in
set_option maxRecDepth 100000 in
theorem plan_Parse.calls (k : Nat) (A0 : Option Addr) (c0 : Nat) (l0 : List Int) (r1 : List (List Int)) (r2 : Int) (w : World) (hr0 : Kd.C (Kd.int .u8) w A0 l0.length l0) (hc0 : l0.length ≤ c0) (h : plan_Parse.f k l0 = some (r1, r2)) :
  Calls Tryd.prog 10 #[.slice A0 l0.length c0] w fun e w' => ∃ v0_ : Value, e = .returned (.tuple #[.agg #[v0_], .int .i64 r2]) ∧ Kd.S (Kd.slice 3 (Kd.int .i64)) 36 w' w.heap.size (fun _ => True) v0_ r1 ∧ Below w.heap.size w w' := by
 have hu24 := Tryd.underlying24
 have HR0 := zqi hr0
 have HC0 := zqi hc0
 clear hr0 hc0
 have HB := zqi (Below.refl w.heap.size w)
 have H : ((scan_Lines.f l0).bind fun bt261 => (if bt261.2 = 0 then (plan_Parse.l0 k bt261.1 bt261.1 (bt261.1.length : Int) 0) else (some (([] : List (List Int)), bt261.2)))) = some (r1, r2) := h
 clear h
 replace H := Option.bind_eq_some_iff.mp H
 obtain ⟨⟨t261, t262⟩, A20, H⟩ := H
 replace H : (if t262 = 0 then (plan_Parse.l0 k t261 t261 (t261.length : Int) 0) else (some (([] : List (List Int)), t262))) = some (r1, r2) := H
 have A2 := zqi A20
 clear A20
 by_cases c3 : t262 = 0
 ·
  rw [if_pos c3] at H
  have c3b0 : (t262 == 0) = true := beq_iff_eq.mpr c3
  have c3b1 : (t262 != 0) = false := bne_eq_false_iff_eq.mpr c3
  clear c3
  have H' := zqi H
  clear H
  go_enter Tryd.func10, Tryd.ntmps10
  go_wp2_with (first | ((with_reducible refine gate_dst (N := 2) rfl ?_); refine box_event ?hg (N := 2) ?hd (cs := #[.slice none 0 0]) (t := 24) ?hr ?_; (case hd => rfl); (case hg => rfl); (case hr => first | (go_simp; done) | (go_simp; rfl)); intro gb260 hg w4 hbox hb; have n0_ := zqi (below_step (zqn HB.out) hb); have n1_ := zqi (hbox); have n2_ := zqi (zqo hg HB.out); have n3_ := zqi (zqo hg HB.out); clear HB; have HB := n0_; have BK260 := n1_; have GW260 := n2_; have GE260 := n3_; clear n0_ n1_ n2_ n3_; clear hb hbox hg) | ((with_reducible refine gate_callee (f := 23) rfl ?_); refine goesL_ (some 10) rfl rfl Tryd.func23 (by kernel_rfl) rfl #[.slice A0 l0.length c0] rfl (by (try simp only [List.map_toArray, List.map_cons, List.map_nil]); first | done | rfl | (simp only [List.length_drop, List.length_take]; rfl)) ?_; (with_reducible refine (scan_Lines.calls _ _ l0 t261 t262 _ ?side1 ?side2 A2.out).mono ?_); (case side1 => repeat (first | exact (Kd.C_below HR0.out HB.out) | (with_reducible refine Kd.C_alloc ?_ _) | (with_reducible refine Kd.C_drewN ?_ _) | (with_reducible refine Kd.C_drew ?_))); (case side2 => exact HC0.out); rintro e w5 ⟨v263, rfl, ho0, hb⟩; refine ⟨_, rfl, ?_⟩; have n0_ := zqi (Kd.S_lower ho0 (below_size (zqn HB.out))); have n1_ := zqi (zqy BK260.out hb); have n2_ := zqi (below_step (zqn HB.out) hb); clear BK260; clear HB; have HO264 := n0_; have BK260 := n1_; have HB := n2_; clear n0_ n1_ n2_; (try clear hb); (try clear hb2); (try clear hk); (try clear hi); (try clear ho0); obtain ⟨Ao6, co6, eo6⟩ := Kd.S_slice HO264.out; subst eo6))
  go_loopg [19] k (fun kq v19 w' => ∃ (x19_1 : Int), v19 = .int .i64 x19_1 ∧ Aside0 (plan_Parse.l0 kq t261 t261 (t261.length : Int) x19_1 = some (r1, r2)) ∧ Aside0 (kq ≤ k) ∧ Aside0 (Kd.S (Kd.slice 3 (Kd.int .i64)) 36 w' w.heap.size (fun _ => True) (.slice Ao6 t261.length co6) t261) ∧ Aside0 (Kd.S (Kd.slice 3 (Kd.int .i64)) 36 w' w.heap.size (fun _ => True) (.slice Ao6 t261.length co6) t261) ∧ Aside0 (w'.heap[gb260]? = some (.cells #[(.slice none 0 0)] 24 (0, 0))) ∧ Aside0 (Below w.heap.size w w'))
  case atStart => exact ⟨(0), (by first | rfl | (simp; done) | (simp [*]; done)), H', ⟨Nat.le_refl _⟩, ⟨by (with_reducible repeat (first | apply Kd.S_alloc | apply Kd.S_drewN | apply Kd.S_drew)); exact HO264.out⟩, ⟨by (with_reducible repeat (first | apply Kd.S_alloc | apply Kd.S_drewN | apply Kd.S_drew)); exact HO264.out⟩, ⟨by (with_reducible repeat (first | apply zqa | apply zqb | apply zqc)); exact BK260.out⟩, ⟨by repeat (first | (with_reducible first | exact HB.out | apply zqg | apply zqf | apply zqh | refine below_set ?_ GE260.out) | exact HB.out)⟩⟩
  case round =>
   clear H'
   try clear c1
   try clear c2
   try clear p2
   try clear c3
   try clear c3b0
   try clear c3b1
   obtain ⟨x19_1, rfl, HA, HK1, HO_4, HO_17, BK260, HB⟩ := hrel
   cases gk with
   | zero => exact absurd HA.out (by simp [plan_Parse.l0])
   | succ k1 =>
    have H := HA.out
    clear HA
    simp only [plan_Parse.l0] at H
    by_cases c7 : x19_1 < (t261.length : Int)
    ·
     rw [if_pos c7] at H
     have c7b0 : decide (x19_1 < (t261.length : Int)) = true := decide_eq_true c7
     clear c7
     by_cases c8 : 0 ≤ x19_1
     ·
      rw [if_pos c8] at H
      have c8b0 : decide (0 ≤ x19_1) = true := decide_eq_true c8
      clear c8
      by_cases c9 : x19_1 < (t261.length : Int)
      ·
       rw [if_pos c9] at H
       have c9b0 : decide (x19_1 < (t261.length : Int)) = true := decide_eq_true c9
       clear c9
       replace H := Option.bind_eq_some_iff.mp H
       obtain ⟨t266, A100, H⟩ := H
       replace H : (if t266 < 1 then (some (([] : List (List Int)), 2)) else (plan_Parse.l0 k1 t261 t261 (t261.length : Int) (wrap64 (x19_1 + 1)))) = some (r1, r2) := H
       have A10 := zqi A100
       clear A100
       by_cases c11 : t266 < 1
       ·
        rw [if_pos c11] at H
        have c11b0 : decide (t266 < 1) = true := decide_eq_true c11
        clear c11
        simp only [Option.some.injEq, Prod.mk.injEq] at H
        obtain ⟨rfl, rfl⟩ := H
        have p265 : 0 ≤ (x19_1 : Int) := of_decide_eq_true (by first | (with_reducible assumption) | assumption)
        have q265 : x19_1 < (t261.length : Int) := of_decide_eq_true (by first | (with_reducible assumption) | assumption)
        obtain ⟨ad265, A265_0, c265_0, e265, hx265_0, hl265_0, hi265_0⟩ := at_L1 (Kd.S_reads' HO_17.out).2.2 x19_1 p265 q265
        cases e265
        obtain ⟨ce265, hce265, hMe265, hcc265⟩ := Kd.S_get HO_17.out [] x19_1 p265 (by first | exact q265 | exact of_decide_eq_true (by first | (with_reducible assumption) | assumption) | (have e_ := (Kd.S_reads' HO_17.out).1; omega))
        obtain ⟨ve265_0, rfl, ge265_0⟩ := hMe265
        have hv265_0 := hcc265 0 _ rfl
        rw [Nat.add_zero, show ((Kd.slice 3 (Kd.int .i64))).sz = 1 from rfl, Nat.mul_one] at hv265_0
        replace hv265_0 := Option.some.inj (hv265_0.symm.trans hx265_0)
        rw [hv265_0] at ge265_0
        have HL265_0 := zqi (show Kd.R (Kd.int .i64) 3 _ _ _ _ (rd_L1 t261 x19_1) from ge265_0)
        clear hv265_0 ge265_0
        clear hcc265 hce265
        have HR265_0 := zqi hi265_0
        have HC265_0 := zqi hl265_0
        clear hi265_0 hl265_0
        replace p265 := eq_true p265
        replace q265 := eq_true q265
        go_wp2_with (first | ((with_reducible refine gate_callee (f := 24) rfl ?_); refine goesL_ (some 24) rfl rfl Tryd.func24 (by kernel_rfl) rfl #[.slice A265_0 (rd_L1 t261 x19_1).length c265_0] rfl (by (try simp only [List.map_toArray, List.map_cons, List.map_nil]); first | done | rfl | (simp only [List.length_drop, List.length_take]; rfl)) ?_; (with_reducible refine (slices_Min_int_int.calls _ _ (rd_L1 t261 x19_1) t266 _ ?side1 ?side2 A10.out).mono ?_); (case side1 => repeat (first | exact (by repeat (first | (with_reducible exact HR265_0.out) | (with_reducible refine Kd.C_alloc ?_ _) | (with_reducible refine Kd.C_drewN ?_ _) | (with_reducible refine Kd.C_drew ?_) | exact HR265_0.out)) | (with_reducible refine Kd.C_alloc ?_ _) | (with_reducible refine Kd.C_drewN ?_ _) | (with_reducible refine Kd.C_drew ?_))); (case side2 => exact HC265_0.out); rintro e w' ⟨rfl, ⟨nd, rfl⟩⟩; refine ⟨_, rfl, ?_⟩; (try (rw [drewN_self wr]; generalize hq_ : World.drewN wr _ = wr; have n0_ : Aside0 (Kd.R (Kd.int .i64) 3 wr w.heap.size (fun k_ => some k_ ≠ (.slice (some ad265) t261.length co6 : Value).ownBlock) (.slice A265_0 (rd_L1 t261 x19_1).length c265_0) (rd_L1 t261 x19_1)) := ⟨by rw [← hq_]; exact (by (with_reducible repeat (first | apply Kd.R_alloc | apply Kd.R_drewN | apply Kd.R_drew)); exact Kd.R_mono HL265_0.out (fun _ hk => hk.2))⟩; have n1_ : Aside0 (Kd.S (Kd.slice 3 (Kd.int .i64)) 36 wr w.heap.size (fun _ => True) (.slice (some ad265) t261.length co6) t261) := ⟨by rw [← hq_]; exact (by (with_reducible repeat (first | apply Kd.S_alloc | apply Kd.S_drewN | apply Kd.S_drew)); exact HO_17.out)⟩; have n2_ : Aside0 (Kd.S (Kd.slice 3 (Kd.int .i64)) 36 wr w.heap.size (fun _ => True) (.slice (some ad265) t261.length co6) t261) := ⟨by rw [← hq_]; exact (by (with_reducible repeat (first | apply Kd.S_alloc | apply Kd.S_drewN | apply Kd.S_drew)); exact HO_4.out)⟩; have n3_ : Aside0 (wr.heap[gb260]? = some (.cells #[.slice none 0 0] 24 (0, 0))) := ⟨by rw [← hq_]; exact (zqm BK260.out)⟩; have n4_ : Aside0 (Below w.heap.size w wr) := ⟨by rw [← hq_]; exact (zqn HB.out)⟩; have n5_ : Aside0 (Kd.C (Kd.int .i64) wr A265_0 (rd_L1 t261 x19_1).length (rd_L1 t261 x19_1)) := ⟨by rw [← hq_]; exact (by repeat (first | (with_reducible exact HR265_0.out) | (with_reducible refine Kd.C_alloc ?_ _) | (with_reducible refine Kd.C_drewN ?_ _) | (with_reducible refine Kd.C_drew ?_) | exact HR265_0.out))⟩; clear HL265_0 HO_17 HO_4 BK260 HB HR265_0 hq_; have HL265_0 := n0_; have HO_17 := n1_; have HO_4 := n2_; have BK260 := n3_; have HB := n4_; have HR265_0 := n5_; clear n0_ n1_ n2_ n3_ n4_ n5_)); have hcz12_0 : wr.cell? ⟨gb260, 0, none⟩ = some (.slice none 0 0) := (zqe BK260.out 0).trans rfl; have hfz12_0 := zqd BK260.out 0))
        refine bodyPost_ret (results_ct rfl _ _ gb260 24 #[.slice none 0 0] (0, 0) _ rfl (by exact zqC (blk_set BK260.out 0 _) (by simp only [List.setIfInBounds_toArray, List.set_cons_zero, List.set_cons_succ])) Tryd.underlying24 rfl (by kernel_rfl)) rfl ?_
        exact ⟨_, by first | rfl | (simp [errW_none, errW_some] <;> rfl) | (simp [*, errW_none, errW_some] <;> rfl), by first | exact Kd.S_nil _ _ _ _ _ | exact Kd.N_nil _ _ _ _ _ | exact Kd.V_nil _ _ _ _ _ | exact Kd.Q_nil _ _ _ _ _ | exact Kd.R_nil _ _ _ _ _, by repeat (first | (with_reducible first | exact HB.out | apply zqg | apply zqf | apply zqh | refine below_set ?_ GE260.out) | exact HB.out)⟩
       ·
        rw [if_neg c11] at H
        have c11b0 : decide (t266 < 1) = false := decide_eq_false c11
        clear c11
        have H' := zqi H
        clear H
        have p265 : 0 ≤ (x19_1 : Int) := of_decide_eq_true (by first | (with_reducible assumption) | assumption)
        have q265 : x19_1 < (t261.length : Int) := of_decide_eq_true (by first | (with_reducible assumption) | assumption)
        obtain ⟨ad265, A265_0, c265_0, e265, hx265_0, hl265_0, hi265_0⟩ := at_L1 (Kd.S_reads' HO_17.out).2.2 x19_1 p265 q265
        cases e265
        obtain ⟨ce265, hce265, hMe265, hcc265⟩ := Kd.S_get HO_17.out [] x19_1 p265 (by first | exact q265 | exact of_decide_eq_true (by first | (with_reducible assumption) | assumption) | (have e_ := (Kd.S_reads' HO_17.out).1; omega))
        obtain ⟨ve265_0, rfl, ge265_0⟩ := hMe265
        have hv265_0 := hcc265 0 _ rfl
        rw [Nat.add_zero, show ((Kd.slice 3 (Kd.int .i64))).sz = 1 from rfl, Nat.mul_one] at hv265_0
        replace hv265_0 := Option.some.inj (hv265_0.symm.trans hx265_0)
        rw [hv265_0] at ge265_0
        have HL265_0 := zqi (show Kd.R (Kd.int .i64) 3 _ _ _ _ (rd_L1 t261 x19_1) from ge265_0)
        clear hv265_0 ge265_0
        clear hcc265 hce265
        have HR265_0 := zqi hi265_0
        have HC265_0 := zqi hl265_0
        clear hi265_0 hl265_0
        replace p265 := eq_true p265
        replace q265 := eq_true q265
        go_wp2_with (first | ((with_reducible refine gate_callee (f := 24) rfl ?_); refine goesL_ (some 24) rfl rfl Tryd.func24 (by kernel_rfl) rfl #[.slice A265_0 (rd_L1 t261 x19_1).length c265_0] rfl (by (try simp only [List.map_toArray, List.map_cons, List.map_nil]); first | done | rfl | (simp only [List.length_drop, List.length_take]; rfl)) ?_; (with_reducible refine (slices_Min_int_int.calls _ _ (rd_L1 t261 x19_1) t266 _ ?side1 ?side2 A10.out).mono ?_); (case side1 => repeat (first | exact (by repeat (first | (with_reducible exact HR265_0.out) | (with_reducible refine Kd.C_alloc ?_ _) | (with_reducible refine Kd.C_drewN ?_ _) | (with_reducible refine Kd.C_drew ?_) | exact HR265_0.out)) | (with_reducible refine Kd.C_alloc ?_ _) | (with_reducible refine Kd.C_drewN ?_ _) | (with_reducible refine Kd.C_drew ?_))); (case side2 => exact HC265_0.out); rintro e w' ⟨rfl, ⟨nd, rfl⟩⟩; refine ⟨_, rfl, ?_⟩))
        go_roundg k1
        case measure => have := HK1.out; omega
        case rel => exact ⟨(wrap64 (x19_1 + 1)), (by first | rfl | (simp; done) | (simp [*]; done)), H', ⟨by have := HK1.out; omega⟩, ⟨by (with_reducible repeat (first | apply Kd.S_alloc | apply Kd.S_drewN | apply Kd.S_drew)); exact HO_4.out⟩, ⟨by (with_reducible repeat (first | apply Kd.S_alloc | apply Kd.S_drewN | apply Kd.S_drew)); exact HO_17.out⟩, ⟨by (with_reducible repeat (first | apply zqa | apply zqb | apply zqc)); exact BK260.out⟩, ⟨by repeat (first | (with_reducible first | exact HB.out | apply zqg | apply zqf | apply zqh | refine below_set ?_ GE260.out) | exact HB.out)⟩⟩
      ·
       rw [if_neg c9] at H
       exact absurd H (by simp)
     ·
      rw [if_neg c8] at H
      exact absurd H (by simp)
    ·
     rw [if_neg c7] at H
     have c7b0 : decide (x19_1 < (t261.length : Int)) = false := decide_eq_false c7
     clear c7
     simp only [Option.some.injEq, Prod.mk.injEq] at H
     obtain ⟨rfl, rfl⟩ := H
     have hcz13_0 : wr.cell? ⟨gb260, 0, none⟩ = some (.slice none 0 0) := (zqe BK260.out 0).trans rfl
     have hfz13_0 := zqd BK260.out 0
     go_wp2
     refine bodyPost_ret (results_ct rfl _ _ gb260 24 #[.slice Ao6 t261.length co6] (0, 0) _ rfl (by exact zqC (blk_set BK260.out 0 _) (by simp only [List.setIfInBounds_toArray, List.set_cons_zero, List.set_cons_succ])) Tryd.underlying24 rfl (by kernel_rfl)) rfl ?_
     exact ⟨_, by first | rfl | (simp [errW_none, errW_some] <;> rfl) | (simp [*, errW_none, errW_some] <;> rfl), by (with_reducible repeat (first | apply Kd.S_alloc | apply Kd.S_drewN | apply Kd.S_drew)); exact Kd.S_mono (Kd.S_far (p := ⟨gb260, 0, none⟩) (Kd.S_types HO_4.out BK260.out (by decide)) (fun _ hk => hk.2) (.slice Ao6 t261.length co6)) (fun _ hk => trivial), by repeat (first | (with_reducible first | exact HB.out | apply zqg | apply zqf | apply zqh | refine below_set ?_ GE260.out) | exact HB.out)⟩
 ·
  rw [if_neg c3] at H
  have c3b0 : (t262 == 0) = false := beq_eq_false_iff_ne.mpr c3
  have c3b1 : (t262 != 0) = true := bne_iff_ne.mpr c3
  simp only [Option.some.injEq, Prod.mk.injEq] at H
  obtain ⟨rfl, rfl⟩ := H
  go_enter Tryd.func10, Tryd.ntmps10
  go_wp2_with (first | ((with_reducible refine gate_dst (N := 2) rfl ?_); refine box_event ?hg (N := 2) ?hd (cs := #[.slice none 0 0]) (t := 24) ?hr ?_; (case hd => rfl); (case hg => rfl); (case hr => first | (go_simp; done) | (go_simp; rfl)); intro gb260 hg w14 hbox hb; have n0_ := zqi (below_step (zqn HB.out) hb); have n1_ := zqi (hbox); have n2_ := zqi (zqo hg HB.out); have n3_ := zqi (zqo hg HB.out); clear HB; have HB := n0_; have BK260 := n1_; have GW260 := n2_; have GE260 := n3_; clear n0_ n1_ n2_ n3_; clear hb hbox hg) | ((with_reducible refine gate_callee (f := 23) rfl ?_); refine goesL_ (some 10) rfl rfl Tryd.func23 (by kernel_rfl) rfl #[.slice A0 l0.length c0] rfl (by (try simp only [List.map_toArray, List.map_cons, List.map_nil]); first | done | rfl | (simp only [List.length_drop, List.length_take]; rfl)) ?_; (with_reducible refine (scan_Lines.calls _ _ l0 t261 t262 _ ?side1 ?side2 A2.out).mono ?_); (case side1 => repeat (first | exact (Kd.C_below HR0.out HB.out) | (with_reducible refine Kd.C_alloc ?_ _) | (with_reducible refine Kd.C_drewN ?_ _) | (with_reducible refine Kd.C_drew ?_))); (case side2 => exact HC0.out); rintro e w15 ⟨v263, rfl, ho0, hb⟩; refine ⟨_, rfl, ?_⟩; have n0_ := zqi (Kd.S_lower ho0 (below_size (zqn HB.out))); have n1_ := zqi (zqy BK260.out hb); have n2_ := zqi (below_step (zqn HB.out) hb); clear BK260; clear HB; have HO264 := n0_; have BK260 := n1_; have HB := n2_; clear n0_ n1_ n2_; (try clear hb); (try clear hb2); (try clear hk); (try clear hi); (try clear ho0); have hcz16_0 : w15.cell? ⟨gb260, 0, none⟩ = some (.slice none 0 0) := (zqe BK260.out 0).trans rfl; have hfz16_0 := zqd BK260.out 0))
  refine bodyPost_ret (results_ct rfl _ _ gb260 24 #[.slice none 0 0] (0, 0) _ rfl (by exact zqC (blk_set BK260.out 0 _) (by simp only [List.setIfInBounds_toArray, List.set_cons_zero, List.set_cons_succ])) Tryd.underlying24 rfl (by kernel_rfl)) rfl ?_
  exact ⟨_, by first | rfl | (simp [errW_none, errW_some] <;> rfl) | (simp [*, errW_none, errW_some] <;> rfl), by first | exact Kd.S_nil _ _ _ _ _ | exact Kd.N_nil _ _ _ _ _ | exact Kd.V_nil _ _ _ _ _ | exact Kd.Q_nil _ _ _ _ _ | exact Kd.R_nil _ _ _ _ _, by repeat (first | (with_reducible first | exact HB.out | apply zqg | apply zqf | apply zqh | refine below_set ?_ GE260.out) | exact HB.out)⟩

/-! ### slices_EqualFunc_int_int_int_int: function 28, BY HAND -/
/-- Are the rows the same, one by one? -/
def eqRows (k : Nat) : List (List Int) → List (List Int) → Option Bool
  | a :: l, b :: m => (slices_Equal_int_int.f k a b).bind fun t => if t = true then eqRows k l m else some false
  | _, _ => some true
def slices_EqualFunc_int_int_int_int.f (k : Nat) (l0 l1 : List (List Int)) (_a2 : Int) : Option Bool := if l0.length = l1.length then eqRows k l0 l1 else some false
theorem eqRows_mono (k : Nat) : ∀ l m, LeO (eqRows k l m) (eqRows (k + 1) l m)
  | [], _ => LeO.refl _
  | _ :: _, [] => LeO.refl _
  | a :: l, b :: m => by
    unfold eqRows
    refine LeO.bind (slices_Equal_int_int.mono a b k) (fun t => ?_)
    cases t with
    | true => exact eqRows_mono k l m
    | false => exact LeO.refl _
theorem slices_EqualFunc_int_int_int_int.mono : ∀ (l0 l1 : List (List Int)) (a2 : Int) (k : Nat), LeO (slices_EqualFunc_int_int_int_int.f k l0 l1 a2) (slices_EqualFunc_int_int_int_int.f (k + 1) l0 l1 a2) := by
  intro l0 l1 a2 k
  unfold slices_EqualFunc_int_int_int_int.f
  split
  · exact eqRows_mono k l0 l1
  · exact LeO.refl _
theorem hidE {p : Prop} (h : p) : Hid p := h
theorem rd_E_at {l : List (List Int)} {i : Nat} (h : i < l.length) : rd_L1 l (i : Int) = l[i] := by unfold rd_L1; simp [List.getD, List.getElem?_eq_getElem h]
theorem same_one (k : Nat) (A0 A1 : Option Addr) (c0 c1 : Nat) (x y : List Int) (t : Bool) (w : World) (hr0 : Kd.C (Kd.int .i64) w A0 x.length x) (hc0 : x.length ≤ c0) (hr1 : Kd.C (Kd.int .i64) w A1 y.length y) (hc1 : y.length ≤ c1) (h : slices_Equal_int_int.f k x y = some t) :
    Calls Tryd.prog 29 #[.slice A0 x.length c0, .slice A1 y.length c1] w fun e w' => e = .returned (.bool t) ∧ Below w.heap.size w w' := by
  have HQ := hidE (slices_Equal_int_int.calls k A0 c0 x A1 c1 y t w hr0 hc0 hr1 hc1 h)
  clear hr0 hr1 hc0 hc1 h
  go_enter Tryd.func29, Tryd.ntmps29
  go_wp2_with (go_at_call 30; (with_reducible refine HQ.out.mono ?_); rintro e_ w1 ⟨rfl, hb_⟩)
  go_ret
  exact ⟨rfl, by first | exact hb_ | (subst hb_; exact Below.refl _ _) | (obtain ⟨m_, rfl⟩ := hb_; exact pw_below_drewN (Below.refl _ _) m_)⟩
set_option maxHeartbeats 4000000 in
theorem slices_EqualFunc_int_int_int_int.calls (k : Nat) (A0 : Option Addr) (c0 : Nat) (l0 : List (List Int)) (A1 : Option Addr) (c1 : Nat) (l1 : List (List Int)) (a2 : Int) (r : Bool) (w : World) (hr0 : Kd.C (Kd.slice 3 (Kd.int .i64)) w A0 l0.length l0) (hc0 : l0.length ≤ c0) (hr1 : Kd.C (Kd.slice 3 (Kd.int .i64)) w A1 l1.length l1) (hc1 : l1.length ≤ c1) (h : slices_EqualFunc_int_int_int_int.f k l0 l1 a2 = some r) :
    Calls Tryd.prog 28 #[.slice A0 l0.length c0, .slice A1 l1.length c1, .func (.func 29) #[] #[]] w fun e w' => e = .returned (.bool r) ∧ Below w.heap.size w w' := by
  have hmax0 := Kd.C_max hr0
  have hmax1 := Kd.C_max hr1
  have HR0 := hidE hr0
  have HR1 := hidE hr1
  clear hr0 hr1 hc0 hc1
  unfold slices_EqualFunc_int_int_int_int.f at h
  by_cases hl : l0.length = l1.length
  · rw [if_pos hl] at h
    have HH := hidE h
    clear h
    have hz : ((l0.length : Int) != (l1.length : Int)) = false := by rw [hl]; exact bne_self_eq_false _
    have HL := hidE hl
    clear hl
    go_enter Tryd.func28, Tryd.ntmps28
    go_wp2
    go_loopg [17] (l0.length + 1) (fun kq v17 wr => ∃ (i : Nat), Hid (kq = l0.length + 1 - i) ∧ v17 = .int .i64 (i : Int) ∧ i ≤ l0.length ∧ Hid (Below w.heap.size w wr) ∧ Hid (eqRows k (l0.drop i) (l1.drop i) = some r))
    case atStart => exact ⟨0, hidE rfl, rfl, by omega, hidE (Below.refl _ _), HH⟩
    case round =>
      obtain ⟨i, HI, rfl, hi, HB, HA⟩ := hrel
      by_cases hlt : i < l0.length
      · have hlt1 : i < l1.length := by have := HL.out; omega
        have t1 : decide ((i : Int) < (l0.length : Int)) = true := decide_eq_true (by omega)
        have t1n : decide (i < l0.length) = true := decide_eq_true (by omega)
        obtain ⟨ad, B1, d1, e1, hx1, hl1, hi1⟩ := at_L1 (Kd.C_below HR0.out HB.out) (i : Int) (by omega) (by omega)
        obtain ⟨ad2, B2, d2, e2, hx2, hl2, hi2⟩ := at_L1 (Kd.C_below HR1.out HB.out) (i : Int) (by omega) (by have := HL.out; omega)
        cases e1
        cases e2
        have p1 : (0 ≤ (i : Int)) = True := eq_true (by omega)
        have q1 : ((i : Int) < (l0.length : Int)) = True := eq_true (by omega)
        have q2 : ((i : Int) < (l1.length : Int)) = True := eq_true (by have := hlt1; omega)
        have q2n : (i < l1.length) = True := eq_true hlt1
        rw [rd_E_at hlt] at hx1 hl1 hi1
        rw [rd_E_at hlt1] at hx2 hl2 hi2
        rw [Int.toNat_natCast] at hx1 hx2
        have ha := HA.out
        rw [List.drop_eq_getElem_cons hlt, List.drop_eq_getElem_cons hlt1] at ha
        obtain ⟨t, ht, ha⟩ := Option.bind_eq_some_iff.1 ha
        generalize l0[i] = x at hx1 hl1 hi1 ht
        generalize l1[i] = y at hx2 hl2 hi2 ht
        have HX := hidE hi1
        have HY := hidE hi2
        have HT := hidE ht
        have HLX := hidE hl1
        have HLY := hidE hl2
        clear hi1 hi2 ht hl1 hl2 HA
        cases t with
        | true =>
          have HN := hidE (show eqRows k (l0.drop (i + 1)) (l1.drop (i + 1)) = some r by simpa using ha)
          clear ha
          go_wp2_with (go_at_call 29; (with_reducible refine (same_one k _ _ _ _ x y true _ HX.out HLX.out HY.out HLY.out HT.out).mono ?_); rintro e_ w1 ⟨rfl, hb_⟩; have HB1 := hidE (below_step HB.out hb_); clear hb_)
          go_roundg (l0.length + 1 - (i + 1))
          case measure => have := HI.out; omega
          case rel => exact ⟨i + 1, hidE rfl, by go_num, by omega, HB1, HN⟩
        | false =>
          obtain rfl : false = r := by simpa using ha
          clear ha
          go_wp2_with (go_at_call 29; (with_reducible refine (same_one k _ _ _ _ x y false _ HX.out HLX.out HY.out HLY.out HT.out).mono ?_); rintro e_ w1 ⟨rfl, hb_⟩; have HB1 := hidE (below_step HB.out hb_); clear hb_)
          go_ret
          exact ⟨rfl, HB1.out⟩
      · have t1 : decide ((i : Int) < (l0.length : Int)) = false := decide_eq_false (by omega)
        have t1n : decide (i < l0.length) = false := decide_eq_false (by omega)
        have hr : true = r := by
          have ha := HA.out
          rw [List.drop_of_length_le (by omega)] at ha
          simpa [eqRows] using ha
        subst hr
        go_wp2
        go_ret
        exact ⟨rfl, HB.out⟩
  · rw [if_neg hl] at h
    obtain rfl := Option.some.inj h
    have hz : ((l0.length : Int) != (l1.length : Int)) = true := bne_iff_ne.mpr (by omega)
    go_enter Tryd.func28, Tryd.ntmps28
    go_wp2
    go_ret
    exact ⟨rfl, Below.refl _ _⟩

/-! ### plan_Same: function 14 -/
def plan_Same.f (k : Nat) (l0_0 : List (List Int)) (l1_0 : List (List Int)) : Option (Bool) := (plan_Sorted.f k l0_0).bind fun t269 => ((plan_Sorted.f k l1_0).bind fun t272 => ((slices_EqualFunc_int_int_int_int.f k t269 t272 999029).bind fun t275 => (some t275)))
theorem plan_Same.mono : ∀ a0 a1 k, LeO (plan_Same.f k a0 a1) (plan_Same.f (k + 1) a0 a1) := by
  intro a0 a1 k
  unfold plan_Same.f
  repeat' first
      | (with_reducible exact plan_Sorted.mono _ _)
      | (with_reducible exact slices_EqualFunc_int_int_int_int.mono _ _ _ _)
      | (with_reducible exact LeO.refl _)
      | (with_reducible exact LeO.none _)
      | (with_reducible refine LeO.ite ?_ ?_)
      | (with_reducible refine LeO.bind ?_ (fun _ => ?_))
      | exact plan_Sorted.mono _ _
      | exact slices_EqualFunc_int_int_int_int.mono _ _ _ _
      | exact LeO.none _
      | refine LeO.ite ?_ ?_
      | refine LeO.bind ?_ (fun _ => ?_)
def plan_Same.T1 : Bool × List (List Nat × List Nat) := (true, [([], []), ([0], [0]), ([1], [1]), ([], []), ([3, 1], [3]), ([4], [4]), ([2, 5, 4], [2, 5]), ([6, 6, 0, 1, 2, 3, 4, 5, 6], [6])])
def plan_Same.B1 : List Nat := [0, 1, 3, 0, 11, 27, 63, 127]
theorem plan_Same.tab1 : rtab .any (opsOf Tryd.f14 1) = plan_Same.T1 := by kernel_rfl
theorem plan_Same.bits1 : waitsOk plan_Same.T1.2 plan_Same.B1 = true := by kernel_rfl
set_option maxHeartbeats 16000000 in
set_option maxRecDepth 100000 in
theorem plan_Same.calls (k : Nat) (A0_0 : Option Addr) (c0_0 : Nat) (l0_0 : List (List Int)) (A1_0 : Option Addr) (c1_0 : Nat) (l1_0 : List (List Int)) (r : Bool) (w : World) (hr0_0 : Kd.C (Kd.slice 3 (Kd.int .i64)) w A0_0 l0_0.length l0_0) (hc0_0 : l0_0.length ≤ c0_0) (hr1_0 : Kd.C (Kd.slice 3 (Kd.int .i64)) w A1_0 l1_0.length l1_0) (hc1_0 : l1_0.length ≤ c1_0) (h : plan_Same.f k l0_0 l1_0 = some r) :
  Calls Tryd.prog 14 #[.agg #[.slice A0_0 l0_0.length c0_0], .agg #[.slice A1_0 l1_0.length c1_0]] w fun e w' => e = .returned (.bool r) ∧ Below w.heap.size w w' := by
 have hu24 := Tryd.underlying24
 have HR0_0 := zqi hr0_0
 have HC0_0 := zqi hc0_0
 clear hr0_0 hc0_0
 have HR1_0 := zqi hr1_0
 have HC1_0 := zqi hc1_0
 clear hr1_0 hc1_0
 have HB := zqi (Below.refl w.heap.size w)
 have H : ((plan_Sorted.f k l0_0).bind fun t269 => ((plan_Sorted.f k l1_0).bind fun t272 => ((slices_EqualFunc_int_int_int_int.f k t269 t272 999029).bind fun t275 => (some t275)))) = some r := h
 clear h
 replace H := Option.bind_eq_some_iff.mp H
 obtain ⟨t269, A30, H⟩ := H
 replace H : ((plan_Sorted.f k l1_0).bind fun t272 => ((slices_EqualFunc_int_int_int_int.f k t269 t272 999029).bind fun t275 => (some t275))) = some r := H
 have A3 := zqi A30
 clear A30
 replace H := Option.bind_eq_some_iff.mp H
 obtain ⟨t272, A40, H⟩ := H
 replace H : ((slices_EqualFunc_int_int_int_int.f k t269 t272 999029).bind fun t275 => (some t275)) = some r := H
 have A4 := zqi A40
 clear A40
 replace H := Option.bind_eq_some_iff.mp H
 obtain ⟨t275, A50, H⟩ := H
 replace H : (some t275) = some r := H
 have A5 := zqi A50
 clear A50
 obtain rfl := Option.some.inj H
 have hfl_ := field0
 go_enter Tryd.func14, Tryd.ntmps14
 try go_wp2_with (first | ((with_reducible refine gate_dst (N := 2) rfl ?_); refine box_event ?hg (N := 2) ?hd (cs := #[.slice A0_0 l0_0.length c0_0]) (t := 24) ?hr ?_; (case hd => rfl); (case hg => rfl); (case hr => first | (go_simp; done) | (go_simp; rfl)); intro gb267 hg w6 hbox hb; have n0_ := zqi (below_step (zqn HB.out) hb); have n1_ := zqi (hbox); have n2_ := zqi (zqo hg HB.out); have n3_ := zqi (zqo hg HB.out); clear HB; have HB := n0_; have BK267 := n1_; have GW267 := n2_; have GE267 := n3_; clear n0_ n1_ n2_ n3_; clear hb hbox hg) | ((with_reducible refine gate_dst (N := 3) rfl ?_); refine box_event ?hg (N := 3) ?hd (cs := #[.slice A1_0 l1_0.length c1_0]) (t := 24) ?hr ?_; (case hd => rfl); (case hg => rfl); (case hr => first | (go_simp; done) | (go_simp; rfl)); intro gb268 hg w7 hbox hb; have n0_ := zqi (zqy BK267.out hb); have n1_ := zqi (below_step (zqn HB.out) hb); have n2_ := zqi (hbox); have n3_ := zqi (zqo hg HB.out); have n4_ := zqi (zqo hg HB.out); have n5_ := zqi ((zqq hg BK267.out)); have n6_ := zqi ((zqr hg BK267.out)); clear BK267; clear HB; have BK267 := n0_; have HB := n1_; have BK268 := n2_; have GW268 := n3_; have GE268 := n4_; have NB267_268 := n5_; have NB268_267 := n6_; clear n0_ n1_ n2_ n3_ n4_ n5_ n6_; clear hb hbox hg))
 have n0_ := zqi (zqb BK267.out)
 have n1_ := zqi (zqb BK268.out)
 have n2_ := zqi (zqh HB.out)
 clear BK267
 clear BK268
 clear HB
 have BK267 := n0_
 have BK268 := n1_
 have HB := n2_
 clear n0_ n1_ n2_
 refine start_ (n := 8) (S := fun w' => w'.cell? ⟨gb267, 0, none⟩ = some (.slice A0_0 l0_0.length c0_0) ∧ w'.cell? ⟨gb268, 0, none⟩ = some (.slice A1_0 l1_0.length c1_0)) (ds := []) (zqB 8 0) (by kernel_rfl) rfl rfl ⟨(zqe BK267.out 0).trans rfl, (zqe BK268.out 0).trans rfl⟩ (fun hHeld => ?_); refine with_tabW plan_Same.tab1 plan_Same.bits1 (fun HT_ HW_ => ?_)
 generalize w7.drew = w8 at BK267 BK268 HB hHeld ⊢
 refine zqt 0 (some 5) (zqB 8 1) (take_ofW HT_.out HW_.out (by kernel_rfl)) hHeld (h := ?_)
 refine zqt 3 (some 8) (zqB 8 9) (take_ofW HT_.out HW_.out (by kernel_rfl)) hHeld (h := ?_)
 refine one_ (i := 1) (N := some 6) (zqB 8 11) rfl rfl (one_of HT_.out (by kernel_rfl)) (by decide) (fun K hK => ?_)
 refine goes_ Tryd.func7 (by kernel_rfl) rfl #[.agg #[.slice A0_0 l0_0.length c0_0]] (by rfl) rfl rfl (by (try simp only [List.map_toArray, List.map_cons, List.map_nil]); first | done | rfl | (simp only [List.length_drop, List.length_take]; rfl)) ?_
 with_reducible refine (plan_Sorted.calls k _ _ l0_0 t269 _ ?side1 ?side2 A3.out).mono ?_
 (case side1 => repeat (first | exact (Kd.C_below HR0_0.out HB.out) | (with_reducible refine Kd.C_alloc ?_ _) | (with_reducible refine Kd.C_drewN ?_ _) | (with_reducible refine Kd.C_drew ?_)))
 (case side2 => exact HC0_0.out)
 rintro e w9 ⟨v270, rfl, ho0, hb⟩
 refine ⟨_, rfl, ?_⟩
 have n0_ := zqi (Kd.S_lower ho0 (below_size (zqn HB.out)))
 have n1_ := zqi (zqy BK267.out hb)
 have n2_ := zqi (zqy BK268.out hb)
 have n3_ := zqi (below_step (zqn HB.out) hb)
 clear BK267
 clear BK268
 clear HB
 have HO271 := n0_
 have BK267 := n1_
 have BK268 := n2_
 have HB := n3_
 clear n0_ n1_ n2_ n3_
 (try clear hb)
 (try clear hb2)
 (try clear hk)
 (try clear hi)
 (try clear ho0)
 refine hK.out _ _ ⟨(zqe BK267.out 0).trans rfl, (zqe BK268.out 0).trans rfl⟩ (fun hHeld => ?_)
 clear hK K
 refine norm_ (a' := ?_) ?_ ?_
 rotate_left
 ·
  show Act.put _ (some 6) _ = _
  simp only [Act.put, List.setIfInBounds_toArray, List.set_cons_zero, List.set_cons_succ, i64_w, i32_w]
  rfl
 refine zqp 2 (some 7) (zqB 8 15) (any_of HT_.out (by kernel_rfl)) (h := ?_)
 refine one_ (i := 4) (N := some 9) (zqB 8 31) rfl rfl (one_of HT_.out (by kernel_rfl)) (by decide) (fun K hK => ?_)
 refine goes_ Tryd.func7 (by kernel_rfl) rfl #[.agg #[.slice A1_0 l1_0.length c1_0]] (by rfl) rfl rfl (by (try simp only [List.map_toArray, List.map_cons, List.map_nil]); first | done | rfl | (simp only [List.length_drop, List.length_take]; rfl)) ?_
 with_reducible refine (plan_Sorted.calls k _ _ l1_0 t272 _ ?side1 ?side2 A4.out).mono ?_
 (case side1 => repeat (first | exact (Kd.C_below HR1_0.out HB.out) | (with_reducible refine Kd.C_alloc ?_ _) | (with_reducible refine Kd.C_drewN ?_ _) | (with_reducible refine Kd.C_drew ?_)))
 (case side2 => exact HC1_0.out)
 rintro e w10 ⟨v273, rfl, ho0, hb⟩
 refine ⟨_, rfl, ?_⟩
 have n0_ := zqi (Kd.S_elder' (by (with_reducible repeat (first | apply Kd.S_alloc | apply Kd.S_drewN | apply Kd.S_drew)); exact HO271.out) (Kd.S_base ho0) hb)
 have n1_ := zqi (Kd.S_lower (Kd.S_new' ho0 (Kd.S_lt (by (with_reducible repeat (first | apply Kd.S_alloc | apply Kd.S_drewN | apply Kd.S_drew)); exact HO271.out))) (below_size (zqn HB.out)))
 have n2_ := zqi (zqy BK267.out hb)
 have n3_ := zqi (zqy BK268.out hb)
 have n4_ := zqi (below_step (zqn HB.out) hb)
 clear HO271
 clear BK267
 clear BK268
 clear HB
 have HO271 := n0_
 have HO274 := n1_
 have BK267 := n2_
 have BK268 := n3_
 have HB := n4_
 clear n0_ n1_ n2_ n3_ n4_
 (try clear hb)
 (try clear hb2)
 (try clear hk)
 (try clear hi)
 (try clear ho0)
 obtain ⟨Ao11, co11, eo11⟩ := Kd.S_slice HO271.out
 (first | subst eo11 | (injection eo11 with f1_ f2_ f3_; have f4_ := f1_.symm; have f5_ := f3_.symm; clear f1_ f2_ f3_; subst f4_; subst f5_))
 obtain ⟨Ao12, co12, eo12⟩ := Kd.S_slice HO274.out
 (first | subst eo12 | (injection eo12 with f1_ f2_ f3_; have f4_ := f1_.symm; have f5_ := f3_.symm; clear f1_ f2_ f3_; subst f4_; subst f5_))
 refine hK.out _ _ ⟨(zqe BK267.out 0).trans rfl, (zqe BK268.out 0).trans rfl⟩ (fun hHeld => ?_)
 clear hK K
 refine norm_ (a' := ?_) ?_ ?_
 rotate_left
 ·
  show Act.put _ (some 9) _ = _
  simp only [Act.put, List.setIfInBounds_toArray, List.set_cons_zero, List.set_cons_succ, i64_w, i32_w]
  rfl
 refine zqp 5 (some 10) (zqB 8 63) (any_of HT_.out (by kernel_rfl)) (h := ?_)
 refine one_ (i := 6) (N := some 11) (zqB 8 127) rfl rfl (one_of HT_.out (by kernel_rfl)) (by decide) (fun K hK => ?_)
 refine goes_ Tryd.func28 (by kernel_rfl) rfl #[.slice Ao11 t269.length co11, .slice Ao12 t272.length co12, .func (.func 29) #[] #[]] (by rfl) rfl rfl (by (try simp only [List.map_toArray, List.map_cons, List.map_nil]); first | done | rfl | (simp only [List.length_drop, List.length_take]; rfl)) ?_
 with_reducible refine (slices_EqualFunc_int_int_int_int.calls k _ _ t269 _ _ t272 999029 t275 _ ?side1 ?side2 ?side3 ?side4 A5.out).mono ?_
 (case side1 => repeat (first | exact (Kd.S_reads' HO271.out).2.2 | (with_reducible refine Kd.C_alloc ?_ _) | (with_reducible refine Kd.C_drewN ?_ _) | (with_reducible refine Kd.C_drew ?_)))
 (case side2 => exact (Kd.S_reads' HO271.out).2.1)
 (case side3 => repeat (first | exact (Kd.S_reads' HO274.out).2.2 | (with_reducible refine Kd.C_alloc ?_ _) | (with_reducible refine Kd.C_drewN ?_ _) | (with_reducible refine Kd.C_drew ?_)))
 (case side4 => exact (Kd.S_reads' HO274.out).2.1)
 rintro e w13 ⟨rfl, hb⟩
 refine ⟨_, rfl, ?_⟩
 have n0_ := zqi (Kd.S_below (by (with_reducible repeat (first | apply Kd.S_alloc | apply Kd.S_drewN | apply Kd.S_drew)); exact HO271.out) hb)
 have n1_ := zqi (Kd.S_below (by (with_reducible repeat (first | apply Kd.S_alloc | apply Kd.S_drewN | apply Kd.S_drew)); exact HO274.out) hb)
 have n2_ := zqi (zqy BK267.out hb)
 have n3_ := zqi (zqy BK268.out hb)
 have n4_ := zqi (below_step (zqn HB.out) hb)
 clear HO271
 clear HO274
 clear BK267
 clear BK268
 clear HB
 have HO271 := n0_
 have HO274 := n1_
 have BK267 := n2_
 have BK268 := n3_
 have HB := n4_
 clear n0_ n1_ n2_ n3_ n4_
 (try clear hb)
 (try clear hb2)
 (try clear hk)
 (try clear hi)
 refine hK.out _ _ ⟨(zqe BK267.out 0).trans rfl, (zqe BK268.out 0).trans rfl⟩ (fun hHeld => ?_)
 clear hK K
 refine norm_ (a' := ?_) ?_ ?_
 rotate_left
 ·
  show Act.put _ (some 11) _ = _
  simp only [Act.put, List.setIfInBounds_toArray, List.set_cons_zero, List.set_cons_succ, i64_w, i32_w]
  rfl
 refine zqp 7 (some 4) (zqB 8 255) (any_of HT_.out (by kernel_rfl)) (h := ?_)
 refine done_ (done_of HT_.out (by kernel_rfl)) ?_
 try go_wp2
 go_ret
 exact ⟨by first | rfl | (simp [errW_none, errW_some] <;> rfl) | (simp [*, errW_none, errW_some] <;> rfl), by repeat (first | (with_reducible first | exact HB.out | apply zqg | apply zqf | apply zqh | refine below_set ?_ GE267.out | refine below_set ?_ GE268.out) | exact HB.out)⟩

end Go.Proofs.YtdkhajgfifaibaaDoor.PA
