-- Printed for this claim by wip/tools/xprint.py over the kit's print; the contracts marked BY HAND are this session's own.
import Derived.Test.YtdkhajgfifaibaaDoorPAx0
import Derived.Test.YtdkhajgfifaibaaDoorPAx3
namespace Go.Proofs.YtdkhajgfifaibaaDoor.PA
open Go.RowKit Go.Proofs.YtdkhajgfifaibaaDoorW.PrintWords Go.Proofs.YtdkhajgfifaibaaDoorW.PrintLast Go.Proofs.YtdkhajgfifaibaaDoorW.PrintMore
attribute [local go_sem] max2_int min2_int max_two min_two max_three min_three max_four min_four   -- for this text's walks alone
set_option linter.unusedVariables false
set_option linter.unusedSimpArgs false

/-! ### scan_Print: function 26, BY HAND -/
open Go.Proofs.YtdkhajgfifaibaaDoor.Scan in
def scan_Print.Ok (l0 : List (List Int)) : Prop := (textP l0).length ≤ 70368744177664 ∧ ∀ l ∈ l0, ∀ n ∈ l, (-9223372036854775808 : Int) ≤ n ∧ n ≤ 9223372036854775807
open Go.Proofs.YtdkhajgfifaibaaDoor.Scan in
instance (l0 : List (List Int)) : Decidable (scan_Print.Ok l0) := by unfold scan_Print.Ok; infer_instance
open Go.Proofs.YtdkhajgfifaibaaDoor.Scan in
def scan_Print.f (l0 : List (List Int)) : Option (List Int) := if scan_Print.Ok l0 then some (textP l0) else none
theorem hidP {p : Prop} (h : p) : Hid p := h
theorem rd_row_at {l : List (List Int)} {i : Nat} (h : i < l.length) : rd_L1 l (i : Int) = l[i] := by unfold rd_L1; simp [List.getD, List.getElem?_eq_getElem h]
theorem rd_atP {b : List Int} {i : Nat} (h : i < b.length) : rd b (i : Int) = b[i] := by unfold rd; simp [List.getD, List.getElem?_eq_getElem h]
set_option maxHeartbeats 4000000 in
set_option maxRecDepth 100000 in
open Go.Proofs.YtdkhajgfifaibaaDoor.Scan in
theorem scan_Print.calls (A0 : Option Addr) (c0 : Nat) (l0 : List (List Int)) (r : List Int) (w : World) (hr0 : Kd.C (Kd.slice 3 (Kd.int .i64)) w A0 l0.length l0) (hc0 : l0.length ≤ c0) (h : scan_Print.f l0 = some r) (hT : NumTab w) :
    Calls Tryd.prog 26 #[.slice A0 l0.length c0] w fun e w' => ∃ v0_ : Value, e = .returned (v0_) ∧ Kd.R (Kd.int .u8) 5 w' w.heap.size (fun _ => True) v0_ r ∧ Below w.heap.size w w' := by
  unfold scan_Print.f at h
  split at h
  case isFalse => cases h
  case isTrue hok =>
  obtain rfl := Option.some.inj h
  obtain ⟨hL, hN⟩ := hok
  have hmax0 := Kd.C_max hr0
  have HR0 := hidP hr0
  have HC0 := hidP hc0
  have HT := hidP hT
  have HL := hidP hL
  have HN := hidP hN
  clear hr0 hc0 hT hL hN h
  go_enter Tryd.func26, Tryd.ntmps26
  go_wp2
  go_loopg [3, 10] (l0.length + 1) (fun kq v3 v10 wr => ∃ (i : Nat), Hid (kq = l0.length + 1 - i) ∧ v10 = .int .i64 (i : Int) ∧ i ≤ l0.length ∧ Hid (Kd.R (Kd.int .u8) 5 wr w.heap.size (fun _ => True) v3 (textP (l0.take i))) ∧ Hid (Below w.heap.size w wr))
  case atStart => exact ⟨0, hidP rfl, rfl, by omega, hidP (Kd.R_nil _ _ _ _ _), hidP (Below.refl _ _)⟩
  case round =>
    obtain ⟨i, HI, rfl, hi, HO, HB⟩ := hrel
    by_cases hlt : i < l0.length
    · have t1 : decide ((i : Int) < (l0.length : Int)) = true := decide_eq_true (by omega)
      have t1n : decide (i < l0.length) = true := decide_eq_true (by omega)
      obtain ⟨ad, A1, c1, e1, hx1, hl1, hi1⟩ := at_L1 HR0.out (i : Int) (by omega) (by omega)
      cases e1
      have p1 : (0 ≤ (i : Int)) = True := eq_true (by omega)
      have q1 : ((i : Int) < (l0.length : Int)) = True := eq_true (by omega)
      rw [rd_row_at hlt] at hx1 hl1 hi1
      rw [Int.toNat_natCast] at hx1
      have hx1' := (HB.out.cell (World.block_lt_of_cell? w _ hx1)).trans hx1
      have hmax1 := Kd.C_max hi1
      have HI1 := hidP hi1
      have HL1 := hidP hl1
      obtain ⟨line, hline⟩ : ∃ line, line = l0[i] := ⟨_, rfl⟩
      rw [← hline] at hx1 hx1' HI1 HL1 hmax1
      have HLINE := hidP hline
      clear hi1 hl1 hx1 hline
      go_wp2
      go_loopg [3, 16] (line.length + 1) (fun kq v3 v16 wr1 => ∃ (j : Nat), Hid (kq = line.length + 1 - j) ∧ v16 = .int .i64 (j : Int) ∧ j ≤ line.length ∧ Hid (Kd.R (Kd.int .u8) 5 wr1 w.heap.size (fun _ => True) v3 (textP (l0.take i) ++ sepI (line.take j))) ∧ Hid (Below w.heap.size w wr1))
      case atStart => exact ⟨0, hidP rfl, rfl, by omega, hidP (by have := HO.out; simpa [sepI] using this), HB⟩
      case round =>
        clear HO HB hx1'
        obtain ⟨j, HJ, rfl, hj, HO, HB⟩ := hrel
        by_cases hlj : j < line.length
        · have s1 : decide ((j : Int) < (line.length : Int)) = true := decide_eq_true (by omega)
          have s1n : decide (j < line.length) = true := decide_eq_true (by omega)
          obtain ⟨ad2, e2, hx2⟩ := Kd.at_int HI1.out (j : Int) (by omega) (by omega)
          cases e2
          rw [rd_atP hlj] at hx2
          rw [Int.toNat_natCast] at hx2
          have hx2' := (HB.out.cell (World.block_lt_of_cell? w _ hx2)).trans hx2
          have p2 : (0 ≤ (j : Int)) = True := eq_true (by omega)
          have q2 : ((j : Int) < (line.length : Int)) = True := eq_true (by omega)
          obtain ⟨n, hn⟩ : ∃ n, n = line[j] := ⟨_, rfl⟩
          rw [← hn] at hx2 hx2'
          clear hx2
          have hlen := textP_line_le hlt j
          rw [← HLINE.out] at hlen
          have hlen2 := HL.out
          have hrange := HN.out line (by rw [HLINE.out]; exact List.getElem_mem hlt) n (by rw [hn]; exact List.getElem_mem hlj)
          have hout : (if line.take j = [] then [] else sepI (line.take j) ++ [32]) ++ itoaI n = sepI (line.take (j + 1)) := by rw [List.take_succ_eq_append_getElem hlj, sepI_snoc, hn]
          have HOUT := hidP hout
          obtain ⟨xs, hxs⟩ : ∃ xs, xs = textP (l0.take i) ++ sepI (line.take j) := ⟨_, rfl⟩
          have hxl : xs.length ≤ 70368744177664 := by rw [hxs, List.length_append]; omega
          rw [← hxs] at HO
          have HXS := hidP hxs
          have HXL := hidP hxl
          obtain ⟨hr1, hr2⟩ := hrange
          have HR1 := hidP hr1
          have HR2 := hidP hr2
          clear hn hxs hxl hlen hlen2 hout hr1 hr2
          by_cases h0 : 0 < j
          · have g1 : decide (0 < (j : Int)) = true := decide_eq_true (by omega)
            have g1n : decide (0 < j) = true := decide_eq_true h0
            go_wp2_with (first
              | ((with_reducible refine gate_builtin (b := .append) (xs := #[.tmp 23, .tmp 24]) rfl ?_); at_builtin; refine Kd.R_append (Kd.int .u8) (w0 := w) w.heap.size rfl (.tmp 23) (.tmp 24) 25 5 (.int .u8 0) 1 rfl Tryd.underlying25 info5 rfl (by decide) (by omega) u3 xs 32 [.int .u8 32] (fun _ => True) (fun _ => False) rfl rfl ?aP (fun _ hk => hk.elim) (fun _ _ => trivial) ?aO ?aB ?aS ?aL ?_; (case aP => exact rfl); (case aO => exact HO.out); (case aB => exact HB.out); (case aS => exact HB.out.size); (case aL => have := HXL.out; omega); intro v25 w25 ho25 hb25 hg25 hat25; have HO25 := hidP ho25; have HB25 := hidP hb25; clear ho25 hb25 hg25 hat25)
              | (go_at_call 43; (with_reducible refine (append_int _ (xs ++ [32]) n HR1.out HR2.out w _ HT.out HB25.out HO25.out (by have := HXL.out; simp; omega)).mono ?_); rintro e w26 ⟨v26, rfl, ho26, hb26⟩; have HO26 := hidP ho26; have HB26 := hidP hb26; clear ho26 hb26))
            go_roundg (line.length + 1 - (j + 1))
            case measure => have := HJ.out; omega
            case rel => exact ⟨j + 1, hidP rfl, by go_num, by omega, hidP (by have h1 := HO26.out; have h2 := HOUT.out; have h3 := HXS.out; rw [if_neg (by intro h; have := congrArg List.length h; rw [List.length_take] at this; simp only [List.length_nil] at this; omega)] at h2; rw [← h2]; rw [h3] at h1; simpa using h1), HB26⟩
          · have g1 : decide (0 < (j : Int)) = false := decide_eq_false (by omega)
            have g1n : decide (0 < j) = false := decide_eq_false h0
            go_wp2_with (first
              | (go_at_call 43; (with_reducible refine (append_int _ xs n HR1.out HR2.out w _ HT.out HB.out HO.out (by have := HXL.out; omega)).mono ?_); rintro e w26 ⟨v26, rfl, ho26, hb26⟩; have HO26 := hidP ho26; have HB26 := hidP hb26; clear ho26 hb26))
            go_roundg (line.length + 1 - (j + 1))
            case measure => have := HJ.out; omega
            case rel => exact ⟨j + 1, hidP rfl, by go_num, by omega, hidP (by have h1 := HO26.out; have h2 := HOUT.out; have h3 := HXS.out; obtain rfl : j = 0 := (by omega); rw [← h2]; rw [h3] at h1; simpa [sepI] using h1), HB26⟩
        · have s1 : decide ((j : Int) < (line.length : Int)) = false := decide_eq_false (by omega)
          have s1n : decide (j < line.length) = false := decide_eq_false (by omega)
          obtain rfl : j = line.length := by omega
          have hlen := textP_line_le hlt line.length
          rw [← HLINE.out] at hlen
          have hlen2 := HL.out
          have HTS : Hid (textP (l0.take (i + 1)) = textP (l0.take i) ++ lineP line) := hidP (by rw [List.take_succ_eq_append_getElem hlt, textP_snoc, ← HLINE.out])
          have HTK : Hid (line.take line.length = line) := hidP (by simp)
          obtain ⟨xs, hxs⟩ : ∃ xs, xs = textP (l0.take i) ++ sepI (line.take line.length) := ⟨_, rfl⟩
          have hxl : xs.length ≤ 70368744177664 := by rw [hxs, List.length_append]; omega
          rw [← hxs] at HO
          have HXS := hidP hxs
          have HXL := hidP hxl
          clear hxs hxl hlen hlen2
          by_cases h0 : 0 < line.length
          · have g1 : decide (0 < (line.length : Int)) = true := decide_eq_true (by omega)
            have g1n : decide (0 < line.length) = true := decide_eq_true h0
            go_wp2_with (first
              | ((with_reducible refine gate_builtin (b := .append) (xs := #[.tmp 33, .tmp 34]) rfl ?_); at_builtin; refine Kd.R_append (Kd.int .u8) (w0 := w) w.heap.size rfl (.tmp 33) (.tmp 34) 25 5 (.int .u8 0) 1 rfl Tryd.underlying25 info5 rfl (by decide) (by omega) u3 xs 10 [.int .u8 10] (fun _ => True) (fun _ => False) rfl rfl ?aP (fun _ hk => hk.elim) (fun _ _ => trivial) ?aO ?aB ?aS ?aL ?_; (case aP => exact rfl); (case aO => exact HO.out); (case aB => exact HB.out); (case aS => exact HB.out.size); (case aL => have := HXL.out; omega); intro v25 w25 ho25 hb25 hg25 hat25; have HO25 := hidP ho25; have HB25 := hidP hb25; clear ho25 hb25 hg25 hat25))
            go_roundg (l0.length + 1 - (i + 1))
            case measure => have := HI.out; omega
            case rel => exact ⟨i + 1, hidP rfl, by go_num, by omega, hidP (by have h1 := HO25.out; have h2 := HXS.out; have h3 := HTS.out; rw [h3]; rw [h2, HTK.out] at h1; unfold lineP; rw [if_neg (by intro h; rw [h] at h0; simp at h0)]; simpa using h1), HB25⟩
          · have g1 : decide (0 < (line.length : Int)) = false := decide_eq_false (by omega)
            have g1n : decide (0 < line.length) = false := decide_eq_false h0
            go_wp2
            go_roundg (l0.length + 1 - (i + 1))
            case measure => have := HI.out; omega
            case rel => exact ⟨i + 1, hidP rfl, by go_num, by omega, hidP (by have h1 := HO.out; have h2 := HXS.out; have h3 := HTS.out; have h4 : line = [] := List.length_eq_zero_iff.mp (by omega); rw [h3]; rw [h2, HTK.out] at h1; rw [h4] at h1 ⊢; simpa [lineP, sepI] using h1), HB⟩
    · have t1 : decide ((i : Int) < (l0.length : Int)) = false := decide_eq_false (by omega)
      have t1n : decide (i < l0.length) = false := decide_eq_false (by omega)
      obtain rfl : i = l0.length := by omega
      have HTK : Hid (l0.take l0.length = l0) := hidP (by simp)
      go_wp2
      go_ret
      exact ⟨_, rfl, by have := HO.out; rw [HTK.out] at this; exact this, HB.out⟩

/-! ### plan_Print: function 12 -/
def plan_Print.f (k : Nat) (l0_0 : List (List Int)) : Option (List Int) := (plan_Sorted.f k l0_0).bind fun t119 => ((scan_Print.f t119).bind fun t122 => (some t122))
theorem plan_Print.mono : ∀ a0 k, LeO (plan_Print.f k a0) (plan_Print.f (k + 1) a0) := by
  intro a0 k
  unfold plan_Print.f
  repeat' first
      | (with_reducible exact plan_Sorted.mono _ _)
      | (with_reducible exact LeO.refl _)
      | (with_reducible exact LeO.none _)
      | (with_reducible refine LeO.ite ?_ ?_)
      | (with_reducible refine LeO.bind ?_ (fun _ => ?_))
      | exact plan_Sorted.mono _ _
      | exact LeO.none _
      | refine LeO.ite ?_ ?_
      | refine LeO.bind ?_ (fun _ => ?_)
set_option maxHeartbeats 8000000 in
set_option maxRecDepth 100000 in
theorem plan_Print.calls (k : Nat) (A0_0 : Option Addr) (c0_0 : Nat) (l0_0 : List (List Int)) (r : List Int) (w : World) (hr0_0 : Kd.C (Kd.slice 3 (Kd.int .i64)) w A0_0 l0_0.length l0_0) (hc0_0 : l0_0.length ≤ c0_0) (h : plan_Print.f k l0_0 = some r) (hT : Go.Proofs.YtdkhajgfifaibaaDoor.Scan.NumTab w) :
    Calls Tryd.prog 12 #[.agg #[.slice A0_0 l0_0.length c0_0]] w fun e w' => ∃ v0_ : Value, e = .returned (v0_) ∧ Kd.R (Kd.int .u8) 5 w' w.heap.size (fun _ => True) v0_ r ∧ Below w.heap.size w w' := by
  have HT := Aside0.mk hT
  clear hT
  have hu24 := Tryd.underlying24
  have HR0_0 := Aside0.mk hr0_0
  have HC0_0 := Aside0.mk hc0_0
  clear hr0_0 hc0_0
  have HB := Aside0.mk (Below.refl w.heap.size w)
  have H : ((plan_Sorted.f k l0_0).bind fun t119 => ((scan_Print.f t119).bind fun t122 => (some t122))) = some r := h
  clear h
  replace H := Option.bind_eq_some_iff.mp H
  obtain ⟨t119, A20, H⟩ := H
  replace H : ((scan_Print.f t119).bind fun t122 => (some t122)) = some r := H
  have A2 := Aside0.mk A20
  clear A20
  replace H := Option.bind_eq_some_iff.mp H
  obtain ⟨t122, A30, H⟩ := H
  replace H : (some t122) = some r := H
  have A3 := Aside0.mk A30
  clear A30
  obtain rfl := Option.some.inj H
  have hfl_ := field0
  go_enter Tryd.func12, Tryd.ntmps12
  go_wp2_with (first | ((with_reducible refine gate_dst (N := 1) rfl ?_); refine box_event ?hg (N := 1) ?hd (cs := #[.slice A0_0 l0_0.length c0_0]) (t := 24) ?hr ?_; (case hd => rfl); (case hg => rfl); (case hr => first | (go_simp; done) | (go_simp; rfl)); intro gb118 hg w4 hbox hb; have n0_ := Aside0.mk (below_step (by repeat (first | (with_reducible first | exact HB.out | apply below_alloc | apply pw_below_drewN | apply below_drew1) | exact HB.out)) hb); have n1_ := Aside0.mk (hbox); have n2_ := Aside0.mk ((by rw [hg]; exact (below_size (by repeat (first | (with_reducible first | exact HB.out | apply below_alloc | apply pw_below_drewN | apply below_drew1) | exact HB.out))) : w.heap.size ≤ gb118)); have n3_ := Aside0.mk ((by rw [hg]; exact (below_size (by repeat (first | (with_reducible first | exact HB.out | apply below_alloc | apply pw_below_drewN | apply below_drew1) | exact HB.out))) : w.heap.size ≤ gb118)); clear HB; have HB := n0_; have BK118 := n1_; have GW118 := n2_; have GE118 := n3_; clear n0_ n1_ n2_ n3_; clear hb hbox hg; have hcz5_0 : w4.cell? ⟨gb118, 0, none⟩ = some (.slice A0_0 l0_0.length c0_0) := (blk_cell BK118.out 0).trans rfl; have hfz5_0 := blk_frozen BK118.out 0) | ((with_reducible refine gate_callee (f := 7) rfl ?_); refine goesL_ (some 4) rfl rfl Tryd.func7 (by kernel_rfl) rfl #[.agg #[.slice A0_0 l0_0.length c0_0]] rfl (by (try simp only [List.map_toArray, List.map_cons, List.map_nil]); first | done | rfl | (simp only [List.length_drop, List.length_take]; rfl)) ?_; (with_reducible refine (plan_Sorted.calls k _ _ l0_0 t119 _ ?side1 ?side2 A2.out).mono ?_); (case side1 => repeat (first | exact (Kd.C_below HR0_0.out HB.out) | (with_reducible refine Kd.C_alloc ?_ _) | (with_reducible refine Kd.C_drewN ?_ _) | (with_reducible refine Kd.C_drew ?_))); (case side2 => exact HC0_0.out); rintro e w6 ⟨v120, rfl, ho0, hb⟩; refine ⟨_, rfl, ?_⟩; have n0_ := Aside0.mk (Kd.S_lower ho0 (below_size (by repeat (first | (with_reducible first | exact HB.out | apply below_alloc | apply pw_below_drewN | apply below_drew1 | refine below_set ?_ GE118.out) | exact HB.out)))); have n1_ := Aside0.mk (blk_below (g := gb118) (o := .cells #[.slice A0_0 l0_0.length c0_0] 24 (0, 0)) (by (with_reducible repeat (first | refine blk_drewN ?_ _ | refine blk_drew ?_ | refine blk_alloc ?_ _)); exact BK118.out) hb); have n2_ := Aside0.mk (below_step (by repeat (first | (with_reducible first | exact HB.out | apply below_alloc | apply pw_below_drewN | apply below_drew1 | refine below_set ?_ GE118.out) | exact HB.out)) hb); clear BK118; clear HB; have HO121 := n0_; have BK118 := n1_; have HB := n2_; clear n0_ n1_ n2_; (try clear hb); (try clear hb2); (try clear hk); (try clear hi); (try clear ho0); obtain ⟨Ao7, co7, eo7⟩ := Kd.S_slice HO121.out; subst eo7) | ((with_reducible refine gate_callee (f := 26) rfl ?_); refine goesL_ (some 6) rfl rfl Tryd.func26 (by kernel_rfl) rfl #[.slice Ao7 t119.length co7] rfl (by (try simp only [List.map_toArray, List.map_cons, List.map_nil]); first | done | rfl | (simp only [List.length_drop, List.length_take]; rfl)) ?_; (with_reducible refine (scan_Print.calls _ _ t119 t122 _ ?side1 ?side2 A3.out ?tab).mono ?_); (case tab => exact HT.out.on (by repeat (first | (with_reducible first | exact HB.out | apply below_alloc | apply pw_below_drewN | apply below_drew1 | refine below_set ?_ GE118.out) | exact HB.out))); (case side1 => repeat (first | exact (Kd.S_reads' HO121.out).2.2 | (with_reducible refine Kd.C_alloc ?_ _) | (with_reducible refine Kd.C_drewN ?_ _) | (with_reducible refine Kd.C_drew ?_))); (case side2 => exact (Kd.S_reads' HO121.out).2.1); rintro e w8 ⟨v123, rfl, ho0, hb⟩; refine ⟨_, rfl, ?_⟩; have n0_ := Aside0.mk (Kd.S_below (by (with_reducible repeat (first | apply Kd.S_alloc | apply Kd.S_drewN | apply Kd.S_drew)); exact HO121.out) hb); have n1_ := Aside0.mk (Kd.R_lower ho0 (below_size (by repeat (first | (with_reducible first | exact HB.out | apply below_alloc | apply pw_below_drewN | apply below_drew1 | refine below_set ?_ GE118.out) | exact HB.out)))); have n2_ := Aside0.mk (blk_below (g := gb118) (o := .cells #[.slice A0_0 l0_0.length c0_0] 24 (0, 0)) (by (with_reducible repeat (first | refine blk_drewN ?_ _ | refine blk_drew ?_ | refine blk_alloc ?_ _)); exact BK118.out) hb); have n3_ := Aside0.mk (below_step (by repeat (first | (with_reducible first | exact HB.out | apply below_alloc | apply pw_below_drewN | apply below_drew1 | refine below_set ?_ GE118.out) | exact HB.out)) hb); clear HO121; clear BK118; clear HB; have HO121 := n0_; have HO124 := n1_; have BK118 := n2_; have HB := n3_; clear n0_ n1_ n2_ n3_; (try clear hb); (try clear hb2); (try clear hk); (try clear hi); (try clear ho0)))
  go_ret
  exact ⟨_, by first | rfl | (simp [errW_none, errW_some] <;> rfl) | (simp [*, errW_none, errW_some] <;> rfl), by (with_reducible repeat (first | apply Kd.R_alloc | apply Kd.R_drewN | apply Kd.R_drew)); exact HO124.out, by repeat (first | (with_reducible first | exact HB.out | apply below_alloc | apply pw_below_drewN | apply below_drew1 | refine below_set ?_ GE118.out) | exact HB.out)⟩

/-- A state of type 70 at block g of W; what its slices lead to came in by w0. -/
def IsS70 (w0 W : World) (g : Nat) (f0 : List Int) (f1 : Int) : Prop := ∃ A0 c0, W.heap[g]? = some (.cells #[.slice A0 f0.length c0, .int .i64 f1] 70 (0, 0)) ∧ w0.heap.size ≤ g ∧ Kd.C (Kd.int .u8) w0 A0 f0.length f0
theorem IsS70.grown {w0 W : World} {g : Nat} {f0 : List Int} {f1 : Int} {W1 : World} {row : Option Nat} (h : IsS70 w0 W g f0 f1) (hw : W.grownBy W1 row) (hne : some g ≠ row) : IsS70 w0 W1 g f0 f1 := by
  obtain ⟨A0, c0, hb, hg, hr0⟩ := h
  exact ⟨A0, c0, blk_grown hb hw hne, hg, hr0⟩
theorem IsS70.own_neN {w0 W : World} {g : Nat} {f0 : List Int} {f1 : Int} {α : Type} {d : Kd α} {e : Nat} {base : Nat} {ok : Nat → Prop} {v : Value} {xs : List α} (h : IsS70 w0 W g f0 f1) (ho : Kd.N d e W base ok v xs) (ht : e ≠ 70) : some g ≠ v.ownBlock := by
  obtain ⟨A0, c0, hb, hg, hr0⟩ := h
  exact Kd.N_ne ho hb ht
theorem IsS70.fresh {w0 W : World} {g : Nat} {f0 : List Int} {f1 : Int} (h : IsS70 w0 W g f0 f1) : ∀ k, W.heap.size ≤ k → k ≠ g := by
  obtain ⟨A0, c0, hb, hg, hr0⟩ := h
  exact Kd.freshB hb
theorem IsS70.kept {w0 W : World} {g : Nat} {f0 : List Int} {f1 : Int} {W1 : World} {S : Nat → Prop} (h : IsS70 w0 W g f0 f1) (hk : Kept W W1 S) (hne : ¬ S g) : IsS70 w0 W1 g f0 f1 := by
  obtain ⟨A0, c0, hb, hg, hr0⟩ := h
  exact ⟨A0, c0, blk_kept hb hk hne, hg, hr0⟩
theorem IsS70.below {w0 W : World} {g : Nat} {f0 : List Int} {f1 : Int} {W1 : World} (h : IsS70 w0 W g f0 f1) (hw : Below W.heap.size W W1) : IsS70 w0 W1 g f0 f1 := h.grown (grown_of_below hw none) (by simp)
theorem IsS70.alloc {w0 W : World} {g : Nat} {f0 : List Int} {f1 : Int} (h : IsS70 w0 W g f0 f1) (o : Obj) : IsS70 w0 (W.alloc o) g f0 f1 := h.below (zqg (Below.refl _ _) o)
theorem IsS70.drewN {w0 W : World} {g : Nat} {f0 : List Int} {f1 : Int} (h : IsS70 w0 W g f0 f1) (m : Nat) : IsS70 w0 (W.drewN m) g f0 f1 := h
theorem IsS70.drew {w0 W : World} {g : Nat} {f0 : List Int} {f1 : Int} (h : IsS70 w0 W g f0 f1) : IsS70 w0 W.drew g f0 f1 := h
theorem IsS70.at_ {w0 W : World} {g : Nat} {f0 : List Int} {f1 : Int} {w' : World} {m : Nat} (hq : W.drewN m = w') (h : IsS70 w0 W g f0 f1) : IsS70 w0 w' g f0 f1 := by subst hq; exact IsS70.drewN h m
theorem IsS70.apart {w0 W : World} {g : Nat} {f0 : List Int} {f1 : Int} {α : Type} {d : Kd α} {e : Nat} {base : Nat} {ok : Nat → Prop} {v : Value} {xs : List α} (h : IsS70 w0 W g f0 f1) (ho : d.R e W base ok v xs) (ht : ∀ q, q ∈ e :: d.E → q ≠ 70) : d.R e W base (fun k => ok k ∧ k ≠ g) v xs := by
  obtain ⟨A0, c0, hb, hg, hr0⟩ := h
  exact Kd.R_types ho hb ht
theorem IsS70.own_ne {w0 W : World} {g : Nat} {f0 : List Int} {f1 : Int} {α : Type} {d : Kd α} {e : Nat} {base : Nat} {ok : Nat → Prop} {v : Value} {xs : List α} (h : IsS70 w0 W g f0 f1) (ho : d.R e W base ok v xs) (ht : e ≠ 70) : some g ≠ v.ownBlock := by
  obtain ⟨A0, c0, hb, hg, hr0⟩ := h
  exact Kd.R_ne ho hb ht
theorem IsS70.apartQ {w0 W : World} {g : Nat} {f0 : List Int} {f1 : Int} {α : Type} {d : Kd α} {e : Nat} {base : Nat} {ok : Nat → Prop} {v : Value} {xs : List α} (h : IsS70 w0 W g f0 f1) (ho : d.Q e W base ok v xs) (ht : ∀ q, q ∈ e :: d.E → q ≠ 70) : d.Q e W base (fun k => ok k ∧ k ≠ g) v xs := by
  obtain ⟨A0, c0, hb, hg, hr0⟩ := h
  exact Kd.Q_types ho hb ht
theorem IsS70.own_neQ {w0 W : World} {g : Nat} {f0 : List Int} {f1 : Int} {α : Type} {d : Kd α} {e : Nat} {base : Nat} {ok : Nat → Prop} {v : Value} {xs : List α} (h : IsS70 w0 W g f0 f1) (ho : d.Q e W base ok v xs) (ht : e ≠ 70) : some g ≠ v.ownBlock := by
  obtain ⟨A0, c0, hb, hg, hr0⟩ := h
  exact Kd.Q_ne ho hb ht
theorem IsS70.apartS {w0 W : World} {g : Nat} {f0 : List Int} {f1 : Int} {α : Type} {d : Kd α} {e : Nat} {base : Nat} {ok : Nat → Prop} {v : Value} {xs : List α} (h : IsS70 w0 W g f0 f1) (ho : d.S e W base ok v xs) (ht : ∀ q, q ∈ e :: d.E → q ≠ 70) : d.S e W base (fun k => ok k ∧ k ≠ g) v xs := by
  obtain ⟨A0, c0, hb, hg, hr0⟩ := h
  exact Kd.S_types ho hb ht
theorem IsS70.own_neS {w0 W : World} {g : Nat} {f0 : List Int} {f1 : Int} {α : Type} {d : Kd α} {e : Nat} {base : Nat} {ok : Nat → Prop} {v : Value} {xs : List α} (h : IsS70 w0 W g f0 f1) (ho : d.S e W base ok v xs) (ht : e ≠ 70) : some g ≠ v.ownBlock := by
  obtain ⟨A0, c0, hb, hg, hr0⟩ := h
  exact Kd.S_ne ho hb ht
theorem IsS70.lt {w0 W : World} {g : Nat} {f0 : List Int} {f1 : Int} (h : IsS70 w0 W g f0 f1) : g < W.heap.size := by
  obtain ⟨A0, c0, hb, hg, hr0⟩ := h
  exact blk_lt hb
theorem IsS70.ge {w0 W : World} {g : Nat} {f0 : List Int} {f1 : Int} (h : IsS70 w0 W g f0 f1) : w0.heap.size ≤ g := by
  obtain ⟨A0, c0, hb, hg, hr0⟩ := h
  exact hg
theorem IsS70.ne_blk {w0 W : World} {g : Nat} {f0 : List Int} {f1 : Int} {a : Nat} {cs : Array Value} {t : TypeId} {fr : Nat × Nat} (h : IsS70 w0 W g f0 f1) (hb2 : W.heap[a]? = some (.cells cs t fr)) (ht : t ≠ 70) : g ≠ a := by
  obtain ⟨A0, c0, hb, hg, hr0⟩ := h
  rintro rfl
  rw [hb] at hb2
  injection hb2 with hb2
  injection hb2 with _ ht2
  exact ht ht2.symm
theorem IsS70.far {w0 W : World} {g : Nat} {f0 : List Int} {f1 : Int} {p : Addr} (h : IsS70 w0 W g f0 f1) (hne : g ≠ p.block) (u : Value) : IsS70 w0 (W.setCell p u) g f0 f1 := by
  obtain ⟨A0, c0, hb, hg, hr0⟩ := h
  exact ⟨A0, c0, blk_far hb hne u, hg, hr0⟩
theorem cellS70_0 {W : World} {g : Nat} {A0 : Option Addr} {c0 : Nat} {f0 : List Int} {f1 : Int} (h : W.heap[g]? = some (.cells #[.slice A0 f0.length c0, .int .i64 f1] 70 (0, 0))) : W.cell? ⟨g, 0, none⟩ = some (.slice A0 f0.length c0) := (zqe h 0).trans rfl
theorem cellS70_1 {W : World} {g : Nat} {A0 : Option Addr} {c0 : Nat} {f0 : List Int} {f1 : Int} (h : W.heap[g]? = some (.cells #[.slice A0 f0.length c0, .int .i64 f1] 70 (0, 0))) : W.cell? ⟨g, 1, none⟩ = some (.int .i64 f1) := (zqe h 1).trans rfl
theorem IsS70.set_1 {w0 W : World} {g : Nat} {f0 : List Int} {f1 : Int} (h : IsS70 w0 W g f0 f1) (x : Int) : IsS70 w0 (W.setCell ⟨g, 1, none⟩ (.int .i64 x)) g f0 x := by
  obtain ⟨A0, c0, hb, hg, hr0⟩ := h
  exact ⟨A0, c0, by simpa using blk_set hb 1 (.int .i64 x), hg, hr0⟩
theorem IsS70.new (w0 W : World) (A0 : Option Addr) (c0 : Nat) (f0 : List Int) (f1 : Int) (hB : Below w0.heap.size w0 W) (hr0 : Kd.C (Kd.int .u8) w0 A0 f0.length f0) : IsS70 w0 (W.alloc (.cells #[.slice A0 f0.length c0, .int .i64 f1] 70)) W.heap.size f0 f1 := ⟨A0, c0, by simpa using heap_alloc_new W _, hB.size, hr0⟩

/-! ### scan_reader_now: function 52 -/
def scan_reader_now.f (s0_0 : List Int) (s0_1 : Int) : Option (Int × Int) := if s0_1 ≥ (s0_0.length : Int) then (some (10, s0_1)) else (if 0 ≤ s0_1 then (if s0_1 < (s0_0.length : Int) then (some (rd s0_0 s0_1, s0_1)) else (none)) else (none))
set_option maxHeartbeats 16000000 in
set_option maxRecDepth 100000 in
theorem scan_reader_now.calls (g : Nat) (s0_0 : List Int) (s0_1 : Int) (r1 : Int) (r2 : Int) (w0 w : World) (hI : IsS70 w0 w g s0_0 s0_1) (hB : Below w0.heap.size w0 w) (h : scan_reader_now.f s0_0 s0_1 = some (r1, r2)) :
  Calls Tryd.prog 52 #[.pointer (some ⟨g, 0, none⟩)] w fun e w' => e = .returned (.int .u8 r1) ∧ IsS70 w0 w' g s0_0 r2 ∧ Below w0.heap.size w0 w' ∧ KeepBut w w' g none := by
 have HI0 := zqi hI
 have HK := zqi (KeepBut.refl w g none)
 have HL := zqi hB.size
 clear hI
 have HW0 := zqi hB.size
 have HB := zqi hB
 clear hB
 have H : (if s0_1 ≥ (s0_0.length : Int) then (some (10, s0_1)) else (if 0 ≤ s0_1 then (if s0_1 < (s0_0.length : Int) then (some (rd s0_0 s0_1, s0_1)) else (none)) else (none))) = some (r1, r2) := h
 clear h
 by_cases c2 : s0_1 ≥ (s0_0.length : Int)
 ·
  rw [if_pos c2] at H
  have c2b0 : decide ((s0_0.length : Int) ≤ s0_1) = true := decide_eq_true c2
  clear c2
  simp only [Option.some.injEq, Prod.mk.injEq] at H
  obtain ⟨rfl, rfl⟩ := H
  obtain ⟨ASz3_0, cSz3_0, HGz3, hgz3, HSz3_0⟩ := HI0.out
  have hcz3_0 := cellS70_0 HGz3
  have hcz3_1 := cellS70_1 HGz3
  have hfz3_1 := zqd HGz3 1
  clear HGz3 hgz3
  go_enter Tryd.func52, Tryd.ntmps52
  go_wp2
  repeat (go_quiet (fail); try go_wp2)
  go_ret
  exact ⟨by first | rfl | (simp [errW_none, errW_some] <;> rfl) | (simp [*, errW_none, errW_some] <;> rfl), by repeat (first | (with_reducible first | exact HI0.out | apply IsS70.alloc | apply IsS70.drewN | apply IsS70.drew | apply IsS70.set_1) | exact HI0.out), by repeat (first | (with_reducible first | exact HB.out | apply zqg | apply zqf | apply zqh | refine below_set ?_ (IsS70.ge HI0.out)) | exact HB.out), by repeat (first | (with_reducible first | exact HK.out | apply KeepBut.set_ | apply keep_drewN | apply keep_drew | apply keep_alloc) | exact HK.out)⟩
 ·
  rw [if_neg c2] at H
  have c2b0 : decide ((s0_0.length : Int) ≤ s0_1) = false := decide_eq_false c2
  clear c2
  by_cases c4 : 0 ≤ s0_1
  ·
   rw [if_pos c4] at H
   have c4b0 : decide (0 ≤ s0_1) = true := decide_eq_true c4
   clear c4
   by_cases c5 : s0_1 < (s0_0.length : Int)
   ·
    rw [if_pos c5] at H
    have c5b0 : decide (s0_1 < (s0_0.length : Int)) = true := decide_eq_true c5
    clear c5
    simp only [Option.some.injEq, Prod.mk.injEq] at H
    obtain ⟨rfl, rfl⟩ := H
    obtain ⟨ASz6_0, cSz6_0, HGz6, hgz6, HSz6_0⟩ := HI0.out
    have hcz6_0 := cellS70_0 HGz6
    have hcz6_1 := cellS70_1 HGz6
    have hfz6_1 := zqd HGz6 1
    clear HGz6 hgz6
    have p125 : 0 ≤ (s0_1 : Int) := of_decide_eq_true (by first | (with_reducible assumption) | assumption)
    have q125 : s0_1 < (s0_0.length : Int) := of_decide_eq_true (by first | (with_reducible assumption) | assumption)
    obtain ⟨ad125, e125, hx125_0⟩ := Kd.at_int HSz6_0 s0_1 p125 q125
    cases e125
    replace hx125_0 := pw_cell_below HB.out hx125_0
    replace p125 := eq_true p125
    replace q125 := eq_true q125
    go_enter Tryd.func52, Tryd.ntmps52
    go_wp2
    repeat (go_quiet (fail); try go_wp2)
    go_ret
    exact ⟨by first | rfl | (simp [errW_none, errW_some] <;> rfl) | (simp [*, errW_none, errW_some] <;> rfl), by repeat (first | (with_reducible first | exact HI0.out | apply IsS70.alloc | apply IsS70.drewN | apply IsS70.drew | apply IsS70.set_1) | exact HI0.out), by repeat (first | (with_reducible first | exact HB.out | apply zqg | apply zqf | apply zqh | refine below_set ?_ (IsS70.ge HI0.out)) | exact HB.out), by repeat (first | (with_reducible first | exact HK.out | apply KeepBut.set_ | apply keep_drewN | apply keep_drew | apply keep_alloc) | exact HK.out)⟩
   ·
    rw [if_neg c5] at H
    exact absurd H (by simp)
  ·
   rw [if_neg c4] at H
   exact absurd H (by simp)

/-! ### scan_digit: function 53 -/
def scan_digit.f (a0 : Int) : Option (Bool) := if a0 ≥ 48 then (some (decide (a0 ≤ 57))) else (some false)
set_option maxHeartbeats 8000000 in
set_option maxRecDepth 100000 in
theorem scan_digit.calls (a0 : Int) (r : Bool) (w : World) (h : scan_digit.f a0 = some r) :
    Calls Tryd.prog 53 #[.int .u8 a0] w fun e w' => e = .returned (.bool r) ∧ Drawn0 w w' := by
  have H : (if a0 ≥ 48 then (some (decide (a0 ≤ 57))) else (some false)) = some r := h
  clear h
  by_cases c2 : a0 ≥ 48
  · rw [if_pos c2] at H
    have c2b0 : decide (48 ≤ a0) = true := decide_eq_true c2
    clear c2
    obtain rfl := Option.some.inj H
    go_enter Tryd.func53, Tryd.ntmps53
    go_wp2
    go_ret
    exact ⟨by first | rfl | (simp; done) | (simp [*]; done), by repeat (first | exact Drawn0.refl _ | apply Drawn0.step)⟩
  · rw [if_neg c2] at H
    have c2b0 : decide (48 ≤ a0) = false := decide_eq_false c2
    clear c2
    obtain rfl := Option.some.inj H
    go_enter Tryd.func53, Tryd.ntmps53
    go_wp2
    go_ret
    exact ⟨by first | rfl | (simp; done) | (simp [*]; done), by repeat (first | exact Drawn0.refl _ | apply Drawn0.step)⟩

end Go.Proofs.YtdkhajgfifaibaaDoor.PA
